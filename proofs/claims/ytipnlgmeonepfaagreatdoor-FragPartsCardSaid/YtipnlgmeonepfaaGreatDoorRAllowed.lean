/- The reference's rules and signs as lists, and whether a match of a rule counts. -/
import Derived.Test.YtipnlgmeonepfaaGreatDoorRRules
import Derived.StillTailTactics
set_option linter.unusedVariables false
set_option linter.unusedSimpArgs false
namespace Go.Proofs.YtipnlgmeonepfaaGreatDoor.Ref
open Go.RowKit Go.Proofs.YtipnlgmeonepfaaGreatDoorW.PrintWords Go.Proofs.YtipnlgmeonepfaaGreatDoorW.PrintMore
attribute [local go_sem] max2_int min2_int max_two min_two max_three min_three max_four min_four

def patB (p:List (Nat×Bool)):ByteArray:=⟨(text p.reverse).toArray⟩
theorem patB_list (p:List (Nat×Bool)):(patB p).data.toList=text p.reverse:=by simp [patB]
def good (p:List (Nat×Bool)):Bool:=(match p.reverse with|(_,false)::_=>true|_=>false)&&p.all (fun x=>decide (x.1<256)&&x.1 !=42)&&decide (p.length≤400)
theorem text_len: ∀p:List (Nat×Bool),(text p).length≤2*p.length
 |[]=>Nat.le_refl _
 |(c,true)::p=>by have:=text_len p;simp only [text,List.length_cons];omega
 |(c,false)::p=>by have:=text_len p;simp only [text,List.length_cons];omega
theorem longest_at {p:List (Nat×Bool)} (hg:good p=true) (s:ByteArray) (hs:s.size≤1000) (w:World):
  Calls Tryz.prog 150 #[.string (patB p),.string s] w fun e w'=>e=.returned (.int .i64 (Lx.lng p s.data.toList))∧Below w.heap.size w w':=by
 unfold good at hg
 rw [Bool.and_eq_true,Bool.and_eq_true,decide_eq_true_eq] at hg
 obtain ⟨⟨h1,h2⟩,h3⟩:=hg
 obtain ⟨c,q0,hrev⟩: ∃c q0,p.reverse=(c,false)::q0:=by
  cases hp:p.reverse with
  |nil=>rw [hp] at h1;cases h1
  |cons x q=>
   obtain ⟨c,b⟩:=x
   cases b with
   |false=>exact ⟨c,q,rfl⟩
   |true=>rw [hp] at h1;cases h1
 have hsz:(patB p).size≤1000:=by
  have h4:(patB p).size=(text p.reverse).length:=by simp [patB,ByteArray.size]
  have h5:=text_len p.reverse
  rw [List.length_reverse] at h5
  omega
 refine longest_walk (patB p) s c p q0 hrev (patB_list p) (fun x hx=> ?_) hsz hs w
 have:=List.all_eq_true.1 h2 x hx
 simpa using this
def ruleCells (l:List (Nat×List (Nat×Bool))):List Value:=l.flatMap fun r=>[.int .i64 (r.1:Int),.string (patB r.2)]
theorem rules_good: ∀r∈Lx.rulesP,good r.2=true:=by decide+kernel
theorem plain_good: ∀p∈Lx.plainPats,good p=true:=by decide+kernel
theorem rules_cells:acc 4++[.int .i64 2,.string ⟨#[68,68,42]⟩,.int .i64 2,.string ⟨#[45,68,68,42]⟩,.int .i64 4,.string ⟨#[35,116]⟩,.int .i64 4,.string ⟨#[35,102]⟩]=ruleCells Lx.rulesP:=by kernel_rfl
theorem plain_cells:plainCells=(Lx.plainPats.map fun p=>Value.string (patB p)).toArray:=by kernel_rfl
def signCells:Array Value:=(([[40],[41],[91],[93],[123],[125],[44],[59],[46],[61],[60],[62],[43],[45],[42],[47],[38],[124],[126],[63],[58,61],[58,58],[61,62],[61,61],[60,61],[62,61]]:List (List UInt8)).map fun l=>Value.string ⟨l.toArray⟩).toArray
theorem signs_walk (w:World):
  Calls Tryz.prog 153 #[] w fun e w'=>e=.returned (.slice (some ⟨w.heap.size,0,none⟩) 26 26)∧w'=w.alloc (.cells signCells 9):=by
 go_enter Tryz.func153,Tryz.ntmps153
 go_wp2
 go_ret
 exact ⟨rfl,rfl⟩
theorem sign_cells:signCells=(Lx.signsP.map fun l=>Value.string ⟨l.toArray⟩).toArray:=by kernel_rfl
theorem same' {P:Program} {f:FuncId} {args:Array Value} {w:World} {v:Value} (h:Calls P f args w fun e w'=>e=.returned v∧w=w'):Calls P f args w fun e w'=>e=.returned v∧w'=w:=
 h.mono fun _ _ ⟨a,b⟩=>⟨a,b.symm⟩

theorem findN_58 (l:List UInt8): ∀i,findN l 58 i=match Lx.find58 l i with|none=> -1|some j=>(j:Int):=by
 induction l with
 |nil=>intro i;rfl
 |cons c t ih=>
  intro i
  unfold findN Lx.find58
  by_cases h:c.toNat=58
  ·rw [if_pos h,if_pos h]
  ·rw [if_neg h,if_neg h,ih]
theorem find58_lt: ∀(l:List UInt8) (i j:Nat),Lx.find58 l i=some j→i≤j∧j<i+l.length
 |[],_,_,h=>by simp [Lx.find58] at h
 |c::t,i,j,h=>by
  unfold Lx.find58 at h
  split at h
  ·injection h with h;subst h;simp
  ·have:=find58_lt t (i+1) j h
   simp only [List.length_cons]
   omega
theorem after_drop (l:List UInt8) (a j:Nat):Lx.after (l.drop a) j=Lx.after l (a+j):=by
 unfold Lx.after
 rw [Lx.byteAt_drop,show a+(j+1)=a+j+1 from by omega]
def One (v:Value) (w:World) (e:Ending) (w':World):Prop:=e=.returned v∧Below w.heap.size w w'
set_option maxHeartbeats 3200000 in
set_option maxRecDepth 100000 in
theorem allowed_walk (k:Nat) (p:List (Nat×Bool)) (hg:good p=true) (text:ByteArray) (at_:Nat) (hs:text.size≤20000) (hl:at_≤text.size) (w:World):
  Calls Tryz.prog 152 #[.agg #[.int .i64 k,.string (patB p)],.string text,.int .i64 at_] w (One (.bool (Lx.allowedP (text.data.toList.drop at_) (k,p))) w):=by
 obtain ⟨n,hn⟩: ∃n,Lx.lng p (Lx.win (text.data.toList.drop at_))=n:=⟨_,rfl⟩
 obtain ⟨b,hb⟩: ∃b,Lx.allowedP (text.data.toList.drop at_) (k,p)=b:=⟨_,rfl⟩
 have hbs:(beginN text at_).size≤1000:=by
  have:=congrArg List.length (begin_list text at_ hl)
  rw [data_length] at this
  unfold Lx.win at this
  rw [List.length_take] at this
  omega
 have hlong:Hid (∀w:World,Calls Tryz.prog 150 #[.string (patB p),.string (beginN text at_)] w fun e w'=>e=.returned (.int .i64 n)∧Below w.heap.size w w'):=Lib.hid fun w=>by
  have:=longest_at hg (beginN text at_) hbs w
  rw [begin_list text at_ hl,hn] at this
  exact this
 have hnle:n≤100∧at_+n≤text.size:=by
  have:=Lx.lng_le p (Lx.win (text.data.toList.drop at_))
  rw [hn] at this
  unfold Lx.win at this
  rw [List.length_take,List.length_drop,data_length] at this
  omega
 have HB:Hid (b=if n=0 then false else if k=3 then !Lx.after text.data.toList (at_+n-1) else if k=6 then Lx.okVar (text.data.toList.drop at_) n else true):=Lib.hid (by
  rw [←hb]
  unfold Lx.allowedP
  dsimp only
  rw [hn]
  by_cases h0:n=0
  ·rw [if_pos h0,if_pos h0]
  ·rw [if_neg h0,if_neg h0,after_drop,show at_+(n-1)=at_+n-1 from by omega])
 rw [hb]
 obtain ⟨hn1,hn2⟩:=hnle
 clear hb hn hbs
 go_enter Tryz.func152,Tryz.ntmps152
 go_wp2
 obtain ⟨W1,hW1⟩: ∃W1,w.alloc (.cells #[.int .i64 k,.string (patB p)] 180)=W1:=⟨_,rfl⟩
 rw [hW1]
 have hbox:Hid (W1.heap[w.heap.size]? =some (.cells #[.int .i64 k,.string (patB p)] 180 (0,0))):=Lib.hid (hW1▸blk_new w _)
 have HW1:Hid (Below w.heap.size w W1):=Lib.hid (hW1▸below_alloc (Below.refl _ _) _)
 clear hW1
 go_cut [7] (fun v7 wc=>v7=.int .i64 n∧Hid (wc.heap[w.heap.size]? =some (.cells #[.int .i64 k,.string (patB p)] 180 (0,0)))∧Hid (Below w.heap.size w wc))
 case first=>
  have c1:W1.cell? ⟨w.heap.size,1,none⟩=some (.string (patB p)):=blk_cell hbox.out 1
  refine wp_region_still_tail 5 (by kernel_rfl) (by kernel_rfl) ?_
  simp only [List.take_succ_cons,List.take_zero,List.drop_succ_cons,List.drop_zero]
  still_step
  still_step
  still_step
  still_step
  still_call (same' (begins_walk text at_ hs hl _))
  repeat still_step
  try refine wpStill_nil ?_
  go_wp2_with (go_at_call 150;refine (hlong.out _).mono ?_;rintro e w1 ⟨rfl,hb1⟩;have HB1:=Lib.hid hb1;clear hb1)
  go_meet
  case rel=>exact ⟨rfl,Lib.hid (blk_below (blk_drew hbox.out) HB1.out),Lib.hid (HW1.out.drew.trans (HB1.out.mono HW1.out.size))⟩
 case rest=>
  obtain ⟨rfl,hbx,HWc⟩:=hcut
  clear hbox HW1 hlong
  have c0:wc.cell? ⟨w.heap.size,0,none⟩=some (.int .i64 k):=blk_cell hbx.out 0
  by_cases h0:n=0
  ·have hd0:((n:Int)==0)=true:=by rw [beq_iff_eq];omega
   have HF:Hid (b=false):=Lib.hid (by rw [HB.out,if_pos h0])
   clear HB h0
   go_wp2
   go_ret
   exact ⟨by rw [HF.out];rfl,HWc.out⟩
  ·have hd0:((n:Int)==0)=false:=by rw [beq_eq_false_iff_ne];omega
   have hw1:IntKind.i64.wrap ((at_:Int)+n)=(at_:Int)+n:=IntWalk.i64_in _ (by omega)
   have hw2:IntKind.i64.wrap ((at_:Int)+n-1)=((at_+n-1:Nat):Int):=by rw [IntWalk.i64_in _ (by omega)];omega
   have HB':Hid (b=if k=3 then !Lx.after text.data.toList (at_+n-1) else if k=6 then Lx.okVar (text.data.toList.drop at_) n else true):=Lib.hid (by rw [HB.out,if_neg h0])
   clear HB h0
   by_cases h3:k=3
   ·have hd3:((k:Int)==3)=true:=by rw [beq_iff_eq];omega
    have HF:Hid (b= !Lx.after text.data.toList (at_+n-1)):=Lib.hid (by rw [HB'.out,if_pos h3])
    clear HB' h3
    go_wp2_with (go_at_call 163;refine (colon_walk text (at_+n-1) hs (by omega) _).mono ?_;rintro e w1 ⟨rfl,rfl⟩)
    go_ret
    exact ⟨by rw [HF.out];rfl,HWc.out⟩
   ·have hd3:((k:Int)==3)=false:=by rw [beq_eq_false_iff_ne];omega
    by_cases h6:k=6
    ·have hd6:((k:Int)==6)=true:=by rw [beq_iff_eq];omega
     have HF:Hid (b=Lx.okVar (text.data.toList.drop at_) n):=Lib.hid (by rw [HB'.out,if_neg h3,if_pos h6])
     obtain ⟨T,hT⟩: ∃T,text.extract at_ (at_+n)=T:=⟨_,rfl⟩
     have hi1:(0:Int)≤at_:=by omega
     have hi2:(at_:Int)≤(at_:Int)+n:=by omega
     have hi3:(at_:Int)+n≤text.size:=by omega
     have ht1:((at_:Int)+n).toNat=at_+n:=by omega
     have HT:Hid (T.data.toList=(text.data.toList.drop at_).take n):=Lib.hid (by rw [←hT,Lib.extract_data,show at_+n-at_=n from by omega])
     have hTs:T.size≤20000:=by
      have:=congrArg List.length HT.out
      rw [data_length,List.length_take] at this
      omega
     cases hf:Lx.find58 ((text.data.toList.drop at_).take n) 0 with
     |none=>
      have hfn:Hid (findN T.data.toList 58 0= -1):=Lib.hid (by rw [HT.out,findN_58,hf])
      have HG:Hid (b=true):=Lib.hid (by rw [HF.out];unfold Lx.okVar;rw [hf])
      have hfind:Hid (∀w:World,Calls Tryz.prog 108 #[.string T,.int .u8 58] w fun e w'=>e=.returned (.int .i64 (-1))∧w=w'):=Lib.hid fun w=>by
       have:=find_walk T 58 hTs w
       rw [hfn.out] at this
       exact this
      clear HB' h3 h6 HF hf
      go_wp2_with (go_at_call 108;refine (hfind.out _).mono ?_;rintro e w1 ⟨rfl,rfl⟩)
      go_ret
      exact ⟨by rw [HG.out];rfl,HWc.out⟩
     |some j=>
      have hjl:=find58_lt _ _ _ hf
      have hjn:j<n:=by
       have:((text.data.toList.drop at_).take n).length≤n:=List.length_take_le _ _
       omega
      have hfn:Hid (findN T.data.toList 58 0=(j:Int)):=Lib.hid (by rw [HT.out,findN_58,hf])
      have HG:Hid (b= !Lx.after text.data.toList (at_+j)):=Lib.hid (by rw [HF.out];unfold Lx.okVar;rw [hf];dsimp only;rw [after_drop])
      have hfind:Hid (∀w:World,Calls Tryz.prog 108 #[.string T,.int .u8 58] w fun e w'=>e=.returned (.int .i64 (j:Int))∧w=w'):=Lib.hid fun w=>by
       have:=find_walk T 58 hTs w
       rw [hfn.out] at this
       exact this
      have hd7:decide ((j:Int)<0)=false:=decide_eq_false (by omega)
      have hw3:IntKind.i64.wrap ((at_:Int)+j)=((at_+j:Nat):Int):=by rw [IntWalk.i64_in _ (by omega)];omega
      clear HB' h3 h6 HF hf hjl
      go_wp2_with (first|(go_at_call 108;refine (hfind.out _).mono ?_;rintro e w1 ⟨rfl,rfl⟩)|(go_at_call 163;refine (colon_walk text (at_+j) hs (by omega) _).mono ?_;rintro e w1 ⟨rfl,rfl⟩))
      go_ret
      exact ⟨by rw [HG.out];rfl,HWc.out⟩
    ·have hd6:((k:Int)==6)=false:=by rw [beq_eq_false_iff_ne];omega
     have HF:Hid (b=true):=Lib.hid (by rw [HB'.out,if_neg h3,if_neg h6])
     clear HB' h3 h6
     go_wp2
     go_ret
     exact ⟨by rw [HF.out];rfl,HWc.out⟩
end Go.Proofs.YtipnlgmeonepfaaGreatDoor.Ref
