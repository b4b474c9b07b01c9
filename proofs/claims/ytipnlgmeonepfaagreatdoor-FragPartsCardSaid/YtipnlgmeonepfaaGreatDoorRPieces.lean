/- The reference's piece is the program's next piece. The reference's piece, walked: it is the program's next piece. The reference's Pieces, walked: they are the program's. -/
import Derived.Test.YtipnlgmeonepfaaGreatDoorRBest4
import Derived.Test.YtipnlgmeonepfaaGreatDoorLxLocal
import Derived.Test.YtipnlgmeonepfaaGreatDoorRBestW
import Derived.Test.YtipnlgmeonepfaaGreatDoorRNumW
import Derived.Test.YtipnlgmeonepfaaGreatDoorLxExt
set_option linter.unusedVariables false
set_option linter.unusedSimpArgs false
namespace Go.Proofs.YtipnlgmeonepfaaGreatDoor.Lx
open Go

theorem win_at (v:List UInt8) (j:Nat) (h:j<100):byteAt (win v) j=byteAt v j:=byteAt_take v h
/-- Ahead of a # no rule but the hash words' takes anything. -/
theorem hash_only (op:Bool) (c:UInt8) (t:List UInt8) (hc:c.toNat=35): ∀k∈[1,2,3,5,6],takes op (c::t) k=0:=by
 have hp:plain (c::t)=0:=by
  show (if (cL c.toNat||cB c.toNat)=true then _ else 0)=0
  rw [hc,if_neg (by decide)]
 have hpre: ∀(a:UInt8) (r:List UInt8),a.toNat≠35→pre (a::r) (c::t)=false:=fun a r ha=>by
  unfold pre
  rw [List.isPrefixOf]
  have:(a==c)=false:=by
   rw [beq_eq_false_iff_ne]
   intro e
   exact ha (by rw [e,hc])
  rw [this,Bool.false_and]
 intro k hk
 simp only [List.mem_cons,List.not_mem_nil,or_false] at hk
 rcases hk with rfl|rfl|rfl|rfl|rfl
 ·show name (c::t)=0
  unfold name
  rw [hp,if_neg (by decide)]
 ·show integer op (c::t)=0
  have hm:minus op (c::t)=0:=by
   unfold minus
   rw [hpre 45 [] (by decide),if_neg (by simp)]
  have ha:allN cD (c::t)=0:=by
   show (if cD c.toNat=true then _ else 0)=0
   rw [hc,if_neg (by decide)]
  unfold integer
  rw [hm,List.drop_zero,ha,if_neg (by omega)]
 ·show keyword (c::t)=0
  unfold keyword
  rw [hp,if_neg (by simp)]
 ·show sign (c::t)=0
  unfold sign
  have:sign2.any (fun p=>pre p (c::t))=false:=by
   rw [List.any_eq_false]
   intro p hp
   simp only [sign2,List.mem_cons,List.not_mem_nil,or_false] at hp
   rcases hp with rfl|rfl|rfl|rfl|rfl|rfl<;>rw [hpre _ _ (by decide)]<;>simp
  rw [this,if_neg (by decide)]
  show (if cSign c.toNat=true then 1 else 0)=0
  rw [hc,if_neg (by decide)]
 ·show (if c.toNat=63 then _ else 0)=0
  rw [if_neg (by omega)]
theorem hash_first {s:List UInt8} (h:0<hash s):byteAt s 0=35∧hash s=2:=by
 unfold hash at h⊢
 split at h
 ·rename_i hp
  rw [if_pos hp]
  refine ⟨?_,rfl⟩
  rw [Bool.or_eq_true] at hp
  rcases hp with hp|hp
  ·obtain ⟨r,hr⟩:=pre2 hp
   rw [hr];rfl
  ·obtain ⟨r,hr⟩:=pre2 hp
   rw [hr];rfl
 ·omega
theorem hash_kind (op:Bool) (s:List UInt8):(byteAt s 0=35→(longest op s).1=0∨(longest op s).1=4)∧((longest op s).1=4→byteAt s 0=35∧(longest op s).2=2):=by
 obtain ⟨k,n,h⟩: ∃k n,longest op s=(k,n):=⟨_,_,rfl⟩
 rw [h]
 have hpos:=longest_pos op s
 rw [h] at hpos
 constructor
 ·intro h35
  by_cases hk:k=0
  ·exact .inl hk
  ·right
   obtain ⟨h1,h2,h3⟩:=longest_is h hk
   have h4:=hpos hk
   cases s with
   |nil=>exact absurd (show (0:Nat)=35 from h35) (by decide)
   |cons c t=>
    have h0:=hash_only op c t h35
    have hk':k=1∨k=2∨k=3∨k=4∨k=5∨k=6:=by simpa using h1
    dsimp only at h4
    rcases hk' with rfl|rfl|rfl|rfl|rfl|rfl
    ·have:=h0 1 (by decide);omega
    ·have:=h0 2 (by decide);omega
    ·have:=h0 3 (by decide);omega
    ·rfl
    ·have:=h0 5 (by decide);omega
    ·have:=h0 6 (by decide);omega
 ·rintro rfl
  obtain ⟨h1,h2,h3⟩:=longest_is h (by decide)
  have h4:=hpos (by show (4:Nat)≠0;decide)
  have h5:hash s=n:=h3
  dsimp only at h4
  have:=hash_first (s:=s) (by omega)
  exact ⟨this.1,by omega⟩
theorem name_first (op:Bool) (s:List UInt8) (h:(longest op s).1=1∨(longest op s).1=3):byteAt s 0≠35:=by
 intro h35
 rcases (hash_kind op s).1 h35 with e|e<;>omega
/-- The reference's error of the best token. -/
def refE (v:List UInt8) (bk bn:Nat):Int:=
 if bk=2 then (if 100≤bn∨cL (byteAt v bn)=true∨cTail (byteAt v bn)=true then 11 else if valB (v.take bn)=true then 0 else 11)
 else if byteAt v 0=35∧(bk=0∨cW (byteAt v 2)=true) then 12
 else if bk=0 then 10
 else if bk≠5∧40<bn then 2
 else 0
theorem tail0:cTail 0=false:=by decide
theorem refE_check (op:Bool) (v:List UInt8):refE v (longest op (win v)).1 (longest op (win v)).2=check v (longest op (win v)).1 (longest op (win v)).2:=by
 have hkind:=hash_kind op (win v)
 rw [win_at v 0 (by omega)] at hkind
 have hk6:=(longest_inv op (win v)).1
 obtain ⟨k,n,h⟩: ∃k n,longest op (win v)=(k,n):=⟨_,_,rfl⟩
 rw [h] at hkind hk6⊢
 dsimp only at hkind hk6⊢
 unfold refE check
 have hcase:k=0∨k=1∨k=2∨k=3∨k=4∨k=5∨k=6:=by omega
 have hpre35:pre [35] v=true↔byteAt v 0=35:=by
  cases v with
  |nil=>simp [pre,byteAt]
  |cons c t=>
   simp only [pre,List.isPrefixOf,Bool.and_true,beq_iff_eq]
   constructor
   ·intro e;rw [←e];rfl
   ·intro e;exact UInt8.toNat_inj.1 (show (35:UInt8).toNat=c.toNat from by rw [show c.toNat=35 from e];rfl)
 rcases hcase with rfl|rfl|rfl|rfl|rfl|rfl|rfl
 ·by_cases h35:byteAt v 0=35
  ·simp [h35,hpre35.2 h35]
  ·have:pre [35] v=false:=by rw [←Bool.not_eq_true,hpre35];exact h35
   simp [h35,this]
 ·have:byteAt v 0≠35:=fun e=>by rcases hkind.1 e with h|h<;>omega
  simp [this]
 ·simp only [if_true]
  by_cases hv:valB (v.take n)=true
  ·by_cases hb:byteAt v n=0
   ·simp [hv,hb,tail0]
   ·simp [hv,hb]
  ·have hv':valB (v.take n)=false:=by simpa using hv
   simp [hv']
 ·have:byteAt v 0≠35:=fun e=>by rcases hkind.1 e with h|h<;>omega
  simp [this]
 ·obtain ⟨h1,h2⟩:=hkind.2 rfl
  subst h2
  simp [h1]
 ·have:byteAt v 0≠35:=fun e=>by rcases hkind.1 e with h|h<;>omega
  simp [this]
 ·have:byteAt v 0≠35:=fun e=>by rcases hkind.1 e with h|h<;>omega
  simp [this]
/-- What the reference's piece hands back: where no comment and no blank stands. -/
theorem next_ref (op:Bool) (v:List UInt8) (h1:(pre [47,47] v||pre [47,42] v)=false) (h2:cBlank (byteAt v 0)=false):
  next op v=if refE v (bestP v op).1 (bestP v op).2=0 then .ok (bestP v op) else .error (refE v (bestP v op).1 (bestP v op).2):=by
 have hn:next op v=checked v (longest op (win v)):=by
  unfold next
  rw [h1,h2]
  rfl
 rw [hn]
 unfold checked
 by_cases hk:keyAny (win v)=100
 ·obtain ⟨a1,a2,a3,a4⟩:=best_edge v op hk
  have h35:=name_first op (win v) a3
  rw [win_at v 0 (by omega)] at h35
  have e1:refE v (bestP v op).1 (bestP v op).2=2:=by
   unfold refE
   rw [if_neg (by omega),if_neg (fun h=>h35 h.1),if_neg (by omega),if_pos (by omega)]
  have e2:check v (longest op (win v)).1 (longest op (win v)).2=2:=by
   rw [←refE_check]
   unfold refE
   rw [if_neg (by omega),if_neg (fun h=>h35 h.1),if_neg (by omega),if_pos (by omega)]
  rw [e1,e2,if_neg (by decide),if_neg (by decide)]
 ·rw [best_eq v op hk,refE_check]
theorem pick_le {m:Nat} {a c:Nat×Nat} (ha:a.2≤m) (hc:c.2≤m):(pick a c).2≤m:=by
 unfold pick
 split<;>assumption
theorem fold_le {m:Nat}: ∀(L:List (Nat×Nat)) (a:Nat×Nat),(∀c∈L,c.2≤m)→a.2≤m→(L.foldl pick a).2≤m
 |[],a,_,h=>h
 |c::L,a,hL,h=>fold_le L _ (fun x hx=>hL x (List.mem_cons_of_mem c hx)) (pick_le h (hL c List.mem_cons_self))
theorem signs_le (v:List UInt8): ∀(L:List (List UInt8)) (a:Nat×Nat),a.2≤v.length→(L.foldl (signStep v) a).2≤v.length
 |[],a,h=>h
 |w::L,a,h=>signs_le v L _ (by
   unfold signStep
   split
   ·rename_i h1;exact h1.2.1
   ·exact h)
theorem bestP_le (v:List UInt8) (op:Bool):(bestP v op).2≤v.length:=by
 have h:((cands v op).foldl pick (0,0)).2≤v.length:=by
  refine fold_le _ _ (fun c hc=> ?_) (Nat.zero_le _)
  obtain ⟨r,_,rfl⟩:=List.mem_map.1 hc
  have:=lng_le r.2 (win v)
  have h2:(win v).length≤v.length:=by unfold win;rw [List.length_take];omega
  show lng r.2 (win v)≤_
  omega
 unfold bestP
 split
 ·exact h
 ·exact signs_le v _ _ h
/-- Comments. -/
theorem comment_line' {v:List UInt8} (h:pre [47,47] v=true):comment v=.ok (lineGo (v.drop 2) 2):=by
 obtain ⟨r,rfl⟩:=pre2 h
 unfold comment
 rw [h]
 rfl
theorem comment_block' {v:List UInt8} (h:pre [47,42] v=true):comment v=blockGo (v.drop 2) 2 1:=by
 obtain ⟨r,rfl⟩:=pre2 h
 unfold comment
 have hn:pre [47,47] (47::42::r)=false:=rfl
 rw [hn,if_neg (by decide)]
 have e: ∀(x y:UInt8) (r:List UInt8) (i:Nat) (o:Int),x.toNat=47∧y.toNat=42→ ¬100<o+1→blockGo (x::y::r) i o=blockGo r (i+2) (o+1):=fun x y r i o hxy ho=>by
  rw [blockGo,if_pos hxy,if_neg ho]
 rw [e 47 42 r 0 0 ⟨rfl,rfl⟩ (by decide)]
 rfl
end Go.Proofs.YtipnlgmeonepfaaGreatDoor.Lx

set_option linter.unusedVariables false
set_option linter.unusedSimpArgs false
namespace Go.Proofs.YtipnlgmeonepfaaGreatDoor.Ref
open Go.RowKit Go.Proofs.YtipnlgmeonepfaaGreatDoorW.PrintWords Go.Proofs.YtipnlgmeonepfaaGreatDoorW.PrintMore
attribute [local go_sem] max2_int min2_int max_two min_two max_three min_three max_four min_four

theorem tail_find (x:Nat) (h:x<256):decide (0≤findN [95,63,33,36] x 0)=Lx.cTail x:=by
 have:=(by decide+kernel: ∀y:Fin 256,decide (0≤findN [95,63,33,36] y.val 0)=Lx.cTail y.val) ⟨x,h⟩
 exact this
def intE (v:List UInt8) (n:Nat):Int:=if 100≤n∨Lx.cL (Lx.byteAt v n)=true∨Lx.cTail (Lx.byteAt v n)=true then 11 else numE (v.take n)
set_option maxHeartbeats 6400000 in
theorem integral_walk (text:ByteArray) (at_ n:Nat) (hs:text.size≤20000) (hl:at_+n≤text.size) (w:World):
  Calls Tryz.prog 141 #[.string text,.int .i64 at_,.int .i64 n] w fun e w'=>e=.returned (.int .i64 (intE (text.data.toList.drop at_) n))∧w=w':=by
 obtain ⟨E,hE⟩: ∃E,intE (text.data.toList.drop at_) n=E:=⟨_,rfl⟩
 have hbyte:Lx.byteAt (text.data.toList.drop at_) n=Lx.byteAt text.data.toList (at_+n):=Lx.byteAt_drop _ _ _
 unfold intE at hE
 rw [hbyte] at hE
 have HE:=Lib.hid hE
 have e0:intE (text.data.toList.drop at_) n=E:=by unfold intE;rw [hbyte];exact hE
 rw [e0]
 clear e0 hE hbyte
 obtain ⟨T,hT⟩: ∃T,text.extract at_ (at_+n)=T:=⟨_,rfl⟩
 have HT:Hid (T.data.toList=(text.data.toList.drop at_).take n):=Lib.hid (by rw [←hT,Lib.extract_data,show at_+n-at_=n from by omega])
 have hTs:T.size≤20000:=by
  have:=congrArg List.length HT.out
  rw [data_length,List.length_take,List.length_drop,data_length] at this
  omega
 have HN:Hid (∀w:World,Calls Tryz.prog 100 #[.string T] w fun e w'=>e=.returned (.tuple #[.int .i64 (numV T.data.toList),.int .i64 (numE T.data.toList)])∧w=w'):=Lib.hid fun w=>number_walk T (by omega) w
 have hw1:IntKind.i64.wrap ((at_:Int)+n)=(at_:Int)+n:=IntWalk.i64_in _ (by omega)
 have hi1:(0:Int)≤at_:=by omega
 have hi2:(at_:Int)≤(at_:Int)+n:=by omega
 have hi3:(at_:Int)+n≤text.size:=by omega
 have hi4:(0:Int)≤(at_:Int)+n:=by omega
 have ht1:((at_:Int)+n).toNat=at_+n:=by omega
 by_cases h100:100≤n
 ·have g1:decide ((100:Int)≤n)=true:=decide_eq_true (by omega)
  have HF:Hid (E=11):=Lib.hid (by rw [←HE.out,if_pos (.inl h100)])
  clear h100 HE
  go_enter Tryz.func141,Tryz.ntmps141
  go_wp2
  go_ret
  exact ⟨by rw [HF.out];rfl,rfl⟩
 have g1:decide ((100:Int)≤n)=false:=decide_eq_false (by omega)
 by_cases hlt:at_+n<text.size
 ·have g2:decide ((at_:Int)+n<text.size)=true:=decide_eq_true (by omega)
  have hb:=byte_list text (at_+n) hlt
  obtain ⟨x,hx⟩: ∃x,(text[at_+n]'hlt).toNat=x:=⟨_,rfl⟩
  have hx256:x<256:=hx▸(text[at_+n]'hlt).toNat_lt
  rw [hx] at hb
  have hmL: ∀w:World,Calls Tryz.prog 125 #[.int .u8 76,.int .u8 x] w fun e w'=>e=.returned (.bool (Lx.cL x))∧w=w':=fun w=>member_walk 76 x hx256 w
  have HML:=Lib.hid hmL
  have HFI:Hid (∀w:World,Calls Tryz.prog 108 #[.string ⟨#[95,63,33,36]⟩,.int .u8 x] w fun e w'=>e=.returned (.int .i64 (findN [95,63,33,36] x 0))∧w=w'):=Lib.hid fun w=>find_walk ⟨#[95,63,33,36]⟩ x (by decide) w
  obtain ⟨F,hF⟩: ∃F,findN [95,63,33,36] x 0=F:=⟨_,rfl⟩
  have HTL:Hid (decide (0≤F)=Lx.cTail x):=Lib.hid (by rw [←hF];exact tail_find x hx256)
  rw [hF] at HFI
  clear hF hmL
  by_cases hL:Lx.cL x=true
  ·rw [hL] at HML
   have HF:Hid (E=11):=Lib.hid (by rw [←HE.out,hb,if_pos (.inr (.inl hL))])
   clear hL HE hb h100
   go_enter Tryz.func141,Tryz.ntmps141
   go_wp2_with (go_at_call 125;refine (HML.out _).mono ?_;rintro e w' ⟨rfl,rfl⟩)
   go_ret
   exact ⟨by rw [HF.out];rfl,rfl⟩
  ·have hL':Lx.cL x=false:=by simpa using hL
   rw [hL'] at HML
   by_cases hT2:Lx.cTail x=true
   ·have g3:decide (0≤F)=true:=by rw [HTL.out,hT2]
    have HF:Hid (E=11):=Lib.hid (by rw [←HE.out,hb,if_pos (.inr (.inr hT2))])
    clear hL hL' HE hb h100 hT2
    go_enter Tryz.func141,Tryz.ntmps141
    go_wp2_with (first|(go_at_call 125;refine (HML.out _).mono ?_;rintro e w' ⟨rfl,rfl⟩)|(go_at_call 108;refine (HFI.out _).mono ?_;rintro e w' ⟨rfl,rfl⟩))
    go_ret
    exact ⟨by rw [HF.out];rfl,rfl⟩
   ·have g3:decide (0≤F)=false:=by rw [HTL.out];simpa using hT2
    have HF:Hid (E=numE T.data.toList):=Lib.hid (by rw [←HE.out,hb,if_neg (fun h=>h.elim h100 (fun h=>h.elim hL hT2)),HT.out])
    clear hL hL' HE hb h100 hT2
    go_enter Tryz.func141,Tryz.ntmps141
    go_wp2_with (first|(go_at_call 125;refine (HML.out _).mono ?_;rintro e w' ⟨rfl,rfl⟩)|(go_at_call 108;refine (HFI.out _).mono ?_;rintro e w' ⟨rfl,rfl⟩)|(go_at_call 100;refine (HN.out _).mono ?_;rintro e w' ⟨rfl,rfl⟩))
    go_ret
    exact ⟨by rw [HF.out];rfl,rfl⟩
 ·have g2:decide ((at_:Int)+n<text.size)=false:=decide_eq_false (by omega)
  have HF:Hid (E=numE T.data.toList):=Lib.hid (by
   rw [←HE.out,Lx.byteAt_end (by rw [data_length];omega),if_neg (by
    rintro (h|h|h)
    ·exact h100 h
    ·exact absurd h (by decide)
    ·exact absurd h (by decide)),HT.out])
  clear HE h100 hlt
  go_enter Tryz.func141,Tryz.ntmps141
  go_wp2_with (go_at_call 100;refine (HN.out _).mono ?_;rintro e w' ⟨rfl,rfl⟩)
  go_ret
  exact ⟨by rw [HF.out];rfl,rfl⟩
theorem pre_bytes (text:ByteArray) (at_:Nat) (a b:UInt8) (h:at_+2≤text.size):Lx.pre [a,b] (text.data.toList.drop at_)=decide ((text[at_]'(by omega)).toNat=a.toNat∧(text[at_+1]'(by omega)).toNat=b.toNat):=by
 rw [cons_at text at_ (by omega),cons_at text (at_+1) (by omega)]
 unfold Lx.pre
 simp only [List.isPrefixOf,Bool.and_true]
 rw [Bool.eq_iff_iff,Bool.and_eq_true,beq_iff_eq,beq_iff_eq,decide_eq_true_eq,←UInt8.toNat_inj,←UInt8.toNat_inj]
 constructor
 ·rintro ⟨h1,h2⟩;exact ⟨h1.symm,h2.symm⟩
 ·rintro ⟨h1,h2⟩;exact ⟨h1.symm,h2.symm⟩
def isCom (v:List UInt8):Bool:=Lx.pre [47,47] v||Lx.pre [47,42] v
theorem comment_none (text:ByteArray) (at_:Nat) (hs:text.size≤20000) (hl:at_≤text.size) (h:isCom (text.data.toList.drop at_)=false) (w:World):
  Calls Tryz.prog 138 #[.string text,.int .i64 at_] w (Cut4 0 0 0 0 w):=by
 rcases Nat.lt_or_ge text.size (at_+2) with h2|h2
 ·exact comment_short text at_ hs hl h2 w
 ·unfold isCom at h
  rw [pre_bytes text at_ 47 47 h2,pre_bytes text at_ 47 42 h2,Bool.or_eq_false_iff,decide_eq_false_iff_not,decide_eq_false_iff_not] at h
  by_cases h1:(text[at_]'(by omega)).toNat=47
  ·exact comment_second text at_ hs h2 h1 (fun e=>h.1 ⟨h1,e⟩) (fun e=>h.2 ⟨h1,e⟩) w
  ·exact comment_first text at_ hs h2 h1 w
theorem comment_some (text:ByteArray) (at_:Nat) (hs:text.size≤20000) (h:isCom (text.data.toList.drop at_)=true) (w:World):
  Calls Tryz.prog 138 #[.string text,.int .i64 at_] w (Told (Lx.comment (text.data.toList.drop at_)) at_ w):=by
 have h2:at_+2≤text.size:=by
  unfold isCom at h
  rw [Bool.or_eq_true] at h
  have:2≤(text.data.toList.drop at_).length:=by
   rcases h with h|h<;>(obtain ⟨r,hr⟩:=Lx.pre2 h;rw [hr];simp)
  rw [List.length_drop,data_length] at this
  omega
 by_cases h1:Lx.pre [47,47] (text.data.toList.drop at_)=true
 ·have hb:=h1
  rw [pre_bytes text at_ 47 47 h2,decide_eq_true_eq] at hb
  rw [Lx.comment_line' h1]
  exact comment_line text at_ hs h2 hb.1 hb.2 w
 ·have h3:Lx.pre [47,42] (text.data.toList.drop at_)=true:=by
   unfold isCom at h
   rw [Bool.or_eq_true] at h
   exact h.resolve_left h1
  have hb:=h3
  rw [pre_bytes text at_ 47 42 h2,decide_eq_true_eq] at hb
  rw [Lx.comment_block' h3]
  exact comment_block text at_ hs h2 hb.1 hb.2 w

/-! ### piece -/
def cutK:Except Int (Nat×Nat)→Int| .ok (k,_)=>k| .error _=>0
def cutA (a:Nat):Except Int (Nat×Nat)→Int| .ok _=>a| .error _=>0
def cutN:Except Int (Nat×Nat)→Int| .ok (_,n)=>n| .error _=>0
def cutE:Except Int (Nat×Nat)→Int| .ok _=>0| .error e=>e
theorem block_err: ∀(l:List UInt8) (i:Nat) (o e:Int),Lx.blockGo l i o=.error e→e=13∨e=6
 |[],_,_,e,h=>by rw [Lx.blockGo] at h;injection h with h;exact .inl h.symm
 |[_],_,_,e,h=>by rw [Lx.blockGo] at h;injection h with h;exact .inl h.symm
 |x::y::r,i,o,e,h=>by
  rw [Lx.blockGo] at h
  split at h
  ·split at h
   ·injection h with h;exact .inr h.symm
   ·exact block_err r _ _ _ h
  ·split at h
   ·split at h
    ·cases h
    ·exact block_err r _ _ _ h
   ·exact block_err (y::r) _ _ _ h
theorem comment_err {v:List UInt8} {e:Int} (h:Lx.comment v=.error e):e=13∨e=6:=by
 unfold Lx.comment at h
 split at h
 ·cases h
 ·exact block_err _ _ _ _ h
theorem four_put {W:World} {g:Nat} {t:TypeId} {a b c d a' b' c' d':Value} (h:W.heap[g]? =some (.cells #[a,b,c,d] t (0,0))):((((W.setCell ⟨g,0,none⟩ a').setCell ⟨g,1,none⟩ b').setCell ⟨g,2,none⟩ c').setCell ⟨g,3,none⟩ d').heap[g]? =some (.cells #[a',b',c',d'] t (0,0)):=
 blk_put (blk_put (blk_put (blk_put h 0 _ rfl) 1 _ rfl) 2 _ rfl) 3 _ rfl
/-- The blocks of piece: its result, and the comment. -/
structure PB (w W:World) (B:Nat) (k a n e:Int) (ck ca cn ce:Int):Prop where
 below:Below w.heap.size w W
 b6:W.heap[w.heap.size]? =some (.cells #[.int .i64 k,.int .i64 a,.int .i64 n,.int .i64 e] 153 (0,0))
 bc:W.heap[B]? =some (.cells #[.int .i64 ck,.int .i64 ca,.int .i64 cn,.int .i64 ce] 153 (0,0))
theorem PB.step {w W W':World} {B:Nat} {k a n e ck ca cn ce:Int} (h:PB w W B k a n e ck ca cn ce) (hb:Below W.heap.size W W'):PB w W' B k a n e ck ca cn ce:=
 ⟨h.below.trans (hb.mono h.below.size),blk_below h.b6 hb,blk_below h.bc hb⟩
/-- .. its result, and the best token. -/
structure QB (w W:World) (M:Nat) (bk bn:Nat):Prop where
 below:Below w.heap.size w W
 b6:W.heap[w.heap.size]? =some (.cells #[.int .i64 0,.int .i64 0,.int .i64 0,.int .i64 0] 153 (0,0))
 bm:W.heap[M]? =some (.cells #[.int .i64 bk,.int .i64 bn] 165 (0,0))
set_option maxHeartbeats 12800000 in
set_option maxRecDepth 100000 in
theorem piece_walk (text:ByteArray) (at_:Nat) (op:Bool) (hs:text.size≤20000) (hl:at_<text.size) (w:World):
  Calls Tryz.prog 123 #[.string text,.int .i64 at_,.bool op] w (Cut4 (cutK (Lx.next op (text.data.toList.drop at_))) (cutA at_ (Lx.next op (text.data.toList.drop at_))) (cutN (Lx.next op (text.data.toList.drop at_))) (cutE (Lx.next op (text.data.toList.drop at_))) w):=by
 obtain ⟨v,hv⟩: ∃v,text.data.toList.drop at_=v:=⟨_,rfl⟩
 rw [hv]
 have HV:=Lib.hid hv
 obtain ⟨res,hres⟩: ∃r,Lx.next op v=r:=⟨_,rfl⟩
 have HRES:=Lib.hid hres
 rw [hres]
 clear hres hv
 go_enter Tryz.func123,Tryz.ntmps123
 obtain ⟨ck,ca,cn,ce,hC,hCv⟩: ∃ck ca cn ce:Int,(∀w:World,Calls Tryz.prog 138 #[.string text,.int .i64 at_] w (Cut4 ck ca cn ce w))∧((isCom v=false∧ck=0∧ca=0∧cn=0∧ce=0)∨(isCom v=true∧(ck≠0∨ce≠0)∧cutK res=ck∧cutA at_ res=ca∧cutN res=cn∧cutE res=ce)):=by
  by_cases hc:isCom v=true
  ·have hn:res=Lx.tag8 (Lx.comment v):=by
    rw [←HRES.out]
    unfold Lx.next
    rw [if_pos (show (Lx.pre [47,47] v||Lx.pre [47,42] v)=true from hc)]
   have hcs:=fun w=>comment_some text at_ hs (by rw [HV.out];exact hc) w
   rw [HV.out] at hcs
   cases hcv:Lx.comment v with
   |ok n=>
    rw [hcv] at hcs hn
    exact ⟨8,at_,n,0,hcs,.inr ⟨hc,.inl (by decide),by rw [hn];rfl,by rw [hn];rfl,by rw [hn];rfl,by rw [hn];rfl⟩⟩
   |error e=>
    rw [hcv] at hcs hn
    have he:=comment_err hcv
    exact ⟨0,0,0,e,hcs,.inr ⟨hc,.inr (by omega),by rw [hn];rfl,by rw [hn];rfl,by rw [hn];rfl,by rw [hn];rfl⟩⟩
  ·have hc':isCom v=false:=by simpa using hc
   exact ⟨0,0,0,0,fun w=>comment_none text at_ hs (by omega) (by rw [HV.out];exact hc') w,.inl ⟨hc',rfl,rfl,rfl,rfl⟩⟩
 have HC:=Lib.hid hC
 have HCV:=Lib.hid hCv
 clear hC hCv
 go_upto_region 1 with (fail)
 go_cut [7] (fun v7 wc=> ∃B,v7=.pointer (some ⟨B,0,none⟩)∧Hid (PB w wc B 0 0 0 0 ck ca cn ce))
 case first=>
  go_wp2_with (go_at_call 138;refine (HC.out _).mono ?_;rintro e w1 ⟨rfl,hb1⟩;have HB1:=Lib.hid hb1;clear hb1)
  go_meet
  case rel=>
   refine ⟨_,rfl,Lib.hid ⟨?_, ?_, ?_⟩⟩
   ·exact below_alloc ((below_alloc (Below.refl _ _) _).trans (HB1.out.mono (by simp))) _
   ·exact blk_alloc (blk_below (blk_new w _) HB1.out) _
   ·exact blk_new _ _
 case rest=>
  obtain ⟨B,rfl,HB⟩:=hcut
  rcases HCV.out with ⟨hc,k1,k2,k3,k4⟩|⟨hc,k1,k2,k3,k4,k5⟩
  ·subst k1 k2 k3 k4
   have HCN:=Lib.hid hc
   have c0:wc.cell? ⟨B,0,none⟩=some (.int .i64 0):=blk_cell HB.out.bc 0
   have c3:wc.cell? ⟨B,3,none⟩=some (.int .i64 0):=blk_cell HB.out.bc 3
   clear hc
   have hvl:v.length=text.size-at_:=by rw [←HV.out,List.length_drop,data_length]
   have HVL:=Lib.hid hvl
   clear hvl
   go_wp2
   go_loopg [8] (text.size-at_) (fun kq v8 wr=> ∃n:Nat,v8=.int .i64 n∧kq+(at_+n)=text.size∧Hid (Lx.allN Lx.cBlank v=n+Lx.allN Lx.cBlank (v.drop n))∧wr=wc)
   case atStart=>exact ⟨0,rfl,by omega,Lib.hid (by rw [List.drop_zero,Nat.zero_add]),rfl⟩
   case round=>
    obtain ⟨n,rfl,hkn,HN,rfl⟩:=hrel
    have hle:at_+n≤text.size:=by omega
    have HKN:=Lib.hid hkn
    clear hkn c0 c3
    have hw1:IntKind.i64.wrap ((at_:Int)+n)=(at_:Int)+n:=IntWalk.i64_in _ (by omega)
    have hi4:(0:Int)≤(at_:Int)+n:=by omega
    have ht1:((at_:Int)+n).toNat=at_+n:=by omega
    obtain ⟨Y,hY⟩: ∃Y,decide (0<Lx.allN Lx.cBlank (v.drop n))=Y:=⟨_,rfl⟩
    have HY:=Lib.hid hY
    clear hY
    go_upto_region 5 with (fail)
    go_cut [37] (fun v37 wc=>v37=.bool Y∧wr=wc)
    case first=>
     by_cases hlt:at_+n<text.size
     ·have g1:decide ((at_:Int)+n<text.size)=true:=decide_eq_true (by omega)
      have hd:v.drop n=text[at_+n]'hlt::v.drop (n+1):=by
       rw [←HV.out,List.drop_drop,List.drop_drop,cons_at text (at_+n) hlt]
       rfl
      have HBK:Hid (∀w:World,Calls Tryz.prog 139 #[.int .u8 (text[at_+n]'hlt).toNat] w fun e w'=>e=.returned (.bool (Lx.cBlank (text[at_+n]'hlt).toNat))∧w=w'):=Lib.hid fun w=>blank_walk _ w
      have HAN:Hid (Y=Lx.cBlank (text[at_+n]'hlt).toNat):=Lib.hid (by
       rw [←HY.out,hd]
       unfold Lx.allN
       cases h:Lx.cBlank (text[at_+n]'hlt).toNat
       ·simp
       ·simp)
      clear hd
      go_wp2_with (go_at_call 139;refine (HBK.out _).mono ?_;rintro e w' ⟨rfl,rfl⟩)
      go_meet
      case rel=>exact ⟨by rw [HAN.out],rfl⟩
     ·have g1:decide ((at_:Int)+n<text.size)=false:=decide_eq_false (by omega)
      have HAN:Hid (Y=false):=Lib.hid (by
       rw [←HY.out]
       rw [List.drop_of_length_le (by have:=HVL.out;omega)]
       rfl)
      clear hlt
      go_wp2
      go_meet
      case rel=>exact ⟨by rw [HAN.out],rfl⟩
    case rest=>
     obtain ⟨rfl,rfl⟩:=hcut
     cases Y with
     |true=>
      have hpos:0<Lx.allN Lx.cBlank (v.drop n):=of_decide_eq_true HY.out
      have hlt:at_+n<text.size:=by
       have:=Lx.allN_len Lx.cBlank (v.drop n)
       rw [List.length_drop,HVL.out] at this
       omega
      have hd:v.drop n=text[at_+n]'hlt::v.drop (n+1):=by
       rw [←HV.out,List.drop_drop,List.drop_drop,cons_at text (at_+n) hlt]
       rfl
      have HN2:Hid (Lx.allN Lx.cBlank v=(n+1)+Lx.allN Lx.cBlank (v.drop (n+1))):=Lib.hid (by
       rw [HN.out,hd]
       rw [hd] at hpos
       unfold Lx.allN at hpos
       split at hpos
       ·rename_i hb
        rw [show Lx.allN Lx.cBlank (text[at_+n]'hlt::v.drop (n+1))=Lx.allN Lx.cBlank (v.drop (n+1))+1 from by rw [Lx.allN,if_pos hb]]
        omega
       ·omega)
      have hw5:IntKind.i64.wrap ((n:Int)+1)=(n:Int)+1:=IntWalk.i64_in _ (by omega)
      clear hd hpos
      go_wp2
      go_roundg (gk-1)
      case measure=>have:=HKN.out;omega
      case rel=>exact ⟨n+1,by go_num,by have:=HKN.out;omega,HN2,rfl⟩
     |false=>
      have hpos: ¬0<Lx.allN Lx.cBlank (v.drop n):=of_decide_eq_false HY.out
      have HNA:Hid (Lx.allN Lx.cBlank v=n):=Lib.hid (by rw [HN.out];omega)
      clear hpos HN
      by_cases hn0:0<n
      ·have g2:decide (0<n)=true:=decide_eq_true (by omega)
       have HRS:Hid (cutK res=7∧cutA at_ res=at_∧cutN res=n∧cutE res=0):=Lib.hid (by
        have hr:=HRES.out
        unfold Lx.next at hr
        have hb:Lx.cBlank (Lx.byteAt v 0)=true:=by
         have h1:=HNA.out
         cases v with
         |nil=>simp [Lx.allN] at h1;omega
         |cons x t=>
          unfold Lx.allN at h1
          split at h1
          ·assumption
          ·omega
        rw [show (Lx.pre [47,47] v||Lx.pre [47,42] v)=false from HCN.out,if_neg (by decide),if_pos hb,HNA.out] at hr
        rw [←hr]
        exact ⟨rfl,rfl,rfl,rfl⟩)
       clear hn0
       have d0:wr.cell? ⟨w.heap.size,0,none⟩=some (.int .i64 0):=blk_cell HB.out.b6 0
       have d1:wr.cell? ⟨w.heap.size,1,none⟩=some (.int .i64 0):=blk_cell HB.out.b6 1
       have d2:wr.cell? ⟨w.heap.size,2,none⟩=some (.int .i64 0):=blk_cell HB.out.b6 2
       have d3:wr.cell? ⟨w.heap.size,3,none⟩=some (.int .i64 0):=blk_cell HB.out.b6 3
       have e0:=blk_frozen HB.out.b6 0
       have e1:=blk_frozen HB.out.b6 1
       have e2:=blk_frozen HB.out.b6 2
       have e3:=blk_frozen HB.out.b6 3
       go_wp2
       obtain ⟨WF,hWF⟩: ∃WF,(((wr.setCell ⟨w.heap.size,0,none⟩ (.int .i64 7)).setCell ⟨w.heap.size,1,none⟩ (.int .i64 at_)).setCell ⟨w.heap.size,2,none⟩ (.int .i64 n)).setCell ⟨w.heap.size,3,none⟩ (.int .i64 0)=WF:=⟨_,rfl⟩
       rw [hWF]
       have hb6:WF.heap[w.heap.size]? =some (.cells #[.int .i64 7,.int .i64 at_,.int .i64 n,.int .i64 0] 153 (0,0)):=hWF▸four_put HB.out.b6
       have hbw:Below w.heap.size w WF:=hWF▸(((HB.out.below.setCell (by simp) _).setCell (by simp) _).setCell (by simp) _).setCell (by simp) _
       have r0:WF.cell? ⟨w.heap.size,0,none⟩=_:=blk_cell hb6 0
       have r1:WF.cell? ⟨w.heap.size,1,none⟩=_:=blk_cell hb6 1
       have r2:WF.cell? ⟨w.heap.size,2,none⟩=_:=blk_cell hb6 2
       have r3:WF.cell? ⟨w.heap.size,3,none⟩=_:=blk_cell hb6 3
       exact bodyPost_ret (v:=.agg #[.int .i64 7,.int .i64 at_,.int .i64 n,.int .i64 0]) (by simp [results,Tryz.results123,go_sem,r0,r1,r2,r3]) rfl ⟨by rw [HRS.out.1,HRS.out.2.1,HRS.out.2.2.1,HRS.out.2.2.2],hbw⟩
      ·have g2:decide (0<n)=false:=decide_eq_false (by omega)
       have hn00:n=0:=by omega
       have HNB:Hid (Lx.cBlank (Lx.byteAt v 0)=false):=Lib.hid (by
        have h1:=HNA.out
        rw [hn00] at h1
        cases v with
        |nil=>rfl
        |cons x t=>
         unfold Lx.allN at h1
         split at h1
         ·omega
         ·rename_i hb
          exact Bool.eq_false_iff.2 hb)
       clear hn0 hn00
       obtain ⟨bk,hbk⟩: ∃n,(Lx.bestP v op).1=n:=⟨_,rfl⟩
       obtain ⟨bn,hbn⟩: ∃n,(Lx.bestP v op).2=n:=⟨_,rfl⟩
       have HBW:Hid (∀w:World,Calls Tryz.prog 140 #[.string text,.int .i64 at_,.bool op] w fun e w'=>e=.returned (.agg #[.int .i64 bk,.int .i64 bn])∧Below w.heap.size w w'):=Lib.hid fun w=>by
        have:=best_walk text at_ op hs (by omega) w
        rw [HV.out,hbk,hbn] at this
        exact this
       have hbl:bn≤v.length:=hbn▸Lx.bestP_le v op
       obtain ⟨E,hE⟩: ∃E,Lx.refE v bk bn=E:=⟨_,rfl⟩
       have HREF:Hid (res=if E=0 then .ok (bk,bn) else .error E):=Lib.hid (by
        rw [←HRES.out,Lx.next_ref op v HCN.out HNB.out,hbk,hbn,hE]
        have:Lx.bestP v op=(bk,bn):=by rw [←hbk,←hbn]
        rw [this])
       have hble:at_+bn≤text.size:=by have:=HVL.out;omega
       have HE:=Lib.hid hE
       clear hbk hbn hE hbl
       go_upto_region 9 with (fail)
       go_cut [9] (fun v9 wc=> ∃M,v9=.pointer (some ⟨M,0,none⟩)∧Hid (QB w wc M bk bn))
       case first=>
        go_wp2_with (go_at_call 140;refine (HBW.out _).mono ?_;rintro e w1 ⟨rfl,hb1⟩;have HB1:=Lib.hid hb1;clear hb1)
        go_meet
        case rel=>
         refine ⟨_,rfl,Lib.hid ⟨?_, ?_, ?_⟩⟩
         ·exact below_alloc (HB.out.below.trans (HB1.out.mono HB.out.below.size)) _
         ·exact blk_alloc (blk_below HB.out.b6 HB1.out) _
         ·exact blk_new _ _
       case rest=>
        obtain ⟨M,rfl,HQ⟩:=hcut
        clear HB HBW
        have m0:wc.cell? ⟨M,0,none⟩=some (.int .i64 bk):=blk_cell HQ.out.bm 0
        have m1:wc.cell? ⟨M,1,none⟩=some (.int .i64 bn):=blk_cell HQ.out.bm 1
        go_upto_if 52 with (fail)
        go_cut [10] (fun v10 wd=>v10=.int .i64 E∧wc=wd)
        case first=>
         have hbyte:=byte_list text at_ hl
         have hv0:Lx.byteAt v 0=(text[at_]'hl).toNat:=by rw [←HV.out,Lx.byteAt_drop,Nat.add_zero];exact hbyte
         have HV0:=Lib.hid hv0
         clear hbyte hv0
         have hi0:(0:Int)≤at_:=by omega
         have hi1:(at_:Int)<text.size:=by omega
         have hdl:decide (at_<text.size)=true:=decide_eq_true hl
         by_cases h2:bk=2
         ·have x2:((bk:Int)==2)=true:=by rw [beq_iff_eq];omega
          have HF:Hid (E=intE v bn):=Lib.hid (by
           rw [←HE.out]
           unfold Lx.refE intE numE
           rw [if_pos h2])
          have HIN:Hid (∀w:World,Calls Tryz.prog 141 #[.string text,.int .i64 at_,.int .i64 bn] w fun e w'=>e=.returned (.int .i64 (intE v bn))∧w=w'):=Lib.hid fun w=>by
           have:=integral_walk text at_ bn hs hble w
           rw [HV.out] at this
           exact this
          clear h2
          go_wp2_with (go_at_call 141;refine (HIN.out _).mono ?_;rintro e w' ⟨rfl,rfl⟩)
          go_meet
          case rel=>exact ⟨by rw [HF.out],rfl⟩
         have x2:((bk:Int)==2)=false:=by rw [beq_eq_false_iff_ne];omega
         have HC1:Hid (E=if Lx.byteAt v 0=35∧(bk=0∨Lx.cW (Lx.byteAt v 2)=true) then 12 else if bk=0 then 10 else if bk≠5∧40<bn then 2 else 0):=Lib.hid (by
          rw [←HE.out]
          unfold Lx.refE
          rw [if_neg h2])
         clear h2
         by_cases h35:(text[at_]'hl).toNat=35
         ·have x35:(((text[at_]'hl).toNat:Int)==35)=true:=by rw [beq_iff_eq];omega
          by_cases hz:bk=0
          ·have x0:((bk:Int)==0)=true:=by rw [beq_iff_eq];omega
           have HF:Hid (E=12):=Lib.hid (by rw [HC1.out,if_pos ⟨by rw [HV0.out,h35],.inl hz⟩])
           clear h35 hz
           go_wp2
           go_meet
           case rel=>exact ⟨by rw [HF.out],rfl⟩
          have y0:((bk:Int)==0)=false:=by rw [beq_eq_false_iff_ne];omega
          have hw2:IntKind.i64.wrap ((at_:Int)+2)=(at_:Int)+2:=IntWalk.i64_in _ (by omega)
          by_cases hlt:at_+2<text.size
          ·have g5:decide ((at_:Int)+2<text.size)=true:=decide_eq_true (by omega)
           have hi5:(0:Int)≤(at_:Int)+2:=by omega
           have ht5:((at_:Int)+2).toNat=at_+2:=by omega
           have hb2:=byte_list text (at_+2) hlt
           have hv2:Lx.byteAt v 2=(text[at_+2]'hlt).toNat:=by rw [←HV.out,Lx.byteAt_drop];exact hb2
           by_cases hW:Lx.cW (text[at_+2]'hlt).toNat=true
           ·have HMW:Hid (∀w:World,Calls Tryz.prog 125 #[.int .u8 87,.int .u8 (text[at_+2]'hlt).toNat] w fun e w'=>e=.returned (.bool true)∧w=w'):=Lib.hid fun w=>by
             have:=member_walk 87 (text[at_+2]'hlt).toNat (text[at_+2]'hlt).toNat_lt w
             rw [show Lx.mem 87 (text[at_+2]'hlt).toNat=true from hW] at this
             exact this
            have HF:Hid (E=12):=Lib.hid (by rw [HC1.out,if_pos ⟨by rw [HV0.out,h35],.inr (by rw [hv2];exact hW)⟩])
            clear h35 hz hW hb2 hv2
            go_wp2_with (go_at_call 125;refine (HMW.out _).mono ?_;rintro e w' ⟨rfl,rfl⟩)
            go_meet
            case rel=>exact ⟨by rw [HF.out],rfl⟩
           have HMW:Hid (∀w:World,Calls Tryz.prog 125 #[.int .u8 87,.int .u8 (text[at_+2]'hlt).toNat] w fun e w'=>e=.returned (.bool false)∧w=w'):=Lib.hid fun w=>by
            have:=member_walk 87 (text[at_+2]'hlt).toNat (text[at_+2]'hlt).toNat_lt w
            rw [show Lx.mem 87 (text[at_+2]'hlt).toNat=false from by rw [←Bool.not_eq_true];exact hW] at this
            exact this
           have HC2:Hid (E=if bk=0 then 10 else if bk≠5∧40<bn then 2 else 0):=Lib.hid (by rw [HC1.out,if_neg (fun h=>h.2.elim hz (fun h=>hW (by rw [←hv2];exact h)))])
           clear h35 hW hb2 hv2
           have hb0:=hz
           have x0:=y0
           clear y0 hz
           by_cases hb5:bk=5
           ·have x5:((bk:Int) !=5)=false:=by rw [bne_eq_false_iff_eq];omega
            have HF:Hid (E=0):=Lib.hid (by rw [HC2.out,if_neg hb0,if_neg (fun h=>h.1 hb5)])
            clear hb0 hb5
            go_wp2_with (go_at_call 125;refine (HMW.out _).mono ?_;rintro e w' ⟨rfl,rfl⟩)
            go_meet
            case rel=>exact ⟨by rw [HF.out],rfl⟩
           have x5:((bk:Int) !=5)=true:=by rw [bne_iff_ne];omega
           by_cases h40:40<bn
           ·have x40:decide ((40:Int)<bn)=true:=decide_eq_true (by omega)
            have HF:Hid (E=2):=Lib.hid (by rw [HC2.out,if_neg hb0,if_pos ⟨hb5,h40⟩])
            clear hb0 hb5 h40
            go_wp2_with (go_at_call 125;refine (HMW.out _).mono ?_;rintro e w' ⟨rfl,rfl⟩)
            go_meet
            case rel=>exact ⟨by rw [HF.out],rfl⟩
           have x40:decide ((40:Int)<bn)=false:=decide_eq_false (by omega)
           have HF:Hid (E=0):=Lib.hid (by rw [HC2.out,if_neg hb0,if_neg (fun h=>h40 h.2)])
           clear hb0 hb5 h40
           go_wp2_with (go_at_call 125;refine (HMW.out _).mono ?_;rintro e w' ⟨rfl,rfl⟩)
           go_meet
           case rel=>exact ⟨by rw [HF.out],rfl⟩
          ·have g5:decide ((at_:Int)+2<text.size)=false:=decide_eq_false (by omega)
           have hv2:Lx.byteAt v 2=0:=Lx.byteAt_end (by have:=HVL.out;omega)
           have HC2:Hid (E=if bk=0 then 10 else if bk≠5∧40<bn then 2 else 0):=Lib.hid (by rw [HC1.out,if_neg (fun h=>h.2.elim hz (fun h=>by rw [hv2] at h;exact absurd h (by decide)))])
           clear h35 hlt hv2
           have hb0:=hz
           have x0:=y0
           clear y0 hz
           by_cases hb5:bk=5
           ·have x5:((bk:Int) !=5)=false:=by rw [bne_eq_false_iff_eq];omega
            have HF:Hid (E=0):=Lib.hid (by rw [HC2.out,if_neg hb0,if_neg (fun h=>h.1 hb5)])
            clear hb0 hb5
            go_wp2
            go_meet
            case rel=>exact ⟨by rw [HF.out],rfl⟩
           have x5:((bk:Int) !=5)=true:=by rw [bne_iff_ne];omega
           by_cases h40:40<bn
           ·have x40:decide ((40:Int)<bn)=true:=decide_eq_true (by omega)
            have HF:Hid (E=2):=Lib.hid (by rw [HC2.out,if_neg hb0,if_pos ⟨hb5,h40⟩])
            clear hb0 hb5 h40
            go_wp2
            go_meet
            case rel=>exact ⟨by rw [HF.out],rfl⟩
           have x40:decide ((40:Int)<bn)=false:=decide_eq_false (by omega)
           have HF:Hid (E=0):=Lib.hid (by rw [HC2.out,if_neg hb0,if_neg (fun h=>h40 h.2)])
           clear hb0 hb5 h40
           go_wp2
           go_meet
           case rel=>exact ⟨by rw [HF.out],rfl⟩
         ·have x35:(((text[at_]'hl).toNat:Int)==35)=false:=by rw [beq_eq_false_iff_ne];omega
          have HC2:Hid (E=if bk=0 then 10 else if bk≠5∧40<bn then 2 else 0):=Lib.hid (by rw [HC1.out,if_neg (fun h=>h35 (by rw [←HV0.out];exact h.1))])
          clear h35
          by_cases hb0:bk=0
          ·have x0:((bk:Int)==0)=true:=by rw [beq_iff_eq];omega
           have HF:Hid (E=10):=Lib.hid (by rw [HC2.out,if_pos hb0])
           clear hb0
           go_wp2
           go_meet
           case rel=>exact ⟨by rw [HF.out],rfl⟩
          have x0:((bk:Int)==0)=false:=by rw [beq_eq_false_iff_ne];omega
          by_cases hb5:bk=5
          ·have x5:((bk:Int) !=5)=false:=by rw [bne_eq_false_iff_eq];omega
           have HF:Hid (E=0):=Lib.hid (by rw [HC2.out,if_neg hb0,if_neg (fun h=>h.1 hb5)])
           clear hb0 hb5
           go_wp2
           go_meet
           case rel=>exact ⟨by rw [HF.out],rfl⟩
          have x5:((bk:Int) !=5)=true:=by rw [bne_iff_ne];omega
          by_cases h40:40<bn
          ·have x40:decide ((40:Int)<bn)=true:=decide_eq_true (by omega)
           have HF:Hid (E=2):=Lib.hid (by rw [HC2.out,if_neg hb0,if_pos ⟨hb5,h40⟩])
           clear hb0 hb5 h40
           go_wp2
           go_meet
           case rel=>exact ⟨by rw [HF.out],rfl⟩
          have x40:decide ((40:Int)<bn)=false:=decide_eq_false (by omega)
          have HF:Hid (E=0):=Lib.hid (by rw [HC2.out,if_neg hb0,if_neg (fun h=>h40 h.2)])
          clear hb0 hb5 h40
          go_wp2
          go_meet
          case rel=>exact ⟨by rw [HF.out],rfl⟩
        case rest=>
         obtain ⟨rfl,rfl⟩:=hcut
         have d0:wc.cell? ⟨w.heap.size,0,none⟩=some (.int .i64 0):=blk_cell HQ.out.b6 0
         have d1:wc.cell? ⟨w.heap.size,1,none⟩=some (.int .i64 0):=blk_cell HQ.out.b6 1
         have d2:wc.cell? ⟨w.heap.size,2,none⟩=some (.int .i64 0):=blk_cell HQ.out.b6 2
         have d3:wc.cell? ⟨w.heap.size,3,none⟩=some (.int .i64 0):=blk_cell HQ.out.b6 3
         have e0:=blk_frozen HQ.out.b6 0
         have e1:=blk_frozen HQ.out.b6 1
         have e2:=blk_frozen HQ.out.b6 2
         have e3:=blk_frozen HQ.out.b6 3
         by_cases hE0:E=0
         ·have x0:(E !=0)=false:=by rw [bne_eq_false_iff_eq];exact hE0
          have HRS:Hid (cutK res=bk∧cutA at_ res=at_∧cutN res=bn∧cutE res=0):=Lib.hid (by rw [HREF.out,if_pos hE0];exact ⟨rfl,rfl,rfl,rfl⟩)
          clear hE0
          go_wp2
          obtain ⟨WF,hWF⟩: ∃WF,(((wc.setCell ⟨w.heap.size,0,none⟩ (.int .i64 bk)).setCell ⟨w.heap.size,1,none⟩ (.int .i64 at_)).setCell ⟨w.heap.size,2,none⟩ (.int .i64 bn)).setCell ⟨w.heap.size,3,none⟩ (.int .i64 0)=WF:=⟨_,rfl⟩
          rw [hWF]
          have hb6:WF.heap[w.heap.size]? =some (.cells #[.int .i64 bk,.int .i64 at_,.int .i64 bn,.int .i64 0] 153 (0,0)):=hWF▸four_put HQ.out.b6
          have hbw:Below w.heap.size w WF:=hWF▸(((HQ.out.below.setCell (by simp) _).setCell (by simp) _).setCell (by simp) _).setCell (by simp) _
          have r0:WF.cell? ⟨w.heap.size,0,none⟩=_:=blk_cell hb6 0
          have r1:WF.cell? ⟨w.heap.size,1,none⟩=_:=blk_cell hb6 1
          have r2:WF.cell? ⟨w.heap.size,2,none⟩=_:=blk_cell hb6 2
          have r3:WF.cell? ⟨w.heap.size,3,none⟩=_:=blk_cell hb6 3
          exact bodyPost_ret (v:=.agg #[.int .i64 bk,.int .i64 at_,.int .i64 bn,.int .i64 0]) (by simp [results,Tryz.results123,go_sem,r0,r1,r2,r3]) rfl ⟨by rw [HRS.out.1,HRS.out.2.1,HRS.out.2.2.1,HRS.out.2.2.2],hbw⟩
         ·have x0:(E !=0)=true:=by rw [bne_iff_ne];exact hE0
          have HRS:Hid (cutK res=0∧cutA at_ res=0∧cutN res=0∧cutE res=E):=Lib.hid (by rw [HREF.out,if_neg hE0];exact ⟨rfl,rfl,rfl,rfl⟩)
          clear hE0
          go_wp2
          obtain ⟨WF,hWF⟩: ∃WF,(((wc.setCell ⟨w.heap.size,0,none⟩ (.int .i64 0)).setCell ⟨w.heap.size,1,none⟩ (.int .i64 0)).setCell ⟨w.heap.size,2,none⟩ (.int .i64 0)).setCell ⟨w.heap.size,3,none⟩ (.int .i64 E)=WF:=⟨_,rfl⟩
          rw [hWF]
          have hb6:WF.heap[w.heap.size]? =some (.cells #[.int .i64 0,.int .i64 0,.int .i64 0,.int .i64 E] 153 (0,0)):=hWF▸four_put HQ.out.b6
          have hbw:Below w.heap.size w WF:=hWF▸(((HQ.out.below.setCell (by simp) _).setCell (by simp) _).setCell (by simp) _).setCell (by simp) _
          have r0:WF.cell? ⟨w.heap.size,0,none⟩=_:=blk_cell hb6 0
          have r1:WF.cell? ⟨w.heap.size,1,none⟩=_:=blk_cell hb6 1
          have r2:WF.cell? ⟨w.heap.size,2,none⟩=_:=blk_cell hb6 2
          have r3:WF.cell? ⟨w.heap.size,3,none⟩=_:=blk_cell hb6 3
          exact bodyPost_ret (v:=.agg #[.int .i64 0,.int .i64 0,.int .i64 0,.int .i64 E]) (by simp [results,Tryz.results123,go_sem,r0,r1,r2,r3]) rfl ⟨by rw [HRS.out.1,HRS.out.2.1,HRS.out.2.2.1,HRS.out.2.2.2],hbw⟩
  ·have HRS:=Lib.hid (⟨k2,k3,k4,k5⟩:cutK res=ck∧cutA at_ res=ca∧cutN res=cn∧cutE res=ce)
   have c0:wc.cell? ⟨B,0,none⟩=some (.int .i64 ck):=blk_cell HB.out.bc 0
   have c1:wc.cell? ⟨B,1,none⟩=some (.int .i64 ca):=blk_cell HB.out.bc 1
   have c2:wc.cell? ⟨B,2,none⟩=some (.int .i64 cn):=blk_cell HB.out.bc 2
   have c3:wc.cell? ⟨B,3,none⟩=some (.int .i64 ce):=blk_cell HB.out.bc 3
   have d0:wc.cell? ⟨w.heap.size,0,none⟩=some (.int .i64 0):=blk_cell HB.out.b6 0
   have d1:wc.cell? ⟨w.heap.size,1,none⟩=some (.int .i64 0):=blk_cell HB.out.b6 1
   have d2:wc.cell? ⟨w.heap.size,2,none⟩=some (.int .i64 0):=blk_cell HB.out.b6 2
   have d3:wc.cell? ⟨w.heap.size,3,none⟩=some (.int .i64 0):=blk_cell HB.out.b6 3
   have e0:=blk_frozen HB.out.b6 0
   have e1:=blk_frozen HB.out.b6 1
   have e2:=blk_frozen HB.out.b6 2
   have e3:=blk_frozen HB.out.b6 3
   by_cases hck:ck=0
   ·have g1:(ck !=0)=false:=by simpa using hck
    have g2:(ce !=0)=true:=by
     rw [bne_iff_ne]
     rcases k1 with h|h
     ·exact absurd hck h
     ·exact h
    clear k1 k2 k3 k4 k5 hck hc
    go_wp2
    obtain ⟨WF,hWF⟩: ∃WF,(((wc.setCell ⟨w.heap.size,0,none⟩ (.int .i64 ck)).setCell ⟨w.heap.size,1,none⟩ (.int .i64 ca)).setCell ⟨w.heap.size,2,none⟩ (.int .i64 cn)).setCell ⟨w.heap.size,3,none⟩ (.int .i64 ce)=WF:=⟨_,rfl⟩
    rw [hWF]
    have hb6:WF.heap[w.heap.size]? =some (.cells #[.int .i64 ck,.int .i64 ca,.int .i64 cn,.int .i64 ce] 153 (0,0)):=hWF▸four_put HB.out.b6
    have hbw:Below w.heap.size w WF:=hWF▸(((HB.out.below.setCell (by simp) _).setCell (by simp) _).setCell (by simp) _).setCell (by simp) _
    have r0:WF.cell? ⟨w.heap.size,0,none⟩=_:=blk_cell hb6 0
    have r1:WF.cell? ⟨w.heap.size,1,none⟩=_:=blk_cell hb6 1
    have r2:WF.cell? ⟨w.heap.size,2,none⟩=_:=blk_cell hb6 2
    have r3:WF.cell? ⟨w.heap.size,3,none⟩=_:=blk_cell hb6 3
    exact bodyPost_ret (v:=.agg #[.int .i64 ck,.int .i64 ca,.int .i64 cn,.int .i64 ce]) (by simp [results,Tryz.results123,go_sem,r0,r1,r2,r3]) rfl ⟨by rw [HRS.out.1,HRS.out.2.1,HRS.out.2.2.1,HRS.out.2.2.2],hbw⟩
   ·have g1:(ck !=0)=true:=by simpa using hck
    clear k1 k2 k3 k4 k5 hck hc
    go_wp2
    obtain ⟨WF,hWF⟩: ∃WF,(((wc.setCell ⟨w.heap.size,0,none⟩ (.int .i64 ck)).setCell ⟨w.heap.size,1,none⟩ (.int .i64 ca)).setCell ⟨w.heap.size,2,none⟩ (.int .i64 cn)).setCell ⟨w.heap.size,3,none⟩ (.int .i64 ce)=WF:=⟨_,rfl⟩
    rw [hWF]
    have hb6:WF.heap[w.heap.size]? =some (.cells #[.int .i64 ck,.int .i64 ca,.int .i64 cn,.int .i64 ce] 153 (0,0)):=hWF▸four_put HB.out.b6
    have hbw:Below w.heap.size w WF:=hWF▸(((HB.out.below.setCell (by simp) _).setCell (by simp) _).setCell (by simp) _).setCell (by simp) _
    have r0:WF.cell? ⟨w.heap.size,0,none⟩=_:=blk_cell hb6 0
    have r1:WF.cell? ⟨w.heap.size,1,none⟩=_:=blk_cell hb6 1
    have r2:WF.cell? ⟨w.heap.size,2,none⟩=_:=blk_cell hb6 2
    have r3:WF.cell? ⟨w.heap.size,3,none⟩=_:=blk_cell hb6 3
    exact bodyPost_ret (v:=.agg #[.int .i64 ck,.int .i64 ca,.int .i64 cn,.int .i64 ce]) (by simp [results,Tryz.results123,go_sem,r0,r1,r2,r3]) rfl ⟨by rw [HRS.out.1,HRS.out.2.1,HRS.out.2.2.1,HRS.out.2.2.2],hbw⟩
end Go.Proofs.YtipnlgmeonepfaaGreatDoor.Ref

set_option linter.unusedVariables false
set_option linter.unusedSimpArgs false
namespace Go.Proofs.YtipnlgmeonepfaaGreatDoor.Ref
open Go.RowKit Go.Proofs.YtipnlgmeonepfaaGreatDoorW.PrintWords Go.Proofs.YtipnlgmeonepfaaGreatDoorW.PrintMore
attribute [local go_sem] max2_int min2_int max_two min_two max_three min_three max_four min_four

theorem operand_walk (k:Nat) (t:ByteArray) (w:World):
  Calls Tryz.prog 124 #[.int .i64 k,.string t] w fun e w'=>e=.returned (.bool (Lx.operand k t.data.toList))∧w=w':=by
 obtain ⟨b,hb⟩: ∃b,Lx.operand k t.data.toList=b:=⟨_,rfl⟩
 obtain ⟨y1,hy1⟩: ∃y,(t.toList==[41])=y:=⟨_,rfl⟩
 obtain ⟨y2,hy2⟩: ∃y,(t.toList==[93])=y:=⟨_,rfl⟩
 obtain ⟨x1,hx1⟩: ∃x,((k:Int)==1)=x:=⟨_,rfl⟩
 obtain ⟨x2,hx2⟩: ∃x,((k:Int)==2)=x:=⟨_,rfl⟩
 obtain ⟨x4,hx4⟩: ∃x,((k:Int)==4)=x:=⟨_,rfl⟩
 obtain ⟨x5,hx5⟩: ∃x,((k:Int)==5)=x:=⟨_,rfl⟩
 have HB:Hid (b=(x1||x2||x4||(x5&&(y1||y2)))):=Lib.hid (by
  rw [←hb,←hy1,←hy2,←hx1,←hx2,←hx4,←hx5,Lib.toList_data]
  unfold Lx.operand
  have e: ∀n:Nat,((k:Int)==(n:Int))=(k==n):=fun n=>isK k n
  rw [show ((k:Int)==1)=(k==1) from e 1,show ((k:Int)==2)=(k==2) from e 2,show ((k:Int)==4)=(k==4) from e 4,show ((k:Int)==5)=(k==5) from e 5])
 rw [hb]
 clear hb
 cases x1 with
 |true=>
  have HF:Hid (b=true):=Lib.hid (by rw [HB.out];rfl)
  clear HB
  go_enter Tryz.func124,Tryz.ntmps124
  go_wp2
  go_ret
  exact ⟨by rw [HF.out];rfl,rfl⟩
 |false=>
 cases x2 with
 |true=>
  have HF:Hid (b=true):=Lib.hid (by rw [HB.out];rfl)
  clear HB
  go_enter Tryz.func124,Tryz.ntmps124
  go_wp2
  go_ret
  exact ⟨by rw [HF.out];rfl,rfl⟩
 |false=>
 cases x4 with
 |true=>
  have HF:Hid (b=true):=Lib.hid (by rw [HB.out];rfl)
  clear HB
  go_enter Tryz.func124,Tryz.ntmps124
  go_wp2
  go_ret
  exact ⟨by rw [HF.out];rfl,rfl⟩
 |false=>
 cases x5 with
 |false=>
  have HF:Hid (b=false):=Lib.hid (by rw [HB.out];rfl)
  clear HB
  go_enter Tryz.func124,Tryz.ntmps124
  go_wp2
  go_ret
  exact ⟨by rw [HF.out];rfl,rfl⟩
 |true=>
 cases y1 with
 |true=>
  have HF:Hid (b=true):=Lib.hid (by rw [HB.out];rfl)
  clear HB
  go_enter Tryz.func124,Tryz.ntmps124
  go_wp2
  go_ret
  exact ⟨by rw [HF.out];rfl,rfl⟩
 |false=>
  have HF:Hid (b=y2):=Lib.hid (by rw [HB.out];cases y2<;>rfl)
  clear HB
  go_enter Tryz.func124,Tryz.ntmps124
  go_wp2
  go_ret
  exact ⟨by rw [HF.out];rfl,rfl⟩
/-- What lies in memory while the pieces are cut: what is to be returned, and the pieces so far. -/
structure PF (w W:World) (v:Value) (l:List Lx.Piece):Prop where
 below:Below w.heap.size w W
 own:W.ownsRow w.heap.size 129 3 v l.length (Lx.cellsOf l)
 b2:W.heap[w.heap.size]? =some (.cells #[.slice none 0 0,.int .i64 0,.int .i64 0] 126 (0,0))
theorem PF.step {w W W':World} {v:Value} {l:List Lx.Piece} (h:PF w W v l) (hb:Below W.heap.size W W'):PF w W' v l:=
 ⟨h.below.trans (hb.mono h.below.size),own_move h.own (fun k hk=>hb.block k (own_lt h.own k hk)),blk_below h.b2 hb⟩
theorem PF.far {w W:World} {v:Value} {l:List Lx.Piece} (h:PF w W v l) {g:Nat} {cs:Array Value} (hg:W.heap[g]? =some (.cells cs 153 (0,0))) (hgb:w.heap.size≤g) (i:Nat) (u:Value):PF w (W.setCell ⟨g,i,none⟩ u) v l:=by
 have hne:w.heap.size≠g:=by
  intro e
  have h1:=h.b2
  rw [e,hg] at h1
  injection h1 with h1
  injection h1 with _ h2 _
  exact absurd h2 (by decide)
 refine ⟨h.below.setCell hgb _,own_move h.own (fun k hk=>Below.heap_setCell _ _ _ k ?_),blk_far h.b2 hne _⟩
 intro e
 have:=own_ne h.own hg (by decide)
 exact this (by rw [hk,show k=g from e])
def piecesSo (l:List Lx.Piece):Except (Nat×Int) (List Lx.Piece)→Except (Nat×Int) (List Lx.Piece)
 | .ok r=> .ok (l++r)
 | .error e=> .error e
theorem info_piece:(Tryz.prog.info? 129).map (fun i=>(i.zero,i.size,i.bytes))=some (some (.agg #[.int .i64 0,.int .i64 0,.int .i64 0]),3,24):=by kernel_rfl
def Got (text:ByteArray) (w:World) (e:Ending) (w':World):Prop:= ∃v,e=.returned (.agg #[v,.int .i64 (Lx.outAt text),.int .i64 (Lx.outE text)])∧w'.ownsRow w.heap.size 129 3 v (Lx.outL text).length (Lx.cellsOf (Lx.outL text))∧Below w.heap.size w w'
theorem three_put {W:World} {g:Nat} {t:TypeId} {a b c a' b' c':Value} (h:W.heap[g]? =some (.cells #[a,b,c] t (0,0))):(((W.setCell ⟨g,0,none⟩ a').setCell ⟨g,1,none⟩ b').setCell ⟨g,2,none⟩ c').heap[g]? =some (.cells #[a',b',c'] t (0,0)):=
 blk_put (blk_put (blk_put h 0 _ rfl) 1 _ rfl) 2 _ rfl
set_option maxHeartbeats 12800000 in
set_option maxRecDepth 100000 in
theorem rpieces_walk (text:ByteArray) (hbig:text.size≤9223372036854775807) (w:World):
  Calls Tryz.prog 99 #[.string text] w (Got text w):=by
 by_cases hs: ¬text.size≤20000
 ·have g1:decide ((20000:Int)<text.size)=true:=decide_eq_true (by omega)
  have HO:Hid (Lx.outL text=[]∧Lx.outAt text=0∧Lx.outE text=2):=Lib.hid (by
   unfold Lx.outL Lx.outAt Lx.outE Lx.pieces
   rw [if_pos (by rw [data_length];omega)]
   exact ⟨rfl,rfl,rfl⟩)
  clear hs
  go_enter Tryz.func99,Tryz.ntmps99
  go_wp2
  refine bodyPost_ret (v:=.agg #[.slice none 0 0,.int .i64 0,.int .i64 2]) (by simp [results,Tryz.results99,go_sem]) rfl ?_
  refine ⟨_,by rw [HO.out.2.1,HO.out.2.2],by rw [HO.out.1];exact own_nil _ _ _ _, ?_⟩
  repeat (first|(with_reducible exact Below.refl _ _)|(with_reducible apply below_alloc)|(with_reducible refine Below.setCell ?_ ?_ _;case refine_2=>simp))
 have hs:text.size≤20000:=by omega
 have g1:decide ((20000:Int)<text.size)=false:=decide_eq_false (by omega)
 obtain ⟨Res,hR⟩: ∃R,Lx.pieces text.data.toList=R:=⟨_,rfl⟩
 have hR0:Lx.piecesGo text.size text.data.toList 0 0 false=Res:=by
  rw [←hR]
  unfold Lx.pieces
  rw [if_neg (by rw [data_length];omega),data_length]
 have HRES:=Lib.hid hR
 have HR0:=Lib.hid hR0
 clear hR hR0
 obtain ⟨i0,hi0,hz0,hz1,hz2⟩:=info_parts info_piece
 have HI0:=Lib.hid hi0
 have HZ0:=Lib.hid hz0
 have HZ1:=Lib.hid hz1
 have HZ2:=Lib.hid hz2
 clear hi0 hz0 hz1 hz2
 go_enter Tryz.func99,Tryz.ntmps99
 go_wp2
 obtain ⟨W0,hW0⟩: ∃W0,w.alloc (.cells #[.slice none 0 0,.int .i64 0,.int .i64 0] 126)=W0:=⟨_,rfl⟩
 rw [hW0]
 have HP0:Hid (PF w W0 (.slice none 0 0) []):=Lib.hid (by
  rw [←hW0]
  exact ⟨below_alloc (Below.refl _ _) _,own_nil _ _ _ _,blk_new _ _⟩)
 clear hW0
 go_loopg [3,4,5,6] text.size (fun kq v3 v4 v5 v6 wr=> ∃(at_ toks:Nat) (op:Bool) (l:List Lx.Piece),v6=.int .i64 at_∧v4=.int .i64 toks∧v5=.bool op∧at_≤text.size∧kq=text.size-at_∧toks≤at_∧l.length≤at_∧Hid (∃f,text.size-at_≤f∧piecesSo l (Lx.piecesGo f (text.data.toList.drop at_) at_ toks op)=Res)∧Hid (PF w wr v3 l))
 case atStart=>exact ⟨0,0,false,[],rfl,rfl,rfl,by omega,by omega,by omega,by simp,Lib.hid ⟨text.size,by omega,by rw [List.drop_zero,HR0.out];cases Res<;>simp [piecesSo]⟩,HP0⟩
 case round=>
  obtain ⟨at_,toks,op,l,rfl,rfl,rfl,hat,hkq,htk,hll,HF,HP⟩:=hrel
  clear HP0
  have HKQ:=Lib.hid hkq
  clear hkq
  by_cases hlt:at_<text.size
  ·have g2:decide (at_<text.size)=true:=decide_eq_true hlt
   obtain ⟨x,t,hxt⟩: ∃x t,text.data.toList.drop at_=x::t:=by
    cases h:text.data.toList.drop at_ with
    |nil=>
     have:=congrArg List.length h
     rw [List.length_drop,data_length] at this
     simp at this
     omega
    |cons x t=>exact ⟨x,t,rfl⟩
   have HXT:=Lib.hid hxt
   have hlen:(x::t).length=text.size-at_:=by rw [←hxt,List.length_drop,data_length]
   have HLN:=Lib.hid hlen
   obtain ⟨res,hres⟩: ∃r,Lx.next op (x::t)=r:=⟨_,rfl⟩
   have HRS:=Lib.hid hres
   have HPW:Hid (∀w:World,Calls Tryz.prog 123 #[.string text,.int .i64 at_,.bool op] w (Cut4 (cutK res) (cutA at_ res) (cutN res) (cutE res) w)):=Lib.hid fun w=>by
    have:=piece_walk text at_ op hs hlt w
    rw [hxt,hres] at this
    exact this
   clear hxt hlen hres
   go_upto_region 8 with (fail)
   go_cut [7] (fun v7 wc=> ∃g,v7=.pointer (some ⟨g,0,none⟩)∧w.heap.size≤g∧Hid (wc.heap[g]? =some (.cells #[.int .i64 (cutK res),.int .i64 (cutA at_ res),.int .i64 (cutN res),.int .i64 (cutE res)] 153 (0,0)))∧Hid (PF w wc u3 l))
   case first=>
    go_wp2_with (go_at_call 123;refine (HPW.out _).mono ?_;rintro e w1 ⟨rfl,hb1⟩;have HB1:=Lib.hid hb1;clear hb1)
    go_meet
    case rel=>exact ⟨_,rfl,Nat.le_trans HP.out.below.size HB1.out.size,Lib.hid (blk_new _ _),Lib.hid ((HP.out.step HB1.out).step (below_alloc (Below.refl _ _) _))⟩
   case rest=>
    obtain ⟨g,rfl,hgb,HG,HPc⟩:=hcut
    clear HP HPW
    cases res with
    |error e=>
     have HE0:Hid (e≠0):=Lib.hid (Lx.next_err HRS.out)
     have HRR:Hid (Res=.error (at_,e)):=Lib.hid (by
      obtain ⟨f,hf1,hf2⟩:=HF.out
      obtain ⟨f,rfl⟩: ∃m,f=m+1:=⟨f-1,by omega⟩
      rw [HXT.out,Lx.go_step,HRS.out] at hf2
      exact hf2.symm)
     have x1:(e==0)=false:=by rw [beq_eq_false_iff_ne];exact HE0.out
     have x2:(e !=0)=true:=by rw [bne_iff_ne];exact HE0.out
     have c3:wc.cell? ⟨g,3,none⟩=some (.int .i64 e):=blk_cell HG.out 3
     have d0:wc.cell? ⟨w.heap.size,0,none⟩=some (.slice none 0 0):=blk_cell HPc.out.b2 0
     have d1:wc.cell? ⟨w.heap.size,1,none⟩=some (.int .i64 0):=blk_cell HPc.out.b2 1
     have d2:wc.cell? ⟨w.heap.size,2,none⟩=some (.int .i64 0):=blk_cell HPc.out.b2 2
     have e0:=blk_frozen HPc.out.b2 0
     have e1:=blk_frozen HPc.out.b2 1
     have e2:=blk_frozen HPc.out.b2 2
     have HOUT:Hid (Lx.outL text=[]∧Lx.outAt text=at_∧Lx.outE text=e):=Lib.hid (by
      unfold Lx.outL Lx.outAt Lx.outE
      rw [HRES.out,HRR.out]
      exact ⟨rfl,rfl,rfl⟩)
     go_wp2
     obtain ⟨WF,hWF⟩: ∃WF,((wc.setCell ⟨w.heap.size,0,none⟩ (.slice none 0 0)).setCell ⟨w.heap.size,1,none⟩ (.int .i64 at_)).setCell ⟨w.heap.size,2,none⟩ (.int .i64 e)=WF:=⟨_,rfl⟩
     rw [hWF]
     have hb2:WF.heap[w.heap.size]? =some (.cells #[.slice none 0 0,.int .i64 at_,.int .i64 e] 126 (0,0)):=hWF▸three_put HPc.out.b2
     have hbw:Below w.heap.size w WF:=hWF▸((HPc.out.below.setCell (by simp) _).setCell (by simp) _).setCell (by simp) _
     have r0:WF.cell? ⟨w.heap.size,0,none⟩=_:=blk_cell hb2 0
     have r1:WF.cell? ⟨w.heap.size,1,none⟩=_:=blk_cell hb2 1
     have r2:WF.cell? ⟨w.heap.size,2,none⟩=_:=blk_cell hb2 2
     refine bodyPost_ret (v:=.agg #[.slice none 0 0,.int .i64 at_,.int .i64 e]) (by simp [results,Tryz.results99,go_sem,r0,r1,r2]) rfl ?_
     exact ⟨_,by rw [HOUT.out.2.1,HOUT.out.2.2],by rw [HOUT.out.1];exact own_nil _ _ _ _,hbw⟩
    |ok r=>
     obtain ⟨kd,n⟩:=r
     have hb:=Lx.next_len (by simp) HRS.out
     have hnl:=HLN.out
     have hn1:1≤n:=hb.1
     have hn2:at_+n≤text.size:=by have:=hb.2;omega
     clear hb hnl
     have c0:wc.cell? ⟨g,0,none⟩=some (.int .i64 kd):=blk_cell HG.out 0
     have c1:wc.cell? ⟨g,1,none⟩=some (.int .i64 at_):=blk_cell HG.out 1
     have c2:wc.cell? ⟨g,2,none⟩=some (.int .i64 n):=blk_cell HG.out 2
     have c3:wc.cell? ⟨g,3,none⟩=some (.int .i64 0):=blk_cell HG.out 3
     have fz3:=blk_frozen HG.out 3
     have hw1:IntKind.i64.wrap ((at_:Int)+n)=(at_:Int)+n:=IntWalk.i64_in _ (by omega)
     have hw2:IntKind.i64.wrap ((toks:Int)+1)=(toks:Int)+1:=IntWalk.i64_in _ (by omega)
     have hi1:(0:Int)≤at_:=by omega
     have hi2:(at_:Int)≤(at_:Int)+n:=by omega
     have hi3:(at_:Int)+n≤text.size:=by omega
     have ht1:((at_:Int)+n).toNat=at_+n:=by omega
     obtain ⟨T,hT⟩: ∃T,text.extract at_ (at_+n)=T:=⟨_,rfl⟩
     have HT:Hid (T.data.toList=(x::t).take n):=Lib.hid (by rw [←hT,Lib.extract_data,HXT.out,show at_+n-at_=n from by omega])
     obtain ⟨op2,hop2⟩: ∃o,Lx.operand kd ((x::t).take n)=o:=⟨_,rfl⟩
     have HOP:Hid (∀w:World,Calls Tryz.prog 124 #[.int .i64 kd,.string T] w fun e w'=>e=.returned (.bool op2)∧w=w'):=Lib.hid fun w=>by
      have:=operand_walk kd T w
      rw [HT.out,hop2] at this
      exact this
     have HSTEP:Hid (∃f,text.size-(at_+n)≤f∧piecesSo l (if kd≤6∧6000<toks+1 then (.error (at_,2):Except (Nat×Int) (List Lx.Piece)) else match Lx.piecesGo f (text.data.toList.drop (at_+n)) (at_+n) (if kd≤6 then toks+1 else toks) (if kd≤6 then op2 else op) with| .error e=> .error e| .ok l=> .ok (⟨kd,at_,n⟩::l))=Res):=Lib.hid (by
      obtain ⟨f,hf1,hf2⟩:=HF.out
      obtain ⟨f,rfl⟩: ∃m,f=m+1:=⟨f-1,by omega⟩
      have hd:(x::t).drop n=text.data.toList.drop (at_+n):=by rw [←HXT.out,List.drop_drop]
      rw [HXT.out,Lx.go_step,HRS.out] at hf2
      dsimp only at hf2
      rw [hd,hop2] at hf2
      exact ⟨f,by omega,hf2⟩)
     clear hop2
     by_cases hk6:kd≤6
     ·have x6:decide ((kd:Int)≤6)=true:=decide_eq_true (by omega)
      by_cases h6000:6000<toks+1
      ·have x7:decide ((6000:Int)<(toks:Int)+1)=true:=decide_eq_true (by omega)
       have HRR:Hid (Res=.error (at_,2)):=Lib.hid (by
        obtain ⟨f,hf1,hf2⟩:=HSTEP.out
        rw [if_pos ⟨hk6,h6000⟩] at hf2
        exact hf2.symm)
       have HOUT:Hid (Lx.outL text=[]∧Lx.outAt text=at_∧Lx.outE text=2):=Lib.hid (by
        unfold Lx.outL Lx.outAt Lx.outE
        rw [HRES.out,HRR.out]
        exact ⟨rfl,rfl,rfl⟩)
       clear hk6 h6000
       go_upto_region 13 with (fail)
       obtain ⟨X,hX⟩: ∃X,wc.setCell ⟨g,3,none⟩ (.int .i64 2)=X:=⟨_,rfl⟩
       rw [hX]
       have HGX:Hid (X.heap[g]? =some (.cells #[.int .i64 kd,.int .i64 at_,.int .i64 n,.int .i64 2] 153 (0,0))):=Lib.hid (hX▸blk_put HG.out 3 _ rfl)
       have HPX:Hid (PF w X u3 l):=Lib.hid (hX▸HPc.out.far HG.out hgb 3 _)
       clear hX c0 c1 c2 c3 fz3 HG HPc
       have c0:X.cell? ⟨g,0,none⟩=some (.int .i64 kd):=blk_cell HGX.out 0
       have c2:X.cell? ⟨g,2,none⟩=some (.int .i64 n):=blk_cell HGX.out 2
       go_cut [5] (fun v5 wd=>v5=.bool op2∧Hid (wd.heap[g]? =some (.cells #[.int .i64 kd,.int .i64 at_,.int .i64 n,.int .i64 2] 153 (0,0)))∧Hid (PF w wd u3 l))
       case first=>
        go_quiet ((go_at_call 124;exact quiet_eq (HOP.out _)))
        go_wp2
        go_meet
        case rel=>exact ⟨rfl,Lib.hid (blk_drewN HGX.out _),Lib.hid (PF.step HPX.out (pw_below_drewN (Below.refl _ _) _))⟩
       case rest=>
        obtain ⟨rfl,HGd,HPd⟩:=hcut
        clear HGX HPX c0 c2
        have c3:wc.cell? ⟨g,3,none⟩=some (.int .i64 2):=blk_cell HGd.out 3
        have d0:wc.cell? ⟨w.heap.size,0,none⟩=some (.slice none 0 0):=blk_cell HPd.out.b2 0
        have d1:wc.cell? ⟨w.heap.size,1,none⟩=some (.int .i64 0):=blk_cell HPd.out.b2 1
        have d2:wc.cell? ⟨w.heap.size,2,none⟩=some (.int .i64 0):=blk_cell HPd.out.b2 2
        have e0:=blk_frozen HPd.out.b2 0
        have e1:=blk_frozen HPd.out.b2 1
        have e2:=blk_frozen HPd.out.b2 2
        go_wp2
        obtain ⟨WF,hWF⟩: ∃WF,((wc.setCell ⟨w.heap.size,0,none⟩ (.slice none 0 0)).setCell ⟨w.heap.size,1,none⟩ (.int .i64 at_)).setCell ⟨w.heap.size,2,none⟩ (.int .i64 2)=WF:=⟨_,rfl⟩
        rw [hWF]
        have hb2:WF.heap[w.heap.size]? =some (.cells #[.slice none 0 0,.int .i64 at_,.int .i64 2] 126 (0,0)):=hWF▸three_put HPd.out.b2
        have hbw:Below w.heap.size w WF:=hWF▸((HPd.out.below.setCell (by simp) _).setCell (by simp) _).setCell (by simp) _
        have r0:WF.cell? ⟨w.heap.size,0,none⟩=_:=blk_cell hb2 0
        have r1:WF.cell? ⟨w.heap.size,1,none⟩=_:=blk_cell hb2 1
        have r2:WF.cell? ⟨w.heap.size,2,none⟩=_:=blk_cell hb2 2
        refine bodyPost_ret (v:=.agg #[.slice none 0 0,.int .i64 at_,.int .i64 2]) (by simp [results,Tryz.results99,go_sem,r0,r1,r2]) rfl ?_
        exact ⟨_,by rw [HOUT.out.2.1,HOUT.out.2.2],by rw [HOUT.out.1];exact own_nil _ _ _ _,hbw⟩
      ·have x7:decide ((6000:Int)<(toks:Int)+1)=false:=decide_eq_false (by omega)
       have HNEXT:Hid (∃f,text.size-(at_+n)≤f∧piecesSo l (match Lx.piecesGo f (text.data.toList.drop (at_+n)) (at_+n) (toks+1) op2 with| .error e=> .error e| .ok l=> .ok (⟨kd,at_,n⟩::l))=Res):=Lib.hid (by
        obtain ⟨f,hf1,hf2⟩:=HSTEP.out
        rw [if_neg (fun h=>h6000 h.2)] at hf2
        simp only [if_pos hk6] at hf2
        exact ⟨f,hf1,hf2⟩)
       clear hk6 h6000 HSTEP
       go_upto_region 13 with (fail)
       go_cut [5] (fun v5 wd=>v5=.bool op2∧Hid (wd.heap[g]? =some (.cells #[.int .i64 kd,.int .i64 at_,.int .i64 n,.int .i64 0] 153 (0,0)))∧Hid (PF w wd u3 l))
       case first=>
        go_quiet ((go_at_call 124;exact quiet_eq (HOP.out _)))
        go_wp2
        go_meet
        case rel=>exact ⟨rfl,Lib.hid (blk_drewN HG.out _),Lib.hid (PF.step HPc.out (pw_below_drewN (Below.refl _ _) _))⟩
       case rest=>
        obtain ⟨rfl,HGd,HPd⟩:=hcut
        clear HG HPc c0 c1 c2 c3 fz3
        have k0:wc.cell? ⟨g,0,none⟩=some (.int .i64 kd):=blk_cell HGd.out 0
        have k1:wc.cell? ⟨g,1,none⟩=some (.int .i64 at_):=blk_cell HGd.out 1
        have k2:wc.cell? ⟨g,2,none⟩=some (.int .i64 n):=blk_cell HGd.out 2
        have k3:wc.cell? ⟨g,3,none⟩=some (.int .i64 0):=blk_cell HGd.out 3
        have hlt2:w.heap.size≤wc.heap.size:=HPd.out.below.size
        go_wp2_with (at_builtin;refine wpList_append_lies _ rfl (.tmp 53) (.tmp 56) 124 rfl w.heap.size 129 i0 (.agg #[.int .i64 0,.int .i64 0,.int .i64 0]) 3 24 Tryz.underlying124 HI0.out HZ0.out HZ1.out HZ2.out rfl (by decide) u3 l.length (Lx.cellsOf l) rfl (HPd.out.own.alloc _) ⟨wc.heap.size,0,none⟩ 1 1 [.int .i64 kd,.int .i64 at_,.int .i64 n] rfl rfl (World.news_of_block (blk_new _ _)) (by simp [Value.oneCell']) (by decide) (by simp only [maxLen];omega) (by omega) (alloc_room' hlt2) _ rfl ?_;intro g9 cap9 w9 hown hgrow hat9 hlt9;have k2:w9.cell? ⟨g,2,none⟩=some (.int .i64 n):=blk_cell (blk_grown (blk_alloc HGd.out _) hgrow (own_ne HPd.out.own HGd.out (by decide))) 2;have HOWN:=Lib.hid hown;have HGROW:=Lib.hid hgrow;clear hown hgrow hat9 hlt9)
        go_roundg (gk-n)
        case measure=>have:=HKQ.out;omega
        case rel=>
         refine ⟨at_+n,toks+1,op2,l++[⟨kd,at_,n⟩],by go_num,by first|rfl|go_num,rfl,by omega,by have:=HKQ.out;omega,by omega,by rw [List.length_append,List.length_singleton];omega,Lib.hid ?_,Lib.hid ⟨?_, ?_, ?_⟩⟩
         ·obtain ⟨f,hf1,hf2⟩:=HNEXT.out
          refine ⟨f,hf1, ?_⟩
          rw [←hf2]
          cases Lx.piecesGo f (text.data.toList.drop (at_+n)) (at_+n) (toks+1) op2 with
          |error e=>rfl
          |ok r=>simp [piecesSo]
         ·exact ((HPd.out.below.alloc hlt2 _)).grown HGROW.out (alloc_room' hlt2) (own_base HPd.out.own)
         ·rw [Lx.cellsOf_snoc,List.length_append]
          exact HOWN.out
         ·exact blk_grown (blk_alloc HPd.out.b2 _) HGROW.out (own_ne HPd.out.own HPd.out.b2 (by decide))
     ·have x6:decide ((kd:Int)≤6)=false:=decide_eq_false (by omega)
      have HNEXT:Hid (∃f,text.size-(at_+n)≤f∧piecesSo l (match Lx.piecesGo f (text.data.toList.drop (at_+n)) (at_+n) toks op with| .error e=> .error e| .ok l=> .ok (⟨kd,at_,n⟩::l))=Res):=Lib.hid (by
       obtain ⟨f,hf1,hf2⟩:=HSTEP.out
       rw [if_neg (fun h=>hk6 h.1)] at hf2
       simp only [if_neg hk6] at hf2
       exact ⟨f,hf1,hf2⟩)
      clear hk6 HSTEP c0 c1 c2 c3 fz3
      have k0:wc.cell? ⟨g,0,none⟩=some (.int .i64 kd):=blk_cell HG.out 0
      have k1:wc.cell? ⟨g,1,none⟩=some (.int .i64 at_):=blk_cell HG.out 1
      have k2:wc.cell? ⟨g,2,none⟩=some (.int .i64 n):=blk_cell HG.out 2
      have k3:wc.cell? ⟨g,3,none⟩=some (.int .i64 0):=blk_cell HG.out 3
      have hlt2:w.heap.size≤wc.heap.size:=HPc.out.below.size
      go_wp2_with (at_builtin;refine wpList_append_lies _ rfl (.tmp 53) (.tmp 56) 124 rfl w.heap.size 129 i0 (.agg #[.int .i64 0,.int .i64 0,.int .i64 0]) 3 24 Tryz.underlying124 HI0.out HZ0.out HZ1.out HZ2.out rfl (by decide) u3 l.length (Lx.cellsOf l) rfl (HPc.out.own.alloc _) ⟨wc.heap.size,0,none⟩ 1 1 [.int .i64 kd,.int .i64 at_,.int .i64 n] rfl rfl (World.news_of_block (blk_new _ _)) (by simp [Value.oneCell']) (by decide) (by simp only [maxLen];omega) (by omega) (alloc_room' hlt2) _ rfl ?_;intro g9 cap9 w9 hown hgrow hat9 hlt9;have k2:w9.cell? ⟨g,2,none⟩=some (.int .i64 n):=blk_cell (blk_grown (blk_alloc HG.out _) hgrow (own_ne HPc.out.own HG.out (by decide))) 2;have HOWN:=Lib.hid hown;have HGROW:=Lib.hid hgrow;clear hown hgrow hat9 hlt9)
      go_roundg (gk-n)
      case measure=>have:=HKQ.out;omega
      case rel=>
       refine ⟨at_+n,toks,op,l++[⟨kd,at_,n⟩],by go_num,by first|rfl|go_num,rfl,by omega,by have:=HKQ.out;omega,by omega,by rw [List.length_append,List.length_singleton];omega,Lib.hid ?_,Lib.hid ⟨?_, ?_, ?_⟩⟩
       ·obtain ⟨f,hf1,hf2⟩:=HNEXT.out
        refine ⟨f,hf1, ?_⟩
        rw [←hf2]
        cases Lx.piecesGo f (text.data.toList.drop (at_+n)) (at_+n) (toks) op with
        |error e=>rfl
        |ok r=>simp [piecesSo]
       ·exact ((HPc.out.below.alloc hlt2 _)).grown HGROW.out (alloc_room' hlt2) (own_base HPc.out.own)
       ·rw [Lx.cellsOf_snoc,List.length_append]
        exact HOWN.out
       ·exact blk_grown (blk_alloc HPc.out.b2 _) HGROW.out (own_ne HPc.out.own HPc.out.b2 (by decide))
  ·have g2:decide (at_<text.size)=false:=decide_eq_false hlt
   have HRR:Hid (Res=.ok l):=Lib.hid (by
    obtain ⟨f,hf1,hf2⟩:=HF.out
    rw [List.drop_of_length_le (by rw [data_length];omega)] at hf2
    rw [←hf2]
    cases f<;>simp [Lx.piecesGo,piecesSo])
   have HOUT:Hid (Lx.outL text=l∧Lx.outAt text=0∧Lx.outE text=0):=Lib.hid (by
    unfold Lx.outL Lx.outAt Lx.outE
    rw [HRES.out,HRR.out]
    exact ⟨rfl,rfl,rfl⟩)
   obtain ⟨A,nx,cx,rfl⟩: ∃A nx cx,u3=.slice A nx cx:=by
    rcases HP.out.own.2 with ⟨rfl,_⟩|⟨g,cap,cur,rfl,_⟩
    ·exact ⟨_,_,_,rfl⟩
    ·exact ⟨_,_,_,rfl⟩
   clear hlt HF
   have d0:wr.cell? ⟨w.heap.size,0,none⟩=some (.slice none 0 0):=blk_cell HP.out.b2 0
   have d1:wr.cell? ⟨w.heap.size,1,none⟩=some (.int .i64 0):=blk_cell HP.out.b2 1
   have d2:wr.cell? ⟨w.heap.size,2,none⟩=some (.int .i64 0):=blk_cell HP.out.b2 2
   have e0:=blk_frozen HP.out.b2 0
   have e1:=blk_frozen HP.out.b2 1
   have e2:=blk_frozen HP.out.b2 2
   go_wp2
   obtain ⟨WF,hWF⟩: ∃WF,((wr.setCell ⟨w.heap.size,0,none⟩ (.slice A nx cx)).setCell ⟨w.heap.size,1,none⟩ (.int .i64 0)).setCell ⟨w.heap.size,2,none⟩ (.int .i64 0)=WF:=⟨_,rfl⟩
   rw [hWF]
   have hb2:WF.heap[w.heap.size]? =some (.cells #[.slice A nx cx,.int .i64 0,.int .i64 0] 126 (0,0)):=hWF▸three_put HP.out.b2
   have hbw:Below w.heap.size w WF:=hWF▸((HP.out.below.setCell (by simp) _).setCell (by simp) _).setCell (by simp) _
   have r0:WF.cell? ⟨w.heap.size,0,none⟩=_:=blk_cell hb2 0
   have r1:WF.cell? ⟨w.heap.size,1,none⟩=_:=blk_cell hb2 1
   have r2:WF.cell? ⟨w.heap.size,2,none⟩=_:=blk_cell hb2 2
   refine bodyPost_ret (v:=.agg #[.slice A nx cx,.int .i64 0,.int .i64 0]) (by simp [results,Tryz.results99,go_sem,r0,r1,r2]) rfl ?_
   refine ⟨_,by rw [HOUT.out.2.1,HOUT.out.2.2], ?_,hbw⟩
   rw [HOUT.out.1]
   refine own_move HP.out.own (fun k hk=> ?_)
   have hne:k≠w.heap.size:=fun e=>own_ne HP.out.own HP.out.b2 (by decide) (by rw [hk,e])
   rw [←hWF]
   exact (Below.heap_setCell _ _ _ k hne).trans ((Below.heap_setCell _ _ _ k hne).trans (Below.heap_setCell _ _ _ k hne))
end Go.Proofs.YtipnlgmeonepfaaGreatDoor.Ref
