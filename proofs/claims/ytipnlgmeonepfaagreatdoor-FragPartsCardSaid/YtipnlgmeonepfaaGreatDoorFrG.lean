/- The reference's Index, walked. -/
import Derived.Test.YtipnlgmeonepfaaGreatDoorFrF
import Derived.Test.YtipnlgmeonepfaaGreatDoorFrA
import Derived.Test.YtipnlgmeonepfaaGreatDoorFrC
import Derived.Test.YtipnlgmeonepfaaGreatDoorFrD
import Derived.BigQuiet
import Derived.Deep.QuietTactic
set_option linter.unusedVariables false
set_option linter.unusedSimpArgs false
namespace Go.Proofs.YtipnlgmeonepfaaGreatDoor.PFa
open Go.RowKit Go.Proofs.YtipnlgmeonepfaaGreatDoorW.PrintWords Go.Proofs.YtipnlgmeonepfaaGreatDoorW.PrintLast Go.Proofs.YtipnlgmeonepfaaGreatDoorW.PrintMore
def idxGo (s:ByteArray):List ByteArray→Nat→Int
 |[],_=> -1
 |u::r,i=>if u=s then (i:Int) else idxGo s r (i+1)
theorem idx_sign (s:ByteArray): ∀(l:List ByteArray) (i:Nat),decide (idxGo s l i<0)= !memB s l
 |[],i=>rfl
 |u::r,i=>by
  unfold idxGo
  by_cases h:u=s
  ·rw [if_pos h,decide_eq_false (by omega),memB_cons,decide_eq_true h]
   rfl
  ·rw [if_neg h,idx_sign s r (i+1),memB_cons,decide_eq_false h,Bool.false_or]
theorem index_val {A:Option Addr} {c:Nat} {ls:List ByteArray} {s:ByteArray} {W:World} (hC:Kd.C Kd.string W A ls.length ls) (hl:ls.length≤1000):
  Calls Tryz.prog 58 #[.slice A ls.length c,.string s] W fun e X'=>e=.returned (.int .i64 (idxGo s ls 0))∧Drawn0 W X':=by
 obtain ⟨V,hV⟩: ∃V,idxGo s ls 0=V:=⟨_,rfl⟩
 rw [hV]
 have HV:=Lib.hid hV
 have HC:=Lib.hid hC
 clear hC hV
 go_enter Tryz.func58,Tryz.ntmps58
 go_wp2_with fail
 go_loopg [5] (ls.length+1) (fun kq v5 wr=> ∃i:Nat,v5=.int .i64 i∧i≤ls.length∧ls.length+1-i≤kq∧Hid (V=idxGo s (ls.drop i) i)∧Hid (Drawn0 W wr))
 case atStart=>exact ⟨0,rfl,Nat.zero_le _,Nat.le_refl _,Lib.hid HV.out.symm,Lib.hid (Drawn0.refl _)⟩
 case round=>
  obtain ⟨i,rfl,hil,hkq,HM,HD⟩:=hrel
  have HKQ:=Lib.hid hkq
  clear hkq
  by_cases hlt:i<ls.length
  ·have x1:decide ((i:Int)<(ls.length:Int))=true:=decide_eq_true (by omega)
   have x2:decide (i<ls.length)=true:=decide_eq_true hlt
   have x3:(0:Int)≤(i:Int):=by omega
   have x4:(i:Int)<(ls.length:Int):=by omega
   have y1:IntKind.i64.wrap ((i:Int)+1)=((i+1:Nat):Int):=by rw [IntWalk.i64_in _ (by omega)];omega
   have y2:wrap64 ((i:Int)+1)=((i+1:Nat):Int):=by unfold wrap64;omega
   have hrw:Kd.C Kd.string wr A ls.length ls:=by obtain ⟨m,rfl⟩:=HD.out;exact Kd.C_drewN HC.out m
   obtain ⟨ad,ead,hx⟩:=Kd.at_string hrw (i:Int) (by omega) (by omega)
   cases ead
   have HSN:Hid (idxGo s (ls.drop i) i=if rdOf ByteArray.empty ls (i:Int)=s then (i:Int) else idxGo s (ls.drop (i+1)) (i+1)):=Lib.hid (by
    have e:rdOf ByteArray.empty ls (i:Int)=ls[i]:=by simp [rdOf,List.getD_eq_getElem?_getD,List.getElem?_eq_getElem hlt]
    rw [e,List.drop_eq_getElem_cons hlt]
    rfl)
   obtain ⟨u,hu⟩: ∃u,rdOf ByteArray.empty ls (i:Int)=u:=⟨_,rfl⟩
   rw [hu] at hx HSN
   simp only [Int.toNat_natCast] at hx
   obtain ⟨q,hq⟩: ∃q,(u.toList==s.toList)=q:=⟨_,rfl⟩
   have HQ:Hid (decide (u=s)=q):=Lib.hid (by rw [←hq,Lib.toList_data s,list_beq])
   clear hrw hu
   cases q with
   |true=>
    have HT:Hid (V=(i:Int)):=Lib.hid (by rw [HM.out,HSN.out,if_pos (of_decide_eq_true HQ.out)])
    go_wp2
    go_ret
    exact ⟨by rw [HT.out];rfl,HD.out⟩
   |false=>
    go_wp2
    go_roundg (gk-1)
    case measure=>have:=HKQ.out;omega
    case rel=>exact ⟨i+1,by go_num,by omega,by have:=HKQ.out;omega,Lib.hid (by rw [HM.out,HSN.out,if_neg (of_decide_eq_false HQ.out)]),HD⟩
  ·have x1:decide ((i:Int)<(ls.length:Int))=false:=decide_eq_false (by omega)
   have x2:decide (i<ls.length)=false:=decide_eq_false hlt
   have HF:Hid (V= -1):=Lib.hid (by rw [HM.out,List.drop_of_length_le (by omega)];rfl)
   go_wp2
   go_ret
   exact ⟨by rw [HF.out];rfl,HD.out⟩
end Go.Proofs.YtipnlgmeonepfaaGreatDoor.PFa

set_option linter.unusedVariables false
set_option linter.unusedSimpArgs false
namespace Go.Proofs.YtipnlgmeonepfaaGreatDoor.PFa
open Go.RowKit Go.Proofs.YtipnlgmeonepfaaGreatDoorW.PrintWords Go.Proofs.YtipnlgmeonepfaaGreatDoorW.PrintLast Go.Proofs.YtipnlgmeonepfaaGreatDoorW.PrintMore
/-- These cells are those of fragments, at this world. -/
def FK (W:World) (cs:List Value) (l:List Fg):Prop:=cs.length=l.length*7∧(∀u∈cs,u.oneCell'=true)∧ ∀j p,l[j]? =some p→k49.K W p ((cs.drop (j*7)).take 7)
theorem FK.nil (W:World):FK W [] []:=⟨rfl,by simp,by simp⟩
theorem FK.app {W:World} {cs ds:List Value} {a b:List Fg} (h:FK W cs a) (k:FK W ds b):FK W (cs++ds) (a++b):=by
 refine ⟨by rw [List.length_append,List.length_append,h.1,k.1,Nat.add_mul],fun u hu=> ?_,fun j p hp=> ?_⟩
 ·rcases List.mem_append.1 hu with hu|hu
  ·exact h.2.1 u hu
  ·exact k.2.1 u hu
 ·have hl:=h.1
  rcases Nat.lt_or_ge j a.length with hj|hj
  ·rw [List.getElem?_append_left hj] at hp
   have:=h.2.2 j p hp
   rw [List.drop_append_of_le_length (by omega),List.take_append_of_le_length (by rw [List.length_drop];omega)]
   exact this
  ·rw [List.getElem?_append_right hj] at hp
   have:=k.2.2 _ p hp
   rw [List.drop_append,List.drop_of_length_le (by omega),List.nil_append,show j*7-cs.length=(j-a.length)*7 by rw [hl,Nat.sub_mul]]
   exact this
theorem FK.one {W:World} {cs:List Value} {p:Fg} (h:k49.K W p cs):FK W cs [p]:=by
 have hl:cs.length=7:=k49.K_len h
 refine ⟨by rw [hl];rfl,k49.K_one h,fun j q hq=> ?_⟩
 rcases j with _|j
 ·obtain rfl:p=q:=by simpa using hq
  rw [Nat.zero_mul,List.drop_zero,List.take_of_length_le (by omega)]
  exact h
 ·simp at hq
theorem FK.below {W W':World} {cs:List Value} {l:List Fg} (h:FK W cs l) (hb:Below W.heap.size W W'):FK W' cs l:=⟨h.1,h.2.1,fun j p hp=>k49.K_below hb (h.2.2 j p hp)⟩
/-- A slice of fragments that is read. -/
theorem C_cells {W:World} {ad:Addr} {l:List Fg} (h:Kd.C k49 W (some ad) l.length l): ∃cs,FK W cs l∧ ∀i u,cs[i]? =some u→W.cell? (ad.add i)=some u:=by
 have key: ∀m,m≤l.length→ ∃cs,FK W cs (l.take m)∧ ∀i u,cs[i]? =some u→W.cell? (ad.add i)=some u:=by
  intro m
  induction m with
  |zero=>exact fun _=>⟨[],by rw [List.take_zero];exact FK.nil W,by simp⟩
  |succ m ih=>
   intro hm
   obtain ⟨cs,h1,h2⟩:=ih (by omega)
   obtain ⟨ad',e,hc⟩:=h.2.2 (by omega)
   cases e
   obtain ⟨c,_,hK,hcell⟩:=hc m _ (List.getElem?_eq_getElem (show m<l.length by omega))
   have hlen:cs.length=m*7:=by rw [h1.1,List.length_take];congr 1;omega
   refine ⟨cs++c, ?_,fun i u hu=> ?_⟩
   ·rw [List.take_succ_eq_append_getElem (by omega)]
    exact h1.app (FK.one hK)
   ·rcases Nat.lt_or_ge i cs.length with hi|hi
    ·rw [List.getElem?_append_left hi] at hu
     exact h2 i u hu
    ·rw [List.getElem?_append_right hi] at hu
     have:=hcell _ u hu
     rw [show m*k49.sz+(i-cs.length)=i by rw [show k49.sz=7 from rfl];omega] at this
     exact this
 have:=key l.length (Nat.le_refl _)
 rwa [List.take_length] at this
theorem C_of_own {w0 W:World} {base n:Nat} {v:Value} {cs:List Value} {l:List Fg} (ho:W.ownsRow base 49 7 v n cs) (hn:n=l.length) (hm:n≤maxLen) (hk:FK w0 cs l) (hb:Below w0.heap.size w0 W): ∃A c,v=.slice A n c∧n≤c∧Kd.C k49 W A n l:=by
 subst hn
 have hk:=hk.below hb
 rcases ho.2 with ⟨rfl,hz⟩|⟨g,cap,cur,rfl,hg,hh,hrest⟩
 ·obtain rfl:l=[]:=List.eq_nil_of_length_eq_zero (by simpa using hz)
  exact ⟨none,0,rfl,by simp,rfl,by simp,fun h=>absurd h (by simp)⟩
 ·obtain ⟨hcap,_,_,_⟩:=hrest
  refine ⟨some ⟨g,0,none⟩,cap,rfl,hcap,rfl,by simpa [maxLen] using hm,fun _=>⟨_,rfl,fun j p hj=>⟨_,k49.K_len (hk.2.2 j p hj),hk.2.2 j p hj,fun i u hu=> ?_⟩⟩⟩
  have h7:i<7:=by
   have:=(List.getElem?_eq_some_iff.1 hu).1
   rw [List.length_take] at this
   omega
  rw [List.getElem?_take_of_lt h7,List.getElem?_drop] at hu
  exact ho.cells (g:=g) rfl (j*7+i) u hu
theorem info_fg:(Tryz.prog.info? 49).map (fun i=>(i.zero,i.size,i.bytes))=some (some (.agg #[.int .i64 0,.int .i64 0,.string ⟨#[]⟩,.int .i64 0,.int .i64 0,.string ⟨#[]⟩,.slice none 0 0]),7,88):=by kernel_rfl
/-- A list of fragments appended to one that is being made. -/
theorem app_frs {w0 X:World} {base:Nat} {v:Value} {cs:List Value} {xs ys:List Fg} {A:Option Addr} {c:Nat} (HO:X.ownsRow base 49 7 v xs.length cs) (HK:FK w0 cs xs) (HR:Kd.C k49 w0 A ys.length ys) (hb:Below w0.heap.size w0 X) (h0:w0.heap.size≤base) (hbase:base≤X.heap.size) (hl:(xs.length+ys.length)*88≤140737488355328):
  ∃v1 w1 ds,(appSem #[25,25] 25 #[v,.slice A ys.length c]).run Tryz.prog X=.ok v1 w1∧w1.ownsRow base 49 7 v1 (xs++ys).length (cs++ds)∧FK w0 (cs++ds) (xs++ys)∧Below base X w1∧X.grownBy w1 v.ownBlock∧(v1.ownBlock=v.ownBlock∨v1.ownBlock=some X.heap.size):=by
 obtain ⟨i0,hi,hzz⟩:=Option.map_eq_some_iff.1 info_fg
 simp only [Prod.mk.injEq] at hzz
 obtain ⟨hz0,hz1,hz2⟩:=hzz
 rcases A with _|ad
 ·have h0:ys.length=0:=by
   rcases Nat.eq_zero_or_pos ys.length with h0|h0
   ·exact h0
   ·obtain ⟨ad,h,_⟩:=HR.2.2 h0
    cases h
  obtain rfl:ys=[]:=List.eq_nil_of_length_eq_zero h0
  refine ⟨v,X,[], ?_,by simpa using HO,by simpa using HK,Below.refl _ _,World.grownBy.refl X _,.inl rfl⟩
  unfold appSem
  rcases HO.2 with ⟨rfl,hn⟩|⟨g,cap,cur,rfl,_,_,hnc,_⟩
  ·simp [Builtin.append_,run_underlying Tryz.underlying25,sizeOf,typeInfo,hi,Builtin.lenOf,Builtin.firstCells]
  ·simp [Builtin.append_,run_underlying Tryz.underlying25,sizeOf,typeInfo,hi,Builtin.lenOf,Builtin.firstCells,hnc,storeCells]
 ·obtain ⟨ds,hk,hc⟩:=C_cells HR
  obtain ⟨v1,w1,hr,h2,h3,_,h5⟩:=run_append_own_at (P:=Tryz.prog) X base 25 25 49 i0 _ 7 88 Tryz.underlying25 hi hz0 hz1 hz2 rfl (by omega) v xs.length cs HO ad ys.length c ds hk.1 (fun j u hu=>hb.cell (World.block_lt_of_cell? w0 _ (hc j u hu))▸hc j u hu) hk.2.1 (by have:=HR.2.1;simp only [maxLen];omega) (by omega) hbase
  exact ⟨v1,w1,ds,hr,by simpa using h2,HK.app hk,(Below.refl base X).grown h3 hbase (own_base HO),h3,h5⟩
end Go.Proofs.YtipnlgmeonepfaaGreatDoor.PFa

set_option linter.unusedVariables false
set_option linter.unusedSimpArgs false
namespace Go.Proofs.YtipnlgmeonepfaaGreatDoor.PFa
open Go.RowKit Go.Proofs.YtipnlgmeonepfaaGreatDoorW.PrintWords Go.Proofs.YtipnlgmeonepfaaGreatDoorW.PrintLast Go.Proofs.YtipnlgmeonepfaaGreatDoorW.PrintMore
def endWords:List ByteArray:=[⟨#[99,108,97,115,115]⟩,⟨#[109,101,116,104,111,100]⟩,⟨#[109,97,99,114,111]⟩]
theorem endWords_eq (s:ByteArray):memB s endWords=((s.toList==cClass)||(s.toList==cMethod)||(s.toList==cMacro)):=by
 have e: ∀b:ByteArray,(s.toList==b.data.toList)=decide (b=s):=fun b=>(list_beq s b).trans (decide_eq_decide.2 ⟨fun h=>h.symm,fun h=>h.symm⟩)
 have e1:=e ⟨#[99,108,97,115,115]⟩
 have e2:=e ⟨#[109,101,116,104,111,100]⟩
 have e3:=e ⟨#[109,97,99,114,111]⟩
 have c1:(⟨#[99,108,97,115,115]⟩:ByteArray).data.toList=cClass:=rfl
 have c2:(⟨#[109,101,116,104,111,100]⟩:ByteArray).data.toList=cMethod:=rfl
 have c3:(⟨#[109,97,99,114,111]⟩:ByteArray).data.toList=cMacro:=rfl
 rw [c1] at e1
 rw [c2] at e2
 rw [c3] at e3
 rw [e1,e2,e3]
 unfold memB endWords
 simp [Bool.or_assoc]
theorem ends_last {l:List Fg} (h:0<l.length):endsB l=memB (rd_T49 l ((l.length:Int)-1)).f1 endWords:=by
 have e:rd_T49 l ((l.length:Int)-1)=l[l.length-1]:=by
  unfold rd_T49
  have:((l.length:Int)-1).toNat=l.length-1:=by omega
  rw [this]
  simp [List.getD_eq_getElem?_getD,List.getElem?_eq_getElem (show l.length-1<l.length by omega)]
 unfold endsB
 rw [e,endWords_eq,List.getLast?_eq_getElem?,List.getElem?_eq_getElem (by omega)]
set_option maxHeartbeats 3200000 in
set_option maxRecDepth 100000 in
theorem ends_c {A:Option Addr} {c:Nat} {l:List Fg} {w:World} (hC:Kd.C k49 w A l.length l):
  Calls Tryz.prog 26 #[.slice A l.length c] w fun e w'=>e=.returned (.bool (endsB l))∧Below w.heap.size w w':=by
 have hln:=hC.2.1
 have HBL:Hid (Below w.heap.size w (w.alloc (.cells #[.string ⟨#[99,108,97,115,115]⟩,.string ⟨#[109,101,116,104,111,100]⟩,.string ⟨#[109,97,99,114,111]⟩] 9 (0,0)))):=Lib.hid (below_alloc (Below.refl _ _) _)
 by_cases h0:0<l.length
 ·have z1:decide ((0:Int)<(l.length:Int))=true:=decide_eq_true (by omega)
  have z2:decide (0<l.length)=true:=decide_eq_true h0
  have y1:wrap64 ((l.length:Int)-1)=(l.length:Int)-1:=by unfold wrap64;omega
  have y2:IntKind.i64.wrap ((l.length:Int)-1)=(l.length:Int)-1:=IntWalk.i64_in _ (by omega)
  have x3:(0:Int)≤(l.length:Int)-1:=by omega
  have x4:(l.length:Int)-1<(l.length:Int):=by omega
  obtain ⟨ad,A6,c6,had,t0,t1,t2,t3,t4,t5,t6,hle6,hC6⟩:=at_T49 (Kd.C_below hC HBL.out) ((l.length:Int)-1) x3 x4
  subst had
  have y3:((l.length:Int)-1).toNat=l.length-1:=by omega
  rw [y3] at t5
  have HV:=Lib.hid (ends_last h0)
  obtain ⟨s,hs⟩: ∃s,(rd_T49 l ((l.length:Int)-1)).f1=s:=⟨_,rfl⟩
  rw [hs] at HV t5
  have hlit:=strs_lit (l:=endWords) (blk_new w (.cells #[.string ⟨#[99,108,97,115,115]⟩,.string ⟨#[109,101,116,104,111,100]⟩,.string ⟨#[109,97,99,114,111]⟩] 9 (0,0))) (by decide)
  have HIX:=Lib.hid (index_val (c:=3) (s:=s) hlit (by decide))
  obtain ⟨t,ht⟩: ∃t,idxGo s endWords 0=t:=⟨_,rfl⟩
  have HSG:Hid (decide (t<0)= !memB s endWords):=Lib.hid (by rw [←ht];exact idx_sign s _ 0)
  rw [ht,show endWords.length=3 from rfl] at HIX
  clear hs ht hlit hC hC6 hle6 t0 t1 t2 t3 t4 t6
  go_enter Tryz.func26,Tryz.ntmps26
  go_wp2_with fail
  refine HIX.out.mono ?_
  rintro e w2 ⟨rfl,hd⟩
  have HD:=Lib.hid (HBL.out.trans (hd.below.mono HBL.out.size))
  clear hd HIX
  by_cases h0:0≤t
  ·have q1:decide (0≤t)=true:=decide_eq_true h0
   have HF:Hid (endsB l=true):=Lib.hid (by
    have:=HSG.out
    rw [decide_eq_false (by omega)] at this
    rw [HV.out]
    cases h:memB s endWords with
    |true=>rfl
    |false=>rw [h] at this;cases this)
   go_wp2
   go_ret
   exact ⟨by rw [HF.out];rfl,HD.out⟩
  ·have q1:decide (0≤t)=false:=decide_eq_false h0
   have HF:Hid (endsB l=false):=Lib.hid (by
    have:=HSG.out
    rw [decide_eq_true (by omega)] at this
    rw [HV.out]
    cases h:memB s endWords with
    |false=>rfl
    |true=>rw [h] at this;cases this)
   go_wp2
   go_ret
   exact ⟨by rw [HF.out];rfl,HD.out⟩
 ·have z1:decide ((0:Int)<(l.length:Int))=false:=decide_eq_false (by omega)
  have z2:decide (0<l.length)=false:=decide_eq_false h0
  have HV:Hid (endsB l=false):=Lib.hid (by
   obtain rfl:l=[]:=List.eq_nil_of_length_eq_zero (by omega)
   rfl)
  clear hC hln
  go_enter Tryz.func26,Tryz.ntmps26
  go_wp2
  go_ret
  refine ⟨by rw [HV.out];rfl, ?_⟩
  first|exact HBL.out|exact Below.refl _ _|trace_state
theorem checked_words {a:List Fg} {ws:List ByteArray} (h:checkOut a ws=0):wordsB ws=true:=by
 unfold checkOut at h
 split at h
 ·assumption
 ·omega
theorem len_law: ∀a:List Fg,a.length≤(flL a).length
 |[]=>Nat.le_refl _
 |x::r=>by
  have:=len_law r
  have:=flF_pos x
  rw [flL,List.length_append,List.length_cons]
  omega
theorem flL_mem {x:Fg}: ∀{a:List Fg},x∈a→(flF x).length≤(flL a).length
 |y::r,h=>by
  rw [flL,List.length_append]
  rcases List.mem_cons.1 h with rfl|h
  ·omega
  ·have:=flL_mem h
   omega
theorem check_len {a:List Fg} {ws:List ByteArray} (h:checkOut a ws=0):a.length≤6000:=by
 have:=((check_iff (plainly_of (checked_words h))).1 h).2.2
 have:=len_law a
 omega
theorem parts_law {a b:List Fg} {ws:List ByteArray} (ha:checkOut a ws=0) (hb:checkOut b ws=0) (hE:endsB a=false) (hs:min (toksOf 100 a).length 6001+min (toksOf 100 b).length 6001≤6000):checkOut (a++b) ws=0:=by
 have hw:=checked_words ha
 have hP:=plainly_of hw
 obtain ⟨_,oa,la⟩:=(check_iff hP).1 ha
 obtain ⟨_,ob,lb⟩:=(check_iff hP).1 hb
 rw [(ok_toks oa).2,(ok_toks ob).2] at hs
 refine (check_iff hP).2 ⟨hw,parts_ok hP oa ob hE, ?_⟩
 rw [flL_append,List.length_append]
 omega
theorem kids_law {a:List Fg} {ws:List ByteArray} (ha:checkOut a ws=0) (x:Fg) (hx:x∈a) (ho:x.f1.toList.isEmpty=false) (hm:x.f1.toList≠cMacro):checkOut x.f2 ws=0:=by
 have hw:=checked_words ha
 have hP:=plainly_of hw
 obtain ⟨_,oa,la⟩:=(check_iff hP).1 ha
 refine (check_iff hP).2 ⟨hw,kids_ok hP oa hx ho hm, ?_⟩
 have h1:=flL_mem hx
 obtain ⟨t,o,ks⟩:=x
 rw [flF_group ho] at h1
 simp only [List.length_cons,List.length_append,List.length_nil] at h1
 show (flL ks).length≤6000
 omega
attribute [local go_sem ↓ high] app_veil
set_option maxHeartbeats 6400000 in
set_option maxRecDepth 100000 in
theorem fragParts_c {A A1 A2:Option Addr} {c c1 c2:Nat} {a b:List Fg} {ws:List ByteArray} {w:World} (hC:Kd.C k49 w A a.length a) (hc:a.length≤c) (hC1:Kd.C k49 w A1 b.length b) (hc1:b.length≤c1) (hW:Kd.C Kd.string w A2 ws.length ws) (hcw:ws.length≤c2) (hE:Lx.Env w):
  Calls Tryz.prog 8 #[.slice A a.length c,.slice A1 b.length c1,.slice A2 ws.length c2] w fun e w'=>e=.returned (.bool true)∧Below w.heap.size w w':=by
 have HS:=Lib.hid (sane_c hE)
 have HC:=Lib.hid hC
 have HC1:=Lib.hid hC1
 have HW:=Lib.hid hW
 have HE:=Lib.hid hE
 have hln:=hC.2.1
 have HPL:=Lib.hid (@parts_law a b ws)
 have HKL:=Lib.hid (@kids_law a ws)
 have HA:=Lib.hid (@check_len a ws)
 have HB:=Lib.hid (@check_len b ws)
 clear hC hC1 hW hE
 go_enter Tryz.func8,Tryz.ntmps8
 go_wp2_with fail
 refine HS.out.mono ?_
 rintro e w1 ⟨rfl,hb1⟩
 have HB1:=Lib.hid hb1
 clear hb1 HS
 have HK1:=Lib.hid (checkF_c (c:=c) (c1:=c2) (Kd.C_below HC.out HB1.out) hc (Kd.C_below HW.out HB1.out) hcw (HE.out.below HB1.out))
 obtain ⟨k1,hk1⟩: ∃k,checkOut a ws=k:=⟨_,rfl⟩
 rw [hk1] at HK1 HPL HKL HA
 clear hk1
 go_wp2_with fail
 refine HK1.out.mono ?_
 rintro e w2 ⟨rfl,hb2⟩
 have HB2:=Lib.hid (HB1.out.trans (hb2.mono HB1.out.size))
 clear hb2 HK1 HB1
 by_cases hz1:k1=0
 ·have z1:(k1 !=0)=false:=bne_eq_false_iff_eq.2 hz1
  have HK2:=Lib.hid (checkF_c (c:=c1) (c1:=c2) (Kd.C_below HC1.out HB2.out) hc1 (Kd.C_below HW.out HB2.out) hcw (HE.out.below HB2.out))
  obtain ⟨k2,hk2⟩: ∃k,checkOut b ws=k:=⟨_,rfl⟩
  rw [hk2] at HK2 HPL HB
  clear hk2
  have HPL1:=Lib.hid (HPL.out hz1)
  have HKL1:=Lib.hid (HKL.out hz1)
  have HA1:=Lib.hid (HA.out hz1)
  clear HPL HKL HA hz1
  go_wp2_with fail
  refine HK2.out.mono ?_
  rintro e w3 ⟨rfl,hb3⟩
  have HB3:=Lib.hid (HB2.out.trans (hb3.mono HB2.out.size))
  clear hb3 HK2 HB2
  by_cases hz2:k2=0
  ·have z2:(k2 !=0)=false:=bne_eq_false_iff_eq.2 hz2
   have HPL2:=Lib.hid (HPL1.out hz2)
   have HB1:=Lib.hid (HB.out hz2)
   have HEN:=Lib.hid (ends_c (c:=c) (Kd.C_below HC.out HB3.out))
   obtain ⟨q,hq⟩: ∃q,endsB a=q:=⟨_,rfl⟩
   rw [hq] at HEN HPL2
   clear HPL1 HB hz2 hq
   go_wp2_with fail
   refine HEN.out.mono ?_
   rintro e w4 ⟨rfl,hb4⟩
   have HB4:=Lib.hid (HB3.out.trans (hb4.mono HB3.out.size))
   clear hb4 HEN HB3
   cases q
   case' true=>
    have HB9:=HB4
    clear HB4 HPL2
    go_wp2_with fail
   case' false=>
    have HS1:=Lib.hid (size_c (c:=c) (Kd.C_below HC.out HB4.out))
    obtain ⟨m1,hm1⟩: ∃m,min (toksOf 100 a).length 6001=m:=⟨_,rfl⟩
    have HM1:Hid (m1≤6001):=Lib.hid (by omega)
    rw [hm1] at HPL2 HS1
    clear hm1
    go_wp2_with fail
    refine HS1.out.mono ?_
    rintro e w5 ⟨rfl,hb5⟩
    have HB5:=Lib.hid (HB4.out.trans (hb5.mono HB4.out.size))
    clear hb5 HS1 HB4
    have HS2:=Lib.hid (size_c (c:=c1) (Kd.C_below HC1.out HB5.out))
    obtain ⟨m2,hm2⟩: ∃m,min (toksOf 100 b).length 6001=m:=⟨_,rfl⟩
    have HM2:Hid (m2≤6001):=Lib.hid (by omega)
    rw [hm2] at HPL2 HS2
    clear hm2
    have hm1:=HM1.out
    have hm2:=HM2.out
    have y1:wrap64 ((m1:Int)+(m2:Int))=((m1+m2:Nat):Int):=by unfold wrap64;omega
    have y2:IntKind.i64.wrap ((m1:Int)+(m2:Int))=((m1+m2:Nat):Int):=by rw [IntWalk.i64_in _ (by omega)];omega
    obtain ⟨m,hm⟩: ∃m,m1+m2=m:=⟨_,rfl⟩
    rw [hm] at HPL2 y1 y2
    clear hm hm1 hm2 HM1 HM2
    by_cases hsz:m≤6000
    case' neg=>
     have z3:decide ((m:Int)≤6000)=false:=decide_eq_false (by omega)
     have z4:decide (m≤6000)=false:=decide_eq_false hsz
     go_wp2_with fail
     refine HS2.out.mono ?_
     rintro e w6 ⟨rfl,hb6⟩
     have HB6:=Lib.hid (HB5.out.trans (hb6.mono HB5.out.size))
     have HB9:=HB6
     clear hb6 HS2 HB5 HB6 HPL2
     go_wp2_with fail
     clear y1 y2 hsz z3 z4
    case' pos=>
     have z3:decide ((m:Int)≤6000)=true:=decide_eq_true (by omega)
     have z4:decide (m≤6000)=true:=decide_eq_true hsz
     go_wp2_with fail
     refine HS2.out.mono ?_
     rintro e w6 ⟨rfl,hb6⟩
     have HB6:=Lib.hid (HB5.out.trans (hb6.mono HB5.out.size))
     clear hb6 HS2 HB5
     have la:=HA1.out
     have lb:=HB1.out
     obtain ⟨v1,x1,d1,hrun1,HO1,HF1,hx1, -, -⟩:=app_frs (c:=c) (World.ownsRow_lit (base:=w6.heap.size) (e:=49) (size:=7) w6 #[] 0 (Nat.le_refl _) (by decide) (by decide)) (xs:=[]) (FK.nil w6) (Kd.C_below HC.out HB6.out) (below_alloc (Below.refl _ _) _) (Nat.le_refl _) (by simp) (by simp;omega)
     rw [List.nil_append,List.nil_append] at HO1
     rw [List.nil_append,List.nil_append] at HF1
     have HX1:Below w6.heap.size w6 x1:=(below_alloc (Below.refl _ _) _).trans hx1
     obtain ⟨v2,x2,d2,hrun2,HO2,HF2,hx2, -, -⟩:=app_frs (c:=c1) HO1 HF1 (Kd.C_below HC1.out HB6.out) HX1 (Nat.le_refl _) HX1.size (by omega)
     have HX2:Below w6.heap.size w6 x2:=HX1.trans hx2
     obtain ⟨A9,c9,rfl,hle9,hC9⟩:=C_of_own HO2 rfl (by rw [List.length_append];simp only [maxLen];omega) HF2 HX2
     have HB7:=Lib.hid (HB6.out.trans (HX2.mono HB6.out.size))
     have HK3:=Lib.hid (checkF_c hC9 hle9 (Kd.C_below HW.out HB7.out) hcw (HE.out.below HB7.out))
     rw [HPL2.out trivial hsz] at HK3
     obtain ⟨ab,hab⟩: ∃ab,a++b=ab:=⟨_,rfl⟩
     rw [hab] at HK3 hrun2
     clear hab HO1 HF1 HX1 hx1 HO2 HF2 HX2 hx2 hC9 hle9 la lb HPL2 HB6
     go_wp2_with fail
     refine HK3.out.mono ?_
     rintro e w8 ⟨rfl,hb8⟩
     have HB9:=Lib.hid (HB7.out.trans (hb8.mono HB7.out.size))
     clear hb8 HK3 HB7 hrun1 hrun2 y1 y2 hsz z3 z4
     go_wp2_with fail
   all_goals
    go_loopg [8] (a.length+1) (fun kq v8 wr=> ∃i:Nat,v8=.int .i64 i∧i≤a.length∧a.length+1-i≤kq∧Hid (Below w.heap.size w wr))
    case atStart=>exact ⟨0,rfl,Nat.zero_le _,Nat.le_refl _,HB9⟩
    case round=>
     clear HB9
     obtain ⟨i,rfl,hil,hkq,HBR⟩:=hrel
     have HKQ:=Lib.hid hkq
     clear hkq
     by_cases hi:i<a.length
     ·have x1:decide ((i:Int)<(a.length:Int))=true:=decide_eq_true (by omega)
      have x2:decide (i<a.length)=true:=decide_eq_true hi
      have x3:(0:Int)≤(i:Int):=by omega
      have x4:(i:Int)<(a.length:Int):=by omega
      have y3:wrap64 ((i:Int)+1)=((i+1:Nat):Int):=by unfold wrap64;omega
      have y4:IntKind.i64.wrap ((i:Int)+1)=((i+1:Nat):Int):=by rw [IntWalk.i64_in _ (by omega)];omega
      obtain ⟨ad,A6,c6,had,t0,t1,t2,t3,t4,t5,t6,hle6,hC6⟩:=at_T49 (Kd.C_below HC.out HBR.out) (i:Int) (by omega) (by omega)
      subst had
      have HKI:=Lib.hid (HKL1.out (rd_T49 a (i:Int)) (by rw [fg_get a i hi];exact List.getElem_mem hi))
      obtain ⟨T,hT⟩: ∃T,rd_T49 a (i:Int)=T:=⟨_,rfl⟩
      rw [hT] at t5 t6 hle6 hC6 HKI
      simp only [Int.toNat_natCast] at t5 t6
      have HKC:=Lib.hid (checkF_c (c:=c6) (c1:=c2) hC6 hle6 (Kd.C_below HW.out HBR.out) hcw (HE.out.below HBR.out))
      obtain ⟨s,hs⟩: ∃s,T.f1=s:=⟨_,rfl⟩
      rw [hs] at t5 HKI
      obtain ⟨q,hq⟩: ∃q,s.toList.isEmpty=q:=⟨_,rfl⟩
      obtain ⟨m,hm⟩: ∃m,(s.toList==[109,97,99,114,111])=m:=⟨_,rfl⟩
      have HKJ:Hid (q=false→m=false→checkOut T.f2 ws=0):=Lib.hid (fun h1 h2=>HKI.out (hq.trans h1) (fun e=>by rw [←hm,e] at h2;exact absurd h2 (by decide)))
      obtain ⟨ks,hks⟩: ∃ks,T.f2=ks:=⟨_,rfl⟩
      rw [hks] at t6 HKC HKJ
      clear hT t0 t1 t2 t3 t4 hle6 hC6 HKI hs hks
      cases q with
      |true=>
       go_wp2_with fail
       go_roundg (gk-1)
       case measure=>have:=HKQ.out;omega
       case rel=>exact ⟨i+1,by go_num,by omega,by have:=HKQ.out;omega,HBR⟩
      |false=>
       cases m with
       |true=>
        go_wp2_with fail
        go_roundg (gk-1)
        case measure=>have:=HKQ.out;omega
        case rel=>exact ⟨i+1,by go_num,by omega,by have:=HKQ.out;omega,HBR⟩
       |false=>
        have hk0:=HKJ.out rfl rfl
        rw [hk0] at HKC
        clear hk0
        go_wp2_with fail
        refine HKC.out.mono ?_
        rintro e w10 ⟨rfl,hb10⟩
        have HB10:=Lib.hid (HBR.out.trans (hb10.mono HBR.out.size))
        clear hb10 HKC
        go_wp2_with fail
        go_roundg (gk-1)
        case measure=>have:=HKQ.out;omega
        case rel=>exact ⟨i+1,by go_num,by omega,by have:=HKQ.out;omega,HB10⟩
     ·have x1:decide ((i:Int)<(a.length:Int))=false:=decide_eq_false (by omega)
      have x2:decide (i<a.length)=false:=decide_eq_false hi
      go_wp2
      go_ret
      exact ⟨rfl,HBR.out⟩
  ·have z2:(k2 !=0)=true:=bne_iff_ne.2 hz2
   go_wp2
   go_ret
   exact ⟨rfl,HB3.out⟩
 ·have z1:(k1 !=0)=true:=bne_iff_ne.2 hz1
  go_wp2
  go_ret
  exact ⟨rfl,HB2.out⟩
end Go.Proofs.YtipnlgmeonepfaaGreatDoor.PFa
