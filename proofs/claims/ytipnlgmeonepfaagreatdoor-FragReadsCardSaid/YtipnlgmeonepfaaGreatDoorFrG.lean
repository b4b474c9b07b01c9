/- The reference's lexer: Index, Kind, IsName, IsPlain, Check, Distinct, SameStrings, walked. -/
import Derived.Test.YtipnlgmeonepfaaGreatDoorFrE
import Derived.Test.YtipnlgmeonepfaaGreatDoorRPieces
import Derived.Test.YtipnlgmeonepfaaGreatDoorFrC
import Derived.Deep.RegionHeld3
import Derived.BigQuiet
import Derived.Deep.QuietTactic
set_option linter.unusedVariables false
set_option linter.unusedSimpArgs false
namespace Go.Proofs.YtipnlgmeonepfaaGreatDoor.PFa
open Go.RowKit Go.Proofs.YtipnlgmeonepfaaGreatDoorW.PrintWords Go.Proofs.YtipnlgmeonepfaaGreatDoorW.PrintLast Go.Proofs.YtipnlgmeonepfaaGreatDoorW.PrintMore
open Go.Proofs.YtipnlgmeonepfaaGreatDoor.Lx (Kp)
def idxGo (s:ByteArray):List ByteArray→Nat→Int
 |[],_=> -1
 |u::r,i=>if u=s then (i:Int) else idxGo s r (i+1)
theorem idx_sign (s:ByteArray): ∀(l:List ByteArray) (i:Nat),decide (idxGo s l i<0)= !memB s l
 |[],i=>rfl
 |u::r,i=>by
  unfold idxGo
  by_cases h:u=s
  ·rw [if_pos h,decide_eq_false (by omega),memB_cons,decide_eq_true h]
   rfl
  ·rw [if_neg h,idx_sign s r (i+1),memB_cons,decide_eq_false h,Bool.false_or]
theorem index_val {A:Option Addr} {c:Nat} {ls:List ByteArray} {s:ByteArray} {W:World} (hC:Kd.C Kd.string W A ls.length ls) (hl:ls.length≤1000):
  Calls Tryz.prog 58 #[.slice A ls.length c,.string s] W fun e X'=>e=.returned (.int .i64 (idxGo s ls 0))∧Drawn0 W X':=by
 obtain ⟨V,hV⟩: ∃V,idxGo s ls 0=V:=⟨_,rfl⟩
 rw [hV]
 have HV:=Lib.hid hV
 have HC:=Lib.hid hC
 clear hC hV
 go_enter Tryz.func58,Tryz.ntmps58
 go_wp2_with fail
 go_loopg [5] (ls.length+1) (fun kq v5 wr=> ∃i:Nat,v5=.int .i64 i∧i≤ls.length∧ls.length+1-i≤kq∧Hid (V=idxGo s (ls.drop i) i)∧Hid (Drawn0 W wr))
 case atStart=>exact ⟨0,rfl,Nat.zero_le _,Nat.le_refl _,Lib.hid HV.out.symm,Lib.hid (Drawn0.refl _)⟩
 case round=>
  obtain ⟨i,rfl,hil,hkq,HM,HD⟩:=hrel
  have HKQ:=Lib.hid hkq
  clear hkq
  by_cases hlt:i<ls.length
  ·have x1:decide ((i:Int)<(ls.length:Int))=true:=decide_eq_true (by omega)
   have x2:decide (i<ls.length)=true:=decide_eq_true hlt
   have x3:(0:Int)≤(i:Int):=by omega
   have x4:(i:Int)<(ls.length:Int):=by omega
   have y1:IntKind.i64.wrap ((i:Int)+1)=((i+1:Nat):Int):=by rw [IntWalk.i64_in _ (by omega)];omega
   have y2:wrap64 ((i:Int)+1)=((i+1:Nat):Int):=by unfold wrap64;omega
   have hrw:Kd.C Kd.string wr A ls.length ls:=by obtain ⟨m,rfl⟩:=HD.out;exact Kd.C_drewN HC.out m
   obtain ⟨ad,ead,hx⟩:=Kd.at_string hrw (i:Int) (by omega) (by omega)
   cases ead
   have HSN:Hid (idxGo s (ls.drop i) i=if rdOf ByteArray.empty ls (i:Int)=s then (i:Int) else idxGo s (ls.drop (i+1)) (i+1)):=Lib.hid (by
    have e:rdOf ByteArray.empty ls (i:Int)=ls[i]:=by simp [rdOf,List.getD_eq_getElem?_getD,List.getElem?_eq_getElem hlt]
    rw [e,List.drop_eq_getElem_cons hlt]
    rfl)
   obtain ⟨u,hu⟩: ∃u,rdOf ByteArray.empty ls (i:Int)=u:=⟨_,rfl⟩
   rw [hu] at hx HSN
   simp only [Int.toNat_natCast] at hx
   obtain ⟨q,hq⟩: ∃q,(u.toList==s.toList)=q:=⟨_,rfl⟩
   have HQ:Hid (decide (u=s)=q):=Lib.hid (by rw [←hq,Lib.toList_data s,list_beq])
   clear hrw hu
   cases q with
   |true=>
    have HT:Hid (V=(i:Int)):=Lib.hid (by rw [HM.out,HSN.out,if_pos (of_decide_eq_true HQ.out)])
    go_wp2
    go_ret
    exact ⟨by rw [HT.out];rfl,HD.out⟩
   |false=>
    go_wp2
    go_roundg (gk-1)
    case measure=>have:=HKQ.out;omega
    case rel=>exact ⟨i+1,by go_num,by omega,by have:=HKQ.out;omega,Lib.hid (by rw [HM.out,HSN.out,if_neg (of_decide_eq_false HQ.out)]),HD⟩
  ·have x1:decide ((i:Int)<(ls.length:Int))=false:=decide_eq_false (by omega)
   have x2:decide (i<ls.length)=false:=decide_eq_false hlt
   have HF:Hid (V= -1):=Lib.hid (by rw [HM.out,List.drop_of_length_le (by omega)];rfl)
   go_wp2
   go_ret
   exact ⟨by rw [HF.out];rfl,HD.out⟩
theorem index_all:IndexAll:=fun A c ls s W hC hc hl=>(index_val hC hl).mono (fun e X' h=>⟨_,h.1,idx_sign s ls 0,h.2⟩)
def pickK (m:Nat):Except Int (Nat×Nat)→Int
 | .ok (kd,n)=>if n=m∧kd≤6 then (kd:Int) else 0
 | .error _=>0
def kindR (u:ByteArray):Int:=if u.size=0∨20000<u.size then 0 else pickK u.size (Lx.next false u.data.toList)
theorem kindR_eq (u:ByteArray):kindR u=Pure.kindOf u:=by
 have none_of:Pure.one u=none→Pure.kindOf u=0:=fun h=>by unfold Pure.kindOf;rw [h]
 unfold kindR
 by_cases h0:u.size=0∨20000<u.size
 ·rw [if_pos h0,none_of]
  cases ho:Pure.one u with
  |none=>rfl
  |some p=>have:=Pure.one_size ho;omega
 ·rw [if_neg h0]
  cases hn:Lx.next false u.data.toList with
  |error e=>
   rw [none_of]
   ·rfl
   cases ho:Pure.one u with
   |none=>rfl
   |some p=>have:=(Pure.one_next ho).1;rw [hn] at this;cases this
  |ok r=>
   obtain ⟨kd,n⟩:=r
   unfold pickK
   by_cases hc:n=u.size∧kd≤6
   ·dsimp only
    rw [if_pos hc]
    obtain ⟨rfl,h6⟩:=hc
    unfold Pure.kindOf
    rw [Pure.one_of (by omega) (by omega) hn h6]
   ·dsimp only
    rw [if_neg hc,none_of]
    cases ho:Pure.one u with
    |none=>rfl
    |some p=>
     have h1:=(Pure.one_next ho).1
     have h2:=(Pure.one_next ho).2.1
     rw [hn] at h1
     injection h1 with h1
     injection h1 with h3 h4
     exact absurd ⟨h4,by omega⟩ hc
set_option maxHeartbeats 3200000 in
theorem rkind_c (u:ByteArray) (w:World):Calls Tryz.prog 118 #[.string u] w fun e w'=>e=.returned (.int .i64 (Pure.kindOf u))∧Below w.heap.size w w':=by
 rw [←kindR_eq]
 obtain ⟨V,hV⟩: ∃V,kindR u=V:=⟨_,rfl⟩
 rw [hV]
 have HV:=Lib.hid hV
 clear hV
 obtain ⟨n,hn⟩: ∃n,u.size=n:=⟨_,rfl⟩
 have HN:=Lib.hid hn
 by_cases h0:n=0
 ·have HE:Hid (V=0):=Lib.hid (by rw [←HV.out];unfold kindR;rw [if_pos (.inl (by omega))])
  have x1:((u.size:Int)==0)=true:=beq_iff_eq.2 (by omega)
  clear HV hn h0
  go_enter Tryz.func118,Tryz.ntmps118
  go_wp2
  go_ret
  exact ⟨by rw [HE.out];rfl,Below.refl _ _⟩
 ·have x1:((u.size:Int)==0)=false:=beq_eq_false_iff_ne.2 (by omega)
  by_cases hb:20000<n
  ·have HE:Hid (V=0):=Lib.hid (by rw [←HV.out];unfold kindR;rw [if_pos (.inr (by omega))])
   have x2:decide ((20000:Int)<(u.size:Int))=true:=decide_eq_true (by omega)
   have x3:decide (20000<u.size)=true:=decide_eq_true (by omega)
   clear HV hn h0 hb
   go_enter Tryz.func118,Tryz.ntmps118
   go_wp2
   go_ret
   exact ⟨by rw [HE.out];rfl,Below.refl _ _⟩
  ·have x2:decide ((20000:Int)<(u.size:Int))=false:=decide_eq_false (by omega)
   have x3:decide (20000<u.size)=false:=decide_eq_false (by omega)
   have HPC:=Lib.hid (fun (X:World)=>Ref.piece_walk u 0 false (by omega) (by omega) X)
   obtain ⟨R,hR⟩: ∃R,Lx.next false u.data.toList=R:=⟨_,rfl⟩
   have HE:Hid (V=pickK u.size R):=Lib.hid (by rw [←HV.out];unfold kindR;rw [if_neg (by omega),hR])
   simp only [List.drop_zero,hR] at HPC
   cases R with
   |error er=>
    have HE2:Hid (V=0):=Lib.hid HE.out
    have hne:er≠0:=Lx.next_err hR
    have x4:(er==0)=false:=beq_false_of_ne hne
    have x5:(er !=0)=true:=bne_iff_ne.2 hne
    simp only [Ref.cutK,Ref.cutA,Ref.cutN,Ref.cutE,Int.natCast_zero] at HPC
    clear HE HV hn h0 hb hR hne
    go_enter Tryz.func118,Tryz.ntmps118
    go_wp2_with fail
    refine (HPC.out _).mono ?_
    rintro e W3 ⟨rfl,hb3⟩
    have HB3:=Lib.hid hb3
    clear hb3
    go_wp2
    go_ret
    exact ⟨by rw [HE2.out];rfl,below_alloc HB3.out _⟩
   |ok r=>
    obtain ⟨kd,m⟩:=r
    simp only [Ref.cutK,Ref.cutA,Ref.cutN,Ref.cutE,Int.natCast_zero] at HPC
    by_cases hm:m=u.size
    ·subst hm
     by_cases h6:kd≤6
     ·have HE2:Hid (V=kd):=Lib.hid (by rw [HE.out];exact if_pos ⟨rfl,h6⟩)
      have x4:decide ((6:Int)<(kd:Int))=false:=decide_eq_false (by omega)
      have x5:decide (6<kd)=false:=decide_eq_false (by omega)
      clear HE HV hn h0 hb hR
      go_enter Tryz.func118,Tryz.ntmps118
      go_wp2_with fail
      refine (HPC.out _).mono ?_
      rintro e W3 ⟨rfl,hb3⟩
      have HB3:=Lib.hid hb3
      clear hb3
      go_wp2
      go_ret
      exact ⟨by rw [HE2.out];rfl,below_alloc HB3.out _⟩
     ·have HE2:Hid (V=0):=Lib.hid (by rw [HE.out];exact if_neg (fun h=>h6 h.2))
      have x4:decide ((6:Int)<(kd:Int))=true:=decide_eq_true (by omega)
      have x5:decide (6<kd)=true:=decide_eq_true (by omega)
      clear HE HV hn h0 hb hR
      go_enter Tryz.func118,Tryz.ntmps118
      go_wp2_with fail
      refine (HPC.out _).mono ?_
      rintro e W3 ⟨rfl,hb3⟩
      have HB3:=Lib.hid hb3
      clear hb3
      go_wp2
      go_ret
      exact ⟨by rw [HE2.out];rfl,below_alloc HB3.out _⟩
    ·have HE2:Hid (V=0):=Lib.hid (by rw [HE.out];exact if_neg (fun h=>hm h.1))
     have x4:((m:Int)==(u.size:Int))=false:=beq_eq_false_iff_ne.2 (by omega)
     have x5:((m:Int) !=(u.size:Int))=true:=bne_iff_ne.2 (by omega)
     clear HE HV hn h0 hb hR hm
     go_enter Tryz.func118,Tryz.ntmps118
     go_wp2_with fail
     refine (HPC.out _).mono ?_
     rintro e W3 ⟨rfl,hb3⟩
     have HB3:=Lib.hid hb3
     clear hb3
     go_wp2
     go_ret
     exact ⟨by rw [HE2.out];rfl,below_alloc HB3.out _⟩
theorem rname_c (u:ByteArray) (w:World):Calls Tryz.prog 107 #[.string u] w fun e w'=>e=.returned (.bool (Pure.kindOf u==1))∧Below w.heap.size w w':=by
 have HK:=Lib.hid (rkind_c u w)
 obtain ⟨k,hk⟩: ∃k,Pure.kindOf u=k:=⟨_,rfl⟩
 rw [hk] at HK⊢
 clear hk
 go_enter Tryz.func107,Tryz.ntmps107
 go_wp2_with fail
 refine HK.out.mono ?_
 rintro e W3 ⟨rfl,hb3⟩
 have HB3:=Lib.hid hb3
 clear hb3
 go_wp2
 go_ret
 exact ⟨rfl,HB3.out⟩
theorem find_contains (c:UInt8) (l:List UInt8):decide (Ref.findN l c.toNat 0<0)= !l.contains c:=by
 have h:=Ref.find_in l c.toNat 0
 have e:l.any (fun x=>x.toNat==c.toNat)=l.contains c:=by
  rw [Bool.eq_iff_iff,List.any_eq_true,List.contains_iff_mem]
  constructor
  ·rintro ⟨x,hx,he⟩
   rw [←UInt8.toNat_inj.1 (beq_iff_eq.1 he)]
   exact hx
  ·intro hx;exact ⟨c,hx,by simp⟩
 rw [e] at h
 rw [←h,Bool.eq_iff_iff]
 simp
theorem rplain_c (u:ByteArray) (w:World):Calls Tryz.prog 81 #[.string u] w fun e w'=>e=.returned (.bool (plainB u))∧Below w.heap.size w w':=by
 have HK:=Lib.hid (rname_c u w)
 have HP:Hid (plainB u=((Pure.kindOf u==1)&& !u.data.toList.contains 64)):=Lib.hid rfl
 cases hk:(Pure.kindOf u==1) with
 |false=>
  have HV:Hid (plainB u=false):=Lib.hid (by rw [HP.out,hk];rfl)
  rw [hk] at HK
  clear HP hk
  go_enter Tryz.func81,Tryz.ntmps81
  go_wp2_with fail
  refine HK.out.mono ?_
  rintro e W3 ⟨rfl,hb3⟩
  have HB3:=Lib.hid hb3
  clear hb3
  go_wp2
  go_ret
  exact ⟨by rw [HV.out];rfl,HB3.out⟩
 |true=>
  have hs:u.size≤20000:=by
   have h1:Pure.kindOf u=1:=beq_iff_eq.1 hk
   unfold Pure.kindOf at h1
   cases ho:Pure.one u with
   |none=>rw [ho] at h1;cases h1
   |some p=>exact (Pure.one_size ho).2
  have HF:=Lib.hid (fun (X:World)=>Ref.find_walk u 64 hs X)
  obtain ⟨r,hr⟩: ∃r,Ref.findN u.data.toList 64 0=r:=⟨_,rfl⟩
  have HV:Hid (plainB u=decide (r<0)):=Lib.hid (by rw [HP.out,hk,←hr];exact ((find_contains 64 u.data.toList).trans (by rfl)).symm)
  rw [hk] at HK
  rw [hr] at HF
  clear HP hk hr hs
  go_enter Tryz.func81,Tryz.ntmps81
  go_wp2_with fail
  refine HK.out.mono ?_
  rintro e W3 ⟨rfl,hb3⟩
  have HB3:=Lib.hid hb3
  clear hb3
  go_wp2_with fail
  refine (HF.out _).mono ?_
  rintro e W4 ⟨rfl,rfl⟩
  go_wp2
  go_ret
  exact ⟨by rw [HV.out];rfl,HB3.out⟩
theorem chk_of {T:Tk} {x:Int} (hx:T.f0=2→Pure.kindOf T.f2=2→x=Lx.valN T.f2.data.toList) (hx0:T.f0≠2→x=0):
  Pure.chk T=if ((T.f0==0)|| !(Pure.kindOf T.f2==T.f0)|| !(T.f1==x)||decide (T.f3<0)||decide (T.f4<0))=true then 14 else 0:=by
 unfold Pure.chk
 by_cases hg:Pure.good T=true
 ·rw [if_pos hg]
  obtain ⟨⟨h0,h1⟩,h2,h3,h4⟩:=of_decide_eq_true hg
  have e:x=if T.f0=2 then Lx.valN T.f2.data.toList else 0:=by
   by_cases h:T.f0=2
   ·rw [if_pos h,hx h (by omega)]
   ·rw [if_neg h,hx0 h]
  rw [beq_false_of_ne h0,beq_iff_eq.2 h1,beq_iff_eq.2 (h2.trans e.symm),decide_eq_false (by omega),decide_eq_false (by omega)]
  rfl
 ·rw [if_neg hg,if_pos]
  refine Decidable.byContradiction fun hn=>hg ?_
  rw [Bool.not_eq_true] at hn
  simp only [Bool.or_eq_false_iff,Bool.not_eq_false',beq_iff_eq,decide_eq_false_iff_not,beq_eq_false_iff_ne] at hn
  obtain ⟨⟨⟨⟨h0,h1⟩,h2⟩,h3⟩,h4⟩:=hn
  refine decide_eq_true ⟨⟨h0,h1⟩, ?_,by omega,by omega⟩
  by_cases h:T.f0=2
  ·rw [if_pos h,h2,hx h (by omega)]
  ·rw [if_neg h,h2,hx0 h]
end Go.Proofs.YtipnlgmeonepfaaGreatDoor.PFa

set_option linter.unusedVariables false
set_option linter.unusedSimpArgs false
namespace Go.Proofs.YtipnlgmeonepfaaGreatDoor.PFa
open Go.RowKit Go.Proofs.YtipnlgmeonepfaaGreatDoorW.PrintWords Go.Proofs.YtipnlgmeonepfaaGreatDoorW.PrintLast Go.Proofs.YtipnlgmeonepfaaGreatDoorW.PrintMore
set_option maxHeartbeats 6400000 in
set_option maxRecDepth 100000 in
theorem check_all:ChecksAll:=by
 intro T W hs
 obtain ⟨x,hx2,hx0⟩: ∃x:Int,(T.f0=2→x=Ref.numV T.f2.data.toList)∧(T.f0≠2→x=0):=by
  by_cases h:T.f0=2
  ·exact ⟨_,fun _=>rfl,fun h'=>absurd h h'⟩
  ·exact ⟨0,fun h'=>absurd h' h,fun _=>rfl⟩
 rw [chk_of (T:=T) (x:=x) (fun h hk=>by
  rw [hx2 h]
  unfold Ref.numV
  rw [if_pos]
  unfold Pure.kindOf at hk
  cases ho:Pure.one T.f2 with
  |none=>rw [ho] at hk;cases hk
  |some p=>rw [ho] at hk;exact Pure.one_num ho (by have:(p.kind:Int)=2:=hk;omega)) hx0]
 have HKD:=Lib.hid (fun (X:World)=>rkind_c T.f2 X)
 obtain ⟨kd,hkd⟩: ∃k,Pure.kindOf T.f2=k:=⟨_,rfl⟩
 rw [hkd] at HKD⊢
 clear hkd
 obtain ⟨V,hV⟩: ∃V,(if ((T.f0==0)|| !(kd==T.f0)|| !(T.f1==x)||decide (T.f3<0)||decide (T.f4<0))=true then (14:Int) else 0)=V:=⟨_,rfl⟩
 rw [hV]
 have HV:=Lib.hid hV
 have HX2:=Lib.hid hx2
 have HX0:=Lib.hid hx0
 have HNM:=Lib.hid (fun (X:World)=>Ref.number_walk T.f2 (by omega) X)
 have HBL:Hid (Below W.heap.size W (W.alloc (.cells #[.int .i64 T.f0,.int .i64 T.f1,.string T.f2,.int .i64 T.f3,.int .i64 T.f4] 39 (0,0)))):=Lib.hid (below_alloc (Below.refl _ _) _)
 have HBK:=Lib.hid (blk_new W (.cells #[.int .i64 T.f0,.int .i64 T.f1,.string T.f2,.int .i64 T.f3,.int .i64 T.f4] 39 (0,0)))
 clear hV hx2 hx0
 unfold tokV
 go_enter Tryz.func96,Tryz.ntmps96
 go_upto_region 2 with (fail)
 go_name_world W1 hW1
 have HB1:Hid (Below W.heap.size W W1):=Lib.hid (hW1▸HBL.out)
 have HT1:Hid (W1.heap[W.heap.size]? =some (.cells #[.int .i64 T.f0,.int .i64 T.f1,.string T.f2,.int .i64 T.f3,.int .i64 T.f4] 39 (0,0))):=Lib.hid (hW1▸HBK.out)
 have t0:W1.cell? ⟨W.heap.size,0,none⟩=some (.int .i64 T.f0):=blk_cell HT1.out 0
 have t2:W1.cell? ⟨W.heap.size,2,none⟩=some (.string T.f2):=blk_cell HT1.out 2
 clear hW1 HBL HBK
 obtain ⟨v,hv⟩: ∃v,W.heap.size=v:=⟨_,rfl⟩
 have HVV:=Lib.hid hv
 simp only [hv] at HT1 t0 t2⊢
 clear hv
 have t1:W1.cell? ⟨v,1,none⟩=some (.int .i64 T.f1):=blk_cell HT1.out 1
 have t3:W1.cell? ⟨v,3,none⟩=some (.int .i64 T.f3):=blk_cell HT1.out 3
 have t4:W1.cell? ⟨v,4,none⟩=some (.int .i64 T.f4):=blk_cell HT1.out 4
 go_upto_if 6 with (fail)
 go_cut [3] (fun v3 wd=>v3=.int .i64 x∧wd=W1)
 case first=>
  clear HKD HV
  by_cases h2:T.f0=2
  ·have q2:(T.f0==2)=true:=beq_iff_eq.2 h2
   have HXV:Hid (x=Ref.numV T.f2.data.toList):=Lib.hid (HX2.out h2)
   clear h2
   go_wp2_with fail
   refine (HNM.out _).mono ?_
   rintro e w' ⟨rfl,rfl⟩
   go_wp2
   go_meet
   case rel=>exact ⟨by rw [HXV.out],rfl⟩
  ·have q2:(T.f0==2)=false:=beq_false_of_ne h2
   have HXV:Hid (x=0):=Lib.hid (HX0.out h2)
   clear h2
   go_wp2
   go_meet
   case rel=>exact ⟨by rw [HXV.out],rfl⟩
 case rest=>
  obtain ⟨rfl,hw⟩:=hcut
  subst hw
  have HW1:=Lib.hid HB1.out
  have HK:Hid (∀X,Below wc.heap.size wc X→X.cell? ⟨v,0,none⟩=some (.int .i64 T.f0)∧X.cell? ⟨v,1,none⟩=some (.int .i64 T.f1)∧X.cell? ⟨v,2,none⟩=some (.string T.f2)∧X.cell? ⟨v,3,none⟩=some (.int .i64 T.f3)∧X.cell? ⟨v,4,none⟩=some (.int .i64 T.f4)):=Lib.hid (fun X hX=>
   ⟨pw_cell_below hX t0,pw_cell_below hX t1,pw_cell_below hX t2,pw_cell_below hX t3,pw_cell_below hX t4⟩)
  have HKC:Hid (∀X,Below wc.heap.size wc X→Calls Tryz.prog 118 #[.string T.f2] X fun e X'=>e=.returned (.int .i64 kd)∧Below wc.heap.size wc X'):=Lib.hid (fun X hX=>(HKD.out X).mono (fun e X' h=>⟨h.1,hX.trans (h.2.mono hX.size)⟩))
  obtain ⟨q0,h0⟩: ∃q,(T.f0==0)=q:=⟨_,rfl⟩
  obtain ⟨q1,h1⟩: ∃q,(kd==T.f0)=q:=⟨_,rfl⟩
  obtain ⟨q2,h2⟩: ∃q,(T.f1==x)=q:=⟨_,rfl⟩
  obtain ⟨q3,h3⟩: ∃q,decide (T.f3<0)=q:=⟨_,rfl⟩
  obtain ⟨q4,h4⟩: ∃q,decide (T.f4<0)=q:=⟨_,rfl⟩
  have HV2:Hid (V=if (q0|| !q1|| !q2||q3||q4)=true then 14 else 0):=Lib.hid (by rw [←HV.out,h0,h1,h2,h3,h4])
  have n1:(kd !=T.f0)= !q1:=by rw [bne,h1]
  have n2:(T.f1 !=x)= !q2:=by rw [bne,h2]
  clear HV HKD HNM HX2 HX0 HT1 HVV HB1
  cases q0 with
  |true=>
   go_upto_region 4 with (fail)
   go_quiet (fail)
   go_wp2
   go_ret
   exact ⟨by rw [HV2.out];rfl,by repeat (with_reducible first|exact HW1.out|apply pw_below_drewN|apply Below.drew)⟩
  |false=>
   by_cases hq:q1=true∧q2=true∧q3=false
   ·obtain ⟨rfl,rfl,rfl⟩:=hq
    cases q4
    all_goals clear t0 t1 t2 t3 t4
    all_goals go_upto_region 4 with (fail)
    all_goals go_region_held3 (fun X=>X.cell? ⟨v,0,none⟩=some (.int .i64 T.f0)∧X.cell? ⟨v,1,none⟩=some (.int .i64 T.f1)∧X.cell? ⟨v,2,none⟩=some (.string T.f2)∧X.cell? ⟨v,3,none⟩=some (.int .i64 T.f3)∧X.cell? ⟨v,4,none⟩=some (.int .i64 T.f4))
     (first|(refine HK.out _ ?_;(repeat (with_reducible first|exact Below.refl _ _|exact hb5|apply pw_below_drewN|apply Below.drew));done))
     (first|(go_at_call 118;(refine (HKC.out _ (by repeat (with_reducible first|exact Below.refl _ _|apply pw_below_drewN|apply Below.drew))).mono ?_);rintro e W4 ⟨rfl,hb5⟩))
    all_goals go_wp2
    all_goals go_ret
    all_goals exact ⟨by rw [HV2.out];rfl,by repeat (with_reducible first|exact HW1.out.trans (hb5.mono HW1.out.size)|apply pw_below_drewN|apply Below.drew)⟩
   ·clear t0 t1 t2 t3 t4
    go_upto_region 4 with (fail)
    have hcs:(q1=false)∨(q1=true∧q2=false)∨(q1=true∧q2=true∧q3=true):=by
     cases q1<;>cases q2<;>cases q3<;>simp_all
    clear hq
    rcases hcs with rfl|⟨rfl,rfl⟩|⟨rfl,rfl,rfl⟩
    all_goals (
     refine wp_region_held_drew (S:=(fun X=>X.cell? ⟨v,0,none⟩=some (.int .i64 T.f0)∧X.cell? ⟨v,1,none⟩=some (.int .i64 T.f1)∧X.cell? ⟨v,2,none⟩=some (.string T.f2)∧X.cell? ⟨v,3,none⟩=some (.int .i64 T.f3)∧X.cell? ⟨v,4,none⟩=some (.int .i64 T.f4))) (by kernel_rfl) ?_ ?_
     ·exact HK.out _ (Below.drew (Below.refl _ _))
     intro hHeld
     refine wpAnyH_take (i:=0) (v:= ?_) rfl (by kernel_rfl) (by kernel_rfl) (by kernel_rfl) (fun _ _ _ h=>h) (Or.inl ⟨?hw, ?hy⟩) (by assumption) ?_;(case hw=>rfl);(case hy=>intro w hSw;(try dsimp only at hSw);simp only [List.getElem_toArray,List.getElem_cons_zero,List.getElem_cons_succ];go_simp;(try with_reducible rfl));simp only [List.getElem_toArray,List.getElem_cons_zero,List.getElem_cons_succ,Act.put,List.setIfInBounds_toArray,List.set_cons_zero,List.set_cons_succ]
     refine wpAnyH_take (i:=1) (v:= ?_) rfl (by kernel_rfl) (by kernel_rfl) (by kernel_rfl) (fun _ _ _ h=>h) (Or.inl ⟨?hw, ?hy⟩) (by assumption) ?_;(case hw=>rfl);(case hy=>intro w hSw;(try dsimp only at hSw);simp only [List.getElem_toArray,List.getElem_cons_zero,List.getElem_cons_succ];go_simp;(try with_reducible rfl));simp only [List.getElem_toArray,List.getElem_cons_zero,List.getElem_cons_succ,Act.put,List.setIfInBounds_toArray,List.set_cons_zero,List.set_cons_succ]
     refine wpAnyH_take (i:=2) (v:= ?_) rfl (by kernel_rfl) (by kernel_rfl) (by kernel_rfl) (fun _ _ _ h=>h) (Or.inl ⟨?hw, ?hy⟩) (by assumption) ?_;(case hw=>rfl);(case hy=>intro w hSw;(try dsimp only at hSw);simp only [List.getElem_toArray,List.getElem_cons_zero,List.getElem_cons_succ];go_simp;(try with_reducible rfl));simp only [List.getElem_toArray,List.getElem_cons_zero,List.getElem_cons_succ,Act.put,List.setIfInBounds_toArray,List.set_cons_zero,List.set_cons_succ]
     refine wpAnyH_take (i:=3) (v:= ?_) rfl (by kernel_rfl) (by kernel_rfl) (by kernel_rfl) (fun _ _ _ h=>h) (Or.inl ⟨?hw, ?hy⟩) (by assumption) ?_;(case hw=>rfl);(case hy=>intro w hSw;(try dsimp only at hSw);simp only [List.getElem_toArray,List.getElem_cons_zero,List.getElem_cons_succ];go_simp;(try with_reducible rfl));simp only [List.getElem_toArray,List.getElem_cons_zero,List.getElem_cons_succ,Act.put,List.setIfInBounds_toArray,List.set_cons_zero,List.set_cons_succ]
     refine wpAnyH_take (i:=4) (v:= ?_) rfl (by kernel_rfl) (by kernel_rfl) (by kernel_rfl) (fun _ _ _ h=>h) (Or.inl ⟨?hw, ?hy⟩) (by assumption) ?_;(case hw=>rfl);(case hy=>intro w hSw;(try dsimp only at hSw);simp only [List.getElem_toArray,List.getElem_cons_zero,List.getElem_cons_succ];go_simp;(try with_reducible rfl));simp only [List.getElem_toArray,List.getElem_cons_zero,List.getElem_cons_succ,Act.put,List.setIfInBounds_toArray,List.set_cons_zero,List.set_cons_succ]
     refine wpAnyH_take (i:=5) (v:= ?_) rfl (by kernel_rfl) (by kernel_rfl) (by kernel_rfl) (fun _ _ _ h=>h) (Or.inl ⟨?hw, ?hy⟩) (by assumption) ?_;(case hw=>rfl);(case hy=>intro w hSw;(try dsimp only at hSw);simp only [List.getElem_toArray,List.getElem_cons_zero,List.getElem_cons_succ];go_simp;(try with_reducible rfl));simp only [List.getElem_toArray,List.getElem_cons_zero,List.getElem_cons_succ,Act.put,List.setIfInBounds_toArray,List.set_cons_zero,List.set_cons_succ]
     refine wpAnyH_take (i:=7) (v:= ?_) rfl (by kernel_rfl) (by kernel_rfl) (by kernel_rfl) (fun _ _ _ h=>h) (Or.inl ⟨?hw, ?hy⟩) (by assumption) ?_;(case hw=>rfl);(case hy=>intro w hSw;(try dsimp only at hSw);simp only [List.getElem_toArray,List.getElem_cons_zero,List.getElem_cons_succ];go_simp;(try with_reducible rfl));simp only [List.getElem_toArray,List.getElem_cons_zero,List.getElem_cons_succ,Act.put,List.setIfInBounds_toArray,List.set_cons_zero,List.set_cons_succ]
     refine wpAnyH_take (i:=8) (v:= ?_) rfl (by kernel_rfl) (by kernel_rfl) (by kernel_rfl) (fun _ _ _ h=>h) (Or.inl ⟨?hw, ?hy⟩) (by assumption) ?_;(case hw=>rfl);(case hy=>intro w hSw;(try dsimp only at hSw);simp only [List.getElem_toArray,List.getElem_cons_zero,List.getElem_cons_succ];go_simp;(try with_reducible rfl));simp only [List.getElem_toArray,List.getElem_cons_zero,List.getElem_cons_succ,Act.put,List.setIfInBounds_toArray,List.set_cons_zero,List.set_cons_succ]
     refine wpAnyH_ready (rs:=[6]) (by kernel_rfl) (by simp) ?_
     refine AllReadyH.cons rfl (fun K hK=> ?_) AllReadyH.nil
     simp only [List.getElem_toArray,List.getElem_cons_zero,List.getElem_cons_succ]
     go_simp
     go_at_call 118
     refine (HKC.out _ (Below.drew (Below.refl _ _))).mono ?_
     rintro e W4 ⟨rfl,hb5⟩
     refine hK.out _ _ (HK.out _ hb5) (fun hHeld2=> ?_)
     clear hK K hHeld
     try simp only [List.getElem_toArray,List.getElem_cons_zero,List.getElem_cons_succ,Act.put,List.setIfInBounds_toArray,List.set_cons_zero,List.set_cons_succ]
     first|(refine wpAnyH_take (i:=9) (v:=undef) rfl (by kernel_rfl) (by kernel_rfl) (by kernel_rfl) (fun _ _ _ h=>h) (Or.inr ⟨?hw,rfl⟩) (by assumption) ?_;(case hw=>rfl);simp only [List.getElem_toArray,List.getElem_cons_zero,List.getElem_cons_succ,Act.put,List.setIfInBounds_toArray,List.set_cons_zero,List.set_cons_succ])|(refine wpAnyH_take (i:=9) (v:= ?_) rfl (by kernel_rfl) (by kernel_rfl) (by kernel_rfl) (fun _ _ _ h=>h) (Or.inl ⟨?hw, ?hy⟩) (by assumption) ?_;(case hw=>kernel_rfl);(case hy=>intro w hSw;(try dsimp only at hSw);simp only [List.getElem_toArray,List.getElem_cons_zero,List.getElem_cons_succ];go_simp;(try with_reducible rfl));simp only [List.getElem_toArray,List.getElem_cons_zero,List.getElem_cons_succ,Act.put,List.setIfInBounds_toArray,List.set_cons_zero,List.set_cons_succ])
     first|(refine wpAnyH_take (i:=10) (v:=undef) rfl (by kernel_rfl) (by kernel_rfl) (by kernel_rfl) (fun _ _ _ h=>h) (Or.inr ⟨?hw,rfl⟩) (by assumption) ?_;(case hw=>rfl);simp only [List.getElem_toArray,List.getElem_cons_zero,List.getElem_cons_succ,Act.put,List.setIfInBounds_toArray,List.set_cons_zero,List.set_cons_succ])|(refine wpAnyH_take (i:=10) (v:= ?_) rfl (by kernel_rfl) (by kernel_rfl) (by kernel_rfl) (fun _ _ _ h=>h) (Or.inl ⟨?hw, ?hy⟩) (by assumption) ?_;(case hw=>kernel_rfl);(case hy=>intro w hSw;(try dsimp only at hSw);simp only [List.getElem_toArray,List.getElem_cons_zero,List.getElem_cons_succ];go_simp;(try with_reducible rfl));simp only [List.getElem_toArray,List.getElem_cons_zero,List.getElem_cons_succ,Act.put,List.setIfInBounds_toArray,List.set_cons_zero,List.set_cons_succ])
     first|(refine wpAnyH_take (i:=11) (v:=undef) rfl (by kernel_rfl) (by kernel_rfl) (by kernel_rfl) (fun _ _ _ h=>h) (Or.inr ⟨?hw,rfl⟩) (by assumption) ?_;(case hw=>rfl);simp only [List.getElem_toArray,List.getElem_cons_zero,List.getElem_cons_succ,Act.put,List.setIfInBounds_toArray,List.set_cons_zero,List.set_cons_succ])|(refine wpAnyH_take (i:=11) (v:= ?_) rfl (by kernel_rfl) (by kernel_rfl) (by kernel_rfl) (fun _ _ _ h=>h) (Or.inl ⟨?hw, ?hy⟩) (by assumption) ?_;(case hw=>kernel_rfl);(case hy=>intro w hSw;(try dsimp only at hSw);simp only [List.getElem_toArray,List.getElem_cons_zero,List.getElem_cons_succ];go_simp;(try with_reducible rfl));simp only [List.getElem_toArray,List.getElem_cons_zero,List.getElem_cons_succ,Act.put,List.setIfInBounds_toArray,List.set_cons_zero,List.set_cons_succ])
     first|(refine wpAnyH_take (i:=12) (v:=undef) rfl (by kernel_rfl) (by kernel_rfl) (by kernel_rfl) (fun _ _ _ h=>h) (Or.inr ⟨?hw,rfl⟩) (by assumption) ?_;(case hw=>rfl);simp only [List.getElem_toArray,List.getElem_cons_zero,List.getElem_cons_succ,Act.put,List.setIfInBounds_toArray,List.set_cons_zero,List.set_cons_succ])|(refine wpAnyH_take (i:=12) (v:= ?_) rfl (by kernel_rfl) (by kernel_rfl) (by kernel_rfl) (fun _ _ _ h=>h) (Or.inl ⟨?hw, ?hy⟩) (by assumption) ?_;(case hw=>kernel_rfl);(case hy=>intro w hSw;(try dsimp only at hSw);simp only [List.getElem_toArray,List.getElem_cons_zero,List.getElem_cons_succ];go_simp;(try with_reducible rfl));simp only [List.getElem_toArray,List.getElem_cons_zero,List.getElem_cons_succ,Act.put,List.setIfInBounds_toArray,List.set_cons_zero,List.set_cons_succ])
     first|(refine wpAnyH_take (i:=13) (v:=undef) rfl (by kernel_rfl) (by kernel_rfl) (by kernel_rfl) (fun _ _ _ h=>h) (Or.inr ⟨?hw,rfl⟩) (by assumption) ?_;(case hw=>rfl);simp only [List.getElem_toArray,List.getElem_cons_zero,List.getElem_cons_succ,Act.put,List.setIfInBounds_toArray,List.set_cons_zero,List.set_cons_succ])|(refine wpAnyH_take (i:=13) (v:= ?_) rfl (by kernel_rfl) (by kernel_rfl) (by kernel_rfl) (fun _ _ _ h=>h) (Or.inl ⟨?hw, ?hy⟩) (by assumption) ?_;(case hw=>kernel_rfl);(case hy=>intro w hSw;(try dsimp only at hSw);simp only [List.getElem_toArray,List.getElem_cons_zero,List.getElem_cons_succ];go_simp;(try with_reducible rfl));simp only [List.getElem_toArray,List.getElem_cons_zero,List.getElem_cons_succ,Act.put,List.setIfInBounds_toArray,List.set_cons_zero,List.set_cons_succ])
     first|(refine wpAnyH_take (i:=14) (v:=undef) rfl (by kernel_rfl) (by kernel_rfl) (by kernel_rfl) (fun _ _ _ h=>h) (Or.inr ⟨?hw,rfl⟩) (by assumption) ?_;(case hw=>rfl);simp only [List.getElem_toArray,List.getElem_cons_zero,List.getElem_cons_succ,Act.put,List.setIfInBounds_toArray,List.set_cons_zero,List.set_cons_succ])|(refine wpAnyH_take (i:=14) (v:= ?_) rfl (by kernel_rfl) (by kernel_rfl) (by kernel_rfl) (fun _ _ _ h=>h) (Or.inl ⟨?hw, ?hy⟩) (by assumption) ?_;(case hw=>kernel_rfl);(case hy=>intro w hSw;(try dsimp only at hSw);simp only [List.getElem_toArray,List.getElem_cons_zero,List.getElem_cons_succ];go_simp;(try with_reducible rfl));simp only [List.getElem_toArray,List.getElem_cons_zero,List.getElem_cons_succ,Act.put,List.setIfInBounds_toArray,List.set_cons_zero,List.set_cons_succ])
     first|(refine wpAnyH_take (i:=15) (v:=undef) rfl (by kernel_rfl) (by kernel_rfl) (by kernel_rfl) (fun _ _ _ h=>h) (Or.inr ⟨?hw,rfl⟩) (by assumption) ?_;(case hw=>rfl);simp only [List.getElem_toArray,List.getElem_cons_zero,List.getElem_cons_succ,Act.put,List.setIfInBounds_toArray,List.set_cons_zero,List.set_cons_succ])|(refine wpAnyH_take (i:=15) (v:= ?_) rfl (by kernel_rfl) (by kernel_rfl) (by kernel_rfl) (fun _ _ _ h=>h) (Or.inl ⟨?hw, ?hy⟩) (by assumption) ?_;(case hw=>kernel_rfl);(case hy=>intro w hSw;(try dsimp only at hSw);simp only [List.getElem_toArray,List.getElem_cons_zero,List.getElem_cons_succ];go_simp;(try with_reducible rfl));simp only [List.getElem_toArray,List.getElem_cons_zero,List.getElem_cons_succ,Act.put,List.setIfInBounds_toArray,List.set_cons_zero,List.set_cons_succ])
     first|(refine wpAnyH_take (i:=16) (v:=undef) rfl (by kernel_rfl) (by kernel_rfl) (by kernel_rfl) (fun _ _ _ h=>h) (Or.inr ⟨?hw,rfl⟩) (by assumption) ?_;(case hw=>rfl);simp only [List.getElem_toArray,List.getElem_cons_zero,List.getElem_cons_succ,Act.put,List.setIfInBounds_toArray,List.set_cons_zero,List.set_cons_succ])|(refine wpAnyH_take (i:=16) (v:= ?_) rfl (by kernel_rfl) (by kernel_rfl) (by kernel_rfl) (fun _ _ _ h=>h) (Or.inl ⟨?hw, ?hy⟩) (by assumption) ?_;(case hw=>kernel_rfl);(case hy=>intro w hSw;(try dsimp only at hSw);simp only [List.getElem_toArray,List.getElem_cons_zero,List.getElem_cons_succ];go_simp;(try with_reducible rfl));simp only [List.getElem_toArray,List.getElem_cons_zero,List.getElem_cons_succ,Act.put,List.setIfInBounds_toArray,List.set_cons_zero,List.set_cons_succ])
     first|(refine wpAnyH_take (i:=17) (v:=undef) rfl (by kernel_rfl) (by kernel_rfl) (by kernel_rfl) (fun _ _ _ h=>h) (Or.inr ⟨?hw,rfl⟩) (by assumption) ?_;(case hw=>rfl);simp only [List.getElem_toArray,List.getElem_cons_zero,List.getElem_cons_succ,Act.put,List.setIfInBounds_toArray,List.set_cons_zero,List.set_cons_succ])|(refine wpAnyH_take (i:=17) (v:= ?_) rfl (by kernel_rfl) (by kernel_rfl) (by kernel_rfl) (fun _ _ _ h=>h) (Or.inl ⟨?hw, ?hy⟩) (by assumption) ?_;(case hw=>kernel_rfl);(case hy=>intro w hSw;(try dsimp only at hSw);simp only [List.getElem_toArray,List.getElem_cons_zero,List.getElem_cons_succ];go_simp;(try with_reducible rfl));simp only [List.getElem_toArray,List.getElem_cons_zero,List.getElem_cons_succ,Act.put,List.setIfInBounds_toArray,List.set_cons_zero,List.set_cons_succ])
     first|(refine wpAnyH_take (i:=18) (v:=undef) rfl (by kernel_rfl) (by kernel_rfl) (by kernel_rfl) (fun _ _ _ h=>h) (Or.inr ⟨?hw,rfl⟩) (by assumption) ?_;(case hw=>rfl);simp only [List.getElem_toArray,List.getElem_cons_zero,List.getElem_cons_succ,Act.put,List.setIfInBounds_toArray,List.set_cons_zero,List.set_cons_succ])|(refine wpAnyH_take (i:=18) (v:= ?_) rfl (by kernel_rfl) (by kernel_rfl) (by kernel_rfl) (fun _ _ _ h=>h) (Or.inl ⟨?hw, ?hy⟩) (by assumption) ?_;(case hw=>kernel_rfl);(case hy=>intro w hSw;(try dsimp only at hSw);simp only [List.getElem_toArray,List.getElem_cons_zero,List.getElem_cons_succ];go_simp;(try with_reducible rfl));simp only [List.getElem_toArray,List.getElem_cons_zero,List.getElem_cons_succ,Act.put,List.setIfInBounds_toArray,List.set_cons_zero,List.set_cons_succ])
     first|(refine wpAnyH_take (i:=19) (v:=undef) rfl (by kernel_rfl) (by kernel_rfl) (by kernel_rfl) (fun _ _ _ h=>h) (Or.inr ⟨?hw,rfl⟩) (by assumption) ?_;(case hw=>rfl);simp only [List.getElem_toArray,List.getElem_cons_zero,List.getElem_cons_succ,Act.put,List.setIfInBounds_toArray,List.set_cons_zero,List.set_cons_succ])|(refine wpAnyH_take (i:=19) (v:= ?_) rfl (by kernel_rfl) (by kernel_rfl) (by kernel_rfl) (fun _ _ _ h=>h) (Or.inl ⟨?hw, ?hy⟩) (by assumption) ?_;(case hw=>kernel_rfl);(case hy=>intro w hSw;(try dsimp only at hSw);simp only [List.getElem_toArray,List.getElem_cons_zero,List.getElem_cons_succ];go_simp;(try with_reducible rfl));simp only [List.getElem_toArray,List.getElem_cons_zero,List.getElem_cons_succ,Act.put,List.setIfInBounds_toArray,List.set_cons_zero,List.set_cons_succ])
     first|(refine wpAnyH_take (i:=20) (v:=undef) rfl (by kernel_rfl) (by kernel_rfl) (by kernel_rfl) (fun _ _ _ h=>h) (Or.inr ⟨?hw,rfl⟩) (by assumption) ?_;(case hw=>rfl);simp only [List.getElem_toArray,List.getElem_cons_zero,List.getElem_cons_succ,Act.put,List.setIfInBounds_toArray,List.set_cons_zero,List.set_cons_succ])|(refine wpAnyH_take (i:=20) (v:= ?_) rfl (by kernel_rfl) (by kernel_rfl) (by kernel_rfl) (fun _ _ _ h=>h) (Or.inl ⟨?hw, ?hy⟩) (by assumption) ?_;(case hw=>kernel_rfl);(case hy=>intro w hSw;(try dsimp only at hSw);simp only [List.getElem_toArray,List.getElem_cons_zero,List.getElem_cons_succ];go_simp;(try with_reducible rfl));simp only [List.getElem_toArray,List.getElem_cons_zero,List.getElem_cons_succ,Act.put,List.setIfInBounds_toArray,List.set_cons_zero,List.set_cons_succ])
     first|(refine wpAnyH_take (i:=21) (v:=undef) rfl (by kernel_rfl) (by kernel_rfl) (by kernel_rfl) (fun _ _ _ h=>h) (Or.inr ⟨?hw,rfl⟩) (by assumption) ?_;(case hw=>rfl);simp only [List.getElem_toArray,List.getElem_cons_zero,List.getElem_cons_succ,Act.put,List.setIfInBounds_toArray,List.set_cons_zero,List.set_cons_succ])|(refine wpAnyH_take (i:=21) (v:= ?_) rfl (by kernel_rfl) (by kernel_rfl) (by kernel_rfl) (fun _ _ _ h=>h) (Or.inl ⟨?hw, ?hy⟩) (by assumption) ?_;(case hw=>kernel_rfl);(case hy=>intro w hSw;(try dsimp only at hSw);simp only [List.getElem_toArray,List.getElem_cons_zero,List.getElem_cons_succ];go_simp;(try with_reducible rfl));simp only [List.getElem_toArray,List.getElem_cons_zero,List.getElem_cons_succ,Act.put,List.setIfInBounds_toArray,List.set_cons_zero,List.set_cons_succ])
     first|(refine wpAnyH_take (i:=22) (v:=undef) rfl (by kernel_rfl) (by kernel_rfl) (by kernel_rfl) (fun _ _ _ h=>h) (Or.inr ⟨?hw,rfl⟩) (by assumption) ?_;(case hw=>rfl);simp only [List.getElem_toArray,List.getElem_cons_zero,List.getElem_cons_succ,Act.put,List.setIfInBounds_toArray,List.set_cons_zero,List.set_cons_succ])|(refine wpAnyH_take (i:=22) (v:= ?_) rfl (by kernel_rfl) (by kernel_rfl) (by kernel_rfl) (fun _ _ _ h=>h) (Or.inl ⟨?hw, ?hy⟩) (by assumption) ?_;(case hw=>kernel_rfl);(case hy=>intro w hSw;(try dsimp only at hSw);simp only [List.getElem_toArray,List.getElem_cons_zero,List.getElem_cons_succ];go_simp;(try with_reducible rfl));simp only [List.getElem_toArray,List.getElem_cons_zero,List.getElem_cons_succ,Act.put,List.setIfInBounds_toArray,List.set_cons_zero,List.set_cons_succ])
     first|(refine wpAnyH_take (i:=23) (v:=undef) rfl (by kernel_rfl) (by kernel_rfl) (by kernel_rfl) (fun _ _ _ h=>h) (Or.inr ⟨?hw,rfl⟩) (by assumption) ?_;(case hw=>rfl);simp only [List.getElem_toArray,List.getElem_cons_zero,List.getElem_cons_succ,Act.put,List.setIfInBounds_toArray,List.set_cons_zero,List.set_cons_succ])|(refine wpAnyH_take (i:=23) (v:= ?_) rfl (by kernel_rfl) (by kernel_rfl) (by kernel_rfl) (fun _ _ _ h=>h) (Or.inl ⟨?hw, ?hy⟩) (by assumption) ?_;(case hw=>kernel_rfl);(case hy=>intro w hSw;(try dsimp only at hSw);simp only [List.getElem_toArray,List.getElem_cons_zero,List.getElem_cons_succ];go_simp;(try with_reducible rfl));simp only [List.getElem_toArray,List.getElem_cons_zero,List.getElem_cons_succ,Act.put,List.setIfInBounds_toArray,List.set_cons_zero,List.set_cons_succ])
     first|(refine wpAnyH_take (i:=24) (v:=undef) rfl (by kernel_rfl) (by kernel_rfl) (by kernel_rfl) (fun _ _ _ h=>h) (Or.inr ⟨?hw,rfl⟩) (by assumption) ?_;(case hw=>rfl);simp only [List.getElem_toArray,List.getElem_cons_zero,List.getElem_cons_succ,Act.put,List.setIfInBounds_toArray,List.set_cons_zero,List.set_cons_succ])|(refine wpAnyH_take (i:=24) (v:= ?_) rfl (by kernel_rfl) (by kernel_rfl) (by kernel_rfl) (fun _ _ _ h=>h) (Or.inl ⟨?hw, ?hy⟩) (by assumption) ?_;(case hw=>kernel_rfl);(case hy=>intro w hSw;(try dsimp only at hSw);simp only [List.getElem_toArray,List.getElem_cons_zero,List.getElem_cons_succ];go_simp;(try with_reducible rfl));simp only [List.getElem_toArray,List.getElem_cons_zero,List.getElem_cons_succ,Act.put,List.setIfInBounds_toArray,List.set_cons_zero,List.set_cons_succ])
     first|(refine wpAnyH_take (i:=25) (v:=undef) rfl (by kernel_rfl) (by kernel_rfl) (by kernel_rfl) (fun _ _ _ h=>h) (Or.inr ⟨?hw,rfl⟩) (by assumption) ?_;(case hw=>rfl);simp only [List.getElem_toArray,List.getElem_cons_zero,List.getElem_cons_succ,Act.put,List.setIfInBounds_toArray,List.set_cons_zero,List.set_cons_succ])|(refine wpAnyH_take (i:=25) (v:= ?_) rfl (by kernel_rfl) (by kernel_rfl) (by kernel_rfl) (fun _ _ _ h=>h) (Or.inl ⟨?hw, ?hy⟩) (by assumption) ?_;(case hw=>kernel_rfl);(case hy=>intro w hSw;(try dsimp only at hSw);simp only [List.getElem_toArray,List.getElem_cons_zero,List.getElem_cons_succ];go_simp;(try with_reducible rfl));simp only [List.getElem_toArray,List.getElem_cons_zero,List.getElem_cons_succ,Act.put,List.setIfInBounds_toArray,List.set_cons_zero,List.set_cons_succ])
     first|(refine wpAnyH_take (i:=26) (v:=undef) rfl (by kernel_rfl) (by kernel_rfl) (by kernel_rfl) (fun _ _ _ h=>h) (Or.inr ⟨?hw,rfl⟩) (by assumption) ?_;(case hw=>rfl);simp only [List.getElem_toArray,List.getElem_cons_zero,List.getElem_cons_succ,Act.put,List.setIfInBounds_toArray,List.set_cons_zero,List.set_cons_succ])|(refine wpAnyH_take (i:=26) (v:= ?_) rfl (by kernel_rfl) (by kernel_rfl) (by kernel_rfl) (fun _ _ _ h=>h) (Or.inl ⟨?hw, ?hy⟩) (by assumption) ?_;(case hw=>kernel_rfl);(case hy=>intro w hSw;(try dsimp only at hSw);simp only [List.getElem_toArray,List.getElem_cons_zero,List.getElem_cons_succ];go_simp;(try with_reducible rfl));simp only [List.getElem_toArray,List.getElem_cons_zero,List.getElem_cons_succ,Act.put,List.setIfInBounds_toArray,List.set_cons_zero,List.set_cons_succ])
     refine wpAnyH_done (by kernel_rfl) ?_ _
     go_wp2
     go_ret
     exact ⟨by rw [HV2.out];simp,HW1.out.trans (hb5.mono HW1.out.size)⟩)
end Go.Proofs.YtipnlgmeonepfaaGreatDoor.PFa

set_option linter.unusedVariables false
set_option linter.unusedSimpArgs false
namespace Go.Proofs.YtipnlgmeonepfaaGreatDoor.PFa
open Go.RowKit Go.Proofs.YtipnlgmeonepfaaGreatDoorW.PrintWords Go.Proofs.YtipnlgmeonepfaaGreatDoorW.PrintLast Go.Proofs.YtipnlgmeonepfaaGreatDoorW.PrintMore
open Go.Proofs.YtipnlgmeonepfaaGreatDoor.Lx (Kp)
def freshAt (ws:List ByteArray) (i:Nat):Bool:= !memB (rdOf ByteArray.empty ws (i:Int)) (ws.take i)
def distB (ws:List ByteArray):Bool:=(List.range ws.length).all (freshAt ws)
set_option maxHeartbeats 6400000 in
theorem dist_c {A:Option Addr} {c:Nat} {ws:List ByteArray} {w:World} (hC:Kd.C Kd.string w A ws.length ws) (hc:ws.length≤c) (hl:ws.length≤1000):
  Calls Tryz.prog 80 #[.slice A ws.length c] w fun e w'=>e=.returned (.bool (distB ws))∧Drawn0 w w':=by
 have HV:Hid (∀i,i<ws.length→freshAt ws i=false→distB ws=false):=Lib.hid (fun i hi h=>by
  unfold distB
  rw [List.all_eq_false]
  exact ⟨i,List.mem_range.2 hi,by rw [h];decide⟩)
 have HT:Hid ((∀i,i<ws.length→freshAt ws i=true)→distB ws=true):=Lib.hid (fun h=>by
  unfold distB
  rw [List.all_eq_true]
  exact fun i hi=>h i (List.mem_range.1 hi))
 obtain ⟨V,hV⟩: ∃V,distB ws=V:=⟨_,rfl⟩
 rw [hV] at HV HT⊢
 have HR0:=Lib.hid hC
 clear hC hV
 go_enter Tryz.func80,Tryz.ntmps80
 go_wp2_with fail
 go_loopg [3] (ws.length+1) (fun kq v3 wr=> ∃i:Nat,v3=.int .i64 i∧i≤ws.length∧ws.length+1-i≤kq∧Hid (∀j,j<i→freshAt ws j=true)∧Hid (Drawn0 w wr))
 case atStart=>exact ⟨0,rfl,Nat.zero_le _,Nat.le_refl _,Lib.hid (fun j hj=>absurd hj (by omega)),Lib.hid (Drawn0.refl _)⟩
 case round=>
  obtain ⟨i,rfl,hil,hkq,HALL,HD⟩:=hrel
  have HKQ:=Lib.hid hkq
  clear hkq
  by_cases hlt:i<ws.length
  ·have x1:decide (i<ws.length)=true:=decide_eq_true hlt
   have x2:decide ((i:Int)<(ws.length:Int))=true:=decide_eq_true (by omega)
   have hti:(ws.take i).length=i:=by rw [List.length_take];omega
   have hrw:Kd.C Kd.string wr A ws.length ws:=by obtain ⟨m,rfl⟩:=HD.out;exact Kd.C_drewN HR0.out m
   obtain ⟨ad,ead,hx⟩:=Kd.at_string hrw (i:Int) (by omega) (by omega)
   cases ead
   have HFR:Hid (freshAt ws i= !memB (rdOf ByteArray.empty ws (i:Int)) (ws.take i)):=Lib.hid rfl
   obtain ⟨s,hs⟩: ∃s,rdOf ByteArray.empty ws (i:Int)=s:=⟨_,rfl⟩
   rw [hs] at hx HFR
   simp only [Int.toNat_natCast] at hx
   obtain ⟨t,ht⟩: ∃t,idxGo s (ws.take i) 0=t:=⟨_,rfl⟩
   have HSG:Hid (decide (t<0)=freshAt ws i):=Lib.hid (by rw [←ht,HFR.out];exact idx_sign s _ 0)
   have HCALL:Hid (∀X,Below wr.heap.size wr X→Calls Tryz.prog 58 #[.slice (some ad) i c,.string s] X fun e w'=>e=.returned (.int .i64 t)∧Drawn0 X w'):=Lib.hid (fun X hb=>by
    have:=index_val (c:=c) (s:=s) (Kd.C_below (strs_take hrw i (by omega)) hb) (by omega)
    rw [ht,hti] at this
    exact this)
   clear hs hrw ht HFR
   have p1:(0:Int)≤(i:Int):=by omega
   have p2:(i:Int)<(ws.length:Int):=by omega
   have p3:(i:Int)≤(c:Int):=by omega
   have p4:i≤c:=by omega
   have e1:decide ((i:Int)≤(c:Int))=true:=decide_eq_true (by omega)
   have e2:decide (i≤c)=true:=decide_eq_true (by omega)
   have e3:(0≤(i:Int)∧(i:Int)≤(c:Int))=True:=eq_true (by omega)
   have y1:wrap64 ((i:Int)+1)=((i+1:Nat):Int):=by unfold wrap64;omega
   by_cases h0:0≤t
   ·have z1:decide (0≤t)=true:=decide_eq_true h0
    have HF:Hid (V=false):=Lib.hid (HV.out i hlt (by rw [←HSG.out];exact decide_eq_false (by omega)))
    go_upto_region 4 with (fail)
    go_quiet ((go_at_call 58;exact Lx.quiet0 (HCALL.out _ (by repeat (with_reducible first|exact Below.refl _ _|apply pw_below_drewN|apply Below.drew)))))
    go_wp2
    go_ret
    exact ⟨by rw [HF.out];rfl,by obtain ⟨m,rfl⟩:=HD.out;exact ⟨_,World.drewN_drewN _ _ _⟩⟩
   ·have z1:decide (0≤t)=false:=decide_eq_false h0
    have HG:Hid (freshAt ws i=true):=Lib.hid (by rw [←HSG.out];exact decide_eq_true (by omega))
    go_upto_region 4 with (fail)
    go_quiet ((go_at_call 58;exact Lx.quiet0 (HCALL.out _ (by repeat (with_reducible first|exact Below.refl _ _|apply pw_below_drewN|apply Below.drew)))))
    go_wp2
    go_roundg (gk-1)
    case measure=>have:=HKQ.out;omega
    case rel=>
     refine ⟨i+1,by go_num,by omega,by have:=HKQ.out;omega,Lib.hid (fun j hj=> ?_),Lib.hid (by obtain ⟨m,rfl⟩:=HD.out;exact ⟨_,World.drewN_drewN _ _ _⟩)⟩
     rcases (by omega:j<i∨j=i) with h|rfl
     ·exact HALL.out j h
     ·exact HG.out
  ·have x1:decide (i<ws.length)=false:=decide_eq_false hlt
   have x2:decide ((i:Int)<(ws.length:Int))=false:=decide_eq_false (by omega)
   have HF:Hid (V=true):=Lib.hid (HT.out (fun j hj=>HALL.out j (by omega)))
   go_wp2
   go_ret
   exact ⟨by rw [HF.out];rfl,HD.out⟩
def okR (ws:List ByteArray) (i:Nat):Bool:=plainB (rdOf ByteArray.empty ws (i:Int))&& !memB (rdOf ByteArray.empty ws (i:Int)) takenWords
theorem words_right (ws:List ByteArray):wordsB ws=(decide (ws.length≤40)&&(distB ws&&(List.range ws.length).all (okR ws))):=by
 unfold wordsB distB
 congr 1
 rw [Bool.eq_iff_iff,Bool.and_eq_true,List.all_eq_true,List.all_eq_true,List.all_eq_true]
 constructor
 ·intro h
  refine ⟨fun i hi=> ?_,fun i hi=> ?_⟩
  ·have:=h i hi
   unfold wordOk at this
   rw [Bool.and_eq_true] at this
   exact this.2
  ·have:=h i hi
   unfold wordOk at this
   rw [Bool.and_eq_true] at this
   exact this.1
 ·rintro ⟨h1,h2⟩ i hi
  have a:=h1 i hi
  have b:=h2 i hi
  unfold freshAt at a
  unfold okR at b
  unfold wordOk
  rw [a,b]
  rfl
attribute [local go_sem ↓ high] app_veil
set_option maxHeartbeats 6400000 in
set_option maxRecDepth 100000 in
theorem right_c {A:Option Addr} {c:Nat} {ws:List ByteArray} {w:World} (hC:Kd.C Kd.string w A ws.length ws) (hc:ws.length≤c):
  Calls Tryz.prog 50 #[.slice A ws.length c] w fun e w'=>e=.returned (.bool (wordsB ws))∧Below w.heap.size w w':=by
 have HV:=Lib.hid (words_right ws)
 obtain ⟨V,hV⟩: ∃V,wordsB ws=V:=⟨_,rfl⟩
 rw [hV] at HV⊢
 clear hV
 by_cases hlen:40<ws.length
 ·have x1:decide (40<ws.length)=true:=decide_eq_true hlen
  have x2:decide ((40:Int)<(ws.length:Int))=true:=decide_eq_true (by omega)
  have HF:Hid (V=false):=Lib.hid (by rw [HV.out,decide_eq_false (by omega)];rfl)
  clear hC hc hlen HV
  go_enter Tryz.func50,Tryz.ntmps50
  go_wp2
  go_ret
  exact ⟨by rw [HF.out];rfl,by repeat (with_reducible first|exact Below.refl _ _|apply Below.drew)⟩
 ·have x1:decide (40<ws.length)=false:=decide_eq_false hlen
  have x2:decide ((40:Int)<(ws.length:Int))=false:=decide_eq_false (by omega)
  have HV1:Hid (V=(distB ws&&(List.range ws.length).all (okR ws))):=Lib.hid (by rw [HV.out,decide_eq_true (by omega),Bool.true_and])
  have HDC:=Lib.hid (dist_c hC hc (by omega))
  obtain ⟨D,hD⟩: ∃D,distB ws=D:=⟨_,rfl⟩
  rw [hD] at HV1 HDC
  have HR0:=Lib.hid hC
  clear hD hC HV
  cases D with
  |false=>
   go_enter Tryz.func50,Tryz.ntmps50
   go_wp2_with fail
   refine HDC.out.mono ?_
   rintro e w1 ⟨rfl,hd⟩
   have HD:=Lib.hid hd
   clear hd HDC
   go_wp2
   go_ret
   exact ⟨by rw [HV1.out];rfl,HD.out.below⟩
  |true=>
   have HV2:Hid (V=(List.range ws.length).all (okR ws)):=Lib.hid (by rw [HV1.out];rfl)
   clear HV1
   go_enter Tryz.func50,Tryz.ntmps50
   go_wp2_with fail
   refine HDC.out.mono ?_
   rintro e w1 ⟨rfl,hd⟩
   have HB1:=Lib.hid hd.below
   clear hd HDC
   go_wp2_with fail
   refine (rwords_c _).mono ?_
   rintro e w2 ⟨v,rfl,hR,hb2⟩
   have HB2:=Lib.hid (HB1.out.trans (hb2.mono HB1.out.size))
   have hlit:=strs_lit (l:=[⟨#[101,110,100]⟩,⟨#[115,108,111,116]⟩]) (blk_new w2 (.cells #[.string ⟨#[101,110,100]⟩,.string ⟨#[115,108,111,116]⟩] 9 (0,0))) (by decide)
   obtain ⟨v1,w9,hrun,hR9,hB9⟩:=app_strs (P:=Tryz.prog) (t:=23) (ty:=23) (c:=2) Tryz.underlying23 (by kernel_rfl) (Kd.R_alloc hR _) hlit (fun _ _=>trivial) (by simp;exact Nat.le_succ_of_le hb2.size) (by decide)
   have hb9:Below w1.heap.size w1 w9:=(below_alloc hb2 _).trans (hB9.mono (Nat.le_refl _))
   have HB9:=Lib.hid (HB1.out.trans (hb9.mono HB1.out.size))
   obtain ⟨A9,c9,rfl,hle9,hC9⟩:=Kd.R_reads hR9
   have hT:openers++[⟨#[101,110,100]⟩,⟨#[115,108,111,116]⟩]=takenWords:=rfl
   rw [hT] at hC9 hle9 hrun
   simp only [List.length_cons,List.length_nil,Nat.zero_add,Nat.reduceAdd] at hrun
   have HC9:=Lib.hid hC9
   clear hR hb2 hB9 hR9 hb9 hC9 hlit HB1 HB2
   go_wp2_with fail
   clear hrun
   go_loopg [4] (ws.length+1) (fun kq v4 wr=> ∃i:Nat,v4=.int .i64 i∧i≤ws.length∧ws.length+1-i≤kq∧Hid (∀j,j<i→okR ws j=true)∧Hid (Below w.heap.size w wr)∧Hid (Kd.C Kd.string wr A9 takenWords.length takenWords))
   case atStart=>exact ⟨0,rfl,Nat.zero_le _,Nat.le_refl _,Lib.hid (fun j hj=>absurd hj (by omega)),HB9,HC9⟩
   case round=>
    obtain ⟨i,rfl,hil,hkq,HALL,HB,HC⟩:=hrel
    have HKQ:=Lib.hid hkq
    clear hkq HB9 HC9
    by_cases hlt:i<ws.length
    ·have y1:decide (i<ws.length)=true:=decide_eq_true hlt
     have y2:decide ((i:Int)<(ws.length:Int))=true:=decide_eq_true (by omega)
     obtain ⟨ad,ead,hx⟩:=Kd.at_string (Kd.C_below HR0.out HB.out) (i:Int) (by omega) (by omega)
     cases ead
     have HOK:Hid (okR ws i=(plainB (rdOf ByteArray.empty ws (i:Int))&& !memB (rdOf ByteArray.empty ws (i:Int)) takenWords)):=Lib.hid rfl
     obtain ⟨s,hs⟩: ∃s,rdOf ByteArray.empty ws (i:Int)=s:=⟨_,rfl⟩
     rw [hs] at hx HOK
     simp only [Int.toNat_natCast] at hx
     obtain ⟨t,ht⟩: ∃t,idxGo s takenWords 0=t:=⟨_,rfl⟩
     have HSG:Hid (decide (t<0)= !memB s takenWords):=Lib.hid (by rw [←ht];exact idx_sign s _ 0)
     have HIX:Hid (∀X,Below wr.heap.size wr X→Calls Tryz.prog 58 #[.slice A9 takenWords.length c9,.string s] X fun e w'=>e=.returned (.int .i64 t)∧Drawn0 X w'):=Lib.hid (fun X hb=>by
      have:=index_val (c:=c9) (s:=s) (Kd.C_below HC.out hb) (by decide)
      rw [ht] at this
      exact this)
     have HPL:=Lib.hid (rplain_c s wr)
     obtain ⟨P,hP⟩: ∃P,plainB s=P:=⟨_,rfl⟩
     rw [hP] at HPL HOK
     clear hs ht hP
     have p1:(0:Int)≤(i:Int):=by omega
     have p2:(i:Int)<(ws.length:Int):=by omega
     have z5:wrap64 ((i:Int)+1)=((i+1:Nat):Int):=by unfold wrap64;omega
     have z6:IntKind.i64.wrap ((i:Int)+1)=((i+1:Nat):Int):=by rw [IntWalk.i64_in _ (by omega)];omega
     have HBAD:Hid (okR ws i=false→V=false):=Lib.hid (fun h=>by
      rw [HV2.out,List.all_eq_false]
      exact ⟨i,List.mem_range.2 hlt,by rw [h];decide⟩)
     go_wp2_with fail
     refine HPL.out.mono ?_
     rintro e w3 ⟨rfl,hb3⟩
     have hx3:=pw_cell_below hb3 hx
     have HB3:=Lib.hid hb3
     have HBW3:=Lib.hid (HB.out.trans (hb3.mono HB.out.size))
     clear hb3 hx HPL
     cases P with
     |false=>
      have HF:Hid (V=false):=Lib.hid (HBAD.out (by rw [HOK.out];rfl))
      go_wp2
      go_ret
      exact ⟨by rw [HF.out];rfl,HBW3.out⟩
     |true=>
      go_wp2_with fail
      refine (HIX.out _ HB3.out).mono ?_
      rintro e w4 ⟨rfl,hd⟩
      have HD:=Lib.hid hd
      clear hd HIX hx3
      by_cases h0:0≤t
      ·have z1:decide (0≤t)=true:=decide_eq_true h0
       have HF:Hid (V=false):=Lib.hid (HBAD.out (by rw [HOK.out,←HSG.out,Bool.true_and];exact decide_eq_false (by omega)))
       go_wp2
       go_ret
       exact ⟨by rw [HF.out];rfl,HBW3.out.trans (HD.out.below.mono HBW3.out.size)⟩
      ·have z1:decide (0≤t)=false:=decide_eq_false h0
       have HG:Hid (okR ws i=true):=Lib.hid (by rw [HOK.out,←HSG.out,Bool.true_and];exact decide_eq_true (by omega))
       go_wp2
       go_roundg (gk-1)
       case measure=>have:=HKQ.out;omega
       case rel=>
        refine ⟨i+1,by go_num,by omega,by have:=HKQ.out;omega,Lib.hid (fun j hj=> ?_),Lib.hid (HBW3.out.trans (HD.out.below.mono HBW3.out.size)),Lib.hid (Kd.C_below (Kd.C_below HC.out HB3.out) HD.out.below)⟩
        rcases (by omega:j<i∨j=i) with h|rfl
        ·exact HALL.out j h
        ·exact HG.out
    ·have y1:decide (i<ws.length)=false:=decide_eq_false hlt
     have y2:decide ((i:Int)<(ws.length:Int))=false:=decide_eq_false (by omega)
     have HF:Hid (V=true):=Lib.hid (by
      rw [HV2.out,List.all_eq_true]
      exact fun j hj=>HALL.out j (by have:=List.mem_range.1 hj;omega))
     go_wp2
     go_ret
     exact ⟨by rw [HF.out];rfl,HB.out⟩
section
variable {l:List Tk} {ws:List ByteArray}
theorem rlist_none: ∀(k d i:Nat) (out:List Fg) {c:Nat} {o:List Fg},rlist ws l k d none i out≠ .shut c o:=by
 intro k
 induction k with
 |zero=>intro d i out c o;unfold rlist;simp
 |succ k ih=>
  intro d i out c o
  rw [rlist.eq_def]
  dsimp only
  split
  ·split
   ·split
    ·simp
    ·split
     ·split
      ·simp
      ·split
       ·simp
       ·simp
       ·split
        ·simp
        ·exact ih _ _ _
     ·exact ih _ _ _
   ·simp
  ·simp
theorem read_rl (hw:wordsB ws=true) (hl:l.length≤6000):readOut l ws=match rlist ws l (l.length+1) 0 none 0 [] with
  | .bad j e=>([],j,e)
  | .fin o=>(o,0,0)
  | .shut _ _=>([],0,0):=by
 have hs:=(simulate (l:=l) (plainly_of hw) (l.length+1) (l.length+1) 0 [] (by omega) (by omega)).1 []
 unfold readOut
 rw [if_pos hw,if_pos hl]
 revert hs
 cases hr:rlist ws l (l.length+1) 0 none 0 [] with
 |shut c o=>exact absurd hr (rlist_none _ _ _ _)
 |bad j e=>
  cases mach (actTab (openers++ws)) l (l.length+1) 0 [] [] with
  |bad i e'=>
   intro hs
   unfold ended at hs
   injection hs with h1 h2
   rw [h1,h2]
  |go i top ps=>
   intro hs
   cases ps with
   |nil=>unfold ended at hs;cases hs
   |cons p r=>
    unfold ended at hs
    injection hs with h1 h2
    dsimp only
    rw [h1,h2]
 |fin o=>
  cases mach (actTab (openers++ws)) l (l.length+1) 0 [] [] with
  |bad i e'=>intro hs;unfold ended at hs;cases hs
  |go i top ps=>
   intro hs
   cases ps with
   |nil=>
    unfold ended at hs
    injection hs with h1
    dsimp only
    rw [h1]
   |cons p r=>unfold ended at hs;cases hs
end
def RGot (out:List Fg×Int×Int) (w:World) (e:Ending) (W:World):Prop:=
 ∃v,e=.returned (.agg #[v,.int .i64 out.2.1,.int .i64 out.2.2])∧k49.R 49 W w.heap.size (fun _=>True) v out.1∧Below w.heap.size w W
/-- The result's variable, written. -/
theorem got_set {w W:World} {v:Value} (hb:W.heap[w.heap.size]? =some (.cells #[.slice none 0 0,.int .i64 0,.int .i64 0] 30 (0,0))) (hB:Below w.heap.size w W) (a b c:Value):
  (((W.setCell ⟨w.heap.size,0,none⟩ a).setCell ⟨w.heap.size,1,none⟩ b).setCell ⟨w.heap.size,2,none⟩ c).heap[w.heap.size]? =some (.cells #[a,b,c] 30 (0,0))∧
  Below w.heap.size w (((W.setCell ⟨w.heap.size,0,none⟩ a).setCell ⟨w.heap.size,1,none⟩ b).setCell ⟨w.heap.size,2,none⟩ c)∧
  Kp (fun k=>k=w.heap.size) W (((W.setCell ⟨w.heap.size,0,none⟩ a).setCell ⟨w.heap.size,1,none⟩ b).setCell ⟨w.heap.size,2,none⟩ c):=by
 have K:=Kp.setCell (Kp.setCell (Kp.setCell (S:=fun k=>k=w.heap.size) (Kp.refl _ W) (p:=⟨w.heap.size,0,none⟩) (.inl rfl) a) (p:=⟨w.heap.size,1,none⟩) (.inl rfl) b) (p:=⟨w.heap.size,2,none⟩) (.inl rfl) c
 exact ⟨blk_put (blk_put (blk_put hb 0 _ rfl) 1 _ rfl) 2 _ rfl,Kp.below hB K (by rintro k rfl;omega) hB.size,K⟩
set_option maxHeartbeats 6400000 in
set_option maxRecDepth 100000 in
theorem rread_walk {A0 A1:Option Addr} {c0 c1:Nat} {l:List Tk} {ws:List ByteArray} {w:World} (hC:Kd.C k39 w A0 l.length l) (hc:l.length≤c0) (hW:Kd.C Kd.string w A1 ws.length ws) (hcw:ws.length≤c1) (hsz: ∀t∈l,t.f2.size≤140737488351232):
  Calls Tryz.prog 16 #[.slice A0 l.length c0,.slice A1 ws.length c1] w (RGot (readOut l ws) w):=by
 obtain ⟨Res,hRes⟩: ∃R,readOut l ws=R:=⟨_,rfl⟩
 rw [hRes]
 have HR:=Lib.hid hRes
 have HC:=Lib.hid hC
 have HW:=Lib.hid hW
 have HSZ:=Lib.hid hsz
 clear hRes hC hW hsz
 have HRW:=Lib.hid (fun (X:World) (hX:Below w.heap.size w X)=>right_c (c:=c1) (Kd.C_below HW.out hX) hcw)
 have HB0:Hid (Below w.heap.size w (w.alloc (.cells #[.slice none 0 0,.int .i64 0,.int .i64 0] 30 (0,0)))):=Lib.hid (below_alloc (Below.refl _ _) _)
 have HK0:=Lib.hid (blk_new w (.cells #[.slice none 0 0,.int .i64 0,.int .i64 0] 30 (0,0)))
 obtain ⟨bw,hbw⟩: ∃b,wordsB ws=b:=⟨_,rfl⟩
 rw [hbw] at HRW
 have HBW:=Lib.hid hbw
 clear hbw
 go_enter Tryz.func16,Tryz.ntmps16
 go_wp2_with fail
 refine (HRW.out _ HB0.out).mono ?_
 rintro e w1 ⟨rfl,hb1⟩
 have HB1:=Lib.hid (HB0.out.trans (hb1.mono HB0.out.size))
 have HK1:=Lib.hid (blk_below HK0.out hb1)
 clear hb1 HB0 HK0 HRW
 have k0:w1.cell? ⟨w.heap.size,0,none⟩=some (.slice none 0 0):=blk_cell HK1.out 0
 have k1:w1.cell? ⟨w.heap.size,1,none⟩=some (.int .i64 0):=blk_cell HK1.out 1
 have k2:w1.cell? ⟨w.heap.size,2,none⟩=some (.int .i64 0):=blk_cell HK1.out 2
 have f0:=blk_frozen HK1.out 0
 have f1:=blk_frozen HK1.out 1
 have f2:=blk_frozen HK1.out 2
 cases bw with
 |false=>
  have HRE:Hid (Res=([],0,1)):=Lib.hid (by rw [←HR.out];unfold readOut;rw [if_neg (by rw [HBW.out];decide)])
  go_wp2
  obtain ⟨u0,uB,uK⟩:=got_set (v:=.slice none 0 0) HK1.out HB1.out (.slice none 0 0) (.int .i64 0) (.int .i64 1)
  have r0:=blk_cell u0 0
  have r1:=blk_cell u0 1
  have r2:=blk_cell u0 2
  refine bodyPost_ret (v:=.agg #[.slice none 0 0,.int .i64 0,.int .i64 1]) (by simp [results,Tryz.results16,go_sem,r0,r1,r2]) rfl ?_
  rw [HRE.out]
  exact ⟨_,rfl,Kd.R_nil _ _ _ _ _,uB⟩
 |true=>
  by_cases hlen:6000<l.length
  ·have x1:decide (6000<l.length)=true:=decide_eq_true hlen
   have x2:decide ((6000:Int)<(l.length:Int))=true:=decide_eq_true (by omega)
   have HRE:Hid (Res=([],0,2)):=Lib.hid (by rw [←HR.out];unfold readOut;rw [if_pos HBW.out,if_neg (by omega)])
   go_wp2
   obtain ⟨u0,uB,uK⟩:=got_set (v:=.slice none 0 0) HK1.out HB1.out (.slice none 0 0) (.int .i64 0) (.int .i64 2)
   have r0:=blk_cell u0 0
   have r1:=blk_cell u0 1
   have r2:=blk_cell u0 2
   refine bodyPost_ret (v:=.agg #[.slice none 0 0,.int .i64 0,.int .i64 2]) (by simp [results,Tryz.results16,go_sem,r0,r1,r2]) rfl ?_
   rw [HRE.out]
   exact ⟨_,rfl,Kd.R_nil _ _ _ _ _,uB⟩
  ·have x1:decide (6000<l.length)=false:=decide_eq_false hlen
   have x2:decide ((6000:Int)<(l.length:Int))=false:=decide_eq_false (by omega)
   have HRL:Hid (Res=match rlist ws l (l.length+1) 0 none 0 [] with
    | .bad j e=>([],(j:Int),e)
    | .fin o=>(o,0,0)
    | .shut _ _=>([],0,0)):=Lib.hid (by rw [←HR.out];exact read_rl HBW.out (by omega))
   have h40:=(words_size HBW.out).1
   obtain ⟨g,hg⟩: ∃g,w1.heap.size=g:=⟨_,rfl⟩
   obtain ⟨w2,hw2⟩: ∃X,w1.alloc (.cells #[.slice A0 l.length c0,.slice A1 ws.length c1,.int .i64 0,.int .i64 0,.int .i64 0,.int .i64 0] 76 (0,0))=X:=⟨_,rfl⟩
   have hB2:Below w1.heap.size w1 w2:=hw2▸below_alloc (Below.refl _ _) _
   have hrg:RG w1 g A0 c0 l A1 c1 ws 0 0 0 0 w2:=⟨by rw [←hw2,←hg];exact blk_new w1 _,by omega,hB2⟩
   have hLK:=list_r check_all index_all HSZ.out (g:=g) (c0:=c0) (c1:=c1) (Kd.C_below HC.out HB1.out) (Kd.C_below HW.out HB1.out) h40 (by omega) (l.length+1) 0 0 none 0 w2 hrg (by omega) (by omega) (by omega)
   have HLK:=Lib.hid hLK
   have HB2:=Lib.hid (HB1.out.trans (hB2.mono HB1.out.size))
   have HK2:=Lib.hid (blk_below HK1.out hB2)
   have HS2:Hid (w2.heap.size=g+1∧w.heap.size<g∧w1.heap.size=g):=Lib.hid ⟨by rw [←hw2,←hg];simp,by have:=blk_lt HK1.out;omega,hg⟩
   have HWW:Hid (w1.alloc (.cells #[.slice A0 l.length c0,.slice A1 ws.length c1,.int .i64 0,.int .i64 0,.int .i64 0,.int .i64 0] 76)=w2):=Lib.hid hw2
   obtain ⟨r,hr⟩: ∃r,rlist ws l (l.length+1) 0 none 0 []=r:=⟨_,rfl⟩
   have HNS:Hid (∀c o,r≠ .shut c o):=Lib.hid (fun c o=>by rw [←hr];exact rlist_none _ _ _ _)
   rw [hr] at HRL HLK
   clear hLK hrg hB2 hw2 hlen hr k0 k1 k2 f0 f1 f2
   go_wp2_with fail
   rw [HWW.out]
   refine HLK.out.mono ?_
   rintro e w3 ⟨v,rfl,out,hR,hm⟩
   obtain ⟨Av,cv,rfl⟩:=Kd.R_slice hR
   have HRR:=Lib.hid hR
   obtain ⟨hs2,hgw,hg1⟩:=HS2.out
   clear hR HLK HWW
   rcases r with ⟨c,o⟩|o|⟨j,er⟩
   ·exact absurd rfl (HNS.out c o)
   ·obtain ⟨rfl,_,a,hrg3,hkp⟩:=hm
    have k4:w3.cell? ⟨g,4,none⟩=some (.int .i64 0):=blk_cell hrg3.blk 4
    have HK3:=Lib.hid (hkp.blk HK2.out (by show¬w.heap.size=g;omega))
    have HB3:Hid (Below w.heap.size w w3):=Lib.hid (Kp.below HB2.out hkp (by rintro k rfl;omega) HB2.out.size)
    clear hrg3 hkp
    have k0:w3.cell? ⟨w.heap.size,0,none⟩=some (.slice none 0 0):=blk_cell HK3.out 0
    have k1:w3.cell? ⟨w.heap.size,1,none⟩=some (.int .i64 0):=blk_cell HK3.out 1
    have k2:w3.cell? ⟨w.heap.size,2,none⟩=some (.int .i64 0):=blk_cell HK3.out 2
    have f0:=blk_frozen HK3.out 0
    have f1:=blk_frozen HK3.out 1
    have f2:=blk_frozen HK3.out 2
    go_wp2
    obtain ⟨u0,uB,uK⟩:=got_set (v:=.slice none 0 0) HK3.out HB3.out (.slice Av out.length cv) (.int .i64 0) (.int .i64 0)
    have r0:=blk_cell u0 0
    have r1:=blk_cell u0 1
    have r2:=blk_cell u0 2
    refine bodyPost_ret (v:=.agg #[.slice Av out.length cv,.int .i64 0,.int .i64 0]) (by simp [results,Tryz.results16,go_sem,r0,r1,r2]) rfl ?_
    rw [HRL.out]
    refine ⟨_,rfl,Kd.R_lower (Kd.R_mono (Kd.R_move (Kd.R_bound HRR.out) (fun k hk=>uK.block k hk.2.2.1 ?_)) (fun _ _=>trivial)) HB2.out.size,uB⟩
    have h1:=hk.2.1
    rintro rfl
    omega
   ·obtain ⟨hne,a,hrg3,hkp⟩:=hm
    have x4:(er !=0)=true:=bne_iff_ne.2 hne
    have HK3:=Lib.hid (hkp.blk HK2.out (by show¬w.heap.size=g;omega))
    have HB3:Hid (Below w.heap.size w w3):=Lib.hid (Kp.below HB2.out hkp (by rintro k rfl;omega) HB2.out.size)
    have k4:w3.cell? ⟨g,4,none⟩=some (.int .i64 er):=blk_cell hrg3.blk 4
    have k5:w3.cell? ⟨g,5,none⟩=some (.int .i64 j):=blk_cell hrg3.blk 5
    clear hrg3 hkp hne
    have k0:w3.cell? ⟨w.heap.size,0,none⟩=some (.slice none 0 0):=blk_cell HK3.out 0
    have k1:w3.cell? ⟨w.heap.size,1,none⟩=some (.int .i64 0):=blk_cell HK3.out 1
    have k2:w3.cell? ⟨w.heap.size,2,none⟩=some (.int .i64 0):=blk_cell HK3.out 2
    have f0:=blk_frozen HK3.out 0
    have f1:=blk_frozen HK3.out 1
    have f2:=blk_frozen HK3.out 2
    go_upto_region 8 with (fail)
    go_region
    all_goals go_wp2
    obtain ⟨u0,uB,uK⟩:=got_set (v:=.slice none 0 0) HK3.out HB3.out (.slice none 0 0) (.int .i64 j) (.int .i64 er)
    replace u0:=blk_drew u0
    have r0:=blk_cell u0 0
    have r1:=blk_cell u0 1
    have r2:=blk_cell u0 2
    refine bodyPost_ret (v:=.agg #[.slice none 0 0,.int .i64 j,.int .i64 er]) (by simp [results,Tryz.results16,go_sem,r0,r1,r2]) rfl ?_
    rw [HRL.out]
    exact ⟨_,rfl,Kd.R_nil _ _ _ _ _,uB.drew⟩
end Go.Proofs.YtipnlgmeonepfaaGreatDoor.PFa
