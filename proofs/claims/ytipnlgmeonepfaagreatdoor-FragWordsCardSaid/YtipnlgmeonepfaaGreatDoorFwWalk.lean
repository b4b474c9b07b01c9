/- The law FragWords, walked: it says true. -/
import Derived.Test.YtipnlgmeonepfaaGreatDoorFrF
import Derived.Test.YtipnlgmeonepfaaGreatDoorFrD
import Derived.BigQuiet
import Derived.Deep.QuietTactic
set_option linter.unusedVariables false
set_option linter.unusedSimpArgs false
namespace Go.Proofs.YtipnlgmeonepfaaGreatDoor.PFa
open Go.RowKit Go.Proofs.YtipnlgmeonepfaaGreatDoorW.PrintWords Go.Proofs.YtipnlgmeonepfaaGreatDoorW.PrintLast Go.Proofs.YtipnlgmeonepfaaGreatDoorW.PrintMore
theorem check_words {a:List Fg} {ws:List ByteArray} (h:checkOut a ws=0):wordsB ws=true:=by
 unfold checkOut at h
 split at h
 ·assumption
 ·omega
/-- The plain law. -/
theorem words_law {l:List Fg} {ws:List ByteArray} {n:Nat} (hn:ws.length=n+1) (h0:checkOut ([]:List Fg) ws=0) (h1:checkOut l (ws.take n)=0):
  (flatOut l).length≤6000∧((∀t∈flatOut l,t.f2≠rdOf ByteArray.empty ws (n:Int))→checkOut l ws=0):=by
 have hw:=check_words h0
 have hw1:=check_words h1
 obtain ⟨_,hok,hlen⟩:=(check_iff (plainly_of hw1)).1 h1
 rw [ok_flat hok hlen]
 refine ⟨hlen,fun hall=> ?_⟩
 have he:ws.take n++[rdOf ByteArray.empty ws (n:Int)]=ws:=by
  have hr:rdOf ByteArray.empty ws (n:Int)=ws[n]'(by omega):=by
   unfold rdOf
   simp [hn]
  rw [hr,←List.take_succ_eq_append_getElem (by omega),←hn,List.take_length]
 have hx:=words_ok (rdOf ByteArray.empty ws (n:Int)) l 0 false [] hall hok
 rw [he] at hx
 exact (check_iff (plainly_of hw)).2 ⟨hw,hx,hlen⟩
theorem no_frags (W:World):Kd.C k49 W none ([]:List Fg).length []:=⟨rfl,by simp,fun h=>absurd h (by simp)⟩
set_option maxHeartbeats 1000000 in
set_option maxRecDepth 100000 in
theorem fragWords_c {A A1:Option Addr} {c c1:Nat} {l:List Fg} {ws:List ByteArray} {w:World} (hC:Kd.C k49 w A l.length l) (hc:l.length≤c) (hW:Kd.C Kd.string w A1 ws.length ws) (hcw:ws.length≤c1) (hE:Lx.Env w):
  Calls Tryz.prog 9 #[.slice A l.length c,.slice A1 ws.length c1] w fun e w'=>e=.returned (.bool true)∧Below w.heap.size w w':=by
 have HS:=Lib.hid (sane_c hE)
 have HC:=Lib.hid hC
 have HW:=Lib.hid hW
 have HE:=Lib.hid hE
 have hln:=hW.2.1
 clear hC hW hE
 go_enter Tryz.func9,Tryz.ntmps9
 go_wp2_with fail
 refine HS.out.mono ?_
 rintro e w1 ⟨rfl,hb1⟩
 have HB1:=Lib.hid hb1
 clear hb1 HS
 by_cases h0:ws.length=0
 ·have z1:((ws.length:Int)==0)=true:=beq_iff_eq.2 (by omega)
  go_wp2
  go_ret
  exact ⟨rfl,HB1.out⟩
 ·have z1:((ws.length:Int)==0)=false:=beq_eq_false_iff_ne.2 (by omega)
  obtain ⟨n,hn⟩: ∃n,ws.length=n+1:=⟨ws.length-1,by omega⟩
  have HL:=Lib.hid (fun h0 h1=>words_law (l:=l) hn h0 h1)
  have HN:=Lib.hid hn
  have HK0:=Lib.hid (checkF_c (c:=0) (no_frags w1) (Nat.zero_le _) (Kd.C_below HW.out HB1.out) hcw (HE.out.below HB1.out))
  obtain ⟨k0,hk0⟩: ∃k,checkOut ([]:List Fg) ws=k:=⟨_,rfl⟩
  rw [hk0] at HK0 HL
  have HK0W:Hid (k0=0→ws.length≤40):=Lib.hid (fun h=>(words_size (check_words (hk0.trans h))).1)
  clear h0 hk0 hn
  simp only [List.length_nil] at HK0
  go_wp2_with fail
  refine HK0.out.mono ?_
  rintro e w2 ⟨rfl,hb2⟩
  have HB2:=Lib.hid (HB1.out.trans (hb2.mono HB1.out.size))
  clear hb2 HK0 HB1
  by_cases hz0:k0=0
  ·have z2:(k0 !=0)=false:=bne_eq_false_iff_eq.2 hz0
   have h40:=HK0W.out hz0
   have hnn:=HN.out
   have hlt:(ws.take n).length=n:=by rw [List.length_take];omega
   have HK1:=Lib.hid (checkF_c (c:=c) (c1:=c1) (ws:=ws.take n) (Kd.C_below HC.out HB2.out) hc (strs_take (Kd.C_below HW.out HB2.out) n (by omega)) (by omega) (HE.out.below HB2.out))
   rw [hlt] at HK1
   have HL1:=Lib.hid (fun h1=>HL.out hz0 h1)
   obtain ⟨k1,hk1⟩: ∃k,checkOut l (ws.take n)=k:=⟨_,rfl⟩
   rw [hk1] at HK1 HL1
   have y1:wrap64 ((ws.length:Int)-1)=(n:Int):=by unfold wrap64;omega
   have y2:IntKind.i64.wrap ((ws.length:Int)-1)=(n:Int):=by rw [IntWalk.i64_in _ (by omega)];omega
   have p1:(0:Int)≤(n:Int):=by omega
   have p3:(n:Int)≤(c1:Int):=by omega
   have p4:n≤c1:=by omega
   have e1:decide ((n:Int)≤(c1:Int))=true:=decide_eq_true (by omega)
   have e2:decide (n≤c1)=true:=decide_eq_true (by omega)
   have e3:(0≤(n:Int)∧(n:Int)≤(c1:Int))=True:=eq_true (by omega)
   clear hk1 HL HK0W hz0 hnn hlt h40
   go_wp2_with fail
   refine HK1.out.mono ?_
   rintro e w3 ⟨rfl,hb3⟩
   have HB3:=Lib.hid (HB2.out.trans (hb3.mono HB2.out.size))
   clear hb3 HK1 HB2
   by_cases hz1:k1=0
   ·have z3:(k1 !=0)=false:=bne_eq_false_iff_eq.2 hz1
    obtain ⟨hm,hl⟩:=HL1.out hz1
    have HF:=Lib.hid (flat_c (c:=c) (Kd.C_below HC.out HB3.out))
    obtain ⟨m,hmm⟩: ∃m,flatOut l=m:=⟨_,rfl⟩
    rw [hmm] at hm hl HF
    have HLW:=Lib.hid hl
    clear hl hmm HL1 hz1 y1 y2 p1 p3 p4 e1 e2 e3
    go_wp2_with fail
    refine HF.out.mono ?_
    rintro e w4 ⟨vm,rfl,hr4,hb4⟩
    obtain ⟨Am,cm,rfl⟩:=Kd.R_slice hr4
    have HM:=Lib.hid (Kd.R_reads' hr4).2.2
    have HB4:=Lib.hid (HB3.out.trans (hb4.mono HB3.out.size))
    clear hr4 hb4 HF HB3
    obtain ⟨lw,hlw⟩: ∃x,rdOf ByteArray.empty ws (n:Int)=x:=⟨_,rfl⟩
    rw [hlw] at HLW
    have HLX:=Lib.hid hlw
    clear hlw
    go_wp2_with fail
    go_loopg [7] (m.length+1) (fun kq v7 wr=> ∃i:Nat,v7=.int .i64 i∧i≤m.length∧m.length+1-i≤kq∧Hid (∀t∈m.take i,t.f2≠lw)∧Hid (Below w4.heap.size w4 wr))
    case atStart=>exact ⟨0,rfl,Nat.zero_le _,Nat.le_refl _,Lib.hid (by simp),Lib.hid (Below.refl _ _)⟩
    case round=>
     obtain ⟨i,rfl,hil,hkq,HALL,HBR⟩:=hrel
     have HKQ:=Lib.hid hkq
     clear hkq
     have HBW:=Lib.hid (HB4.out.trans (HBR.out.mono HB4.out.size))
     by_cases hi:i<m.length
     ·have x1:decide ((i:Int)<(m.length:Int))=true:=decide_eq_true (by omega)
      have x2:decide (i<m.length)=true:=decide_eq_true hi
      have x3:(0:Int)≤(i:Int):=by omega
      have x4:(i:Int)<(m.length:Int):=by omega
      have n1:=HN.out
      have y1:wrap64 ((ws.length:Int)-1)=(n:Int):=by unfold wrap64;omega
      have y2:IntKind.i64.wrap ((ws.length:Int)-1)=(n:Int):=by rw [IntWalk.i64_in _ (by omega)];omega
      have x5:(0:Int)≤(n:Int):=by omega
      have x6:(n:Int)<(ws.length:Int):=by omega
      have y3:wrap64 ((i:Int)+1)=((i+1:Nat):Int):=by unfold wrap64;omega
      obtain ⟨ad,had,t0,t1,t2,t3,t4⟩:=at_T39 (Kd.C_below HM.out HBR.out) (i:Int) (by omega) (by omega)
      subst had
      obtain ⟨bd,ebd,hx⟩:=Kd.at_string (Kd.C_below HW.out HBW.out) (n:Int) (by omega) (by omega)
      cases ebd
      have HTI:Hid (∀t∈m.take (i+1),t∈m.take i∨t=rd_T39 m (i:Int)):=Lib.hid (fun t ht=>by
       have e:rd_T39 m (i:Int)=m[i]:=by unfold rd_T39;simp [hi]
       rw [List.take_succ_eq_append_getElem hi] at ht
       rcases List.mem_append.1 ht with h|h
       ·exact .inl h
       ·exact .inr (by rw [e];exact List.mem_singleton.1 h))
      obtain ⟨T,hT⟩: ∃T,rd_T39 m (i:Int)=T:=⟨_,rfl⟩
      rw [hT] at t2 HTI
      rw [HLX.out] at hx
      simp only [Int.toNat_natCast] at t2 hx
      obtain ⟨q,hq⟩: ∃q,(T.f2.toList==lw.toList)=q:=⟨_,rfl⟩
      have HQ:Hid (q=false→T.f2≠lw):=Lib.hid (fun h e=>by rw [e,beq_self_eq_true] at hq;rw [←hq] at h;cases h)
      clear hT t0 t1 t3 t4 n1
      go_upto_region 8 with (fail)
      go_quiet (fail)
      cases q with
      |true=>
       go_wp2
       go_ret
       exact ⟨rfl,by repeat (with_reducible first|exact HBW.out|apply pw_below_drewN|apply Below.drew)⟩
      |false=>
       go_wp2
       go_roundg (gk-1)
       case measure=>have:=HKQ.out;omega
       case rel=>
        refine ⟨i+1,by go_num,by omega,by have:=HKQ.out;omega,Lib.hid (fun t ht=> ?_),Lib.hid (by repeat (with_reducible first|exact HBR.out|apply pw_below_drewN|apply Below.drew))⟩
        rcases HTI.out t ht with h|rfl
        ·exact HALL.out t h
        ·exact HQ.out trivial
     ·have x1:decide ((i:Int)<(m.length:Int))=false:=decide_eq_false (by omega)
      have x2:decide (i<m.length)=false:=decide_eq_false hi
      have hk2:checkOut l ws=0:=HLW.out (by have:=HALL.out;rwa [List.take_of_length_le (by omega)] at this)
      have HK2:=Lib.hid (checkF_c (c:=c) (c1:=c1) (Kd.C_below HC.out HBW.out) hc (Kd.C_below HW.out HBW.out) hcw (HE.out.below HBW.out))
      rw [hk2] at HK2
      clear hk2
      go_wp2_with fail
      refine HK2.out.mono ?_
      rintro e w5 ⟨rfl,hb5⟩
      have HB5:=Lib.hid (HBW.out.trans (hb5.mono HBW.out.size))
      clear hb5 HK2
      go_wp2
      go_ret
      exact ⟨rfl,HB5.out⟩
   ·have z3:(k1 !=0)=true:=bne_iff_ne.2 hz1
    go_wp2
    go_ret
    exact ⟨rfl,HB3.out⟩
  ·have z2:(k0 !=0)=true:=bne_iff_ne.2 hz0
   go_wp2
   go_ret
   exact ⟨rfl,HB2.out⟩
end Go.Proofs.YtipnlgmeonepfaaGreatDoor.PFa
