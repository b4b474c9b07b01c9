/- The reference's Alike, walked. -/
import Derived.Test.YtipnlgmeonepfaaGreatDoorFrA
import Derived.Deep.RegionHeld3
set_option linter.unusedVariables false
set_option linter.unusedSimpArgs false
namespace Go.Proofs.YtipnlgmeonepfaaGreatDoor.PFa
open Go.RowKit Go.Proofs.YtipnlgmeonepfaaGreatDoorW.PrintWords Go.Proofs.YtipnlgmeonepfaaGreatDoorW.PrintLast Go.Proofs.YtipnlgmeonepfaaGreatDoorW.PrintMore
def tokAl (loose:Bool) (t u:Tk):Bool:=t.f0==u.f0&&t.f1==u.f1&&(t.f2.toList==u.f2.toList)&&(loose||(t.f3==u.f3&&t.f4==u.f4))
mutual
/-- Are fragments equal (loose: but for offsets and marks)? -/
def alF (loose:Bool):Fg→Fg→Bool
 |⟨t,o,ks⟩,y=>tokAl loose t y.f0&&(o.toList==y.f1.toList)&&alL loose ks y.f2
def alL (loose:Bool):List Fg→List Fg→Bool
 |[],ys=>ys.isEmpty
 |x::r,ys=>match ys with
  |[]=>false
  |y::s=>alF loose x y&&alL loose r s
end
mutual
/-- How many fragments there are. -/
def nodesF:Fg→Nat
 |⟨_,_,ks⟩=>nodesL ks+1
def nodesL:List Fg→Nat
 |[]=>0
 |x::r=>nodesF x+nodesL r
end
theorem nodesF_eq (x:Fg):nodesF x=nodesL x.f2+1:=by
 obtain ⟨t,o,ks⟩:=x
 rw [nodesF]
theorem nodes_get: ∀(a:List Fg) (i:Nat) (h:i<a.length),nodesL a[i].f2+1≤nodesL a
 |x::r,0,h=>by
  show nodesL x.f2+1≤nodesL (x::r)
  rw [nodesL,nodesF_eq]
  omega
 |x::r,i+1,h=>by
  have h':i<r.length:=by simpa using h
  have:=nodes_get r i h'
  show nodesL r[i].f2+1≤nodesL (x::r)
  rw [nodesL]
  omega
theorem alF_eq (loose:Bool) (x y:Fg):alF loose x y=(tokAl loose x.f0 y.f0&&(x.f1.toList==y.f1.toList)&&alL loose x.f2 y.f2):=by
 obtain ⟨t,o,ks⟩:=x
 rw [alF]
theorem alL_len {loose:Bool}: ∀(a b:List Fg),alL loose a b=true→a.length=b.length
 |[],ys,h=>by
  rw [alL] at h
  rw [List.isEmpty_iff.1 h]
 |x::r,ys,h=>by
  unfold alL at h
  cases ys with
  |nil=>cases h
  |cons y s=>
   dsimp only at h
   rw [Bool.and_eq_true] at h
   rw [List.length_cons,List.length_cons,alL_len r s h.2]
theorem alL_step {loose:Bool} {a b:List Fg} {i:Nat} (h1:i<a.length) (h2:i<b.length):alL loose (a.drop i) (b.drop i)=(alF loose a[i] b[i]&&alL loose (a.drop (i+1)) (b.drop (i+1))):=by
 rw [List.drop_eq_getElem_cons h1,List.drop_eq_getElem_cons h2]
 conv=>lhs;unfold alL
theorem fg_get (a:List Fg) (i:Nat) (h:i<a.length):rd_T49 a (i:Int)=a[i]:=by
 unfold rd_T49
 simp [h]
set_option maxHeartbeats 6400000 in
set_option maxRecDepth 100000 in
theorem alike_c (loose:Bool): ∀(n:Nat) (a b:List Fg) (A A1:Option Addr) (c c1:Nat) (w:World),nodesL a≤n→Kd.C k49 w A a.length a→Kd.C k49 w A1 b.length b→
  Calls Tryz.prog 20 #[.slice A a.length c,.slice A1 b.length c1,.bool loose] w fun e w'=>e=.returned (.bool (alL loose a b))∧Below w.heap.size w w':=by
 intro n
 induction n using Nat.strongRecOn with
 |ind n ih=>
  intro a b A A1 c c1 w hn hC hC1
  by_cases hlen:a.length=b.length
  ·have HC:=Lib.hid hC
   have HC1:=Lib.hid hC1
   have HIH:=Lib.hid ih
   have HN:=Lib.hid hn
   have HLN:=Lib.hid hlen
   have hmax:=hC.2.1
   obtain ⟨N,hN⟩: ∃N,a.length=N:=⟨_,rfl⟩
   have hN1:b.length=N:=hlen.symm.trans hN
   obtain ⟨R,hR⟩: ∃R,alL loose a b=R:=⟨_,rfl⟩
   have HR:=Lib.hid hR
   have HNA:=Lib.hid hN
   have HNB:=Lib.hid hN1
   rw [hN,hN1,hR]
   rw [hN] at hmax
   have z1:((N:Int) !=(N:Int))=false:=bne_self_eq_false _
   clear hC hC1 ih hn hlen hN hN1 hR
   go_enter Tryz.func20,Tryz.ntmps20
   go_wp2_with fail
   go_loopg [7] (N+1) (fun kq v7 wr=> ∃i:Nat,v7=.int .i64 i∧N+1-i≤kq∧i≤N∧Hid (R=alL loose (a.drop i) (b.drop i))∧Hid (Below w.heap.size w wr))
   case atStart=>exact ⟨0,rfl,Nat.le_refl _,Nat.zero_le _,Lib.hid (by rw [List.drop_zero,List.drop_zero];exact HR.out.symm),Lib.hid (by repeat (with_reducible first|exact Below.refl _ _|apply Below.drew))⟩
   case round=>
    obtain ⟨i,rfl,hkq,hil,HRi,HBi⟩:=hrel
    have HKQ:=Lib.hid hkq
    clear hkq
    by_cases hlt:i<N
    ·have x1:decide ((i:Int)<(N:Int))=true:=decide_eq_true (by omega)
     have x2:decide (i<N)=true:=decide_eq_true hlt
     have hia:i<a.length:=by rw [HNA.out];exact hlt
     have hib:i<b.length:=by rw [HNB.out];exact hlt
     obtain ⟨ad,A6,c6,had,t0,t1,t2,t3,t4,t5,t6,hle6,hk6⟩:=at_T49 (Kd.C_below HC.out HBi.out) (i:Int) (by omega) (by omega)
     obtain ⟨bd,B6,d6,hbd,u0,u1,u2,u3,u4,u5,u6,hle7,hk7⟩:=at_T49 (Kd.C_below HC1.out HBi.out) (i:Int) (by omega) (by omega)
     subst had hbd
     have hst:=alL_step (loose:=loose) hia hib
     have hnx:nodesL a[i].f2<n:=by have:=nodes_get a i hia;have:=HN.out;omega
     rw [alF_eq] at hst
     rw [fg_get a i hia] at t0 t1 t2 t3 t4 t5 t6 hk6 hle6
     rw [fg_get b i hib] at u0 u1 u2 u3 u4 u5 u6 hk7 hle7
     simp only [Int.toNat_natCast] at t0 t1 t2 t3 t4 t5 t6 u0 u1 u2 u3 u4 u5 u6
     revert t0 t1 t2 t3 t4 t5 t6 u0 u1 u2 u3 u4 u5 u6 hk6 hk7 hle6 hle7 hst hnx
     generalize a[i]=x
     generalize b[i]=y
     intro t0 t1 t2 t3 t4 t5 t6 hle6 hk6 u0 u1 u2 u3 u4 u5 u6 hle7 hk7 hst hnx
     obtain ⟨Z,hZ⟩: ∃Z,alL loose (a.drop (i+1)) (b.drop (i+1))=Z:=⟨_,rfl⟩
     rw [hZ] at hst
     have HRZ:Hid (R=(tokAl loose x.f0 y.f0&&(x.f1.toList==y.f1.toList)&&alL loose x.f2 y.f2&&Z)):=Lib.hid (HRi.out.trans hst)
     have HZ:=Lib.hid hZ
     have HCALL:Hid (∀X,Below wr.heap.size wr X→Calls Tryz.prog 20 #[.slice A6 x.f2.length c6,.slice B6 y.f2.length d6,.bool loose] X fun e w'=>e=.returned (.bool (alL loose x.f2 y.f2))∧Below wr.heap.size wr w'):=Lib.hid (fun X hb=>(HIH.out (nodesL x.f2) hnx x.f2 y.f2 A6 B6 c6 d6 X (Nat.le_refl _) (Kd.C_below hk6 hb) (Kd.C_below hk7 hb)).mono (fun e w' h=>⟨h.1,hb.trans (h.2.mono hb.size)⟩))
     have HXC:Hid (∀X,Below wr.heap.size wr X→X.cell? ⟨(ad.add (i*7)).block,(ad.add (i*7)).off+5,none⟩=some (.string x.f1)∧X.cell? ⟨(ad.add (i*7)).block,(ad.add (i*7)).off+6,none⟩=some (.slice A6 x.f2.length c6)∧X.cell? ⟨(bd.add (i*7)).block,(bd.add (i*7)).off+5,none⟩=some (.string y.f1)∧X.cell? ⟨(bd.add (i*7)).block,(bd.add (i*7)).off+6,none⟩=some (.slice B6 y.f2.length d6)):=Lib.hid (fun X hb=>⟨pw_cell_below hb t5,pw_cell_below hb t6,pw_cell_below hb u5,pw_cell_below hb u6⟩)
     clear hst hZ hnx hk6 hk7 t5 t6 u5 u6 HRi
     have y1:wrap64 ((i:Int)+1)=((i+1:Nat):Int):=by unfold wrap64;omega
     have p1:(0:Int)≤(i:Int):=by omega
     have p2:(i:Int)<(N:Int):=by omega
     have e0:=al u0
     have e1:=al u1
     have e2:=al u2
     have e3:=al u3
     have e4:=al u4
     go_upto_region 8 with (fail)
     go_name_world W2 hW2
     have HB2:Hid (Below wr.heap.size wr W2):=Lib.hid (hW2▸by repeat (with_reducible first|exact Below.refl _ _|apply Below.drew|apply below_alloc))
     have hX:W2.heap[wr.heap.size]? =some (.cells #[.int .i64 x.f0.f0,.int .i64 x.f0.f1,.string x.f0.f2,.int .i64 x.f0.f3,.int .i64 x.f0.f4] 39 (0,0)):=hW2▸blk_alloc (blk_new wr _) _
     have hY:W2.heap[wr.heap.size+1]? =some (.cells #[.int .i64 y.f0.f0,.int .i64 y.f0.f1,.string y.f0.f2,.int .i64 y.f0.f3,.int .i64 y.f0.f4] 39 (0,0)):=by
      rw [←hW2]
      have:=blk_new (wr.alloc (.cells #[.int .i64 x.f0.f0,.int .i64 x.f0.f1,.string x.f0.f2,.int .i64 x.f0.f3,.int .i64 x.f0.f4] 39 (0,0))) (.cells #[.int .i64 y.f0.f0,.int .i64 y.f0.f1,.string y.f0.f2,.int .i64 y.f0.f3,.int .i64 y.f0.f4] 39 (0,0))
      rwa [World.size_alloc] at this
     clear hW2 e0 e1 e2 e3 e4 t0 t1 t2 t3 t4 u0 u1 u2 u3 u4
     obtain ⟨xb,hxb⟩: ∃v,wr.heap.size=v:=⟨_,rfl⟩
     rw [hxb] at hX hY
     simp only [World.size_alloc,hxb]
     have HXB:=Lib.hid hxb
     clear hxb
     have t0:W2.cell? ⟨xb,0,none⟩=some (.int .i64 x.f0.f0):=blk_cell hX 0
     have t1:W2.cell? ⟨xb,1,none⟩=some (.int .i64 x.f0.f1):=blk_cell hX 1
     have t2:W2.cell? ⟨xb,2,none⟩=some (.string x.f0.f2):=blk_cell hX 2
     have t3:W2.cell? ⟨xb,3,none⟩=some (.int .i64 x.f0.f3):=blk_cell hX 3
     have t4:W2.cell? ⟨xb,4,none⟩=some (.int .i64 x.f0.f4):=blk_cell hX 4
     have u0:W2.cell? ⟨xb+1,0,none⟩=some (.int .i64 y.f0.f0):=blk_cell hY 0
     have u1:W2.cell? ⟨xb+1,1,none⟩=some (.int .i64 y.f0.f1):=blk_cell hY 1
     have u2:W2.cell? ⟨xb+1,2,none⟩=some (.string y.f0.f2):=blk_cell hY 2
     have u3:W2.cell? ⟨xb+1,3,none⟩=some (.int .i64 y.f0.f3):=blk_cell hY 3
     have u4:W2.cell? ⟨xb+1,4,none⟩=some (.int .i64 y.f0.f4):=blk_cell hY 4
     clear hX hY
     obtain ⟨tk,htk⟩: ∃v,tokAl loose x.f0 y.f0=v:=⟨_,rfl⟩
     have HTK:=Lib.hid htk
     rw [htk] at HRZ
     clear htk
     go_cut [10] (fun v10 wd=>v10=.bool tk∧Hid (Below wr.heap.size wr wd))
     case first=>
      obtain ⟨q0,h0⟩: ∃v,(x.f0.f0==y.f0.f0)=v:=⟨_,rfl⟩
      obtain ⟨q1,h1⟩: ∃v,(x.f0.f1==y.f0.f1)=v:=⟨_,rfl⟩
      obtain ⟨q2,h2⟩: ∃v,(x.f0.f2.toList==y.f0.f2.toList)=v:=⟨_,rfl⟩
      obtain ⟨q3,h3⟩: ∃v,(x.f0.f3==y.f0.f3)=v:=⟨_,rfl⟩
      obtain ⟨q4,h4⟩: ∃v,(x.f0.f4==y.f0.f4)=v:=⟨_,rfl⟩
      have HTQ:Hid (tk=(q0&&q1&&q2&&(loose||(q3&&q4)))):=Lib.hid (by rw [←HTK.out];unfold tokAl;rw [h0,h1,h2,h3,h4])
      cases q0 with
      |false=>
       go_wp2
       go_meet
       case rel=>exact ⟨congrArg Value.bool (by rw [HTQ.out];rfl),HB2⟩
      |true=>
       cases q1 with
       |false=>
        go_wp2
        go_meet
        case rel=>exact ⟨congrArg Value.bool (by rw [HTQ.out];rfl),HB2⟩
       |true=>
        cases q2 with
        |false=>
         go_wp2
         go_meet
         case rel=>exact ⟨congrArg Value.bool (by rw [HTQ.out];rfl),HB2⟩
        |true=>
         cases loose with
         |true=>
          go_wp2
          go_meet
          case rel=>exact ⟨congrArg Value.bool (by rw [HTQ.out];rfl),HB2⟩
         |false=>
          cases q3<;>cases q4
          all_goals go_wp2
          all_goals go_meet
          all_goals (case rel=>exact ⟨congrArg Value.bool (by rw [HTQ.out];rfl),HB2⟩)
     case rest=>
      obtain ⟨rfl,HBD⟩:=hcut
      rename World=>W3
      clear t0 t1 t2 t3 t4 u0 u1 u2 u3 u4 HXB HB2
      obtain ⟨r1,r2,r3,r4⟩:=HXC.out W3 HBD.out
      have HBF:=Lib.hid (HBi.out.trans (HBD.out.mono HBi.out.size))
      cases tk with
      |false=>
       have HF:Hid (R=false):=Lib.hid (by rw [HRZ.out];rfl)
       go_upto_region 9 with (fail)
       go_quiet (fail)
       go_wp2
       go_ret
       exact ⟨by rw [HF.out];rfl,by repeat (with_reducible first|exact HBF.out|apply pw_below_drewN|apply Below.drew)⟩
      |true=>
       cases hop:(x.f1.toList==y.f1.toList) with
       |false=>
        have HF:Hid (R=false):=Lib.hid (by rw [HRZ.out,hop];rfl)
        have hne:(x.f1.toList !=y.f1.toList)=true:=by rw [bne,hop];rfl
        go_upto_region 9 with (fail)
        go_quiet (fail)
        go_wp2
        go_ret
        exact ⟨by rw [HF.out];rfl,by repeat (with_reducible first|exact HBF.out|apply pw_below_drewN|apply Below.drew)⟩
       |true=>
        have hne:(x.f1.toList !=y.f1.toList)=false:=by rw [bne,hop];rfl
        obtain ⟨q5,h5⟩: ∃v,alL loose x.f2 y.f2=v:=⟨_,rfl⟩
        rw [h5] at HCALL HRZ
        have HRW:Hid (R=(q5&&Z)):=Lib.hid (by rw [HRZ.out,hop];rfl)
        clear h5
        go_upto_region 9 with (fail)
        go_cut [97] (fun v97 wd=>v97=.bool (!q5)∧Hid (Below wr.heap.size wr wd))
        case first=>
         go_region_held3 (fun w'=>w'.cell? ⟨(ad.add (i*7)).block,(ad.add (i*7)).off+5,none⟩=some (.string x.f1)∧w'.cell? ⟨(ad.add (i*7)).block,(ad.add (i*7)).off+6,none⟩=some (.slice A6 x.f2.length c6)∧w'.cell? ⟨(bd.add (i*7)).block,(bd.add (i*7)).off+5,none⟩=some (.string y.f1)∧w'.cell? ⟨(bd.add (i*7)).block,(bd.add (i*7)).off+6,none⟩=some (.slice B6 y.f2.length d6))
          (first|(refine HXC.out _ ?_;(repeat (with_reducible first|exact HBD.out|exact hb6|apply pw_below_drewN|apply Below.drew));done))
          (first|(go_at_call 20;(refine (HCALL.out _ (by repeat (with_reducible first|exact HBD.out|apply pw_below_drewN|apply Below.drew))).mono ?_);rintro e W4 ⟨rfl,hb6⟩))
         all_goals go_wp2
         all_goals go_meet
         all_goals exact ⟨rfl,Lib.hid (by repeat (with_reducible first|exact hb6|exact HBD.out|apply pw_below_drewN|apply Below.drew))⟩
        case rest=>
         obtain ⟨rfl,HBX⟩:=hcut
         rename World=>W5
         clear r1 r2 r3 r4
         have HBG:=Lib.hid (HBi.out.trans (HBX.out.mono HBi.out.size))
         cases q5 with
         |false=>
          have HF:Hid (R=false):=Lib.hid (by rw [HRW.out];rfl)
          go_wp2
          go_ret
          exact ⟨by rw [HF.out];rfl,HBG.out⟩
         |true=>
          go_wp2
          go_roundg (gk-1)
          case measure=>have:=HKQ.out;omega
          case rel=>exact ⟨i+1,by go_num,by have:=HKQ.out;omega,by omega,Lib.hid (by rw [HRW.out,HZ.out];rfl),HBG⟩
    ·have x1:decide ((i:Int)<(N:Int))=false:=decide_eq_false (by omega)
     have x2:decide (i<N)=false:=decide_eq_false hlt
     have HT:Hid (R=true):=Lib.hid (by
      rw [HRi.out,List.drop_eq_nil_of_le (by rw [HNA.out];omega),List.drop_eq_nil_of_le (by rw [HNB.out];omega),alL]
      rfl)
     go_wp2
     go_ret
     exact ⟨by rw [HT.out];rfl,HBi.out⟩
  ·have z1:((a.length:Int) !=(b.length:Int))=true:=by rw [bne_iff_ne];omega
   have HF:Hid (alL loose a b=false):=Lib.hid (Bool.eq_false_iff.2 (fun h=>hlen (alL_len _ _ h)))
   clear hC hC1 ih
   go_enter Tryz.func20,Tryz.ntmps20
   go_wp2
   go_ret
   exact ⟨by rw [HF.out];rfl,by repeat (with_reducible first|exact Below.refl _ _|apply Below.drew)⟩
end Go.Proofs.YtipnlgmeonepfaaGreatDoor.PFa
