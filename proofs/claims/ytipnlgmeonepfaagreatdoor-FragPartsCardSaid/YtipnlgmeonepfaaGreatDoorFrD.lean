/- each, the iterator over a tree's tokens: for every loop body that keeps its word. -/
import Derived.Test.YtipnlgmeonepfaaGreatDoorFrB
import Derived.Test.YtipnlgmeonepfaaGreatDoorFrA
import Derived.Test.YtipnlgmeonepfaaGreatDoorLxPieces
import Derived.RangeFuncFrom
import Derived.Test.YtipnlgmeonepfaaGreatDoorPFax0
import Derived.Test.YtipnlgmeonepfaaGreatDoorFrC
set_option linter.unusedVariables false
set_option linter.unusedSimpArgs false
namespace Go.Proofs.YtipnlgmeonepfaaGreatDoor.PFa
open Go.RowKit Go.Proofs.YtipnlgmeonepfaaGreatDoorW.PrintWords Go.Proofs.YtipnlgmeonepfaaGreatDoorW.PrintLast Go.Proofs.YtipnlgmeonepfaaGreatDoorW.PrintMore
attribute [local go_sem] Oper.semAt_some
/-- The token that closes a group. -/
def clos (x:Fg):Tk:=⟨closeKd x.f1,0,closeTx x.f1,x.f0.f3,x.f0.f4⟩
/-- The tokens of fragments that lie in at most so many groups. -/
def toksOf:Nat→List Fg→List Tk
  |0,l=>l.flatMap fun x=>if x.f1.toList.isEmpty=true then [x.f0] else []
  |d+1,l=>l.flatMap fun x=>if x.f1.toList.isEmpty=true then [x.f0] else x.f0::(toksOf d x.f2++[clos x])
def elemT (d:Nat) (x:Fg):List Tk:=if x.f1.toList.isEmpty=true then [x.f0] else match d with
  |0=>[]
  |d+1=>x.f0::(toksOf d x.f2++[clos x])
theorem toksOf_eq (d:Nat) (l:List Fg):toksOf d l=l.flatMap (elemT d):=by
  cases d<;>rfl
theorem toksOf_take (d:Nat) (l:List Fg) (i:Nat) (hi:i<l.length):toksOf d (l.take (i+1))=toksOf d (l.take i)++elemT d (rd_T49 l (i:Int)):=by
  have e:rd_T49 l (i:Int)=l[i]:=by
    unfold rd_T49
    simp [hi]
  rw [toksOf_eq,toksOf_eq,List.take_succ_eq_append_getElem hi,List.flatMap_append,e]
  simp
theorem flat_prefix {d:Nat} {a b:List Fg} (h:a<+:b):a.flatMap (elemT d)<+:b.flatMap (elemT d):=by
  obtain ⟨c,rfl⟩:=h
  rw [List.flatMap_append]
  exact List.prefix_append _ _
/-- What a loop body does with a token. -/
def YieldsTo (w:World) (N lp:Nat) (J Jx:List Tk→World→Prop):Prop:=
  ∀(m:Nat) (pre:List Tk) (x:Tk) (W1:World),J pre W1→Below w.heap.size w W1→pre.length<N→YieldAt Fence.wide m Tryz.prog lp #[tokV x] W1 fun e W'=>(e=.returned (.bool true)∧J (pre++[x]) W'∧Below w.heap.size W1 W')∨(e=.returned (.bool false)∧Jx (pre++[x]) W')
/-- each at a depth. -/
def EachAt (w:World) (N lp:Nat) (J Jx:List Tk→World→Prop) (d:Nat):Prop:=
  ∀(l:List Fg) (A:Option Addr) (c m:Nat) (pre:List Tk) (W:World),d≤100→Kd.C k49 w A l.length l→Below w.heap.size w W→J pre W→pre.length+(toksOf d l).length≤N→
    CallsIn Fence.wide m Tryz.prog 92 #[.slice A l.length c,.int .i64 d,.func (.yield lp) #[] #[]] W fun e W'=>
      (e=.returned (.bool true)∧J (pre++toksOf d l) W'∧Below w.heap.size W W')∨(e=.returned (.bool false)∧ ∃q,q<+:toksOf d l∧Jx (pre++q) W')
set_option maxHeartbeats 12800000 in
set_option maxRecDepth 100000 in
theorem each_step {w:World} {N lp:Nat} {J Jx:List Tk→World→Prop} (hJ: ∀s W W',J s W→Below W.heap.size W W'→J s W') (hY:YieldsTo w N lp J Jx) (D:Nat) (ih: ∀d,d+1=D→EachAt w N lp J Jx d):EachAt w N lp J Jx D:=by
  intro l A c m pre W hd hC hB hj hN
  have HC:=Lib.hid hC
  have HJ:=Lib.hid hJ
  have HY:=Lib.hid hY
  have HIH:=Lib.hid ih
  have HB:=Lib.hid hB
  have HJ0:=Lib.hid hj
  have HN:=Lib.hid hN
  have hln:=hC.2.1
  clear hC hJ hY ih hB hj hN
  refine callsIn_of_wp Tryz.func92 rfl trivial ?_ rfl
  simp only [Tryz.ntmps92,List.size_toArray,List.length_cons,List.length_nil,Nat.reduceAdd,Nat.reduceSub,Array.replicate_succ,Array.replicate_zero,List.push_toArray,List.append_toArray,List.nil_append,List.cons_append]
  gi_wp2_with fail
  gi_loopg [11] (l.length+1) (fun kq v11 wr=> ∃i:Nat,v11=.int .i64 i∧l.length+1-i≤kq∧i≤l.length∧Hid (J (pre++toksOf D (l.take i)) wr)∧Hid (Below w.heap.size W wr))
  case atStart=>exact ⟨0,rfl,Nat.le_refl _,Nat.zero_le _,Lib.hid (by rw [List.take_zero,toksOf_eq];simpa using HJ0.out),Lib.hid (Below.refl _ _)⟩
  case round=>
    obtain ⟨i,rfl,hkq,hil,HJi,HBi⟩:=hrel
    have HKQ:=Lib.hid hkq
    clear hkq
    by_cases hlt:i<l.length
    · have x1:decide ((i:Int)<(l.length:Int))=true:=decide_eq_true (by omega)
      have x2:decide (i<l.length)=true:=decide_eq_true hlt
      have HBw:=Lib.hid (HB.out.trans HBi.out)
      obtain ⟨ad,A6,c6,had,t0,t1,t2,t3,t4,t5,t6,hle6,hC6⟩:=at_T49 HC.out (i:Int) (by omega) (by omega)
      subst had
      have hstep:=toksOf_take D l i hlt
      have hpre:toksOf D (l.take (i+1))<+:toksOf D l:=by
        rw [toksOf_eq,toksOf_eq]
        exact flat_prefix (List.take_prefix _ _)
      obtain ⟨T,hT⟩: ∃T,rd_T49 l (i:Int)=T:=⟨_,rfl⟩
      rw [hT] at t0 t1 t2 t3 t4 t5 t6 hle6 hC6 hstep
      simp only [Int.toNat_natCast] at t0 t1 t2 t3 t4 t5 t6
      clear hT
      have HCL:Hid (∀X,Below w.heap.size w X→X.cell? (ad.add (i*7))=some (.int .i64 T.f0.f0)∧X.cell? ⟨(ad.add (i*7)).block,(ad.add (i*7)).off+1,none⟩=some (.int .i64 T.f0.f1)∧X.cell? ⟨(ad.add (i*7)).block,(ad.add (i*7)).off+2,none⟩=some (.string T.f0.f2)∧X.cell? ⟨(ad.add (i*7)).block,(ad.add (i*7)).off+3,none⟩=some (.int .i64 T.f0.f3)∧X.cell? ⟨(ad.add (i*7)).block,(ad.add (i*7)).off+4,none⟩=some (.int .i64 T.f0.f4)∧X.cell? ⟨(ad.add (i*7)).block,(ad.add (i*7)).off+5,none⟩=some (.string T.f1)∧X.cell? ⟨(ad.add (i*7)).block,(ad.add (i*7)).off+6,none⟩=some (.slice A6 T.f2.length c6)):=Lib.hid (fun X hb=>⟨pw_cell_below hb t0,pw_cell_below hb t1,pw_cell_below hb t2,pw_cell_below hb t3,pw_cell_below hb t4,pw_cell_below hb t5,pw_cell_below hb t6⟩)
      clear t0 t1 t2 t3 t4 t5 t6
      obtain ⟨t0,t1,t2,t3,t4,t5,t6⟩:=HCL.out wr HBw.out
      have HC6:=Lib.hid hC6
      have HST:=Lib.hid hstep
      have HPR:=Lib.hid hpre
      clear hC6 hstep hpre
      obtain ⟨PX,hPX⟩: ∃PX,toksOf D (l.take i)=PX:=⟨_,rfl⟩
      rw [hPX] at HJi HST
      clear hPX
      have HLEN:Hid (∀q,q<+:elemT D T→(pre++PX++q).length≤N):=Lib.hid (fun q hq=>by
        have h1:=HPR.out.length_le
        rw [HST.out,List.length_append] at h1
        have h2:=hq.length_le
        have:=HN.out
        simp only [List.length_append]
        omega)
      have HPQ:Hid (∀q,q<+:elemT D T→PX++q<+:toksOf D l):=Lib.hid (fun q hq=>by
        refine List.IsPrefix.trans ?_ HPR.out
        rw [HST.out]
        exact (List.prefix_append_right_inj PX).2 hq)
      have y1:wrap64 ((i:Int)+1)=((i+1:Nat):Int):=by unfold wrap64;omega
      have p1:(0:Int)≤(i:Int):=by omega
      have p2:(i:Int)<(l.length:Int):=by omega
      cases he:T.f1.toList.isEmpty with
      |true=>
        have HEL:Hid (elemT D T=[T.f0]):=Lib.hid (by unfold elemT;rw [if_pos he])
        obtain ⟨fn,tmps,assign,body,hy,hR⟩:=HY.out (m-1) (pre++PX) T.f0 wr HJi.out HBw.out (by have:=HLEN.out [T.f0] (by rw [HEL.out];exact List.prefix_refl _);simp at this⊢;omega)
        dsimp only [tokV] at hy
        gi_wp2_with fail
        refine ⟨fun h=>absurd h (by simp [Fence.wide]),hR.mono ?_⟩
        rintro e W2 (⟨rfl,hj2,hb2⟩|⟨rfl,hx2⟩)
        · have HJ2:=Lib.hid hj2
          have HB2:=Lib.hid hb2
          clear hj2 hb2 hR hy
          gi_wp2_with fail
          gi_roundg (gk-1)
          case measure=>have:=HKQ.out;omega
          case rel=>exact ⟨i+1,by go_num,by have:=HKQ.out;omega,by omega,Lib.hid (by rw [HST.out,HEL.out,←List.append_assoc];exact HJ2.out),Lib.hid (HBi.out.trans HB2.out)⟩
        · have HX2:=Lib.hid hx2
          clear hx2 hR hy
          gi_wp2_with fail
          refine bodyPost_ret (v:=.bool false) (by simp [results,Tryz.results92,go_sem]) rfl ?_
          exact .inr ⟨rfl,PX++[T.f0],HPQ.out _ (by rw [HEL.out];exact List.prefix_refl _),by rw [←List.append_assoc];exact HX2.out⟩
      |false=>
        by_cases hd0:D=0
        · have HEL:Hid (elemT D T=[]):=Lib.hid (by subst hd0;unfold elemT;rw [if_neg (by rw [he];decide)])
          have z1:((D:Int)==0)=true:=by rw [beq_iff_eq];omega
          clear hd0
          gi_wp2_with fail
          gi_roundg (gk-1)
          case measure=>have:=HKQ.out;omega
          case rel=>exact ⟨i+1,by go_num,by have:=HKQ.out;omega,by omega,Lib.hid (by rw [HST.out,HEL.out,List.append_nil];exact HJi.out),HBi⟩
        · obtain ⟨d,hD⟩: ∃d,d+1=D:=⟨D-1,by omega⟩
          have HD:=Lib.hid hD
          clear hD hd0
          have HEL:Hid (elemT D T=T.f0::(toksOf d T.f2++[clos T])):=Lib.hid (by rw [←HD.out];unfold elemT;rw [if_neg (by rw [he];decide)])
          have z1:((D:Int)==0)=false:=by have:=HD.out;rw [beq_eq_false_iff_ne];omega
          have z2:(D:Int)-1=(d:Int):=by have:=HD.out;omega
          obtain ⟨fn,tmps,assign,body,hy,hR⟩:=HY.out (m-1) (pre++PX) T.f0 wr HJi.out HBw.out (by have:=HLEN.out [T.f0] (by rw [HEL.out];exact ⟨_,rfl⟩);simp at this⊢;omega)
          dsimp only [tokV] at hy
          gi_wp2_with fail
          refine ⟨fun h=>absurd h (by simp [Fence.wide]),hR.mono ?_⟩
          rintro e W2 (⟨rfl,hj2,hb2⟩|⟨rfl,hx2⟩)
          · have HJ2:=Lib.hid hj2
            have HB2:=Lib.hid hb2
            have HBw2:=Lib.hid (HBw.out.trans hb2)
            clear hj2 hb2 hR hy t0 t1 t2 t3 t4 t5 t6
            obtain ⟨t0,t1,t2,t3,t4,t5,t6⟩:=HCL.out W2 HBw2.out
            gi_wp2_with fail
            refine ⟨trivial,fun h=>absurd h (by simp [Fence.wide]),(HIH.out d HD.out T.f2 A6 c6 (m-1) (pre++PX++[T.f0]) W2 (by have:=HD.out;omega) HC6.out HBw2.out HJ2.out (by have:=HLEN.out (T.f0::toksOf d T.f2) (by rw [HEL.out];exact ⟨[clos T],by simp⟩);simp only [List.length_append,List.length_cons,List.length_nil] at this⊢;omega)).mono ?_⟩
            rintro e W3 (⟨rfl,hj3,hb3⟩|⟨rfl,q3,hq3,hx3⟩)
            · have HJ3:=Lib.hid hj3
              have HB3:=Lib.hid hb3
              have HBw3:=Lib.hid (HBw2.out.trans hb3)
              clear hj3 hb3 t0 t1 t2 t3 t4 t5 t6
              obtain ⟨t0,t1,t2,t3,t4,t5,t6⟩:=HCL.out W3 HBw3.out
              gi_wp2_with fail
              refine ⟨trivial,fun h=>absurd h (by simp [Fence.wide]),(callsIn_wide.2 (closer_c T.f0 T.f1 (.slice A6 T.f2.length c6) W3 ⟨_,_,_,rfl⟩)).mono ?_⟩
              rintro e W4 ⟨rfl,hb4⟩
              have HB4:=Lib.hid hb4
              have HBw4:=Lib.hid (HBw3.out.trans (hb4.mono HBw3.out.size))
              have HJ4:=Lib.hid (HJ.out _ _ _ HJ3.out hb4)
              clear hb4 t0 t1 t2 t3 t4 t5 t6
              obtain ⟨fn,tmps,assign,body,hy,hR⟩:=HY.out (m-1) (pre++PX++[T.f0]++toksOf d T.f2) (clos T) W4 HJ4.out HBw4.out (by have:=HLEN.out (T.f0::(toksOf d T.f2++[clos T])) (by rw [HEL.out];exact List.prefix_refl _);simp only [List.length_append,List.length_cons,List.length_nil] at this⊢;omega)
              dsimp only [tokV,clos] at hy
              gi_wp2_with fail
              refine ⟨fun h=>absurd h (by simp [Fence.wide]),hR.mono ?_⟩
              rintro e W5 (⟨rfl,hj5,hb5⟩|⟨rfl,hx5⟩)
              · have HJ5:=Lib.hid hj5
                have HB5:=Lib.hid (((HB2.out.trans HB3.out).trans (HB4.out.mono HBw3.out.size)).trans hb5)
                clear hj5 hb5 hR hy
                gi_wp2_with fail
                gi_roundg (gk-1)
                case measure=>have:=HKQ.out;omega
                case rel=>exact ⟨i+1,by go_num,by have:=HKQ.out;omega,by omega,Lib.hid (by rw [HST.out,HEL.out];simpa only [List.append_assoc,List.cons_append,List.nil_append,List.singleton_append] using HJ5.out),Lib.hid (HBi.out.trans HB5.out)⟩
              · have HX5:=Lib.hid hx5
                clear hx5 hR hy
                gi_wp2_with fail
                refine bodyPost_ret (v:=.bool false) (by simp [results,Tryz.results92,go_sem]) rfl ?_
                exact .inr ⟨rfl,PX++(T.f0::(toksOf d T.f2++[clos T])),HPQ.out _ (by rw [HEL.out];exact List.prefix_refl _),by simpa only [List.append_assoc,List.cons_append,List.nil_append,List.singleton_append] using HX5.out⟩
            · have HX3:=Lib.hid hx3
              have HQ3:=Lib.hid hq3
              clear hx3 hq3
              gi_wp2_with fail
              refine ⟨trivial, ?_⟩
              gi_wp2_with fail
              refine ⟨(fun f h=>by cases h), ?_⟩
              gi_wp2_with fail
              refine bodyPost_ret (v:=.bool false) (by simp [results,Tryz.results92,go_sem]) rfl ?_
              exact .inr ⟨rfl,PX++(T.f0::q3),HPQ.out _ (by rw [HEL.out];exact (List.cons_prefix_cons.2 ⟨rfl,List.IsPrefix.trans HQ3.out (List.prefix_append _ _)⟩)),by simpa only [List.append_assoc,List.cons_append,List.nil_append,List.singleton_append] using HX3.out⟩
          · have HX2:=Lib.hid hx2
            clear hx2 hR hy
            gi_wp2_with fail
            refine ⟨trivial, ?_⟩
            gi_wp2_with fail
            refine ⟨trivial, ?_⟩
            gi_wp2_with fail
            refine ⟨(fun f h=>by cases h), ?_⟩
            gi_wp2_with fail
            refine bodyPost_ret (v:=.bool false) (by simp [results,Tryz.results92,go_sem]) rfl ?_
            exact .inr ⟨rfl,PX++[T.f0],HPQ.out _ (by rw [HEL.out];exact ⟨_,rfl⟩),by rw [←List.append_assoc];exact HX2.out⟩
    · have x1:decide ((i:Int)<(l.length:Int))=false:=decide_eq_false (by omega)
      have x2:decide (i<l.length)=false:=decide_eq_false hlt
      obtain rfl:i=l.length:=by omega
      have HE:Hid (J (pre++toksOf D l) wr):=Lib.hid (by have:=HJi.out;rwa [List.take_length] at this)
      gi_wp2_with fail
      refine bodyPost_ret (v:=.bool true) (by simp [results,Tryz.results92,go_sem]) rfl ?_
      exact .inl ⟨rfl,HE.out,HBi.out⟩
theorem each_c {w:World} {N lp:Nat} {J Jx:List Tk→World→Prop} (hJ: ∀s W W',J s W→Below W.heap.size W W'→J s W') (hY:YieldsTo w N lp J Jx): ∀d:Nat,EachAt w N lp J Jx d
  |0=>each_step hJ hY 0 (fun d h=>absurd h (by omega))
  |d+1=>each_step hJ hY (d+1) (fun d' h=>by
    obtain rfl:d'=d:=by omega
    exact each_c hJ hY d')
end Go.Proofs.YtipnlgmeonepfaaGreatDoor.PFa

set_option linter.unusedVariables false
set_option linter.unusedSimpArgs false
namespace Go.Proofs.YtipnlgmeonepfaaGreatDoor.PFa
open Go.RowKit Go.Proofs.YtipnlgmeonepfaaGreatDoorW.PrintWords Go.Proofs.YtipnlgmeonepfaaGreatDoorW.PrintLast Go.Proofs.YtipnlgmeonepfaaGreatDoorW.PrintMore
open Go.Proofs.YtipnlgmeonepfaaGreatDoor.Lx (Kp)
attribute [local go_sem] Oper.semAt_some
theorem yieldAt_wide {m m':Nat} {P:Program} {l:Nat} {args:Array Value} {W:World} {R:Ending→World→Prop} (h:YieldAt Fence.wide m P l args W R):YieldAt Fence.wide m' P l args W R:=by
  obtain ⟨fn,tmps,assign,body,hy,h1,h2⟩:=h
  exact ⟨fn,tmps,assign,body,hy,h1,fun c cs _=>h2 c cs (fun d hd=>by cases hd)⟩
theorem tokens_c {A : Option Addr} {n c : Nat} (d : Nat) (w : World) :
    Calls Tryz.prog 54 #[.slice A n c,.int .i64 d] w fun e w'=>e=.returned (.func (.func 91) #[] #[.pointer (some ⟨w.heap.size,0,none⟩),.pointer (some ⟨w.heap.size+1,0,none⟩)])∧w'=(w.alloc (.cells #[.slice A n c] 25)).alloc (.cells #[.int .i64 d] 3):=by
  go_enter Tryz.func54,Tryz.ntmps54
  go_wp2
  go_ret
  exact ⟨rfl,rfl⟩
set_option maxHeartbeats 3200000 in
/-- The iterator keeps its contract. -/
theorem tokens_stops {w W2 : World} {A : Option Addr} {c d b1 b2 n : Nat} {l : List Fg} (hd : d ≤ 100) (hC : Kd.C k49 w A l.length l) (hB : Below w.heap.size w W2) (h1 : W2.cell? ⟨b1, 0, none⟩ = some (.slice A l.length c)) (h2 : W2.cell? ⟨b2, 0, none⟩ = some (.int .i64 d)) :
    SeqStopsK Fence.wide n Tryz.prog 91 #[.pointer (some ⟨b1,0,none⟩),.pointer (some ⟨b2,0,none⟩)] (fun t:Tk=> #[tokV t]) (Below w.heap.size) (fun xs=>xs=toksOf d l) (fun pre=>pre<+:toksOf d l) (toksOf d l).length W2:=by
  intro lp J Jx W hW hJ hJx hY h0
  have h1:=pw_cell_below hW h1
  have h2:=pw_cell_below hW h2
  have HE:=Lib.hid (fun (m:Nat)=>each_c (w:=w) (N:=(toksOf d l).length) (lp:=lp) (J:=J) (Jx:=Jx) (fun s X Y hs hb=>hJ s X Y none hs ⟨hb.os,hb.tape,hb.output,hb.size,fun k hk _=>hb.block k hk⟩ (fun r e=>by cases e)) (fun m pre x W1 hj hb hl=>yieldAt_wide (hY pre x W1 hj hl)) d l A c m [] W hd hC (hB.trans (hW.mono hB.size)) h0 (by simp))
  clear hY hJ hJx h0 hC
  refine callsIn_of_wp Tryz.func91 rfl trivial ?_ rfl
  simp only [Tryz.ntmps91,List.size_toArray,List.length_cons,List.length_nil,Nat.reduceAdd,Nat.reduceSub,Array.replicate_succ,Array.replicate_zero,List.push_toArray,List.append_toArray,List.nil_append,List.cons_append]
  gi_wp2_with fail
  refine ⟨trivial,fun h=>absurd h (by simp [Fence.wide]),(HE.out _).mono ?_⟩
  rintro e W3 (⟨rfl,hj,hb⟩|⟨rfl,q,hq,hx⟩)
  · gi_wp2_with fail
    go_end0
    exact ⟨⟨_,rfl⟩,.inl ⟨_,rfl,hj⟩⟩
  · gi_wp2_with fail
    go_end0
    exact ⟨⟨_,rfl⟩,.inr ⟨_,hq,hx⟩⟩
set_option maxHeartbeats 6400000 in
set_option maxRecDepth 100000 in
theorem size_c {A : Option Addr} {c : Nat} {l : List Fg} {w : World} (hC : Kd.C k49 w A l.length l) :
    Calls Tryz.prog 24 #[.slice A l.length c] w fun e w'=>e=.returned (.int .i64 ((min (toksOf 100 l).length 6001:Nat):Int))∧Below w.heap.size w w':=by
  refine (callsIn_wide (n:=3)).1 ?_
  refine callsIn_of_wp_marks Tryz.func24 rfl trivial ?_ rfl
  simp only [Tryz.ntmps24,List.size_toArray,List.length_cons,List.length_nil,Nat.reduceAdd,Nat.reduceSub,Array.replicate_succ,Array.replicate_zero,List.push_toArray,List.append_toArray,List.nil_append,List.cons_append]
  have HC:=Lib.hid hC
  clear hC
  obtain ⟨L,hL⟩: ∃L,toksOf 100 l=L:=⟨_,rfl⟩
  rw [hL]
  have HL:=Lib.hid hL
  clear hL
  gi_wp2_with fail
  refine ⟨trivial,(callsIn_wide.2 (tokens_c 100 _)).mono ?_⟩
  rintro e W2 ⟨rfl,hw2⟩
  simp only [World.size_alloc] at hw2⊢
  have B2:Below w.heap.size w W2:=by rw [hw2];repeat (first|(with_reducible exact Below.refl _ _)|(with_reducible apply below_alloc))
  have r0:W2.heap[w.heap.size]? =some (.cells #[.int .i64 0] 3 (0,0)):=by rw [hw2];exact blk_alloc (blk_alloc (blk_new w _) _) _
  have r1:W2.heap[w.heap.size+1]? =some (.cells #[.slice A l.length c] 25 (0,0)):=by
    rw [hw2]
    have:=blk_new (w.alloc (.cells #[.int .i64 0] 3)) (.cells #[.slice A l.length c] 25 (0,0))
    rw [World.size_alloc] at this
    exact blk_alloc this _
  have r2:W2.heap[w.heap.size+1+1]? =some (.cells #[.int .i64 (100:Nat)] 3 (0,0)):=by
    rw [hw2]
    have:=blk_new ((w.alloc (.cells #[.int .i64 0] 3)).alloc (.cells #[.slice A l.length c] 25)) (.cells #[.int .i64 (100:Nat)] 3 (0,0))
    rw [World.size_alloc,World.size_alloc] at this
    exact this
  have hs2:W2.heap.size=w.heap.size+3:=by rw [hw2];simp
  have q1:W2.cell? ⟨w.heap.size+1,0,none⟩=some (.slice A l.length c):=blk_cell r1 0
  have q2:W2.cell? ⟨w.heap.size+1+1,0,none⟩=some (.int .i64 (100:Nat)):=blk_cell r2 0
  have q0:W2.cell? ⟨w.heap.size,0,none⟩=some (.int .i64 0):=blk_cell r0 0
  have f0:W2.frozen? ⟨w.heap.size,0,none⟩=false:=blk_frozen r0 0
  have HSEQ:=Lib.hid (fun (n:Nat)=>tokens_stops (n:=n) (d:=100) (Nat.le_refl _) HC.out B2 q1 q2)
  have HB2:=Lib.hid B2
  have HQ0:=Lib.hid q0
  have HF0:=Lib.hid f0
  clear hw2 r0 r1 r2 q1 q2 q0 f0 B2
  rw [HL.out] at HSEQ
  clear HL
  gi_wp2_with fail
  refine wpIn_rangeFunc_ownF rfl (by omega) (gf:=91) (lb:= #[.pointer (some ⟨w.heap.size+1,0,none⟩),.pointer (some ⟨w.heap.size+1+1,0,none⟩)]) rfl trivial (enters_of Tryz.func91 (by kernel_rfl) rfl) (HSEQ.out _) (fun h k=>belowK_t h k) (belowK_b (by omega)) (Below.refl _ _) (fun _=>rfl)
    (fun pre W=>(W.cell? ⟨w.heap.size,0,none⟩=some (.int .i64 (pre.length:Nat))∧W.frozen? ⟨w.heap.size,0,none⟩=false∧pre.length≤6000)∧Below w.heap.size w W)
    (fun c pre W=>(c=.exit 0∧W.cell? ⟨w.heap.size,0,none⟩=some (.int .i64 (pre.length:Nat))∧pre.length=6001)∧Below w.heap.size w W)
    (OwnFrom.and (fun s X Y row hs hg hr=>⟨cell_kept hs.1 hg (fun r e=>(hr r e).2),(frozen_kept hs.1 hg (fun r e=>(hr r e).2)).trans hs.2.1,hs.2.2⟩) (ownFrom_below (Nat.le_refl _) (by omega)))
    (fun c=>OwnFrom.and (fun s X Y row hs hg hr=>⟨hs.1,cell_kept hs.2.1 hg (fun r e=>(hr r e).2),hs.2.2⟩) (ownFrom_below (Nat.le_refl _) (by omega)))
    ⟨⟨HQ0.out,HF0.out,by simp⟩,HB2.out⟩
    (fun x=>{tmps:= #[.slice A l.length c,undef,.int .i64 0,.pointer (some ⟨w.heap.size,0,none⟩),.slice A l.length c,.func (.func 91) #[] #[.pointer (some ⟨w.heap.size+1,0,none⟩),.pointer (some ⟨w.heap.size+1+1,0,none⟩)],tokV x,undef,undef,undef,undef,undef],defers:=[]}) ?assign ?body ?done ?stop
  case assign=>
    intro lp x W K hK
    gi_wp2_with fail
    refine cast (congrArg (fun T=>K {tmps:=T,defers:=[]} W) ?_) hK
    simp
  case body=>
    rintro lp pre x W ⟨⟨hc,hf,hn⟩,hb⟩ _
    have y1:wrap64 ((pre.length:Int)+1)=((pre.length+1:Nat):Int):=by unfold wrap64;omega
    have hw:(W.setCell ⟨w.heap.size,0,none⟩ (.int .i64 ((pre.length+1:Nat):Int))).cell? ⟨w.heap.size,0,none⟩=some (.int .i64 ((pre.length+1:Nat):Int)):=World.cell?_setCell_same' _ _ _ (by rw [hc];rfl)
    have hf2:(W.setCell ⟨w.heap.size,0,none⟩ (.int .i64 ((pre.length+1:Nat):Int))).frozen? ⟨w.heap.size,0,none⟩=false:=by rw [World.frozen?_setCell];exact hf
    have hb2:Below w.heap.size w (W.setCell ⟨w.heap.size,0,none⟩ (.int .i64 ((pre.length+1:Nat):Int))):=hb.setCell (Nat.le_refl _) _
    have hb3:Below w.heap.size W (W.setCell ⟨w.heap.size,0,none⟩ (.int .i64 ((pre.length+1:Nat):Int))):=by
      apply Below.setCell (Below.refl _ _)
      exact Nat.le_refl _
    have hl:(pre++[x]).length=pre.length+1:=by simp
    by_cases h6:6000<pre.length+1
    · have x1:decide ((6000:Int)<((pre.length+1:Nat):Int))=true:=decide_eq_true (by omega)
      have x2:decide (6000<pre.length+1)=true:=decide_eq_true h6
      gi_wp2_with fail
      refine ⟨KeepsOthers.setCell _ _ _,⟨rfl, ?_,by omega⟩,hb2⟩
      rw [hl]
      exact hw
    · have x1:decide ((6000:Int)<((pre.length+1:Nat):Int))=false:=decide_eq_false (by omega)
      have x2:decide (6000<pre.length+1)=false:=decide_eq_false h6
      gi_wp2_with fail
      refine ⟨KeepsOthers.setCell _ _ _,hb3,⟨?_,hf2,by omega⟩,hb2⟩
      rw [hl]
      exact hw
  case done=>
    rintro D xs W hD rfl ⟨⟨hc,hf,hn⟩,hb⟩ hK
    gi_wp2_with fail
    refine ⟨by simp,.inl ⟨_,_,rfl,run_takeDeferred hK, ?_⟩⟩
    refine ⟨_,results_tmp rfl _ _ _, ?_,Kp.below hb (Kp.putObj (S:=fun k=>k=D) (Kp.refl _ _) (.inl rfl) _) (by rintro k rfl;omega) hb.size⟩
    rw [Nat.min_eq_left (by omega)]
    rfl
  case stop=>
    rintro D c pre W hD hSp ⟨⟨rfl,hc,hn⟩,hb⟩ hK
    gi_wp2_with fail
    refine ⟨by simp,.inl ⟨_,_,rfl,run_takeDeferred hK, ?_⟩⟩
    refine ⟨_,results_tmp rfl _ _ _, ?_,Kp.below hb (Kp.putObj (S:=fun k=>k=D) (Kp.refl _ _) (.inl rfl) _) (by rintro k rfl;omega) hb.size⟩
    rw [Nat.min_eq_right (by have:=hSp.length_le;omega)]
    rfl
end Go.Proofs.YtipnlgmeonepfaaGreatDoor.PFa

-- PRINTED by print.py (a twelfth state) out of the translation. Not trusted: Lean checks it.
namespace Go.Proofs.YtipnlgmeonepfaaGreatDoor.PFa
open Go.RowKit Go.Proofs.YtipnlgmeonepfaaGreatDoorW.PrintWords Go.Proofs.YtipnlgmeonepfaaGreatDoorW.PrintLast Go.Proofs.YtipnlgmeonepfaaGreatDoorW.PrintMore
attribute [local go_sem] max2_int min2_int max_two min_two max_three min_three max_four min_four   -- for this text's walks alone
set_option linter.unusedVariables false
set_option linter.unusedSimpArgs false

/-! ### fragment_depth: function 57 -/
mutual
def fragment_depth.l0:Nat→Int→Int→List (S49)→Int→Int→Option (Int)
 |0,_,_,_,_,_=>none
 |k+1,x1,x5,x8,x9,x10=>if x10<x9 then (if 0≤x10 then (if x10<(x8.length:Int) then (if ((rd_T49 x8 x10).f1).toList=([]:List UInt8) then (fragment_depth.j1 k x1 x5 x8 x9 x10 false ((rd_T49 x8 x10).f0.f0) ((rd_T49 x8 x10).f0.f1) ((rd_T49 x8 x10).f0.f2) ((rd_T49 x8 x10).f0.f3) ((rd_T49 x8 x10).f0.f4) ((rd_T49 x8 x10).f1) ((rd_T49 x8 x10).f2)) else (if x1>0 then (fragment_depth.j1 k x1 x5 x8 x9 x10 (decide (x5<x1)) ((rd_T49 x8 x10).f0.f0) ((rd_T49 x8 x10).f0.f1) ((rd_T49 x8 x10).f0.f2) ((rd_T49 x8 x10).f0.f3) ((rd_T49 x8 x10).f0.f4) ((rd_T49 x8 x10).f1) ((rd_T49 x8 x10).f2)) else (fragment_depth.j1 k x1 x5 x8 x9 x10 false ((rd_T49 x8 x10).f0.f0) ((rd_T49 x8 x10).f0.f1) ((rd_T49 x8 x10).f0.f2) ((rd_T49 x8 x10).f0.f3) ((rd_T49 x8 x10).f0.f4) ((rd_T49 x8 x10).f1) ((rd_T49 x8 x10).f2)))) else (none)) else (none)) else (some x5)
def fragment_depth.j1:Nat→Int→Int→List (S49)→Int→Int→Bool→Int→Int→ByteArray→Int→Int→ByteArray→List (S49)→Option (Int)
 |0,_,_,_,_,_,_,_,_,_,_,_,_,_=>none
 |k+1,x1,x5,x8,x9,x10,x25,x103000,x103001,x103002,x103003,x103004,x103005,x103006=>if x25=true then ((fragment_depth.f k x103006 (wrap64 (x1-1))).bind fun t103=>(fragment_depth.l0 k x1 (mx x5 (wrap64 (1+t103))) x8 x9 (wrap64 (x10+1)))) else (fragment_depth.l0 k x1 x5 x8 x9 (wrap64 (x10+1)))
def fragment_depth.f:Nat→List (S49)→Int→Option (Int)
 |0,_,_=>none
 |k+1,l0,a1=>fragment_depth.l0 k a1 0 l0 (l0.length:Int) 0
end
set_option maxHeartbeats 8000000 in
set_option maxRecDepth 100000 in
theorem fragment_depth.calls (k:Nat): ∀(A0:Option Addr) (c0:Nat) (l0:List (S49)) (a1:Int) (r:Int) (w:World) (hr0:Kd.C k49 w A0 l0.length l0) (hc0:l0.length≤c0) (h:fragment_depth.f k l0 a1=some r),
  Calls Tryz.prog 57 #[.slice A0 l0.length c0,.int .i64 a1] w fun e w'=>e=.returned (.int .i64 r)∧Below w.heap.size w w':=by
 induction k using Nat.strongRecOn with
 |_ k ih=>
 intro A0 c0 l0 a1 r w hr0 hc0 h
 cases k with
 |zero=>exact absurd h (by simp [fragment_depth.f])
 |succ k=>
 simp only [fragment_depth.f] at h
 have hu49:=Tryz.underlying49
 have HR0:=Aside0.mk hr0
 have HC0:=Aside0.mk hc0
 clear hr0 hc0
 have HB:=Aside0.mk (Below.refl w.heap.size w)
 have H:(fragment_depth.l0 k a1 0 l0 (l0.length:Int) 0)=some r:=h
 clear h
 have H':=Aside0.mk H
 clear H
 go_enter Tryz.func57,Tryz.ntmps57
 go_wp2
 go_loopg [5,10] k (fun kq v5 v10 w'=> ∃(x5_1:Int) (x10_1:Int),v5=.int .i64 x5_1∧v10=.int .i64 x10_1∧Aside0 (fragment_depth.l0 kq a1 x5_1 l0 (l0.length:Int) x10_1=some r)∧Aside0 (kq≤k)∧Aside0 (Below w.heap.size w w'))
 case atStart=>exact ⟨(0),(0),(by first|rfl|(simp;done)|(simp [*];done)),(by first|rfl|(simp;done)|(simp [*];done)),H',⟨Nat.le_refl _⟩,⟨by repeat (first|(with_reducible first|exact HB.out|apply below_alloc|apply pw_below_drewN|apply below_drew1)|exact HB.out)⟩⟩
 case round=>
  clear H'
  try clear p2
  obtain ⟨x5_1,x10_1,rfl,rfl,HA,HK1,HB⟩:=hrel
  cases gk with
  |zero=>exact absurd HA.out (by simp [fragment_depth.l0])
  |succ k1=>
   have H:=HA.out
   clear HA
   simp only [fragment_depth.l0] at H
   by_cases c3:x10_1<(l0.length:Int)
   ·rw [if_pos c3] at H
    have c3b0:decide (x10_1<(l0.length:Int))=true:=decide_eq_true c3
    clear c3
    by_cases c4:0≤x10_1
    ·rw [if_pos c4] at H
     have c4b0:decide (0≤x10_1)=true:=decide_eq_true c4
     clear c4
     by_cases c5:x10_1<(l0.length:Int)
     ·rw [if_pos c5] at H
      have c5b0:decide (x10_1<(l0.length:Int))=true:=decide_eq_true c5
      clear c5
      have HC6:=Aside0.mk H
      clear H
      have p101:0≤(x10_1:Int):=of_decide_eq_true (by first|(with_reducible assumption)|assumption)
      have q101:x10_1<(l0.length:Int):=of_decide_eq_true (by first|(with_reducible assumption)|assumption)
      obtain ⟨ad101,A101_6,c101_6,e101,hx101_0,hx101_1,hx101_2,hx101_3,hx101_4,hx101_5,hx101_6,hl101_6,hi101_6⟩:=at_T49 HR0.out x10_1 p101 q101
      cases e101
      replace hx101_0:=(HB.out.cell (World.block_lt_of_cell? w _ hx101_0)).trans hx101_0
      replace hx101_1:=(HB.out.cell (World.block_lt_of_cell? w _ hx101_1)).trans hx101_1
      replace hx101_2:=(HB.out.cell (World.block_lt_of_cell? w _ hx101_2)).trans hx101_2
      replace hx101_3:=(HB.out.cell (World.block_lt_of_cell? w _ hx101_3)).trans hx101_3
      replace hx101_4:=(HB.out.cell (World.block_lt_of_cell? w _ hx101_4)).trans hx101_4
      replace hx101_5:=(HB.out.cell (World.block_lt_of_cell? w _ hx101_5)).trans hx101_5
      replace hx101_6:=(HB.out.cell (World.block_lt_of_cell? w _ hx101_6)).trans hx101_6
      have HR101_6:=Aside0.mk hi101_6
      have HC101_6:=Aside0.mk hl101_6
      clear hi101_6 hl101_6
      replace p101:=eq_true p101
      replace q101:=eq_true q101
      go_upto_region 5 with (first|((with_reducible refine gate_dst (N:=7) rfl ?_);refine box_event ?hg (N:=7) ?hd (cs:= #[.int .i64 0,.int .i64 0,.string (⟨#[]⟩:ByteArray),.int .i64 0,.int .i64 0,.string (⟨#[]⟩:ByteArray),.slice none 0 0]) (t:=49) ?hr ?_;(case hd=>rfl);(case hg=>rfl);(case hr=>first|(go_simp;done)|(go_simp;rfl));intro gb102 hg w7 hbox hb;have n0_:=Aside0.mk (below_step (by repeat (first|(with_reducible first|exact HB.out|apply below_alloc|apply pw_below_drewN|apply below_drew1)|exact HB.out)) hb);have n1_:=Aside0.mk (hbox);have n2_:=Aside0.mk ((by rw [hg];exact (below_size (by repeat (first|(with_reducible first|exact HB.out|apply below_alloc|apply pw_below_drewN|apply below_drew1)|exact HB.out))):w.heap.size≤gb102));have n3_:=Aside0.mk ((by rw [hg];exact (below_size (by repeat (first|(with_reducible first|exact HB.out|apply below_alloc|apply pw_below_drewN|apply below_drew1)|exact HB.out))):w.heap.size≤gb102));clear HB;have HB:=n0_;have BK102:=n1_;have GW102:=n2_;have GE102:=n3_;clear n0_ n1_ n2_ n3_;clear hb hbox hg;have hcz8_0:w7.cell? ⟨gb102,0,none⟩=some (.int .i64 0):=(blk_cell BK102.out 0).trans rfl;have hcz8_1:w7.cell? ⟨gb102,1,none⟩=some (.int .i64 0):=(blk_cell BK102.out 1).trans rfl;have hcz8_2:w7.cell? ⟨gb102,2,none⟩=some (.string (⟨#[]⟩:ByteArray)):=(blk_cell BK102.out 2).trans rfl;have hcz8_3:w7.cell? ⟨gb102,3,none⟩=some (.int .i64 0):=(blk_cell BK102.out 3).trans rfl;have hcz8_4:w7.cell? ⟨gb102,4,none⟩=some (.int .i64 0):=(blk_cell BK102.out 4).trans rfl;have hcz8_5:w7.cell? ⟨gb102,5,none⟩=some (.string (⟨#[]⟩:ByteArray)):=(blk_cell BK102.out 5).trans rfl;have hcz8_6:w7.cell? ⟨gb102,6,none⟩=some (.slice none 0 0):=(blk_cell BK102.out 6).trans rfl;have hfz8_0:=blk_frozen BK102.out 0;have hfz8_1:=blk_frozen BK102.out 1;have hfz8_2:=blk_frozen BK102.out 2;have hfz8_3:=blk_frozen BK102.out 3;have hfz8_4:=blk_frozen BK102.out 4;have hfz8_5:=blk_frozen BK102.out 5;have hfz8_6:=blk_frozen BK102.out 6))
      (try simp only [Act.put,List.setIfInBounds_toArray,List.set_cons_zero,List.set_cons_succ])
      go_cut [25] (fun v25 wc=> ∃(kq:Nat) (x25_5:Bool),v25=.bool x25_5∧Aside0 (fragment_depth.j1 kq a1 x5_1 l0 (l0.length:Int) x10_1 x25_5 ((rd_T49 l0 x10_1).f0.f0) ((rd_T49 l0 x10_1).f0.f1) ((rd_T49 l0 x10_1).f0.f2) ((rd_T49 l0 x10_1).f0.f3) ((rd_T49 l0 x10_1).f0.f4) ((rd_T49 l0 x10_1).f1) ((rd_T49 l0 x10_1).f2)=some r)∧Aside0 (kq≤k1)∧Aside0 (wc.heap[gb102]? =some (.cells #[.int .i64 ((rd_T49 l0 x10_1).f0.f0),.int .i64 ((rd_T49 l0 x10_1).f0.f1),.string ((rd_T49 l0 x10_1).f0.f2),.int .i64 ((rd_T49 l0 x10_1).f0.f3),.int .i64 ((rd_T49 l0 x10_1).f0.f4),.string ((rd_T49 l0 x10_1).f1),(.slice A101_6 ((rd_T49 l0 x10_1).f2).length c101_6)] 49 (0,0)))∧Aside0 (Below w.heap.size w wc))
      case first=>
       have H:=HC6.out
       clear HC6
       by_cases c9:((rd_T49 l0 x10_1).f1).toList=([]:List UInt8)
       ·rw [if_pos c9] at H
        have c9b0:(((rd_T49 l0 x10_1).f1).toList==([]:List UInt8))=true:=beq_iff_eq.mpr c9
        have c9b1:(((rd_T49 l0 x10_1).f1).toList !=([]:List UInt8))=false:=bne_eq_false_iff_eq.mpr c9
        clear c9
        (first|rw [c9b0]|(simp only [i64_w,i32_w];rw [c9b0])|skip)
        have H':=Aside0.mk H
        clear H
        have hcz10_0:w7.cell? ⟨gb102,0,none⟩=some (.int .i64 0):=(blk_cell BK102.out 0).trans rfl
        have hcz10_1:w7.cell? ⟨gb102,1,none⟩=some (.int .i64 0):=(blk_cell BK102.out 1).trans rfl
        have hcz10_2:w7.cell? ⟨gb102,2,none⟩=some (.string (⟨#[]⟩:ByteArray)):=(blk_cell BK102.out 2).trans rfl
        have hcz10_3:w7.cell? ⟨gb102,3,none⟩=some (.int .i64 0):=(blk_cell BK102.out 3).trans rfl
        have hcz10_4:w7.cell? ⟨gb102,4,none⟩=some (.int .i64 0):=(blk_cell BK102.out 4).trans rfl
        have hcz10_5:w7.cell? ⟨gb102,5,none⟩=some (.string (⟨#[]⟩:ByteArray)):=(blk_cell BK102.out 5).trans rfl
        have hcz10_6:w7.cell? ⟨gb102,6,none⟩=some (.slice none 0 0):=(blk_cell BK102.out 6).trans rfl
        have hfz10_0:=blk_frozen BK102.out 0
        have hfz10_1:=blk_frozen BK102.out 1
        have hfz10_2:=blk_frozen BK102.out 2
        have hfz10_3:=blk_frozen BK102.out 3
        have hfz10_4:=blk_frozen BK102.out 4
        have hfz10_5:=blk_frozen BK102.out 5
        have hfz10_6:=blk_frozen BK102.out 6
        go_wp2
        go_meet
        case rel=>exact ⟨_,(false),(by first|rfl|(simp;done)|(simp [*];done)),H',⟨by have:=HK1.out;first|omega|exact Nat.le_refl _⟩,⟨by (with_reducible repeat (first|refine blk_drewN ?_ _|refine blk_drew ?_|refine blk_alloc ?_ _));refine blk_put (cs:= #[.int .i64 ((rd_T49 l0 x10_1).f0.f0),.int .i64 ((rd_T49 l0 x10_1).f0.f1),.string ((rd_T49 l0 x10_1).f0.f2),.int .i64 ((rd_T49 l0 x10_1).f0.f3),.int .i64 ((rd_T49 l0 x10_1).f0.f4),.string ((rd_T49 l0 x10_1).f1),.slice none 0 0]) ?_ 6 _ rfl;(with_reducible repeat (first|refine blk_drewN ?_ _|refine blk_drew ?_|refine blk_alloc ?_ _));refine blk_put (cs:= #[.int .i64 ((rd_T49 l0 x10_1).f0.f0),.int .i64 ((rd_T49 l0 x10_1).f0.f1),.string ((rd_T49 l0 x10_1).f0.f2),.int .i64 ((rd_T49 l0 x10_1).f0.f3),.int .i64 ((rd_T49 l0 x10_1).f0.f4),.string (⟨#[]⟩:ByteArray),.slice none 0 0]) ?_ 5 _ rfl;(with_reducible repeat (first|refine blk_drewN ?_ _|refine blk_drew ?_|refine blk_alloc ?_ _));refine blk_put (cs:= #[.int .i64 ((rd_T49 l0 x10_1).f0.f0),.int .i64 ((rd_T49 l0 x10_1).f0.f1),.string ((rd_T49 l0 x10_1).f0.f2),.int .i64 ((rd_T49 l0 x10_1).f0.f3),.int .i64 0,.string (⟨#[]⟩:ByteArray),.slice none 0 0]) ?_ 4 _ rfl;(with_reducible repeat (first|refine blk_drewN ?_ _|refine blk_drew ?_|refine blk_alloc ?_ _));refine blk_put (cs:= #[.int .i64 ((rd_T49 l0 x10_1).f0.f0),.int .i64 ((rd_T49 l0 x10_1).f0.f1),.string ((rd_T49 l0 x10_1).f0.f2),.int .i64 0,.int .i64 0,.string (⟨#[]⟩:ByteArray),.slice none 0 0]) ?_ 3 _ rfl;(with_reducible repeat (first|refine blk_drewN ?_ _|refine blk_drew ?_|refine blk_alloc ?_ _));refine blk_put (cs:= #[.int .i64 ((rd_T49 l0 x10_1).f0.f0),.int .i64 ((rd_T49 l0 x10_1).f0.f1),.string (⟨#[]⟩:ByteArray),.int .i64 0,.int .i64 0,.string (⟨#[]⟩:ByteArray),.slice none 0 0]) ?_ 2 _ rfl;(with_reducible repeat (first|refine blk_drewN ?_ _|refine blk_drew ?_|refine blk_alloc ?_ _));refine blk_put (cs:= #[.int .i64 ((rd_T49 l0 x10_1).f0.f0),.int .i64 0,.string (⟨#[]⟩:ByteArray),.int .i64 0,.int .i64 0,.string (⟨#[]⟩:ByteArray),.slice none 0 0]) ?_ 1 _ rfl;(with_reducible repeat (first|refine blk_drewN ?_ _|refine blk_drew ?_|refine blk_alloc ?_ _));refine blk_put (cs:= #[.int .i64 0,.int .i64 0,.string (⟨#[]⟩:ByteArray),.int .i64 0,.int .i64 0,.string (⟨#[]⟩:ByteArray),.slice none 0 0]) ?_ 0 _ rfl;(with_reducible repeat (first|refine blk_drewN ?_ _|refine blk_drew ?_|refine blk_alloc ?_ _));exact BK102.out⟩,⟨by repeat (first|(with_reducible first|exact HB.out|apply below_alloc|apply pw_below_drewN|apply below_drew1|refine below_set ?_ GE102.out)|exact HB.out)⟩⟩
       ·rw [if_neg c9] at H
        have c9b0:(((rd_T49 l0 x10_1).f1).toList==([]:List UInt8))=false:=beq_eq_false_iff_ne.mpr c9
        have c9b1:(((rd_T49 l0 x10_1).f1).toList !=([]:List UInt8))=true:=bne_iff_ne.mpr c9
        (first|rw [c9b0]|(simp only [i64_w,i32_w];rw [c9b0])|skip)
        by_cases c11:a1>0
        ·rw [if_pos c11] at H
         have c11b0:decide (0<a1)=true:=decide_eq_true c11
         clear c11
         have H':=Aside0.mk H
         clear H
         have hcz12_0:w7.cell? ⟨gb102,0,none⟩=some (.int .i64 0):=(blk_cell BK102.out 0).trans rfl
         have hcz12_1:w7.cell? ⟨gb102,1,none⟩=some (.int .i64 0):=(blk_cell BK102.out 1).trans rfl
         have hcz12_2:w7.cell? ⟨gb102,2,none⟩=some (.string (⟨#[]⟩:ByteArray)):=(blk_cell BK102.out 2).trans rfl
         have hcz12_3:w7.cell? ⟨gb102,3,none⟩=some (.int .i64 0):=(blk_cell BK102.out 3).trans rfl
         have hcz12_4:w7.cell? ⟨gb102,4,none⟩=some (.int .i64 0):=(blk_cell BK102.out 4).trans rfl
         have hcz12_5:w7.cell? ⟨gb102,5,none⟩=some (.string (⟨#[]⟩:ByteArray)):=(blk_cell BK102.out 5).trans rfl
         have hcz12_6:w7.cell? ⟨gb102,6,none⟩=some (.slice none 0 0):=(blk_cell BK102.out 6).trans rfl
         have hfz12_0:=blk_frozen BK102.out 0
         have hfz12_1:=blk_frozen BK102.out 1
         have hfz12_2:=blk_frozen BK102.out 2
         have hfz12_3:=blk_frozen BK102.out 3
         have hfz12_4:=blk_frozen BK102.out 4
         have hfz12_5:=blk_frozen BK102.out 5
         have hfz12_6:=blk_frozen BK102.out 6
         go_wp2
         go_meet
         case rel=>exact ⟨_,(decide (x5_1<a1)),(by first|rfl|(simp;done)|(simp [*];done)),H',⟨by have:=HK1.out;first|omega|exact Nat.le_refl _⟩,⟨by (with_reducible repeat (first|refine blk_drewN ?_ _|refine blk_drew ?_|refine blk_alloc ?_ _));refine blk_put (cs:= #[.int .i64 ((rd_T49 l0 x10_1).f0.f0),.int .i64 ((rd_T49 l0 x10_1).f0.f1),.string ((rd_T49 l0 x10_1).f0.f2),.int .i64 ((rd_T49 l0 x10_1).f0.f3),.int .i64 ((rd_T49 l0 x10_1).f0.f4),.string ((rd_T49 l0 x10_1).f1),.slice none 0 0]) ?_ 6 _ rfl;(with_reducible repeat (first|refine blk_drewN ?_ _|refine blk_drew ?_|refine blk_alloc ?_ _));refine blk_put (cs:= #[.int .i64 ((rd_T49 l0 x10_1).f0.f0),.int .i64 ((rd_T49 l0 x10_1).f0.f1),.string ((rd_T49 l0 x10_1).f0.f2),.int .i64 ((rd_T49 l0 x10_1).f0.f3),.int .i64 ((rd_T49 l0 x10_1).f0.f4),.string (⟨#[]⟩:ByteArray),.slice none 0 0]) ?_ 5 _ rfl;(with_reducible repeat (first|refine blk_drewN ?_ _|refine blk_drew ?_|refine blk_alloc ?_ _));refine blk_put (cs:= #[.int .i64 ((rd_T49 l0 x10_1).f0.f0),.int .i64 ((rd_T49 l0 x10_1).f0.f1),.string ((rd_T49 l0 x10_1).f0.f2),.int .i64 ((rd_T49 l0 x10_1).f0.f3),.int .i64 0,.string (⟨#[]⟩:ByteArray),.slice none 0 0]) ?_ 4 _ rfl;(with_reducible repeat (first|refine blk_drewN ?_ _|refine blk_drew ?_|refine blk_alloc ?_ _));refine blk_put (cs:= #[.int .i64 ((rd_T49 l0 x10_1).f0.f0),.int .i64 ((rd_T49 l0 x10_1).f0.f1),.string ((rd_T49 l0 x10_1).f0.f2),.int .i64 0,.int .i64 0,.string (⟨#[]⟩:ByteArray),.slice none 0 0]) ?_ 3 _ rfl;(with_reducible repeat (first|refine blk_drewN ?_ _|refine blk_drew ?_|refine blk_alloc ?_ _));refine blk_put (cs:= #[.int .i64 ((rd_T49 l0 x10_1).f0.f0),.int .i64 ((rd_T49 l0 x10_1).f0.f1),.string (⟨#[]⟩:ByteArray),.int .i64 0,.int .i64 0,.string (⟨#[]⟩:ByteArray),.slice none 0 0]) ?_ 2 _ rfl;(with_reducible repeat (first|refine blk_drewN ?_ _|refine blk_drew ?_|refine blk_alloc ?_ _));refine blk_put (cs:= #[.int .i64 ((rd_T49 l0 x10_1).f0.f0),.int .i64 0,.string (⟨#[]⟩:ByteArray),.int .i64 0,.int .i64 0,.string (⟨#[]⟩:ByteArray),.slice none 0 0]) ?_ 1 _ rfl;(with_reducible repeat (first|refine blk_drewN ?_ _|refine blk_drew ?_|refine blk_alloc ?_ _));refine blk_put (cs:= #[.int .i64 0,.int .i64 0,.string (⟨#[]⟩:ByteArray),.int .i64 0,.int .i64 0,.string (⟨#[]⟩:ByteArray),.slice none 0 0]) ?_ 0 _ rfl;(with_reducible repeat (first|refine blk_drewN ?_ _|refine blk_drew ?_|refine blk_alloc ?_ _));exact BK102.out⟩,⟨by repeat (first|(with_reducible first|exact HB.out|apply below_alloc|apply pw_below_drewN|apply below_drew1|refine below_set ?_ GE102.out)|exact HB.out)⟩⟩
        ·rw [if_neg c11] at H
         have c11b0:decide (0<a1)=false:=decide_eq_false c11
         clear c11
         have H':=Aside0.mk H
         clear H
         have hcz13_0:w7.cell? ⟨gb102,0,none⟩=some (.int .i64 0):=(blk_cell BK102.out 0).trans rfl
         have hcz13_1:w7.cell? ⟨gb102,1,none⟩=some (.int .i64 0):=(blk_cell BK102.out 1).trans rfl
         have hcz13_2:w7.cell? ⟨gb102,2,none⟩=some (.string (⟨#[]⟩:ByteArray)):=(blk_cell BK102.out 2).trans rfl
         have hcz13_3:w7.cell? ⟨gb102,3,none⟩=some (.int .i64 0):=(blk_cell BK102.out 3).trans rfl
         have hcz13_4:w7.cell? ⟨gb102,4,none⟩=some (.int .i64 0):=(blk_cell BK102.out 4).trans rfl
         have hcz13_5:w7.cell? ⟨gb102,5,none⟩=some (.string (⟨#[]⟩:ByteArray)):=(blk_cell BK102.out 5).trans rfl
         have hcz13_6:w7.cell? ⟨gb102,6,none⟩=some (.slice none 0 0):=(blk_cell BK102.out 6).trans rfl
         have hfz13_0:=blk_frozen BK102.out 0
         have hfz13_1:=blk_frozen BK102.out 1
         have hfz13_2:=blk_frozen BK102.out 2
         have hfz13_3:=blk_frozen BK102.out 3
         have hfz13_4:=blk_frozen BK102.out 4
         have hfz13_5:=blk_frozen BK102.out 5
         have hfz13_6:=blk_frozen BK102.out 6
         go_wp2
         go_meet
         case rel=>exact ⟨_,(false),(by first|rfl|(simp;done)|(simp [*];done)),H',⟨by have:=HK1.out;first|omega|exact Nat.le_refl _⟩,⟨by (with_reducible repeat (first|refine blk_drewN ?_ _|refine blk_drew ?_|refine blk_alloc ?_ _));refine blk_put (cs:= #[.int .i64 ((rd_T49 l0 x10_1).f0.f0),.int .i64 ((rd_T49 l0 x10_1).f0.f1),.string ((rd_T49 l0 x10_1).f0.f2),.int .i64 ((rd_T49 l0 x10_1).f0.f3),.int .i64 ((rd_T49 l0 x10_1).f0.f4),.string ((rd_T49 l0 x10_1).f1),.slice none 0 0]) ?_ 6 _ rfl;(with_reducible repeat (first|refine blk_drewN ?_ _|refine blk_drew ?_|refine blk_alloc ?_ _));refine blk_put (cs:= #[.int .i64 ((rd_T49 l0 x10_1).f0.f0),.int .i64 ((rd_T49 l0 x10_1).f0.f1),.string ((rd_T49 l0 x10_1).f0.f2),.int .i64 ((rd_T49 l0 x10_1).f0.f3),.int .i64 ((rd_T49 l0 x10_1).f0.f4),.string (⟨#[]⟩:ByteArray),.slice none 0 0]) ?_ 5 _ rfl;(with_reducible repeat (first|refine blk_drewN ?_ _|refine blk_drew ?_|refine blk_alloc ?_ _));refine blk_put (cs:= #[.int .i64 ((rd_T49 l0 x10_1).f0.f0),.int .i64 ((rd_T49 l0 x10_1).f0.f1),.string ((rd_T49 l0 x10_1).f0.f2),.int .i64 ((rd_T49 l0 x10_1).f0.f3),.int .i64 0,.string (⟨#[]⟩:ByteArray),.slice none 0 0]) ?_ 4 _ rfl;(with_reducible repeat (first|refine blk_drewN ?_ _|refine blk_drew ?_|refine blk_alloc ?_ _));refine blk_put (cs:= #[.int .i64 ((rd_T49 l0 x10_1).f0.f0),.int .i64 ((rd_T49 l0 x10_1).f0.f1),.string ((rd_T49 l0 x10_1).f0.f2),.int .i64 0,.int .i64 0,.string (⟨#[]⟩:ByteArray),.slice none 0 0]) ?_ 3 _ rfl;(with_reducible repeat (first|refine blk_drewN ?_ _|refine blk_drew ?_|refine blk_alloc ?_ _));refine blk_put (cs:= #[.int .i64 ((rd_T49 l0 x10_1).f0.f0),.int .i64 ((rd_T49 l0 x10_1).f0.f1),.string (⟨#[]⟩:ByteArray),.int .i64 0,.int .i64 0,.string (⟨#[]⟩:ByteArray),.slice none 0 0]) ?_ 2 _ rfl;(with_reducible repeat (first|refine blk_drewN ?_ _|refine blk_drew ?_|refine blk_alloc ?_ _));refine blk_put (cs:= #[.int .i64 ((rd_T49 l0 x10_1).f0.f0),.int .i64 0,.string (⟨#[]⟩:ByteArray),.int .i64 0,.int .i64 0,.string (⟨#[]⟩:ByteArray),.slice none 0 0]) ?_ 1 _ rfl;(with_reducible repeat (first|refine blk_drewN ?_ _|refine blk_drew ?_|refine blk_alloc ?_ _));refine blk_put (cs:= #[.int .i64 0,.int .i64 0,.string (⟨#[]⟩:ByteArray),.int .i64 0,.int .i64 0,.string (⟨#[]⟩:ByteArray),.slice none 0 0]) ?_ 0 _ rfl;(with_reducible repeat (first|refine blk_drewN ?_ _|refine blk_drew ?_|refine blk_alloc ?_ _));exact BK102.out⟩,⟨by repeat (first|(with_reducible first|exact HB.out|apply below_alloc|apply pw_below_drewN|apply below_drew1|refine below_set ?_ GE102.out)|exact HB.out)⟩⟩
      case rest=>
       clear HC6
       try clear c1
       try clear p1
       try clear q1
       try clear hx1
       try clear p2
       try clear c3
       try clear c3b0
       try clear c4
       try clear c4b0
       try clear c5
       try clear c5b0
       try clear c9
       try clear c9b0
       try clear c9b1
       try clear c10
       try clear p10
       try clear q10
       try clear hx10
       try clear c11
       try clear c11b0
       try clear hcz10_0
       try clear hcz10_1
       try clear hcz10_2
       try clear hcz10_3
       try clear hcz10_4
       try clear hcz10_5
       try clear hcz10_6
       try clear hcz12_0
       try clear hcz12_1
       try clear hcz12_2
       try clear hcz12_3
       try clear hcz12_4
       try clear hcz12_5
       try clear hcz12_6
       try clear hcz13_0
       try clear hcz13_1
       try clear hcz13_2
       try clear hcz13_3
       try clear hcz13_4
       try clear hcz13_5
       try clear hcz13_6
       try clear hcz8_0
       try clear hcz8_1
       try clear hcz8_2
       try clear hcz8_3
       try clear hcz8_4
       try clear hcz8_5
       try clear hcz8_6
       try clear hfz10_0
       try clear hfz10_1
       try clear hfz10_2
       try clear hfz10_3
       try clear hfz10_4
       try clear hfz10_5
       try clear hfz10_6
       try clear hfz12_0
       try clear hfz12_1
       try clear hfz12_2
       try clear hfz12_3
       try clear hfz12_4
       try clear hfz12_5
       try clear hfz12_6
       try clear hfz13_0
       try clear hfz13_1
       try clear hfz13_2
       try clear hfz13_3
       try clear hfz13_4
       try clear hfz13_5
       try clear hfz13_6
       try clear hfz8_0
       try clear hfz8_1
       try clear hfz8_2
       try clear hfz8_3
       try clear hfz8_4
       try clear hfz8_5
       try clear hfz8_6
       try clear hx101_0
       try clear hx101_1
       try clear hx101_2
       try clear hx101_3
       try clear hx101_4
       try clear hx101_5
       try clear hx101_6
       try clear p101
       try clear p2
       try clear q101
       obtain ⟨kq,x25_5,rfl,HA,HJ5,BK102,HB⟩:=hcut
       cases kq with
       |zero=>exact absurd HA.out (by simp [fragment_depth.j1])
       |succ kj5=>
        have H:=HA.out
        clear HA
        simp only [fragment_depth.j1] at H
        by_cases c14:x25_5=true
        ·subst c14
         have H1:((fragment_depth.f kj5 ((rd_T49 l0 x10_1).f2) (wrap64 (a1-1))).bind fun t103=>(fragment_depth.l0 kj5 a1 (mx x5_1 (wrap64 (1+t103))) l0 (l0.length:Int) (wrap64 (x10_1+1))))=some r:=by rw [if_pos rfl] at H;exact H
         clear H
         have H:=H1
         clear H1
         replace H:=Option.bind_eq_some_iff.mp H
         obtain ⟨t103,A150,H⟩:=H
         replace H:(fragment_depth.l0 kj5 a1 (mx x5_1 (wrap64 (1+t103))) l0 (l0.length:Int) (wrap64 (x10_1+1)))=some r:=H
         have A15:=Aside0.mk A150
         clear A150
         obtain ⟨ji16,hji16⟩: ∃j_:Int,(mx x5_1 (wrap64 (1+t103)))=j_:=⟨_,rfl⟩
         replace H:(fragment_depth.l0 kj5 a1 ji16 l0 (l0.length:Int) (wrap64 (x10_1+1)))=some r:=by first|(rw [hji16] at H;exact H)|(simp only [hji16] at H⊢;exact H)
         (try rw [hji16] at A15)
         have hji16_:(if x5_1<(wrap64 (1+t103)) then (wrap64 (1+t103)) else x5_1)=ji16:=hji16
         have H':=Aside0.mk H
         clear H
         have hcz17_0:wc.cell? ⟨gb102,0,none⟩=some (.int .i64 ((rd_T49 l0 x10_1).f0.f0)):=(blk_cell BK102.out 0).trans rfl
         have hcz17_1:wc.cell? ⟨gb102,1,none⟩=some (.int .i64 ((rd_T49 l0 x10_1).f0.f1)):=(blk_cell BK102.out 1).trans rfl
         have hcz17_2:wc.cell? ⟨gb102,2,none⟩=some (.string ((rd_T49 l0 x10_1).f0.f2)):=(blk_cell BK102.out 2).trans rfl
         have hcz17_3:wc.cell? ⟨gb102,3,none⟩=some (.int .i64 ((rd_T49 l0 x10_1).f0.f3)):=(blk_cell BK102.out 3).trans rfl
         have hcz17_4:wc.cell? ⟨gb102,4,none⟩=some (.int .i64 ((rd_T49 l0 x10_1).f0.f4)):=(blk_cell BK102.out 4).trans rfl
         have hcz17_5:wc.cell? ⟨gb102,5,none⟩=some (.string ((rd_T49 l0 x10_1).f1)):=(blk_cell BK102.out 5).trans rfl
         have hcz17_6:wc.cell? ⟨gb102,6,none⟩=some (.slice A101_6 ((rd_T49 l0 x10_1).f2).length c101_6):=(blk_cell BK102.out 6).trans rfl
         have hfz17_0:=blk_frozen BK102.out 0
         have hfz17_1:=blk_frozen BK102.out 1
         have hfz17_2:=blk_frozen BK102.out 2
         have hfz17_3:=blk_frozen BK102.out 3
         have hfz17_4:=blk_frozen BK102.out 4
         have hfz17_5:=blk_frozen BK102.out 5
         have hfz17_6:=blk_frozen BK102.out 6
         go_wp2_with (first|((with_reducible refine gate_callee (f:=57) rfl ?_);refine goesL_ (some 31) rfl rfl Tryz.func57 (by kernel_rfl) rfl #[.slice A101_6 ((rd_T49 l0 x10_1).f2).length c101_6,.int .i64 (wrap64 (a1-1))] rfl (by (try simp only [List.map_toArray,List.map_cons,List.map_nil]);first|done|rfl|(simp only [List.length_drop,List.length_take];rfl)) ?_;(with_reducible refine (ih kj5 (by have:=HK1.out;have:=HJ5.out;omega) _ _ ((rd_T49 l0 x10_1).f2) (wrap64 (a1-1)) t103 _ ?side1 ?side2 A15.out).mono ?_);(case side1=>repeat (first|exact (Kd.C_below HR101_6.out HB.out)|(with_reducible refine Kd.C_alloc ?_ _)|(with_reducible refine Kd.C_drewN ?_ _)|(with_reducible refine Kd.C_drew ?_)));(case side2=>exact HC101_6.out);rintro e w18 ⟨rfl,hb⟩;refine ⟨_,rfl, ?_⟩;have n0_:=Aside0.mk (blk_below (g:=gb102) (o:=.cells #[.int .i64 ((rd_T49 l0 x10_1).f0.f0),.int .i64 ((rd_T49 l0 x10_1).f0.f1),.string ((rd_T49 l0 x10_1).f0.f2),.int .i64 ((rd_T49 l0 x10_1).f0.f3),.int .i64 ((rd_T49 l0 x10_1).f0.f4),.string ((rd_T49 l0 x10_1).f1),.slice A101_6 ((rd_T49 l0 x10_1).f2).length c101_6] 49 (0,0)) (by (with_reducible repeat (first|refine blk_drewN ?_ _|refine blk_drew ?_|refine blk_alloc ?_ _));exact BK102.out) hb);have n1_:=Aside0.mk (below_step (by repeat (first|(with_reducible first|exact HB.out|apply below_alloc|apply pw_below_drewN|apply below_drew1|refine below_set ?_ GE102.out)|exact HB.out)) hb);clear BK102;clear HB;have BK102:=n0_;have HB:=n1_;clear n0_ n1_;(try clear hb);(try clear hb2);(try clear hk);(try clear hi)))
         go_roundg kj5
         case measure=>have:=HK1.out;have:=HJ5.out;omega
         case rel=>exact ⟨(ji16),(wrap64 (x10_1+1)),(by first|rfl|(simp;done)|(simp only [←hji16]<;>(first|rfl|simp))|(simp [*];done)),(by first|rfl|(simp;done)|(simp [*];done)),H',⟨by have:=HK1.out;have:=HJ5.out;omega⟩,⟨by repeat (first|(with_reducible first|exact HB.out|apply below_alloc|apply pw_below_drewN|apply below_drew1|refine below_set ?_ GE102.out)|exact HB.out)⟩⟩
        ·replace c14:=Bool.eq_false_iff.mpr c14
         subst c14
         have H1:(fragment_depth.l0 kj5 a1 x5_1 l0 (l0.length:Int) (wrap64 (x10_1+1)))=some r:=by rw [if_neg (show¬(false=true) by decide)] at H;exact H
         clear H
         have H:=H1
         clear H1
         have H':=Aside0.mk H
         clear H
         go_wp2
         go_roundg kj5
         case measure=>have:=HK1.out;have:=HJ5.out;omega
         case rel=>exact ⟨(x5_1),(wrap64 (x10_1+1)),(by first|rfl|(simp;done)|(simp [*];done)),(by first|rfl|(simp;done)|(simp [*];done)),H',⟨by have:=HK1.out;have:=HJ5.out;omega⟩,⟨by repeat (first|(with_reducible first|exact HB.out|apply below_alloc|apply pw_below_drewN|apply below_drew1|refine below_set ?_ GE102.out)|exact HB.out)⟩⟩
     ·rw [if_neg c5] at H
      exact absurd H (by simp)
    ·rw [if_neg c4] at H
     exact absurd H (by simp)
   ·rw [if_neg c3] at H
    have c3b0:decide (x10_1<(l0.length:Int))=false:=decide_eq_false c3
    clear c3
    obtain rfl:=Option.some.inj H
    go_wp2
    go_ret
    exact ⟨by first|rfl|(simp [errW_none,errW_some]<;>rfl)|(simp [*,errW_none,errW_some]<;>rfl),by repeat (first|(with_reducible first|exact HB.out|apply below_alloc|apply pw_below_drewN|apply below_drew1)|exact HB.out)⟩

/-! ### fragment_Depth: function 25 -/
def fragment_Depth.f (k:Nat) (l0:List (S49)):Option (Int):=(fragment_depth.f k l0 101).bind fun t104=>(some t104)
set_option maxHeartbeats 8000000 in
set_option maxRecDepth 100000 in
theorem fragment_Depth.calls (k:Nat) (A0:Option Addr) (c0:Nat) (l0:List (S49)) (r:Int) (w:World) (hr0:Kd.C k49 w A0 l0.length l0) (hc0:l0.length≤c0) (h:fragment_Depth.f k l0=some r):
  Calls Tryz.prog 25 #[.slice A0 l0.length c0] w fun e w'=>e=.returned (.int .i64 r)∧Below w.heap.size w w':=by
 have HR0:=Aside0.mk hr0
 have HC0:=Aside0.mk hc0
 clear hr0 hc0
 have HB:=Aside0.mk (Below.refl w.heap.size w)
 have H:((fragment_depth.f k l0 101).bind fun t104=>(some t104))=some r:=h
 clear h
 replace H:=Option.bind_eq_some_iff.mp H
 obtain ⟨t104,A20,H⟩:=H
 replace H:(some t104)=some r:=H
 have A2:=Aside0.mk A20
 clear A20
 obtain rfl:=Option.some.inj H
 go_enter Tryz.func25,Tryz.ntmps25
 go_wp2_with (first|((with_reducible refine gate_callee (f:=57) rfl ?_);refine goesL_ (some 4) rfl rfl Tryz.func57 (by kernel_rfl) rfl #[.slice A0 l0.length c0,.int .i64 101] rfl (by (try simp only [List.map_toArray,List.map_cons,List.map_nil]);first|done|rfl|(simp only [List.length_drop,List.length_take];rfl)) ?_;(with_reducible refine (fragment_depth.calls k _ _ l0 101 t104 _ ?side1 ?side2 A2.out).mono ?_);(case side1=>repeat (first|exact HR0.out|(with_reducible refine Kd.C_alloc ?_ _)|(with_reducible refine Kd.C_drewN ?_ _)|(with_reducible refine Kd.C_drew ?_)));(case side2=>exact HC0.out);rintro e w3 ⟨rfl,hb⟩;refine ⟨_,rfl, ?_⟩;have n0_:=Aside0.mk (below_step (by repeat (first|(with_reducible first|exact HB.out|apply below_alloc|apply pw_below_drewN|apply below_drew1)|exact HB.out)) hb);clear HB;have HB:=n0_;clear n0_;(try clear hb);(try clear hb2);(try clear hk);(try clear hi)))
 go_ret
 exact ⟨by first|rfl|(simp [errW_none,errW_some]<;>rfl)|(simp [*,errW_none,errW_some]<;>rfl),by repeat (first|(with_reducible first|exact HB.out|apply below_alloc|apply pw_below_drewN|apply below_drew1)|exact HB.out)⟩

end Go.Proofs.YtipnlgmeonepfaaGreatDoor.PFa

-- PRINTED by print.py (a twelfth state) out of the translation. Not trusted: Lean checks it.
namespace Go.Proofs.YtipnlgmeonepfaaGreatDoor.PFa
open Go.RowKit Go.Proofs.YtipnlgmeonepfaaGreatDoorW.PrintWords Go.Proofs.YtipnlgmeonepfaaGreatDoorW.PrintLast Go.Proofs.YtipnlgmeonepfaaGreatDoorW.PrintMore
attribute [local go_sem] max2_int min2_int max_two min_two max_three min_three max_four min_four   -- for this text's walks alone
set_option linter.unusedVariables false
set_option linter.unusedSimpArgs false

/-! ### skerryref01_Scan: function 71 -/

def rtok (a0:ByteArray) (p:Lx.Piece):S39:=⟨(p.kind:Int),Ref.numOf a0 p,Ref.txtOf a0 p,(p.at_:Int),0⟩
theorem rtok_len (a0:ByteArray): ∀l:List Lx.Piece,(l.flatMap (Ref.tokOf a0)).length=l.length*5
 |[]=>rfl
 |p::l=>by
  have h:=rtok_len a0 l
  simp only [List.flatMap_cons,List.length_append,List.length_cons,h,Ref.tokOf,List.length_nil]
  omega
theorem rtok_at (a0:ByteArray): ∀(l:List Lx.Piece) (j:Nat) (p:Lx.Piece),l[j]? =some p→((l.flatMap (Ref.tokOf a0)).drop (j*5)).take 5=[.int .i64 p.kind,.int .i64 (Ref.numOf a0 p),.string (Ref.txtOf a0 p),.int .i64 p.at_,.int .i64 0]
 |[],j,p,h=>by simp at h
 |q::l,0,p,h=>by
  simp at h
  subst h
  rfl
 |q::l,j+1,p,h=>by
  have h':l[j]? =some p:=by simpa using h
  have e:=rtok_at a0 l j p h'
  have e2:((q::l).flatMap (Ref.tokOf a0)).drop ((j+1)*5)=(l.flatMap (Ref.tokOf a0)).drop (j*5):=by
   rw [show (j+1)*5=5+j*5 from by omega,←List.drop_drop]
   rfl
  rw [e2]
  exact e
def skerryref01_Scan.f (a0:ByteArray):Option (List S39×Int×Int):=if a0.size≤9223372036854775807 then some (((Lx.outL a0).filter Ref.isTk).map (rtok a0),Lx.outAt a0,Lx.outE a0) else none
theorem skerryref01_Scan.calls (a0:ByteArray) (r1:List S39) (r2 r3:Int) (w:World) (h:skerryref01_Scan.f a0=some (r1,r2,r3)):
  Calls Tryz.prog 71 #[.string a0] w fun e w'=> ∃v0_:Value,e=.returned (.agg #[v0_,.int .i64 r2,.int .i64 r3])∧Kd.R k39 39 w' w.heap.size (fun _=>True) v0_ r1∧Below w.heap.size w w':=by
 unfold skerryref01_Scan.f at h
 split at h
 ·rename_i hs
  simp only [Option.some.injEq,Prod.mk.injEq] at h
  obtain ⟨rfl,rfl,rfl⟩:=h
  refine (Ref.rscan_walk a0 hs w).mono ?_
  rintro e w' ⟨v,rfl,ho,hb⟩
  refine ⟨v,rfl,⟨fun _ _=>trivial,Ref.tokCells a0 (Lx.outL a0),by rw [List.length_map];exact ho, ?_⟩,hb⟩
  refine ⟨by rw [List.length_map];exact rtok_len a0 _,fun j p hp=> ?_⟩
  rw [List.getElem?_map] at hp
  obtain ⟨q,hq,rfl⟩:=Option.map_eq_some_iff.1 hp
  have e:=rtok_at a0 _ _ _ hq
  exact e▸k39_mkM _ _ _ _
 ·cases h


/-! ### skerrylaw02_scan: function 46 -/

def skerrylaw02_scan.f (a0:ByteArray):Option (List S39):=(skerryref01_Scan.f a0).bind fun r=>some r.1
set_option maxHeartbeats 1600000 in
theorem skerrylaw02_scan.calls (a0:ByteArray) (r:List S39) (w:World) (h:skerrylaw02_scan.f a0=some r):
  Calls Tryz.prog 46 #[.string a0] w fun e w'=> ∃v0_:Value,e=.returned (v0_)∧Kd.R k39 39 w' w.heap.size (fun _=>True) v0_ r∧Below w.heap.size w w':=by
 unfold skerrylaw02_scan.f at h
 obtain ⟨⟨r1,r2,r3⟩,h1,h2⟩:=Option.bind_eq_some_iff.1 h
 obtain rfl:=Option.some.inj h2
 have HC:=Lib.hid (skerryref01_Scan.calls a0 r1 r2 r3 w h1)
 clear h h1 h2
 have hfd: ∀(w:World) (A:Option Addr) (n c:Nat) (x y:Int),(Instr.field 97 (.agg #[.slice A n c,.int .i64 x,.int .i64 y]) 0).run Tryz.prog w=.ok (.slice A n c) w:=fun _ _ _ _ _ _=>by kernel_rfl
 go_enter Tryz.func46,Tryz.ntmps46
 go_wp2_with fail
 refine HC.out.mono ?_
 rintro e w2 ⟨v,rfl,hR,hB⟩
 obtain ⟨A,c,rfl⟩:=Kd.R_slice hR
 have HR:=Lib.hid hR
 have HB:=Lib.hid hB
 clear hR hB
 go_wp2
 go_ret
 exact ⟨_,rfl,HR.out,HB.out⟩


end Go.Proofs.YtipnlgmeonepfaaGreatDoor.PFa

set_option linter.unusedVariables false
set_option linter.unusedSimpArgs false
namespace Go.Proofs.YtipnlgmeonepfaaGreatDoor.PFa
open Go.RowKit Go.Proofs.YtipnlgmeonepfaaGreatDoorW.PrintWords Go.Proofs.YtipnlgmeonepfaaGreatDoorW.PrintLast Go.Proofs.YtipnlgmeonepfaaGreatDoorW.PrintMore
def toksR (s:ByteArray):List Tk:=((Lx.outL s).filter Ref.isTk).map (rtok s)
theorem scan_ex (s:ByteArray) (hs:s.size≤1000) {W:World}:Calls Tryz.prog 46 #[.string s] W fun e W'=> ∃A c,e=.returned (.slice A (toksR s).length c)∧Hid (Kd.C k39 W' A (toksR s).length (toksR s))∧Hid ((toksR s).length≤c)∧Hid (Below W.heap.size W W'):=by
  have h:skerrylaw02_scan.f s=some (toksR s):=by
    unfold skerrylaw02_scan.f skerryref01_Scan.f
    rw [if_pos (by omega)]
    rfl
  refine (skerrylaw02_scan.calls s _ W h).mono ?_
  rintro e W' ⟨v,rfl,hR,hB⟩
  obtain ⟨A,c,rfl⟩:=Kd.R_slice hR
  exact ⟨A,c,rfl,Lib.hid (Kd.R_reads' hR).2.2,Lib.hid (Kd.R_reads' hR).2.1,Lib.hid hB⟩
theorem read_ex {l : List Tk} {ws : List ByteArray} {out : List Fg} {at_ er : Int} (n : Nat) (hr : Hid (readOut l ws = (out, at_, er))) (hn : Hid (out.length = n)) {A A1 : Option Addr} {c c1 : Nat} {W : World} (hC : Kd.C k39 W A l.length l) (hc : l.length ≤ c) (hW : Kd.C Kd.string W A1 ws.length ws) (hcw : ws.length ≤ c1) (hE : Lx.Env W) :
    Calls Tryz.prog 15 #[.slice A l.length c,.slice A1 ws.length c1] W fun e W'=> ∃A c,e=.returned (.tuple #[.slice A n c,.int .i64 at_,.int .i64 er])∧Hid (Kd.C k49 W' A n out)∧Hid (n≤c)∧Hid (Below W.heap.size W W'):=by
  have:=read_walk hC hc hW hcw hE
  rw [hr.out] at this
  refine this.mono ?_
  rintro e W' ⟨v,rfl,hR,hB⟩
  obtain ⟨A,c,rfl⟩:=Kd.R_slice hR
  dsimp only at hR hB⊢
  have h1:=(Kd.R_reads' hR).2.1
  have h2:=(Kd.R_reads' hR).2.2
  rw [hn.out] at h1 h2⊢
  exact ⟨A,c,rfl,Lib.hid h2,Lib.hid h1,Lib.hid hB⟩
theorem no_words (W:World):Kd.C Kd.string W none ([]:List ByteArray).length []:=⟨rfl,by simp,fun h=>absurd h (by simp)⟩
/-- What one example comes to. -/
theorem ex_out {s:ByteArray} {ws:List ByteArray} {at_ er:Int} {n:Nat} (h:(readOut (toksR s) ws).2=(at_,er)) (hl:(readOut (toksR s) ws).1.length=n): ∃out,Hid (readOut (toksR s) ws=(out,at_,er))∧Hid (out.length=n)∧out=(readOut (toksR s) ws).1:=
  ⟨_,Lib.hid (by rw [←h]),Lib.hid hl,rfl⟩
def ex1:ByteArray:=⟨#[102,40,120,44,32,91,49,93,41]⟩
def ex2:ByteArray:=⟨#[100,101,102,105,110,101,32,109,101,116,104,111,100,32,97,114,101,97,32,40,115,41,32,115,32,101,110,100,32,109,101,116,104,111,100,32,97,114,101,97,59]⟩
def ex3:ByteArray:=⟨#[98,101,103,105,110,32,40,101,110,100,41]⟩
def ex4:ByteArray:=⟨#[105,102,32,40,97,41,32,98]⟩
def ex5:ByteArray:=⟨#[119,104,105,108,101,32,40,97,41,32,98,32,101,110,100]⟩
def ex6:ByteArray:=⟨#[99,108,97,115,115,32,115,108,111,116,32,120]⟩
def exW:ByteArray:=⟨#[119,104,105,108,101]⟩
theorem out1:(readOut (toksR ex1) []).2=(0,0):=by decide+kernel
theorem out2:(readOut (toksR ex2) []).2=(0,0):=by decide+kernel
theorem out3:(readOut (toksR ex3) []).2=(2,20):=by decide+kernel
theorem out4:(readOut (toksR ex4) []).2=(0,21):=by decide+kernel
theorem out5:(readOut (toksR ex5) [exW]).2=(0,0):=by decide+kernel
theorem out6:(readOut (toksR ex5) []).2=(5,20):=by decide+kernel
theorem out7:(readOut (toksR ex6) []).2=(0,0):=by decide+kernel
theorem len1:(readOut (toksR ex1) []).1.length=2:=by decide+kernel
theorem len2:(readOut (toksR ex2) []).1.length=3:=by decide+kernel
theorem len3:(readOut (toksR ex3) []).1.length=0:=by decide+kernel
theorem len4:(readOut (toksR ex4) []).1.length=0:=by decide+kernel
theorem len5:(readOut (toksR ex5) [exW]).1.length=1:=by decide+kernel
theorem len6:(readOut (toksR ex5) []).1.length=0:=by decide+kernel
theorem len7:(readOut (toksR ex6) []).1.length=3:=by decide+kernel
theorem in1:(rd_T49 (readOut (toksR ex1) []).1 1).f1=⟨#[40]⟩∧(rd_T49 (readOut (toksR ex1) []).1 1).f2.length=3∧(rd_T49 (rd_T49 (readOut (toksR ex1) []).1 1).f2 2).f1=⟨#[91]⟩∧min (toksOf 100 (readOut (toksR ex1) []).1).length 6001=8∧fragment_Depth.f 60 (readOut (toksR ex1) []).1=some 2:=by decide+kernel
theorem in2:(rd_T49 (readOut (toksR ex2) []).1 1).f1=⟨#[109,101,116,104,111,100]⟩∧(rd_T49 (readOut (toksR ex2) []).1 1).f2.length=3:=by decide+kernel
set_option maxHeartbeats 6400000 in
set_option maxRecDepth 100000 in
theorem sane_c {w:World} (hE:Lx.Env w):Calls Tryz.prog 14 #[] w fun e w'=>e=.returned (.bool true)∧Below w.heap.size w w':=by
  obtain ⟨O1,R1,N1,d1⟩:=ex_out out1 len1
  obtain ⟨O2,R2,N2,d2⟩:=ex_out out2 len2
  obtain ⟨O3,R3,N3,_⟩:=ex_out out3 len3
  obtain ⟨O4,R4,N4,_⟩:=ex_out out4 len4
  obtain ⟨O5,R5,N5,_⟩:=ex_out out5 len5
  obtain ⟨O6,R6,N6,_⟩:=ex_out out6 len6
  obtain ⟨O7,R7,N7,_⟩:=ex_out out7 len7
  have I1:=in1
  have I2:=in2
  rw [←d1] at I1
  rw [←d2] at I2
  clear d1 d2
  have HI1:=Lib.hid I1
  have HI2:=Lib.hid I2
  clear I1 I2
  have HE:=Lib.hid hE
  clear hE
  go_enter Tryz.func14,Tryz.ntmps14
  have HB:Hid (Below w.heap.size w w):=Lib.hid (Below.refl _ _)
  go_wp2_with fail
  refine (scan_ex ex1 (by decide)).mono ?_
  rintro e W1 ⟨A1,c1,rfl,C1,L1,B1⟩
  replace HB:=Lib.hid (HB.out.trans (B1.out.mono HB.out.size))
  go_wp2_with fail
  refine (read_ex 2 R1 N1 C1.out L1.out (no_words _) (Nat.le_refl _) (HE.out.below HB.out)).mono ?_
  rintro e W2 ⟨Aa,ca,rfl,Ca,La,B2⟩
  replace HB:=Lib.hid (HB.out.trans (B2.out.mono HB.out.size))
  clear C1 L1 B1 B2
  go_wp2_with fail
  refine (scan_ex ex2 (by decide)).mono ?_
  rintro e W3 ⟨A1,c1,rfl,C1,L1,B1⟩
  replace Ca:=Lib.hid (Kd.C_below Ca.out B1.out)
  replace HB:=Lib.hid (HB.out.trans (B1.out.mono HB.out.size))
  go_wp2_with fail
  refine (read_ex 3 R2 N2 C1.out L1.out (no_words _) (Nat.le_refl _) (HE.out.below HB.out)).mono ?_
  rintro e W4 ⟨Ab,cb,rfl,Cb,Lb,B2⟩
  replace Ca:=Lib.hid (Kd.C_below Ca.out B2.out)
  replace HB:=Lib.hid (HB.out.trans (B2.out.mono HB.out.size))
  clear C1 L1 B1 B2
  obtain ⟨ab,Ab6,cb6,hab,b0,b1,b2,b3,b4,b5,b6,lb6,kb⟩:=at_T49 Cb.out 1 (by decide) (by decide)
  rw [HI2.out.2] at b6
  subst hab
  simp only [show (1:Int).toNat=1 from rfl,show (2:Int).toNat=2 from rfl,Nat.reduceMul,Nat.reduceEqDiff,Go.Addr.add,↓reduceIte] at b6
  clear b0 b1 b2 b3 b4 b5 kb
  go_wp2_with fail
  refine (scan_ex ex3 (by decide)).mono ?_
  rintro e W5 ⟨A1,c1,rfl,C1,L1,B1⟩
  replace Ca:=Lib.hid (Kd.C_below Ca.out B1.out)
  replace Cb:=Lib.hid (Kd.C_below Cb.out B1.out)
  replace HB:=Lib.hid (HB.out.trans (B1.out.mono HB.out.size))
  go_wp2_with fail
  refine (read_ex 0 R3 N3 C1.out L1.out (no_words _) (Nat.le_refl _) (HE.out.below HB.out)).mono ?_
  rintro e W6 ⟨Ac,cc,rfl,Cc,Lc,B2⟩
  replace Ca:=Lib.hid (Kd.C_below Ca.out B2.out)
  replace Cb:=Lib.hid (Kd.C_below Cb.out B2.out)
  replace HB:=Lib.hid (HB.out.trans (B2.out.mono HB.out.size))
  clear C1 L1 B1 B2
  go_wp2_with fail
  refine (scan_ex ex4 (by decide)).mono ?_
  rintro e W7 ⟨A1,c1,rfl,C1,L1,B1⟩
  replace Ca:=Lib.hid (Kd.C_below Ca.out B1.out)
  replace Cb:=Lib.hid (Kd.C_below Cb.out B1.out)
  replace HB:=Lib.hid (HB.out.trans (B1.out.mono HB.out.size))
  go_wp2_with fail
  refine (read_ex 0 R4 N4 C1.out L1.out (no_words _) (Nat.le_refl _) (HE.out.below HB.out)).mono ?_
  rintro e W8 ⟨Ad,cd,rfl,Cd,Ld,B2⟩
  replace Ca:=Lib.hid (Kd.C_below Ca.out B2.out)
  replace Cb:=Lib.hid (Kd.C_below Cb.out B2.out)
  replace HB:=Lib.hid (HB.out.trans (B2.out.mono HB.out.size))
  clear C1 L1 B1 B2
  go_wp2_with fail
  refine (scan_ex ex5 (by decide)).mono ?_
  rintro e W9 ⟨A1,c1,rfl,C1,L1,B1⟩
  replace Ca:=Lib.hid (Kd.C_below Ca.out B1.out)
  replace Cb:=Lib.hid (Kd.C_below Cb.out B1.out)
  replace HB:=Lib.hid (HB.out.trans (B1.out.mono HB.out.size))
  obtain ⟨y282,hy282⟩: ∃y:List ByteArray,y=[exW]:=⟨_,rfl⟩
  have Ny282:=Aside0.mk hy282
  clear hy282
  go_wp2_with ((with_reducible refine gate_dst (N:=74) rfl ?_);refine Kd.R_lit Kd.string _ 9 ?hg (N:=74) ?hd (xs:=([(⟨#[119,104,105,108,101]⟩:ByteArray)]:List ByteArray)) (inner:=[.string (⟨#[119,104,105,108,101]⟩:ByteArray)]) (ok:=fun _=>True) (okp:=fun _=>True) ?hr ?hp (fun _ hk=>hk) trivial (Below.refl _ _) (Nat.le_refl _) (by simp) ?_;(case hd=>rfl);(case hg=>rfl);(case hr=>first|(go_simp;done)|(go_simp;rfl));(case hp=>exact (Reps.one (show Kd.M Kd.string _ _ _ (⟨#[119,104,105,108,101]⟩:ByteArray) [.string (⟨#[119,104,105,108,101]⟩:ByteArray)] from rfl) (Reps.none _ _)));intro v283 w39 ho40 hb hg_ hnew_;clear hg_ hnew_;have HWR:=Lib.hid (show Kd.R Kd.string 9 w39 _ _ v283 [exW] from ho40);have HB3:=Lib.hid hb;clear ho40 hb;obtain ⟨Aw,cw,ew⟩:=Kd.R_slice HWR.out;subst ew)
  replace C1:=Lib.hid (Kd.C_below C1.out HB3.out)
  replace Ca:=Lib.hid (Kd.C_below Ca.out HB3.out)
  replace Cb:=Lib.hid (Kd.C_below Cb.out HB3.out)
  replace HB:=Lib.hid (HB.out.trans (HB3.out.mono HB.out.size))
  have HWW:=Lib.hid (Kd.R_reads' HWR.out).2.2
  have HWL:=Lib.hid (Kd.R_reads' HWR.out).2.1
  clear HWR HB3
  refine (read_ex 1 R5 N5 C1.out L1.out HWW.out HWL.out (HE.out.below HB.out)).mono ?_
  rintro e W10 ⟨Ae,ce,rfl,Ce,Le,B2⟩
  replace Ca:=Lib.hid (Kd.C_below Ca.out B2.out)
  replace Cb:=Lib.hid (Kd.C_below Cb.out B2.out)
  replace HB:=Lib.hid (HB.out.trans (B2.out.mono HB.out.size))
  clear C1 L1 B1 B2
  go_wp2_with fail
  refine (scan_ex ex5 (by decide)).mono ?_
  rintro e W11 ⟨A1,c1,rfl,C1,L1,B1⟩
  replace Ca:=Lib.hid (Kd.C_below Ca.out B1.out)
  replace Cb:=Lib.hid (Kd.C_below Cb.out B1.out)
  replace HB:=Lib.hid (HB.out.trans (B1.out.mono HB.out.size))
  go_wp2_with fail
  refine (read_ex 0 R6 N6 C1.out L1.out (no_words _) (Nat.le_refl _) (HE.out.below HB.out)).mono ?_
  rintro e W12 ⟨Af,cf,rfl,Cf,Lf,B2⟩
  replace Ca:=Lib.hid (Kd.C_below Ca.out B2.out)
  replace Cb:=Lib.hid (Kd.C_below Cb.out B2.out)
  replace HB:=Lib.hid (HB.out.trans (B2.out.mono HB.out.size))
  clear C1 L1 B1 B2
  obtain ⟨aa,Aa6,ca6,haa,a0,a1,a2,a3,a4,a5,a6,la6,ka⟩:=at_T49 Ca.out 1 (by decide) (by decide)
  rw [HI1.out.1] at a5
  rw [HI1.out.2.1] at a6 ka
  subst haa
  obtain ⟨ak,Ak6,ck6,hak,x0,x1,x2,x3,x4,x5,x6,lk6,kk⟩:=at_T49 ka 2 (by decide) (by decide)
  rw [HI1.out.2.2.1] at x5
  subst hak
  obtain ⟨ab',Ab6',cb6',hab',b0,b1,b2,b3,b4,b5,b6',lb6',kb⟩:=at_T49 Cb.out 1 (by decide) (by decide)
  rw [HI2.out.1] at b5
  cases hab'
  simp only [show (1:Int).toNat=1 from rfl,show (2:Int).toNat=2 from rfl,Nat.reduceMul,Nat.reduceEqDiff,Go.Addr.add,↓reduceIte] at a5 a6 x5 b5
  clear a0 a1 a2 a3 a4 ka x0 x1 x2 x3 x4 x6 kk b0 b1 b2 b3 b4 b6' kb b6
  go_wp2_with fail
  clear a5 a6 x5 b5
  refine (scan_ex ex6 (by decide)).mono ?_
  rintro e W13 ⟨A1,c1,rfl,C1,L1,B1⟩
  replace Ca:=Lib.hid (Kd.C_below Ca.out B1.out)
  replace HB:=Lib.hid (HB.out.trans (B1.out.mono HB.out.size))
  go_wp2_with fail
  refine (read_ex 3 R7 N7 C1.out L1.out (no_words _) (Nat.le_refl _) (HE.out.below HB.out)).mono ?_
  rintro e W14 ⟨Ag,cg,rfl,Cg,Lg,B2⟩
  replace Ca:=Lib.hid (Kd.C_below Ca.out B2.out)
  replace HB:=Lib.hid (HB.out.trans (B2.out.mono HB.out.size))
  clear C1 L1 B1 B2
  go_wp2_with fail
  have hC1:=Ca.out
  have hL1:=La.out
  rw [←N1.out] at hC1 hL1⊢
  refine (size_c hC1).mono ?_
  rintro e W15 ⟨rfl,B3⟩
  rw [HI1.out.2.2.2.1]
  have HB3:=Lib.hid B3
  have HC2:=Lib.hid (Kd.C_below hC1 B3)
  replace HB:=Lib.hid (HB.out.trans (B3.mono HB.out.size))
  have HL1:=Lib.hid hL1
  clear B3 hC1 hL1
  go_wp2_with fail
  refine (fragment_Depth.calls 60 _ _ _ 2 _ HC2.out HL1.out HI1.out.2.2.2.2).mono ?_
  rintro e W16 ⟨rfl,B4⟩
  have HB4:=Lib.hid (HB.out.trans (B4.mono HB.out.size))
  clear B4
  go_wp2
  go_ret
  exact ⟨rfl,HB4.out⟩
end Go.Proofs.YtipnlgmeonepfaaGreatDoor.PFa
