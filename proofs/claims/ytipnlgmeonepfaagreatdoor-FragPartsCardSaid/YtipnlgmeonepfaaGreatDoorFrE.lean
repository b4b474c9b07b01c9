/- isDeep, walked. -/
import Derived.Test.YtipnlgmeonepfaaGreatDoorFrD
import Derived.Test.YtipnlgmeonepfaaGreatDoorFrA
import Derived.Deep.RegionHeld3
import Derived.Test.YtipnlgmeonepfaaGreatDoorFrC
set_option linter.unusedVariables false
set_option linter.unusedSimpArgs false
namespace Go.Proofs.YtipnlgmeonepfaaGreatDoor.PFa
open Go.RowKit Go.Proofs.YtipnlgmeonepfaaGreatDoorW.PrintWords Go.Proofs.YtipnlgmeonepfaaGreatDoorW.PrintLast Go.Proofs.YtipnlgmeonepfaaGreatDoorW.PrintMore
/-- Do more than so many groups lie within each other? -/
def deepB:Nat→List Fg→Bool
 |0,l=>l.any fun x=> !x.f1.toList.isEmpty
 |d+1,l=>l.any fun x=> !x.f1.toList.isEmpty&&deepB d x.f2
def deepP (d:Nat) (x:Fg):Bool:= !x.f1.toList.isEmpty&&(match d with
 |0=>true
 |d+1=>deepB d x.f2)
theorem deepB_eq (d:Nat) (l:List Fg):deepB d l=l.any (deepP d):=by
 cases d with
 |zero=>
  unfold deepB deepP
  congr 1
  funext x
  rw [Bool.and_true]
 |succ d=>rfl
def DeepAt (d:Nat):Prop:= ∀(l:List Fg) (A:Option Addr) (c:Nat) (W:World),Kd.C k49 W A l.length l→d≤100→
 Calls Tryz.prog 52 #[.slice A l.length c,.int .i64 d] W fun e W'=>e=.returned (.bool (deepB d l))∧Below W.heap.size W W'
set_option maxHeartbeats 3200000 in
theorem deepOne_c {d:Nat} (IH: ∀d',d'+1=d→DeepAt d') (x:Fg) (A6:Option Addr) (c6 b:Nat) (W:World) (hb:W.cell? ⟨b,0,none⟩=some (.int .i64 d)) (hC:Kd.C k49 W A6 x.f2.length x.f2) (hd:d≤100):
  Calls Tryz.prog 89 #[.agg #[.int .i64 x.f0.f0,.int .i64 x.f0.f1,.string x.f0.f2,.int .i64 x.f0.f3,.int .i64 x.f0.f4,.string x.f1,.slice A6 x.f2.length c6],.pointer (some ⟨b,0,none⟩)] W fun e W'=>e=.returned (.bool (deepP d x))∧Below W.heap.size W W':=by
 have HBL:Hid (∀o,Below W.heap.size W (W.alloc o)):=Lib.hid (fun o=>below_alloc (Below.refl _ _) _)
 have hb2: ∀o,(W.alloc o).cell? ⟨b,0,none⟩=some (.int .i64 d):=al hb
 cases he:x.f1.toList.isEmpty with
 |true=>
  have e:deepP d x=false:=by unfold deepP;rw [he];rfl
  rw [e]
  clear e hC IH
  go_enter Tryz.func89,Tryz.ntmps89
  go_wp2
  go_ret
  exact ⟨rfl,HBL.out _⟩
 |false=>
  by_cases h0:d=0
  ·subst h0
   have e:deepP 0 x=true:=by unfold deepP;rw [he];rfl
   rw [e]
   clear e hC IH
   go_enter Tryz.func89,Tryz.ntmps89
   go_wp2
   go_ret
   exact ⟨rfl,HBL.out _⟩
  ·obtain ⟨d',hd'⟩: ∃d',d'+1=d:=⟨d-1,by omega⟩
   have e:deepP d x=deepB d' x.f2:=by unfold deepP;rw [he,←hd'];rfl
   have HI:=Lib.hid (fun (X:World) (hX:Below W.heap.size W X)=>IH d' hd' x.f2 A6 c6 X (Kd.C_below hC hX) (by omega))
   have z1:((d:Int)==0)=false:=by rw [beq_eq_false_iff_ne];omega
   have z2:wrap64 ((d:Int)-1)=(d':Int):=by unfold wrap64;omega
   have z3:IntKind.i64.wrap ((d:Int)-1)=(d':Int):=by rw [IntWalk.i64_in _ (by omega)];omega
   rw [e]
   clear e hC IH h0 hd'
   go_enter Tryz.func89,Tryz.ntmps89
   go_wp2_with fail
   refine (HI.out _ (HBL.out _)).mono ?_
   rintro e w2 ⟨rfl,hb2⟩
   have HB2:=Lib.hid ((HBL.out _).trans (hb2.mono (HBL.out _).size))
   clear hb2
   go_wp2
   go_ret
   exact ⟨rfl,HB2.out⟩
set_option maxHeartbeats 6400000 in
theorem indexF_c {p : Fg → Bool} {W0 : World} {b : Nat} (HP : ∀ (x : Fg) (A6 : Option Addr) (c6 : Nat) (X : World), Below W0.heap.size W0 X → Kd.C k49 X A6 x.f2.length x.f2 →
   Calls Tryz.prog 89 #[.agg #[.int .i64 x.f0.f0,.int .i64 x.f0.f1,.string x.f0.f2,.int .i64 x.f0.f3,.int .i64 x.f0.f4,.string x.f1,.slice A6 x.f2.length c6],.pointer (some ⟨b,0,none⟩)] X fun e X'=>e=.returned (.bool (p x))∧Below X.heap.size X X')
  {A:Option Addr} {c:Nat} {l:List Fg} (hC:Kd.C k49 W0 A l.length l):
  Calls Tryz.prog 112 #[.slice A l.length c,.func (.func 89) #[] #[.pointer (some ⟨b,0,none⟩)]] W0 fun e X=> ∃r:Int,e=.returned (.int .i64 r)∧decide (r≥0)=l.any p∧Below W0.heap.size W0 X:=by
 have HC:=Lib.hid hC
 have HPP:=Lib.hid HP
 have hln:=hC.2.1
 clear hC HP
 go_enter Tryz.func112,Tryz.ntmps112
 go_wp2_with fail
 go_loopg [8] (l.length+1) (fun kq v8 wr=> ∃i:Nat,v8=.int .i64 i∧i≤l.length∧l.length+1-i≤kq∧Hid ((l.take i).any p=false)∧Hid (Below W0.heap.size W0 wr))
 case atStart=>exact ⟨0,rfl,Nat.zero_le _,Nat.le_refl _,Lib.hid rfl,Lib.hid (Below.refl _ _)⟩
 case round=>
  obtain ⟨i,rfl,hil,hkq,HM,HB⟩:=hrel
  have HKQ:=Lib.hid hkq
  clear hkq
  by_cases hlt:i<l.length
  ·have x1:decide ((i:Int)<(l.length:Int))=true:=decide_eq_true (by omega)
   have x2:decide (i<l.length)=true:=decide_eq_true hlt
   have x3:(0:Int)≤(i:Int):=by omega
   have x4:(i:Int)<(l.length:Int):=by omega
   have y1:IntKind.i64.wrap ((i:Int)+1)=((i+1:Nat):Int):=by rw [IntWalk.i64_in _ (by omega)];omega
   have y2:wrap64 ((i:Int)+1)=((i+1:Nat):Int):=by unfold wrap64;omega
   obtain ⟨ad,A6,c6,had,t0,t1,t2,t3,t4,t5,t6,hle6,hC6⟩:=at_T49 (Kd.C_below HC.out HB.out) (i:Int) (by omega) (by omega)
   subst had
   have hTl:rd_T49 l (i:Int)=l[i]:=by
    unfold rd_T49
    simp [hlt]
   have HSN:Hid ((l.take (i+1)).any p=((l.take i).any p||p (rd_T49 l (i:Int)))):=Lib.hid (by
    rw [hTl,List.take_succ_eq_append_getElem hlt,List.any_append]
    simp)
   have HMem:Hid (p (rd_T49 l (i:Int))=true→l.any p=true):=Lib.hid (fun h=>List.any_eq_true.2 ⟨_,by rw [hTl];exact List.getElem_mem hlt,h⟩)
   obtain ⟨T,hT⟩: ∃T,rd_T49 l (i:Int)=T:=⟨_,rfl⟩
   rw [hT] at t0 t1 t2 t3 t4 t5 t6 hle6 hC6 HSN HMem
   simp only [Int.toNat_natCast] at t0 t1 t2 t3 t4 t5 t6
   have HCL:=Lib.hid (HPP.out T A6 c6 wr HB.out hC6)
   obtain ⟨q,hq⟩: ∃q,p T=q:=⟨_,rfl⟩
   rw [hq] at HSN HMem HCL
   clear hT hTl hC6 hle6 hq
   go_wp2_with fail
   refine HCL.out.mono ?_
   rintro e w3 ⟨rfl,hb3⟩
   have HB3:=Lib.hid (HB.out.trans (hb3.mono HB.out.size))
   clear hb3 t0 t1 t2 t3 t4 t5 t6 HCL
   cases q with
   |true=>
    go_wp2
    go_ret
    refine ⟨(i:Int),rfl, ?_,HB3.out⟩
    rw [HMem.out trivial]
    exact decide_eq_true (by omega)
   |false=>
    go_wp2
    go_roundg (gk-1)
    case measure=>have:=HKQ.out;omega
    case rel=>exact ⟨i+1,by go_num,by omega,by have:=HKQ.out;omega,Lib.hid (by rw [HSN.out,HM.out];rfl),HB3⟩
  ·have x1:decide ((i:Int)<(l.length:Int))=false:=decide_eq_false (by omega)
   have x2:decide (i<l.length)=false:=decide_eq_false hlt
   have HF:Hid (l.any p=false):=Lib.hid (by have:=HM.out;rwa [List.take_of_length_le (by omega)] at this)
   go_wp2
   go_ret
   exact ⟨-1,rfl,by rw [HF.out];rfl,HB.out⟩
theorem indexG_c {p : Fg → Bool} {W0 : World} {b : Nat} (HP : ∀ (x : Fg) (A6 : Option Addr) (c6 : Nat) (X : World), Below W0.heap.size W0 X → Kd.C k49 X A6 x.f2.length x.f2 →
   Calls Tryz.prog 89 #[.agg #[.int .i64 x.f0.f0,.int .i64 x.f0.f1,.string x.f0.f2,.int .i64 x.f0.f3,.int .i64 x.f0.f4,.string x.f1,.slice A6 x.f2.length c6],.pointer (some ⟨b,0,none⟩)] X fun e X'=>e=.returned (.bool (p x))∧Below X.heap.size X X')
  {A:Option Addr} {c:Nat} {l:List Fg} (hC:Kd.C k49 W0 A l.length l):
  Calls Tryz.prog 88 #[.slice A l.length c,.func (.func 89) #[] #[.pointer (some ⟨b,0,none⟩)]] W0 fun e X=> ∃r:Int,e=.returned (.int .i64 r)∧decide (r≥0)=l.any p∧Below W0.heap.size W0 X:=by
 have HI:=Lib.hid (indexF_c (c:=c) HP hC)
 clear HP hC
 go_enter Tryz.func88,Tryz.ntmps88
 go_wp2_with fail
 refine HI.out.mono ?_
 rintro e w2 ⟨r,rfl,hr,hb⟩
 have HR:=Lib.hid hr
 have HB:=Lib.hid hb
 clear hr hb
 go_wp2
 go_ret
 exact ⟨r,rfl,HR.out,HB.out⟩
set_option maxHeartbeats 3200000 in
theorem deep_step (d:Nat) (IH: ∀d',d'+1=d→DeepAt d'):DeepAt d:=by
 intro l A c W hC hd
 rw [deepB_eq]
 have HBL:Hid (∀o,Below W.heap.size W (W.alloc o)):=Lib.hid (fun o=>below_alloc (Below.refl _ _) _)
 have HI:Hid (Calls Tryz.prog 88 #[.slice A l.length c,.func (.func 89) #[] #[.pointer (some ⟨W.heap.size,0,none⟩)]] (W.alloc (.cells #[.int .i64 d] 3 (0,0))) fun e X=> ∃r:Int,e=.returned (.int .i64 r)∧decide (r≥0)=l.any (deepP d)∧Below (W.alloc (.cells #[.int .i64 d] 3 (0,0))).heap.size (W.alloc (.cells #[.int .i64 d] 3 (0,0))) X):=Lib.hid
  (indexG_c (b:=W.heap.size) (fun x A6 c6 X hX hC6=>deepOne_c IH x A6 c6 W.heap.size X (blk_cell (blk_below (blk_new W _) hX) 0) hC6 hd) (Kd.C_below hC (HBL.out _)))
 clear hC IH
 go_enter Tryz.func52,Tryz.ntmps52
 go_wp2_with fail
 refine HI.out.mono ?_
 rintro e w2 ⟨r,rfl,hr,hb⟩
 have HR:=Lib.hid hr
 have HB:=Lib.hid ((HBL.out _).trans (hb.mono (HBL.out _).size))
 obtain ⟨q,hq⟩: ∃q,decide (r≥0)=q:=⟨_,rfl⟩
 rw [hq] at HR
 have q1:decide ((0:Int)≤r)=q:=hq
 clear hr hb hq
 go_wp2
 go_ret
 exact ⟨by rw [←HR.out];rfl,HB.out⟩
theorem deep_c: ∀d:Nat,DeepAt d
 |0=>deep_step 0 (fun d' h=>absurd h (by omega))
 |d+1=>deep_step (d+1) (fun d' h=>Nat.succ.inj h▸deep_c d)
end Go.Proofs.YtipnlgmeonepfaaGreatDoor.PFa

set_option linter.unusedVariables false
set_option linter.unusedSimpArgs false
namespace Go.Proofs.YtipnlgmeonepfaaGreatDoor.PFa
open Go.RowKit Go.Proofs.YtipnlgmeonepfaaGreatDoorW.PrintWords Go.Proofs.YtipnlgmeonepfaaGreatDoorW.PrintLast Go.Proofs.YtipnlgmeonepfaaGreatDoorW.PrintMore
open Go.Proofs.YtipnlgmeonepfaaGreatDoor.Lx (Kp cells_new)
attribute [local go_sem] Oper.semAt_some
/-- A loop over an iterator whose variable is made anew in each round, and whose body always goes on. -/
theorem rangeFunc_fresh {F:Fence} {n:Nat} {P:Program} {α:Type} {g:Operand} {ps:Array Tmp} {assign body:Code} {Q:Exit→Act→World→Prop} {a:Act} {w:World}
  (hro:F.round=none) (h1:1≤n) {gf:Nat} {lb:Array Value} (hg:a.eval g=.func (.func gf) #[] lb) (hFg:F.fn gf) (eg: ∀args w,(callFunc gf args).run P w=.ok (.enter gf args) w)
  {encs:α→Array Value} {Kp:World→World→Prop} {S Sp:List α→Prop} {N:Nat} {w0:World} (hseq:SeqStopsK F (n-1) P gf lb encs Kp S Sp N w0)
  (hKt: ∀{A B C:World},Kp A B→Kp B C→Kp A C) (hKa: ∀(W:World) (o:Obj),w.heap.size≤W.heap.size→Kp W (W.alloc o)) (hKb: ∀(W:World) (l:Nat) (o o':Obj),w.heap.size≤l→W.heap[l]? =some o→o.isCells=false→o.isWalk=false→Kp W (W.putObj l o')) (hb0:Below w0.heap.size w0 w) (hps: ∀x,(encs x).size=ps.size)
  (I:List α→World→Prop) (hI:OwnFrom w.heap.size I) (h0:I [] w) (a₁:α→Nat→Act) (ob:α→Obj)
  (hassign: ∀(l:Nat) (x:α) (W:World),assign.wpIn (F.inRound l) (n-1-1) P (Exit.then (fun a1 w1=>a1=a₁ x W.heap.size∧w1=W.alloc (ob x)) (fun _ _ _=>False)) {tmps:=(ps.zip (encs x)).foldl (fun t (p,v)=>t.setIfInBounds p v) a.tmps,defers:=[]} W)
  (hbody: ∀(l:Nat) (pre:List α) (x:α) (W:World) (b:Nat),I pre W→pre.length<N→W.heap[b]? =some (ob x)→w.heap.size≤b→body.wpIn (F.inRound l) (n-1-1) P (fun e _ W'=>e=.normal∧KeepsFrom w.heap.size W W'∧Kp W W'∧I (pre++[x]) W') (a₁ x b) W)
  (hdone: ∀(D:Nat) (xs:List α) (W:World),w.heap.size≤D→S xs→I xs W→W.heap[D]? =some (.deferred (some []))→Q .normal {a with defers:={target:=.collected D,args:= #[]}::a.defers} W):
  (Code.rangeFunc g ps assign body).wpIn F n P Q a w:=by
 refine wpIn_rangeFunc ?_
 intro fn hfn
 rw [hro]
 obtain ⟨rec,hrec⟩: ∃rec:LoopState→Option Code→Loop,rec=fun st pe=>{state:=st,pending:=pe,fn,tmps:=a.tmps,params:=ps,assign,body,defers:=w.heap.size}:=⟨_,rfl⟩
 obtain ⟨W1,hW1⟩: ∃W1,(w.alloc (.deferred (some []))).alloc (.loop (rec .ready none))=W1:=⟨_,rfl⟩
 have hL1:W1.heap[w.heap.size+1]? =some (.loop (rec .ready none)):=by
  rw [←hW1];have:=World.alloc_heap_new (w.alloc (.deferred (some []))) (.loop (rec .ready none));rwa [World.size_alloc] at this
 have hK1:W1.heap[w.heap.size]? =some (.deferred (some [])):=by
  rw [←hW1];exact (Below.heap_alloc _ _ _ (by simp)).trans (World.alloc_heap_new w _)
 have hI1:I [] W1:=by rw [←hW1];exact hI.alloc _ (hI.alloc _ h0)
 have hb1:Below w0.heap.size w0 W1:=by
  rw [←hW1];exact hb0.trans ((((Below.refl _ w).alloc (Nat.le_refl _) _).alloc (by simp) _).mono hb0.size)
 refine ⟨w.heap.size+1,[{target:=.collected w.heap.size,args:= #[]}],W1,{target:=.fn (.func gf) lb,args:= #[.func (.yield (w.heap.size+1)) #[] #[]]},W1,gf,
  #[.func (.yield (w.heap.size+1)) #[] #[]]++lb,W1, ?_, ?_, ?_, ?_,fun _=>h1, ?_⟩
 ·rw [←hW1,hrec];exact run_enterLoop_outer _ _ _ _ _
 ·simp only [resolve,hg]
  simp [go_sem]
 ·intro f' hf';simp [Target.leads] at hf';subst hf';exact hFg
 ·simp [invoke,go_sem,eg]
 ·have hnw: ∀{A B:World} {row:Option Nat},(∀r,row=some r→W1.heap.size≤r∧ ∃o:Obj,A.heap[r]? =some o∧o.isWalk=true)→(∀r,row=some r→w.heap.size≤r∧ ∃o:Obj,A.heap[r]? =some o∧o.isCells=false):=
   fun hr r e=>by obtain ⟨hB,o,ho,hw⟩:=hr r e;exact ⟨by rw [←hW1] at hB;simp at hB;omega,o,ho,Obj.not_cells_of_walk hw⟩
  refine (hseq (w.heap.size+1)
   (fun pre W=>I pre W∧W.heap[w.heap.size+1]? =some (.loop (rec .ready none))∧W.heap[w.heap.size]? =some (.deferred (some [])))
   (fun pre W=>False)
   W1 hb1
   (fun s A B row hs hg' hr=>⟨hI s A B row hs.1 hg' (hnw (B:=B) hr),(grownBy_keeps hg' (fun r e=>(hr r e).2) hs.2.1 rfl).trans hs.2.1,(grownBy_keeps hg' (fun r e=>(hr r e).2) hs.2.2 rfl).trans hs.2.2⟩)
   (fun s A B row hs hg' hr=>hs.elim)
   ?_ ⟨hI1,hL1,hK1⟩).mono ?_
  ·rintro pre x W ⟨hi,hl,hk⟩ hlen
   have hlt:w.heap.size+1<W.heap.size:=(Array.getElem?_eq_some_iff.1 hl).1
   have hy:=run_yield (P:=P) (args:=encs x) hl (by rw [hrec];exact hps x)
   rw [hrec] at hy
   refine ⟨fn,_,assign,body,hy,roundIn_of_wpIn hfn (wpIn_mono (hassign _ x W) ?_)⟩
   rintro e a1 w1 h
   cases e with
   |normal=>
    obtain ⟨rfl,rfl⟩:=h
    have hlA:=blk_alloc hl (ob x)
    have hkA:=blk_alloc hk (ob x)
    refine ⟨_,run_beginRound hlA (by rw [hrec]), ?_⟩
    have hiA:=hI.alloc (ob x) hi
    have hnA:=blk_new W (ob x)
    have hltA:w.heap.size+1<(W.alloc (ob x)).heap.size:=by simp;omega
    obtain ⟨WA,hWA⟩: ∃X,W.alloc (ob x)=X:=⟨_,rfl⟩
    have hKA:Kp W WA:=hWA▸hKa W (ob x) (by omega)
    rw [hWA] at hlA hkA hiA hnA hltA⊢
    have hl2:(WA.putObj (w.heap.size+1) (.loop {rec .ready none with state:=.busy})).heap[w.heap.size+1]? =some (.loop {rec .ready none with state:=.busy}):=World.putObj_heap_same hltA
    have hk2:(WA.putObj (w.heap.size+1) (.loop {rec .ready none with state:=.busy})).heap[w.heap.size]? =some (.deferred (some [])):=(World.putObj_heap_other (by omega)).trans hkA
    have hn2:(WA.putObj (w.heap.size+1) (.loop {rec .ready none with state:=.busy})).heap[W.heap.size]? =some (ob x):=(World.putObj_heap_other (by omega)).trans hnA
    have hw2:Kp W (WA.putObj (w.heap.size+1) (.loop {rec .ready none with state:=.busy})):=hKt hKA (hKb _ _ _ _ (by omega) hlA rfl rfl)
    refine wpIn_mono (hbody _ pre x _ W.heap.size (hI.putObj _ hiA (by omega) hlA rfl) hlen hn2 (by omega)) ?_
    rintro e a3 W3 ⟨rfl,hk3,hkp3,hi3⟩
    have hl3:=hk3.same _ _ (by omega) hl2 rfl
    have hend:=run_endRound (P:=P) none hl3
    rw [hrec] at hend hl3
    refine ⟨_,_,hend,.inl ⟨rfl,⟨hI.putObj _ hi3 (by omega) hl3 rfl, ?_, ?_⟩, ?_⟩⟩
    ·rw [hrec]
     exact World.putObj_heap_same (Array.getElem?_eq_some_iff.1 hl3).1
    ·exact (World.putObj_heap_other (by omega)).trans (hk3.same _ _ (Nat.le_refl _) hk2 rfl)
    ·exact hKt (hKt hw2 hkp3) (hKb _ _ _ _ (by omega) hl3 rfl rfl)
   |_=>exact h.elim
  ·rintro e W2 ⟨⟨v,rfl⟩,(⟨xs,hS,hi,hl,hk⟩|⟨pre,hSp,h⟩)⟩
   ·exact ⟨none,_,by have:=run_endLoop (P:=P) hl (by rw [hrec];simp);rw [hrec] at this;exact this,hdone _ xs _ (Nat.le_refl _) hS (hI.putObj _ hi (by omega) hl rfl) ((World.putObj_heap_other (by omega)).trans hk)⟩
   ·exact h.elim
def tkCells (t:Tk):List Value:=[.int .i64 t.f0,.int .i64 t.f1,.string t.f2,.int .i64 t.f3,.int .i64 t.f4]
theorem info_tk:(Tryz.prog.info? 39).map (fun i=>(i.zero,i.size,i.bytes))=some (some (.agg #[.int .i64 0,.int .i64 0,.string ⟨#[]⟩,.int .i64 0,.int .i64 0]),5,48):=by kernel_rfl
/-- What lies in memory while tokens are collected. -/
def ColAt (w:World) (pre:List Tk) (W:World):Prop:=
 (∃v,W.heap[w.heap.size]? =some (.cells #[v] 22 (0,0))∧W.ownsRow (w.heap.size+1) 39 5 v pre.length (pre.flatMap tkCells))∧Below w.heap.size w W
theorem col_from (w:World) (B:Nat) (hB:w.heap.size≤B):OwnFrom B (ColAt w):=by
 rintro s X Y row ⟨⟨v,h1,h2⟩,h3⟩ hg hr
 refine ⟨⟨v,blk_grown h1 hg ?_,own_move h2 (fun k hk=> ?_)⟩,h3.grown hg h3.size (fun k e=>Nat.le_trans hB (hr k e).1)⟩
 ·intro e
  obtain ⟨_,o,ho,hc⟩:=hr _ e.symm
  rw [h1] at ho
  cases ho
  cases hc
 ·refine hg.block k (own_lt h2 k hk) ?_
  intro e
  obtain ⟨cs,hcs⟩:=own_typed h2 k hk
  obtain ⟨_,o,ho,hc⟩:=hr _ e.symm
  rw [hcs] at ho
  cases ho
  cases hc
set_option maxHeartbeats 6400000 in
set_option maxRecDepth 100000 in
theorem appendSeq_c {A:Option Addr} {c:Nat} {l:List Fg} {w:World} (hC:Kd.C k49 w A l.length l) (hn:(toksOf 100 l).length≤6000) {b1 b2:Nat}
  (h1:w.cell? ⟨b1,0,none⟩=some (.slice A l.length c)) (h2:w.cell? ⟨b2,0,none⟩=some (.int .i64 (100:Nat))):
  Calls Tryz.prog 90 #[.slice none 0 0,.func (.func 91) #[] #[.pointer (some ⟨b1,0,none⟩),.pointer (some ⟨b2,0,none⟩)]] w fun e W'=>
   ∃v,e=.returned v∧W'.ownsRow w.heap.size 39 5 v (toksOf 100 l).length ((toksOf 100 l).flatMap tkCells)∧Below w.heap.size w W':=by
 refine (callsIn_wide (n:=3)).1 ?_
 refine callsIn_of_wp_marks Tryz.func90 rfl trivial ?_ rfl
 simp only [Tryz.ntmps90,List.size_toArray,List.length_cons,List.length_nil,Nat.reduceAdd,Nat.reduceSub,Array.replicate_succ,Array.replicate_zero,List.push_toArray,List.append_toArray,List.nil_append,List.cons_append]
 have HC:=Lib.hid hC
 obtain ⟨i0,hi0,hz0,hz1,hz2⟩:=info_parts info_tk
 have HI0:=Lib.hid hi0
 have HZ0:=Lib.hid hz0
 have HZ1:=Lib.hid hz1
 have HZ2:=Lib.hid hz2
 clear hC hi0 hz0 hz1 hz2
 obtain ⟨L,hL⟩: ∃L,toksOf 100 l=L:=⟨_,rfl⟩
 rw [hL] at hn⊢
 have HL:=Lib.hid hL
 have HNN:=Lib.hid hn
 clear hL hn
 obtain ⟨W1,hW1⟩: ∃X,w.alloc (.cells #[.slice none 0 0] 22 (0,0))=X:=⟨_,rfl⟩
 have B1:Below w.heap.size w W1:=hW1▸below_alloc (Below.refl _ _) _
 have K1:W1.heap[w.heap.size]? =some (.cells #[.slice none 0 0] 22 (0,0)):=hW1▸blk_new w _
 have hs1:W1.heap.size=w.heap.size+1:=by rw [←hW1];simp
 have HSEQ:=Lib.hid (fun (n:Nat)=>tokens_stops (n:=n) (d:=100) (Nat.le_refl _) HC.out B1 (pw_cell_below B1 h1) (pw_cell_below B1 h2))
 rw [HL.out] at HSEQ
 have H0:Hid (ColAt w [] W1):=Lib.hid ⟨⟨_,K1,World.ownsRow_nil _ _ _ _⟩,B1⟩
 have HW1:=Lib.hid hW1
 have HS1:=Lib.hid hs1
 clear h1 h2 B1 K1 hW1 hs1
 gi_wp2_with fail
 rw [show w.alloc (Obj.cells #[Value.slice none 0 0] 22)=W1 from HW1.out]
 refine rangeFunc_fresh rfl (by omega) (gf:=91) (lb:= #[.pointer (some ⟨b1,0,none⟩),.pointer (some ⟨b2,0,none⟩)]) rfl trivial (enters_of Tryz.func91 (by kernel_rfl) rfl) (HSEQ.out _) (fun h k=>belowK_t h k) ?ka (belowK_b (by have:=HS1.out;omega)) (Below.refl _ _) (fun _=>rfl)
  (ColAt w) (col_from w _ (by rw [HS1.out];omega)) H0.out
  (fun x b=>{tmps:= #[.slice none 0 0,.func (.func 91) #[] #[.pointer (some ⟨b1,0,none⟩),.pointer (some ⟨b2,0,none⟩)],.pointer (some ⟨w.heap.size,0,none⟩),undef,.slice none 0 0,.pointer (some ⟨b,0,none⟩),.func (.func 91) #[] #[.pointer (some ⟨b1,0,none⟩),.pointer (some ⟨b2,0,none⟩)],tokV x,undef,undef,undef,undef,undef],defers:=[]})
  (fun x=> .cells (tkCells x).toArray 39 (0,0)) ?assign ?body ?done
 case ka=>
  intro W o hle
  have h1:=HS1.out
  exact (Below.refl _ W).alloc (by omega) _
 case assign=>
  intro lp x W
  unfold tokV tkCells
  gi_wp2_with fail
  exact ⟨trivial,trivial⟩
 case body=>
  rintro lp pre x W b ⟨⟨v,hv,ho⟩,hb⟩ hlt hx hle
  have hs1:=HS1.out
  have hnn:=HNN.out
  unfold tkCells at hx
  have k0:W.cell? ⟨w.heap.size,0,none⟩=some v:=blk_cell hv 0
  have p0:W.cell? ⟨b,0,none⟩=some (.int .i64 x.f0):=blk_cell hx 0
  have p1:W.cell? ⟨b,1,none⟩=some (.int .i64 x.f1):=blk_cell hx 1
  have p2:W.cell? ⟨b,2,none⟩=some (.string x.f2):=blk_cell hx 2
  have p3:W.cell? ⟨b,3,none⟩=some (.int .i64 x.f3):=blk_cell hx 3
  have p4:W.cell? ⟨b,4,none⟩=some (.int .i64 x.f4):=blk_cell hx 4
  have HV:=Lib.hid hv
  have HO:=Lib.hid ho
  have HB:=Lib.hid hb
  have HX:=Lib.hid hx
  have hlp:pre.length≤6000:=by omega
  have hwW:=hb.size
  have hW1:w.heap.size+1≤W.heap.size:=blk_lt hv
  clear hv ho hb hx
  gi_wp2_with (gi_at_builtin;refine wpListIn_append_own _ rfl _ _ 22 rfl (w.heap.size+1) 39 i0 (.agg #[.int .i64 0,.int .i64 0,.string ⟨#[]⟩,.int .i64 0,.int .i64 0]) 5 48 Tryz.underlying22 HI0.out HZ0.out HZ1.out HZ2.out rfl (by decide) _ _ _ rfl (HO.out.alloc _) ⟨W.heap.size,0,none⟩ 1 1 [.int .i64 x.f0,.int .i64 x.f1,.string x.f2,.int .i64 x.f3,.int .i64 x.f4] rfl rfl (cells_new _ _ _) (by simp [Value.oneCell']) (by simp only [maxLen];omega) (by omega) (by simp;omega) ?_;intro v' W4 hown' hgrow _;obtain ⟨g',cap',rfl⟩:=ownsRow_succ hown';have k4:=blk_grown (blk_alloc HV.out _) hgrow (fun e=>by have:=own_base HO.out _ e.symm;omega);have k5:=blk_cell k4 0;have f5:=blk_frozen k4 0;have K4:=Lib.hid k4;have HG:=Lib.hid hgrow;have HW:=Lib.hid hown';clear k4 hgrow hown')
  have hrow: ∀(j:Nat) (o:Obj),v.ownBlock=some j→(W.alloc (.cells (List.toArray [.int .i64 x.f0,.int .i64 x.f1,.string x.f2,.int .i64 x.f3,.int .i64 x.f4]) 39)).heap[j]? =some o→o.isCells=true:=fun j o e hj=>by
   obtain ⟨cs,hcs⟩:=own_typed (HO.out.alloc _) j e
   rw [hcs] at hj
   cases hj
   rfl
  have hBn:Below w.heap.size W (W4.setCell ⟨w.heap.size,0,none⟩ (.slice (some ⟨g',0,none⟩) (pre.length+1) cap')):=(((Below.refl _ W).alloc hwW _).grown HG.out (Nat.le_trans hwW (by simp)) (fun k e=>Nat.le_trans (Nat.le_succ _) (own_base HO.out k e))).setCell (Nat.le_refl _) _
  refine ⟨((((KeepsOthers.alloc W _).trans (KeepsOthers.of_grownBy HG.out hrow)).trans (KeepsOthers.setCell _ _ _)).from _),hBn,⟨⟨_,blk_put K4.out 0 _ rfl, ?_⟩,HB.out.trans hBn⟩⟩
  have hown:=own_move (w1:=W4.setCell ⟨w.heap.size,0,none⟩ (.slice (some ⟨g',0,none⟩) (pre.length+1) cap')) HW.out (fun k hk=>Below.heap_setCell _ _ _ k (by have:=own_base HW.out k hk;show k≠w.heap.size;omega))
  rw [List.length_append,List.length_singleton,List.flatMap_append]
  simpa [tkCells] using hown
 case done=>
  rintro D xs W hD rfl ⟨⟨v,hv,ho⟩,hb⟩ hK
  obtain ⟨A4,c4,rfl⟩:=own_slice ho
  have k0:W.cell? ⟨w.heap.size,0,none⟩=some (.slice A4 (xs.length) c4):=blk_cell hv 0
  have HV:=Lib.hid hv
  have HO:=Lib.hid ho
  have HB:=Lib.hid hb
  clear hv ho hb
  dsimp only
  gi_wp2_with fail
  refine ⟨by simp,.inl ⟨_,_,rfl,run_takeDeferred hK, ?_⟩⟩
  have KD:Kp (fun k=>k=D) W (W.putObj D (.deferred none)):=Kp.putObj (S:=fun k=>k=D) (Kp.refl _ _) (.inl rfl) _
  refine ⟨_,results_tmp rfl _ _ _,_,rfl, ?_,Kp.below HB.out KD (by rintro k rfl;have:=HS1.out;omega) HB.out.size⟩
  refine own_weaken (own_move HO.out (fun k hk=>KD.block k (own_lt HO.out k hk) (fun e=> ?_))) (by omega)
  obtain ⟨cs,hcs⟩:=own_typed HO.out k hk
  rw [show k=D from e,hK] at hcs
  cases hcs
theorem tk_mk (X:World) (base:Nat) (ok:Nat→Prop) (t:Tk):k39.M X base ok t (tkCells t):=k39_mkM X base ok t
theorem tks_len: ∀l:List Tk,(l.flatMap tkCells).length=l.length*5
 |[]=>rfl
 |t::r=>by
  rw [List.flatMap_cons,List.length_append,tks_len r,List.length_cons]
  show 5+r.length*5=_
  omega
theorem tks_at: ∀(l:List Tk) (j:Nat) (p:Tk),l[j]? =some p→((l.flatMap tkCells).drop (j*5)).take 5=tkCells p
 |[],j,p,h=>by simp at h
 |t::r,0,p,h=>by
  obtain rfl:t=p:=by simpa using h
  rfl
 |t::r,j+1,p,h=>by
  have e:(j+1)*5=5+j*5:=by omega
  rw [List.flatMap_cons,e,←List.drop_drop]
  exact tks_at r j p (by simpa using h)
theorem tks_R {e:Nat} {X:World} {base:Nat} {ok:Nat→Prop} {v:Value} {xs:List Tk} (ho:X.ownsRow base e 5 v xs.length (xs.flatMap tkCells)) (hok: ∀k,v.ownBlock=some k→ok k):k39.R e X base ok v xs:=
 ⟨hok,_,ho,tks_len xs,fun j p hp=>by
  rw [show k39.sz=5 from rfl,tks_at xs j p hp]
  exact tk_mk _ _ _ _⟩
theorem collect_c {A:Option Addr} {c:Nat} {l:List Fg} {w:World} (hC:Kd.C k49 w A l.length l) (hn:(toksOf 100 l).length≤6000) {b1 b2:Nat}
  (h1:w.cell? ⟨b1,0,none⟩=some (.slice A l.length c)) (h2:w.cell? ⟨b2,0,none⟩=some (.int .i64 (100:Nat))):
  Calls Tryz.prog 53 #[.func (.func 91) #[] #[.pointer (some ⟨b1,0,none⟩),.pointer (some ⟨b2,0,none⟩)]] w fun e W'=>
   ∃v,e=.returned v∧k39.R 39 W' w.heap.size (fun _=>True) v (toksOf 100 l)∧Below w.heap.size w W':=by
 have HA:=Lib.hid (appendSeq_c hC hn h1 h2)
 clear hC hn h1 h2
 go_enter Tryz.func53,Tryz.ntmps53
 go_wp2_with fail
 refine HA.out.mono ?_
 rintro e w2 ⟨v,rfl,ho,hb⟩
 have HO:=Lib.hid ho
 have HB:=Lib.hid hb
 clear ho hb
 go_wp2
 go_ret
 exact ⟨_,rfl,tks_R HO.out (fun _ _=>trivial),HB.out⟩
/-- What Flat hands back. -/
def flatOut (l:List Fg):List Tk:=if deepB 100 l=true then [] else if 6000<(toksOf 100 l).length then [] else toksOf 100 l
set_option maxHeartbeats 3200000 in
theorem flat_c {A:Option Addr} {c:Nat} {l:List Fg} {w:World} (hC:Kd.C k49 w A l.length l):
  Calls Tryz.prog 21 #[.slice A l.length c] w fun e W'=> ∃v,e=.returned v∧k39.R 39 W' w.heap.size (fun _=>True) v (flatOut l)∧Below w.heap.size w W':=by
 have HD:=Lib.hid (deep_c 100 l A c w hC (Nat.le_refl _))
 have HSZ:=Lib.hid (fun (X:World) (hX:Below w.heap.size w X)=>size_c (c:=c) (Kd.C_below hC hX))
 have HC:=Lib.hid hC
 have HV:Hid (flatOut l=if deepB 100 l=true then [] else if 6000<(toksOf 100 l).length then [] else toksOf 100 l):=Lib.hid rfl
 obtain ⟨V,hV⟩: ∃V,flatOut l=V:=⟨_,rfl⟩
 obtain ⟨b,hb⟩: ∃b,deepB 100 l=b:=⟨_,rfl⟩
 obtain ⟨n,hn⟩: ∃n,(toksOf 100 l).length=n:=⟨_,rfl⟩
 rw [hV,hb,hn] at HV
 rw [hb] at HD
 rw [hn] at HSZ
 rw [hV]
 have HN:=Lib.hid hn
 clear hV hb hn hC
 go_enter Tryz.func21,Tryz.ntmps21
 go_wp2_with fail
 refine HD.out.mono ?_
 rintro e w2 ⟨rfl,hb2⟩
 have HB2:=Lib.hid hb2
 clear hb2 HD
 cases b with
 |true=>
  go_wp2
  go_ret
  exact ⟨_,rfl,by rw [HV.out];exact Kd.R_nil _ _ _ _ _,HB2.out⟩
 |false=>
  go_wp2_with fail
  refine (HSZ.out _ HB2.out).mono ?_
  rintro e w3 ⟨rfl,hb3⟩
  have HB3:=Lib.hid (HB2.out.trans (hb3.mono HB2.out.size))
  clear hb3 HSZ
  by_cases h6:6000<n
  ·have x1:decide ((6000:Int)<((min n 6001:Nat):Int))=true:=decide_eq_true (by omega)
   go_wp2
   go_ret
   exact ⟨_,rfl,by rw [HV.out,if_neg (by decide),if_pos h6];exact Kd.R_nil _ _ _ _ _,HB3.out⟩
  ·have x1:decide ((6000:Int)<((min n 6001:Nat):Int))=false:=decide_eq_false (by omega)
   go_wp2_with fail
   refine (tokens_c 100 _).mono ?_
   rintro e w4 ⟨rfl,hw4⟩
   have hb4:Below w3.heap.size w3 w4:=by rw [hw4];repeat (first|(with_reducible exact Below.refl _ _)|(with_reducible apply below_alloc))
   have HB4:=Lib.hid (HB3.out.trans (hb4.mono HB3.out.size))
   have q1:w4.cell? ⟨w3.heap.size,0,none⟩=some (.slice A l.length c):=by rw [hw4];exact blk_cell (blk_alloc (blk_new w3 _) _) 0
   have q2:w4.cell? ⟨w3.heap.size+1,0,none⟩=some (.int .i64 (100:Nat)):=by
    rw [hw4]
    have:=blk_new (w3.alloc (.cells #[.slice A l.length c] 25)) (.cells #[.int .i64 (100:Nat)] 3 (0,0))
    rw [World.size_alloc] at this
    exact blk_cell this 0
   have HCC:=Lib.hid (collect_c (Kd.C_below HC.out HB4.out) (by have:=HN.out;omega) q1 q2)
   clear hw4 hb4 q1 q2
   go_wp2_with fail
   refine HCC.out.mono ?_
   rintro e w5 ⟨v,rfl,hr,hb5⟩
   have HR:=Lib.hid hr
   have HB5:=Lib.hid (HB4.out.trans (hb5.mono HB4.out.size))
   clear hr hb5 HCC
   go_wp2
   go_ret
   refine ⟨_,rfl, ?_,HB5.out⟩
   rw [HV.out,if_neg (by decide),if_neg h6]
   exact Kd.R_lower HR.out HB4.out.size
end Go.Proofs.YtipnlgmeonepfaaGreatDoor.PFa

set_option linter.unusedVariables false
set_option linter.unusedSimpArgs false
namespace Go.Proofs.YtipnlgmeonepfaaGreatDoor.PFa
open Go.RowKit Go.Proofs.YtipnlgmeonepfaaGreatDoorW.PrintWords Go.Proofs.YtipnlgmeonepfaaGreatDoorW.PrintLast Go.Proofs.YtipnlgmeonepfaaGreatDoorW.PrintMore
def tokAl (loose:Bool) (t u:Tk):Bool:=t.f0==u.f0&&t.f1==u.f1&&(t.f2.toList==u.f2.toList)&&(loose||(t.f3==u.f3&&t.f4==u.f4))
mutual
/-- Are fragments equal (loose: but for offsets and marks)? -/
def alF (loose:Bool):Fg→Fg→Bool
 |⟨t,o,ks⟩,y=>tokAl loose t y.f0&&(o.toList==y.f1.toList)&&alL loose ks y.f2
def alL (loose:Bool):List Fg→List Fg→Bool
 |[],ys=>ys.isEmpty
 |x::r,ys=>match ys with
  |[]=>false
  |y::s=>alF loose x y&&alL loose r s
end
mutual
/-- How many fragments there are. -/
def nodesF:Fg→Nat
 |⟨_,_,ks⟩=>nodesL ks+1
def nodesL:List Fg→Nat
 |[]=>0
 |x::r=>nodesF x+nodesL r
end
theorem nodesF_eq (x:Fg):nodesF x=nodesL x.f2+1:=by
 obtain ⟨t,o,ks⟩:=x
 rw [nodesF]
theorem nodes_get: ∀(a:List Fg) (i:Nat) (h:i<a.length),nodesL a[i].f2+1≤nodesL a
 |x::r,0,h=>by
  show nodesL x.f2+1≤nodesL (x::r)
  rw [nodesL,nodesF_eq]
  omega
 |x::r,i+1,h=>by
  have h':i<r.length:=by simpa using h
  have:=nodes_get r i h'
  show nodesL r[i].f2+1≤nodesL (x::r)
  rw [nodesL]
  omega
theorem alF_eq (loose:Bool) (x y:Fg):alF loose x y=(tokAl loose x.f0 y.f0&&(x.f1.toList==y.f1.toList)&&alL loose x.f2 y.f2):=by
 obtain ⟨t,o,ks⟩:=x
 rw [alF]
theorem alL_len {loose:Bool}: ∀(a b:List Fg),alL loose a b=true→a.length=b.length
 |[],ys,h=>by
  rw [alL] at h
  rw [List.isEmpty_iff.1 h]
 |x::r,ys,h=>by
  unfold alL at h
  cases ys with
  |nil=>cases h
  |cons y s=>
   dsimp only at h
   rw [Bool.and_eq_true] at h
   rw [List.length_cons,List.length_cons,alL_len r s h.2]
theorem alL_step {loose:Bool} {a b:List Fg} {i:Nat} (h1:i<a.length) (h2:i<b.length):alL loose (a.drop i) (b.drop i)=(alF loose a[i] b[i]&&alL loose (a.drop (i+1)) (b.drop (i+1))):=by
 rw [List.drop_eq_getElem_cons h1,List.drop_eq_getElem_cons h2]
 conv=>lhs;unfold alL
theorem fg_get (a:List Fg) (i:Nat) (h:i<a.length):rd_T49 a (i:Int)=a[i]:=by
 unfold rd_T49
 simp [h]
end Go.Proofs.YtipnlgmeonepfaaGreatDoor.PFa

set_option linter.unusedVariables false
set_option linter.unusedSimpArgs false
namespace Go.Proofs.YtipnlgmeonepfaaGreatDoor.PFa
open Go.RowKit Go.Proofs.YtipnlgmeonepfaaGreatDoorW.PrintWords Go.Proofs.YtipnlgmeonepfaaGreatDoorW.PrintLast Go.Proofs.YtipnlgmeonepfaaGreatDoorW.PrintMore
def frV (x:Fg) (v:Value):Value:=.agg #[.int .i64 x.f0.f0,.int .i64 x.f0.f1,.string x.f0.f2,.int .i64 x.f0.f3,.int .i64 x.f0.f4,.string x.f1,v]
def EqAt (n:Nat):Prop:= ∀(a b:List Fg) (A B:Option Addr) (c d:Nat) (W:World),nodesL a≤n→Kd.C k49 W A a.length a→Kd.C k49 W B b.length b→
 Calls Tryz.prog 55 #[.slice A a.length c,.slice B b.length d,.func (.func 56) #[] #[]] W fun e W'=>e=.returned (.bool (alL false a b))∧Below W.heap.size W W'
set_option maxHeartbeats 6400000 in
theorem exactOne_c {n:Nat} (IH:EqAt n) (x y:Fg) (A6 B6:Option Addr) (c6 d6:Nat) (W:World) (hn:nodesL x.f2≤n) (hA:Kd.C k49 W A6 x.f2.length x.f2) (hB:Kd.C k49 W B6 y.f2.length y.f2):
  Calls Tryz.prog 56 #[frV x (.slice A6 x.f2.length c6),frV y (.slice B6 y.f2.length d6)] W fun e W'=>e=.returned (.bool (alF false x y))∧Below W.heap.size W W':=by
 rw [alF_eq]
 unfold frV
 have HBL:Hid (∀o o',Below W.heap.size W ((W.alloc o).alloc o')):=Lib.hid (fun o o'=>below_alloc (below_alloc (Below.refl _ _) _) _)
 have HI:=Lib.hid (fun (X:World) (hX:Below W.heap.size W X)=>IH x.f2 y.f2 A6 B6 c6 d6 X hn (Kd.C_below hA hX) (Kd.C_below hB hX))
 obtain ⟨r,hr⟩: ∃r,alL false x.f2 y.f2=r:=⟨_,rfl⟩
 rw [hr] at HI⊢
 unfold tokAl
 obtain ⟨q0,h0⟩: ∃q,(x.f0.f0==y.f0.f0)=q:=⟨_,rfl⟩
 obtain ⟨q1,h1⟩: ∃q,(x.f0.f1==y.f0.f1)=q:=⟨_,rfl⟩
 obtain ⟨q2,h2⟩: ∃q,(x.f0.f2.toList==y.f0.f2.toList)=q:=⟨_,rfl⟩
 obtain ⟨q3,h3⟩: ∃q,(x.f0.f3==y.f0.f3)=q:=⟨_,rfl⟩
 obtain ⟨q4,h4⟩: ∃q,(x.f0.f4==y.f0.f4)=q:=⟨_,rfl⟩
 obtain ⟨q5,h5⟩: ∃q,(x.f1.toList==y.f1.toList)=q:=⟨_,rfl⟩
 rw [h0,h1,h2,h3,h4,h5]
 clear IH hA hB hn hr
 go_enter Tryz.func56,Tryz.ntmps56
 go_wp2_with fail
 all_goals first
  |(go_ret;exact ⟨by simp_all,HBL.out _ _⟩)
  |skip
 refine (HI.out _ (HBL.out _ _)).mono ?_
 rintro e w2 ⟨rfl,hb2⟩
 have HB2:=Lib.hid ((HBL.out _ _).trans (hb2.mono (HBL.out _ _).size))
 clear hb2
 go_wp2
 go_ret
 exact ⟨by simp_all,HB2.out⟩
set_option maxHeartbeats 6400000 in
theorem eq_step (n:Nat) (IH: ∀m,m+1=n→EqAt m):EqAt n:=by
 intro a b A B c d W hn hCa hCb
 have hla:=hCa.2.1
 obtain ⟨R,hR⟩: ∃R,alL false a b=R:=⟨_,rfl⟩
 rw [hR]
 have HR:=Lib.hid hR
 have HA:=Lib.hid hCa
 have HB:=Lib.hid hCb
 have HI:=Lib.hid IH
 have HN:=Lib.hid hn
 clear hR hCa hCb IH hn
 by_cases hl:a.length=b.length
 ·have z1:((a.length:Int) !=(b.length:Int))=false:=by rw [bne_eq_false_iff_eq];omega
  have HLL:=Lib.hid hl
  clear hl
  go_enter Tryz.func55,Tryz.ntmps55
  go_wp2_with fail
  go_loopg [17] (a.length+1) (fun kq v17 wr=> ∃i:Nat,v17=.int .i64 i∧i≤a.length∧a.length+1-i≤kq∧Hid (R=alL false (a.drop i) (b.drop i))∧Hid (Below W.heap.size W wr))
  case atStart=>exact ⟨0,rfl,Nat.zero_le _,Nat.le_refl _,Lib.hid (by rw [List.drop_zero,List.drop_zero,HR.out]),Lib.hid (Below.refl _ _)⟩
  case round=>
   obtain ⟨i,rfl,hil,hkq,HM,HBW⟩:=hrel
   have HKQ:=Lib.hid hkq
   clear hkq
   by_cases hlt:i<a.length
   ·have hltb:i<b.length:=by have:=HLL.out;omega
    have x1:decide ((i:Int)<(a.length:Int))=true:=decide_eq_true (by omega)
    have x2:decide (i<a.length)=true:=decide_eq_true hlt
    have x3:(0:Int)≤(i:Int):=by omega
    have x4:(i:Int)<(a.length:Int):=by omega
    have x5:(i:Int)<(b.length:Int):=by have:=HLL.out;omega
    have y1:IntKind.i64.wrap ((i:Int)+1)=((i+1:Nat):Int):=by rw [IntWalk.i64_in _ (by omega)];omega
    have y2:wrap64 ((i:Int)+1)=((i+1:Nat):Int):=by unfold wrap64;omega
    obtain ⟨ad,A6,c6,had,t0,t1,t2,t3,t4,t5,t6,hle6,hC6⟩:=at_T49 (Kd.C_below HA.out HBW.out) (i:Int) (by omega) (by omega)
    subst had
    obtain ⟨bd,B6,d6,hbd,u0,u1,u2,u3,u4,u5,u6,hle7,hC7⟩:=at_T49 (Kd.C_below HB.out HBW.out) (i:Int) (by omega) x5
    subst hbd
    have hT:=fg_get a i hlt
    have hU:=fg_get b i hltb
    have HST:Hid (alL false (a.drop i) (b.drop i)=(alF false (rd_T49 a (i:Int)) (rd_T49 b (i:Int))&&alL false (a.drop (i+1)) (b.drop (i+1)))):=Lib.hid (by rw [hT,hU];exact alL_step hlt hltb)
    obtain ⟨m,hm⟩: ∃m,m+1=n:=by
     have:=nodes_get a i hlt
     have:=HN.out
     exact ⟨n-1,by omega⟩
    have hnk:nodesL (rd_T49 a (i:Int)).f2≤m:=by
     rw [hT]
     have:=nodes_get a i hlt
     have:=HN.out
     omega
    obtain ⟨T,hT'⟩: ∃T,rd_T49 a (i:Int)=T:=⟨_,rfl⟩
    obtain ⟨U,hU'⟩: ∃U,rd_T49 b (i:Int)=U:=⟨_,rfl⟩
    rw [hT'] at t0 t1 t2 t3 t4 t5 t6 hle6 hC6 HST hnk
    rw [hU'] at u0 u1 u2 u3 u4 u5 u6 hle7 hC7 HST
    simp only [Int.toNat_natCast] at t0 t1 t2 t3 t4 t5 t6 u0 u1 u2 u3 u4 u5 u6
    have HX:Hid (∀o o',Below W.heap.size W ((wr.alloc o).alloc o')):=Lib.hid (fun o o'=>below_alloc (below_alloc HBW.out _) _)
    have HXr:Hid (∀o o',Below wr.heap.size wr ((wr.alloc o).alloc o')):=Lib.hid (fun o o'=>below_alloc (below_alloc (Below.refl _ _) _) _)
    have HE:=Lib.hid (fun (X:World) (hX:Below wr.heap.size wr X)=>exactOne_c (HI.out m hm) T U A6 B6 c6 d6 X hnk (Kd.C_below hC6 hX) (Kd.C_below hC7 hX))
    unfold frV at HE
    obtain ⟨q,hq⟩: ∃q,alF false T U=q:=⟨_,rfl⟩
    rw [hq] at HE HST
    have u0:=al u0
    have u1:=al u1
    have u2:=al u2
    have u3:=al u3
    have u4:=al u4
    have u5:=al u5
    have u6:=al u6
    clear hT hU hT' hU' hC6 hC7 hle6 hle7 hnk hm hq
    go_wp2_with fail
    refine (HE.out _ (HXr.out _ _)).mono ?_
    rintro e w3 ⟨rfl,hb3⟩
    have HB3:=Lib.hid ((HX.out _ _).trans (hb3.mono (HX.out _ _).size))
    clear hb3 t0 t1 t2 t3 t4 t5 t6 u0 u1 u2 u3 u4 u5 u6 HE
    cases q with
    |false=>
     go_wp2
     go_ret
     exact ⟨by rw [HM.out,HST.out];rfl,HB3.out⟩
    |true=>
     go_wp2
     go_roundg (gk-1)
     case measure=>have:=HKQ.out;omega
     case rel=>exact ⟨i+1,by go_num,by omega,by have:=HKQ.out;omega,Lib.hid (by rw [HM.out,HST.out,Bool.true_and]),HB3⟩
   ·have x1:decide ((i:Int)<(a.length:Int))=false:=decide_eq_false (by omega)
    have x2:decide (i<a.length)=false:=decide_eq_false hlt
    have HF:Hid (R=true):=Lib.hid (by rw [HM.out,List.drop_of_length_le (by omega),List.drop_of_length_le (by have:=HLL.out;omega),alL];rfl)
    go_wp2
    go_ret
    exact ⟨by rw [HF.out];rfl,HBW.out⟩
 ·have z1:((a.length:Int) !=(b.length:Int))=true:=by rw [bne_iff_ne];omega
  have HF:Hid (R=false):=Lib.hid (by
   rw [←HR.out]
   cases h:alL false a b with
   |false=>rfl
   |true=>exact absurd (alL_len a b h) hl)
  go_enter Tryz.func55,Tryz.ntmps55
  go_wp2
  go_ret
  exact ⟨by rw [HF.out];rfl,Below.refl _ _⟩
theorem equal_c: ∀n:Nat,EqAt n
 |0=>eq_step 0 (fun m h=>absurd h (by omega))
 |n+1=>eq_step (n+1) (fun m h=>Nat.succ.inj h▸equal_c n)
end Go.Proofs.YtipnlgmeonepfaaGreatDoor.PFa

set_option linter.unusedVariables false
set_option linter.unusedSimpArgs false
namespace Go.Proofs.YtipnlgmeonepfaaGreatDoor.PFa
open Go.RowKit Go.Proofs.YtipnlgmeonepfaaGreatDoorW.PrintWords Go.Proofs.YtipnlgmeonepfaaGreatDoorW.PrintLast Go.Proofs.YtipnlgmeonepfaaGreatDoorW.PrintMore
/-- What Check says. -/
def checkOut (l:List Fg) (ws:List ByteArray):Int:=
 if wordsB ws=true then
  if deepB 100 l=true then 6
  else if 6000<(toksOf 100 l).length then 2
  else if (readOut (flatOut l) ws).2.2=0 then if alL false l (readOut (flatOut l) ws).1=true then 0 else 22 else 22
 else 1
set_option maxHeartbeats 6400000 in
theorem checkF_c {A A1:Option Addr} {c c1:Nat} {l:List Fg} {ws:List ByteArray} {w:World} (hC:Kd.C k49 w A l.length l) (hc:l.length≤c) (hW:Kd.C Kd.string w A1 ws.length ws) (hcw:ws.length≤c1) (hE:Lx.Env w):
  Calls Tryz.prog 22 #[.slice A l.length c,.slice A1 ws.length c1] w fun e w'=>e=.returned (.int .i64 (checkOut l ws))∧Below w.heap.size w w':=by
 have HWC:=Lib.hid (areWords_c (c:=c1) hW hcw hE)
 have HD:=Lib.hid (fun (X:World) (hX:Below w.heap.size w X)=>deep_c 100 l A c X (Kd.C_below hC hX) (Nat.le_refl _))
 have HSZ:=Lib.hid (fun (X:World) (hX:Below w.heap.size w X)=>size_c (c:=c) (Kd.C_below hC hX))
 have HFL:=Lib.hid (fun (X:World) (hX:Below w.heap.size w X)=>flat_c (c:=c) (Kd.C_below hC hX))
 have HC:=Lib.hid hC
 have HW:=Lib.hid hW
 have HE:=Lib.hid hE
 have HV:Hid (checkOut l ws=if wordsB ws=true then
  if deepB 100 l=true then 6
  else if 6000<(toksOf 100 l).length then 2
  else if (readOut (flatOut l) ws).2.2=0 then if alL false l (readOut (flatOut l) ws).1=true then 0 else 22 else 22
 else 1):=Lib.hid rfl
 obtain ⟨V,hV⟩: ∃V,checkOut l ws=V:=⟨_,rfl⟩
 obtain ⟨bw,hbw⟩: ∃b,wordsB ws=b:=⟨_,rfl⟩
 obtain ⟨b,hb⟩: ∃b,deepB 100 l=b:=⟨_,rfl⟩
 obtain ⟨n,hn⟩: ∃n,(toksOf 100 l).length=n:=⟨_,rfl⟩
 obtain ⟨F,hF⟩: ∃F,flatOut l=F:=⟨_,rfl⟩
 obtain ⟨RO,hRO⟩: ∃RO,readOut F ws=RO:=⟨_,rfl⟩
 rw [hV,hbw,hb,hn,hF,hRO] at HV
 rw [hbw] at HWC
 rw [hb] at HD
 rw [hn] at HSZ
 rw [hF] at HFL
 rw [hV]
 have HN:=Lib.hid hn
 have HRO:=Lib.hid hRO
 clear hV hb hn hC hW hE hbw hF hRO
 go_enter Tryz.func22,Tryz.ntmps22
 go_wp2_with fail
 refine HWC.out.mono ?_
 rintro e w1 ⟨rfl,hb1⟩
 have HB1:=Lib.hid hb1
 clear hb1 HWC
 cases bw with
 |false=>
  go_wp2
  go_ret
  exact ⟨by rw [HV.out];rfl,HB1.out⟩
 |true=>
  go_wp2_with fail
  refine (HD.out _ HB1.out).mono ?_
  rintro e w2 ⟨rfl,hb2⟩
  have HB2:=Lib.hid (HB1.out.trans (hb2.mono HB1.out.size))
  clear hb2 HD
  cases b with
  |true=>
   go_wp2
   go_ret
   exact ⟨by rw [HV.out];rfl,HB2.out⟩
  |false=>
   go_wp2_with fail
   refine (HSZ.out _ HB2.out).mono ?_
   rintro e w3 ⟨rfl,hb3⟩
   have HB3:=Lib.hid (HB2.out.trans (hb3.mono HB2.out.size))
   clear hb3 HSZ
   by_cases h6:6000<n
   ·have x1:decide ((6000:Int)<((min n 6001:Nat):Int))=true:=decide_eq_true (by omega)
    go_wp2
    go_ret
    exact ⟨by rw [HV.out,if_pos trivial,if_neg (by decide),if_pos h6];rfl,HB3.out⟩
   ·have x1:decide ((6000:Int)<((min n 6001:Nat):Int))=false:=decide_eq_false (by omega)
    have HV2:Hid (V=if RO.2.2=0 then if alL false l RO.1=true then 0 else 22 else 22):=Lib.hid (by rw [HV.out,if_pos trivial,if_neg (by decide),if_neg h6])
    clear HV
    go_wp2_with fail
    refine (HFL.out _ HB3.out).mono ?_
    rintro e w4 ⟨vf,rfl,hr4,hb4⟩
    obtain ⟨Af,cf,rfl⟩:=Kd.R_slice hr4
    have HB4:=Lib.hid (HB3.out.trans (hb4.mono HB3.out.size))
    have HRD:=Lib.hid (read_walk (c0:=cf) (c1:=c1) (Kd.R_reads' hr4).2.2 (Kd.R_reads' hr4).2.1 (Kd.C_below HW.out HB4.out) hcw (HE.out.below HB4.out))
    rw [HRO.out] at HRD
    clear hr4 hb4 HFL
    obtain ⟨out,ra,re⟩:=RO
    unfold ReadGot at HRD
    dsimp only at HRD HV2
    go_wp2_with fail
    refine HRD.out.mono ?_
    rintro e w5 ⟨vo,rfl,hr5,hb5⟩
    obtain ⟨Ao,co,rfl⟩:=Kd.R_slice hr5
    have HB5:=Lib.hid (HB4.out.trans (hb5.mono HB4.out.size))
    by_cases he:re=0
    ·subst he
     have HEQ:=Lib.hid (equal_c (nodesL l) l out A Ao c co w5 (Nat.le_refl _) (Kd.C_below HC.out HB5.out) (Kd.R_reads' hr5).2.2)
     obtain ⟨q,hq⟩: ∃q,alL false l out=q:=⟨_,rfl⟩
     rw [hq] at HEQ HV2
     clear hr5 hb5 HRD hq
     go_wp2_with fail
     refine HEQ.out.mono ?_
     rintro e w6 ⟨rfl,hb6⟩
     have HB6:=Lib.hid (HB5.out.trans (hb6.mono HB5.out.size))
     clear hb6 HEQ
     cases q
     all_goals go_wp2
     all_goals go_ret
     all_goals exact ⟨by rw [HV2.out];rfl,HB6.out⟩
    ·have x2:(re !=0)=true:=bne_iff_ne.2 he
     have HV3:Hid (V=22):=Lib.hid (by rw [HV2.out,if_neg he])
     clear hr5 hb5 HRD
     go_wp2
     go_ret
     exact ⟨by rw [HV3.out];rfl,HB5.out⟩
end Go.Proofs.YtipnlgmeonepfaaGreatDoor.PFa
