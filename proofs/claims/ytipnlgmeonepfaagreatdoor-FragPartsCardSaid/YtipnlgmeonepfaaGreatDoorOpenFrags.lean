/- An argument of fragments, opened: its cells are those of a list of fragments; what it weighs bounds the lists and the texts. -/
import Derived.Test.YtipnlgmeonepfaaGreatDoorOpenTokens
set_option linter.unusedVariables false
set_option linter.unusedSimpArgs false
namespace Go.Proofs.YtipnlgmeonepfaaGreatDoor.PFa
open Go.RowKit Go.Proofs.YtipnlgmeonepfaaGreatDoorW.PrintWords Go.Proofs.YtipnlgmeonepfaaGreatDoorW.PrintLast
mutual
/-- Texts and lists are no longer than what fits into memory. -/
def szF:S49→Prop
  |⟨t,o,ks⟩=>t.f2.size≤140737488351232∧o.size≤140737488351232∧ks.length≤1599289640912∧szL ks
def szL:List S49→Prop
  |[]=>True
  |x::r=>szF x∧szL r
end
theorem szL_of: ∀l:List S49,(∀q∈l,szF q)→szL l
  |[],_=>trivial
  |x::r,h=>by
    rw [szL]
    exact ⟨h x List.mem_cons_self,szL_of r (fun q hq=>h q (List.mem_cons_of_mem _ hq))⟩
theorem k49_mkK (w:World) (x:S49) {A:Option Addr} {c:Nat} (hl:x.f2.length≤c) (h:Kd.C k49 w A x.f2.length x.f2):k49.K w x [.int .i64 x.f0.f0,.int .i64 x.f0.f1,.string x.f0.f2,.int .i64 x.f0.f3,.int .i64 x.f0.f4,.string x.f1,.slice A x.f2.length c]:=by
  obtain ⟨n,hn⟩:=Kd.fix_C_back mono49 h
  exact ⟨n+1,⟨[.int .i64 x.f0.f0,.int .i64 x.f0.f1,.string x.f0.f2,.int .i64 x.f0.f3,.int .i64 x.f0.f4],[.string x.f1,.slice A x.f2.length c],rfl,k39_mk w x.f0,⟨[.string x.f1],[.slice A x.f2.length c],rfl,rfl,⟨A,c,rfl,hl,hn⟩⟩⟩⟩
end Go.Proofs.YtipnlgmeonepfaaGreatDoor.PFa
namespace Go.Proofs.YtipnlgmeonepfaaGreatDoor.Open
open Go.ChangeShapes Go.WideShapes Go.Deep Go.RowKit Go.Proofs.YtipnlgmeonepfaaGreatDoor.PFa Go.Proofs.YtipnlgmeonepfaaGreatDoorW.PrintWords Go.Proofs.YtipnlgmeonepfaaGreatDoorW.PrintLast
set_option maxRecDepth 100000 in
theorem cells_frags:Tryz.prog.cellsOf 49=7:=by kernel_rfl
set_option maxRecDepth 100000 in
theorem cells_slice:Tryz.prog.cellsOf 25=1:=by kernel_rfl
set_option maxRecDepth 100000 in
theorem bytes_frags:Tryz.prog.bytesOf 49=88:=by kernel_rfl
set_option maxRecDepth 100000 in
theorem open_tok {H : Type} {enc : TypeId × Value → H} {W : World} {fuel : Nat} {cs : List Value} {x : DataW H × List MemPlace} (h : DataW.trod enc Tryz.prog W 0 (fun _ => true) true fuel 39 cs = some x) :
    ∃p:S39,cs=[.int .i64 p.f0,.int .i64 p.f1,.string p.f2,.int .i64 p.f3,.int .i64 p.f4]∧p.f2.size∈x.1.weights Tryz.prog 39:=by
  obtain ⟨ys,n2,_,hdi,hcl,hyl,hg⟩:=DataW.trod_struct Tryz.underlying39 h
  rw [cells_tokens] at hcl
  match cs,hcl with
  |[b0,b1,b2,b3,b4],_=>
    match ys,hyl with
    |[y0,y1,y2,y3,y4],_=>
      have hone:oneCellFields Tryz.prog _=true:=(show oneCellFields Tryz.prog (match Tryz.prog.underlying 39 with|some (.struct fs)=>fs|_=> #[])=true by kernel_rfl)
      rw [Tryz.underlying39] at hone
      obtain ⟨o0,k0⟩:=hone_of hone 0 _ rfl
      obtain ⟨o1,k1⟩:=hone_of hone 1 _ rfl
      obtain ⟨o2,k2⟩:=hone_of hone 2 _ rfl
      obtain ⟨o3,k3⟩:=hone_of hone 3 _ rfl
      obtain ⟨o4,k4⟩:=hone_of hone 4 _ rfl
      have g0:=hg 0 _ rfl
      have g1:=hg 1 _ rfl
      have g2:=hg 2 _ rfl
      have g3:=hg 3 _ rfl
      have g4:=hg 4 _ rfl
      rw [o0,k0] at g0
      rw [o1,k1] at g1
      rw [o2,k2] at g2
      rw [o3,k3] at g3
      rw [o4,k4] at g4
      simp only [List.drop_zero,List.drop_succ_cons,List.take_succ_cons,List.take_zero,List.getElem?_cons_zero,List.getElem?_cons_succ] at g0 g1 g2 g3 g4
      obtain ⟨x0,e0,_,_⟩:=DataW.trod_int Tryz.underlying3 g0
      obtain ⟨x1,e1,_,_⟩:=DataW.trod_int Tryz.underlying3 g1
      obtain ⟨x2,e2,ey2,_⟩:=DataW.trod_string Tryz.underlying9 g2
      obtain ⟨x3,e3,_,_⟩:=DataW.trod_int Tryz.underlying3 g3
      obtain ⟨x4,e4,_,_⟩:=DataW.trod_int Tryz.underlying3 g4
      simp only [List.cons.injEq,and_true] at e0 e1 e2 e3 e4
      subst e0 e1 e2 e3 e4
      refine ⟨⟨x0,x1,x2,x3,x4⟩,rfl, ?_⟩
      rw [hdi,ey2]
      simp [DataW.weights,DataW.weightsEach,Tryz.underlying39]
/-- What the data of a slice of fragments says. -/
def Sl {H:Type} (W:World) (cs:List Value) (x:DataW H×List MemPlace):Prop:=
  ∃A c l,cs=[.slice A (l:List S49).length c]∧Kd.C k49 W A l.length l∧l.length≤c∧((∀y∈x.1.weights Tryz.prog 25,y≤140737488351232)→l.length≤1599289640912∧szL l)
set_option maxRecDepth 100000 in
theorem open_frag {H : Type} {enc : TypeId × Value → H} {W : World} {fuel : Nat} {cs : List Value} {x : DataW H × List MemPlace} (h : DataW.trod enc Tryz.prog W 0 (fun _ => true) true fuel 49 cs = some x)
    (IH: ∀m cs x,m<fuel→DataW.trod enc Tryz.prog W 0 (fun _=>true) true m 25 cs=some x→Sl W cs x):
    ∃(q:S49) (A:Option Addr) (c:Nat),cs=[.int .i64 q.f0.f0,.int .i64 q.f0.f1,.string q.f0.f2,.int .i64 q.f0.f3,.int .i64 q.f0.f4,.string q.f1,.slice A q.f2.length c]∧q.f2.length≤c∧Kd.C k49 W A q.f2.length q.f2∧
      ((∀y∈x.1.weights Tryz.prog 49,y≤140737488351232)→szF q):=by
  obtain ⟨ys,n2,hfu,hdi,hcl,hyl,hg⟩:=DataW.trod_struct Tryz.underlying49 h
  rw [cells_frags] at hcl
  match cs,hcl with
  |[b0,b1,b2,b3,b4,b5,b6],_=>
    match ys,hyl with
    |[y0,y1,y2],_=>
      have g0:=hg 0 _ rfl
      have g1:=hg 1 _ rfl
      have g2:=hg 2 _ rfl
      simp only [List.getElem_toArray,List.getElem_cons_zero,List.getElem_cons_succ] at g0 g1 g2
      rw [cells_tokens] at g0
      rw [cells_string] at g1
      rw [cells_slice] at g2
      simp only [List.drop_zero,List.drop_succ_cons,List.take_succ_cons,List.take_zero,List.getElem?_cons_zero,List.getElem?_cons_succ] at g0 g1 g2
      obtain ⟨t,et,wt⟩:=open_tok g0
      obtain ⟨o,eo,eyo,_⟩:=DataW.trod_string Tryz.underlying9 g1
      obtain ⟨A,c,l,el,hC,hlc,hw⟩:=IH n2 _ _ (by omega) g2
      simp only [List.cons.injEq,and_true] at et eo el
      obtain ⟨rfl,rfl,rfl,rfl,rfl⟩:=et
      subst eo el
      refine ⟨⟨t,o,l⟩,A,c,rfl,hlc,hC,fun hx=> ?_⟩
      rw [hdi] at hx
      have hx': ∀y,y∈y0.1.weights Tryz.prog 39∨y=o.size∨y∈y2.1.weights Tryz.prog 25→y≤140737488351232:=fun y hy=>hx y (by
        rw [eyo]
        rcases hy with hy|rfl|hy
        · simp [DataW.weights,DataW.weightsEach,Tryz.underlying49,hy]
        · simp [DataW.weights,DataW.weightsEach,Tryz.underlying49,Tryz.underlying9]
        · simp [DataW.weights,DataW.weightsEach,Tryz.underlying49,hy])
      obtain ⟨h1,h2⟩:=hw (fun y hy=>hx' y (.inr (.inr hy)))
      rw [szF]
      exact ⟨hx' _ (.inl wt),hx' _ (.inr (.inl rfl)),h1,h2⟩
set_option maxRecDepth 100000 in
theorem open_sl {H:Type} {enc:TypeId×Value→H} {W:World}: ∀(fuel:Nat) (cs:List Value) (x:DataW H×List MemPlace),DataW.trod enc Tryz.prog W 0 (fun _=>true) true fuel 25 cs=some x→Sl W cs x:=by
  intro fuel
  induction fuel using Nat.strongRecOn with
  |ind fuel ih=>
    intro cs x h
    have hfu: ∀n e cs' (y:DataW H×List MemPlace),DataW.trod enc Tryz.prog W 0 (fun _=>true) true n e cs'=some y→True:=fun _ _ _ _ _=>trivial
    rcases DataW.trod_slice Tryz.underlying25 h with ⟨rfl,rfl⟩|⟨ad,len,cap,elems,rest,n,rfl,rfl,hx,hb,hl,hm,hlen,hel,_,_⟩
    · exact ⟨none,0,[],rfl,⟨rfl,by simp,fun h=>absurd h (by simp)⟩,by simp,fun _=>⟨by simp,trivial⟩⟩
    · have hmax:cap≤9223372036854775807:=hm
      have hq : ∀ i, i < len → ∃ q : S49, (∃ A c, q.f2.length ≤ c ∧ Kd.C k49 W A q.f2.length q.f2 ∧ ∀ j u, [Value.int .i64 q.f0.f0, .int .i64 q.f0.f1, .string q.f0.f2, .int .i64 q.f0.f3, .int .i64 q.f0.f4, .string q.f1, .slice A q.f2.length c][j]? = some u → W.cell? (ad.add (i * 7 + j)) = some u) ∧
          ((∀y∈((elems.map (fun e:DataW H×List MemPlace=>e.1)).getD i DataW.nil).weights Tryz.prog 49,y≤140737488351232)→szF q):=by
        intro i hil
        have he:=hel i hil
        rw [cells_frags] at he
        obtain ⟨e,hee⟩: ∃e,elems[i]? =some e:=⟨_,List.getElem?_eq_getElem (by omega)⟩
        rw [hee] at he
        obtain ⟨cs',hc,ht'⟩:=Option.bind_eq_some_iff.1 he
        obtain ⟨_,hcl,hat⟩:=World.cells?_some hc
        obtain ⟨q,A,c,rfl,hqc,hqC,hw⟩:=open_frag ht' (fun m cs x hm=>ih m (by omega) cs x)
        refine ⟨q,⟨A,c,hqc,hqC,fun j u hu=> ?_⟩, ?_⟩
        · have hj:j<7:=(List.getElem?_eq_some_iff.1 hu).1
          have:=hat j hj
          rw [Go.Deep.add_add] at this
          rw [this]
          exact hu
        · have:(elems.map (fun e:DataW H×List MemPlace=>e.1)).getD i DataW.nil=e.1:=by simp [List.getD_eq_getElem?_getD,hee]
          rw [this]
          exact hw
      have:Inhabited S49:=⟨z49⟩
      obtain ⟨F,hF⟩:=choose_lt hq
      refine ⟨some ad,cap,(List.range len).map F,by simp,⟨rfl,by simp;omega,fun _=>⟨ad,rfl,fun j p hj=> ?_⟩⟩,by simpa using hl,fun hw=> ?_⟩
      · rw [List.getElem?_map] at hj
        obtain ⟨i,hi',rfl⟩:=Option.map_eq_some_iff.1 hj
        obtain ⟨hjn,hji⟩:=List.getElem?_eq_some_iff.1 hi'
        rw [List.length_range] at hjn
        rw [List.getElem_range] at hji
        subst hji
        obtain ⟨⟨A,c,h1,h2,h3⟩,_⟩:=hF j hjn
        exact ⟨_,rfl,k49_mkK W (F j) h1 h2,h3⟩
      · have hx1:x.1=.slice (elems.map (fun e:DataW H×List MemPlace=>e.1)) (rest.map (fun e:DataW H×List MemPlace=>e.1)):=by rw [hx]
        have hw1: ∀y∈((elems.map (fun e:DataW H×List MemPlace=>e.1)).length+(rest.map (fun e:DataW H×List MemPlace=>e.1)).length)*88::(DataW.weightsAll Tryz.prog 49 (elems.map (fun e:DataW H×List MemPlace=>e.1))++DataW.weightsAll Tryz.prog 49 (rest.map (fun e:DataW H×List MemPlace=>e.1))),y≤140737488351232:=fun y hy=>hw y (by
          rw [hx1,DataW.weights]
          simp only [Tryz.underlying25,bytes_frags]
          exact hy)
        refine ⟨?_,szL_of _ (fun q hq'=> ?_)⟩
        · have:=hw1 _ List.mem_cons_self
          simp only [List.length_map,List.length_range] at this⊢
          omega
        · obtain ⟨i,hi',rfl⟩:=List.mem_map.1 hq'
          have hin:=List.mem_range.1 hi'
          refine (hF i hin).2 (fun y hy=>hw1 y (List.mem_cons_of_mem _ (List.mem_append_left _ (mem_all hy _ ?_))))
          rw [List.getD_eq_getElem?_getD,List.getElem?_eq_getElem (by simp;omega)]
          exact List.getElem_mem _
theorem open_frags {H : Type} {enc : TypeId × Value → H} {W : World} {v : Value} {d : DataW H} {ps : List MemPlace} (hv : ∃ a n c, v = .slice a n c) (h : DataW.Trod enc Tryz.prog W 0 (fun _ => true) true 25 v d ps) :
    ∃A c l,v=.slice A (l:List S49).length c∧Kd.C k49 W A l.length l∧l.length≤c∧
      ((∀x∈DataW.weights Tryz.prog 25 d,x≤140737488351232)→l.length≤1599289640912∧szL l):=by
  obtain ⟨a,n,c,rfl⟩:=hv
  obtain ⟨fuel,hf⟩:=h
  obtain ⟨A,c',l,e,h1,h2,h3⟩:=open_sl fuel _ _ hf
  have e':[Value.slice a n c]=[.slice A l.length c']:=by simpa [Value.cells] using e
  injection e' with e' _
  exact ⟨A,c',l,e',h1,h2,h3⟩
end Go.Proofs.YtipnlgmeonepfaaGreatDoor.Open
