/- An argument of tokens, opened: its cells are those of a list of tokens; what it weighs bounds the list and its texts. -/
import Derived.Test.YtipnlgmeonepfaaGreatDoorPFax0
import Derived.Deep.Slices
import Derived.Deep.Fields
import Derived.ChangeSame
import Derived.WideShapes
set_option linter.unusedVariables false
set_option linter.unusedSimpArgs false
namespace Go.Proofs.YtipnlgmeonepfaaGreatDoor.Open
open Go.ChangeShapes Go.WideShapes Go.Deep Go.RowKit Go.Proofs.YtipnlgmeonepfaaGreatDoor.PFa Go.Proofs.YtipnlgmeonepfaaGreatDoorW.PrintWords Go.Proofs.YtipnlgmeonepfaaGreatDoorW.PrintLast

set_option maxRecDepth 100000 in
theorem cells_tokens:Tryz.prog.cellsOf 39=5:=by kernel_rfl
set_option maxRecDepth 100000 in
theorem bytes_tokens:Tryz.prog.bytesOf 39=48:=by kernel_rfl
theorem mem_all {H:Type} {P:Program} {e:TypeId} {x:Nat} {d:DataW H} (hx:x∈d.weights P e): ∀l:List (DataW H),d∈l→x∈DataW.weightsAll P e l
 |[],h=>absurd h (by simp)
 |a::l,h=>by
  rw [DataW.weightsAll]
  rcases List.mem_cons.1 h with rfl|h
  ·exact List.mem_append_left _ hx
  ·exact List.mem_append_right _ (mem_all hx l h)
set_option maxRecDepth 100000 in
theorem open_tokens {H:Type} {enc:TypeId×Value→H} {W:World} {v:Value} {d:DataW H} {ps:List MemPlace} (hv: ∃a n c,v=.slice a n c) (h:DataW.Trod enc Tryz.prog W 0 (fun _=>true) true 22 v d ps):
  ∃A c l,v=.slice A (l:List S39).length c∧Kd.C k39 W A l.length l∧l.length≤c∧
   ((∀x∈DataW.weights Tryz.prog 22 d,x≤140737488351232)→l.length≤2932031007402∧ ∀t∈l,t.f2.size≤140737488351232):=by
 obtain ⟨a,n,c,rfl⟩:=hv
 obtain ⟨fuel,hf⟩:=h
 rcases open_slice Tryz.underlying22 hf with ⟨hcs,_⟩|⟨ad,len,cap,m,n',D,Pl,hcs,hb,hl,hm,hmm,hd,hi⟩
 ·obtain ⟨rfl,rfl,rfl⟩:a=none∧n=0∧c=0:=by simpa [Value.cells] using hcs
  exact ⟨none,0,[],rfl,⟨rfl,by simp,fun h=>absurd h (by simp)⟩,by simp,fun _=>⟨by simp,fun t ht=>absurd ht (by simp)⟩⟩
 ·obtain ⟨rfl,rfl,rfl⟩:a=some ad∧n=len∧c=cap:=by simpa [Value.cells] using hcs
  have hmax:c≤9223372036854775807:=hm
  have hx: ∀i,i<n→ ∃p:S39,(W.cell? (ad.add (i*5))=some (.int .i64 p.f0)∧W.cell? (ad.add (i*5+1))=some (.int .i64 p.f1)∧W.cell? (ad.add (i*5+2))=some (.string p.f2)∧W.cell? (ad.add (i*5+3))=some (.int .i64 p.f3)∧W.cell? (ad.add (i*5+4))=some (.int .i64 p.f4))∧p.f2.size∈(D i).weights Tryz.prog 39:=by
   intro i hil
   obtain ⟨cs',hc,ht'⟩:=hi i (by rw [hmm];simp;omega)
   rw [cells_tokens] at hc
   obtain ⟨ys,n2,_,hdi,_,hyl,hg⟩:=DataW.trod_struct Tryz.underlying39 ht'
   obtain ⟨_,hcl,hat⟩:=World.cells?_some hc
   match cs',hcl with
   |[b0,b1,b2,b3,b4],_=>
    match ys,hyl with
    |[y0,y1,y2,y3,y4],_=>
     have hone:oneCellFields Tryz.prog _=true:=(show oneCellFields Tryz.prog (match Tryz.prog.underlying 39 with|some (.struct fs)=>fs|_=> #[])=true by kernel_rfl)
     rw [Tryz.underlying39] at hone
     obtain ⟨o0,k0⟩:=hone_of hone 0 _ rfl
     obtain ⟨o1,k1⟩:=hone_of hone 1 _ rfl
     obtain ⟨o2,k2⟩:=hone_of hone 2 _ rfl
     obtain ⟨o3,k3⟩:=hone_of hone 3 _ rfl
     obtain ⟨o4,k4⟩:=hone_of hone 4 _ rfl
     have g0:=hg 0 _ rfl
     have g1:=hg 1 _ rfl
     have g2:=hg 2 _ rfl
     have g3:=hg 3 _ rfl
     have g4:=hg 4 _ rfl
     rw [o0,k0] at g0
     rw [o1,k1] at g1
     rw [o2,k2] at g2
     rw [o3,k3] at g3
     rw [o4,k4] at g4
     simp only [List.drop_zero,List.drop_succ_cons,List.take_succ_cons,List.take_zero,List.getElem?_cons_zero,List.getElem?_cons_succ] at g0 g1 g2 g3 g4
     obtain ⟨x0,e0,_,_⟩:=DataW.trod_int Tryz.underlying3 g0
     obtain ⟨x1,e1,_,_⟩:=DataW.trod_int Tryz.underlying3 g1
     obtain ⟨x2,e2,ey2,_⟩:=DataW.trod_string Tryz.underlying9 g2
     obtain ⟨x3,e3,_,_⟩:=DataW.trod_int Tryz.underlying3 g3
     obtain ⟨x4,e4,_,_⟩:=DataW.trod_int Tryz.underlying3 g4
     simp only [List.cons.injEq,and_true] at e0 e1 e2 e3 e4
     subst e0 e1 e2 e3 e4
     have c0:=hat 0 (by omega)
     have c1:=hat 1 (by omega)
     have c2:=hat 2 (by omega)
     have c3:=hat 3 (by omega)
     have c4:=hat 4 (by omega)
     rw [Go.Deep.add_add] at c0 c1 c2 c3 c4
     refine ⟨⟨x0,x1,x2,x3,x4⟩,⟨c0,c1,c2,c3,c4⟩, ?_⟩
     have hD:D i=.agg [y0.1,y1.1,y2.1,y3.1,y4.1]:=by
      have:=congrArg Prod.fst hdi
      simpa using this
     rw [hD,ey2]
     simp [DataW.weights,DataW.weightsEach,Tryz.underlying39]
  have:Inhabited S39:=⟨⟨0,0,⟨#[]⟩,0,0⟩⟩
  obtain ⟨F,hF⟩:=choose_lt hx
  refine ⟨some ad,c,(List.range n).map F,by simp,⟨rfl,by simp;omega,fun _=>⟨ad,rfl,fun j p hj=> ?_⟩⟩,by simpa using hl,fun hw=> ?_⟩
  ·rw [List.getElem?_map] at hj
   obtain ⟨i,hi',rfl⟩:=Option.map_eq_some_iff.1 hj
   obtain ⟨hjn,hji⟩:=List.getElem?_eq_some_iff.1 hi'
   rw [List.length_range] at hjn
   rw [List.getElem_range] at hji
   subst hji
   obtain ⟨⟨f0,f1,f2,f3,f4⟩,_⟩:=hF j hjn
   refine ⟨_,rfl,k39_mk W (F j),fun i u hu=> ?_⟩
   rcases i with _|_|_|_|_|i
   ·injection hu with hu;rw [←hu];exact f0
   ·injection hu with hu;rw [←hu];exact f1
   ·injection hu with hu;rw [←hu];exact f2
   ·injection hu with hu;rw [←hu];exact f3
   ·injection hu with hu;rw [←hu];exact f4
   ·cases hu
  ·have hd1:d=.slice ((List.range n).map D) ((List.range (m-n)).map fun j=>D (n+j)):=congrArg Prod.fst hd
   subst hd1
   have hw1: ∀x∈(((List.range n).map D).length+((List.range (m-n)).map fun j=>D (n+j)).length)*48::(DataW.weightsAll Tryz.prog 39 ((List.range n).map D)++DataW.weightsAll Tryz.prog 39 ((List.range (m-n)).map fun j=>D (n+j))),x≤140737488351232:=fun x hx=>hw x (by
    rw [DataW.weights]
    simp only [Tryz.underlying22,bytes_tokens]
    exact hx)
   refine ⟨?_,fun t ht=> ?_⟩
   ·have:=hw1 _ List.mem_cons_self
    simp only [List.length_map,List.length_range] at this⊢
    omega
   ·obtain ⟨i,hi',rfl⟩:=List.mem_map.1 ht
    have hin:=List.mem_range.1 hi'
    exact hw1 _ (List.mem_cons_of_mem _ (List.mem_append_left _ (mem_all (hF i hin).2 _ (List.mem_map.2 ⟨i,hi',rfl⟩))))
set_option maxRecDepth 100000 in
theorem cells_string:Tryz.prog.cellsOf 9=1:=by kernel_rfl
set_option maxRecDepth 100000 in
theorem bytes_string:Tryz.prog.bytesOf 9=16:=by kernel_rfl
set_option maxRecDepth 100000 in
theorem open_strings {H:Type} {enc:TypeId×Value→H} {W:World} {v:Value} {d:DataW H} {ps:List MemPlace} (hv: ∃a n c,v=.slice a n c) (h:DataW.Trod enc Tryz.prog W 0 (fun _=>true) true 23 v d ps):
  ∃A c l,v=.slice A (l:List ByteArray).length c∧Kd.C Kd.string W A l.length l∧l.length≤c∧
   ((∀x∈DataW.weights Tryz.prog 23 d,x≤140737488351232)→l.length≤8796093022208∧ ∀t∈l,t.size≤140737488351232):=by
 obtain ⟨a,n,c,rfl⟩:=hv
 obtain ⟨fuel,hf⟩:=h
 rcases open_slice Tryz.underlying23 hf with ⟨hcs,_⟩|⟨ad,len,cap,m,n',D,Pl,hcs,hb,hl,hm,hmm,hd,hi⟩
 ·obtain ⟨rfl,rfl,rfl⟩:a=none∧n=0∧c=0:=by simpa [Value.cells] using hcs
  exact ⟨none,0,[],rfl,⟨rfl,by simp,fun h=>absurd h (by simp)⟩,by simp,fun _=>⟨by simp,fun t ht=>absurd ht (by simp)⟩⟩
 ·obtain ⟨rfl,rfl,rfl⟩:a=some ad∧n=len∧c=cap:=by simpa [Value.cells] using hcs
  have hmax:c≤9223372036854775807:=hm
  have hx: ∀i,i<n→ ∃p:ByteArray,W.cell? (ad.add i)=some (.string p)∧p.size∈(D i).weights Tryz.prog 9:=by
   intro i hil
   obtain ⟨cs',hc,ht'⟩:=hi i (by rw [hmm];simp;omega)
   rw [cells_string] at hc
   obtain ⟨_,hcl,hat⟩:=World.cells?_some hc
   match cs',hcl with
   |[b0],_=>
    obtain ⟨x0,e0,ey0,_⟩:=DataW.trod_string Tryz.underlying9 ht'
    simp only [List.cons.injEq,and_true] at e0
    subst e0
    have c0:=hat 0 (by omega)
    rw [Go.Deep.add_add,Nat.mul_one,Nat.add_zero] at c0
    refine ⟨x0,c0, ?_⟩
    have hD:D i=.lit (.string x0.data.toList):=by
     have:=congrArg Prod.fst ey0
     simpa using this
    rw [hD]
    simp [DataW.weights,Tryz.underlying9]
  have:Inhabited ByteArray:=⟨⟨#[]⟩⟩
  obtain ⟨F,hF⟩:=choose_lt hx
  refine ⟨some ad,c,(List.range n).map F,by simp,⟨rfl,by simp;omega,fun _=>⟨ad,rfl,fun j p hj=> ?_⟩⟩,by simpa using hl,fun hw=> ?_⟩
  ·rw [List.getElem?_map] at hj
   obtain ⟨i,hi',rfl⟩:=Option.map_eq_some_iff.1 hj
   obtain ⟨hjn,hji⟩:=List.getElem?_eq_some_iff.1 hi'
   rw [List.length_range] at hjn
   rw [List.getElem_range] at hji
   subst hji
   refine ⟨[.string (F j)],rfl,rfl,fun i u hu=> ?_⟩
   rcases i with _|i
   ·injection hu with hu
    rw [←hu]
    show W.cell? (ad.add (j*1+0))=_
    rw [Nat.mul_one,Nat.add_zero]
    exact (hF j hjn).1
   ·cases hu
  ·have hd1:d=.slice ((List.range n).map D) ((List.range (m-n)).map fun j=>D (n+j)):=congrArg Prod.fst hd
   subst hd1
   have hw1: ∀x∈(((List.range n).map D).length+((List.range (m-n)).map fun j=>D (n+j)).length)*16::(DataW.weightsAll Tryz.prog 9 ((List.range n).map D)++DataW.weightsAll Tryz.prog 9 ((List.range (m-n)).map fun j=>D (n+j))),x≤140737488351232:=fun x hx=>hw x (by
    rw [DataW.weights]
    simp only [Tryz.underlying23,bytes_string]
    exact hx)
   refine ⟨?_,fun t ht=> ?_⟩
   ·have:=hw1 _ List.mem_cons_self
    simp only [List.length_map,List.length_range] at this⊢
    omega
   ·obtain ⟨i,hi',rfl⟩:=List.mem_map.1 ht
    have hin:=List.mem_range.1 hi'
    exact hw1 _ (List.mem_cons_of_mem _ (List.mem_append_left _ (mem_all (hF i hin).2 _ (List.mem_map.2 ⟨i,hi',rfl⟩))))
end Go.Proofs.YtipnlgmeonepfaaGreatDoor.Open
