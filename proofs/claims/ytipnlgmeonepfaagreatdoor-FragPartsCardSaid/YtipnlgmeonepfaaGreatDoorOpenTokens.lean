/- An argument of tokens, opened: its cells are those of a list of tokens; what it weighs bounds the list and its texts. -/
import Derived.Test.YtipnlgmeonepfaaGreatDoorPFax0
import Derived.Deep.Slices
import Derived.Deep.Fields
import Derived.ChangeSame
import Derived.WideShapes
set_option linter.unusedVariables false
set_option linter.unusedSimpArgs false
namespace Go.Proofs.YtipnlgmeonepfaaGreatDoor.Open
open Go.ChangeShapes Go.WideShapes Go.Deep Go.RowKit Go.Proofs.YtipnlgmeonepfaaGreatDoor.PFa Go.Proofs.YtipnlgmeonepfaaGreatDoorW.PrintWords Go.Proofs.YtipnlgmeonepfaaGreatDoorW.PrintLast

set_option maxRecDepth 100000 in
theorem cells_tokens:Tryz.prog.cellsOf 39=5:=by kernel_rfl
theorem mem_all {H:Type} {P:Program} {e:TypeId} {x:Nat} {d:DataW H} (hx:x∈d.weights P e): ∀l:List (DataW H),d∈l→x∈DataW.weightsAll P e l
 |[],h=>absurd h (by simp)
 |a::l,h=>by
  rw [DataW.weightsAll]
  rcases List.mem_cons.1 h with rfl|h
  ·exact List.mem_append_left _ hx
  ·exact List.mem_append_right _ (mem_all hx l h)
set_option maxRecDepth 100000 in
theorem cells_string:Tryz.prog.cellsOf 9=1:=by kernel_rfl
set_option maxRecDepth 100000 in
theorem bytes_string:Tryz.prog.bytesOf 9=16:=by kernel_rfl
set_option maxRecDepth 100000 in
theorem open_strings {H:Type} {enc:TypeId×Value→H} {W:World} {v:Value} {d:DataW H} {ps:List MemPlace} (hv: ∃a n c,v=.slice a n c) (h:DataW.Trod enc Tryz.prog W 0 (fun _=>true) true 23 v d ps):
  ∃A c l,v=.slice A (l:List ByteArray).length c∧Kd.C Kd.string W A l.length l∧l.length≤c∧
   ((∀x∈DataW.weights Tryz.prog 23 d,x≤140737488351232)→l.length≤8796093022208∧ ∀t∈l,t.size≤140737488351232):=by
 obtain ⟨a,n,c,rfl⟩:=hv
 obtain ⟨fuel,hf⟩:=h
 rcases open_slice Tryz.underlying23 hf with ⟨hcs,_⟩|⟨ad,len,cap,m,n',D,Pl,hcs,hb,hl,hm,hmm,hd,hi⟩
 ·obtain ⟨rfl,rfl,rfl⟩:a=none∧n=0∧c=0:=by simpa [Value.cells] using hcs
  exact ⟨none,0,[],rfl,⟨rfl,by simp,fun h=>absurd h (by simp)⟩,by simp,fun _=>⟨by simp,fun t ht=>absurd ht (by simp)⟩⟩
 ·obtain ⟨rfl,rfl,rfl⟩:a=some ad∧n=len∧c=cap:=by simpa [Value.cells] using hcs
  have hmax:c≤9223372036854775807:=hm
  have hx: ∀i,i<n→ ∃p:ByteArray,W.cell? (ad.add i)=some (.string p)∧p.size∈(D i).weights Tryz.prog 9:=by
   intro i hil
   obtain ⟨cs',hc,ht'⟩:=hi i (by rw [hmm];simp;omega)
   rw [cells_string] at hc
   obtain ⟨_,hcl,hat⟩:=World.cells?_some hc
   match cs',hcl with
   |[b0],_=>
    obtain ⟨x0,e0,ey0,_⟩:=DataW.trod_string Tryz.underlying9 ht'
    simp only [List.cons.injEq,and_true] at e0
    subst e0
    have c0:=hat 0 (by omega)
    rw [Go.Deep.add_add,Nat.mul_one,Nat.add_zero] at c0
    refine ⟨x0,c0, ?_⟩
    have hD:D i=.lit (.string x0.data.toList):=by
     have:=congrArg Prod.fst ey0
     simpa using this
    rw [hD]
    simp [DataW.weights,Tryz.underlying9]
  have:Inhabited ByteArray:=⟨⟨#[]⟩⟩
  obtain ⟨F,hF⟩:=choose_lt hx
  refine ⟨some ad,c,(List.range n).map F,by simp,⟨rfl,by simp;omega,fun _=>⟨ad,rfl,fun j p hj=> ?_⟩⟩,by simpa using hl,fun hw=> ?_⟩
  ·rw [List.getElem?_map] at hj
   obtain ⟨i,hi',rfl⟩:=Option.map_eq_some_iff.1 hj
   obtain ⟨hjn,hji⟩:=List.getElem?_eq_some_iff.1 hi'
   rw [List.length_range] at hjn
   rw [List.getElem_range] at hji
   subst hji
   refine ⟨[.string (F j)],rfl,rfl,fun i u hu=> ?_⟩
   rcases i with _|i
   ·injection hu with hu
    rw [←hu]
    show W.cell? (ad.add (j*1+0))=_
    rw [Nat.mul_one,Nat.add_zero]
    exact (hF j hjn).1
   ·cases hu
  ·have hd1:d=.slice ((List.range n).map D) ((List.range (m-n)).map fun j=>D (n+j)):=congrArg Prod.fst hd
   subst hd1
   have hw1: ∀x∈(((List.range n).map D).length+((List.range (m-n)).map fun j=>D (n+j)).length)*16::(DataW.weightsAll Tryz.prog 9 ((List.range n).map D)++DataW.weightsAll Tryz.prog 9 ((List.range (m-n)).map fun j=>D (n+j))),x≤140737488351232:=fun x hx=>hw x (by
    rw [DataW.weights]
    simp only [Tryz.underlying23,bytes_string]
    exact hx)
   refine ⟨?_,fun t ht=> ?_⟩
   ·have:=hw1 _ List.mem_cons_self
    simp only [List.length_map,List.length_range] at this⊢
    omega
   ·obtain ⟨i,hi',rfl⟩:=List.mem_map.1 ht
    have hin:=List.mem_range.1 hi'
    exact hw1 _ (List.mem_cons_of_mem _ (List.mem_append_left _ (mem_all (hF i hin).2 _ (List.mem_map.2 ⟨i,hi',rfl⟩))))
end Go.Proofs.YtipnlgmeonepfaaGreatDoor.Open
