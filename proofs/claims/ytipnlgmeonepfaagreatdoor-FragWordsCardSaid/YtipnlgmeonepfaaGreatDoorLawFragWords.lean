/- The row and the card of FragWords. -/
import Derived.Test.YtipnlgmeonepfaaGreatDoorLxRow
import Derived.Test.YtipnlgmeonepfaaGreatDoorFwWalk
import Derived.Test.YtipnlgmeonepfaaGreatDoorCards
import Derived.Test.YtipnlgmeonepfaaGreatDoorTie
import Derived.WalkKit
import Derived.ProofKit
import Derived.OpenShut
import Derived.ShutString
import Derived.ChangeOld
import Derived.Below
import Derived.SizedLaws
import Derived.SevenTiedAt
import Derived.Test.YtipnlgmeonepfaaGreatDoorOpenFrags
import Derived.Carry
namespace Go.Proofs.YtipnlgmeonepfaaGreatDoor.fragWords
open Go.ChangeShapes Go.WideShapes Go.ChangeAt Go.RowKit
open Go.ChangeMaps (open_string shut_string)
set_option linter.unusedVariables false
theorem own:ownKnob Tryz.prog.godebug=none:=by kernel_rfl
set_option maxRecDepth 100000 in
theorem lifted (os:Os) (started:os.Started) (H:Type) (enc:TypeId×Value→H):
  ReturnsInHanded {} Tryz.checked os 9 .any (fun w args=>(Rows.fragWordsSpec.pre enc Tryz.prog Tryz.f9 Rows.fragWordsRow.domain false w args∧laidMetH Tryz.prog Rows.fragWordsRow.laid w)∧sizedMet enc Tryz.prog Tryz.f9 (OpenSpec.ofChange Rows.fragWordsSpec) false w args) (Rows.fragWordsSpec.post enc Tryz.prog Tryz.f9 false true false false):=by
 refine Lx.returnsInHanded_and_shaped (C:=Tryz.checked) (X:=fun w _=>laidMetH Tryz.prog Rows.fragWordsRow.laid w) (fun _ _ _ hh h=>h.of_heap hh) own started (by kernel_rfl) Tryz.func9
  (ChangeSpec.witness_at (enc:=enc) (C:=Tryz.checked) (os:=os) (X:=fun w _=>laidMetH Tryz.prog Rows.fragWordsRow.laid w) false (World.laidAll Tryz.prog os Lx.laidL) #[.slice none 0 0,.slice none 0 0] 8 (World.laidAll_os _ _ _) (by kernel_rfl) (by kernel_rfl) (by kernel_rfl) (by kernel_rfl) (by kernel_rfl) (Lx.met os _)) ?_
 intro W base args ds gs before hval0 hW hsz0 hL hsh
 have hsz:(DataW.weightsEach Tryz.prog (Tryz.f9.params.toList++Rows.fragWordsSpec.plain.varTypes Tryz.prog) (ds++gs)).all (· ≤reachBytes)=true:=hsz0
 have hval: ∀(j:Nat) t v,Tryz.f9.params[j]? =some t→args[j]? =some v→Value.okWide Tryz.prog W .any base t v:=hval0
 have hW':=hW
 obtain ⟨p,q,hA0,hV,rfl,hfz,hnd⟩:=hW
 have hA:DataW.TrodAll enc Tryz.prog W 0 (fun _=>true) true Tryz.f9.params.toList args.toList ds p:=hA0
 rw [Tryz.params9] at hA hval hsz
 obtain ⟨v0,vs0,d0,ds0,p0,q0,hargs,rfl,rfl,h0,r0⟩:=trodAll_cons hA
 obtain ⟨v1,vs1,d1,ds1,p1,q1,rfl,rfl,rfl,h1,r1⟩:=trodAll_cons r0
 obtain ⟨rfl,rfl,rfl⟩:=trodAll_nil r1
 obtain rfl:args= #[v0,v1]:=by cases args;simp_all
 obtain ⟨rfl,rfl⟩:=trodVars_none hV
 have hlt:=hW'.lt
 have hlt0: ∀x∈p0,x.block<W.heap.size:=fun x hx=>hlt x (by simp [hx])
 have hlt1: ∀x∈p1,x.block<W.heap.size:=fun x hx=>hlt x (by simp [hx])
 obtain ⟨A0,c0,l0,rfl,hC0,hc0,hw0⟩:=Open.open_frags (Go.WideShapes.okWide_slice Tryz.underlying25 (hval 0 25 v0 rfl rfl)) h0
 obtain ⟨A1,c1,l1,rfl,hC1,hc1,hw1⟩:=Open.open_strings (Go.WideShapes.okWide_slice Tryz.underlying23 (hval 1 23 v1 rfl rfl)) h1
 have hE:Lx.Env W:=Lx.env_of_laid hL hsh
 clear hA0 hval0 hsz0 hsz
 refine (PFa.fragWords_c hC0 hc0 hC1 hc1  hE).mono fun e W' ⟨he,bel⟩=> ?_
 subst he
 exact ⟨_,rfl,_,_,_,[],_,[],hW',trodAll_mk1 (shut_bool Tryz.underlying4 _),(trodAll_cons_mk (Below.trod (show laidOutB Tryz.prog=true by kernel_rfl) (by kernel_rfl) (of_decide_eq_true (by kernel_rfl)) h0 bel hlt0) (trodAll_cons_mk (Below.trod (show laidOutB Tryz.prog=true by kernel_rfl) (by kernel_rfl) (of_decide_eq_true (by kernel_rfl)) h1 bel hlt1) trodAll_mk0)),rfl,bel.frame _,fun h=>by cases h⟩
theorem over:Rows.fragWordsRow.holds Tryz.pinned (OpenSpec.ofChange Rows.fragWordsSpec):=
 OpenClaim.holds_of_wide 9 Tryz.f9 rfl rfl rfl rfl rfl rfl rfl ⟨rfl,rfl,rfl,rfl,rfl⟩ rfl rfl rfl rfl rfl (by kernel_rfl) Tryz.func9 (by kernel_rfl)
  (of_decide_eq_true (by kernel_rfl)) (by unfold Func.isWrapper;first|(rw [if_pos (by decide+kernel)];kernel_rfl)|(rw [if_neg (by decide+kernel)];exact ⟨rfl,rfl⟩))
  (fun os started H enc _=>lifted os started H enc)
theorem proved:Rows.FragWordsSaid:=over
theorem card:Rows.FragWordsCardSaid:=
 Claim7.holds_tied_plain_at .later [] [.data,.data,.data,.sentinel,.sentinel] true (true, "c0a0b517da387174ee80b0e243ab451f7cd4a9172eb6fa8d75b9c56bc07f6b08") true
  proved (fun _ h=>by cases h) (by kernel_rfl) (fun _ h=>by cases h) fragWords_row_tie rfl ⟨rfl,rfl⟩ (by kernel_rfl) rfl
  (fun f fn hf hfn=>by
   obtain rfl:f=9:=Option.some.inj ((show Tryz.prog.funcNamed "skerry/skerrylaw02.FragWords" =some 9 by kernel_rfl).symm.trans hf)|>.symm
   obtain rfl:fn=Tryz.f9:=(Option.some.inj (Tryz.func9.symm.trans hfn)).symm
   exact ⟨by kernel_rfl,fun j t ht=>by
    rw [Tryz.params9] at ht
    have h3:t=25∨t=23:=by
     rcases j with _|_|j
     ·simp at ht
      simp [ht]
     ·simp at ht
      simp [ht]
     ·simp at ht
    rcases h3 with rfl|rfl
    ·exact (show Tryz.prog.wantsStandIn 25=false by kernel_rfl)
    ·exact (show Tryz.prog.wantsStandIn 23=false by kernel_rfl)⟩)
  (by kernel_rfl)
#print axioms card
end Go.Proofs.YtipnlgmeonepfaaGreatDoor.fragWords
