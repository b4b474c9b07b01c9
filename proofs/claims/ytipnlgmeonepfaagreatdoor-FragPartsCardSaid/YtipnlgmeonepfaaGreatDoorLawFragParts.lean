/- The row and the card of FragParts. -/
import Derived.Test.YtipnlgmeonepfaaGreatDoorLxRow
import Derived.Test.YtipnlgmeonepfaaGreatDoorFrG
import Derived.Test.YtipnlgmeonepfaaGreatDoorCards
import Derived.Test.YtipnlgmeonepfaaGreatDoorTie
import Derived.WalkKit
import Derived.ProofKit
import Derived.OpenShut
import Derived.ShutString
import Derived.ChangeOld
import Derived.Below
import Derived.SizedLaws
import Derived.SevenTiedAt
import Derived.Test.YtipnlgmeonepfaaGreatDoorOpenFrags
import Derived.Carry
namespace Go.Proofs.YtipnlgmeonepfaaGreatDoor.fragParts
open Go.ChangeShapes Go.WideShapes Go.ChangeAt Go.RowKit
open Go.ChangeMaps (open_string shut_string)
set_option linter.unusedVariables false
theorem own:ownKnob Tryz.prog.godebug=none:=by kernel_rfl
set_option maxRecDepth 100000 in
theorem lifted (os:Os) (started:os.Started) (H:Type) (enc:TypeId×Value→H):
  ReturnsInHanded {} Tryz.checked os 8 .any (fun w args=>(Rows.fragPartsSpec.pre enc Tryz.prog Tryz.f8 Rows.fragPartsRow.domain false w args∧laidMetH Tryz.prog Rows.fragPartsRow.laid w)∧sizedMet enc Tryz.prog Tryz.f8 (OpenSpec.ofChange Rows.fragPartsSpec) false w args) (Rows.fragPartsSpec.post enc Tryz.prog Tryz.f8 false true false false):=by
 refine Lx.returnsInHanded_and_shaped (C:=Tryz.checked) (X:=fun w _=>laidMetH Tryz.prog Rows.fragPartsRow.laid w) (fun _ _ _ hh h=>h.of_heap hh) own started (by kernel_rfl) Tryz.func8
  (ChangeSpec.witness_at (enc:=enc) (C:=Tryz.checked) (os:=os) (X:=fun w _=>laidMetH Tryz.prog Rows.fragPartsRow.laid w) false (World.laidAll Tryz.prog os Lx.laidL) #[.slice none 0 0,.slice none 0 0,.slice none 0 0] 8 (World.laidAll_os _ _ _) (by kernel_rfl) (by kernel_rfl) (by kernel_rfl) (by kernel_rfl) (by kernel_rfl) (Lx.met os _)) ?_
 intro W base args ds gs before hval0 hW hsz0 hL hsh
 have hsz:(DataW.weightsEach Tryz.prog (Tryz.f8.params.toList++Rows.fragPartsSpec.plain.varTypes Tryz.prog) (ds++gs)).all (· ≤reachBytes)=true:=hsz0
 have hval: ∀(j:Nat) t v,Tryz.f8.params[j]? =some t→args[j]? =some v→Value.okWide Tryz.prog W .any base t v:=hval0
 have hW':=hW
 obtain ⟨p,q,hA0,hV,rfl,hfz,hnd⟩:=hW
 have hA:DataW.TrodAll enc Tryz.prog W 0 (fun _=>true) true Tryz.f8.params.toList args.toList ds p:=hA0
 rw [Tryz.params8] at hA hval hsz
 obtain ⟨v0,vs0,d0,ds0,p0,q0,hargs,rfl,rfl,h0,r0⟩:=trodAll_cons hA
 obtain ⟨v1,vs1,d1,ds1,p1,q1,rfl,rfl,rfl,h1,r1⟩:=trodAll_cons r0
 obtain ⟨v2,vs2,d2,ds2,p2,q2,rfl,rfl,rfl,h2,r2⟩:=trodAll_cons r1
 obtain ⟨rfl,rfl,rfl⟩:=trodAll_nil r2
 obtain rfl:args= #[v0,v1,v2]:=by cases args;simp_all
 obtain ⟨rfl,rfl⟩:=trodVars_none hV
 have hlt:=hW'.lt
 have hlt0: ∀x∈p0,x.block<W.heap.size:=fun x hx=>hlt x (by simp [hx])
 have hlt1: ∀x∈p1,x.block<W.heap.size:=fun x hx=>hlt x (by simp [hx])
 have hlt2: ∀x∈p2,x.block<W.heap.size:=fun x hx=>hlt x (by simp [hx])
 obtain ⟨A0,c0,l0,rfl,hC0,hc0,hw0⟩:=Open.open_frags (Go.WideShapes.okWide_slice Tryz.underlying25 (hval 0 25 v0 rfl rfl)) h0
 obtain ⟨A1,c1,l1,rfl,hC1,hc1,hw1⟩:=Open.open_frags (Go.WideShapes.okWide_slice Tryz.underlying25 (hval 1 25 v1 rfl rfl)) h1
 obtain ⟨A2,c2,l2,rfl,hC2,hc2,hw2⟩:=Open.open_strings (Go.WideShapes.okWide_slice Tryz.underlying23 (hval 2 23 v2 rfl rfl)) h2
 have hE:Lx.Env W:=Lx.env_of_laid hL hsh
 clear hA0 hval0 hsz0 hsz
 refine (PFa.fragParts_c hC0 hc0 hC1 hc1 hC2 hc2  hE).mono fun e W' ⟨he,bel⟩=> ?_
 subst he
 exact ⟨_,rfl,_,_,_,[],_,[],hW',trodAll_mk1 (shut_bool Tryz.underlying4 _),(trodAll_cons_mk (Below.trod (show laidOutB Tryz.prog=true by kernel_rfl) (by kernel_rfl) (of_decide_eq_true (by kernel_rfl)) h0 bel hlt0) (trodAll_cons_mk (Below.trod (show laidOutB Tryz.prog=true by kernel_rfl) (by kernel_rfl) (of_decide_eq_true (by kernel_rfl)) h1 bel hlt1) (trodAll_cons_mk (Below.trod (show laidOutB Tryz.prog=true by kernel_rfl) (by kernel_rfl) (of_decide_eq_true (by kernel_rfl)) h2 bel hlt2) trodAll_mk0))),rfl,bel.frame _,fun h=>by cases h⟩
theorem over:Rows.fragPartsRow.holds Tryz.pinned (OpenSpec.ofChange Rows.fragPartsSpec):=
 OpenClaim.holds_of_wide 8 Tryz.f8 rfl rfl rfl rfl rfl rfl rfl ⟨rfl,rfl,rfl,rfl,rfl⟩ rfl rfl rfl rfl rfl (by kernel_rfl) Tryz.func8 (by kernel_rfl)
  (of_decide_eq_true (by kernel_rfl)) (by unfold Func.isWrapper;first|(rw [if_pos (by decide+kernel)];kernel_rfl)|(rw [if_neg (by decide+kernel)];exact ⟨rfl,rfl⟩))
  (fun os started H enc _=>lifted os started H enc)
theorem proved:Rows.FragPartsSaid:=over
theorem card:Rows.FragPartsCardSaid:=
 Claim7.holds_tied_plain_at .later [] [.data,.data,.data,.sentinel,.sentinel] true (true, "c0a0b517da387174ee80b0e243ab451f7cd4a9172eb6fa8d75b9c56bc07f6b08") true
  proved (fun _ h=>by cases h) (by kernel_rfl) (fun _ h=>by cases h) fragParts_row_tie rfl ⟨rfl,rfl⟩ (by kernel_rfl) rfl
  (fun f fn hf hfn=>by
   obtain rfl:f=8:=Option.some.inj ((show Tryz.prog.funcNamed "skerry/skerrylaw02.FragParts" =some 8 by kernel_rfl).symm.trans hf)|>.symm
   obtain rfl:fn=Tryz.f8:=(Option.some.inj (Tryz.func8.symm.trans hfn)).symm
   exact ⟨by kernel_rfl,fun j t ht=>by
    rw [Tryz.params8] at ht
    have h3:t=25∨t=23:=by
     rcases j with _|_|_|j
     ·simp at ht
      simp [ht]
     ·simp at ht
      simp [ht]
     ·simp at ht
      simp [ht]
     ·simp at ht
    rcases h3 with rfl|rfl
    ·exact (show Tryz.prog.wantsStandIn 25=false by kernel_rfl)
    ·exact (show Tryz.prog.wantsStandIn 23=false by kernel_rfl)⟩)
  (by kernel_rfl)
#print axioms card
end Go.Proofs.YtipnlgmeonepfaaGreatDoor.fragParts
