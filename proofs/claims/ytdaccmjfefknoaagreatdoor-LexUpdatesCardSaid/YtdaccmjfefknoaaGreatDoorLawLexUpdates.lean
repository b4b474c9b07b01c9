/- The row and the card of LexUpdates. -/
import Derived.Test.YtdaccmjfefknoaaGreatDoorLxRow
import Derived.Test.YtdaccmjfefknoaaGreatDoorPZax10
import Derived.Test.YtdaccmjfefknoaaGreatDoorPureLexUpdates
import Derived.Test.YtdaccmjfefknoaaGreatDoorCards
import Derived.Test.YtdaccmjfefknoaaGreatDoorTie
import Derived.WalkKit
import Derived.ProofKit
import Derived.OpenShut
import Derived.ShutString
import Derived.ChangeOld
import Derived.Below
import Derived.SizedLaws
import Derived.SevenTiedAt
import Derived.Lib.SmallJoins
import Derived.Test.YtdaccmjfefknoaaGreatDoorOpenPieces
import Derived.Carry
namespace Go.Proofs.YtdaccmjfefknoaaGreatDoor.lexUpdates
open Go.ChangeShapes Go.WideShapes Go.ChangeAt Go.RowKit
open Go.ChangeMaps (open_string shut_string)
set_option linter.unusedVariables false
theorem own : ownKnob Tryz.prog.godebug = none := by kernel_rfl
set_option maxRecDepth 100000 in
theorem lifted (os : Os) (started : os.Started) (H : Type) (enc : TypeId × Value → H) :
    ReturnsInHanded {} Tryz.checked os 3 .any (fun w args => (Rows.lexUpdatesSpec.pre enc Tryz.prog Tryz.f3 Rows.lexUpdatesRow.domain false w args ∧ laidMetH Tryz.prog Rows.lexUpdatesRow.laid w) ∧ sizedMet enc Tryz.prog Tryz.f3 (OpenSpec.ofChange Rows.lexUpdatesSpec) false w args) (Rows.lexUpdatesSpec.post enc Tryz.prog Tryz.f3 false true false false) := by
  refine Lx.returnsInHanded_and_shaped (C := Tryz.checked) (X := fun w _ => laidMetH Tryz.prog Rows.lexUpdatesRow.laid w) (fun _ _ _ hh h => h.of_heap hh) own started (by kernel_rfl) Tryz.func3
    (ChangeSpec.witness_at (enc := enc) (C := Tryz.checked) (os := os) (X := fun w _ => laidMetH Tryz.prog Rows.lexUpdatesRow.laid w) false (World.laidAll Tryz.prog os Lx.laidL) #[.string ByteArray.empty, .slice none 0 0, .agg #[.int .i64 0, .int .i64 0, .string ByteArray.empty]] 8 (World.laidAll_os _ _ _) (by kernel_rfl) (by kernel_rfl) (by kernel_rfl) (by kernel_rfl) (by kernel_rfl) (Lx.met os _)) ?_
  intro W base args ds gs before hval0 hW hsz0 hL hsh
  have hsz : (DataW.weightsEach Tryz.prog (Tryz.f3.params.toList ++ Rows.lexUpdatesSpec.plain.varTypes Tryz.prog) (ds ++ gs)).all (· ≤ reachBytes) = true := hsz0
  have hval : ∀ (j : Nat) t v, Tryz.f3.params[j]? = some t → args[j]? = some v → Value.okWide Tryz.prog W .any base t v := hval0
  have hW' := hW
  obtain ⟨p, q, hA0, hV, rfl, hfz, hnd⟩ := hW
  have hA : DataW.TrodAll enc Tryz.prog W 0 (fun _ => true) true Tryz.f3.params.toList args.toList ds p := hA0
  rw [Tryz.params3] at hA hval hsz
  obtain ⟨v0, vs0, d0, ds0, p0, q0, hargs, rfl, rfl, h0, r0⟩ := trodAll_cons hA
  obtain ⟨v1, vs1, d1, ds1, p1, q1, rfl, rfl, rfl, h1, r1⟩ := trodAll_cons r0
  obtain ⟨v2, vs2, d2, ds2, p2, q2, rfl, rfl, rfl, h2, r2⟩ := trodAll_cons r1
  obtain ⟨rfl, rfl, rfl⟩ := trodAll_nil r2
  obtain rfl : args = #[v0, v1, v2] := by cases args; simp_all
  obtain ⟨rfl, rfl⟩ := trodVars_none hV
  have hlt := hW'.lt
  have hlt1 : ∀ x ∈ p1, x.block < W.heap.size := fun x hx => hlt x (by simp [hx])
  obtain ⟨a0, rfl, rfl, rfl, y0⟩ := open_string Tryz.underlying9 (hval 0 9 v0 rfl rfl) h0
  obtain ⟨A1, c1, l1, rfl, hC1, hc1⟩ := Open.open_pieces (Go.WideShapes.okWide_slice Tryz.underlying22 (hval 1 22 v1 rfl rfl)) h1
  obtain ⟨c20, c21, c22, z20, z21, z22, m2, rfl, rfl, rfl, t20, t21, t22⟩ := Joins.open_agg3 Tryz.underlying24 (by kernel_rfl) (by kernel_rfl) (hval 2 24 v2 rfl rfl) h2
  obtain ⟨x2, e20, rfl, wx2⟩ := DataW.trod_int Tryz.underlying3 t20
  obtain ⟨u2, e21, rfl, wu2⟩ := DataW.trod_int Tryz.underlying3 t21
  obtain ⟨a2, e22, rfl, wa2⟩ := DataW.trod_string Tryz.underlying9 t22
  simp only [List.cons.injEq, and_true] at e20 e21 e22
  subst e20 e21 e22
  have w0 : a0.size ≤ 140737488351232 := by
    have z := sized_string hsz (j := 0) (t := 9) rfl rfl
    rw [Array.length_toList] at z
    exact z
  have w2 : a2.size ≤ 140737488351232 := by
    have z := List.all_eq_true.1 hsz _ (DataW.weights_mem_each (j := 2) (t := 24) rfl rfl a2.data.toList.length (by simp [DataW.weights, DataW.weightsEach, Tryz.underlying24]))
    rw [Array.length_toList] at z
    exact of_decide_eq_true z
  have hE : Lx.Env W := Lx.env_of_laid hL hsh
  clear hA0 hval0 hsz0 hsz
  obtain ⟨k, hk⟩ := Pure.LexUpdates a0 l1 x2 u2 a2 w0 w2
  refine (PZa.skerrylaw01_LexUpdates.calls k a0 A1 c1 l1 x2 u2 a2 true W hC1 hc1 hk hE).mono fun e W' ⟨he, bel⟩ => ?_
  subst he
  exact ⟨_, rfl, _, _, _, [], _, [], hW', trodAll_mk1 (shut_bool Tryz.underlying4 _), (trodAll_cons_mk (shut_string Tryz.underlying9 y0) (trodAll_cons_mk (Below.trod (show laidOutB Tryz.prog = true by kernel_rfl) (by kernel_rfl) (of_decide_eq_true (by kernel_rfl)) h1 bel hlt1) (trodAll_cons_mk (Joins.shut_agg3 Tryz.underlying24 (by kernel_rfl) (by kernel_rfl) (y0 := (.lit (.int .i64 x2), [])) (y1 := (.lit (.int .i64 u2), [])) (y2 := (.lit (.string a2.data.toList), [])) (shut_int Tryz.underlying3 wx2) (shut_int Tryz.underlying3 wu2) (shut_string Tryz.underlying9 wa2)) trodAll_mk0))), rfl, bel.frame _, fun h => by cases h⟩
theorem over : Rows.lexUpdatesRow.holds Tryz.pinned (OpenSpec.ofChange Rows.lexUpdatesSpec) :=
  OpenClaim.holds_of_wide 3 Tryz.f3 rfl rfl rfl rfl rfl rfl rfl ⟨rfl, rfl, rfl, rfl, rfl⟩ rfl rfl rfl rfl rfl (by kernel_rfl) Tryz.func3 (by kernel_rfl)
    (of_decide_eq_true (by kernel_rfl)) (by unfold Func.isWrapper; first | (rw [if_pos (by decide +kernel)]; kernel_rfl) | (rw [if_neg (by decide +kernel)]; exact ⟨rfl, rfl⟩))
    (fun os started H enc _ => lifted os started H enc)
theorem proved : Rows.LexUpdatesSaid := over
theorem card : Rows.LexUpdatesCardSaid :=
  Claim7.holds_tied_plain_at .later [] [.data, .data, .data, .sentinel, .sentinel] true (true, "92981c10af6726cd1252a5f6097727e8a035bfa0b37b4044041b1e979ced2b1f") true
    proved (fun _ h => by cases h) (by kernel_rfl) (fun _ h => by cases h) lexUpdates_row_tie rfl ⟨rfl, rfl⟩ (by kernel_rfl) rfl
    (fun f fn hf hfn => by
      obtain rfl : f = 3 := Option.some.inj ((show Tryz.prog.funcNamed "skerry/skerrylaw01.LexUpdates" = some 3 by kernel_rfl).symm.trans hf) |>.symm
      obtain rfl : fn = Tryz.f3 := (Option.some.inj (Tryz.func3.symm.trans hfn)).symm
      exact ⟨by kernel_rfl, fun j t ht => by
        rw [Tryz.params3] at ht
        have h3 : t = 9 ∨ t = 22 ∨ t = 24 := by
          rcases j with _ | _ | _ | j
          · simp at ht
            simp [ht]
          · simp at ht
            simp [ht]
          · simp at ht
            simp [ht]
          · simp at ht
        rcases h3 with rfl | rfl | rfl
        · exact (show Tryz.prog.wantsStandIn 9 = false by kernel_rfl)
        · exact (show Tryz.prog.wantsStandIn 22 = false by kernel_rfl)
        · exact (show Tryz.prog.wantsStandIn 24 = false by kernel_rfl)⟩)
    (by kernel_rfl)
#print axioms card
end Go.Proofs.YtdaccmjfefknoaaGreatDoor.lexUpdates
