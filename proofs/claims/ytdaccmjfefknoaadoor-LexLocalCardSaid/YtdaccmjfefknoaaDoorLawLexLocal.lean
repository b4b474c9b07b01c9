/- The row and the card of LexLocal. -/
import Derived.Test.YtdaccmjfefknoaaDoorLxRow
import Derived.Test.YtdaccmjfefknoaaDoorPLax11
import Derived.Test.YtdaccmjfefknoaaDoorPureLexLocal
import Derived.Test.YtdaccmjfefknoaaDoorCards
import Derived.Test.YtdaccmjfefknoaaDoorTie
import Derived.WalkKit
import Derived.ProofKit
import Derived.OpenShut
import Derived.ShutString
import Derived.ChangeOld
import Derived.Below
import Derived.SizedLaws
import Derived.SevenTiedAt
import Derived.Lib.SmallJoins
namespace Go.Proofs.YtdaccmjfefknoaaDoor.lexLocal
open Go.ChangeShapes Go.WideShapes Go.ChangeAt Go.RowKit
open Go.ChangeMaps (open_string shut_string)
set_option linter.unusedVariables false
theorem own : ownKnob Tryd.prog.godebug = none := by kernel_rfl
set_option maxRecDepth 100000 in
theorem lifted (os : Os) (started : os.Started) (H : Type) (enc : TypeId × Value → H) :
    ReturnsInHanded {} Tryd.checked os 6 .any (fun w args => (Rows.lexLocalSpec.pre enc Tryd.prog Tryd.f6 Rows.lexLocalRow.domain false w args ∧ laidMetH Tryd.prog Rows.lexLocalRow.laid w) ∧ sizedMet enc Tryd.prog Tryd.f6 (OpenSpec.ofChange Rows.lexLocalSpec) false w args) (Rows.lexLocalSpec.post enc Tryd.prog Tryd.f6 false true false false) := by
  refine Lx.returnsInHanded_and_shaped (C := Tryd.checked) (X := fun w _ => laidMetH Tryd.prog Rows.lexLocalRow.laid w) (fun _ _ _ hh h => h.of_heap hh) own started (by kernel_rfl) Tryd.func6
    (ChangeSpec.witness_at (enc := enc) (C := Tryd.checked) (os := os) (X := fun w _ => laidMetH Tryd.prog Rows.lexLocalRow.laid w) false (World.laidAll Tryd.prog os Lx.laidL) #[.string ByteArray.empty, .agg #[.int .i64 0, .int .i64 0, .string ByteArray.empty]] 8 (World.laidAll_os _ _ _) (by kernel_rfl) (by kernel_rfl) (by kernel_rfl) (by kernel_rfl) (by kernel_rfl) (Lx.met os _)) ?_
  intro W base args ds gs before hval0 hW hsz0 hL hsh
  have hsz : (DataW.weightsEach Tryd.prog (Tryd.f6.params.toList ++ Rows.lexLocalSpec.plain.varTypes Tryd.prog) (ds ++ gs)).all (· ≤ reachBytes) = true := hsz0
  have hval : ∀ (j : Nat) t v, Tryd.f6.params[j]? = some t → args[j]? = some v → Value.okWide Tryd.prog W .any base t v := hval0
  have hW' := hW
  obtain ⟨p, q, hA0, hV, rfl, hfz, hnd⟩ := hW
  have hA : DataW.TrodAll enc Tryd.prog W 0 (fun _ => true) true Tryd.f6.params.toList args.toList ds p := hA0
  rw [Tryd.params6] at hA hval hsz
  obtain ⟨v0, vs0, d0, ds0, p0, q0, hargs, rfl, rfl, h0, r0⟩ := trodAll_cons hA
  obtain ⟨v1, vs1, d1, ds1, p1, q1, rfl, rfl, rfl, h1, r1⟩ := trodAll_cons r0
  obtain ⟨rfl, rfl, rfl⟩ := trodAll_nil r1
  obtain rfl : args = #[v0, v1] := by cases args; simp_all
  obtain ⟨rfl, rfl⟩ := trodVars_none hV
  obtain ⟨a0, rfl, rfl, rfl, y0⟩ := open_string Tryd.underlying9 (hval 0 9 v0 rfl rfl) h0
  obtain ⟨c10, c11, c12, z10, z11, z12, m1, rfl, rfl, rfl, t10, t11, t12⟩ := Joins.open_agg3 Tryd.underlying44 (by kernel_rfl) (by kernel_rfl) (hval 1 44 v1 rfl rfl) h1
  obtain ⟨x1, e10, rfl, wx1⟩ := DataW.trod_int Tryd.underlying3 t10
  obtain ⟨u1, e11, rfl, wu1⟩ := DataW.trod_int Tryd.underlying3 t11
  obtain ⟨a1, e12, rfl, wa1⟩ := DataW.trod_string Tryd.underlying9 t12
  simp only [List.cons.injEq, and_true] at e10 e11 e12
  subst e10 e11 e12
  have w0 : a0.size ≤ 140737488351232 := by
    have z := sized_string hsz (j := 0) (t := 9) rfl rfl
    rw [Array.length_toList] at z
    exact z
  have w1 : a1.size ≤ 140737488351232 := by
    have z := List.all_eq_true.1 hsz _ (DataW.weights_mem_each (j := 1) (t := 44) rfl rfl a1.data.toList.length (by simp [DataW.weights, DataW.weightsEach, Tryd.underlying44]))
    rw [Array.length_toList] at z
    exact of_decide_eq_true z
  have hE : Lx.Env W := Lx.env_of_laid hL hsh
  clear hA0 hval0 hsz0 hsz
  obtain ⟨k, hk⟩ := Pure.LexLocal a0 x1 u1 a1 w0 w1
  refine (PLa.skerrylaw01_LexLocal.calls k a0 x1 u1 a1 true W hk hE).mono fun e W' ⟨he, bel⟩ => ?_
  subst he
  exact ⟨_, rfl, _, _, _, [], _, [], hW', trodAll_mk1 (shut_bool Tryd.underlying4 _), (trodAll_cons_mk (shut_string Tryd.underlying9 y0) (trodAll_cons_mk (Joins.shut_agg3 Tryd.underlying44 (by kernel_rfl) (by kernel_rfl) (y0 := (.lit (.int .i64 x1), [])) (y1 := (.lit (.int .i64 u1), [])) (y2 := (.lit (.string a1.data.toList), [])) (shut_int Tryd.underlying3 wx1) (shut_int Tryd.underlying3 wu1) (shut_string Tryd.underlying9 wa1)) trodAll_mk0)), rfl, bel.frame _, fun h => by cases h⟩
theorem over : Rows.lexLocalRow.holds Tryd.pinned (OpenSpec.ofChange Rows.lexLocalSpec) :=
  OpenClaim.holds_of_wide 6 Tryd.f6 rfl rfl rfl rfl rfl rfl rfl ⟨rfl, rfl, rfl, rfl, rfl⟩ rfl rfl rfl rfl rfl (by kernel_rfl) Tryd.func6 (by kernel_rfl)
    (of_decide_eq_true (by kernel_rfl)) (by unfold Func.isWrapper; first | (rw [if_pos (by decide +kernel)]; kernel_rfl) | (rw [if_neg (by decide +kernel)]; exact ⟨rfl, rfl⟩))
    (fun os started H enc _ => lifted os started H enc)
theorem proved : Rows.LexLocalSaid := over
theorem card : Rows.LexLocalCardSaid :=
  Claim7.holds_tied_plain_at .later [] [.data, .data, .data, .sentinel, .sentinel] true (true, "b2bcccaa61d0905247d502f60e37bf5704b1911ad2d887d9cf47f18844e04b30") true
    proved (fun _ h => by cases h) (by kernel_rfl) (fun _ h => by cases h) lexLocal_row_tie rfl ⟨rfl, rfl⟩ (by kernel_rfl) rfl
    (fun f fn hf hfn => by
      obtain rfl : f = 6 := Option.some.inj ((show Tryd.prog.funcNamed "skerry/skerrylaw01.LexLocal" = some 6 by kernel_rfl).symm.trans hf) |>.symm
      obtain rfl : fn = Tryd.f6 := (Option.some.inj (Tryd.func6.symm.trans hfn)).symm
      exact ⟨by kernel_rfl, fun j t ht => by
        rw [Tryd.params6] at ht
        have h3 : t = 9 ∨ t = 44 := by
          rcases j with _ | _ | j
          · simp at ht
            simp [ht]
          · simp at ht
            simp [ht]
          · simp at ht
        rcases h3 with rfl | rfl
        · exact (show Tryd.prog.wantsStandIn 9 = false by kernel_rfl)
        · exact (show Tryd.prog.wantsStandIn 44 = false by kernel_rfl)⟩)
    (by kernel_rfl)
#print axioms card
end Go.Proofs.YtdaccmjfefknoaaDoor.lexLocal
