/- An argument of pieces, opened: its cells are those of a list of pieces. -/
import Derived.Test.YtdaccmjfefknoaaGreatDoorPZax0
import Derived.Deep.Slices
import Derived.Deep.Fields
import Derived.ChangeSame
import Derived.WideShapes
set_option linter.unusedVariables false
set_option linter.unusedSimpArgs false
namespace Go.Proofs.YtdaccmjfefknoaaGreatDoor.Open
open Go.ChangeShapes Go.WideShapes Go.Deep Go.RowKit Go.Proofs.YtdaccmjfefknoaaGreatDoor.PZa Go.Proofs.YtdaccmjfefknoaaGreatDoorW.PrintWords Go.Proofs.YtdaccmjfefknoaaGreatDoorW.PrintLast

set_option maxRecDepth 100000 in
theorem cells_pieces : Tryz.prog.cellsOf 50 = 3 := by kernel_rfl
set_option maxRecDepth 100000 in
theorem open_pieces {H : Type} {enc : TypeId × Value → H} {W : World} {v : Value} {d : DataW H} {ps : List MemPlace} (hv : ∃ a n c, v = .slice a n c) (h : DataW.Trod enc Tryz.prog W 0 (fun _ => true) true 22 v d ps) :
    ∃ A c l, v = .slice A (l : List S50).length c ∧ Kd.C k50 W A l.length l ∧ l.length ≤ c := by
  obtain ⟨a, n, c, rfl⟩ := hv
  obtain ⟨fuel, hf⟩ := h
  rcases open_slice Tryz.underlying22 hf with ⟨hcs, _⟩ | ⟨ad, len, cap, m, n', D, Pl, hcs, hb, hl, hm, hmm, _, hi⟩
  · obtain ⟨rfl, rfl, rfl⟩ : a = none ∧ n = 0 ∧ c = 0 := by simpa [Value.cells] using hcs
    exact ⟨none, 0, [], rfl, ⟨rfl, by simp, fun h => absurd h (by simp)⟩, by simp⟩
  · obtain ⟨rfl, rfl, rfl⟩ : a = some ad ∧ n = len ∧ c = cap := by simpa [Value.cells] using hcs
    have hmax : c ≤ 9223372036854775807 := hm
    have hx : ∀ i, i < n → ∃ p : S50, W.cell? (ad.add (i * 3)) = some (.int .i64 p.f0) ∧ W.cell? (ad.add (i * 3 + 1)) = some (.int .i64 p.f1) ∧ W.cell? (ad.add (i * 3 + 2)) = some (.int .i64 p.f2) := by
      intro i hil
      obtain ⟨cs', hc, ht'⟩ := hi i (by rw [hmm]; simp; omega)
      rw [cells_pieces] at hc
      obtain ⟨ys, n2, _, _, _, hyl, hg⟩ := DataW.trod_struct Tryz.underlying50 ht'
      obtain ⟨_, hcl, hat⟩ := World.cells?_some hc
      match cs', hcl with
      | [b0, b1, b2], _ =>
        match ys, hyl with
        | [y0, y1, y2], _ =>
          have hone : oneCellFields Tryz.prog _ = true := (show oneCellFields Tryz.prog (match Tryz.prog.underlying 50 with | some (.struct fs) => fs | _ => #[]) = true by kernel_rfl)
          rw [Tryz.underlying50] at hone
          obtain ⟨o0, k0⟩ := hone_of hone 0 _ rfl
          obtain ⟨o1, k1⟩ := hone_of hone 1 _ rfl
          obtain ⟨o2, k2⟩ := hone_of hone 2 _ rfl
          have g0 := hg 0 _ rfl
          have g1 := hg 1 _ rfl
          have g2 := hg 2 _ rfl
          rw [o0, k0] at g0
          rw [o1, k1] at g1
          rw [o2, k2] at g2
          simp only [List.drop_zero, List.drop_succ_cons, List.take_succ_cons, List.take_zero, List.getElem?_cons_zero, List.getElem?_cons_succ] at g0 g1 g2
          obtain ⟨x0, e0, _, _⟩ := DataW.trod_int Tryz.underlying3 g0
          obtain ⟨x1, e1, _, _⟩ := DataW.trod_int Tryz.underlying3 g1
          obtain ⟨x2, e2, _, _⟩ := DataW.trod_int Tryz.underlying3 g2
          simp only [List.cons.injEq, and_true] at e0 e1 e2
          subst e0 e1 e2
          have c0 := hat 0 (by omega)
          have c1 := hat 1 (by omega)
          have c2 := hat 2 (by omega)
          rw [Go.Deep.add_add] at c0 c1 c2
          exact ⟨⟨x0, x1, x2⟩, c0, c1, c2⟩
    have : Inhabited S50 := ⟨⟨0, 0, 0⟩⟩
    obtain ⟨F, hF⟩ := choose_lt hx
    refine ⟨some ad, c, (List.range n).map F, by simp, ⟨rfl, by simp; omega, fun _ => ⟨ad, rfl, fun j p hj => ?_⟩⟩, by simpa using hl⟩
    rw [List.getElem?_map] at hj
    obtain ⟨i, hi', rfl⟩ := Option.map_eq_some_iff.1 hj
    obtain ⟨hjn, hji⟩ := List.getElem?_eq_some_iff.1 hi'
    rw [List.length_range] at hjn
    rw [List.getElem_range] at hji
    subst hji
    obtain ⟨f0, f1, f2⟩ := hF j hjn
    refine ⟨_, rfl, k50_mk W (F j), fun i u hu => ?_⟩
    rcases i with _ | _ | _ | i
    · injection hu with hu; rw [← hu]; exact f0
    · injection hu with hu; rw [← hu]; exact f1
    · injection hu with hu; rw [← hu]; exact f2
    · cases hu
end Go.Proofs.YtdaccmjfefknoaaGreatDoor.Open
