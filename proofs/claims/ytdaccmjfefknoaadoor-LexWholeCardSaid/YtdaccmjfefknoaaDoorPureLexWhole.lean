import Derived.Test.YtdaccmjfefknoaaDoorPLax8
import Derived.Test.YtdaccmjfefknoaaDoorLxBounds
set_option linter.unusedVariables false
set_option linter.unusedSimpArgs false
namespace Go.Proofs.YtdaccmjfefknoaaDoor.Pure
open Go.RowKit Go.Proofs.YtdaccmjfefknoaaDoor.PLa Go.Proofs.YtdaccmjfefknoaaDoorW.PrintWords Go.Proofs.YtdaccmjfefknoaaDoorW.PrintLast

theorem sane_true : skerrylaw01_sane.f 60 = some true := by decide +kernel
theorem sane_at : ∀ k, skerrylaw01_sane.f (60 + k) = some true
  | 0 => sane_true
  | k + 1 => skerrylaw01_sane.mono _ _ (sane_at k)
def cell (p : Lx.Piece) : S40 := ⟨(p.kind : Int), (p.at_ : Int), (p.len : Int)⟩
theorem small (n : Int) (h0 : 0 ≤ n) (h1 : n ≤ 1000000) : wrap64 n = n := by unfold wrap64; omega
theorem rd_at (pre : List Lx.Piece) (p : Lx.Piece) (rest : List Lx.Piece) : rd_T40 ((pre ++ p :: rest).map cell) (pre.length : Int) = cell p := by
  simp [rd_T40]
theorem loop_true (a0 : ByteArray) (hs : a0.size ≤ 20000) : ∀ (rest pre : List Lx.Piece) (e k : Nat), Lx.Chain rest e a0.size → pre.length ≤ e → e ≤ a0.size → 2 * rest.length < k →
    skerrylaw01_LexWhole.l0 k a0 true ((pre ++ rest).map cell) (e : Int) (pre.length : Int) = some true
  | rest, pre, e, 0, _, _, _, h => by omega
  | [], pre, e, k + 1, hc, hp, he, h => by
    obtain rfl : e = a0.size := hc
    unfold skerrylaw01_LexWhole.l0
    rw [if_neg (by simp), if_pos rfl]
    simp
  | p :: rest, pre, e, 1, hc, hp, he, h => by simp at h <;> omega
  | p :: rest, pre, e, k + 2, hc, hp, he, h => by
    obtain ⟨h1, h2, h3, h4, h5, hr⟩ := hc
    have h7 : (pre.length : Int) < (((pre ++ p :: rest).map cell).length : Int) := by simp <;> omega
    unfold skerrylaw01_LexWhole.l0
    rw [rd_at pre p rest]
    rw [if_pos h7, if_pos (by omega), if_pos (by show (p.at_ : Int) = e; omega), if_neg (by show ¬ ((p.len : Int) < 1); omega)]
    rw [small _ (by omega) (by omega), if_neg (by show ¬ ((p.len : Int) > (a0.size : Int) - e); omega), if_neg (by show ¬ ((p.kind : Int) < 1); omega)]
    rw [decide_eq_false (by show ¬ ((p.kind : Int) > 8); omega)]
    unfold skerrylaw01_LexWhole.j1
    rw [rd_at pre p rest, if_neg (by simp), if_pos (by omega), if_pos h7]
    have ih := loop_true a0 hs rest (pre ++ [p]) (e + p.len) k hr (by simp; omega) h3 (by simp at h; omega)
    rw [small _ (by show (0 : Int) ≤ e + p.len; omega) (by show ((e : Int) + p.len) ≤ 1000000; omega), small _ (by omega) (by omega)]
    rw [List.append_assoc] at ih
    have e1 : (((pre ++ [p]).length : Nat) : Int) = (pre.length : Int) + 1 := by simp
    rw [e1] at ih
    exact ih
theorem LexWhole : skerrylaw01_LexWhole.Pure := by
  intro a0 _
  cases hp : Lx.pieces a0.data.toList with
  | ok l =>
    obtain ⟨hc, hs⟩ := Lx.pieces_chain hp
    have hl : Lx.outL a0 = l := by unfold Lx.outL; rw [hp]
    have ha : Lx.outE a0 = 0 := by unfold Lx.outE; rw [hp]
    have hsz : a0.data.toList.length = a0.size := by simp
    rw [hsz] at hc hs
    refine ⟨60 + (2 * l.length + 1), ?_⟩
    unfold skerrylaw01_LexWhole.f
    rw [sane_at, Option.bind_some]
    unfold lex_Pieces.f
    rw [Option.bind_some, hl, ha]
    have h := loop_true a0 hs l [] 0 (60 + (2 * l.length + 1)) hc (by simp) (by omega) (by omega)
    exact h
  | error er =>
    have he := Lx.pieces_error hp
    have hl : Lx.outL a0 = [] := by unfold Lx.outL; rw [hp]
    have ha : Lx.outE a0 = er.2 := by unfold Lx.outE; rw [hp]
    refine ⟨60 + 0, ?_⟩
    unfold skerrylaw01_LexWhole.f
    rw [sane_at, Option.bind_some]
    unfold lex_Pieces.f
    rw [Option.bind_some, hl, ha]
    show (if er.2 = 0 then _ else _) = _
    rw [if_neg he]
    rfl
end Go.Proofs.YtdaccmjfefknoaaDoor.Pure
