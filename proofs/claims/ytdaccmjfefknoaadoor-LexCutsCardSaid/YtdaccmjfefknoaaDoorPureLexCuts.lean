/- LexCuts: Pieces and Scan are as specified. -/
import Derived.Test.YtdaccmjfefknoaaDoorPRef
import Derived.Test.YtdaccmjfefknoaaDoorPSaneB
set_option linter.unusedVariables false
set_option linter.unusedSimpArgs false
namespace Go.Proofs.YtdaccmjfefknoaaDoor.Pure
open Go.RowKit Go.Proofs.YtdaccmjfefknoaaDoor.PLb Go.Proofs.YtdaccmjfefknoaaDoorW.PrintWords Go.Proofs.YtdaccmjfefknoaaDoorW.PrintLast

theorem same_loop (x : List S40) (hx : x.length ≤ 100000) : ∀ (m i k : Nat), x.length - i = m → i ≤ x.length → m < k → skerryref01_SamePieces.l0 k x x (i : Int) = some true := by
  intro m
  induction m with
  | zero =>
    intro i k hm hi hk
    obtain ⟨k, rfl⟩ : ∃ j, k = j + 1 := ⟨k - 1, by omega⟩
    rw [skerryref01_SamePieces.l0, if_neg (by omega)]
  | succ m ih =>
    intro i k hm hi hk
    obtain ⟨k, rfl⟩ : ∃ j, k = j + 1 := ⟨k - 1, by omega⟩
    have s1 : wrap64 ((i : Int) + 1) = ((i + 1 : Nat) : Int) := by rw [small _ (by omega) (by omega)]; omega
    rw [skerryref01_SamePieces.l0, if_pos (by omega), if_pos (by omega), if_pos (by omega)]
    simp only [beq_self_eq_true, Bool.not_true, Bool.or_self, s1]
    rw [if_neg (by decide)]
    exact ih (i + 1) k (by omega) (by omega) (by omega)
theorem same_f (x : List S40) (hx : x.length ≤ 100000) (k : Nat) (hk : 100000 < k) : skerryref01_SamePieces.f k x x = some true := by
  unfold skerryref01_SamePieces.f
  rw [if_pos rfl]
  exact same_loop x hx x.length 0 k (by omega) (by omega) (by omega)
theorem equal_loop (x : List S54) (hx : x.length ≤ 100000) : ∀ (m i k : Nat), x.length - i = m → i ≤ x.length → 2 * m + 2 < k → skerryref01_Equal.l0 k x x true (i : Int) = some true := by
  intro m
  induction m with
  | zero =>
    intro i k hm hi hk
    obtain ⟨k, rfl⟩ : ∃ j, k = j + 2 := ⟨k - 2, by omega⟩
    rw [skerryref01_Equal.l0, if_pos rfl, decide_eq_false (by omega), skerryref01_Equal.j1, if_neg (by decide)]
  | succ m ih =>
    intro i k hm hi hk
    obtain ⟨k, rfl⟩ : ∃ j, k = j + 2 := ⟨k - 2, by omega⟩
    have s1 : wrap64 ((i : Int) + 1) = ((i + 1 : Nat) : Int) := by rw [small _ (by omega) (by omega)]; omega
    rw [skerryref01_Equal.l0, if_pos rfl, decide_eq_true (by omega), skerryref01_Equal.j1, if_pos rfl, if_pos (by omega), if_pos (by omega), if_pos (by omega)]
    simp only [beq_self_eq_true, Bool.and_self, s1]
    exact ih (i + 1) k (by omega) (by omega) (by omega)
theorem equal_f (x : List S54) (hx : x.length ≤ 100000) (k : Nat) (hk : 300000 < k) : skerryref01_Equal.f k x x = some true := by
  unfold skerryref01_Equal.f
  rw [beq_self_eq_true]
  exact equal_loop x hx x.length 0 k (by omega) (by omega) (by omega)
theorem scan_some (a0 : ByteArray) (k : Nat) (hk : 60000 < k) : ∃ l at_ e, lex_Scan.f k a0 = some (l, at_, e) ∧ l.length ≤ 20000 := by
  cases h : Lx.pieces a0.data.toList with
  | error e => exact ⟨_, _, _, scan_err h k, by simp⟩
  | ok l =>
    obtain ⟨hc, hs⟩ := Lx.pieces_chain h
    rw [size_list] at hc hs
    have hl := chain_len _ _ _ hc
    refine ⟨_, _, _, scan_ok h k (by omega), ?_⟩
    unfold toks
    rw [List.length_map]
    have := List.length_filter_le isTok l
    omega
theorem out_len (a0 : ByteArray) : (cells40 a0).length ≤ 100000 := by
  unfold cells40 Lx.outL
  rw [List.length_map]
  cases h : Lx.pieces a0.data.toList with
  | error e => simp
  | ok l =>
    obtain ⟨hc, hs⟩ := Lx.pieces_chain h
    rw [size_list] at hc hs
    have hl := chain_len _ _ _ hc
    show l.length ≤ 100000
    omega
theorem LexCuts : skerrylaw01_LexCuts.Pure := by
  intro a0 ha0
  obtain ⟨K, hK⟩ : ∃ K, 60 + 1000000 = K := ⟨_, rfl⟩
  have hKb : 1000000 ≤ K := by omega
  have hsane : skerrylaw01_sane.f K = some true := by exact sane_k K (by omega)
  clear hK
  refine ⟨K, ?_⟩
  obtain ⟨l, at_, e, hscan, hlen⟩ := scan_some a0 K (by omega)
  unfold skerrylaw01_LexCuts.f
  rw [hsane, Option.bind_some, rpieces_f a0 (by omega), rscan_f a0 (by omega) K (by omega), hscan, pieces_f]
  simp only [Option.bind_some]
  rw [if_pos trivial, if_pos trivial, if_pos trivial, same_f _ (out_len a0) K (by omega)]
  simp only [Option.bind_some]
  rw [if_pos trivial, if_pos trivial, if_pos trivial, equal_f _ (by omega) K (by omega)]
  rfl
end Go.Proofs.YtdaccmjfefknoaaDoor.Pure
