/- LexUndone, without Go and memory. -/
import Derived.Test.YtdaccmjfefknoaaDoorPLax10
import Derived.Test.YtdaccmjfefknoaaDoorPUpd
import Derived.Test.YtdaccmjfefknoaaDoorPSane
set_option linter.unusedVariables false
set_option linter.unusedSimpArgs false
namespace Go.Proofs.YtdaccmjfefknoaaDoor.Pure
open Go.RowKit Go.Proofs.YtdaccmjfefknoaaDoor.PLa Go.Proofs.YtdaccmjfefknoaaDoorW.PrintWords Go.Proofs.YtdaccmjfefknoaaDoorW.PrintLast

theorem samePieces_loop (x : List S40) (hb : x.length ≤ 100000) : ∀ (m j k : Nat), x.length - j ≤ m → j ≤ x.length → m < k → skerryref01_SamePieces.l0 k x x (j : Int) = some true
  | m, j, 0, _, _, h => by omega
  | m, j, k + 1, hm, hj, hk => by
    unfold skerryref01_SamePieces.l0
    by_cases hlt : j < x.length
    · rw [if_pos (by omega), if_pos (by omega), if_pos (by omega), if_neg (by simp), small _ (by omega) (by omega), show (j : Int) + 1 = ((j + 1 : Nat) : Int) from by omega]
      exact samePieces_loop x hb (m - 1) (j + 1) k (by omega) (by omega) (by omega)
    · rw [if_neg (by omega)]
theorem samePieces_self (x : List S40) (hb : x.length ≤ 100000) (k : Nat) (hk : x.length < k) : skerryref01_SamePieces.f k x x = some true := by
  unfold skerryref01_SamePieces.f
  rw [if_pos rfl]
  exact samePieces_loop x hb x.length 0 k (by omega) (by omega) hk
theorem LexUndone (a0 : ByteArray) (x y : Int) (z : ByteArray) (h0 : a0.size ≤ 140737488351232) (hz : z.size ≤ 140737488351232) : ∃ k, skerrylaw01_LexUndone.f k a0 x y z = some true := by
  refine ⟨100000 + 2, ?_⟩
  unfold skerrylaw01_LexUndone.f
  rw [sane_k _ (by omega), Option.bind_some, change_f _ a0 x y z (by omega) (by omega)]
  by_cases hs : updSplices a0.size x y = true
  · obtain ⟨X, Y, rfl, rfl, hXY⟩ := splices_iff hs
    rw [if_pos hs, Option.bind_some]
    dsimp only
    have ht := changed_size a0 X Y z hXY
    have hi : (a0.extract X (X + Y)).size = Y := by rw [ByteArray.size_extract]; omega
    have hb := undone a0 X Y z hXY
    rw [if_pos rfl, wide ((X : Int) + Y) (by omega) (by omega), if_pos (by omega), if_pos (by omega), if_pos (by omega)]
    rw [Int.toNat_natCast, show ((X : Int) + Y).toNat = X + Y from by omega]
    rw [change_f _ _ _ _ _ (by omega) (by omega), if_pos (splices_mk (by omega)), Option.bind_some]
    dsimp only
    rw [if_pos rfl, hb, toList_ne, decide_eq_false (by simp)]
    rw [skerrylaw01_LexUndone.j0, if_neg (by simp), pieces_f, Option.bind_some]
    dsimp only
    by_cases he : Lx.outE a0 = 0
    · rw [update_f a0 _ _ z hz he, if_pos hs]
      by_cases het : Lx.outE (updChanged a0 (X : Int) (Y : Int) z) = 0
      · rw [if_pos het, Option.bind_some]
        dsimp only
        rw [if_pos he]
        have hne : ((0 : Int) != 0) = false := rfl
        rw [hne, skerrylaw01_LexUndone.j1, if_neg (by simp)]
        rw [update_f (updChanged a0 (X : Int) (Y : Int) z) _ _ _ (by omega) het, if_pos (splices_mk (by omega)), hb, if_pos he, Option.bind_some]
        dsimp only
        rw [if_pos rfl, if_pos rfl, samePieces_self _ (by have := cells_len a0; omega) _ (by have := cells_len a0; omega)]
        rfl
      · rw [if_neg het, Option.bind_some]
        dsimp only
        rw [if_pos he]
        have hne : (Lx.outE (updChanged a0 (X : Int) (Y : Int) z) != 0) = true := by simpa using het
        rw [hne, skerrylaw01_LexUndone.j1, if_pos rfl]
    · rw [update_bad' a0 _ _ _ z he, Option.bind_some]
      dsimp only
      rw [if_neg he, skerrylaw01_LexUndone.j1, if_pos rfl]
  · rw [if_neg hs, Option.bind_some]
    dsimp only
    rw [if_neg (by decide), if_pos rfl, Lib.toList_data]
    rfl
end Go.Proofs.YtdaccmjfefknoaaDoor.Pure
