/- What the printed Change and Update hand back, in plain words. -/
import Derived.Test.YtdaccmjfefknoaaDoorPScan
import Derived.Test.YtdaccmjfefknoaaDoorPLax5
import Derived.Test.YtdaccmjfefknoaaDoorLxLocal
set_option linter.unusedVariables false
set_option linter.unusedSimpArgs false
namespace Go.Proofs.YtdaccmjfefknoaaDoor.Pure
open Go.RowKit Go.Proofs.YtdaccmjfefknoaaDoor.PLa Go.Proofs.YtdaccmjfefknoaaDoorW.PrintWords Go.Proofs.YtdaccmjfefknoaaDoorW.PrintLast

theorem wide (n : Int) (h0 : -4000000000000000 ≤ n) (h1 : n ≤ 4000000000000000) : wrap64 n = n := by unfold wrap64; omega
theorem change_f (k : Nat) (a0 : ByteArray) (x y : Int) (z : ByteArray) (h0 : a0.size ≤ 1000000000000000) (hz : z.size ≤ 1000000000000000) : lex_Change.f (k + 1) a0 x y z = if updSplices a0.size x y = true then some (updChanged a0 x y z, 0) else some (⟨#[]⟩, 1) := by
  unfold lex_Change.f
  by_cases h : updSplices a0.size x y = true
  · rw [if_pos h]
    obtain ⟨h1, h2, h3, h4⟩ := of_decide_eq_true h
    have hs : ∀ a b, (a0.extract a b).size ≤ a0.size := fun a b => by rw [ByteArray.size_extract]; omega
    rw [if_neg (by omega), if_neg (by omega), if_neg (by omega), wide _ (by omega) (by omega), decide_eq_false (by omega)]
    rw [lex_Change.j0]
    rw [if_neg (by simp), if_pos h1, if_pos h3, wide _ (by omega) (by omega)]
    rw [if_pos (by have := hs 0 x.toNat; omega), if_pos (by omega), if_pos (by omega), if_pos (by rw [ByteArray.size_append]; have := hs 0 x.toNat; have := hs (x + y).toNat a0.size; omega)]
    rfl
  · rw [if_neg h]
    have h' := of_decide_eq_false (by simpa using h : updSplices a0.size x y = false)
    by_cases h1 : x < 0
    · rw [if_pos h1]; rw [lex_Change.j0, if_pos rfl]
    · rw [if_neg h1]
      by_cases h2 : y < 0
      · rw [if_pos h2]; rw [lex_Change.j0, if_pos rfl]
      · rw [if_neg h2]
        by_cases h3 : x > (a0.size : Int)
        · rw [if_pos h3]; rw [lex_Change.j0, if_pos rfl]
        · rw [if_neg h3, wide _ (by omega) (by omega), decide_eq_true (by omega)]
          rw [lex_Change.j0, if_pos rfl]
theorem splices_iff {n : Nat} {x y : Int} (h : updSplices n x y = true) : ∃ X Y : Nat, x = X ∧ y = Y ∧ X + Y ≤ n := by
  obtain ⟨h1, h2, h3, h4⟩ := of_decide_eq_true h
  exact ⟨x.toNat, y.toNat, by omega, by omega, by omega⟩
theorem splices_mk {n : Nat} {X Y : Nat} (h : X + Y ≤ n) : updSplices n (X : Int) (Y : Int) = true := decide_eq_true ⟨by omega, by omega, by omega, by omega⟩
theorem changed_list (a0 : ByteArray) (X Y : Nat) (z : ByteArray) (h : X + Y ≤ a0.size) : (updChanged a0 (X : Int) (Y : Int) z).data.toList = a0.data.toList.take X ++ z.data.toList ++ a0.data.toList.drop (X + Y) := by
  have happ : ∀ a b : ByteArray, (a ++ b).data.toList = a.data.toList ++ b.data.toList := fun a b => by rw [ByteArray.data_append, Array.toList_append]
  unfold updChanged
  rw [happ, happ, extract_list, extract_list, Int.toNat_natCast, show ((X : Int) + Y).toNat = X + Y from by omega, List.drop_zero, Nat.sub_zero]
  rw [List.take_of_length_le (by rw [List.length_drop, size_list]; omega) (l := a0.data.toList.drop (X + Y))]
theorem changed_size (a0 : ByteArray) (X Y : Nat) (z : ByteArray) (h : X + Y ≤ a0.size) : (updChanged a0 (X : Int) (Y : Int) z).size = a0.size - Y + z.size := by
  rw [← size_list, changed_list a0 X Y z h, List.length_append, List.length_append, List.length_take, List.length_drop, size_list, size_list]
  omega
theorem undone (a0 : ByteArray) (X Y : Nat) (z : ByteArray) (h : X + Y ≤ a0.size) : updChanged (updChanged a0 (X : Int) (Y : Int) z) (X : Int) (z.size : Int) (a0.extract X (X + Y)) = a0 := by
  have hs := changed_size a0 X Y z h
  apply bytes_ext
  rw [changed_list _ X z.size _ (by omega), changed_list a0 X Y z h, extract_list, show X + Y - X = Y from by omega]
  have hX : (a0.data.toList.take X).length = X := by rw [List.length_take, size_list]; omega
  have hz : z.data.toList.length = z.size := size_list z
  have e1 : (a0.data.toList.take X ++ z.data.toList ++ a0.data.toList.drop (X + Y)).take X = a0.data.toList.take X := by
    rw [List.append_assoc]
    exact List.take_left' hX
  have e2 : (a0.data.toList.take X ++ z.data.toList ++ a0.data.toList.drop (X + Y)).drop (X + z.size) = a0.data.toList.drop (X + Y) :=
    List.drop_left' (by rw [List.length_append, hX, hz])
  rw [e1, e2, List.append_assoc, ← List.drop_drop, List.take_append_drop, List.take_append_drop]
/-- Update with the text's own pieces. -/
theorem update_f (a0 : ByteArray) (x y : Int) (z : ByteArray) (hz : z.size ≤ 140737488351232) (h : Lx.outE a0 = 0) : lex_Update.f a0 (cells40 a0) x y z = if updSplices a0.size x y = true then
        (if Lx.outE (updChanged a0 x y z) = 0 then some (cells40 (updChanged a0 x y z), ((updFront (cells40 a0) (cells40 (updChanged a0 x y z)) : Nat) : Int), ((updBack (cells40 a0) (cells40 (updChanged a0 x y z)) (((updChanged a0 x y z).size : Int) - a0.size) : Nat) : Int), 0, 0)
          else some ([], 0, 0, Lx.outAt (updChanged a0 x y z), Lx.outE (updChanged a0 x y z)))
    else some ([], 0, 0, 0, 1) := by
  unfold lex_Update.f
  rw [if_pos ⟨h, (updSame_iff _ _).2 rfl⟩]
  by_cases hs : updSplices a0.size x y = true
  · rw [if_pos hs, if_pos hs, if_pos hz]
  · rw [if_neg hs, if_neg hs]
theorem update_bad' (a0 : ByteArray) (l : List S40) (x y : Int) (z : ByteArray) (h : Lx.outE a0 ≠ 0) : lex_Update.f a0 l x y z = some ([], 0, 0, 0, 15) := by
  unfold lex_Update.f
  rw [if_neg (fun h' => h h'.1)]
end Go.Proofs.YtdaccmjfefknoaaDoor.Pure
