/- LexLocal, without Go and memory. -/
import Derived.Test.YtdaccmjfefknoaaDoorPLax11
import Derived.Test.YtdaccmjfefknoaaDoorPUpd
import Derived.Test.YtdaccmjfefknoaaDoorPSane
set_option linter.unusedVariables false
set_option linter.unusedSimpArgs false
namespace Go.Proofs.YtdaccmjfefknoaaDoor.Pure
open Go.RowKit Go.Proofs.YtdaccmjfefknoaaDoor.PLa Go.Proofs.YtdaccmjfefknoaaDoorW.PrintWords Go.Proofs.YtdaccmjfefknoaaDoorW.PrintLast

theorem common_le : ∀ a b : List S40, updCommon a b ≤ a.length ∧ updCommon a b ≤ b.length
  | [], b => by cases b <;> simp [updCommon]
  | x :: a, [] => by simp [updCommon]
  | x :: a, y :: b => by
    have := common_le a b
    unfold updCommon
    simp only [List.length_cons]
    split <;> omega
theorem common_ge : ∀ (a b : List S40) (i : Nat), i ≤ a.length → b.take i = a.take i → i ≤ updCommon a b
  | a, b, 0, _, _ => Nat.zero_le _
  | [], b, i + 1, h, _ => by simp at h
  | x :: a, [], i + 1, h, e => by simp at e
  | x :: a, y :: b, i + 1, h, e => by
    simp only [List.take_succ_cons, List.cons.injEq] at e
    obtain ⟨rfl, e⟩ := e
    have := common_ge a b i (by simpa using h) e
    unfold updCommon
    rw [if_pos ((updEq_iff _ _).2 rfl)]
    omega
theorem local_front {a0 t : ByteArray} {l l' : List Lx.Piece} {m : Nat} (h : Lx.pieces a0.data.toList = .ok l) (h' : Lx.pieces t.data.toList = .ok l') (ht : a0.data.toList.take m = t.data.toList.take m) (hm : m ≤ a0.size) (hm' : m ≤ t.size) (i : Nat) (p : Lx.Piece) (hp : l[i]? = some p) (hpm : p.at_ + p.len + 101 ≤ m) : i < updFront (cells40 a0) (cells40 t) := by
  have he := Lx.pieces_local h h' ht (by rw [size_list]; exact hm) (by rw [size_list]; exact hm') i p hp hpm
  have hi : i < l.length := (List.getElem?_eq_some_iff.1 hp).1
  unfold updFront cells40
  rw [(out_ok h).1, (out_ok h').1]
  exact common_ge _ _ (i + 1) (by rw [List.length_map]; omega) (by rw [← List.map_take, ← List.map_take, he])
theorem local_step (l : List Lx.Piece) (X : Nat) (hX : X ≤ 20000) (y : Int) (z : ByteArray) (F B : Int) (i : Nat) (k : Nat) (hlt : i < l.length) (hi : i ≤ 20000) (hs : l[i].at_ + l[i].len ≤ 20000) (hF : l[i].at_ + l[i].len + 101 < X → (i : Int) < F) :
    skerrylaw01_LexLocal.l0 (k + 2) true (l.map cell40) (i : Int) (X : Int) y z F B = skerrylaw01_LexLocal.l0 k true (l.map cell40) ((i + 1 : Nat) : Int) (X : Int) y z F B := by
  have hrd : rd_T40 (l.map cell40) (i : Int) = cell40 l[i] := by simp [rd_T40, hlt]
  have s1 : wrap64 ((cell40 l[i]).f1 + (cell40 l[i]).f2) = ((l[i].at_ + l[i].len : Nat) : Int) := by
    show wrap64 ((l[i].at_ : Int) + l[i].len) = _
    rw [small _ (by omega) (by omega)]
    omega
  have s2 : wrap64 ((X : Int) - 100) = (X : Int) - 100 := small _ (by omega) (by omega)
  have s3 : wrap64 ((X : Int) - 100 - 1) = (X : Int) - 100 - 1 := small _ (by omega) (by omega)
  have s4 : wrap64 ((i : Int) + 1) = ((i + 1 : Nat) : Int) := by rw [small _ (by omega) (by omega)]; omega
  have c1 : (i : Int) < ((l.map cell40).length : Int) := by rw [List.length_map]; omega
  have c2 : (0 : Int) ≤ (i : Int) := by omega
  have j : skerrylaw01_LexLocal.j2 (k + 1) true (l.map cell40) (i : Int) false (X : Int) y z F B = skerrylaw01_LexLocal.l0 k true (l.map cell40) ((i + 1 : Nat) : Int) (X : Int) y z F B := by
    rw [skerrylaw01_LexLocal.j2, if_neg (by simp)]
    simp only [s4]
  rw [skerrylaw01_LexLocal.l0, if_pos c1, if_pos c2, hrd]
  simp only [s1, s2, s3]
  by_cases hc : l[i].at_ + l[i].len + 101 < X
  · have c3 : ((l[i].at_ + l[i].len : Nat) : Int) < (X : Int) - 100 - 1 := by omega
    have c4 : decide ((i : Int) ≥ F) = false := decide_eq_false (by have := hF hc; omega)
    rw [if_pos c3, c4]
    exact j
  · have c3 : ¬ ((l[i].at_ + l[i].len : Nat) : Int) < (X : Int) - 100 - 1 := by omega
    rw [if_neg c3]
    exact j
theorem local_loop (l : List Lx.Piece) (hl : l.length ≤ 20000) (X : Nat) (hX : X ≤ 20000) (y : Int) (z : ByteArray) (F B : Nat) (hFB : F + B ≤ l.length) (hF : ∀ i p, l[i]? = some p → p.at_ + p.len + 101 < X → i < F) (hsz : ∀ p ∈ l, p.at_ + p.len ≤ 20000) : ∀ (m i k : Nat), l.length - i = m → i ≤ l.length → 2 * m < k →
    skerrylaw01_LexLocal.l0 k true (l.map cell40) (i : Int) (X : Int) y z (F : Int) (B : Int) = some true := by
  intro m
  induction m with
  | zero =>
    intro i k hm hi hk
    obtain ⟨k, rfl⟩ : ∃ j, k = j + 1 := ⟨k - 1, by omega⟩
    have c1 : ¬ (i : Int) < ((l.map cell40).length : Int) := by rw [List.length_map]; omega
    have s1 : wrap64 ((F : Int) + B) = (F : Int) + B := small _ (by omega) (by omega)
    have c2 : decide ((F : Int) + B ≤ ((l.map cell40).length : Int)) = true := decide_eq_true (by rw [List.length_map]; omega)
    rw [skerrylaw01_LexLocal.l0, if_neg c1, if_pos rfl]
    simp only [s1]
    rw [c2]
  | succ m ih =>
    intro i k hm hi hk
    obtain ⟨k, rfl⟩ : ∃ j, k = j + 2 := ⟨k - 2, by omega⟩
    have hlt : i < l.length := by omega
    rw [local_step l X hX y z F B i k hlt (by omega) (hsz _ (List.getElem_mem hlt)) (fun h => by have := hF i l[i] (List.getElem?_eq_getElem hlt) h; omega)]
    exact ih (i + 1) k (by omega) (by omega) (by omega)
theorem LexLocal (a0 : ByteArray) (x y : Int) (z : ByteArray) (h0 : a0.size ≤ 140737488351232) (hz : z.size ≤ 140737488351232) : ∃ k, skerrylaw01_LexLocal.f k a0 x y z = some true := by
  refine ⟨100000 + 1, ?_⟩
  unfold skerrylaw01_LexLocal.f
  rw [sane_k _ (by omega), Option.bind_some, pieces_f, Option.bind_some]
  dsimp only
  cases hp : Lx.pieces a0.data.toList with
  | error e =>
    obtain ⟨_, h2, _, h4⟩ := out_err hp
    have he : Lx.outE a0 ≠ 0 := by rw [h2]; exact h4
    rw [update_bad' a0 _ _ _ z he, Option.bind_some]
    dsimp only
    rw [if_neg he, skerrylaw01_LexLocal.j0, if_pos rfl]
  | ok l =>
    obtain ⟨h1, he, _⟩ := out_ok hp
    obtain ⟨hc, hs0⟩ := Lx.pieces_chain hp
    rw [size_list] at hc hs0
    have hl := chain_len _ _ _ hc
    rw [update_f a0 _ _ z hz he]
    by_cases hs : updSplices a0.size x y = true
    · obtain ⟨X, Y, rfl, rfl, hXY⟩ := splices_iff hs
      rw [if_pos hs]
      cases hq : Lx.pieces (updChanged a0 (X : Int) (Y : Int) z).data.toList with
      | error e =>
        obtain ⟨_, h2, _, h4⟩ := out_err hq
        have het : Lx.outE (updChanged a0 (X : Int) (Y : Int) z) ≠ 0 := by rw [h2]; exact h4
        rw [if_neg het, Option.bind_some]
        dsimp only
        have hne : (Lx.outE (updChanged a0 (X : Int) (Y : Int) z) != 0) = true := by simpa using het
        rw [if_pos he, hne, skerrylaw01_LexLocal.j0, if_pos rfl]
      | ok l' =>
        obtain ⟨h1', het, _⟩ := out_ok hq
        have ht := changed_size a0 X Y z hXY
        rw [if_pos het, Option.bind_some]
        dsimp only
        have hne : ((0 : Int) != 0) = false := rfl
        rw [if_pos he, hne, skerrylaw01_LexLocal.j0, if_neg (by simp)]
        have hcl : cells40 a0 = l.map cell40 := by unfold cells40; rw [h1]
        have hFB : updFront (cells40 a0) (cells40 (updChanged a0 (X : Int) (Y : Int) z)) + updBack (cells40 a0) (cells40 (updChanged a0 (X : Int) (Y : Int) z)) (((updChanged a0 (X : Int) (Y : Int) z).size : Int) - a0.size) ≤ l.length := by
          have hm : updMost (cells40 a0) (cells40 (updChanged a0 (X : Int) (Y : Int) z)) ≤ l.length := by
            unfold updMost
            rw [hcl, List.length_map]
            split <;> omega
          have hf : updFront (cells40 a0) (cells40 (updChanged a0 (X : Int) (Y : Int) z)) ≤ updMost (cells40 a0) (cells40 (updChanged a0 (X : Int) (Y : Int) z)) := by
            have := common_le (cells40 a0) (cells40 (updChanged a0 (X : Int) (Y : Int) z))
            unfold updFront updMost
            split <;> omega
          unfold updBack
          omega
        have hloc := fun i p (hp' : l[i]? = some p) (hpm : p.at_ + p.len + 101 < X) => local_front (m := X) hp hq (by
          rw [changed_list a0 X Y z hXY, List.append_assoc, List.take_left' (by rw [List.length_take, size_list]; omega)]) (by omega) (by omega) i p hp' (by omega)
        have hsz : ∀ p ∈ l, p.at_ + p.len ≤ 20000 := fun p hm => by
          have := (Lx.chain_ge _ _ _ hc p hm).2.1
          omega
        rw [hcl] at hFB hloc ⊢
        exact local_loop l (by omega) X (by omega) (Y : Int) z _ _ hFB hloc hsz l.length 0 100000 rfl (by omega) (by omega)
    · rw [if_neg hs, Option.bind_some]
      dsimp only
      rw [if_pos he]
      have hne : ((1 : Int) != 0) = true := rfl
      rw [hne, skerrylaw01_LexLocal.j0, if_pos rfl]
end Go.Proofs.YtdaccmjfefknoaaDoor.Pure
