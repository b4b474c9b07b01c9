/- FragMarks in plain Lean. -/
import Derived.Test.YtipnlgmeonepfaaGreatDoorPFax13
import Derived.Test.YtipnlgmeonepfaaGreatDoorFrD
import Derived.Test.YtipnlgmeonepfaaGreatDoorFrDim
set_option linter.unusedVariables false
set_option linter.unusedSimpArgs false
namespace Go.Proofs.YtipnlgmeonepfaaGreatDoor.PFa
open Go.RowKit Go.Proofs.YtipnlgmeonepfaaGreatDoorW.PrintWords Go.Proofs.YtipnlgmeonepfaaGreatDoorW.PrintLast
theorem dimL_nil {b : List Fg} (h : dimL b = []) : b = [] := by
 cases b with
 | nil => rfl
 | cons x r => rw [dimL] at h; cases h
mutual
theorem alF_dim : ∀ x y : Fg, dimF x = dimF y → alF true x y = true
 | ⟨t, o, ks⟩, ⟨u, p, js⟩, h => by
  rw [dimF, dimF] at h
  injection h with h1 h2 h3
  unfold dimT at h1
  injection h1 with a1 a2 a3 a4 a5
  rw [alF, alL_dim ks js h3]
  unfold tokAl
  dsimp only
  rw [a1, a2, a3, h2]
  simp
theorem alL_dim : ∀ a b : List Fg, dimL a = dimL b → alL true a b = true
 | [], b, h => by
  rw [dimL] at h
  rw [dimL_nil h.symm]
  rfl
 | x :: r, b, h => by
  cases b with
  | nil => rw [dimL, dimL] at h; cases h
  | cons y s =>
   rw [dimL, dimL] at h
   injection h with h1 h2
   unfold alL
   dsimp only
   rw [alF_dim x y h1, alL_dim r s h2]
   rfl
end
theorem read_dim {l m : List Tk} (ws : List ByteArray) (h : l.map dimT = m.map dimT) : (readOut l ws).2 = (readOut m ws).2 ∧ dimL (readOut l ws).1 = dimL (readOut m ws).1 := by
 have hl := congrArg List.length h
 rw [List.length_map, List.length_map] at hl
 have e : dimS (mach (actTab (openers ++ ws)) l (l.length + 1) 0 [] []) = dimS (mach (actTab (openers ++ ws)) m (m.length + 1) 0 [] []) := by
  have h0 : dimL [] = [] := by rw [dimL]
  have h1 := mach_dim (tab := actTab (openers ++ ws)) (l := l) (l.length + 1) 0 [] []
  have h2 := mach_dim (tab := actTab (openers ++ ws)) (l := m) (m.length + 1) 0 [] []
  rw [← h1, ← h2, h, hl]
 unfold readOut
 rw [hl] at e ⊢
 by_cases h1 : wordsB ws = true
 ·rw [if_pos h1, if_pos h1]
  by_cases h2 : m.length ≤ 6000
  ·rw [if_pos h2, if_pos h2]
   revert e
   cases mach (actTab (openers ++ ws)) l (m.length + 1) 0 [] [] with
   | bad i er =>
    cases mach (actTab (openers ++ ws)) m (m.length + 1) 0 [] [] with
    | bad i' er' =>
     intro e
     injection e with e1 e2
     rw [e1, e2]
     exact ⟨rfl, rfl⟩
    | go i' t' p' => intro e; cases e
   | go i t p =>
    cases mach (actTab (openers ++ ws)) m (m.length + 1) 0 [] [] with
    | bad i' er' => intro e; cases e
    | go i' t' p' =>
     intro e
     injection e with e1 e2 e3
     cases p with
     | nil =>
      cases p' with
      | nil => exact ⟨rfl, e2⟩
      | cons q r => cases e3
     | cons q r =>
      cases p' with
      | nil => cases e3
      | cons q' r' =>
       rw [List.map_cons, List.map_cons] at e3
       injection e3 with e4 e5
       unfold dimP at e4
       injection e4 with e6 e7 e8
       dsimp only
       rw [e7]
       exact ⟨rfl, rfl⟩
  ·rw [if_neg h2, if_neg h2]
   exact ⟨rfl, rfl⟩
 ·rw [if_neg h1, if_neg h1]
  exact ⟨rfl, rfl⟩
def markAt (mark : Int) (i : Nat) (t : Tk) : Tk := if 0 ≤ t.f3 ∧ 0 ≤ t.f4 then ⟨t.f0, t.f1, t.f2, i, mark⟩ else t
def markedTo (mark : Int) (l : List Tk) (n : Nat) : List Tk := (List.range n).map fun i => markAt mark i (rd_T39 l (i : Int))
theorem dim_mark {mark : Int} (hm : 0 ≤ mark) (i : Nat) (t : Tk) : dimT (markAt mark i t) = dimT t := by
 unfold markAt
 split
 ·rename_i h
  unfold dimT
  dsimp only
  rw [if_pos (Int.natCast_nonneg i), if_pos hm, if_pos h.1, if_pos h.2]
 ·rfl
theorem marked_dim {mark : Int} (hm : 0 ≤ mark) (l : List Tk) : l.map dimT = (markedTo mark l l.length).map dimT := by
 unfold markedTo
 rw [List.map_map]
 refine List.ext_getElem (by simp) fun i h1 h2 => ?_
 rw [List.length_map] at h1
 rw [List.getElem_map, List.getElem_map, List.getElem_range]
 show dimT l[i] = dimT (markAt mark i (rd_T39 l (i : Int)))
 rw [dim_mark hm]
 congr 1
 unfold rd_T39
 simp [h1]
theorem marks_loop (l : List Tk) (ws : List ByteArray) (mark : Int) (hmk : wrap64 mark = mark) (hN : l.length ≤ 2932031007402) : ∀ (m i k : Nat), l.length - i = m → i ≤ l.length →
  skerrylaw02_FragMarks.l0 (k + 2 * m + 1) l ws mark true (markedTo mark l i) (i : Int) = skerrylaw02_FragMarks.l0 (k + 1) l ws mark true (markedTo mark l l.length) (l.length : Int)
 | 0, i, k, hm, hi => by
  obtain rfl : i = l.length := by omega
  rfl
 | m + 1, i, k, hm, hi => by
  have hlt : i < l.length := by omega
  have ih := marks_loop l ws mark hmk hN m (i + 1) k (by omega) (by omega)
  have s1 : wrap64 ((i : Int) + 1) = ((i + 1 : Nat) : Int) := by unfold wrap64; omega
  have c0 : (0 : Int) ≤ (i : Int) := Int.natCast_nonneg i
  have c1 : (i : Int) < (l.length : Int) := Int.ofNat_lt.2 hlt
  have hlen : (markedTo mark l i).length = i := by unfold markedTo; simp
  have c2 : (markedTo mark l i).length < 2932031007402 := by rw [hlen]; omega
  have hnext : markedTo mark l (i + 1) = markedTo mark l i ++ [markAt mark i (rd_T39 l (i : Int))] := by
   unfold markedTo
   rw [List.range_succ, List.map_append]
   rfl
  have hk : k + 2 * (m + 1) + 1 = (k + 2 * m + 1) + 2 := by omega
  rw [hk]
  rw [hnext] at ih
  revert ih
  generalize k + 2 * m + 1 = q
  generalize skerrylaw02_FragMarks.l0 (k + 1) l ws mark true (markedTo mark l l.length) (l.length : Int) = Z
  generalize hT : rd_T39 l (i : Int) = T
  intro ih
  have key : ∀ b : Bool, (b = true ↔ (0 ≤ T.f3 ∧ 0 ≤ T.f4)) → skerrylaw02_FragMarks.j1 (q + 1) l ws mark true (markedTo mark l i) (i : Int) b T.f0 T.f1 T.f2 T.f3 T.f4 = Z := by
   intro b hb
   unfold skerrylaw02_FragMarks.j1
   rw [hmk, s1, if_pos c2]
   unfold markAt at ih
   by_cases h : 0 ≤ T.f3 ∧ 0 ≤ T.f4
   ·rw [if_pos h] at ih
    rw [if_pos (hb.2 h)]
    exact ih
   ·rw [if_neg h] at ih
    rw [if_neg (fun hb' => h (hb.1 hb')), if_pos c2]
    exact ih
  unfold skerrylaw02_FragMarks.l0
  rw [if_pos c1, if_pos c0, hT]
  by_cases h3 : T.f3 ≥ 0
  ·rw [if_pos h3]
   exact key _ (by rw [decide_eq_true_iff]; exact ⟨fun h => ⟨h3, h⟩, fun h => h.2⟩)
  ·rw [if_neg h3]
   exact key _ ⟨fun h => absurd h (by decide), fun h => absurd h.1 h3⟩
end Go.Proofs.YtipnlgmeonepfaaGreatDoor.PFa
namespace Go.Proofs.YtipnlgmeonepfaaGreatDoor.Pure
open Go.RowKit Go.Proofs.YtipnlgmeonepfaaGreatDoor.PFa Go.Proofs.YtipnlgmeonepfaaGreatDoorW.PrintWords Go.Proofs.YtipnlgmeonepfaaGreatDoorW.PrintLast
theorem u16_bounds {n : Int} (h : (Lit.int .u16 n).wf = true) : 0 ≤ n ∧ n ≤ 65535 := by
 unfold Lit.wf at h
 rw [Bool.and_eq_true] at h
 exact ⟨of_decide_eq_true h.1, of_decide_eq_true h.2⟩
theorem FragMarks (l : List Tk) (ws : List ByteArray) (mark : Int) (hN : l.length ≤ 2932031007402) (h0 : 0 ≤ mark) (h1 : mark ≤ 65535) : ∃ k, skerrylaw02_FragMarks.f k l ws mark = some true := by
 obtain ⟨e1, e2⟩ := read_dim ws (marked_dim h0 l)
 refine ⟨2 * l.length + 1, ?_⟩
 have hmk : wrap64 mark = mark := by unfold wrap64; omega
 unfold skerrylaw02_FragMarks.f
 rw [show skerrylaw02_sane.f = some true from rfl, Option.bind_some]
 have hl := marks_loop l ws mark hmk hN l.length 0 0 (by omega) (Nat.zero_le _)
 have hz : markedTo mark l 0 = [] := rfl
 rw [hz] at hl
 rw [Nat.zero_add] at hl
 refine Eq.trans hl ?_
 have hKK : skerryref02_Alike.f (readOut l ws).1 (readOut (markedTo mark l l.length) ws).1 true = some true := congrArg some (alL_dim _ _ e2)
 unfold skerrylaw02_FragMarks.l0
 rw [if_neg (by omega)]
 have f1 : fragment_Read.f l ws = some (readOut l ws) := rfl
 have f2 : fragment_Read.f (markedTo mark l l.length) ws = some (readOut (markedTo mark l l.length) ws) := rfl
 rw [f1, f2, Option.bind_some, Option.bind_some, if_pos rfl, if_pos (by rw [e1]), if_pos (by rw [e1]), hKK]
 rfl
end Go.Proofs.YtipnlgmeonepfaaGreatDoor.Pure
