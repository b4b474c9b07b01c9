/- The machine's plain law of marks: marks and offsets change nothing. -/
import Derived.Test.YtipnlgmeonepfaaGreatDoorFrC
set_option linter.unusedVariables false
namespace Go.Proofs.YtipnlgmeonepfaaGreatDoor.PFa
open Go.RowKit Go.Proofs.YtipnlgmeonepfaaGreatDoorW.PrintWords Go.Proofs.YtipnlgmeonepfaaGreatDoorW.PrintLast Go.Proofs.YtipnlgmeonepfaaGreatDoorW.PrintMore
theorem dimL_map : ∀ l : List Fg, dimL l = l.map dimF
 | [] => by rw [dimL]; rfl
 | x :: r => by rw [dimL, dimL_map r]; rfl
section
variable {l : List Tk} {tab : List (ByteArray × Bool)}
theorem tkAt_dim (l : List Tk) (i : Nat) : tkAt (l.map dimT) i = dimT (tkAt l i) := by
 show ((l.map dimT)[(i : Int).toNat]?).getD ⟨0, 0, ⟨#[]⟩, 0, 0⟩ = dimT ((l[(i : Int).toNat]?).getD ⟨0, 0, ⟨#[]⟩, 0, 0⟩)
 rw [List.getElem?_map]
 cases l[(i : Int).toNat]? with
 | none => rfl
 | some t => rfl
theorem good_dim (t : Tk) : Pure.good (dimT t) = Pure.good t := by
 have h : ∀ x : Int, (0 ≤ (if 0 ≤ x then (0 : Int) else -1)) ↔ 0 ≤ x := by
  intro x
  split <;> omega
 unfold Pure.good dimT
 dsimp only
 exact decide_eq_decide.2 (and_congr Iff.rfl (and_congr Iff.rfl (and_congr (h _) (h _))))
theorem isNm_dim (i : Nat) (s : ByteArray) : isNm (l.map dimT) i s = isNm l i s := by
 unfold isNm
 rw [tkAt_dim, List.length_map]
 rfl
theorem stopsB_dim (i : Nat) : stopsB (l.map dimT) i = stopsB l i := by
 unfold stopsB
 rw [isNm_dim, tkAt_dim, List.length_map]
 rfl
theorem nameAt_dim (i : Nat) (kids : List Fg) (m : Nat) : nameAt (l.map dimT) i (dimL kids) m = nameAt l i kids m := by
 cases kids with
 | nil => rw [dimL]; rfl
 | cons k r =>
  rw [dimL]
  obtain ⟨t, o, ks⟩ := k
  rw [dimF]
  unfold nameAt
  dsimp only
  exact congrArg _ (isNm_dim _ _)
theorem dropN_dim (i : Nat) (T : Tk) (kids : List Fg) : dropN (l.map dimT) i (dimT T) (dimL kids) = dropN l i T kids := by
 unfold dropN
 rw [isNm_dim, nameAt_dim, nameAt_dim, stopsB_dim, stopsB_dim]
 rfl
theorem badIn_dim (i : Nat) : ∀ m, badIn (l.map dimT) i m = badIn l i m
 | 0 => rfl
 | m + 1 => by
  unfold badIn
  rw [badIn_dim i m, tkAt_dim, good_dim]
theorem nmd_dim (i : Nat) (ps : List PF) : nmd i (ps.map dimP) = nmd i ps := by
 cases ps <;> rfl
theorem leafB_dim (i : Nat) (ps : List PF) (a : Option Bool) : leafB (l.map dimT) i (ps.map dimP) a = leafB l i ps a := by
 unfold leafB
 rw [isNm_dim, tkAt_dim, nmd_dim]
 rfl
theorem dimL_append (a b : List Fg) : dimL (a ++ b) = dimL a ++ dimL b := by
 rw [dimL_map, dimL_map, dimL_map, List.map_append]
theorem addT_dim (top : List Fg) (x : Fg) (ps : List PF) : dimL (addT top x ps) = addT (dimL top) (dimF x) (ps.map dimP) := by
 cases ps with
 | nil => show dimL (top ++ [x]) = dimL top ++ [dimF x]; rw [dimL_append, dimL, dimL]
 | cons p r => rfl
theorem addP_dim (x : Fg) (ps : List PF) : (addP x ps).map dimP = addP (dimF x) (ps.map dimP) := by
 cases ps with
 | nil => rfl
 | cons p r =>
  show dimP ⟨p.tok, p.at_, p.kids ++ [x]⟩ :: r.map dimP = ⟨dimT p.tok, p.at_, dimL p.kids ++ [dimF x]⟩ :: r.map dimP
  unfold dimP
  rw [dimL_append, dimL, dimL]
theorem step_dim (i : Nat) (top : List Fg) (ps : List PF) : step tab (l.map dimT) i (dimL top) (ps.map dimP) = dimS (step tab l i top ps) := by
 unfold step
 rw [tkAt_dim, good_dim, leafB_dim]
 have e1 : (dimT (tkAt l i)).f2 = (tkAt l i).f2 := rfl
 have e2 : ∀ o : ByteArray, (⟨dimT (tkAt l i), o, []⟩ : Fg) = dimF ⟨tkAt l i, o, []⟩ := fun o => by rw [dimF, dimL]
 rw [e1, List.length_map]
 by_cases h1 : Pure.good (tkAt l i) = true
 ·rw [if_pos h1, if_pos h1]
  by_cases h2 : leafB l i ps (actIn tab (tkAt l i).f2) = true
  ·rw [if_pos h2, if_pos h2, e2, ← addT_dim, ← addP_dim]
   rfl
  ·rw [if_neg h2, if_neg h2]
   by_cases h3 : actIn tab (tkAt l i).f2 = some true
   ·rw [if_pos h3, if_pos h3]
    split
    ·rfl
    ·show St.go (i + 1) (dimL top) (⟨dimT (tkAt l i), i, []⟩ :: ps.map dimP) = .go (i + 1) (dimL top) (dimP ⟨tkAt l i, i, []⟩ :: ps.map dimP)
     unfold dimP
     rw [dimL]
   ·rw [if_neg h3, if_neg h3]
    cases ps with
    | nil => rfl
    | cons p r =>
     have e0 : (p :: r).map dimP = dimP p :: r.map dimP := rfl
     rw [e0]
     dsimp only
     have e3 : (dimP p).tok.f2 = p.tok.f2 := rfl
     have e4 : dropN (l.map dimT) i (dimP p).tok (dimP p).kids = dropN l i p.tok p.kids := dropN_dim i p.tok p.kids
     rw [e3, e4, badIn_dim]
     by_cases h4 : (closeTx p.tok.f2).toList = (tkAt l i).f2.toList
     ·rw [if_pos h4, if_pos h4]
      cases badIn l i (dropN l i p.tok p.kids) with
      | some j => rfl
      | none =>
       have e5 : ∀ o : ByteArray, (⟨(dimP p).tok, o, (dimP p).kids⟩ : Fg) = dimF ⟨p.tok, o, p.kids⟩ := fun o => by rw [dimF]; rfl
       dsimp only
       rw [e5, ← addT_dim, ← addP_dim]
       rfl
     ·rw [if_neg h4, if_neg h4]
      rfl
 ·rw [if_neg h1, if_neg h1]
  rfl
theorem mach_dim : ∀ (k i : Nat) (top : List Fg) (ps : List PF), mach tab (l.map dimT) k i (dimL top) (ps.map dimP) = dimS (mach tab l k i top ps)
 | 0, i, top, ps => rfl
 | k + 1, i, top, ps => by
  unfold mach
  rw [List.length_map, step_dim]
  by_cases h : i < l.length
  ·rw [if_pos h, if_pos h]
   cases step tab l i top ps with
   | bad j e => rfl
   | go j t p => exact mach_dim k j t p
  ·rw [if_neg h, if_neg h]
   rfl
end
end Go.Proofs.YtipnlgmeonepfaaGreatDoor.PFa
