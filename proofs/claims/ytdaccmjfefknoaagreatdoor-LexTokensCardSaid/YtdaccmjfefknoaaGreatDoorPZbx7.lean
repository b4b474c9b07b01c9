-- PRINTED by print.py (a twelfth state) out of the translation. Not trusted: Lean checks it.
import Derived.Test.YtdaccmjfefknoaaGreatDoorPZbx0
import Derived.Test.YtdaccmjfefknoaaGreatDoorPZbx1
import Derived.Test.YtdaccmjfefknoaaGreatDoorPZbx3
import Derived.Test.YtdaccmjfefknoaaGreatDoorPZbx5
import Derived.Test.YtdaccmjfefknoaaGreatDoorPZbx6
namespace Go.Proofs.YtdaccmjfefknoaaGreatDoor.PZb
open Go.RowKit Go.Proofs.YtdaccmjfefknoaaGreatDoorW.PrintWords Go.Proofs.YtdaccmjfefknoaaGreatDoorW.PrintLast Go.Proofs.YtdaccmjfefknoaaGreatDoorW.PrintMore
attribute [local go_sem] max2_int min2_int max_two min_two max_three min_three max_four min_four   -- for this text's walks alone
set_option linter.unusedVariables false
set_option linter.unusedSimpArgs false

attribute [local go_sem high] eqA46
/-! ### skerrylaw01_sane: function 5 -/
mutual
def skerrylaw01_sane.j0 : Nat → List (S37) → List (S37) → Int → List (S50) → Bool → Int → Int → Option (Bool)
 | 0, _, _, _, _, _, _, _ => none
 | k + 1, x1, x4, x8, x13, x102, x178000, x178001 => if x102 = true then (some false) else ((lex_Split.f k (⟨#[97, 114, 101, 97, 64, 115, 104, 97, 112, 101, 115]⟩ : ByteArray)).bind fun bt178 => (if 2 < (x1.length : Int) then (if ((rd_T37 x1 2).f2).toList = ([60, 112, 111, 105, 110, 116, 62] : List UInt8) then (if 4 < (x4.length : Int) then (if ((rd_T37 x4 4).f1) = (-3) then (if 6 < (x4.length : Int) then (if ((rd_T37 x4 6).f2).toList = ([98, 45, 50] : List UInt8) then (if 2 < (x13.length : Int) then (if ((rd_T50 x13 2).f2) = 7 then (skerrylaw01_sane.j1 k x8 bt178.1 bt178.2 (x178000 == 2 && (x178001 == 2))) else (skerrylaw01_sane.j1 k x8 bt178.1 bt178.2 false)) else (none)) else (skerrylaw01_sane.j1 k x8 bt178.1 bt178.2 false)) else (none)) else (skerrylaw01_sane.j1 k x8 bt178.1 bt178.2 false)) else (none)) else (skerrylaw01_sane.j1 k x8 bt178.1 bt178.2 false)) else (none)))
def skerrylaw01_sane.j1 : Nat → Int → ByteArray → ByteArray → Bool → Option (Bool)
 | 0, _, _, _, _ => none
 | k + 1, x8, x20, x21, x22 => if x22 = true then (if x8 = 0 then (if x20.toList = ([97, 114, 101, 97] : List UInt8) then (if x21.toList = ([115, 104, 97, 112, 101, 115] : List UInt8) then ((lex_Kind.f k (⟨#[120, 58]⟩ : ByteArray)).bind fun t184 => (if t184 = 3 then ((lex_IsPlain.f k (⟨#[101, 109, 112, 116, 121, 63]⟩ : ByteArray)).bind fun t185 => (if t185 = true then ((lex_IsPlain.f k (⟨#[120, 64, 108]⟩ : ByteArray)).bind fun t186 => (some (!t186))) else (some false))) else (some false))) else (some false)) else (some false)) else (some false)) else (some false)
end
def skerrylaw01_sane.f (k : Nat)  : Option (Bool) := (lex_Scan.f k (⟨#[100, 101, 102, 105, 110, 101, 32, 99, 108, 97, 115, 115, 32, 60, 112, 111, 105, 110, 116, 62, 32, 40, 60, 111, 98, 106, 101, 99, 116, 62, 41, 32, 101, 110, 100, 59]⟩ : ByteArray)).bind fun bt142 => ((lex_Scan.f k (⟨#[102, 40, 97, 32, 45, 32, 45, 51, 44, 32, 98, 45, 50, 41]⟩ : ByteArray)).bind fun bt147 => ((lex_Scan.f k (⟨#[35, 116, 114, 117, 101]⟩ : ByteArray)).bind fun bt152 => ((lex_Scan.f k (⟨#[48, 48, 55]⟩ : ByteArray)).bind fun bt157 => ((lex_Pieces.f (⟨#[97, 32, 47, 42, 32, 98, 32, 42, 47, 32, 99]⟩ : ByteArray)).bind fun bt162 => ((lex_Update.f (⟨#[97, 32, 98, 32, 99]⟩ : ByteArray) (([(⟨1, 0, 1⟩ : S50), (⟨7, 1, 1⟩ : S50), (⟨1, 2, 1⟩ : S50), (⟨7, 3, 1⟩ : S50), (⟨1, 4, 1⟩ : S50)] : List (S50))) 2 1 (⟨#[100, 100]⟩ : ByteArray)).bind fun bt170 => (if bt142.2.2 = 0 then (if bt147.2.2 = 0 then (if bt152.2.2 = 12 then (if bt157.2.2 = 11 then (if bt162.2.2 = 0 then (if bt170.2.2.2.2 = 0 then (if (bt142.1.length : Int) = 8 then (if (bt147.1.length : Int) = 8 then (if (bt162.1.length : Int) = 5 then (skerrylaw01_sane.j0 k bt142.1 bt147.1 bt152.2.1 bt162.1 ((bt170.1.length : Int) != 5) bt170.2.1 bt170.2.2.1) else (skerrylaw01_sane.j0 k bt142.1 bt147.1 bt152.2.1 bt162.1 true bt170.2.1 bt170.2.2.1)) else (skerrylaw01_sane.j0 k bt142.1 bt147.1 bt152.2.1 bt162.1 true bt170.2.1 bt170.2.2.1)) else (skerrylaw01_sane.j0 k bt142.1 bt147.1 bt152.2.1 bt162.1 true bt170.2.1 bt170.2.2.1)) else (skerrylaw01_sane.j0 k bt142.1 bt147.1 bt152.2.1 bt162.1 true bt170.2.1 bt170.2.2.1)) else (skerrylaw01_sane.j0 k bt142.1 bt147.1 bt152.2.1 bt162.1 true bt170.2.1 bt170.2.2.1)) else (skerrylaw01_sane.j0 k bt142.1 bt147.1 bt152.2.1 bt162.1 true bt170.2.1 bt170.2.2.1)) else (skerrylaw01_sane.j0 k bt142.1 bt147.1 bt152.2.1 bt162.1 true bt170.2.1 bt170.2.2.1)) else (skerrylaw01_sane.j0 k bt142.1 bt147.1 bt152.2.1 bt162.1 true bt170.2.1 bt170.2.2.1)) else (skerrylaw01_sane.j0 k bt142.1 bt147.1 bt152.2.1 bt162.1 true bt170.2.1 bt170.2.2.1)))))))
theorem skerrylaw01_sane.mono_l : ∀ k, (∀ y0 y1 y2 y3 y4 y5 y6, LeO (skerrylaw01_sane.j0 k y0 y1 y2 y3 y4 y5 y6) (skerrylaw01_sane.j0 (k + 1) y0 y1 y2 y3 y4 y5 y6)) ∧ (∀ y0 y1 y2 y3, LeO (skerrylaw01_sane.j1 k y0 y1 y2 y3) (skerrylaw01_sane.j1 (k + 1) y0 y1 y2 y3))
 | 0 => ⟨fun _ _ _ _ _ _ _ r h => by simp [skerrylaw01_sane.j0] at h, fun _ _ _ _ r h => by simp [skerrylaw01_sane.j1] at h⟩
 | k + 1 => by
  obtain ⟨ih0, ih1⟩ := skerrylaw01_sane.mono_l k
  refine ⟨?_, ?_⟩
  ·intro y0 y1 y2 y3 y4 y5 y6
   unfold skerrylaw01_sane.j0
   repeat' first
   | (with_reducible exact ih0 _ _ _ _ _ _ _)
   | (with_reducible exact ih1 _ _ _ _)
   | (with_reducible exact lex_IsPlain.mono _ _)
   | (with_reducible exact lex_Kind.mono _ _)
   | (with_reducible exact lex_Scan.mono _ _)
   | (with_reducible exact lex_Split.mono _ _)
   | (with_reducible exact LeO.refl _)
   | (with_reducible exact LeO.none _)
   | (with_reducible refine LeO.ite ?_ ?_)
   | (with_reducible refine LeO.bind ?_ (fun _ => ?_))
   | exact ih0 _ _ _ _ _ _ _
   | exact ih1 _ _ _ _
   | exact lex_IsPlain.mono _ _
   | exact lex_Kind.mono _ _
   | exact lex_Scan.mono _ _
   | exact lex_Split.mono _ _
   | exact LeO.none _
   | refine LeO.ite ?_ ?_
   | refine LeO.bind ?_ (fun _ => ?_)
  ·intro y0 y1 y2 y3
   unfold skerrylaw01_sane.j1
   repeat' first
   | (with_reducible exact ih0 _ _ _ _ _ _ _)
   | (with_reducible exact ih1 _ _ _ _)
   | (with_reducible exact lex_IsPlain.mono _ _)
   | (with_reducible exact lex_Kind.mono _ _)
   | (with_reducible exact lex_Scan.mono _ _)
   | (with_reducible exact lex_Split.mono _ _)
   | (with_reducible exact LeO.refl _)
   | (with_reducible exact LeO.none _)
   | (with_reducible refine LeO.ite ?_ ?_)
   | (with_reducible refine LeO.bind ?_ (fun _ => ?_))
   | exact ih0 _ _ _ _ _ _ _
   | exact ih1 _ _ _ _
   | exact lex_IsPlain.mono _ _
   | exact lex_Kind.mono _ _
   | exact lex_Scan.mono _ _
   | exact lex_Split.mono _ _
   | exact LeO.none _
   | refine LeO.ite ?_ ?_
   | refine LeO.bind ?_ (fun _ => ?_)
theorem skerrylaw01_sane.mono : ∀ k, LeO (skerrylaw01_sane.f k ) (skerrylaw01_sane.f (k + 1) ) := by
 intro  k
 obtain ⟨ih0, ih1⟩ := skerrylaw01_sane.mono_l k
 unfold skerrylaw01_sane.f
 repeat' first
   | (with_reducible exact ih0 _ _ _ _ _ _ _)
   | (with_reducible exact ih1 _ _ _ _)
   | (with_reducible exact lex_IsPlain.mono _ _)
   | (with_reducible exact lex_Kind.mono _ _)
   | (with_reducible exact lex_Scan.mono _ _)
   | (with_reducible exact lex_Split.mono _ _)
   | (with_reducible exact LeO.refl _)
   | (with_reducible exact LeO.none _)
   | (with_reducible refine LeO.ite ?_ ?_)
   | (with_reducible refine LeO.bind ?_ (fun _ => ?_))
   | exact ih0 _ _ _ _ _ _ _
   | exact ih1 _ _ _ _
   | exact lex_IsPlain.mono _ _
   | exact lex_Kind.mono _ _
   | exact lex_Scan.mono _ _
   | exact lex_Split.mono _ _
   | exact LeO.none _
   | refine LeO.ite ?_ ?_
   | refine LeO.bind ?_ (fun _ => ?_)
set_option maxHeartbeats 8000000 in
set_option maxRecDepth 100000 in
theorem skerrylaw01_sane.calls (k : Nat)  (r : Bool) (w : World) (h : skerrylaw01_sane.f k  = some r) (hE : Lx.Env w) :
  Calls Tryz.prog 5 #[] w fun e w' => e = .returned (.bool r) ∧ Below w.heap.size w w' := by
 have HE := Lib.hid hE
 clear hE
 have hu50 := Tryz.underlying50
 have hu24 := Tryz.underlying24
 have hu46 := Tryz.underlying46
 have HB := Aside0.mk (Below.refl w.heap.size w)
 have H : ((lex_Scan.f k (⟨#[100, 101, 102, 105, 110, 101, 32, 99, 108, 97, 115, 115, 32, 60, 112, 111, 105, 110, 116, 62, 32, 40, 60, 111, 98, 106, 101, 99, 116, 62, 41, 32, 101, 110, 100, 59]⟩ : ByteArray)).bind fun bt142 => ((lex_Scan.f k (⟨#[102, 40, 97, 32, 45, 32, 45, 51, 44, 32, 98, 45, 50, 41]⟩ : ByteArray)).bind fun bt147 => ((lex_Scan.f k (⟨#[35, 116, 114, 117, 101]⟩ : ByteArray)).bind fun bt152 => ((lex_Scan.f k (⟨#[48, 48, 55]⟩ : ByteArray)).bind fun bt157 => ((lex_Pieces.f (⟨#[97, 32, 47, 42, 32, 98, 32, 42, 47, 32, 99]⟩ : ByteArray)).bind fun bt162 => ((lex_Update.f (⟨#[97, 32, 98, 32, 99]⟩ : ByteArray) (([(⟨1, 0, 1⟩ : S50), (⟨7, 1, 1⟩ : S50), (⟨1, 2, 1⟩ : S50), (⟨7, 3, 1⟩ : S50), (⟨1, 4, 1⟩ : S50)] : List (S50))) 2 1 (⟨#[100, 100]⟩ : ByteArray)).bind fun bt170 => (if bt142.2.2 = 0 then (if bt147.2.2 = 0 then (if bt152.2.2 = 12 then (if bt157.2.2 = 11 then (if bt162.2.2 = 0 then (if bt170.2.2.2.2 = 0 then (if (bt142.1.length : Int) = 8 then (if (bt147.1.length : Int) = 8 then (if (bt162.1.length : Int) = 5 then (skerrylaw01_sane.j0 k bt142.1 bt147.1 bt152.2.1 bt162.1 ((bt170.1.length : Int) != 5) bt170.2.1 bt170.2.2.1) else (skerrylaw01_sane.j0 k bt142.1 bt147.1 bt152.2.1 bt162.1 true bt170.2.1 bt170.2.2.1)) else (skerrylaw01_sane.j0 k bt142.1 bt147.1 bt152.2.1 bt162.1 true bt170.2.1 bt170.2.2.1)) else (skerrylaw01_sane.j0 k bt142.1 bt147.1 bt152.2.1 bt162.1 true bt170.2.1 bt170.2.2.1)) else (skerrylaw01_sane.j0 k bt142.1 bt147.1 bt152.2.1 bt162.1 true bt170.2.1 bt170.2.2.1)) else (skerrylaw01_sane.j0 k bt142.1 bt147.1 bt152.2.1 bt162.1 true bt170.2.1 bt170.2.2.1)) else (skerrylaw01_sane.j0 k bt142.1 bt147.1 bt152.2.1 bt162.1 true bt170.2.1 bt170.2.2.1)) else (skerrylaw01_sane.j0 k bt142.1 bt147.1 bt152.2.1 bt162.1 true bt170.2.1 bt170.2.2.1)) else (skerrylaw01_sane.j0 k bt142.1 bt147.1 bt152.2.1 bt162.1 true bt170.2.1 bt170.2.2.1)) else (skerrylaw01_sane.j0 k bt142.1 bt147.1 bt152.2.1 bt162.1 true bt170.2.1 bt170.2.2.1)))))))) = some r := h
 clear h
 replace H := Option.bind_eq_some_iff.mp H
 obtain ⟨⟨t142, t143, t144⟩, A10, H⟩ := H
 replace H : ((lex_Scan.f k (⟨#[102, 40, 97, 32, 45, 32, 45, 51, 44, 32, 98, 45, 50, 41]⟩ : ByteArray)).bind fun bt147 => ((lex_Scan.f k (⟨#[35, 116, 114, 117, 101]⟩ : ByteArray)).bind fun bt152 => ((lex_Scan.f k (⟨#[48, 48, 55]⟩ : ByteArray)).bind fun bt157 => ((lex_Pieces.f (⟨#[97, 32, 47, 42, 32, 98, 32, 42, 47, 32, 99]⟩ : ByteArray)).bind fun bt162 => ((lex_Update.f (⟨#[97, 32, 98, 32, 99]⟩ : ByteArray) (([(⟨1, 0, 1⟩ : S50), (⟨7, 1, 1⟩ : S50), (⟨1, 2, 1⟩ : S50), (⟨7, 3, 1⟩ : S50), (⟨1, 4, 1⟩ : S50)] : List (S50))) 2 1 (⟨#[100, 100]⟩ : ByteArray)).bind fun bt170 => (if t144 = 0 then (if bt147.2.2 = 0 then (if bt152.2.2 = 12 then (if bt157.2.2 = 11 then (if bt162.2.2 = 0 then (if bt170.2.2.2.2 = 0 then (if (t142.length : Int) = 8 then (if (bt147.1.length : Int) = 8 then (if (bt162.1.length : Int) = 5 then (skerrylaw01_sane.j0 k t142 bt147.1 bt152.2.1 bt162.1 ((bt170.1.length : Int) != 5) bt170.2.1 bt170.2.2.1) else (skerrylaw01_sane.j0 k t142 bt147.1 bt152.2.1 bt162.1 true bt170.2.1 bt170.2.2.1)) else (skerrylaw01_sane.j0 k t142 bt147.1 bt152.2.1 bt162.1 true bt170.2.1 bt170.2.2.1)) else (skerrylaw01_sane.j0 k t142 bt147.1 bt152.2.1 bt162.1 true bt170.2.1 bt170.2.2.1)) else (skerrylaw01_sane.j0 k t142 bt147.1 bt152.2.1 bt162.1 true bt170.2.1 bt170.2.2.1)) else (skerrylaw01_sane.j0 k t142 bt147.1 bt152.2.1 bt162.1 true bt170.2.1 bt170.2.2.1)) else (skerrylaw01_sane.j0 k t142 bt147.1 bt152.2.1 bt162.1 true bt170.2.1 bt170.2.2.1)) else (skerrylaw01_sane.j0 k t142 bt147.1 bt152.2.1 bt162.1 true bt170.2.1 bt170.2.2.1)) else (skerrylaw01_sane.j0 k t142 bt147.1 bt152.2.1 bt162.1 true bt170.2.1 bt170.2.2.1)) else (skerrylaw01_sane.j0 k t142 bt147.1 bt152.2.1 bt162.1 true bt170.2.1 bt170.2.2.1))))))) = some r := H
 have A1 := Aside0.mk A10
 clear A10
 replace H := Option.bind_eq_some_iff.mp H
 obtain ⟨⟨t147, t148, t149⟩, A20, H⟩ := H
 replace H : ((lex_Scan.f k (⟨#[35, 116, 114, 117, 101]⟩ : ByteArray)).bind fun bt152 => ((lex_Scan.f k (⟨#[48, 48, 55]⟩ : ByteArray)).bind fun bt157 => ((lex_Pieces.f (⟨#[97, 32, 47, 42, 32, 98, 32, 42, 47, 32, 99]⟩ : ByteArray)).bind fun bt162 => ((lex_Update.f (⟨#[97, 32, 98, 32, 99]⟩ : ByteArray) (([(⟨1, 0, 1⟩ : S50), (⟨7, 1, 1⟩ : S50), (⟨1, 2, 1⟩ : S50), (⟨7, 3, 1⟩ : S50), (⟨1, 4, 1⟩ : S50)] : List (S50))) 2 1 (⟨#[100, 100]⟩ : ByteArray)).bind fun bt170 => (if t144 = 0 then (if t149 = 0 then (if bt152.2.2 = 12 then (if bt157.2.2 = 11 then (if bt162.2.2 = 0 then (if bt170.2.2.2.2 = 0 then (if (t142.length : Int) = 8 then (if (t147.length : Int) = 8 then (if (bt162.1.length : Int) = 5 then (skerrylaw01_sane.j0 k t142 t147 bt152.2.1 bt162.1 ((bt170.1.length : Int) != 5) bt170.2.1 bt170.2.2.1) else (skerrylaw01_sane.j0 k t142 t147 bt152.2.1 bt162.1 true bt170.2.1 bt170.2.2.1)) else (skerrylaw01_sane.j0 k t142 t147 bt152.2.1 bt162.1 true bt170.2.1 bt170.2.2.1)) else (skerrylaw01_sane.j0 k t142 t147 bt152.2.1 bt162.1 true bt170.2.1 bt170.2.2.1)) else (skerrylaw01_sane.j0 k t142 t147 bt152.2.1 bt162.1 true bt170.2.1 bt170.2.2.1)) else (skerrylaw01_sane.j0 k t142 t147 bt152.2.1 bt162.1 true bt170.2.1 bt170.2.2.1)) else (skerrylaw01_sane.j0 k t142 t147 bt152.2.1 bt162.1 true bt170.2.1 bt170.2.2.1)) else (skerrylaw01_sane.j0 k t142 t147 bt152.2.1 bt162.1 true bt170.2.1 bt170.2.2.1)) else (skerrylaw01_sane.j0 k t142 t147 bt152.2.1 bt162.1 true bt170.2.1 bt170.2.2.1)) else (skerrylaw01_sane.j0 k t142 t147 bt152.2.1 bt162.1 true bt170.2.1 bt170.2.2.1)))))) = some r := H
 have A2 := Aside0.mk A20
 clear A20
 replace H := Option.bind_eq_some_iff.mp H
 obtain ⟨⟨t152, t153, t154⟩, A30, H⟩ := H
 replace H : ((lex_Scan.f k (⟨#[48, 48, 55]⟩ : ByteArray)).bind fun bt157 => ((lex_Pieces.f (⟨#[97, 32, 47, 42, 32, 98, 32, 42, 47, 32, 99]⟩ : ByteArray)).bind fun bt162 => ((lex_Update.f (⟨#[97, 32, 98, 32, 99]⟩ : ByteArray) (([(⟨1, 0, 1⟩ : S50), (⟨7, 1, 1⟩ : S50), (⟨1, 2, 1⟩ : S50), (⟨7, 3, 1⟩ : S50), (⟨1, 4, 1⟩ : S50)] : List (S50))) 2 1 (⟨#[100, 100]⟩ : ByteArray)).bind fun bt170 => (if t144 = 0 then (if t149 = 0 then (if t154 = 12 then (if bt157.2.2 = 11 then (if bt162.2.2 = 0 then (if bt170.2.2.2.2 = 0 then (if (t142.length : Int) = 8 then (if (t147.length : Int) = 8 then (if (bt162.1.length : Int) = 5 then (skerrylaw01_sane.j0 k t142 t147 t153 bt162.1 ((bt170.1.length : Int) != 5) bt170.2.1 bt170.2.2.1) else (skerrylaw01_sane.j0 k t142 t147 t153 bt162.1 true bt170.2.1 bt170.2.2.1)) else (skerrylaw01_sane.j0 k t142 t147 t153 bt162.1 true bt170.2.1 bt170.2.2.1)) else (skerrylaw01_sane.j0 k t142 t147 t153 bt162.1 true bt170.2.1 bt170.2.2.1)) else (skerrylaw01_sane.j0 k t142 t147 t153 bt162.1 true bt170.2.1 bt170.2.2.1)) else (skerrylaw01_sane.j0 k t142 t147 t153 bt162.1 true bt170.2.1 bt170.2.2.1)) else (skerrylaw01_sane.j0 k t142 t147 t153 bt162.1 true bt170.2.1 bt170.2.2.1)) else (skerrylaw01_sane.j0 k t142 t147 t153 bt162.1 true bt170.2.1 bt170.2.2.1)) else (skerrylaw01_sane.j0 k t142 t147 t153 bt162.1 true bt170.2.1 bt170.2.2.1)) else (skerrylaw01_sane.j0 k t142 t147 t153 bt162.1 true bt170.2.1 bt170.2.2.1))))) = some r := H
 have A3 := Aside0.mk A30
 clear A30
 replace H := Option.bind_eq_some_iff.mp H
 obtain ⟨⟨t157, t158, t159⟩, A40, H⟩ := H
 replace H : ((lex_Pieces.f (⟨#[97, 32, 47, 42, 32, 98, 32, 42, 47, 32, 99]⟩ : ByteArray)).bind fun bt162 => ((lex_Update.f (⟨#[97, 32, 98, 32, 99]⟩ : ByteArray) (([(⟨1, 0, 1⟩ : S50), (⟨7, 1, 1⟩ : S50), (⟨1, 2, 1⟩ : S50), (⟨7, 3, 1⟩ : S50), (⟨1, 4, 1⟩ : S50)] : List (S50))) 2 1 (⟨#[100, 100]⟩ : ByteArray)).bind fun bt170 => (if t144 = 0 then (if t149 = 0 then (if t154 = 12 then (if t159 = 11 then (if bt162.2.2 = 0 then (if bt170.2.2.2.2 = 0 then (if (t142.length : Int) = 8 then (if (t147.length : Int) = 8 then (if (bt162.1.length : Int) = 5 then (skerrylaw01_sane.j0 k t142 t147 t153 bt162.1 ((bt170.1.length : Int) != 5) bt170.2.1 bt170.2.2.1) else (skerrylaw01_sane.j0 k t142 t147 t153 bt162.1 true bt170.2.1 bt170.2.2.1)) else (skerrylaw01_sane.j0 k t142 t147 t153 bt162.1 true bt170.2.1 bt170.2.2.1)) else (skerrylaw01_sane.j0 k t142 t147 t153 bt162.1 true bt170.2.1 bt170.2.2.1)) else (skerrylaw01_sane.j0 k t142 t147 t153 bt162.1 true bt170.2.1 bt170.2.2.1)) else (skerrylaw01_sane.j0 k t142 t147 t153 bt162.1 true bt170.2.1 bt170.2.2.1)) else (skerrylaw01_sane.j0 k t142 t147 t153 bt162.1 true bt170.2.1 bt170.2.2.1)) else (skerrylaw01_sane.j0 k t142 t147 t153 bt162.1 true bt170.2.1 bt170.2.2.1)) else (skerrylaw01_sane.j0 k t142 t147 t153 bt162.1 true bt170.2.1 bt170.2.2.1)) else (skerrylaw01_sane.j0 k t142 t147 t153 bt162.1 true bt170.2.1 bt170.2.2.1)))) = some r := H
 have A4 := Aside0.mk A40
 clear A40
 replace H := Option.bind_eq_some_iff.mp H
 obtain ⟨⟨t162, t163, t164⟩, A50, H⟩ := H
 replace H : ((lex_Update.f (⟨#[97, 32, 98, 32, 99]⟩ : ByteArray) (([(⟨1, 0, 1⟩ : S50), (⟨7, 1, 1⟩ : S50), (⟨1, 2, 1⟩ : S50), (⟨7, 3, 1⟩ : S50), (⟨1, 4, 1⟩ : S50)] : List (S50))) 2 1 (⟨#[100, 100]⟩ : ByteArray)).bind fun bt170 => (if t144 = 0 then (if t149 = 0 then (if t154 = 12 then (if t159 = 11 then (if t164 = 0 then (if bt170.2.2.2.2 = 0 then (if (t142.length : Int) = 8 then (if (t147.length : Int) = 8 then (if (t162.length : Int) = 5 then (skerrylaw01_sane.j0 k t142 t147 t153 t162 ((bt170.1.length : Int) != 5) bt170.2.1 bt170.2.2.1) else (skerrylaw01_sane.j0 k t142 t147 t153 t162 true bt170.2.1 bt170.2.2.1)) else (skerrylaw01_sane.j0 k t142 t147 t153 t162 true bt170.2.1 bt170.2.2.1)) else (skerrylaw01_sane.j0 k t142 t147 t153 t162 true bt170.2.1 bt170.2.2.1)) else (skerrylaw01_sane.j0 k t142 t147 t153 t162 true bt170.2.1 bt170.2.2.1)) else (skerrylaw01_sane.j0 k t142 t147 t153 t162 true bt170.2.1 bt170.2.2.1)) else (skerrylaw01_sane.j0 k t142 t147 t153 t162 true bt170.2.1 bt170.2.2.1)) else (skerrylaw01_sane.j0 k t142 t147 t153 t162 true bt170.2.1 bt170.2.2.1)) else (skerrylaw01_sane.j0 k t142 t147 t153 t162 true bt170.2.1 bt170.2.2.1)) else (skerrylaw01_sane.j0 k t142 t147 t153 t162 true bt170.2.1 bt170.2.2.1))) = some r := H
 have A5 := Aside0.mk A50
 clear A50
 obtain ⟨y167, hy167⟩ : ∃ y_ : List (S50), y_ = (([(⟨1, 0, 1⟩ : S50), (⟨7, 1, 1⟩ : S50), (⟨1, 2, 1⟩ : S50), (⟨7, 3, 1⟩ : S50), (⟨1, 4, 1⟩ : S50)] : List (S50))) := ⟨_, rfl⟩
 replace H : ((lex_Update.f (⟨#[97, 32, 98, 32, 99]⟩ : ByteArray) y167 2 1 (⟨#[100, 100]⟩ : ByteArray)).bind fun bt170 => (if t144 = 0 then (if t149 = 0 then (if t154 = 12 then (if t159 = 11 then (if t164 = 0 then (if bt170.2.2.2.2 = 0 then (if (t142.length : Int) = 8 then (if (t147.length : Int) = 8 then (if (t162.length : Int) = 5 then (skerrylaw01_sane.j0 k t142 t147 t153 t162 ((bt170.1.length : Int) != 5) bt170.2.1 bt170.2.2.1) else (skerrylaw01_sane.j0 k t142 t147 t153 t162 true bt170.2.1 bt170.2.2.1)) else (skerrylaw01_sane.j0 k t142 t147 t153 t162 true bt170.2.1 bt170.2.2.1)) else (skerrylaw01_sane.j0 k t142 t147 t153 t162 true bt170.2.1 bt170.2.2.1)) else (skerrylaw01_sane.j0 k t142 t147 t153 t162 true bt170.2.1 bt170.2.2.1)) else (skerrylaw01_sane.j0 k t142 t147 t153 t162 true bt170.2.1 bt170.2.2.1)) else (skerrylaw01_sane.j0 k t142 t147 t153 t162 true bt170.2.1 bt170.2.2.1)) else (skerrylaw01_sane.j0 k t142 t147 t153 t162 true bt170.2.1 bt170.2.2.1)) else (skerrylaw01_sane.j0 k t142 t147 t153 t162 true bt170.2.1 bt170.2.2.1)) else (skerrylaw01_sane.j0 k t142 t147 t153 t162 true bt170.2.1 bt170.2.2.1))) = some r := by first | (rw [hy167]; with_reducible exact H) | (have H2_ := (Option.bind_some _ _).symm.trans H; rw [hy167]; with_reducible exact H2_) | (have H2_ := (Option.bind_some _ _).symm.trans H; with_reducible exact H2_) | with_reducible exact H | (rw [hy167]; exact H) | exact H
 have Ny167 := Aside0.mk hy167
 clear hy167
 replace H := Option.bind_eq_some_iff.mp H
 obtain ⟨⟨t170, t173, t174, t175, t176⟩, A60, H⟩ := H
 replace H : (if t144 = 0 then (if t149 = 0 then (if t154 = 12 then (if t159 = 11 then (if t164 = 0 then (if t176 = 0 then (if (t142.length : Int) = 8 then (if (t147.length : Int) = 8 then (if (t162.length : Int) = 5 then (skerrylaw01_sane.j0 k t142 t147 t153 t162 ((t170.length : Int) != 5) t173 t174) else (skerrylaw01_sane.j0 k t142 t147 t153 t162 true t173 t174)) else (skerrylaw01_sane.j0 k t142 t147 t153 t162 true t173 t174)) else (skerrylaw01_sane.j0 k t142 t147 t153 t162 true t173 t174)) else (skerrylaw01_sane.j0 k t142 t147 t153 t162 true t173 t174)) else (skerrylaw01_sane.j0 k t142 t147 t153 t162 true t173 t174)) else (skerrylaw01_sane.j0 k t142 t147 t153 t162 true t173 t174)) else (skerrylaw01_sane.j0 k t142 t147 t153 t162 true t173 t174)) else (skerrylaw01_sane.j0 k t142 t147 t153 t162 true t173 t174)) else (skerrylaw01_sane.j0 k t142 t147 t153 t162 true t173 t174)) = some r := H
 have A6 := Aside0.mk A60
 clear A60
 have HC7 := Aside0.mk H
 clear H
 go_enter Tryz.func5, Tryz.ntmps5
 go_upto_region 7 with (first | ((with_reducible refine gate_callee (f := 18) rfl ?_); refine goesL_ (some 24) rfl rfl Tryz.func18 (by kernel_rfl) rfl #[.string (⟨#[100, 101, 102, 105, 110, 101, 32, 99, 108, 97, 115, 115, 32, 60, 112, 111, 105, 110, 116, 62, 32, 40, 60, 111, 98, 106, 101, 99, 116, 62, 41, 32, 101, 110, 100, 59]⟩ : ByteArray)] rfl (by (try simp only [List.map_toArray, List.map_cons, List.map_nil]); first | done | rfl | (simp only [List.length_drop, List.length_take]; rfl)) ?_; (with_reducible refine (lex_Scan.calls k (⟨#[100, 101, 102, 105, 110, 101, 32, 99, 108, 97, 115, 115, 32, 60, 112, 111, 105, 110, 116, 62, 32, 40, 60, 111, 98, 106, 101, 99, 116, 62, 41, 32, 101, 110, 100, 59]⟩ : ByteArray) t142 t143 t144 _ A1.out (Lx.Env.below HE.out (by repeat (first | (with_reducible first | exact HB.out | apply below_alloc | apply pw_below_drewN | apply below_drew1 | refine below_set ?_ GE177.out) | exact HB.out)))).mono ?_); rintro e w8 ⟨v145, rfl, ho0, hb⟩; refine ⟨_, rfl, ?_⟩; have n0_ := Aside0.mk (Kd.R_lower ho0 (below_size (by repeat (first | (with_reducible first | exact HB.out | apply below_alloc | apply pw_below_drewN | apply below_drew1) | exact HB.out)))); have n1_ := Aside0.mk (below_step (by repeat (first | (with_reducible first | exact HB.out | apply below_alloc | apply pw_below_drewN | apply below_drew1) | exact HB.out)) hb); clear HB; have HO146 := n0_; have HB := n1_; clear n0_ n1_; (try clear hb); (try clear hb2); (try clear hk); (try clear hi); (try clear ho0)) | ((with_reducible refine gate_callee (f := 18) rfl ?_); refine goesL_ (some 29) rfl rfl Tryz.func18 (by kernel_rfl) rfl #[.string (⟨#[102, 40, 97, 32, 45, 32, 45, 51, 44, 32, 98, 45, 50, 41]⟩ : ByteArray)] rfl (by (try simp only [List.map_toArray, List.map_cons, List.map_nil]); first | done | rfl | (simp only [List.length_drop, List.length_take]; rfl)) ?_; (with_reducible refine (lex_Scan.calls k (⟨#[102, 40, 97, 32, 45, 32, 45, 51, 44, 32, 98, 45, 50, 41]⟩ : ByteArray) t147 t148 t149 _ A2.out (Lx.Env.below HE.out (by repeat (first | (with_reducible first | exact HB.out | apply below_alloc | apply pw_below_drewN | apply below_drew1 | refine below_set ?_ GE177.out) | exact HB.out)))).mono ?_); rintro e w9 ⟨v150, rfl, ho0, hb⟩; refine ⟨_, rfl, ?_⟩; have n0_ := Aside0.mk (Kd.R_elder' (by (with_reducible repeat (first | apply Kd.R_alloc | apply Kd.R_drewN | apply Kd.R_drew)); exact HO146.out) (Kd.R_base ho0) hb); have n1_ := Aside0.mk (Kd.R_lower (Kd.R_new' ho0 (Kd.R_lt (by (with_reducible repeat (first | apply Kd.R_alloc | apply Kd.R_drewN | apply Kd.R_drew)); exact HO146.out))) (below_size (by repeat (first | (with_reducible first | exact HB.out | apply below_alloc | apply pw_below_drewN | apply below_drew1) | exact HB.out)))); have n2_ := Aside0.mk (below_step (by repeat (first | (with_reducible first | exact HB.out | apply below_alloc | apply pw_below_drewN | apply below_drew1) | exact HB.out)) hb); clear HO146; clear HB; have HO146 := n0_; have HO151 := n1_; have HB := n2_; clear n0_ n1_ n2_; (try clear hb); (try clear hb2); (try clear hk); (try clear hi); (try clear ho0)) | ((with_reducible refine gate_callee (f := 18) rfl ?_); refine goesL_ (some 34) rfl rfl Tryz.func18 (by kernel_rfl) rfl #[.string (⟨#[35, 116, 114, 117, 101]⟩ : ByteArray)] rfl (by (try simp only [List.map_toArray, List.map_cons, List.map_nil]); first | done | rfl | (simp only [List.length_drop, List.length_take]; rfl)) ?_; (with_reducible refine (lex_Scan.calls k (⟨#[35, 116, 114, 117, 101]⟩ : ByteArray) t152 t153 t154 _ A3.out (Lx.Env.below HE.out (by repeat (first | (with_reducible first | exact HB.out | apply below_alloc | apply pw_below_drewN | apply below_drew1 | refine below_set ?_ GE177.out) | exact HB.out)))).mono ?_); rintro e w10 ⟨v155, rfl, ho0, hb⟩; refine ⟨_, rfl, ?_⟩; have n0_ := Aside0.mk (Kd.R_elder' (by (with_reducible repeat (first | apply Kd.R_alloc | apply Kd.R_drewN | apply Kd.R_drew)); exact HO146.out) (Kd.R_base ho0) hb); have n1_ := Aside0.mk (Kd.R_elder' (by (with_reducible repeat (first | apply Kd.R_alloc | apply Kd.R_drewN | apply Kd.R_drew)); exact HO151.out) (Kd.R_base ho0) hb); have n2_ := Aside0.mk (Kd.R_lower (Kd.R_new' (Kd.R_new' ho0 (Kd.R_lt (by (with_reducible repeat (first | apply Kd.R_alloc | apply Kd.R_drewN | apply Kd.R_drew)); exact HO146.out))) (Kd.R_lt (by (with_reducible repeat (first | apply Kd.R_alloc | apply Kd.R_drewN | apply Kd.R_drew)); exact HO151.out))) (below_size (by repeat (first | (with_reducible first | exact HB.out | apply below_alloc | apply pw_below_drewN | apply below_drew1) | exact HB.out)))); have n3_ := Aside0.mk (below_step (by repeat (first | (with_reducible first | exact HB.out | apply below_alloc | apply pw_below_drewN | apply below_drew1) | exact HB.out)) hb); clear HO146; clear HO151; clear HB; have HO146 := n0_; have HO151 := n1_; have HO156 := n2_; have HB := n3_; clear n0_ n1_ n2_ n3_; (try clear hb); (try clear hb2); (try clear hk); (try clear hi); (try clear ho0)) | ((with_reducible refine gate_callee (f := 18) rfl ?_); refine goesL_ (some 39) rfl rfl Tryz.func18 (by kernel_rfl) rfl #[.string (⟨#[48, 48, 55]⟩ : ByteArray)] rfl (by (try simp only [List.map_toArray, List.map_cons, List.map_nil]); first | done | rfl | (simp only [List.length_drop, List.length_take]; rfl)) ?_; (with_reducible refine (lex_Scan.calls k (⟨#[48, 48, 55]⟩ : ByteArray) t157 t158 t159 _ A4.out (Lx.Env.below HE.out (by repeat (first | (with_reducible first | exact HB.out | apply below_alloc | apply pw_below_drewN | apply below_drew1 | refine below_set ?_ GE177.out) | exact HB.out)))).mono ?_); rintro e w11 ⟨v160, rfl, ho0, hb⟩; refine ⟨_, rfl, ?_⟩; have n0_ := Aside0.mk (Kd.R_elder' (by (with_reducible repeat (first | apply Kd.R_alloc | apply Kd.R_drewN | apply Kd.R_drew)); exact HO146.out) (Kd.R_base ho0) hb); have n1_ := Aside0.mk (Kd.R_elder' (by (with_reducible repeat (first | apply Kd.R_alloc | apply Kd.R_drewN | apply Kd.R_drew)); exact HO151.out) (Kd.R_base ho0) hb); have n2_ := Aside0.mk (Kd.R_elder' (by (with_reducible repeat (first | apply Kd.R_alloc | apply Kd.R_drewN | apply Kd.R_drew)); exact HO156.out) (Kd.R_base ho0) hb); have n3_ := Aside0.mk (Kd.R_lower (Kd.R_new' (Kd.R_new' (Kd.R_new' ho0 (Kd.R_lt (by (with_reducible repeat (first | apply Kd.R_alloc | apply Kd.R_drewN | apply Kd.R_drew)); exact HO146.out))) (Kd.R_lt (by (with_reducible repeat (first | apply Kd.R_alloc | apply Kd.R_drewN | apply Kd.R_drew)); exact HO151.out))) (Kd.R_lt (by (with_reducible repeat (first | apply Kd.R_alloc | apply Kd.R_drewN | apply Kd.R_drew)); exact HO156.out))) (below_size (by repeat (first | (with_reducible first | exact HB.out | apply below_alloc | apply pw_below_drewN | apply below_drew1) | exact HB.out)))); have n4_ := Aside0.mk (below_step (by repeat (first | (with_reducible first | exact HB.out | apply below_alloc | apply pw_below_drewN | apply below_drew1) | exact HB.out)) hb); clear HO146; clear HO151; clear HO156; clear HB; have HO146 := n0_; have HO151 := n1_; have HO156 := n2_; have HO161 := n3_; have HB := n4_; clear n0_ n1_ n2_ n3_ n4_; (try clear hb); (try clear hb2); (try clear hk); (try clear hi); (try clear ho0)) | ((with_reducible refine gate_callee (f := 19) rfl ?_); refine goesL_ (some 44) rfl rfl Tryz.func19 (by kernel_rfl) rfl #[.string (⟨#[97, 32, 47, 42, 32, 98, 32, 42, 47, 32, 99]⟩ : ByteArray)] rfl (by (try simp only [List.map_toArray, List.map_cons, List.map_nil]); first | done | rfl | (simp only [List.length_drop, List.length_take]; rfl)) ?_; (with_reducible refine (lex_Pieces.calls (⟨#[97, 32, 47, 42, 32, 98, 32, 42, 47, 32, 99]⟩ : ByteArray) t162 t163 t164 _ A5.out (Lx.Env.below HE.out (by repeat (first | (with_reducible first | exact HB.out | apply below_alloc | apply pw_below_drewN | apply below_drew1 | refine below_set ?_ GE177.out) | exact HB.out)))).mono ?_); rintro e w12 ⟨v165, rfl, ho0, hb⟩; refine ⟨_, rfl, ?_⟩; have n0_ := Aside0.mk (Kd.R_below (by (with_reducible repeat (first | apply Kd.R_alloc | apply Kd.R_drewN | apply Kd.R_drew)); exact HO146.out) hb); have n1_ := Aside0.mk (Kd.R_below (by (with_reducible repeat (first | apply Kd.R_alloc | apply Kd.R_drewN | apply Kd.R_drew)); exact HO151.out) hb); have n2_ := Aside0.mk (Kd.R_below (by (with_reducible repeat (first | apply Kd.R_alloc | apply Kd.R_drewN | apply Kd.R_drew)); exact HO156.out) hb); have n3_ := Aside0.mk (Kd.R_below (by (with_reducible repeat (first | apply Kd.R_alloc | apply Kd.R_drewN | apply Kd.R_drew)); exact HO161.out) hb); have n4_ := Aside0.mk (Kd.R_lower ho0 (below_size (by repeat (first | (with_reducible first | exact HB.out | apply below_alloc | apply pw_below_drewN | apply below_drew1) | exact HB.out)))); have n5_ := Aside0.mk (below_step (by repeat (first | (with_reducible first | exact HB.out | apply below_alloc | apply pw_below_drewN | apply below_drew1) | exact HB.out)) hb); clear HO146; clear HO151; clear HO156; clear HO161; clear HB; have HO146 := n0_; have HO151 := n1_; have HO156 := n2_; have HO161 := n3_; have HO166 := n4_; have HB := n5_; clear n0_ n1_ n2_ n3_ n4_ n5_; (try clear hb); (try clear hb2); (try clear hk); (try clear hi); (try clear ho0)) | ((with_reducible refine gate_dst (N := 54) rfl ?_); refine Kd.R_lit k50 _ 50 ?hg (N := 54) ?hd (xs := ([(⟨1, 0, 1⟩ : S50), (⟨7, 1, 1⟩ : S50), (⟨1, 2, 1⟩ : S50), (⟨7, 3, 1⟩ : S50), (⟨1, 4, 1⟩ : S50)] : List (S50))) (inner := [.int .i64 1, .int .i64 0, .int .i64 1, .int .i64 7, .int .i64 1, .int .i64 1, .int .i64 1, .int .i64 2, .int .i64 1, .int .i64 7, .int .i64 3, .int .i64 1, .int .i64 1, .int .i64 4, .int .i64 1]) (ok := fun _ => True) (okp := fun _ => True) ?hr ?hp (fun _ hk => hk) trivial (Below.refl _ _) (Nat.le_refl _) (by simp) ?_; (case hd => rfl); (case hg => rfl); (case hr => first | (go_simp; done) | (go_simp; rfl)); (case hp => exact (Reps.c3 (show Kd.M k50 _ _ _ (⟨1, 0, 1⟩ : S50) [.int .i64 1, .int .i64 0, .int .i64 1] from (k50_mkM _ _ _ (⟨1, 0, 1⟩ : S50) )) (Reps.c3 (show Kd.M k50 _ _ _ (⟨7, 1, 1⟩ : S50) [.int .i64 7, .int .i64 1, .int .i64 1] from (k50_mkM _ _ _ (⟨7, 1, 1⟩ : S50) )) (Reps.c3 (show Kd.M k50 _ _ _ (⟨1, 2, 1⟩ : S50) [.int .i64 1, .int .i64 2, .int .i64 1] from (k50_mkM _ _ _ (⟨1, 2, 1⟩ : S50) )) (Reps.c3 (show Kd.M k50 _ _ _ (⟨7, 3, 1⟩ : S50) [.int .i64 7, .int .i64 3, .int .i64 1] from (k50_mkM _ _ _ (⟨7, 3, 1⟩ : S50) )) (Reps.c3 (show Kd.M k50 _ _ _ (⟨1, 4, 1⟩ : S50) [.int .i64 1, .int .i64 4, .int .i64 1] from (k50_mkM _ _ _ (⟨1, 4, 1⟩ : S50) )) (Reps.none _ _))))))); intro v168 w13 ho14 hb hg_ hnew_; clear hg_ hnew_; (first | rw [← Ny167.out] at ho14 | (simp only [Int.reduceToNat] at ho14; rw [← Ny167.out] at ho14)); have n0_ := Aside0.mk (Kd.R_below (by (with_reducible repeat (first | apply Kd.R_alloc | apply Kd.R_drewN | apply Kd.R_drew)); exact HO146.out) hb); have n1_ := Aside0.mk (Kd.R_below (by (with_reducible repeat (first | apply Kd.R_alloc | apply Kd.R_drewN | apply Kd.R_drew)); exact HO151.out) hb); have n2_ := Aside0.mk (Kd.R_below (by (with_reducible repeat (first | apply Kd.R_alloc | apply Kd.R_drewN | apply Kd.R_drew)); exact HO156.out) hb); have n3_ := Aside0.mk (Kd.R_below (by (with_reducible repeat (first | apply Kd.R_alloc | apply Kd.R_drewN | apply Kd.R_drew)); exact HO161.out) hb); have n4_ := Aside0.mk (Kd.R_elder' (by (with_reducible repeat (first | apply Kd.R_alloc | apply Kd.R_drewN | apply Kd.R_drew)); exact HO166.out) (Kd.R_base ho14) hb); have n5_ := Aside0.mk (Kd.R_lower (Kd.R_new' ho14 (Kd.R_lt (by (with_reducible repeat (first | apply Kd.R_alloc | apply Kd.R_drewN | apply Kd.R_drew)); exact HO166.out))) (below_size (by repeat (first | (with_reducible first | exact HB.out | apply below_alloc | apply pw_below_drewN | apply below_drew1) | exact HB.out)))); have n6_ := Aside0.mk (below_step (by repeat (first | (with_reducible first | exact HB.out | apply below_alloc | apply pw_below_drewN | apply below_drew1) | exact HB.out)) hb); clear HO146; clear HO151; clear HO156; clear HO161; clear HO166; clear HB; have HO146 := n0_; have HO151 := n1_; have HO156 := n2_; have HO161 := n3_; have HO166 := n4_; have HO169 := n5_; have HB := n6_; clear n0_ n1_ n2_ n3_ n4_ n5_ n6_; clear hb ho14; obtain ⟨Ao15, co15, eo15⟩ := Kd.R_slice HO169.out; subst eo15) | ((with_reducible refine gate_callee (f := 20) rfl ?_); refine goesL_ (some 56) rfl rfl Tryz.func20 (by kernel_rfl) rfl #[.string (⟨#[97, 32, 98, 32, 99]⟩ : ByteArray), .slice Ao15 y167.length co15, .agg #[.int .i64 2, .int .i64 1, .string (⟨#[100, 100]⟩ : ByteArray)]] rfl (by (try simp only [List.map_toArray, List.map_cons, List.map_nil]); first | done | rfl | (simp only [List.length_drop, List.length_take]; rfl)) ?_; (with_reducible refine (lex_Update.calls (⟨#[97, 32, 98, 32, 99]⟩ : ByteArray) _ _ y167 2 1 (⟨#[100, 100]⟩ : ByteArray) t170 t173 t174 t175 t176 _ ?side1 ?side2 A6.out (Lx.Env.below HE.out (by repeat (first | (with_reducible first | exact HB.out | apply below_alloc | apply pw_below_drewN | apply below_drew1 | refine below_set ?_ GE177.out) | exact HB.out)))).mono ?_); (case side1 => repeat (first | exact (Kd.R_reads' HO169.out).2.2 | (with_reducible refine Kd.C_alloc ?_ _) | (with_reducible refine Kd.C_drewN ?_ _) | (with_reducible refine Kd.C_drew ?_))); (case side2 => exact (Kd.R_reads' HO169.out).2.1); rintro e w16 ⟨v171, rfl, ho0, hb⟩; refine ⟨_, rfl, ?_⟩; have n0_ := Aside0.mk (Kd.R_below (by (with_reducible repeat (first | apply Kd.R_alloc | apply Kd.R_drewN | apply Kd.R_drew)); exact HO146.out) hb); have n1_ := Aside0.mk (Kd.R_below (by (with_reducible repeat (first | apply Kd.R_alloc | apply Kd.R_drewN | apply Kd.R_drew)); exact HO151.out) hb); have n2_ := Aside0.mk (Kd.R_below (by (with_reducible repeat (first | apply Kd.R_alloc | apply Kd.R_drewN | apply Kd.R_drew)); exact HO156.out) hb); have n3_ := Aside0.mk (Kd.R_below (by (with_reducible repeat (first | apply Kd.R_alloc | apply Kd.R_drewN | apply Kd.R_drew)); exact HO161.out) hb); have n4_ := Aside0.mk (Kd.R_elder' (by (with_reducible repeat (first | apply Kd.R_alloc | apply Kd.R_drewN | apply Kd.R_drew)); exact HO166.out) (Kd.R_base ho0) hb); have n5_ := Aside0.mk (Kd.R_elder' (by (with_reducible repeat (first | apply Kd.R_alloc | apply Kd.R_drewN | apply Kd.R_drew)); exact HO169.out) (Kd.R_base ho0) hb); have n6_ := Aside0.mk (Kd.R_lower (Kd.R_new' (Kd.R_new' ho0 (Kd.R_lt (by (with_reducible repeat (first | apply Kd.R_alloc | apply Kd.R_drewN | apply Kd.R_drew)); exact HO166.out))) (Kd.R_lt (by (with_reducible repeat (first | apply Kd.R_alloc | apply Kd.R_drewN | apply Kd.R_drew)); exact HO169.out))) (below_size (by repeat (first | (with_reducible first | exact HB.out | apply below_alloc | apply pw_below_drewN | apply below_drew1) | exact HB.out)))); have n7_ := Aside0.mk (below_step (by repeat (first | (with_reducible first | exact HB.out | apply below_alloc | apply pw_below_drewN | apply below_drew1) | exact HB.out)) hb); clear HO146; clear HO151; clear HO156; clear HO161; clear HO166; clear HO169; clear HB; have HO146 := n0_; have HO151 := n1_; have HO156 := n2_; have HO161 := n3_; have HO166 := n4_; have HO169 := n5_; have HO172 := n6_; have HB := n7_; clear n0_ n1_ n2_ n3_ n4_ n5_ n6_ n7_; (try clear hb); (try clear hb2); (try clear hk); (try clear hi); (try clear ho0)) | ((with_reducible refine gate_dst (N := 17) rfl ?_); refine box_event ?hg (N := 17) ?hd (cs := #[.int .i64 0, .int .i64 0]) (t := 46) ?hr ?_; (case hd => rfl); (case hg => rfl); (case hr => first | (go_simp; done) | (go_simp; rfl)); intro gb177 hg w17 hbox hb; have n0_ := Aside0.mk (Kd.R_below (by (with_reducible repeat (first | apply Kd.R_alloc | apply Kd.R_drewN | apply Kd.R_drew)); exact HO146.out) hb); have n1_ := Aside0.mk (Kd.R_below (by (with_reducible repeat (first | apply Kd.R_alloc | apply Kd.R_drewN | apply Kd.R_drew)); exact HO151.out) hb); have n2_ := Aside0.mk (Kd.R_below (by (with_reducible repeat (first | apply Kd.R_alloc | apply Kd.R_drewN | apply Kd.R_drew)); exact HO156.out) hb); have n3_ := Aside0.mk (Kd.R_below (by (with_reducible repeat (first | apply Kd.R_alloc | apply Kd.R_drewN | apply Kd.R_drew)); exact HO161.out) hb); have n4_ := Aside0.mk (Kd.R_below (by (with_reducible repeat (first | apply Kd.R_alloc | apply Kd.R_drewN | apply Kd.R_drew)); exact HO166.out) hb); have n5_ := Aside0.mk (Kd.R_below (by (with_reducible repeat (first | apply Kd.R_alloc | apply Kd.R_drewN | apply Kd.R_drew)); exact HO169.out) hb); have n6_ := Aside0.mk (Kd.R_below (by (with_reducible repeat (first | apply Kd.R_alloc | apply Kd.R_drewN | apply Kd.R_drew)); exact HO172.out) hb); have n7_ := Aside0.mk (below_step (by repeat (first | (with_reducible first | exact HB.out | apply below_alloc | apply pw_below_drewN | apply below_drew1) | exact HB.out)) hb); have n8_ := Aside0.mk (hbox); have n9_ := Aside0.mk ((by rw [hg]; exact (below_size (by repeat (first | (with_reducible first | exact HB.out | apply below_alloc | apply pw_below_drewN | apply below_drew1) | exact HB.out))) : w.heap.size ≤ gb177)); have n10_ := Aside0.mk ((by rw [hg]; exact (below_size (by repeat (first | (with_reducible first | exact HB.out | apply below_alloc | apply pw_below_drewN | apply below_drew1) | exact HB.out))) : w.heap.size ≤ gb177)); clear HO146; clear HO151; clear HO156; clear HO161; clear HO166; clear HO169; clear HO172; clear HB; have HO146 := n0_; have HO151 := n1_; have HO156 := n2_; have HO161 := n3_; have HO166 := n4_; have HO169 := n5_; have HO172 := n6_; have HB := n7_; have BK177 := n8_; have GW177 := n9_; have GE177 := n10_; clear n0_ n1_ n2_ n3_ n4_ n5_ n6_ n7_ n8_ n9_ n10_; clear hb hbox hg; have hcz18_0 : w17.cell? ⟨gb177, 0, none⟩ = some (.int .i64 0) := (blk_cell BK177.out 0).trans rfl; have hcz18_1 : w17.cell? ⟨gb177, 1, none⟩ = some (.int .i64 0) := (blk_cell BK177.out 1).trans rfl; have hfz18_0 := blk_frozen BK177.out 0; have hfz18_1 := blk_frozen BK177.out 1))
 (try simp only [Act.put, List.setIfInBounds_toArray, List.set_cons_zero, List.set_cons_succ])
 go_cut [102] (fun v102 wc => ∃ (kq : Nat) (x102_6 : Bool), v102 = .bool x102_6 ∧ Aside0 (skerrylaw01_sane.j0 kq t142 t147 t153 t162 x102_6 t173 t174 = some r) ∧ Aside0 (kq ≤ k) ∧ Aside0 (Kd.R k37 37 wc w.heap.size (fun k_ => some k_ ≠ (v150 : Value).ownBlock) v145 t142) ∧ Aside0 (Kd.R k37 37 wc w.heap.size (fun k_ => some k_ ≠ (v145 : Value).ownBlock) v150 t147) ∧ Aside0 (Kd.R k50 50 wc w.heap.size (fun _ => True) v165 t162) ∧ Aside0 (wc.heap[gb177]? = some (.cells #[.int .i64 t173, .int .i64 t174] 46 (0, 0))) ∧ Aside0 (Below w.heap.size w wc))
 case first =>
  have H := HC7.out
  clear HC7
  by_cases c19 : t144 = 0
  ·rw [if_pos c19] at H
   have c19b0 : (t144 == 0) = true := beq_iff_eq.mpr c19
   have c19b1 : (t144 != 0) = false := bne_eq_false_iff_eq.mpr c19
   clear c19
   (first | rw [c19b0] | (simp only [i64_w, i32_w]; rw [c19b0]) | skip)
   by_cases c20 : t149 = 0
   ·rw [if_pos c20] at H
    have c20b0 : (t149 == 0) = true := beq_iff_eq.mpr c20
    have c20b1 : (t149 != 0) = false := bne_eq_false_iff_eq.mpr c20
    clear c20
    by_cases c21 : t154 = 12
    ·rw [if_pos c21] at H
     have c21b0 : (t154 == 12) = true := beq_iff_eq.mpr c21
     have c21b1 : (t154 != 12) = false := bne_eq_false_iff_eq.mpr c21
     clear c21
     by_cases c22 : t159 = 11
     ·rw [if_pos c22] at H
      have c22b0 : (t159 == 11) = true := beq_iff_eq.mpr c22
      have c22b1 : (t159 != 11) = false := bne_eq_false_iff_eq.mpr c22
      clear c22
      by_cases c23 : t164 = 0
      ·rw [if_pos c23] at H
       have c23b0 : (t164 == 0) = true := beq_iff_eq.mpr c23
       have c23b1 : (t164 != 0) = false := bne_eq_false_iff_eq.mpr c23
       clear c23
       by_cases c24 : t176 = 0
       ·rw [if_pos c24] at H
        have c24b0 : (t176 == 0) = true := beq_iff_eq.mpr c24
        have c24b1 : (t176 != 0) = false := bne_eq_false_iff_eq.mpr c24
        clear c24
        by_cases c25 : (t142.length : Int) = 8
        ·rw [if_pos c25] at H
         have c25b0 : ((t142.length : Int) == 8) = true := beq_iff_eq.mpr c25
         have c25b1 : ((t142.length : Int) != 8) = false := bne_eq_false_iff_eq.mpr c25
         clear c25
         by_cases c26 : (t147.length : Int) = 8
         ·rw [if_pos c26] at H
          have c26b0 : ((t147.length : Int) == 8) = true := beq_iff_eq.mpr c26
          have c26b1 : ((t147.length : Int) != 8) = false := bne_eq_false_iff_eq.mpr c26
          clear c26
          by_cases c27 : (t162.length : Int) = 5
          ·rw [if_pos c27] at H
           have c27b0 : ((t162.length : Int) == 5) = true := beq_iff_eq.mpr c27
           have c27b1 : ((t162.length : Int) != 5) = false := bne_eq_false_iff_eq.mpr c27
           clear c27
           have H' := Aside0.mk H
           clear H
           obtain ⟨Ao28, co28, eo28⟩ := Kd.R_slice HO146.out
           subst eo28
           obtain ⟨Ao29, co29, eo29⟩ := Kd.R_slice HO151.out
           subst eo29
           obtain ⟨Ao30, co30, eo30⟩ := Kd.R_slice HO166.out
           subst eo30
           obtain ⟨Ao31, co31, eo31⟩ := Kd.R_slice HO172.out
           subst eo31
           go_wp2
           go_meet
           case rel => exact ⟨_, (((t170.length : Int) != 5)), (by first | rfl | (simp; done) | (simp [*]; done)), H', ⟨by first | omega | exact Nat.le_refl _⟩, ⟨by (with_reducible repeat (first | apply Kd.R_alloc | apply Kd.R_drewN | apply Kd.R_drew)); exact Kd.R_mono (Kd.R_far (p := ⟨gb177, 1, none⟩) (Kd.R_far (p := ⟨gb177, 0, none⟩) (Kd.R_types HO146.out BK177.out (by decide)) (fun _ hk => hk.2) (.int .i64 t173)) (fun _ hk => hk.2) (.int .i64 t174)) (fun _ hk => hk.1.1.1.2)⟩, ⟨by (with_reducible repeat (first | apply Kd.R_alloc | apply Kd.R_drewN | apply Kd.R_drew)); exact Kd.R_mono (Kd.R_far (p := ⟨gb177, 1, none⟩) (Kd.R_far (p := ⟨gb177, 0, none⟩) (Kd.R_types HO151.out BK177.out (by decide)) (fun _ hk => hk.2) (.int .i64 t173)) (fun _ hk => hk.2) (.int .i64 t174)) (fun _ hk => hk.1.1.1.2)⟩, ⟨by (with_reducible repeat (first | apply Kd.R_alloc | apply Kd.R_drewN | apply Kd.R_drew)); exact Kd.R_mono (Kd.R_far (p := ⟨gb177, 1, none⟩) (Kd.R_far (p := ⟨gb177, 0, none⟩) (Kd.R_types HO166.out BK177.out (by decide)) (fun _ hk => hk.2) (.int .i64 t173)) (fun _ hk => hk.2) (.int .i64 t174)) (fun _ hk => trivial)⟩, ⟨by (with_reducible repeat (first | refine blk_drewN ?_ _ | refine blk_drew ?_ | refine blk_alloc ?_ _)); refine blk_put (cs := #[.int .i64 t173, .int .i64 0]) ?_ 1 _ rfl; (with_reducible repeat (first | refine blk_drewN ?_ _ | refine blk_drew ?_ | refine blk_alloc ?_ _)); refine blk_put (cs := #[.int .i64 0, .int .i64 0]) ?_ 0 _ rfl; (with_reducible repeat (first | refine blk_drewN ?_ _ | refine blk_drew ?_ | refine blk_alloc ?_ _)); exact BK177.out⟩, ⟨by repeat (first | (with_reducible first | exact HB.out | apply below_alloc | apply pw_below_drewN | apply below_drew1 | refine below_set ?_ GE177.out) | exact HB.out)⟩⟩
          ·rw [if_neg c27] at H
           have c27b0 : ((t162.length : Int) == 5) = false := beq_eq_false_iff_ne.mpr c27
           have c27b1 : ((t162.length : Int) != 5) = true := bne_iff_ne.mpr c27
           have H' := Aside0.mk H
           clear H
           obtain ⟨Ao32, co32, eo32⟩ := Kd.R_slice HO146.out
           subst eo32
           obtain ⟨Ao33, co33, eo33⟩ := Kd.R_slice HO151.out
           subst eo33
           obtain ⟨Ao34, co34, eo34⟩ := Kd.R_slice HO166.out
           subst eo34
           go_wp2
           go_meet
           case rel => exact ⟨_, (true), (by first | rfl | (simp; done) | (simp [*]; done)), H', ⟨by first | omega | exact Nat.le_refl _⟩, ⟨by (with_reducible repeat (first | apply Kd.R_alloc | apply Kd.R_drewN | apply Kd.R_drew)); exact Kd.R_mono (Kd.R_far (p := ⟨gb177, 1, none⟩) (Kd.R_far (p := ⟨gb177, 0, none⟩) (Kd.R_types HO146.out BK177.out (by decide)) (fun _ hk => hk.2) (.int .i64 t173)) (fun _ hk => hk.2) (.int .i64 t174)) (fun _ hk => hk.1.1.1.2)⟩, ⟨by (with_reducible repeat (first | apply Kd.R_alloc | apply Kd.R_drewN | apply Kd.R_drew)); exact Kd.R_mono (Kd.R_far (p := ⟨gb177, 1, none⟩) (Kd.R_far (p := ⟨gb177, 0, none⟩) (Kd.R_types HO151.out BK177.out (by decide)) (fun _ hk => hk.2) (.int .i64 t173)) (fun _ hk => hk.2) (.int .i64 t174)) (fun _ hk => hk.1.1.1.2)⟩, ⟨by (with_reducible repeat (first | apply Kd.R_alloc | apply Kd.R_drewN | apply Kd.R_drew)); exact Kd.R_mono (Kd.R_far (p := ⟨gb177, 1, none⟩) (Kd.R_far (p := ⟨gb177, 0, none⟩) (Kd.R_types HO166.out BK177.out (by decide)) (fun _ hk => hk.2) (.int .i64 t173)) (fun _ hk => hk.2) (.int .i64 t174)) (fun _ hk => trivial)⟩, ⟨by (with_reducible repeat (first | refine blk_drewN ?_ _ | refine blk_drew ?_ | refine blk_alloc ?_ _)); refine blk_put (cs := #[.int .i64 t173, .int .i64 0]) ?_ 1 _ rfl; (with_reducible repeat (first | refine blk_drewN ?_ _ | refine blk_drew ?_ | refine blk_alloc ?_ _)); refine blk_put (cs := #[.int .i64 0, .int .i64 0]) ?_ 0 _ rfl; (with_reducible repeat (first | refine blk_drewN ?_ _ | refine blk_drew ?_ | refine blk_alloc ?_ _)); exact BK177.out⟩, ⟨by repeat (first | (with_reducible first | exact HB.out | apply below_alloc | apply pw_below_drewN | apply below_drew1 | refine below_set ?_ GE177.out) | exact HB.out)⟩⟩
         ·rw [if_neg c26] at H
          have c26b0 : ((t147.length : Int) == 8) = false := beq_eq_false_iff_ne.mpr c26
          have c26b1 : ((t147.length : Int) != 8) = true := bne_iff_ne.mpr c26
          have H' := Aside0.mk H
          clear H
          obtain ⟨Ao35, co35, eo35⟩ := Kd.R_slice HO146.out
          subst eo35
          obtain ⟨Ao36, co36, eo36⟩ := Kd.R_slice HO151.out
          subst eo36
          go_wp2
          go_meet
          case rel => exact ⟨_, (true), (by first | rfl | (simp; done) | (simp [*]; done)), H', ⟨by first | omega | exact Nat.le_refl _⟩, ⟨by (with_reducible repeat (first | apply Kd.R_alloc | apply Kd.R_drewN | apply Kd.R_drew)); exact Kd.R_mono (Kd.R_far (p := ⟨gb177, 1, none⟩) (Kd.R_far (p := ⟨gb177, 0, none⟩) (Kd.R_types HO146.out BK177.out (by decide)) (fun _ hk => hk.2) (.int .i64 t173)) (fun _ hk => hk.2) (.int .i64 t174)) (fun _ hk => hk.1.1.1.2)⟩, ⟨by (with_reducible repeat (first | apply Kd.R_alloc | apply Kd.R_drewN | apply Kd.R_drew)); exact Kd.R_mono (Kd.R_far (p := ⟨gb177, 1, none⟩) (Kd.R_far (p := ⟨gb177, 0, none⟩) (Kd.R_types HO151.out BK177.out (by decide)) (fun _ hk => hk.2) (.int .i64 t173)) (fun _ hk => hk.2) (.int .i64 t174)) (fun _ hk => hk.1.1.1.2)⟩, ⟨by (with_reducible repeat (first | apply Kd.R_alloc | apply Kd.R_drewN | apply Kd.R_drew)); exact Kd.R_mono (Kd.R_far (p := ⟨gb177, 1, none⟩) (Kd.R_far (p := ⟨gb177, 0, none⟩) (Kd.R_types HO166.out BK177.out (by decide)) (fun _ hk => hk.2) (.int .i64 t173)) (fun _ hk => hk.2) (.int .i64 t174)) (fun _ hk => trivial)⟩, ⟨by (with_reducible repeat (first | refine blk_drewN ?_ _ | refine blk_drew ?_ | refine blk_alloc ?_ _)); refine blk_put (cs := #[.int .i64 t173, .int .i64 0]) ?_ 1 _ rfl; (with_reducible repeat (first | refine blk_drewN ?_ _ | refine blk_drew ?_ | refine blk_alloc ?_ _)); refine blk_put (cs := #[.int .i64 0, .int .i64 0]) ?_ 0 _ rfl; (with_reducible repeat (first | refine blk_drewN ?_ _ | refine blk_drew ?_ | refine blk_alloc ?_ _)); exact BK177.out⟩, ⟨by repeat (first | (with_reducible first | exact HB.out | apply below_alloc | apply pw_below_drewN | apply below_drew1 | refine below_set ?_ GE177.out) | exact HB.out)⟩⟩
        ·rw [if_neg c25] at H
         have c25b0 : ((t142.length : Int) == 8) = false := beq_eq_false_iff_ne.mpr c25
         have c25b1 : ((t142.length : Int) != 8) = true := bne_iff_ne.mpr c25
         have H' := Aside0.mk H
         clear H
         obtain ⟨Ao37, co37, eo37⟩ := Kd.R_slice HO146.out
         subst eo37
         go_wp2
         go_meet
         case rel => exact ⟨_, (true), (by first | rfl | (simp; done) | (simp [*]; done)), H', ⟨by first | omega | exact Nat.le_refl _⟩, ⟨by (with_reducible repeat (first | apply Kd.R_alloc | apply Kd.R_drewN | apply Kd.R_drew)); exact Kd.R_mono (Kd.R_far (p := ⟨gb177, 1, none⟩) (Kd.R_far (p := ⟨gb177, 0, none⟩) (Kd.R_types HO146.out BK177.out (by decide)) (fun _ hk => hk.2) (.int .i64 t173)) (fun _ hk => hk.2) (.int .i64 t174)) (fun _ hk => hk.1.1.1.2)⟩, ⟨by (with_reducible repeat (first | apply Kd.R_alloc | apply Kd.R_drewN | apply Kd.R_drew)); exact Kd.R_mono (Kd.R_far (p := ⟨gb177, 1, none⟩) (Kd.R_far (p := ⟨gb177, 0, none⟩) (Kd.R_types HO151.out BK177.out (by decide)) (fun _ hk => hk.2) (.int .i64 t173)) (fun _ hk => hk.2) (.int .i64 t174)) (fun _ hk => hk.1.1.1.2)⟩, ⟨by (with_reducible repeat (first | apply Kd.R_alloc | apply Kd.R_drewN | apply Kd.R_drew)); exact Kd.R_mono (Kd.R_far (p := ⟨gb177, 1, none⟩) (Kd.R_far (p := ⟨gb177, 0, none⟩) (Kd.R_types HO166.out BK177.out (by decide)) (fun _ hk => hk.2) (.int .i64 t173)) (fun _ hk => hk.2) (.int .i64 t174)) (fun _ hk => trivial)⟩, ⟨by (with_reducible repeat (first | refine blk_drewN ?_ _ | refine blk_drew ?_ | refine blk_alloc ?_ _)); refine blk_put (cs := #[.int .i64 t173, .int .i64 0]) ?_ 1 _ rfl; (with_reducible repeat (first | refine blk_drewN ?_ _ | refine blk_drew ?_ | refine blk_alloc ?_ _)); refine blk_put (cs := #[.int .i64 0, .int .i64 0]) ?_ 0 _ rfl; (with_reducible repeat (first | refine blk_drewN ?_ _ | refine blk_drew ?_ | refine blk_alloc ?_ _)); exact BK177.out⟩, ⟨by repeat (first | (with_reducible first | exact HB.out | apply below_alloc | apply pw_below_drewN | apply below_drew1 | refine below_set ?_ GE177.out) | exact HB.out)⟩⟩
       ·rw [if_neg c24] at H
        have c24b0 : (t176 == 0) = false := beq_eq_false_iff_ne.mpr c24
        have c24b1 : (t176 != 0) = true := bne_iff_ne.mpr c24
        have H' := Aside0.mk H
        clear H
        go_wp2
        go_meet
        case rel => exact ⟨_, (true), (by first | rfl | (simp; done) | (simp [*]; done)), H', ⟨by first | omega | exact Nat.le_refl _⟩, ⟨by (with_reducible repeat (first | apply Kd.R_alloc | apply Kd.R_drewN | apply Kd.R_drew)); exact Kd.R_mono (Kd.R_far (p := ⟨gb177, 1, none⟩) (Kd.R_far (p := ⟨gb177, 0, none⟩) (Kd.R_types HO146.out BK177.out (by decide)) (fun _ hk => hk.2) (.int .i64 t173)) (fun _ hk => hk.2) (.int .i64 t174)) (fun _ hk => hk.1.1.1.2)⟩, ⟨by (with_reducible repeat (first | apply Kd.R_alloc | apply Kd.R_drewN | apply Kd.R_drew)); exact Kd.R_mono (Kd.R_far (p := ⟨gb177, 1, none⟩) (Kd.R_far (p := ⟨gb177, 0, none⟩) (Kd.R_types HO151.out BK177.out (by decide)) (fun _ hk => hk.2) (.int .i64 t173)) (fun _ hk => hk.2) (.int .i64 t174)) (fun _ hk => hk.1.1.1.2)⟩, ⟨by (with_reducible repeat (first | apply Kd.R_alloc | apply Kd.R_drewN | apply Kd.R_drew)); exact Kd.R_mono (Kd.R_far (p := ⟨gb177, 1, none⟩) (Kd.R_far (p := ⟨gb177, 0, none⟩) (Kd.R_types HO166.out BK177.out (by decide)) (fun _ hk => hk.2) (.int .i64 t173)) (fun _ hk => hk.2) (.int .i64 t174)) (fun _ hk => trivial)⟩, ⟨by (with_reducible repeat (first | refine blk_drewN ?_ _ | refine blk_drew ?_ | refine blk_alloc ?_ _)); refine blk_put (cs := #[.int .i64 t173, .int .i64 0]) ?_ 1 _ rfl; (with_reducible repeat (first | refine blk_drewN ?_ _ | refine blk_drew ?_ | refine blk_alloc ?_ _)); refine blk_put (cs := #[.int .i64 0, .int .i64 0]) ?_ 0 _ rfl; (with_reducible repeat (first | refine blk_drewN ?_ _ | refine blk_drew ?_ | refine blk_alloc ?_ _)); exact BK177.out⟩, ⟨by repeat (first | (with_reducible first | exact HB.out | apply below_alloc | apply pw_below_drewN | apply below_drew1 | refine below_set ?_ GE177.out) | exact HB.out)⟩⟩
      ·rw [if_neg c23] at H
       have c23b0 : (t164 == 0) = false := beq_eq_false_iff_ne.mpr c23
       have c23b1 : (t164 != 0) = true := bne_iff_ne.mpr c23
       have H' := Aside0.mk H
       clear H
       go_wp2
       go_meet
       case rel => exact ⟨_, (true), (by first | rfl | (simp; done) | (simp [*]; done)), H', ⟨by first | omega | exact Nat.le_refl _⟩, ⟨by (with_reducible repeat (first | apply Kd.R_alloc | apply Kd.R_drewN | apply Kd.R_drew)); exact Kd.R_mono (Kd.R_far (p := ⟨gb177, 1, none⟩) (Kd.R_far (p := ⟨gb177, 0, none⟩) (Kd.R_types HO146.out BK177.out (by decide)) (fun _ hk => hk.2) (.int .i64 t173)) (fun _ hk => hk.2) (.int .i64 t174)) (fun _ hk => hk.1.1.1.2)⟩, ⟨by (with_reducible repeat (first | apply Kd.R_alloc | apply Kd.R_drewN | apply Kd.R_drew)); exact Kd.R_mono (Kd.R_far (p := ⟨gb177, 1, none⟩) (Kd.R_far (p := ⟨gb177, 0, none⟩) (Kd.R_types HO151.out BK177.out (by decide)) (fun _ hk => hk.2) (.int .i64 t173)) (fun _ hk => hk.2) (.int .i64 t174)) (fun _ hk => hk.1.1.1.2)⟩, ⟨by (with_reducible repeat (first | apply Kd.R_alloc | apply Kd.R_drewN | apply Kd.R_drew)); exact Kd.R_mono (Kd.R_far (p := ⟨gb177, 1, none⟩) (Kd.R_far (p := ⟨gb177, 0, none⟩) (Kd.R_types HO166.out BK177.out (by decide)) (fun _ hk => hk.2) (.int .i64 t173)) (fun _ hk => hk.2) (.int .i64 t174)) (fun _ hk => trivial)⟩, ⟨by (with_reducible repeat (first | refine blk_drewN ?_ _ | refine blk_drew ?_ | refine blk_alloc ?_ _)); refine blk_put (cs := #[.int .i64 t173, .int .i64 0]) ?_ 1 _ rfl; (with_reducible repeat (first | refine blk_drewN ?_ _ | refine blk_drew ?_ | refine blk_alloc ?_ _)); refine blk_put (cs := #[.int .i64 0, .int .i64 0]) ?_ 0 _ rfl; (with_reducible repeat (first | refine blk_drewN ?_ _ | refine blk_drew ?_ | refine blk_alloc ?_ _)); exact BK177.out⟩, ⟨by repeat (first | (with_reducible first | exact HB.out | apply below_alloc | apply pw_below_drewN | apply below_drew1 | refine below_set ?_ GE177.out) | exact HB.out)⟩⟩
     ·rw [if_neg c22] at H
      have c22b0 : (t159 == 11) = false := beq_eq_false_iff_ne.mpr c22
      have c22b1 : (t159 != 11) = true := bne_iff_ne.mpr c22
      have H' := Aside0.mk H
      clear H
      go_wp2
      go_meet
      case rel => exact ⟨_, (true), (by first | rfl | (simp; done) | (simp [*]; done)), H', ⟨by first | omega | exact Nat.le_refl _⟩, ⟨by (with_reducible repeat (first | apply Kd.R_alloc | apply Kd.R_drewN | apply Kd.R_drew)); exact Kd.R_mono (Kd.R_far (p := ⟨gb177, 1, none⟩) (Kd.R_far (p := ⟨gb177, 0, none⟩) (Kd.R_types HO146.out BK177.out (by decide)) (fun _ hk => hk.2) (.int .i64 t173)) (fun _ hk => hk.2) (.int .i64 t174)) (fun _ hk => hk.1.1.1.2)⟩, ⟨by (with_reducible repeat (first | apply Kd.R_alloc | apply Kd.R_drewN | apply Kd.R_drew)); exact Kd.R_mono (Kd.R_far (p := ⟨gb177, 1, none⟩) (Kd.R_far (p := ⟨gb177, 0, none⟩) (Kd.R_types HO151.out BK177.out (by decide)) (fun _ hk => hk.2) (.int .i64 t173)) (fun _ hk => hk.2) (.int .i64 t174)) (fun _ hk => hk.1.1.1.2)⟩, ⟨by (with_reducible repeat (first | apply Kd.R_alloc | apply Kd.R_drewN | apply Kd.R_drew)); exact Kd.R_mono (Kd.R_far (p := ⟨gb177, 1, none⟩) (Kd.R_far (p := ⟨gb177, 0, none⟩) (Kd.R_types HO166.out BK177.out (by decide)) (fun _ hk => hk.2) (.int .i64 t173)) (fun _ hk => hk.2) (.int .i64 t174)) (fun _ hk => trivial)⟩, ⟨by (with_reducible repeat (first | refine blk_drewN ?_ _ | refine blk_drew ?_ | refine blk_alloc ?_ _)); refine blk_put (cs := #[.int .i64 t173, .int .i64 0]) ?_ 1 _ rfl; (with_reducible repeat (first | refine blk_drewN ?_ _ | refine blk_drew ?_ | refine blk_alloc ?_ _)); refine blk_put (cs := #[.int .i64 0, .int .i64 0]) ?_ 0 _ rfl; (with_reducible repeat (first | refine blk_drewN ?_ _ | refine blk_drew ?_ | refine blk_alloc ?_ _)); exact BK177.out⟩, ⟨by repeat (first | (with_reducible first | exact HB.out | apply below_alloc | apply pw_below_drewN | apply below_drew1 | refine below_set ?_ GE177.out) | exact HB.out)⟩⟩
    ·rw [if_neg c21] at H
     have c21b0 : (t154 == 12) = false := beq_eq_false_iff_ne.mpr c21
     have c21b1 : (t154 != 12) = true := bne_iff_ne.mpr c21
     have H' := Aside0.mk H
     clear H
     go_wp2
     go_meet
     case rel => exact ⟨_, (true), (by first | rfl | (simp; done) | (simp [*]; done)), H', ⟨by first | omega | exact Nat.le_refl _⟩, ⟨by (with_reducible repeat (first | apply Kd.R_alloc | apply Kd.R_drewN | apply Kd.R_drew)); exact Kd.R_mono (Kd.R_far (p := ⟨gb177, 1, none⟩) (Kd.R_far (p := ⟨gb177, 0, none⟩) (Kd.R_types HO146.out BK177.out (by decide)) (fun _ hk => hk.2) (.int .i64 t173)) (fun _ hk => hk.2) (.int .i64 t174)) (fun _ hk => hk.1.1.1.2)⟩, ⟨by (with_reducible repeat (first | apply Kd.R_alloc | apply Kd.R_drewN | apply Kd.R_drew)); exact Kd.R_mono (Kd.R_far (p := ⟨gb177, 1, none⟩) (Kd.R_far (p := ⟨gb177, 0, none⟩) (Kd.R_types HO151.out BK177.out (by decide)) (fun _ hk => hk.2) (.int .i64 t173)) (fun _ hk => hk.2) (.int .i64 t174)) (fun _ hk => hk.1.1.1.2)⟩, ⟨by (with_reducible repeat (first | apply Kd.R_alloc | apply Kd.R_drewN | apply Kd.R_drew)); exact Kd.R_mono (Kd.R_far (p := ⟨gb177, 1, none⟩) (Kd.R_far (p := ⟨gb177, 0, none⟩) (Kd.R_types HO166.out BK177.out (by decide)) (fun _ hk => hk.2) (.int .i64 t173)) (fun _ hk => hk.2) (.int .i64 t174)) (fun _ hk => trivial)⟩, ⟨by (with_reducible repeat (first | refine blk_drewN ?_ _ | refine blk_drew ?_ | refine blk_alloc ?_ _)); refine blk_put (cs := #[.int .i64 t173, .int .i64 0]) ?_ 1 _ rfl; (with_reducible repeat (first | refine blk_drewN ?_ _ | refine blk_drew ?_ | refine blk_alloc ?_ _)); refine blk_put (cs := #[.int .i64 0, .int .i64 0]) ?_ 0 _ rfl; (with_reducible repeat (first | refine blk_drewN ?_ _ | refine blk_drew ?_ | refine blk_alloc ?_ _)); exact BK177.out⟩, ⟨by repeat (first | (with_reducible first | exact HB.out | apply below_alloc | apply pw_below_drewN | apply below_drew1 | refine below_set ?_ GE177.out) | exact HB.out)⟩⟩
   ·rw [if_neg c20] at H
    have c20b0 : (t149 == 0) = false := beq_eq_false_iff_ne.mpr c20
    have c20b1 : (t149 != 0) = true := bne_iff_ne.mpr c20
    have H' := Aside0.mk H
    clear H
    go_wp2
    go_meet
    case rel => exact ⟨_, (true), (by first | rfl | (simp; done) | (simp [*]; done)), H', ⟨by first | omega | exact Nat.le_refl _⟩, ⟨by (with_reducible repeat (first | apply Kd.R_alloc | apply Kd.R_drewN | apply Kd.R_drew)); exact Kd.R_mono (Kd.R_far (p := ⟨gb177, 1, none⟩) (Kd.R_far (p := ⟨gb177, 0, none⟩) (Kd.R_types HO146.out BK177.out (by decide)) (fun _ hk => hk.2) (.int .i64 t173)) (fun _ hk => hk.2) (.int .i64 t174)) (fun _ hk => hk.1.1.1.2)⟩, ⟨by (with_reducible repeat (first | apply Kd.R_alloc | apply Kd.R_drewN | apply Kd.R_drew)); exact Kd.R_mono (Kd.R_far (p := ⟨gb177, 1, none⟩) (Kd.R_far (p := ⟨gb177, 0, none⟩) (Kd.R_types HO151.out BK177.out (by decide)) (fun _ hk => hk.2) (.int .i64 t173)) (fun _ hk => hk.2) (.int .i64 t174)) (fun _ hk => hk.1.1.1.2)⟩, ⟨by (with_reducible repeat (first | apply Kd.R_alloc | apply Kd.R_drewN | apply Kd.R_drew)); exact Kd.R_mono (Kd.R_far (p := ⟨gb177, 1, none⟩) (Kd.R_far (p := ⟨gb177, 0, none⟩) (Kd.R_types HO166.out BK177.out (by decide)) (fun _ hk => hk.2) (.int .i64 t173)) (fun _ hk => hk.2) (.int .i64 t174)) (fun _ hk => trivial)⟩, ⟨by (with_reducible repeat (first | refine blk_drewN ?_ _ | refine blk_drew ?_ | refine blk_alloc ?_ _)); refine blk_put (cs := #[.int .i64 t173, .int .i64 0]) ?_ 1 _ rfl; (with_reducible repeat (first | refine blk_drewN ?_ _ | refine blk_drew ?_ | refine blk_alloc ?_ _)); refine blk_put (cs := #[.int .i64 0, .int .i64 0]) ?_ 0 _ rfl; (with_reducible repeat (first | refine blk_drewN ?_ _ | refine blk_drew ?_ | refine blk_alloc ?_ _)); exact BK177.out⟩, ⟨by repeat (first | (with_reducible first | exact HB.out | apply below_alloc | apply pw_below_drewN | apply below_drew1 | refine below_set ?_ GE177.out) | exact HB.out)⟩⟩
  ·rw [if_neg c19] at H
   have c19b0 : (t144 == 0) = false := beq_eq_false_iff_ne.mpr c19
   have c19b1 : (t144 != 0) = true := bne_iff_ne.mpr c19
   (first | rw [c19b0] | (simp only [i64_w, i32_w]; rw [c19b0]) | skip)
   have H' := Aside0.mk H
   clear H
   go_wp2
   go_meet
   case rel => exact ⟨_, (true), (by first | rfl | (simp; done) | (simp [*]; done)), H', ⟨by first | omega | exact Nat.le_refl _⟩, ⟨by (with_reducible repeat (first | apply Kd.R_alloc | apply Kd.R_drewN | apply Kd.R_drew)); exact Kd.R_mono (Kd.R_far (p := ⟨gb177, 1, none⟩) (Kd.R_far (p := ⟨gb177, 0, none⟩) (Kd.R_types HO146.out BK177.out (by decide)) (fun _ hk => hk.2) (.int .i64 t173)) (fun _ hk => hk.2) (.int .i64 t174)) (fun _ hk => hk.1.1.1.2)⟩, ⟨by (with_reducible repeat (first | apply Kd.R_alloc | apply Kd.R_drewN | apply Kd.R_drew)); exact Kd.R_mono (Kd.R_far (p := ⟨gb177, 1, none⟩) (Kd.R_far (p := ⟨gb177, 0, none⟩) (Kd.R_types HO151.out BK177.out (by decide)) (fun _ hk => hk.2) (.int .i64 t173)) (fun _ hk => hk.2) (.int .i64 t174)) (fun _ hk => hk.1.1.1.2)⟩, ⟨by (with_reducible repeat (first | apply Kd.R_alloc | apply Kd.R_drewN | apply Kd.R_drew)); exact Kd.R_mono (Kd.R_far (p := ⟨gb177, 1, none⟩) (Kd.R_far (p := ⟨gb177, 0, none⟩) (Kd.R_types HO166.out BK177.out (by decide)) (fun _ hk => hk.2) (.int .i64 t173)) (fun _ hk => hk.2) (.int .i64 t174)) (fun _ hk => trivial)⟩, ⟨by (with_reducible repeat (first | refine blk_drewN ?_ _ | refine blk_drew ?_ | refine blk_alloc ?_ _)); refine blk_put (cs := #[.int .i64 t173, .int .i64 0]) ?_ 1 _ rfl; (with_reducible repeat (first | refine blk_drewN ?_ _ | refine blk_drew ?_ | refine blk_alloc ?_ _)); refine blk_put (cs := #[.int .i64 0, .int .i64 0]) ?_ 0 _ rfl; (with_reducible repeat (first | refine blk_drewN ?_ _ | refine blk_drew ?_ | refine blk_alloc ?_ _)); exact BK177.out⟩, ⟨by repeat (first | (with_reducible first | exact HB.out | apply below_alloc | apply pw_below_drewN | apply below_drew1 | refine below_set ?_ GE177.out) | exact HB.out)⟩⟩
 case rest =>
  clear HC7
  try clear c1
  try clear c2
  try clear p2
  try clear c3
  try clear c5
  try clear c18
  try clear c19
  try clear c19b0
  try clear c19b1
  try clear c20
  try clear c20b0
  try clear c20b1
  try clear c21
  try clear c21b0
  try clear c21b1
  try clear c22
  try clear c22b0
  try clear c22b1
  try clear c23
  try clear c23b0
  try clear c23b1
  try clear c24
  try clear c24b0
  try clear c24b1
  try clear c25
  try clear c25b0
  try clear c25b1
  try clear c26
  try clear c26b0
  try clear c26b1
  try clear c27
  try clear c27b0
  try clear c27b1
  try clear hcz18_0
  try clear hcz18_1
  try clear hfz18_0
  try clear hfz18_1
  obtain ⟨kq, x102_6, rfl, HA, HJ6, HO_1, HO_4, HO_13, BK177, HB⟩ := hcut
  cases kq with
  | zero => exact absurd HA.out (by simp [skerrylaw01_sane.j0])
  | succ kj6 =>
   have H := HA.out
   clear HA
   simp only [skerrylaw01_sane.j0] at H
   by_cases c38 : x102_6 = true
   ·subst c38
    have H1 : (some false) = some r := by rw [if_pos rfl] at H; exact H
    clear H
    have H := H1
    clear H1
    obtain rfl := Option.some.inj H
    go_wp2
    go_ret
    exact ⟨by first | rfl | (simp [errW_none, errW_some] <;> rfl) | (simp [*, errW_none, errW_some] <;> rfl), by repeat (first | (with_reducible first | exact HB.out | apply below_alloc | apply pw_below_drewN | apply below_drew1 | refine below_set ?_ GE177.out) | exact HB.out)⟩
   ·replace c38 := Bool.eq_false_iff.mpr c38
    subst c38
    have H1 : ((lex_Split.f kj6 (⟨#[97, 114, 101, 97, 64, 115, 104, 97, 112, 101, 115]⟩ : ByteArray)).bind fun bt178 => (if 2 < (t142.length : Int) then (if ((rd_T37 t142 2).f2).toList = ([60, 112, 111, 105, 110, 116, 62] : List UInt8) then (if 4 < (t147.length : Int) then (if ((rd_T37 t147 4).f1) = (-3) then (if 6 < (t147.length : Int) then (if ((rd_T37 t147 6).f2).toList = ([98, 45, 50] : List UInt8) then (if 2 < (t162.length : Int) then (if ((rd_T50 t162 2).f2) = 7 then (skerrylaw01_sane.j1 kj6 t153 bt178.1 bt178.2 (t173 == 2 && (t174 == 2))) else (skerrylaw01_sane.j1 kj6 t153 bt178.1 bt178.2 false)) else (none)) else (skerrylaw01_sane.j1 kj6 t153 bt178.1 bt178.2 false)) else (none)) else (skerrylaw01_sane.j1 kj6 t153 bt178.1 bt178.2 false)) else (none)) else (skerrylaw01_sane.j1 kj6 t153 bt178.1 bt178.2 false)) else (none))) = some r := by rw [if_neg (show ¬ (false = true) by decide)] at H; exact H
    clear H
    have H := H1
    clear H1
    replace H := Option.bind_eq_some_iff.mp H
    obtain ⟨⟨t178, t179⟩, A390, H⟩ := H
    replace H : (if 2 < (t142.length : Int) then (if ((rd_T37 t142 2).f2).toList = ([60, 112, 111, 105, 110, 116, 62] : List UInt8) then (if 4 < (t147.length : Int) then (if ((rd_T37 t147 4).f1) = (-3) then (if 6 < (t147.length : Int) then (if ((rd_T37 t147 6).f2).toList = ([98, 45, 50] : List UInt8) then (if 2 < (t162.length : Int) then (if ((rd_T50 t162 2).f2) = 7 then (skerrylaw01_sane.j1 kj6 t153 t178 t179 (t173 == 2 && (t174 == 2))) else (skerrylaw01_sane.j1 kj6 t153 t178 t179 false)) else (none)) else (skerrylaw01_sane.j1 kj6 t153 t178 t179 false)) else (none)) else (skerrylaw01_sane.j1 kj6 t153 t178 t179 false)) else (none)) else (skerrylaw01_sane.j1 kj6 t153 t178 t179 false)) else (none)) = some r := H
    have A39 := Aside0.mk A390
    clear A390
    have HC40 := Aside0.mk H
    clear H
    go_upto_region 10 with (first | ((with_reducible refine gate_callee (f := 21) rfl ?_); refine goesL_ (some 104) rfl rfl Tryz.func21 (by kernel_rfl) rfl #[.string (⟨#[97, 114, 101, 97, 64, 115, 104, 97, 112, 101, 115]⟩ : ByteArray)] rfl (by (try simp only [List.map_toArray, List.map_cons, List.map_nil]); first | done | rfl | (simp only [List.length_drop, List.length_take]; rfl)) ?_; (with_reducible refine (lex_Split.calls kj6 (⟨#[97, 114, 101, 97, 64, 115, 104, 97, 112, 101, 115]⟩ : ByteArray) t178 t179 _ A39.out (Lx.Env.below HE.out (by repeat (first | (with_reducible first | exact HB.out | apply below_alloc | apply pw_below_drewN | apply below_drew1 | refine below_set ?_ GE177.out) | exact HB.out)))).mono ?_); rintro e w41 ⟨rfl, hb⟩; refine ⟨_, rfl, ?_⟩; have n0_ := Aside0.mk (Kd.R_below (by (with_reducible repeat (first | apply Kd.R_alloc | apply Kd.R_drewN | apply Kd.R_drew)); exact HO_1.out) hb); have n1_ := Aside0.mk (Kd.R_below (by (with_reducible repeat (first | apply Kd.R_alloc | apply Kd.R_drewN | apply Kd.R_drew)); exact HO_4.out) hb); have n2_ := Aside0.mk (Kd.R_below (by (with_reducible repeat (first | apply Kd.R_alloc | apply Kd.R_drewN | apply Kd.R_drew)); exact HO_13.out) hb); have n3_ := Aside0.mk (blk_below (g := gb177) (o := .cells #[.int .i64 t173, .int .i64 t174] 46 (0, 0)) (by (with_reducible repeat (first | refine blk_drewN ?_ _ | refine blk_drew ?_ | refine blk_alloc ?_ _)); exact BK177.out) hb); have n4_ := Aside0.mk (below_step (by repeat (first | (with_reducible first | exact HB.out | apply below_alloc | apply pw_below_drewN | apply below_drew1 | refine below_set ?_ GE177.out) | exact HB.out)) hb); clear HO_1; clear HO_4; clear HO_13; clear BK177; clear HB; have HO_1 := n0_; have HO_4 := n1_; have HO_13 := n2_; have BK177 := n3_; have HB := n4_; clear n0_ n1_ n2_ n3_ n4_; (try clear hb); (try clear hb2); (try clear hk); (try clear hi)))
    (try simp only [Act.put, List.setIfInBounds_toArray, List.set_cons_zero, List.set_cons_succ])
    go_cut [22] (fun v22 wc => ∃ (kq : Nat) (x22_39 : Bool), v22 = .bool x22_39 ∧ Aside0 (skerrylaw01_sane.j1 kq t153 t178 t179 x22_39 = some r) ∧ Aside0 (kq ≤ kj6) ∧ Aside0 (wc.heap[gb177]? = some (.cells #[.int .i64 t173, .int .i64 t174] 46 (0, 0))) ∧ Aside0 (Below w.heap.size w wc))
    case first =>
     have H := HC40.out
     clear HC40
     by_cases c42 : 2 < (t142.length : Int)
     ·rw [if_pos c42] at H
      have c42b0 : decide (2 < (t142.length : Int)) = true := decide_eq_true c42
      have c42b1 : decide (2 < t142.length) = true := decide_eq_true (by omega)
      clear c42
      (first | rw [c42b0] | (simp only [i64_w, i32_w]; rw [c42b0]) | skip)
      by_cases c43 : ((rd_T37 t142 2).f2).toList = ([60, 112, 111, 105, 110, 116, 62] : List UInt8)
      ·rw [if_pos c43] at H
       have c43b0 : (((rd_T37 t142 2).f2).toList == ([60, 112, 111, 105, 110, 116, 62] : List UInt8)) = true := beq_iff_eq.mpr c43
       have c43b1 : (((rd_T37 t142 2).f2).toList != ([60, 112, 111, 105, 110, 116, 62] : List UInt8)) = false := bne_eq_false_iff_eq.mpr c43
       clear c43
       by_cases c44 : 4 < (t147.length : Int)
       ·rw [if_pos c44] at H
        have c44b0 : decide (4 < (t147.length : Int)) = true := decide_eq_true c44
        have c44b1 : decide (4 < t147.length) = true := decide_eq_true (by omega)
        clear c44
        by_cases c45 : ((rd_T37 t147 4).f1) = (-3)
        ·rw [if_pos c45] at H
         have c45b0 : (((rd_T37 t147 4).f1) == (-3)) = true := beq_iff_eq.mpr c45
         have c45b1 : (((rd_T37 t147 4).f1) != (-3)) = false := bne_eq_false_iff_eq.mpr c45
         clear c45
         by_cases c46 : 6 < (t147.length : Int)
         ·rw [if_pos c46] at H
          have c46b0 : decide (6 < (t147.length : Int)) = true := decide_eq_true c46
          have c46b1 : decide (6 < t147.length) = true := decide_eq_true (by omega)
          clear c46
          by_cases c47 : ((rd_T37 t147 6).f2).toList = ([98, 45, 50] : List UInt8)
          ·rw [if_pos c47] at H
           have c47b0 : (((rd_T37 t147 6).f2).toList == ([98, 45, 50] : List UInt8)) = true := beq_iff_eq.mpr c47
           have c47b1 : (((rd_T37 t147 6).f2).toList != ([98, 45, 50] : List UInt8)) = false := bne_eq_false_iff_eq.mpr c47
           clear c47
           by_cases c48 : 2 < (t162.length : Int)
           ·rw [if_pos c48] at H
            have c48b0 : decide (2 < (t162.length : Int)) = true := decide_eq_true c48
            have c48b1 : decide (2 < t162.length) = true := decide_eq_true (by omega)
            clear c48
            by_cases c49 : ((rd_T50 t162 2).f2) = 7
            ·rw [if_pos c49] at H
             have c49b0 : (((rd_T50 t162 2).f2) == 7) = true := beq_iff_eq.mpr c49
             have c49b1 : (((rd_T50 t162 2).f2) != 7) = false := bne_eq_false_iff_eq.mpr c49
             clear c49
             have H' := Aside0.mk H
             clear H
             obtain ⟨Ao50, co50, eo50⟩ := Kd.R_slice HO_1.out
             subst eo50
             have p180 : 0 ≤ (2 : Int) := (by omega)
             have q180 : 2 < (t142.length : Int) := of_decide_eq_true (by first | (with_reducible assumption) | assumption)
             obtain ⟨ad180, e180, hx180_0, hx180_1, hx180_2, hx180_3, hx180_4⟩ := at_T37 (Kd.R_reads' HO_1.out).2.2 2 p180 q180
             cases e180
             (try simp only [show (2 : Int).toNat = 2 from rfl, Nat.reduceMul, Nat.reduceEqDiff, Go.Addr.add, ↓reduceIte] at hx180_0)
             (try simp only [show (2 : Int).toNat = 2 from rfl, Nat.reduceMul, Nat.reduceEqDiff, Go.Addr.add, ↓reduceIte] at hx180_1)
             (try simp only [show (2 : Int).toNat = 2 from rfl, Nat.reduceMul, Nat.reduceEqDiff, Go.Addr.add, ↓reduceIte] at hx180_2)
             (try simp only [show (2 : Int).toNat = 2 from rfl, Nat.reduceMul, Nat.reduceEqDiff, Go.Addr.add, ↓reduceIte] at hx180_3)
             (try simp only [show (2 : Int).toNat = 2 from rfl, Nat.reduceMul, Nat.reduceEqDiff, Go.Addr.add, ↓reduceIte] at hx180_4)
             have qi180 : (2 < t142.length) = True := eq_true (by omega)
             (try rw [show ((2 : Int)).toNat = 2 from rfl] at hx180_0)
             (try rw [show 2 * 5 = 10 from rfl] at hx180_0)
             (try rw [show ((2 : Int)).toNat = 2 from rfl] at hx180_1)
             (try rw [show 2 * 5 = 10 from rfl] at hx180_1)
             (try rw [show ((2 : Int)).toNat = 2 from rfl] at hx180_2)
             (try rw [show 2 * 5 = 10 from rfl] at hx180_2)
             (try rw [show ((2 : Int)).toNat = 2 from rfl] at hx180_3)
             (try rw [show 2 * 5 = 10 from rfl] at hx180_3)
             (try rw [show ((2 : Int)).toNat = 2 from rfl] at hx180_4)
             (try rw [show 2 * 5 = 10 from rfl] at hx180_4)
             replace p180 := eq_true p180
             replace q180 := eq_true q180
             obtain ⟨Ao51, co51, eo51⟩ := Kd.R_slice HO_4.out
             subst eo51
             have p181 : 0 ≤ (4 : Int) := (by omega)
             have q181 : 4 < (t147.length : Int) := of_decide_eq_true (by first | (with_reducible assumption) | assumption)
             obtain ⟨ad181, e181, hx181_0, hx181_1, hx181_2, hx181_3, hx181_4⟩ := at_T37 (Kd.R_reads' HO_4.out).2.2 4 p181 q181
             cases e181
             (try simp only [show (4 : Int).toNat = 4 from rfl, Nat.reduceMul, Nat.reduceEqDiff, Go.Addr.add, ↓reduceIte] at hx181_0)
             (try simp only [show (4 : Int).toNat = 4 from rfl, Nat.reduceMul, Nat.reduceEqDiff, Go.Addr.add, ↓reduceIte] at hx181_1)
             (try simp only [show (4 : Int).toNat = 4 from rfl, Nat.reduceMul, Nat.reduceEqDiff, Go.Addr.add, ↓reduceIte] at hx181_2)
             (try simp only [show (4 : Int).toNat = 4 from rfl, Nat.reduceMul, Nat.reduceEqDiff, Go.Addr.add, ↓reduceIte] at hx181_3)
             (try simp only [show (4 : Int).toNat = 4 from rfl, Nat.reduceMul, Nat.reduceEqDiff, Go.Addr.add, ↓reduceIte] at hx181_4)
             have qi181 : (4 < t147.length) = True := eq_true (by omega)
             (try rw [show ((4 : Int)).toNat = 4 from rfl] at hx181_0)
             (try rw [show 4 * 5 = 20 from rfl] at hx181_0)
             (try rw [show ((4 : Int)).toNat = 4 from rfl] at hx181_1)
             (try rw [show 4 * 5 = 20 from rfl] at hx181_1)
             (try rw [show ((4 : Int)).toNat = 4 from rfl] at hx181_2)
             (try rw [show 4 * 5 = 20 from rfl] at hx181_2)
             (try rw [show ((4 : Int)).toNat = 4 from rfl] at hx181_3)
             (try rw [show 4 * 5 = 20 from rfl] at hx181_3)
             (try rw [show ((4 : Int)).toNat = 4 from rfl] at hx181_4)
             (try rw [show 4 * 5 = 20 from rfl] at hx181_4)
             replace p181 := eq_true p181
             replace q181 := eq_true q181
             have p182 : 0 ≤ (6 : Int) := (by omega)
             have q182 : 6 < (t147.length : Int) := of_decide_eq_true (by first | (with_reducible assumption) | assumption)
             obtain ⟨ad182, e182, hx182_0, hx182_1, hx182_2, hx182_3, hx182_4⟩ := at_T37 (Kd.R_reads' HO_4.out).2.2 6 p182 q182
             obtain rfl : ad181 = ad182 := (by injection e182)
             (try simp only [show (6 : Int).toNat = 6 from rfl, Nat.reduceMul, Nat.reduceEqDiff, Go.Addr.add, ↓reduceIte] at hx182_0)
             (try simp only [show (6 : Int).toNat = 6 from rfl, Nat.reduceMul, Nat.reduceEqDiff, Go.Addr.add, ↓reduceIte] at hx182_1)
             (try simp only [show (6 : Int).toNat = 6 from rfl, Nat.reduceMul, Nat.reduceEqDiff, Go.Addr.add, ↓reduceIte] at hx182_2)
             (try simp only [show (6 : Int).toNat = 6 from rfl, Nat.reduceMul, Nat.reduceEqDiff, Go.Addr.add, ↓reduceIte] at hx182_3)
             (try simp only [show (6 : Int).toNat = 6 from rfl, Nat.reduceMul, Nat.reduceEqDiff, Go.Addr.add, ↓reduceIte] at hx182_4)
             have qi182 : (6 < t147.length) = True := eq_true (by omega)
             (try rw [show ((6 : Int)).toNat = 6 from rfl] at hx182_0)
             (try rw [show 6 * 5 = 30 from rfl] at hx182_0)
             (try rw [show ((6 : Int)).toNat = 6 from rfl] at hx182_1)
             (try rw [show 6 * 5 = 30 from rfl] at hx182_1)
             (try rw [show ((6 : Int)).toNat = 6 from rfl] at hx182_2)
             (try rw [show 6 * 5 = 30 from rfl] at hx182_2)
             (try rw [show ((6 : Int)).toNat = 6 from rfl] at hx182_3)
             (try rw [show 6 * 5 = 30 from rfl] at hx182_3)
             (try rw [show ((6 : Int)).toNat = 6 from rfl] at hx182_4)
             (try rw [show 6 * 5 = 30 from rfl] at hx182_4)
             replace p182 := eq_true p182
             replace q182 := eq_true q182
             obtain ⟨Ao52, co52, eo52⟩ := Kd.R_slice HO_13.out
             subst eo52
             have p183 : 0 ≤ (2 : Int) := (by omega)
             have q183 : 2 < (t162.length : Int) := of_decide_eq_true (by first | (with_reducible assumption) | assumption)
             obtain ⟨ad183, e183, hx183_0, hx183_1, hx183_2⟩ := at_T50 (Kd.R_reads' HO_13.out).2.2 2 p183 q183
             cases e183
             (try simp only [show (2 : Int).toNat = 2 from rfl, Nat.reduceMul, Nat.reduceEqDiff, Go.Addr.add, ↓reduceIte] at hx183_0)
             (try simp only [show (2 : Int).toNat = 2 from rfl, Nat.reduceMul, Nat.reduceEqDiff, Go.Addr.add, ↓reduceIte] at hx183_1)
             (try simp only [show (2 : Int).toNat = 2 from rfl, Nat.reduceMul, Nat.reduceEqDiff, Go.Addr.add, ↓reduceIte] at hx183_2)
             have qi183 : (2 < t162.length) = True := eq_true (by omega)
             (try rw [show ((2 : Int)).toNat = 2 from rfl] at hx183_0)
             (try rw [show 2 * 3 = 6 from rfl] at hx183_0)
             (try rw [show ((2 : Int)).toNat = 2 from rfl] at hx183_1)
             (try rw [show 2 * 3 = 6 from rfl] at hx183_1)
             (try rw [show ((2 : Int)).toNat = 2 from rfl] at hx183_2)
             (try rw [show 2 * 3 = 6 from rfl] at hx183_2)
             replace p183 := eq_true p183
             replace q183 := eq_true q183
             have hcz53_0 : w41.cell? ⟨gb177, 0, none⟩ = some (.int .i64 t173) := (blk_cell BK177.out 0).trans rfl
             have hcz53_1 : w41.cell? ⟨gb177, 1, none⟩ = some (.int .i64 t174) := (blk_cell BK177.out 1).trans rfl
             have hfz53_0 := blk_frozen BK177.out 0
             have hfz53_1 := blk_frozen BK177.out 1
             go_wp2
             go_meet
             case rel => exact ⟨_, ((t173 == 2 && (t174 == 2))), (by first | rfl | (simp; done) | (simp [*]; done)), H', ⟨by have := HJ6.out; first | omega | exact Nat.le_refl _⟩, ⟨by (with_reducible repeat (first | refine blk_drewN ?_ _ | refine blk_drew ?_ | refine blk_alloc ?_ _)); exact BK177.out⟩, ⟨by repeat (first | (with_reducible first | exact HB.out | apply below_alloc | apply pw_below_drewN | apply below_drew1 | refine below_set ?_ GE177.out) | exact HB.out)⟩⟩
            ·rw [if_neg c49] at H
             have c49b0 : (((rd_T50 t162 2).f2) == 7) = false := beq_eq_false_iff_ne.mpr c49
             have c49b1 : (((rd_T50 t162 2).f2) != 7) = true := bne_iff_ne.mpr c49
             have H' := Aside0.mk H
             clear H
             obtain ⟨Ao54, co54, eo54⟩ := Kd.R_slice HO_1.out
             subst eo54
             have p180 : 0 ≤ (2 : Int) := (by omega)
             have q180 : 2 < (t142.length : Int) := of_decide_eq_true (by first | (with_reducible assumption) | assumption)
             obtain ⟨ad180, e180, hx180_0, hx180_1, hx180_2, hx180_3, hx180_4⟩ := at_T37 (Kd.R_reads' HO_1.out).2.2 2 p180 q180
             cases e180
             (try simp only [show (2 : Int).toNat = 2 from rfl, Nat.reduceMul, Nat.reduceEqDiff, Go.Addr.add, ↓reduceIte] at hx180_0)
             (try simp only [show (2 : Int).toNat = 2 from rfl, Nat.reduceMul, Nat.reduceEqDiff, Go.Addr.add, ↓reduceIte] at hx180_1)
             (try simp only [show (2 : Int).toNat = 2 from rfl, Nat.reduceMul, Nat.reduceEqDiff, Go.Addr.add, ↓reduceIte] at hx180_2)
             (try simp only [show (2 : Int).toNat = 2 from rfl, Nat.reduceMul, Nat.reduceEqDiff, Go.Addr.add, ↓reduceIte] at hx180_3)
             (try simp only [show (2 : Int).toNat = 2 from rfl, Nat.reduceMul, Nat.reduceEqDiff, Go.Addr.add, ↓reduceIte] at hx180_4)
             have qi180 : (2 < t142.length) = True := eq_true (by omega)
             (try rw [show ((2 : Int)).toNat = 2 from rfl] at hx180_0)
             (try rw [show 2 * 5 = 10 from rfl] at hx180_0)
             (try rw [show ((2 : Int)).toNat = 2 from rfl] at hx180_1)
             (try rw [show 2 * 5 = 10 from rfl] at hx180_1)
             (try rw [show ((2 : Int)).toNat = 2 from rfl] at hx180_2)
             (try rw [show 2 * 5 = 10 from rfl] at hx180_2)
             (try rw [show ((2 : Int)).toNat = 2 from rfl] at hx180_3)
             (try rw [show 2 * 5 = 10 from rfl] at hx180_3)
             (try rw [show ((2 : Int)).toNat = 2 from rfl] at hx180_4)
             (try rw [show 2 * 5 = 10 from rfl] at hx180_4)
             replace p180 := eq_true p180
             replace q180 := eq_true q180
             obtain ⟨Ao55, co55, eo55⟩ := Kd.R_slice HO_4.out
             subst eo55
             have p181 : 0 ≤ (4 : Int) := (by omega)
             have q181 : 4 < (t147.length : Int) := of_decide_eq_true (by first | (with_reducible assumption) | assumption)
             obtain ⟨ad181, e181, hx181_0, hx181_1, hx181_2, hx181_3, hx181_4⟩ := at_T37 (Kd.R_reads' HO_4.out).2.2 4 p181 q181
             cases e181
             (try simp only [show (4 : Int).toNat = 4 from rfl, Nat.reduceMul, Nat.reduceEqDiff, Go.Addr.add, ↓reduceIte] at hx181_0)
             (try simp only [show (4 : Int).toNat = 4 from rfl, Nat.reduceMul, Nat.reduceEqDiff, Go.Addr.add, ↓reduceIte] at hx181_1)
             (try simp only [show (4 : Int).toNat = 4 from rfl, Nat.reduceMul, Nat.reduceEqDiff, Go.Addr.add, ↓reduceIte] at hx181_2)
             (try simp only [show (4 : Int).toNat = 4 from rfl, Nat.reduceMul, Nat.reduceEqDiff, Go.Addr.add, ↓reduceIte] at hx181_3)
             (try simp only [show (4 : Int).toNat = 4 from rfl, Nat.reduceMul, Nat.reduceEqDiff, Go.Addr.add, ↓reduceIte] at hx181_4)
             have qi181 : (4 < t147.length) = True := eq_true (by omega)
             (try rw [show ((4 : Int)).toNat = 4 from rfl] at hx181_0)
             (try rw [show 4 * 5 = 20 from rfl] at hx181_0)
             (try rw [show ((4 : Int)).toNat = 4 from rfl] at hx181_1)
             (try rw [show 4 * 5 = 20 from rfl] at hx181_1)
             (try rw [show ((4 : Int)).toNat = 4 from rfl] at hx181_2)
             (try rw [show 4 * 5 = 20 from rfl] at hx181_2)
             (try rw [show ((4 : Int)).toNat = 4 from rfl] at hx181_3)
             (try rw [show 4 * 5 = 20 from rfl] at hx181_3)
             (try rw [show ((4 : Int)).toNat = 4 from rfl] at hx181_4)
             (try rw [show 4 * 5 = 20 from rfl] at hx181_4)
             replace p181 := eq_true p181
             replace q181 := eq_true q181
             have p182 : 0 ≤ (6 : Int) := (by omega)
             have q182 : 6 < (t147.length : Int) := of_decide_eq_true (by first | (with_reducible assumption) | assumption)
             obtain ⟨ad182, e182, hx182_0, hx182_1, hx182_2, hx182_3, hx182_4⟩ := at_T37 (Kd.R_reads' HO_4.out).2.2 6 p182 q182
             obtain rfl : ad181 = ad182 := (by injection e182)
             (try simp only [show (6 : Int).toNat = 6 from rfl, Nat.reduceMul, Nat.reduceEqDiff, Go.Addr.add, ↓reduceIte] at hx182_0)
             (try simp only [show (6 : Int).toNat = 6 from rfl, Nat.reduceMul, Nat.reduceEqDiff, Go.Addr.add, ↓reduceIte] at hx182_1)
             (try simp only [show (6 : Int).toNat = 6 from rfl, Nat.reduceMul, Nat.reduceEqDiff, Go.Addr.add, ↓reduceIte] at hx182_2)
             (try simp only [show (6 : Int).toNat = 6 from rfl, Nat.reduceMul, Nat.reduceEqDiff, Go.Addr.add, ↓reduceIte] at hx182_3)
             (try simp only [show (6 : Int).toNat = 6 from rfl, Nat.reduceMul, Nat.reduceEqDiff, Go.Addr.add, ↓reduceIte] at hx182_4)
             have qi182 : (6 < t147.length) = True := eq_true (by omega)
             (try rw [show ((6 : Int)).toNat = 6 from rfl] at hx182_0)
             (try rw [show 6 * 5 = 30 from rfl] at hx182_0)
             (try rw [show ((6 : Int)).toNat = 6 from rfl] at hx182_1)
             (try rw [show 6 * 5 = 30 from rfl] at hx182_1)
             (try rw [show ((6 : Int)).toNat = 6 from rfl] at hx182_2)
             (try rw [show 6 * 5 = 30 from rfl] at hx182_2)
             (try rw [show ((6 : Int)).toNat = 6 from rfl] at hx182_3)
             (try rw [show 6 * 5 = 30 from rfl] at hx182_3)
             (try rw [show ((6 : Int)).toNat = 6 from rfl] at hx182_4)
             (try rw [show 6 * 5 = 30 from rfl] at hx182_4)
             replace p182 := eq_true p182
             replace q182 := eq_true q182
             obtain ⟨Ao56, co56, eo56⟩ := Kd.R_slice HO_13.out
             subst eo56
             have p183 : 0 ≤ (2 : Int) := (by omega)
             have q183 : 2 < (t162.length : Int) := of_decide_eq_true (by first | (with_reducible assumption) | assumption)
             obtain ⟨ad183, e183, hx183_0, hx183_1, hx183_2⟩ := at_T50 (Kd.R_reads' HO_13.out).2.2 2 p183 q183
             cases e183
             (try simp only [show (2 : Int).toNat = 2 from rfl, Nat.reduceMul, Nat.reduceEqDiff, Go.Addr.add, ↓reduceIte] at hx183_0)
             (try simp only [show (2 : Int).toNat = 2 from rfl, Nat.reduceMul, Nat.reduceEqDiff, Go.Addr.add, ↓reduceIte] at hx183_1)
             (try simp only [show (2 : Int).toNat = 2 from rfl, Nat.reduceMul, Nat.reduceEqDiff, Go.Addr.add, ↓reduceIte] at hx183_2)
             have qi183 : (2 < t162.length) = True := eq_true (by omega)
             (try rw [show ((2 : Int)).toNat = 2 from rfl] at hx183_0)
             (try rw [show 2 * 3 = 6 from rfl] at hx183_0)
             (try rw [show ((2 : Int)).toNat = 2 from rfl] at hx183_1)
             (try rw [show 2 * 3 = 6 from rfl] at hx183_1)
             (try rw [show ((2 : Int)).toNat = 2 from rfl] at hx183_2)
             (try rw [show 2 * 3 = 6 from rfl] at hx183_2)
             replace p183 := eq_true p183
             replace q183 := eq_true q183
             go_wp2
             go_meet
             case rel => exact ⟨_, (false), (by first | rfl | (simp; done) | (simp [*]; done)), H', ⟨by have := HJ6.out; first | omega | exact Nat.le_refl _⟩, ⟨by (with_reducible repeat (first | refine blk_drewN ?_ _ | refine blk_drew ?_ | refine blk_alloc ?_ _)); exact BK177.out⟩, ⟨by repeat (first | (with_reducible first | exact HB.out | apply below_alloc | apply pw_below_drewN | apply below_drew1 | refine below_set ?_ GE177.out) | exact HB.out)⟩⟩
           ·rw [if_neg c48] at H
            exact absurd H (by simp)
          ·rw [if_neg c47] at H
           have c47b0 : (((rd_T37 t147 6).f2).toList == ([98, 45, 50] : List UInt8)) = false := beq_eq_false_iff_ne.mpr c47
           have c47b1 : (((rd_T37 t147 6).f2).toList != ([98, 45, 50] : List UInt8)) = true := bne_iff_ne.mpr c47
           have H' := Aside0.mk H
           clear H
           obtain ⟨Ao57, co57, eo57⟩ := Kd.R_slice HO_1.out
           subst eo57
           have p180 : 0 ≤ (2 : Int) := (by omega)
           have q180 : 2 < (t142.length : Int) := of_decide_eq_true (by first | (with_reducible assumption) | assumption)
           obtain ⟨ad180, e180, hx180_0, hx180_1, hx180_2, hx180_3, hx180_4⟩ := at_T37 (Kd.R_reads' HO_1.out).2.2 2 p180 q180
           cases e180
           (try simp only [show (2 : Int).toNat = 2 from rfl, Nat.reduceMul, Nat.reduceEqDiff, Go.Addr.add, ↓reduceIte] at hx180_0)
           (try simp only [show (2 : Int).toNat = 2 from rfl, Nat.reduceMul, Nat.reduceEqDiff, Go.Addr.add, ↓reduceIte] at hx180_1)
           (try simp only [show (2 : Int).toNat = 2 from rfl, Nat.reduceMul, Nat.reduceEqDiff, Go.Addr.add, ↓reduceIte] at hx180_2)
           (try simp only [show (2 : Int).toNat = 2 from rfl, Nat.reduceMul, Nat.reduceEqDiff, Go.Addr.add, ↓reduceIte] at hx180_3)
           (try simp only [show (2 : Int).toNat = 2 from rfl, Nat.reduceMul, Nat.reduceEqDiff, Go.Addr.add, ↓reduceIte] at hx180_4)
           have qi180 : (2 < t142.length) = True := eq_true (by omega)
           (try rw [show ((2 : Int)).toNat = 2 from rfl] at hx180_0)
           (try rw [show 2 * 5 = 10 from rfl] at hx180_0)
           (try rw [show ((2 : Int)).toNat = 2 from rfl] at hx180_1)
           (try rw [show 2 * 5 = 10 from rfl] at hx180_1)
           (try rw [show ((2 : Int)).toNat = 2 from rfl] at hx180_2)
           (try rw [show 2 * 5 = 10 from rfl] at hx180_2)
           (try rw [show ((2 : Int)).toNat = 2 from rfl] at hx180_3)
           (try rw [show 2 * 5 = 10 from rfl] at hx180_3)
           (try rw [show ((2 : Int)).toNat = 2 from rfl] at hx180_4)
           (try rw [show 2 * 5 = 10 from rfl] at hx180_4)
           replace p180 := eq_true p180
           replace q180 := eq_true q180
           obtain ⟨Ao58, co58, eo58⟩ := Kd.R_slice HO_4.out
           subst eo58
           have p181 : 0 ≤ (4 : Int) := (by omega)
           have q181 : 4 < (t147.length : Int) := of_decide_eq_true (by first | (with_reducible assumption) | assumption)
           obtain ⟨ad181, e181, hx181_0, hx181_1, hx181_2, hx181_3, hx181_4⟩ := at_T37 (Kd.R_reads' HO_4.out).2.2 4 p181 q181
           cases e181
           (try simp only [show (4 : Int).toNat = 4 from rfl, Nat.reduceMul, Nat.reduceEqDiff, Go.Addr.add, ↓reduceIte] at hx181_0)
           (try simp only [show (4 : Int).toNat = 4 from rfl, Nat.reduceMul, Nat.reduceEqDiff, Go.Addr.add, ↓reduceIte] at hx181_1)
           (try simp only [show (4 : Int).toNat = 4 from rfl, Nat.reduceMul, Nat.reduceEqDiff, Go.Addr.add, ↓reduceIte] at hx181_2)
           (try simp only [show (4 : Int).toNat = 4 from rfl, Nat.reduceMul, Nat.reduceEqDiff, Go.Addr.add, ↓reduceIte] at hx181_3)
           (try simp only [show (4 : Int).toNat = 4 from rfl, Nat.reduceMul, Nat.reduceEqDiff, Go.Addr.add, ↓reduceIte] at hx181_4)
           have qi181 : (4 < t147.length) = True := eq_true (by omega)
           (try rw [show ((4 : Int)).toNat = 4 from rfl] at hx181_0)
           (try rw [show 4 * 5 = 20 from rfl] at hx181_0)
           (try rw [show ((4 : Int)).toNat = 4 from rfl] at hx181_1)
           (try rw [show 4 * 5 = 20 from rfl] at hx181_1)
           (try rw [show ((4 : Int)).toNat = 4 from rfl] at hx181_2)
           (try rw [show 4 * 5 = 20 from rfl] at hx181_2)
           (try rw [show ((4 : Int)).toNat = 4 from rfl] at hx181_3)
           (try rw [show 4 * 5 = 20 from rfl] at hx181_3)
           (try rw [show ((4 : Int)).toNat = 4 from rfl] at hx181_4)
           (try rw [show 4 * 5 = 20 from rfl] at hx181_4)
           replace p181 := eq_true p181
           replace q181 := eq_true q181
           have p182 : 0 ≤ (6 : Int) := (by omega)
           have q182 : 6 < (t147.length : Int) := of_decide_eq_true (by first | (with_reducible assumption) | assumption)
           obtain ⟨ad182, e182, hx182_0, hx182_1, hx182_2, hx182_3, hx182_4⟩ := at_T37 (Kd.R_reads' HO_4.out).2.2 6 p182 q182
           obtain rfl : ad181 = ad182 := (by injection e182)
           (try simp only [show (6 : Int).toNat = 6 from rfl, Nat.reduceMul, Nat.reduceEqDiff, Go.Addr.add, ↓reduceIte] at hx182_0)
           (try simp only [show (6 : Int).toNat = 6 from rfl, Nat.reduceMul, Nat.reduceEqDiff, Go.Addr.add, ↓reduceIte] at hx182_1)
           (try simp only [show (6 : Int).toNat = 6 from rfl, Nat.reduceMul, Nat.reduceEqDiff, Go.Addr.add, ↓reduceIte] at hx182_2)
           (try simp only [show (6 : Int).toNat = 6 from rfl, Nat.reduceMul, Nat.reduceEqDiff, Go.Addr.add, ↓reduceIte] at hx182_3)
           (try simp only [show (6 : Int).toNat = 6 from rfl, Nat.reduceMul, Nat.reduceEqDiff, Go.Addr.add, ↓reduceIte] at hx182_4)
           have qi182 : (6 < t147.length) = True := eq_true (by omega)
           (try rw [show ((6 : Int)).toNat = 6 from rfl] at hx182_0)
           (try rw [show 6 * 5 = 30 from rfl] at hx182_0)
           (try rw [show ((6 : Int)).toNat = 6 from rfl] at hx182_1)
           (try rw [show 6 * 5 = 30 from rfl] at hx182_1)
           (try rw [show ((6 : Int)).toNat = 6 from rfl] at hx182_2)
           (try rw [show 6 * 5 = 30 from rfl] at hx182_2)
           (try rw [show ((6 : Int)).toNat = 6 from rfl] at hx182_3)
           (try rw [show 6 * 5 = 30 from rfl] at hx182_3)
           (try rw [show ((6 : Int)).toNat = 6 from rfl] at hx182_4)
           (try rw [show 6 * 5 = 30 from rfl] at hx182_4)
           replace p182 := eq_true p182
           replace q182 := eq_true q182
           go_wp2
           go_meet
           case rel => exact ⟨_, (false), (by first | rfl | (simp; done) | (simp [*]; done)), H', ⟨by have := HJ6.out; first | omega | exact Nat.le_refl _⟩, ⟨by (with_reducible repeat (first | refine blk_drewN ?_ _ | refine blk_drew ?_ | refine blk_alloc ?_ _)); exact BK177.out⟩, ⟨by repeat (first | (with_reducible first | exact HB.out | apply below_alloc | apply pw_below_drewN | apply below_drew1 | refine below_set ?_ GE177.out) | exact HB.out)⟩⟩
         ·rw [if_neg c46] at H
          exact absurd H (by simp)
        ·rw [if_neg c45] at H
         have c45b0 : (((rd_T37 t147 4).f1) == (-3)) = false := beq_eq_false_iff_ne.mpr c45
         have c45b1 : (((rd_T37 t147 4).f1) != (-3)) = true := bne_iff_ne.mpr c45
         have H' := Aside0.mk H
         clear H
         obtain ⟨Ao59, co59, eo59⟩ := Kd.R_slice HO_1.out
         subst eo59
         have p180 : 0 ≤ (2 : Int) := (by omega)
         have q180 : 2 < (t142.length : Int) := of_decide_eq_true (by first | (with_reducible assumption) | assumption)
         obtain ⟨ad180, e180, hx180_0, hx180_1, hx180_2, hx180_3, hx180_4⟩ := at_T37 (Kd.R_reads' HO_1.out).2.2 2 p180 q180
         cases e180
         (try simp only [show (2 : Int).toNat = 2 from rfl, Nat.reduceMul, Nat.reduceEqDiff, Go.Addr.add, ↓reduceIte] at hx180_0)
         (try simp only [show (2 : Int).toNat = 2 from rfl, Nat.reduceMul, Nat.reduceEqDiff, Go.Addr.add, ↓reduceIte] at hx180_1)
         (try simp only [show (2 : Int).toNat = 2 from rfl, Nat.reduceMul, Nat.reduceEqDiff, Go.Addr.add, ↓reduceIte] at hx180_2)
         (try simp only [show (2 : Int).toNat = 2 from rfl, Nat.reduceMul, Nat.reduceEqDiff, Go.Addr.add, ↓reduceIte] at hx180_3)
         (try simp only [show (2 : Int).toNat = 2 from rfl, Nat.reduceMul, Nat.reduceEqDiff, Go.Addr.add, ↓reduceIte] at hx180_4)
         have qi180 : (2 < t142.length) = True := eq_true (by omega)
         (try rw [show ((2 : Int)).toNat = 2 from rfl] at hx180_0)
         (try rw [show 2 * 5 = 10 from rfl] at hx180_0)
         (try rw [show ((2 : Int)).toNat = 2 from rfl] at hx180_1)
         (try rw [show 2 * 5 = 10 from rfl] at hx180_1)
         (try rw [show ((2 : Int)).toNat = 2 from rfl] at hx180_2)
         (try rw [show 2 * 5 = 10 from rfl] at hx180_2)
         (try rw [show ((2 : Int)).toNat = 2 from rfl] at hx180_3)
         (try rw [show 2 * 5 = 10 from rfl] at hx180_3)
         (try rw [show ((2 : Int)).toNat = 2 from rfl] at hx180_4)
         (try rw [show 2 * 5 = 10 from rfl] at hx180_4)
         replace p180 := eq_true p180
         replace q180 := eq_true q180
         obtain ⟨Ao60, co60, eo60⟩ := Kd.R_slice HO_4.out
         subst eo60
         have p181 : 0 ≤ (4 : Int) := (by omega)
         have q181 : 4 < (t147.length : Int) := of_decide_eq_true (by first | (with_reducible assumption) | assumption)
         obtain ⟨ad181, e181, hx181_0, hx181_1, hx181_2, hx181_3, hx181_4⟩ := at_T37 (Kd.R_reads' HO_4.out).2.2 4 p181 q181
         cases e181
         (try simp only [show (4 : Int).toNat = 4 from rfl, Nat.reduceMul, Nat.reduceEqDiff, Go.Addr.add, ↓reduceIte] at hx181_0)
         (try simp only [show (4 : Int).toNat = 4 from rfl, Nat.reduceMul, Nat.reduceEqDiff, Go.Addr.add, ↓reduceIte] at hx181_1)
         (try simp only [show (4 : Int).toNat = 4 from rfl, Nat.reduceMul, Nat.reduceEqDiff, Go.Addr.add, ↓reduceIte] at hx181_2)
         (try simp only [show (4 : Int).toNat = 4 from rfl, Nat.reduceMul, Nat.reduceEqDiff, Go.Addr.add, ↓reduceIte] at hx181_3)
         (try simp only [show (4 : Int).toNat = 4 from rfl, Nat.reduceMul, Nat.reduceEqDiff, Go.Addr.add, ↓reduceIte] at hx181_4)
         have qi181 : (4 < t147.length) = True := eq_true (by omega)
         (try rw [show ((4 : Int)).toNat = 4 from rfl] at hx181_0)
         (try rw [show 4 * 5 = 20 from rfl] at hx181_0)
         (try rw [show ((4 : Int)).toNat = 4 from rfl] at hx181_1)
         (try rw [show 4 * 5 = 20 from rfl] at hx181_1)
         (try rw [show ((4 : Int)).toNat = 4 from rfl] at hx181_2)
         (try rw [show 4 * 5 = 20 from rfl] at hx181_2)
         (try rw [show ((4 : Int)).toNat = 4 from rfl] at hx181_3)
         (try rw [show 4 * 5 = 20 from rfl] at hx181_3)
         (try rw [show ((4 : Int)).toNat = 4 from rfl] at hx181_4)
         (try rw [show 4 * 5 = 20 from rfl] at hx181_4)
         replace p181 := eq_true p181
         replace q181 := eq_true q181
         go_wp2
         go_meet
         case rel => exact ⟨_, (false), (by first | rfl | (simp; done) | (simp [*]; done)), H', ⟨by have := HJ6.out; first | omega | exact Nat.le_refl _⟩, ⟨by (with_reducible repeat (first | refine blk_drewN ?_ _ | refine blk_drew ?_ | refine blk_alloc ?_ _)); exact BK177.out⟩, ⟨by repeat (first | (with_reducible first | exact HB.out | apply below_alloc | apply pw_below_drewN | apply below_drew1 | refine below_set ?_ GE177.out) | exact HB.out)⟩⟩
       ·rw [if_neg c44] at H
        exact absurd H (by simp)
      ·rw [if_neg c43] at H
       have c43b0 : (((rd_T37 t142 2).f2).toList == ([60, 112, 111, 105, 110, 116, 62] : List UInt8)) = false := beq_eq_false_iff_ne.mpr c43
       have c43b1 : (((rd_T37 t142 2).f2).toList != ([60, 112, 111, 105, 110, 116, 62] : List UInt8)) = true := bne_iff_ne.mpr c43
       have H' := Aside0.mk H
       clear H
       obtain ⟨Ao61, co61, eo61⟩ := Kd.R_slice HO_1.out
       subst eo61
       have p180 : 0 ≤ (2 : Int) := (by omega)
       have q180 : 2 < (t142.length : Int) := of_decide_eq_true (by first | (with_reducible assumption) | assumption)
       obtain ⟨ad180, e180, hx180_0, hx180_1, hx180_2, hx180_3, hx180_4⟩ := at_T37 (Kd.R_reads' HO_1.out).2.2 2 p180 q180
       cases e180
       (try simp only [show (2 : Int).toNat = 2 from rfl, Nat.reduceMul, Nat.reduceEqDiff, Go.Addr.add, ↓reduceIte] at hx180_0)
       (try simp only [show (2 : Int).toNat = 2 from rfl, Nat.reduceMul, Nat.reduceEqDiff, Go.Addr.add, ↓reduceIte] at hx180_1)
       (try simp only [show (2 : Int).toNat = 2 from rfl, Nat.reduceMul, Nat.reduceEqDiff, Go.Addr.add, ↓reduceIte] at hx180_2)
       (try simp only [show (2 : Int).toNat = 2 from rfl, Nat.reduceMul, Nat.reduceEqDiff, Go.Addr.add, ↓reduceIte] at hx180_3)
       (try simp only [show (2 : Int).toNat = 2 from rfl, Nat.reduceMul, Nat.reduceEqDiff, Go.Addr.add, ↓reduceIte] at hx180_4)
       have qi180 : (2 < t142.length) = True := eq_true (by omega)
       (try rw [show ((2 : Int)).toNat = 2 from rfl] at hx180_0)
       (try rw [show 2 * 5 = 10 from rfl] at hx180_0)
       (try rw [show ((2 : Int)).toNat = 2 from rfl] at hx180_1)
       (try rw [show 2 * 5 = 10 from rfl] at hx180_1)
       (try rw [show ((2 : Int)).toNat = 2 from rfl] at hx180_2)
       (try rw [show 2 * 5 = 10 from rfl] at hx180_2)
       (try rw [show ((2 : Int)).toNat = 2 from rfl] at hx180_3)
       (try rw [show 2 * 5 = 10 from rfl] at hx180_3)
       (try rw [show ((2 : Int)).toNat = 2 from rfl] at hx180_4)
       (try rw [show 2 * 5 = 10 from rfl] at hx180_4)
       replace p180 := eq_true p180
       replace q180 := eq_true q180
       go_wp2
       go_meet
       case rel => exact ⟨_, (false), (by first | rfl | (simp; done) | (simp [*]; done)), H', ⟨by have := HJ6.out; first | omega | exact Nat.le_refl _⟩, ⟨by (with_reducible repeat (first | refine blk_drewN ?_ _ | refine blk_drew ?_ | refine blk_alloc ?_ _)); exact BK177.out⟩, ⟨by repeat (first | (with_reducible first | exact HB.out | apply below_alloc | apply pw_below_drewN | apply below_drew1 | refine below_set ?_ GE177.out) | exact HB.out)⟩⟩
     ·rw [if_neg c42] at H
      exact absurd H (by simp)
    case rest =>
     clear HC40
     try clear c1
     try clear p1
     try clear q1
     try clear hx1
     try clear qi1
     try clear c2
     try clear p2
     try clear c3
     try clear c4
     try clear c5
     try clear c18
     try clear p18
     try clear q18
     try clear hx18
     try clear qi18
     try clear c19
     try clear c19b0
     try clear c19b1
     try clear c20
     try clear c20b0
     try clear c20b1
     try clear c21
     try clear c21b0
     try clear c21b1
     try clear c22
     try clear c22b0
     try clear c22b1
     try clear c23
     try clear c23b0
     try clear c23b1
     try clear c24
     try clear c24b0
     try clear c24b1
     try clear c25
     try clear c25b0
     try clear c25b1
     try clear c26
     try clear c26b0
     try clear c26b1
     try clear c27
     try clear c27b0
     try clear c27b1
     try clear c38
     try clear c42
     try clear c42b0
     try clear c42b1
     try clear c43
     try clear c43b0
     try clear c43b1
     try clear c44
     try clear c44b0
     try clear c44b1
     try clear c45
     try clear c45b0
     try clear c45b1
     try clear c46
     try clear c46b0
     try clear c46b1
     try clear c47
     try clear c47b0
     try clear c47b1
     try clear c48
     try clear c48b0
     try clear c48b1
     try clear c49
     try clear c49b0
     try clear c49b1
     try clear hcz18_0
     try clear hcz18_1
     try clear hcz53_0
     try clear hcz53_1
     try clear hfz18_0
     try clear hfz18_1
     try clear hfz53_0
     try clear hfz53_1
     try clear hx180_0
     try clear hx180_1
     try clear hx180_2
     try clear hx180_3
     try clear hx180_4
     try clear hx181_0
     try clear hx181_1
     try clear hx181_2
     try clear hx181_3
     try clear hx181_4
     try clear hx182_0
     try clear hx182_1
     try clear hx182_2
     try clear hx182_3
     try clear hx182_4
     try clear hx183_0
     try clear hx183_1
     try clear hx183_2
     try clear p180
     try clear p181
     try clear p182
     try clear p183
     try clear p2
     try clear q180
     try clear q181
     try clear q182
     try clear q183
     obtain ⟨kq, x22_39, rfl, HA, HJ39, BK177, HB⟩ := hcut
     cases kq with
     | zero => exact absurd HA.out (by simp [skerrylaw01_sane.j1])
     | succ kj39 =>
      have H := HA.out
      clear HA
      simp only [skerrylaw01_sane.j1] at H
      by_cases c62 : x22_39 = true
      ·subst c62
       have H1 : (if t153 = 0 then (if t178.toList = ([97, 114, 101, 97] : List UInt8) then (if t179.toList = ([115, 104, 97, 112, 101, 115] : List UInt8) then ((lex_Kind.f kj39 (⟨#[120, 58]⟩ : ByteArray)).bind fun t184 => (if t184 = 3 then ((lex_IsPlain.f kj39 (⟨#[101, 109, 112, 116, 121, 63]⟩ : ByteArray)).bind fun t185 => (if t185 = true then ((lex_IsPlain.f kj39 (⟨#[120, 64, 108]⟩ : ByteArray)).bind fun t186 => (some (!t186))) else (some false))) else (some false))) else (some false)) else (some false)) else (some false)) = some r := by rw [if_pos rfl] at H; exact H
       clear H
       have H := H1
       clear H1
       by_cases c63 : t153 = 0
       ·rw [if_pos c63] at H
        have c63b0 : (t153 == 0) = true := beq_iff_eq.mpr c63
        have c63b1 : (t153 != 0) = false := bne_eq_false_iff_eq.mpr c63
        clear c63
        by_cases c64 : t178.toList = ([97, 114, 101, 97] : List UInt8)
        ·rw [if_pos c64] at H
         have c64b0 : (t178.toList == ([97, 114, 101, 97] : List UInt8)) = true := beq_iff_eq.mpr c64
         have c64b1 : (t178.toList != ([97, 114, 101, 97] : List UInt8)) = false := bne_eq_false_iff_eq.mpr c64
         clear c64
         by_cases c65 : t179.toList = ([115, 104, 97, 112, 101, 115] : List UInt8)
         ·rw [if_pos c65] at H
          have c65b0 : (t179.toList == ([115, 104, 97, 112, 101, 115] : List UInt8)) = true := beq_iff_eq.mpr c65
          have c65b1 : (t179.toList != ([115, 104, 97, 112, 101, 115] : List UInt8)) = false := bne_eq_false_iff_eq.mpr c65
          clear c65
          replace H := Option.bind_eq_some_iff.mp H
          obtain ⟨t184, A660, H⟩ := H
          replace H : (if t184 = 3 then ((lex_IsPlain.f kj39 (⟨#[101, 109, 112, 116, 121, 63]⟩ : ByteArray)).bind fun t185 => (if t185 = true then ((lex_IsPlain.f kj39 (⟨#[120, 64, 108]⟩ : ByteArray)).bind fun t186 => (some (!t186))) else (some false))) else (some false)) = some r := H
          have A66 := Aside0.mk A660
          clear A660
          by_cases c67 : t184 = 3
          ·rw [if_pos c67] at H
           have c67b0 : (t184 == 3) = true := beq_iff_eq.mpr c67
           have c67b1 : (t184 != 3) = false := bne_eq_false_iff_eq.mpr c67
           clear c67
           replace H := Option.bind_eq_some_iff.mp H
           obtain ⟨t185, A680, H⟩ := H
           replace H : (if t185 = true then ((lex_IsPlain.f kj39 (⟨#[120, 64, 108]⟩ : ByteArray)).bind fun t186 => (some (!t186))) else (some false)) = some r := H
           have A68 := Aside0.mk A680
           clear A680
           by_cases c69 : t185 = true
           ·subst c69
            have H1 : ((lex_IsPlain.f kj39 (⟨#[120, 64, 108]⟩ : ByteArray)).bind fun t186 => (some (!t186))) = some r := by rw [if_pos rfl] at H; exact H
            clear H
            have H := H1
            clear H1
            replace H := Option.bind_eq_some_iff.mp H
            obtain ⟨t186, A700, H⟩ := H
            replace H : (some (!t186)) = some r := H
            have A70 := Aside0.mk A700
            clear A700
            obtain rfl := Option.some.inj H
            go_wp2_with (first | (go_at_call 22; (with_reducible refine (lex_Kind.calls kj39 (⟨#[120, 58]⟩ : ByteArray) t184 _ A66.out (Lx.Env.below HE.out (by repeat (first | (with_reducible first | exact HB.out | apply below_alloc | apply pw_below_drewN | apply below_drew1 | refine below_set ?_ GE177.out) | exact HB.out)))).mono ?_); rintro e w71 ⟨rfl, hb⟩; have n0_ := Aside0.mk (blk_below (g := gb177) (o := .cells #[.int .i64 t173, .int .i64 t174] 46 (0, 0)) (by (with_reducible repeat (first | refine blk_drewN ?_ _ | refine blk_drew ?_ | refine blk_alloc ?_ _)); exact BK177.out) hb); have n1_ := Aside0.mk (below_step (by repeat (first | (with_reducible first | exact HB.out | apply below_alloc | apply pw_below_drewN | apply below_drew1 | refine below_set ?_ GE177.out) | exact HB.out)) hb); clear BK177; clear HB; have BK177 := n0_; have HB := n1_; clear n0_ n1_; (try clear hb); (try clear hb2); (try clear hk); (try clear hi)) | (go_at_call 23; (with_reducible refine (lex_IsPlain.calls kj39 (⟨#[101, 109, 112, 116, 121, 63]⟩ : ByteArray) true _ A68.out (Lx.Env.below HE.out (by repeat (first | (with_reducible first | exact HB.out | apply below_alloc | apply pw_below_drewN | apply below_drew1 | refine below_set ?_ GE177.out) | exact HB.out)))).mono ?_); rintro e w72 ⟨rfl, hb⟩; have n0_ := Aside0.mk (blk_below (g := gb177) (o := .cells #[.int .i64 t173, .int .i64 t174] 46 (0, 0)) (by (with_reducible repeat (first | refine blk_drewN ?_ _ | refine blk_drew ?_ | refine blk_alloc ?_ _)); exact BK177.out) hb); have n1_ := Aside0.mk (below_step (by repeat (first | (with_reducible first | exact HB.out | apply below_alloc | apply pw_below_drewN | apply below_drew1 | refine below_set ?_ GE177.out) | exact HB.out)) hb); clear BK177; clear HB; have BK177 := n0_; have HB := n1_; clear n0_ n1_; (try clear hb); (try clear hb2); (try clear hk); (try clear hi)) | (go_at_call 23; (with_reducible refine (lex_IsPlain.calls kj39 (⟨#[120, 64, 108]⟩ : ByteArray) t186 _ A70.out (Lx.Env.below HE.out (by repeat (first | (with_reducible first | exact HB.out | apply below_alloc | apply pw_below_drewN | apply below_drew1 | refine below_set ?_ GE177.out) | exact HB.out)))).mono ?_); rintro e w73 ⟨rfl, hb⟩; have n0_ := Aside0.mk (blk_below (g := gb177) (o := .cells #[.int .i64 t173, .int .i64 t174] 46 (0, 0)) (by (with_reducible repeat (first | refine blk_drewN ?_ _ | refine blk_drew ?_ | refine blk_alloc ?_ _)); exact BK177.out) hb); have n1_ := Aside0.mk (below_step (by repeat (first | (with_reducible first | exact HB.out | apply below_alloc | apply pw_below_drewN | apply below_drew1 | refine below_set ?_ GE177.out) | exact HB.out)) hb); clear BK177; clear HB; have BK177 := n0_; have HB := n1_; clear n0_ n1_; (try clear hb); (try clear hb2); (try clear hk); (try clear hi)))
            go_ret
            exact ⟨by first | rfl | (simp [errW_none, errW_some] <;> rfl) | (simp [*, errW_none, errW_some] <;> rfl), by repeat (first | (with_reducible first | exact HB.out | apply below_alloc | apply pw_below_drewN | apply below_drew1 | refine below_set ?_ GE177.out) | exact HB.out)⟩
           ·replace c69 := Bool.eq_false_iff.mpr c69
            subst c69
            have H1 : (some false) = some r := by rw [if_neg (show ¬ (false = true) by decide)] at H; exact H
            clear H
            have H := H1
            clear H1
            obtain rfl := Option.some.inj H
            go_wp2_with (first | (go_at_call 22; (with_reducible refine (lex_Kind.calls kj39 (⟨#[120, 58]⟩ : ByteArray) t184 _ A66.out (Lx.Env.below HE.out (by repeat (first | (with_reducible first | exact HB.out | apply below_alloc | apply pw_below_drewN | apply below_drew1 | refine below_set ?_ GE177.out) | exact HB.out)))).mono ?_); rintro e w74 ⟨rfl, hb⟩; have n0_ := Aside0.mk (blk_below (g := gb177) (o := .cells #[.int .i64 t173, .int .i64 t174] 46 (0, 0)) (by (with_reducible repeat (first | refine blk_drewN ?_ _ | refine blk_drew ?_ | refine blk_alloc ?_ _)); exact BK177.out) hb); have n1_ := Aside0.mk (below_step (by repeat (first | (with_reducible first | exact HB.out | apply below_alloc | apply pw_below_drewN | apply below_drew1 | refine below_set ?_ GE177.out) | exact HB.out)) hb); clear BK177; clear HB; have BK177 := n0_; have HB := n1_; clear n0_ n1_; (try clear hb); (try clear hb2); (try clear hk); (try clear hi)) | (go_at_call 23; (with_reducible refine (lex_IsPlain.calls kj39 (⟨#[101, 109, 112, 116, 121, 63]⟩ : ByteArray) false _ A68.out (Lx.Env.below HE.out (by repeat (first | (with_reducible first | exact HB.out | apply below_alloc | apply pw_below_drewN | apply below_drew1 | refine below_set ?_ GE177.out) | exact HB.out)))).mono ?_); rintro e w75 ⟨rfl, hb⟩; have n0_ := Aside0.mk (blk_below (g := gb177) (o := .cells #[.int .i64 t173, .int .i64 t174] 46 (0, 0)) (by (with_reducible repeat (first | refine blk_drewN ?_ _ | refine blk_drew ?_ | refine blk_alloc ?_ _)); exact BK177.out) hb); have n1_ := Aside0.mk (below_step (by repeat (first | (with_reducible first | exact HB.out | apply below_alloc | apply pw_below_drewN | apply below_drew1 | refine below_set ?_ GE177.out) | exact HB.out)) hb); clear BK177; clear HB; have BK177 := n0_; have HB := n1_; clear n0_ n1_; (try clear hb); (try clear hb2); (try clear hk); (try clear hi)))
            go_ret
            exact ⟨by first | rfl | (simp [errW_none, errW_some] <;> rfl) | (simp [*, errW_none, errW_some] <;> rfl), by repeat (first | (with_reducible first | exact HB.out | apply below_alloc | apply pw_below_drewN | apply below_drew1 | refine below_set ?_ GE177.out) | exact HB.out)⟩
          ·rw [if_neg c67] at H
           have c67b0 : (t184 == 3) = false := beq_eq_false_iff_ne.mpr c67
           have c67b1 : (t184 != 3) = true := bne_iff_ne.mpr c67
           obtain rfl := Option.some.inj H
           go_wp2_with (first | (go_at_call 22; (with_reducible refine (lex_Kind.calls kj39 (⟨#[120, 58]⟩ : ByteArray) t184 _ A66.out (Lx.Env.below HE.out (by repeat (first | (with_reducible first | exact HB.out | apply below_alloc | apply pw_below_drewN | apply below_drew1 | refine below_set ?_ GE177.out) | exact HB.out)))).mono ?_); rintro e w76 ⟨rfl, hb⟩; have n0_ := Aside0.mk (blk_below (g := gb177) (o := .cells #[.int .i64 t173, .int .i64 t174] 46 (0, 0)) (by (with_reducible repeat (first | refine blk_drewN ?_ _ | refine blk_drew ?_ | refine blk_alloc ?_ _)); exact BK177.out) hb); have n1_ := Aside0.mk (below_step (by repeat (first | (with_reducible first | exact HB.out | apply below_alloc | apply pw_below_drewN | apply below_drew1 | refine below_set ?_ GE177.out) | exact HB.out)) hb); clear BK177; clear HB; have BK177 := n0_; have HB := n1_; clear n0_ n1_; (try clear hb); (try clear hb2); (try clear hk); (try clear hi)))
           go_ret
           exact ⟨by first | rfl | (simp [errW_none, errW_some] <;> rfl) | (simp [*, errW_none, errW_some] <;> rfl), by repeat (first | (with_reducible first | exact HB.out | apply below_alloc | apply pw_below_drewN | apply below_drew1 | refine below_set ?_ GE177.out) | exact HB.out)⟩
         ·rw [if_neg c65] at H
          have c65b0 : (t179.toList == ([115, 104, 97, 112, 101, 115] : List UInt8)) = false := beq_eq_false_iff_ne.mpr c65
          have c65b1 : (t179.toList != ([115, 104, 97, 112, 101, 115] : List UInt8)) = true := bne_iff_ne.mpr c65
          obtain rfl := Option.some.inj H
          go_wp2
          go_ret
          exact ⟨by first | rfl | (simp [errW_none, errW_some] <;> rfl) | (simp [*, errW_none, errW_some] <;> rfl), by repeat (first | (with_reducible first | exact HB.out | apply below_alloc | apply pw_below_drewN | apply below_drew1 | refine below_set ?_ GE177.out) | exact HB.out)⟩
        ·rw [if_neg c64] at H
         have c64b0 : (t178.toList == ([97, 114, 101, 97] : List UInt8)) = false := beq_eq_false_iff_ne.mpr c64
         have c64b1 : (t178.toList != ([97, 114, 101, 97] : List UInt8)) = true := bne_iff_ne.mpr c64
         obtain rfl := Option.some.inj H
         go_wp2
         go_ret
         exact ⟨by first | rfl | (simp [errW_none, errW_some] <;> rfl) | (simp [*, errW_none, errW_some] <;> rfl), by repeat (first | (with_reducible first | exact HB.out | apply below_alloc | apply pw_below_drewN | apply below_drew1 | refine below_set ?_ GE177.out) | exact HB.out)⟩
       ·rw [if_neg c63] at H
        have c63b0 : (t153 == 0) = false := beq_eq_false_iff_ne.mpr c63
        have c63b1 : (t153 != 0) = true := bne_iff_ne.mpr c63
        obtain rfl := Option.some.inj H
        go_wp2
        go_ret
        exact ⟨by first | rfl | (simp [errW_none, errW_some] <;> rfl) | (simp [*, errW_none, errW_some] <;> rfl), by repeat (first | (with_reducible first | exact HB.out | apply below_alloc | apply pw_below_drewN | apply below_drew1 | refine below_set ?_ GE177.out) | exact HB.out)⟩
      ·replace c62 := Bool.eq_false_iff.mpr c62
       subst c62
       have H1 : (some false) = some r := by rw [if_neg (show ¬ (false = true) by decide)] at H; exact H
       clear H
       have H := H1
       clear H1
       obtain rfl := Option.some.inj H
       go_wp2
       go_ret
       exact ⟨by first | rfl | (simp [errW_none, errW_some] <;> rfl) | (simp [*, errW_none, errW_some] <;> rfl), by repeat (first | (with_reducible first | exact HB.out | apply below_alloc | apply pw_below_drewN | apply below_drew1 | refine below_set ?_ GE177.out) | exact HB.out)⟩

end Go.Proofs.YtdaccmjfefknoaaGreatDoor.PZb
