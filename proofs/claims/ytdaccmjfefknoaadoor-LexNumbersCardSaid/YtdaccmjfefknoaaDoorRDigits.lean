/- The reference's Digits, walked: the numeral of an integer. -/
import Derived.Test.YtdaccmjfefknoaaDoorRMem
import Derived.Test.YtdaccmjfefknoaaDoorRNumP
import Derived.Test.YtdaccmjfefknoaaDoorLxValue
import Derived.Lib.ItoaWalk
import Derived.Lib.ItoaNum
import Derived.WalkSpells
set_option linter.unusedVariables false
set_option linter.unusedSimpArgs false
namespace Go.Proofs.YtdaccmjfefknoaaDoor.Ref
open Go.RowKit Go.Proofs.YtdaccmjfefknoaaDoorW.PrintWords Go.Proofs.YtdaccmjfefknoaaDoorW.PrintMore
attribute [local go_sem] max2_int min2_int max_two min_two max_three min_three max_four min_four
def dg (d : Nat) : ByteArray := ⟨#[UInt8.ofNat (48 + d)]⟩
theorem dg_enc (d : Nat) (h : d < 10) : Utf8.encode (48 + (d : Int)) = dg d := by
  rcases (by omega : d = 0 ∨ d = 1 ∨ d = 2 ∨ d = 3 ∨ d = 4 ∨ d = 5 ∨ d = 6 ∨ d = 7 ∨ d = 8 ∨ d = 9) with rfl | rfl | rfl | rfl | rfl | rfl | rfl | rfl | rfl | rfl <;> rfl
/-- The digits that are still to come. -/
def ahead (m : Nat) : List UInt8 := if m = 0 then [] else Lib.decDigits m
theorem ahead_step {m : Nat} (h : m ≠ 0) : ahead m = ahead (m / 10) ++ [UInt8.ofNat (48 + m % 10)] := by
  unfold ahead
  rw [if_neg h]
  by_cases h10 : m < 10
  · rw [if_pos (by omega), Lib.decDigits, dif_pos h10, List.nil_append, Nat.mod_eq_of_lt h10]
  · rw [if_neg (by omega), Lib.decDigits, dif_neg h10]
theorem digits_step (m : Nat) : Lib.decDigits m = ahead (m / 10) ++ [UInt8.ofNat (48 + m % 10)] := by
  by_cases h : m = 0
  · subst h; rw [Lib.decDigits, dif_pos (by omega)]; rfl
  · rw [← ahead_step h]; unfold ahead; rw [if_neg h]
theorem digits_len {m : Nat} (h : m ≤ 9223372036854775808) : (Lib.decDigits m).length ≤ 20 := by
  obtain ⟨h1, h2, h3, h4⟩ := Lx.decDigits_digits m m (Nat.le_refl _)
  rcases h4 with h4 | h4
  · have h5 := (Lx.dec_spell _ (Lib.decDigits m) rfl h2 h1 (.inl h4)).2 h4
    rw [h3] at h5
    rcases Nat.lt_or_ge 20 (Lib.decDigits m).length with h6 | h6
    · have : 10 ^ 20 ≤ 10 ^ ((Lib.decDigits m).length - 1) := Nat.pow_le_pow_right (by omega) (by omega)
      omega
    · exact h6
  · subst h4
    rw [Lib.decDigits, dif_pos (by omega)]
    simp
set_option maxHeartbeats 3200000 in
theorem digits_pos (n : Nat) (hn : n ≤ 9223372036854775807) (w : World) :
    Calls Tryd.prog 35 #[.int .i64 n] w fun e w' => e = .returned (.string ⟨(Lib.decDigits n).toArray⟩) ∧ w = w' := by
  obtain ⟨L, hL⟩ : ∃ L, Lib.decDigits n = L := ⟨_, rfl⟩
  have hlen := digits_len (m := n) (by omega)
  rw [hL] at hlen ⊢
  have hst := digits_step n
  rw [hL] at hst
  have HST := Lib.hid hst
  have HLEN := Lib.hid hlen
  clear hst hL hlen
  have g1 : decide ((n : Int) < 0) = false := decide_eq_false (by omega)
  have h0 : (0 : Int) ≤ n := by omega
  have h1 : (n : Int) ≤ 9223372036854775807 := by omega
  have he : Utf8.encode (48 + (n : Int) % 10) = dg (n % 10) := by
    have := dg_enc (n % 10) (by omega)
    rw [← this]
    congr 1
  have hsz : (dg (n % 10)).size = 1 := rfl
  have HE := Lib.hid he
  clear he hsz
  have he := HE.out
  go_enter Tryd.func35, Tryd.ntmps35
  go_wp2
  clear he
  go_loopg [5, 6] n (fun kq vs vm wr => ∃ (m : Nat) (S : ByteArray), vm = .int .i64 ((m : Int)) ∧ vs = .string S ∧ m ≤ kq ∧ m ≤ n ∧ Hid (ahead m ++ S.data.toList = L) ∧ wr = w)
  case atStart => exact ⟨n / 10, dg (n % 10), by congr 1, rfl, by omega, by omega, Lib.hid (by rw [HST.out]; rfl), rfl⟩
  case round =>
    obtain ⟨m, S, rfl, rfl, hkm, hmn, HS, rfl⟩ := hrel
    by_cases hm0 : m = 0
    · have HF : Hid (S.data.toList = L) := Lib.hid (by have := HS.out; rw [hm0] at this; exact this)
      have g2 : ((m : Int) != 0) = false := by rw [bne_eq_false_iff_eq]; omega
      clear hm0 hkm hmn
      go_wp2
      go_ret
      refine ⟨?_, rfl⟩
      refine congrArg (fun z => Ending.returned (.string z)) ?_
      rw [← HF.out]
    · have g2 : ((m : Int) != 0) = true := by rw [bne_iff_ne]; omega
      have he : Utf8.encode (48 + (m : Int) % 10) = dg (m % 10) := by
        have := dg_enc (m % 10) (by omega)
        rw [← this]
        congr 1
      have hsz : S.size ≤ 20 := by
        have h1 := congrArg List.length HS.out
        have h2 := HLEN.out
        rw [List.length_append, data_length] at h1
        omega
      have h2 : (0 : Int) ≤ m := by omega
      have h3 : (m : Int) ≤ 9223372036854775807 := by omega
      have HN : Hid (ahead (m / 10) ++ (dg (m % 10) ++ S).data.toList = L) := Lib.hid (by
        rw [← HS.out, ahead_step hm0, List.append_assoc]
        congr 1)
      have hz1 : (dg (m % 10)).size = 1 := rfl
      have hz2 : (dg (m % 10)).size + S.size ≤ 9223372036854775807 := by omega
      have HK := Lib.hid hkm
      have HM := Lib.hid hmn
      have HM0 := Lib.hid hm0
      clear hkm hmn hm0
      go_wp2
      go_roundg (gk - 1)
      case measure => have := HK.out; have := HM0.out; omega
      case rel => exact ⟨m / 10, _, by congr 1, rfl, by have := HK.out; have := HM0.out; omega, by have := HM.out; omega, HN, rfl⟩
set_option maxHeartbeats 3200000 in
theorem digits_neg (n : Nat) (hn0 : 0 < n) (hn : n ≤ 9223372036854775808) (w : World) :
    Calls Tryd.prog 35 #[.int .i64 (-(n : Int))] w fun e w' => e = .returned (.string ⟨(45 :: Lib.decDigits n).toArray⟩) ∧ w = w' := by
  obtain ⟨L, hL⟩ : ∃ L, Lib.decDigits n = L := ⟨_, rfl⟩
  have hlen := digits_len (m := n) (by omega)
  rw [hL] at hlen ⊢
  have hst := digits_step n
  rw [hL] at hst
  have HST := Lib.hid hst
  have HLEN := Lib.hid hlen
  clear hst hL hlen
  have g1 : decide (-(n : Int) < 0) = true := decide_eq_true (by omega)
  have h0 : (0 : Int) ≤ n := by omega
  have h1 : (n : Int) ≤ 9223372036854775808 := by omega
  have he : Utf8.encode (48 + (n : Int) % 10) = dg (n % 10) := by
    have := dg_enc (n % 10) (by omega)
    rw [← this]
    congr 1
  have hsz : (dg (n % 10)).size = 1 := rfl
  have HE := Lib.hid he
  clear he hsz
  have he := HE.out
  go_enter Tryd.func35, Tryd.ntmps35
  go_wp2
  clear he
  go_loopg [3, 4] n (fun kq vs vm wr => ∃ (m : Nat) (S : ByteArray), vm = .int .i64 (-(m : Int)) ∧ vs = .string S ∧ m ≤ kq ∧ m ≤ n ∧ Hid (ahead m ++ S.data.toList = L) ∧ wr = w)
  case atStart => exact ⟨n / 10, dg (n % 10), by congr 1, rfl, by omega, by omega, Lib.hid (by rw [HST.out]; rfl), rfl⟩
  case round =>
    obtain ⟨m, S, rfl, rfl, hkm, hmn, HS, rfl⟩ := hrel
    by_cases hm0 : m = 0
    · have HF : Hid (S.data.toList = L) := Lib.hid (by have := HS.out; rw [hm0] at this; exact this)
      have g2 : (-(m : Int) != 0) = false := by rw [bne_eq_false_iff_eq]; omega
      have hsz : S.size ≤ 20 := by
        have h1 := congrArg List.length HF.out
        have h2 := HLEN.out
        rw [data_length] at h1
        omega
      clear hm0 hkm hmn
      go_wp2
      go_ret
      refine ⟨?_, rfl⟩
      refine congrArg (fun z => Ending.returned (.string z)) ?_
      rw [← HF.out]
      rw [show (⟨#[45]⟩ : ByteArray) ++ S = ⟨(45 :: S.data.toList).toArray⟩ from by apply ByteArray.ext; apply Array.ext'; simp]
    · have g2 : (-(m : Int) != 0) = true := by rw [bne_iff_ne]; omega
      have he : Utf8.encode (48 + (m : Int) % 10) = dg (m % 10) := by
        have := dg_enc (m % 10) (by omega)
        rw [← this]
        congr 1
      have hsz : S.size ≤ 20 := by
        have h1 := congrArg List.length HS.out
        have h2 := HLEN.out
        rw [List.length_append, data_length] at h1
        omega
      have h2 : (0 : Int) ≤ m := by omega
      have h3 : (m : Int) ≤ 9223372036854775808 := by omega
      have HN : Hid (ahead (m / 10) ++ (dg (m % 10) ++ S).data.toList = L) := Lib.hid (by
        rw [← HS.out, ahead_step hm0, List.append_assoc]
        congr 1)
      have hz1 : (dg (m % 10)).size = 1 := rfl
      have hz2 : (dg (m % 10)).size + S.size ≤ 9223372036854775807 := by omega
      have HK := Lib.hid hkm
      have HM := Lib.hid hmn
      have HM0 := Lib.hid hm0
      clear hkm hmn hm0
      go_wp2
      go_roundg (gk - 1)
      case measure => have := HK.out; have := HM0.out; omega
      case rel => exact ⟨m / 10, _, by congr 1, rfl, by have := HK.out; have := HM0.out; omega, by have := HM.out; omega, HN, rfl⟩
theorem digits_walk (n : Int) (h0 : -9223372036854775808 ≤ n) (h1 : n ≤ 9223372036854775807) (w : World) :
    Calls Tryd.prog 35 #[.int .i64 n] w fun e w' => e = .returned (.string ⟨(Lib.itoa n).toArray⟩) ∧ w = w' := by
  unfold Lib.itoa
  by_cases hn : n < 0
  · rw [if_pos hn]
    have := digits_neg n.natAbs (by omega) (by omega) w
    rw [show (-(n.natAbs : Int)) = n from by omega] at this
    exact this
  · rw [if_neg hn]
    have := digits_pos n.toNat (by omega) w
    rw [show ((n.toNat : Nat) : Int) = n from by omega] at this
    exact this
theorem itoa_out (n : Int) (h0 : -9223372036854775808 ≤ n) (h1 : n ≤ 9223372036854775807) {w : World} (hE : Lx.Env w) :
    Calls Tryd.prog 51 #[.int .i64 n] w fun e w' => e = .returned (.string ⟨(Lib.itoa n).toArray⟩) ∧ Below w.heap.size w w' := by
  refine (Tryd.strconv_Itoa n h0 h1 w hE.t).mono ?_
  rintro e w' ⟨rfl, k, os, rfl⟩
  exact ⟨rfl, Lx.below_grow w k os⟩
end Go.Proofs.YtdaccmjfefknoaaDoor.Ref
