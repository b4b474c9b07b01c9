/- The words that a reader is given. -/
import Derived.Test.YtipnlgmeonepfaaGreatDoorFrB
import Derived.Test.YtipnlgmeonepfaaGreatDoorPFax2
import Derived.Test.YtipnlgmeonepfaaGreatDoorFrC
import Derived.Test.YtipnlgmeonepfaaGreatDoorFrA
import Derived.Test.YtipnlgmeonepfaaGreatDoorLxPieces
import Derived.RangeFuncFrom
import Derived.Test.YtipnlgmeonepfaaGreatDoorPFax4
set_option linter.unusedVariables false
set_option linter.unusedSimpArgs false
namespace Go.Proofs.YtipnlgmeonepfaaGreatDoor.PFa
open Go.RowKit Go.Proofs.YtipnlgmeonepfaaGreatDoorW.PrintWords Go.Proofs.YtipnlgmeonepfaaGreatDoorW.PrintLast Go.Proofs.YtipnlgmeonepfaaGreatDoorW.PrintMore
def plainB (x : ByteArray) : Bool := (Pure.kindOf x == 1) && !(x.data.toList.contains 64)
theorem plain_f (x : ByteArray) (k : Nat) (hk : 20000 < k) : lex_IsPlain.f k x = some (plainB x) := by
 unfold lex_IsPlain.f lex_IsName.f plainB
 rw [Pure.lkind_f x k hk]
 have e : strings_Contains.f x ⟨#[64]⟩ = some (x.data.toList.contains 64) := rfl
 simp only [Option.bind_some]
 rw [e]
 cases (Pure.kindOf x == 1) <;> rfl
def wordOk (ws : List ByteArray) (i : Nat) : Bool := plainB (rdOf ByteArray.empty ws (i : Int)) && !memB (rdOf ByteArray.empty ws (i : Int)) takenWords && !memB (rdOf ByteArray.empty ws (i : Int)) (ws.take i)
/-- May words be given? -/
def wordsB (ws : List ByteArray) : Bool := decide (ws.length ≤ 40) && (List.range ws.length).all (wordOk ws)
theorem words_bad {ws : List ByteArray} {i : Nat} (hi : i < ws.length) (h : wordOk ws i = false) : wordsB ws = false := by
 unfold wordsB
 rw [Bool.and_eq_false_iff]
 refine .inr ?_
 rw [List.all_eq_false]
 exact ⟨i, List.mem_range.2 hi, by rw [h]; decide⟩
theorem words_all {ws : List ByteArray} (hl : ws.length ≤ 40) (h : ∀ j, j < ws.length → wordOk ws j = true) : wordsB ws = true := by
 unfold wordsB
 rw [Bool.and_eq_true, List.all_eq_true]
 exact ⟨decide_eq_true hl, fun j hj => h j (List.mem_range.1 hj)⟩
theorem plain_c (x : ByteArray) {w : World} (hE : Lx.Env w) : Calls Tryz.prog 72 #[.string x] w fun e w' => e = .returned (.bool (plainB x)) ∧ Below w.heap.size w w' := lex_IsPlain.calls 20001 x _ w (plain_f x 20001 (by omega)) hE
set_option maxHeartbeats 6400000 in
set_option maxRecDepth 100000 in
theorem areWords_c {A : Option Addr} {c : Nat} {l0 : List ByteArray} {w : World} (hC : Kd.C Kd.string w A l0.length l0) (hc : l0.length ≤ c) (hE : Lx.Env w) :
  Calls Tryz.prog 47 #[.slice A l0.length c] w fun e w' => e = .returned (.bool (wordsB l0)) ∧ Below w.heap.size w w' := by
 by_cases hlen : 40 < l0.length
 ·have x1 : decide (40 < l0.length) = true := decide_eq_true hlen
  have x2 : decide ((40 : Int) < (l0.length : Int)) = true := decide_eq_true (by omega)
  have HB : Hid (wordsB l0 = false) := Lib.hid (by unfold wordsB; rw [decide_eq_false (by omega)]; rfl)
  clear hC hc hE hlen
  go_enter Tryz.func47, Tryz.ntmps47
  go_wp2
  go_ret
  exact ⟨by rw [HB.out]; rfl, by repeat (with_reducible first | exact Below.refl _ _ | apply Below.drew)⟩
 ·have x1 : decide (40 < l0.length) = false := decide_eq_false hlen
  have x2 : decide ((40 : Int) < (l0.length : Int)) = false := decide_eq_false (by omega)
  have HR0 := Aside0.mk hC
  have HE := Aside0.mk hE
  have HB := Aside0.mk (Below.refl w.heap.size w)
  obtain ⟨t168, ht168⟩ : ∃ x, x = ownWords := ⟨_, rfl⟩
  have A6 : Aside0 (fragment_Words.f = some t168) := Aside0.mk (by rw [ht168]; rfl)
  obtain ⟨y171, hy171⟩ : ∃ y_ : List ByteArray, y_ = (([(⟨#[101, 110, 100]⟩ : ByteArray), (⟨#[115, 108, 111, 116]⟩ : ByteArray)] : List ByteArray)) := ⟨_, rfl⟩
  have LMc7 := Aside0.mk (show t168.length + y171.length < 8796093022208 by rw [ht168, hy171]; decide)
  obtain ⟨y174, hy174⟩ : ∃ y_ : List ByteArray, y_ = (t168 ++ y171) := ⟨_, rfl⟩
  have HY : Hid (y174 = takenWords) := Lib.hid (by rw [hy174, ht168, hy171]; rfl)
  have Ny171 := Aside0.mk hy171
  have Ny174 := Aside0.mk hy174
  clear hy171 hy174 ht168 hC hE
  go_enter Tryz.func47, Tryz.ntmps47
  go_upto_region 3 with (fail)
  go_wp2_with (first | ((with_reducible refine gate_callee (f := 18) rfl ?_); refine goesL_ (some 9) rfl rfl Tryz.func18 (by kernel_rfl) rfl #[] rfl (by (try simp only [List.map_toArray, List.map_cons, List.map_nil]); first | done | rfl | (simp only [List.length_drop, List.length_take]; rfl)) ?_; (with_reducible refine (fragment_Words.calls  t168 _ A6.out).mono ?_); rintro e w8 ⟨v169, rfl, ho0, hb⟩; refine ⟨_, rfl, ?_⟩; have n0_ := Aside0.mk (Kd.R_lower ho0 (below_size (by repeat (first | (with_reducible first | exact HB.out | apply below_alloc | apply pw_below_drewN | apply below_drew1) | exact HB.out)))); have n1_ := Aside0.mk (below_step (by repeat (first | (with_reducible first | exact HB.out | apply below_alloc | apply pw_below_drewN | apply below_drew1) | exact HB.out)) hb); clear HB; have HO170 := n0_; have HB := n1_; clear n0_ n1_; (try clear hb); (try clear hb2); (try clear hk); (try clear hi); (try clear ho0)) | ((with_reducible refine gate_dst (N := 10) rfl ?_); refine Kd.R_lit Kd.string _ 9 ?hg (N := 10) ?hd (xs := ([(⟨#[101, 110, 100]⟩ : ByteArray), (⟨#[115, 108, 111, 116]⟩ : ByteArray)] : List ByteArray)) (inner := [.string (⟨#[101, 110, 100]⟩ : ByteArray), .string (⟨#[115, 108, 111, 116]⟩ : ByteArray)]) (ok := fun _ => True) (okp := fun _ => True) ?hr ?hp (fun _ hk => hk) trivial (Below.refl _ _) (Nat.le_refl _) (by simp) ?_; (case hd => rfl); (case hg => rfl); (case hr => first | (go_simp; done) | (go_simp; rfl)); (case hp => exact (Reps.one (show Kd.M Kd.string _ _ _ (⟨#[101, 110, 100]⟩ : ByteArray) [.string (⟨#[101, 110, 100]⟩ : ByteArray)] from rfl) (Reps.one (show Kd.M Kd.string _ _ _ (⟨#[115, 108, 111, 116]⟩ : ByteArray) [.string (⟨#[115, 108, 111, 116]⟩ : ByteArray)] from rfl) (Reps.none _ _)))); intro v172 w9 ho10 hb hg_ hnew_; clear hg_ hnew_; (first | rw [← Ny171.out] at ho10 | (simp only [Int.reduceToNat] at ho10; rw [← Ny171.out] at ho10)); have n0_ := Aside0.mk (Kd.R_elder' (by (with_reducible repeat (first | apply Kd.R_alloc | apply Kd.R_drewN | apply Kd.R_drew)); exact HO170.out) (Kd.R_base ho10) hb); have n1_ := Aside0.mk (Kd.R_lower (Kd.R_new' ho10 (Kd.R_lt (by (with_reducible repeat (first | apply Kd.R_alloc | apply Kd.R_drewN | apply Kd.R_drew)); exact HO170.out))) (below_size (by repeat (first | (with_reducible first | exact HB.out | apply below_alloc | apply pw_below_drewN | apply below_drew1) | exact HB.out)))); have n2_ := Aside0.mk (below_step (by repeat (first | (with_reducible first | exact HB.out | apply below_alloc | apply pw_below_drewN | apply below_drew1) | exact HB.out)) hb); clear HO170; clear HB; have HO170 := n0_; have HO173 := n1_; have HB := n2_; clear n0_ n1_ n2_; clear hb ho10; obtain ⟨Ao12, co12, eo12⟩ := Kd.R_slice HO173.out; subst eo12) | ((with_reducible refine gate_builtin (b := .append) (xs := #[.tmp 9, .tmp 10]) rfl ?_); at_builtin; refine Kd.R_append_rows Kd.string (w0 := w) w.heap.size rfl (.tmp 9) (.tmp 10) 23 9 (.string ⟨#[]⟩) 16 rfl Tryz.underlying23 info9 rfl (by decide) (by omega) v169 t168 y171 _ _ _ (fun k_ => some k_ ≠ (.slice Ao12 y171.length co12 : Value).ownBlock) (fun _ => False) rfl rfl ?aO ?aR (fun _ _ h => h) (fun _ h => h.elim) ?aF ?aB ?aS ?aL ?_; (case aR => repeat (first | exact (Kd.R_reads' HO173.out).2.2 | (with_reducible refine Kd.C_alloc ?_ _) | (with_reducible refine Kd.C_drewN ?_ _) | (with_reducible refine Kd.C_drew ?_))); (case aB => exact (by repeat (first | (with_reducible first | exact HB.out | apply below_alloc | apply pw_below_drewN | apply below_drew1) | exact HB.out))); (case aF => exact (fun k_ hk => Kd.fresh' (Kd.R_lt (by (with_reducible repeat (first | apply Kd.R_alloc | apply Kd.R_drewN | apply Kd.R_drew)); exact HO173.out)) k_ hk)); (case aO => exact (by (with_reducible repeat (first | apply Kd.R_alloc | apply Kd.R_drewN | apply Kd.R_drew)); exact Kd.R_mono HO170.out (fun _ hk => hk.2))); (case aS => exact (below_size (by repeat (first | (with_reducible first | exact HB.out | apply below_alloc | apply pw_below_drewN | apply below_drew1) | exact HB.out)))); (case aL => have := LMc7.out; omega); intro v175 w11 ho hb hg hat; rw [← Ny174.out] at ho; have n0_ := Aside0.mk (Kd.R_after (ok := (fun _ => True)) (by (with_reducible repeat (first | apply Kd.R_alloc | apply Kd.R_drewN | apply Kd.R_drew)); exact HO173.out) hg hat); have n1_ := Aside0.mk (hb); have n2_ := Aside0.mk (ho); clear HO173; clear HB; clear HO170; have HO173 := n0_; have HB := n1_; have HO176 := n2_; clear n0_ n1_ n2_; clear ho hb hg hat))
  have HB0 := HB
  go_loopg [14] (l0.length + 1) (fun kq v14 w' => ∃ i : Nat, v14 = .int .i64 i ∧ l0.length + 1 - i ≤ kq ∧ i ≤ l0.length ∧ Aside0 (∀ j, j < i → wordOk l0 j = true) ∧ Aside0 (Kd.R Kd.string 9 w' w.heap.size (fun _ => True) v175 y174) ∧ Aside0 (Below w.heap.size w w'))
  case atStart => exact ⟨0, rfl, Nat.le_refl _, Nat.zero_le _, ⟨fun j hj => absurd hj (by omega)⟩, ⟨by (with_reducible repeat (first | apply Kd.R_alloc | apply Kd.R_drewN | apply Kd.R_drew)); exact Kd.R_mono HO176.out (fun _ hk => trivial)⟩, ⟨by repeat (first | (with_reducible first | exact HB.out | apply below_alloc | apply pw_below_drewN | apply below_drew1) | exact HB.out)⟩⟩
  case round =>
   obtain ⟨i, rfl, hkq, hil, HALL, HO, HBW⟩ := hrel
   clear HB HB0 HO176 HO173
   have HKQ := Aside0.mk hkq
   clear hkq
   by_cases hlt : i < l0.length
   ·have c1 : decide ((i : Int) < (l0.length : Int)) = true := decide_eq_true (by omega)
    have c2 : decide (i < l0.length) = true := decide_eq_true hlt
    have p1 : (0 ≤ (i : Int)) = True := eq_true (by omega)
    have p2 : ((i : Int) < (l0.length : Int)) = True := eq_true (by omega)
    obtain ⟨ad, ead, hx⟩ := Kd.at_string HR0.out (i : Int) (by omega) (by omega)
    cases ead
    replace hx := (HBW.out.cell (World.block_lt_of_cell? w _ hx)).trans hx
    obtain ⟨s, hs⟩ : ∃ s, rdOf ByteArray.empty l0 (i : Int) = s := ⟨_, rfl⟩
    rw [hs] at hx
    simp only [Int.toNat_natCast] at hx
    have HS := Lib.hid hs
    have hti : (l0.take i).length = i := by rw [List.length_take]; omega
    obtain ⟨A2, c3, e2⟩ := Kd.R_slice HO.out
    subst e2
    have HPL : Hid (∀ X, Below wr.heap.size wr X → Calls Tryz.prog 72 #[.string s] X fun e w' => e = .returned (.bool (plainB s)) ∧ Below wr.heap.size wr w') := Lib.hid (fun X hb => (plain_c s (HE.out.below (HBW.out.trans (hb.mono HBW.out.size)))).mono (fun e w' h => ⟨h.1, hb.trans (h.2.mono hb.size)⟩))
    have HC1 : Hid (∀ X, Below wr.heap.size wr X → Calls Tryz.prog 73 #[.slice A2 y174.length c3, .string s] X fun e w' => e = .returned (.bool (memB s takenWords)) ∧ Drawn0 X w') := Lib.hid (fun X hb => by
     have := contains_c s (Kd.C_below (Kd.R_reads' HO.out).2.2 hb) (Kd.R_reads' HO.out).2.1 (by rw [HY.out]; decide)
     rwa [HY.out] at this ⊢)
    have HC2 : Hid (∀ X, Below wr.heap.size wr X → Calls Tryz.prog 73 #[.slice (some ad) i c, .string s] X fun e w' => e = .returned (.bool (memB s (l0.take i))) ∧ Drawn0 X w') := Lib.hid (fun X hb => by
     have := contains_c (c := c) s (strs_take (Kd.C_below HR0.out (HBW.out.trans (hb.mono HBW.out.size))) i (by omega)) (by omega) (by omega)
     rwa [hti] at this)
    have HOK : Hid (wordOk l0 i = (plainB s && !memB s takenWords && !memB s (l0.take i))) := Lib.hid (by unfold wordOk; rw [hs])
    have HF : Hid (wordOk l0 i = false → wordsB l0 = false) := Lib.hid (words_bad hlt)
    clear hs hti
    have e1 : decide ((i : Int) ≤ (c : Int)) = true := decide_eq_true (by omega)
    have e2 : decide (i ≤ c) = true := decide_eq_true (by omega)
    have e3 : (0 ≤ (i : Int) ∧ (i : Int) ≤ (c : Int)) = True := eq_true (by omega)
    have e4 : (i : Int) ≤ (c : Int) := by omega
    have e5 : (0 : Int) ≤ (i : Int) := by omega
    have e6 : i ≤ c := by omega
    obtain ⟨pl, hpl⟩ : ∃ b, plainB s = b := ⟨_, rfl⟩
    rw [hpl] at HPL HOK
    obtain ⟨m1, hm1⟩ : ∃ b, memB s takenWords = b := ⟨_, rfl⟩
    rw [hm1] at HC1 HOK
    obtain ⟨m2, hm2⟩ : ∃ b, memB s (l0.take i) = b := ⟨_, rfl⟩
    rw [hm2] at HC2 HOK
    clear hpl hm1 hm2
    cases pl with
    | false =>
     have HFF : Hid (wordsB l0 = false) := Lib.hid (HF.out (HOK.out.trans (by cases m1 <;> cases m2 <;> rfl)))
     go_upto_region 7 with (fail)
     go_wp2_with (go_at_call 72; (refine (HPL.out _ (by repeat (with_reducible first | exact Below.refl _ _ | apply pw_below_drewN | apply Below.drew))).mono ?_); rintro e W3 ⟨rfl, hb3⟩)
     go_ret
     exact ⟨by rw [HFF.out]; rfl, by repeat (with_reducible first | exact HBW.out.trans (hb3.mono HBW.out.size) | apply pw_below_drewN | apply Below.drew)⟩
    | true =>
     cases m1 with
     | true =>
      have HFF : Hid (wordsB l0 = false) := Lib.hid (HF.out (HOK.out.trans (by cases m2 <;> rfl)))
      go_upto_region 7 with (fail)
      go_wp2_with (first
       | (go_at_call 72; (refine (HPL.out _ (by repeat (with_reducible first | exact Below.refl _ _ | apply pw_below_drewN | apply Below.drew))).mono ?_); rintro e W3 ⟨rfl, hb3⟩)
       | (go_at_call 73; (refine (HC1.out _ (by repeat (with_reducible first | exact hb3 | apply pw_below_drewN | apply Below.drew))).mono ?_); rintro e W4 ⟨rfl, ⟨m, rfl⟩⟩))
      go_ret
      exact ⟨by rw [HFF.out]; rfl, by repeat (with_reducible first | exact HBW.out.trans (hb3.mono HBW.out.size) | apply pw_below_drewN | apply Below.drew)⟩
     | false =>
      cases m2 with
      | true =>
       have HFF : Hid (wordsB l0 = false) := Lib.hid (HF.out (HOK.out.trans rfl))
       go_upto_region 7 with (fail)
       go_wp2_with (first
        | (go_at_call 72; (refine (HPL.out _ (by repeat (with_reducible first | exact Below.refl _ _ | apply pw_below_drewN | apply Below.drew))).mono ?_); rintro e W3 ⟨rfl, hb3⟩)
        | (go_at_call 73; (refine (HC1.out _ (by repeat (with_reducible first | exact hb3 | apply pw_below_drewN | apply Below.drew))).mono ?_); rintro e W4 ⟨rfl, ⟨m, rfl⟩⟩)
        | (go_at_call 73; (refine (HC2.out _ (by repeat (with_reducible first | exact hb3 | apply pw_below_drewN | apply Below.drew))).mono ?_); rintro e W5 ⟨rfl, ⟨m', rfl⟩⟩))
       go_ret
       exact ⟨by rw [HFF.out]; rfl, by repeat (with_reducible first | exact HBW.out.trans (hb3.mono HBW.out.size) | apply pw_below_drewN | apply Below.drew)⟩
      | false =>
       have HTT : Hid (wordOk l0 i = true) := Lib.hid (HOK.out.trans rfl)
       have y1 : wrap64 ((i : Int) + 1) = ((i + 1 : Nat) : Int) := by unfold wrap64; omega
       go_upto_region 7 with (fail)
       go_wp2_with (first
        | (go_at_call 72; (refine (HPL.out _ (by repeat (with_reducible first | exact Below.refl _ _ | apply pw_below_drewN | apply Below.drew))).mono ?_); rintro e W3 ⟨rfl, hb3⟩)
        | (go_at_call 73; (refine (HC1.out _ (by repeat (with_reducible first | exact hb3 | apply pw_below_drewN | apply Below.drew))).mono ?_); rintro e W4 ⟨rfl, ⟨m, rfl⟩⟩)
        | (go_at_call 73; (refine (HC2.out _ (by repeat (with_reducible first | exact hb3 | apply pw_below_drewN | apply Below.drew))).mono ?_); rintro e W5 ⟨rfl, ⟨m', rfl⟩⟩))
       go_roundg (gk - 1)
       case measure => have := HKQ.out; omega
       case rel =>
        refine ⟨i + 1, by go_num, by have := HKQ.out; omega, by omega, ⟨fun j hj => ?_⟩, ⟨Kd.R_below HO.out (by repeat (with_reducible first | exact hb3 | apply pw_below_drewN | apply Below.drew))⟩, ⟨by repeat (with_reducible first | exact HBW.out.trans (hb3.mono HBW.out.size) | apply pw_below_drewN | apply Below.drew)⟩⟩
        by_cases e : j = i
        ·rw [e]
         exact HTT.out
        ·exact HALL.out j (by omega)
   ·have c1 : decide ((i : Int) < (l0.length : Int)) = false := decide_eq_false (by omega)
    have c2 : decide (i < l0.length) = false := decide_eq_false hlt
    have HFF : Hid (wordsB l0 = true) := Lib.hid (words_all (by omega) (fun j hj => HALL.out j (by omega)))
    go_wp2
    go_ret
    exact ⟨by rw [HFF.out]; rfl, HBW.out⟩
end Go.Proofs.YtipnlgmeonepfaaGreatDoor.PFa

set_option linter.unusedVariables false
set_option linter.unusedSimpArgs false
namespace Go.Proofs.YtipnlgmeonepfaaGreatDoor.PFa
open Go.RowKit Go.Proofs.YtipnlgmeonepfaaGreatDoorW.PrintWords Go.Proofs.YtipnlgmeonepfaaGreatDoorW.PrintLast Go.Proofs.YtipnlgmeonepfaaGreatDoorW.PrintMore
open Go.Proofs.YtipnlgmeonepfaaGreatDoor.Lx (Kp invoke_closure)
attribute [local go_sem] Oper.semAt_some
theorem step_lt {tab : List (ByteArray × Bool)} {l : List Tk} {i j : Nat} {top : List Fg} {ps : List PF} {e : Int} (hi : i < l.length) (h : step tab l i top ps = .bad j e) : j < l.length := by
 have hb : ∀ n q, badIn l i n = some q → q < n := by
  intro n
  induction n with
  | zero => intro q h; cases h
  | succ n ih =>
   intro q h
   unfold badIn at h
   cases hb : badIn l i n with
   | some j => rw [hb] at h; dsimp only at h; injection h with h; have := ih j hb; omega
   | none =>
    rw [hb] at h
    dsimp only at h
    split at h
    ·cases h
    ·injection h with h
     omega
 unfold step at h
 split at h
 ·split at h
  ·cases h
  ·split at h
   ·split at h
    ·injection h with h _; omega
    ·cases h
   ·cases ps with
    | nil => injection h with h _; omega
    | cons q r =>
     dsimp only at h
     split at h
     ·split at h
      ·rename_i y hy
       injection h with h _
       have := hb _ _ hy
       have := dropN_lt hi q.tok q.kids
       omega
      ·cases h
     ·injection h with h _; omega
 ·injection h with h _; omega
theorem mach_lt {tab : List (ByteArray × Bool)} {l : List Tk} {e : Int} {j : Nat} : ∀ (k i : Nat) (top : List Fg) (ps : List PF), mach tab l k i top ps = .bad j e → j < l.length
 | 0, i, top, ps, h => by cases h
 | k + 1, i, top, ps, h => by
  unfold mach at h
  split at h
  ·rename_i hi
   split at h
   ·rename_i a b hs
    injection h with h1 h2
    subst h1
    exact step_lt hi hs
   ·rename_i a b c hs
    exact mach_lt k a b c h
  ·cases h
/-- What Read hands back. -/
def readOut (l : List Tk) (ws : List ByteArray) : List Fg × Int × Int :=
 if wordsB ws = true then
  if l.length ≤ 6000 then
   match mach (actTab (openers ++ ws)) l (l.length + 1) 0 [] [] with
   | .bad i e => ([], i, e)
   | .go _ top [] => (top, 0, 0)
   | .go _ _ (p :: _) => ([], p.at_, 21)
  else ([], 0, 2)
 else ([], 0, 1)
theorem words_size {ws : List ByteArray} (h : wordsB ws = true) : ws.length ≤ 40 ∧ ∀ x ∈ ws, x.size ≤ maxLen := by
 unfold wordsB at h
 rw [Bool.and_eq_true, List.all_eq_true] at h
 refine ⟨of_decide_eq_true h.1, fun x hx => ?_⟩
 obtain ⟨i, hi, rfl⟩ := List.getElem_of_mem hx
 have h2 := h.2 i (List.mem_range.2 hi)
 unfold wordOk plainB at h2
 have e : rdOf ByteArray.empty ws (i : Int) = ws[i] := by
  unfold rdOf
  simp [hi]
 rw [e] at h2
 simp only [Bool.and_eq_true, beq_iff_eq] at h2
 have h3 := h2.1.1.1
 unfold Pure.kindOf at h3
 cases ho : Pure.one ws[i] with
 | none => rw [ho] at h3; cases h3
 | some p =>
  have := Pure.one_size ho
  simp only [maxLen]
  omega
def ReadGot (out : List Fg × Int × Int) (w : World) (e : Ending) (W : World) : Prop :=
 ∃ v, e = .returned (.tuple #[v, .int .i64 out.2.1, .int .i64 out.2.2]) ∧ k49.R 49 W w.heap.size (fun _ => True) v out.1 ∧ Below w.heap.size w W
/-- The three results' variables, written. -/
theorem three_set {w W : World} {n : Nat} {v0 v1 v2 : Value} (r0 : W.heap[n]? = some (.cells #[v0] 25 (0, 0))) (r1 : W.heap[n + 1]? = some (.cells #[v1] 3 (0, 0))) (r2 : W.heap[n + 2]? = some (.cells #[v2] 26 (0, 0))) (hn : w.heap.size ≤ n) (hb : Below w.heap.size w W) (a0 a1 a2 : Value) :
  (((W.setCell ⟨n, 0, none⟩ a0).setCell ⟨n + 1, 0, none⟩ a1).setCell ⟨n + 1 + 1, 0, none⟩ a2).heap[n]? = some (.cells #[a0] 25 (0, 0)) ∧
  (((W.setCell ⟨n, 0, none⟩ a0).setCell ⟨n + 1, 0, none⟩ a1).setCell ⟨n + 1 + 1, 0, none⟩ a2).heap[n + 1]? = some (.cells #[a1] 3 (0, 0)) ∧
  (((W.setCell ⟨n, 0, none⟩ a0).setCell ⟨n + 1, 0, none⟩ a1).setCell ⟨n + 1 + 1, 0, none⟩ a2).heap[n + 2]? = some (.cells #[a2] 26 (0, 0)) ∧
  Below w.heap.size w (((W.setCell ⟨n, 0, none⟩ a0).setCell ⟨n + 1, 0, none⟩ a1).setCell ⟨n + 1 + 1, 0, none⟩ a2) ∧
  Kp (fun k => k = n ∨ k = n + 1 ∨ k = n + 2) W (((W.setCell ⟨n, 0, none⟩ a0).setCell ⟨n + 1, 0, none⟩ a1).setCell ⟨n + 1 + 1, 0, none⟩ a2) := by
 have K := Kp.setCell (Kp.setCell (Kp.setCell (S := fun k => k = n ∨ k = n + 1 ∨ k = n + 2) (Kp.refl _ W) (p := ⟨n, 0, none⟩) (.inl (.inl rfl)) a0) (p := ⟨n + 1, 0, none⟩) (.inl (.inr (.inl rfl))) a1) (p := ⟨n + 1 + 1, 0, none⟩) (.inl (.inr (.inr rfl))) a2
 exact ⟨blk_far (blk_far (blk_put r0 0 _ rfl) (by simp) _) (by simp; omega) _, blk_far (blk_put (blk_far r1 (by simp) _) 0 _ rfl) (by simp) _, blk_put (blk_far (blk_far r2 (by simp) _) (by simp) _) 0 _ rfl,
  Kp.below hb K (by rintro k (rfl | rfl | rfl) <;> omega) hb.size, K⟩
set_option maxHeartbeats 12800000 in
set_option maxRecDepth 100000 in
theorem read_walk {A0 A1 : Option Addr} {c0 c1 : Nat} {l : List Tk} {ws : List ByteArray} {w : World} (hC : Kd.C k39 w A0 l.length l) (hc : l.length ≤ c0) (hW : Kd.C Kd.string w A1 ws.length ws) (hcw : ws.length ≤ c1) (hE : Lx.Env w) :
  Calls Tryz.prog 15 #[.slice A0 l.length c0, .slice A1 ws.length c1] w (ReadGot (readOut l ws) w) := by
 obtain ⟨Res, hRes⟩ : ∃ R, readOut l ws = R := ⟨_, rfl⟩
 rw [hRes]
 have HR := Lib.hid hRes
 have HC := Lib.hid hC
 have HW := Lib.hid hW
 have HE := Lib.hid hE
 clear hRes hC hW hE
 refine (callsIn_wide (n := 3)).1 ?_
 refine callsIn_of_wp_marks Tryz.func15 rfl trivial ?_ rfl
 simp only [Tryz.ntmps15, List.size_toArray, List.length_cons, List.length_nil, Nat.reduceAdd, Nat.reduceSub, Array.replicate_succ, Array.replicate_zero, List.push_toArray, List.append_toArray, List.nil_append, List.cons_append]
 gi_wp2_with fail
 obtain ⟨W0, hW0⟩ : ∃ X, ((w.alloc (.cells #[.slice none 0 0] 25 (0, 0))).alloc (.cells #[.int .i64 0] 3 (0, 0))).alloc (.cells #[.int .i64 0] 26 (0, 0)) = X := ⟨_, rfl⟩
 rw [hW0]
 have B0 : Below w.heap.size w W0 := hW0 ▸ by repeat (first | (with_reducible exact Below.refl _ _) | (with_reducible apply below_alloc))
 have r0 : W0.heap[w.heap.size]? = some (.cells #[.slice none 0 0] 25 (0, 0)) := hW0 ▸ blk_alloc (blk_alloc (blk_new w _) _) _
 have r1 : W0.heap[w.heap.size + 1]? = some (.cells #[.int .i64 0] 3 (0, 0)) := hW0 ▸ blk_alloc (by have h := blk_new (w.alloc (Obj.cells #[.slice none 0 0] 25 (0, 0))) (Obj.cells #[.int .i64 0] 3 (0, 0)); rwa [World.size_alloc] at h) _
 have r2 : W0.heap[w.heap.size + 2]? = some (.cells #[.int .i64 0] 26 (0, 0)) := hW0 ▸ by have h := blk_new ((w.alloc (Obj.cells #[.slice none 0 0] 25 (0, 0))).alloc (Obj.cells #[.int .i64 0] 3 (0, 0))) (Obj.cells #[.int .i64 0] 26 (0, 0)); rwa [World.size_alloc, World.size_alloc] at h
 clear hW0
 refine ⟨trivial, (callsIn_wide.2 (areWords_c (Kd.C_below HW.out B0) hcw (HE.out.below B0))).mono ?_⟩
 rintro e W1 ⟨rfl, hb1⟩
 have B1 := B0.trans (hb1.mono B0.size)
 replace r0 := blk_below r0 hb1
 replace r1 := blk_below r1 hb1
 replace r2 := blk_below r2 hb1
 clear hb1 B0
 obtain ⟨bw, hbw⟩ : ∃ b, wordsB ws = b := ⟨_, rfl⟩
 rw [hbw]
 have HBW := Lib.hid hbw
 clear hbw
 have k0 : W1.cell? ⟨w.heap.size, 0, none⟩ = some (.slice none 0 0) := blk_cell r0 0
 have k1 : W1.cell? ⟨w.heap.size + 1, 0, none⟩ = some (.int .i64 0) := blk_cell r1 0
 have k2 : W1.cell? ⟨w.heap.size + 1 + 1, 0, none⟩ = some (.int .i64 0) := blk_cell r2 0
 have f0 : W1.frozen? ⟨w.heap.size, 0, none⟩ = false := blk_frozen r0 0
 have f1 : W1.frozen? ⟨w.heap.size + 1, 0, none⟩ = false := blk_frozen r1 0
 have f2 : W1.frozen? ⟨w.heap.size + 1 + 1, 0, none⟩ = false := blk_frozen r2 0
 cases bw with
 | false =>
  have HRE : Hid (Res = ([], 0, 1)) := Lib.hid (by rw [← HR.out]; unfold readOut; rw [if_neg (by rw [HBW.out]; decide)])
  gi_wp2_with fail
  obtain ⟨u0, u1, u2, uB, _⟩ := three_set r0 r1 r2 (Nat.le_refl _) B1 (.slice none 0 0) (.int .i64 0) (.int .i64 1)
  have e0 := blk_cell u0 0
  have e1 := blk_cell u1 0
  have e2 : World.cell? _ ⟨w.heap.size + 1 + 1, 0, none⟩ = _ := blk_cell u2 0
  refine (show LeavesInM _ _ _ _ _ _ _ _ _ from ?_)
  refine ⟨.tuple #[.slice none 0 0, .int .i64 0, .int .i64 1], by simp [results, Tryz.results15, go_sem, e0, e1, e2], ?_⟩
  rw [HRE.out]
  exact ⟨_, rfl, Kd.R_nil _ _ _ _ _, uB⟩
 | true =>
  by_cases hlen : 6000 < l.length
  ·have x1 : decide (6000 < l.length) = true := decide_eq_true hlen
   have x2 : decide ((6000 : Int) < (l.length : Int)) = true := decide_eq_true (by omega)
   have HRE : Hid (Res = ([], 0, 2)) := Lib.hid (by rw [← HR.out]; unfold readOut; rw [if_pos HBW.out, if_neg (by omega)])
   gi_wp2_with fail
   obtain ⟨u0, u1, u2, uB, _⟩ := three_set r0 r1 r2 (Nat.le_refl _) B1 (.slice none 0 0) (.int .i64 0) (.int .i64 2)
   have e0 := blk_cell u0 0
   have e1 := blk_cell u1 0
   have e2 : World.cell? _ ⟨w.heap.size + 1 + 1, 0, none⟩ = _ := blk_cell u2 0
   refine (show LeavesInM _ _ _ _ _ _ _ _ _ from ?_)
   refine ⟨.tuple #[.slice none 0 0, .int .i64 0, .int .i64 2], by simp [results, Tryz.results15, go_sem, e0, e1, e2], ?_⟩
   rw [HRE.out]
   exact ⟨_, rfl, Kd.R_nil _ _ _ _ _, uB⟩
  ·have x1 : decide (6000 < l.length) = false := decide_eq_false hlen
   have x2 : decide ((6000 : Int) < (l.length : Int)) = false := decide_eq_false (by omega)
   gi_wp2_with fail
   obtain ⟨g, hg⟩ : ∃ g, W1.heap.size = g := ⟨_, rfl⟩
   rw [hg]
   have hrd : Rd W1 g A0 c0 l A1 c1 ws (fun _ => 0) 0 (.slice none 0 0) [] (.slice none 0 0) [] (W1.alloc (.cells #[.slice A0 l.length c0, .int .i64 0, .slice A1 ws.length c1, .slice none 0 0, .slice none 0 0] 71 (0, 0))) :=
    ⟨hg ▸ blk_new W1 _, rfl, Kd.R_nil _ _ _ _ _, World.ownsRow_nil _ _ _ _, fun k hk => by simp [Value.ownBlock] at hk, fun f hf => absurd hf (by simp), List.Pairwise.nil, below_alloc (Below.refl _ _) _, by omega, fun f hf => absurd hf (by simp)⟩
   obtain ⟨hw40, hwsz⟩ := words_size HBW.out
   refine ⟨trivial, (callsIn_wide.2 (read_c hrd (Kd.C_below HC.out B1) (by omega) (HE.out.below B1) (Kd.C_below HW.out B1) hw40 hwsz)).mono ?_⟩
   rintro e W2 hpost
   unfold ReadPost at hpost
   have hro : readOut l ws = Res := HR.out
   unfold readOut at hro
   rw [if_pos HBW.out, if_pos (by omega)] at hro
   obtain ⟨st, hst⟩ : ∃ st, mach (actTab (openers ++ ws)) l (l.length + 1) 0 [] [] = st := ⟨_, rfl⟩
   rw [hst] at hpost hro
   clear hst hrd
   rcases st with ⟨i, top, _ | ⟨p, r⟩⟩ | ⟨i, er⟩
   ·obtain ⟨rfl, o2, tv, sv, fs, h2, hfs⟩ := hpost
    obtain rfl : fs = [] := by simpa using hfs
    have hb2 := h2.bel
    have b2 := B1.trans (hb2.mono B1.size)
    have v0 := blk_below r0 hb2
    have v1 := blk_below r1 hb2
    have v2 := blk_below r2 hb2
    obtain ⟨At, ct, rfl⟩ := Kd.R_slice h2.top
    have k3 : W2.cell? ⟨g, 3, none⟩ = some (.slice At top.length ct) := blk_cell h2.blk 3
    have k0 : W2.cell? ⟨w.heap.size, 0, none⟩ = some (.slice none 0 0) := blk_cell v0 0
    have k1 : W2.cell? ⟨w.heap.size + 1, 0, none⟩ = some (.int .i64 0) := blk_cell v1 0
    have k2 : W2.cell? ⟨w.heap.size + 1 + 1, 0, none⟩ = some (.int .i64 0) := blk_cell v2 0
    have f0 : W2.frozen? ⟨w.heap.size, 0, none⟩ = false := blk_frozen v0 0
    have f1 : W2.frozen? ⟨w.heap.size + 1, 0, none⟩ = false := blk_frozen v1 0
    have f2 : W2.frozen? ⟨w.heap.size + 1 + 1, 0, none⟩ = false := blk_frozen v2 0
    have H2 := Lib.hid h2
    have HB2 := Lib.hid b2
    have HRO := Lib.hid hro
    have hle : w.heap.size + 3 ≤ W1.heap.size := by have := blk_lt r2; omega
    clear h2 b2 hro hb2
    dsimp only
    gi_wp2_with fail
    obtain ⟨u0, u1, u2, uB, uK⟩ := three_set v0 v1 v2 (Nat.le_refl _) HB2.out (.slice At top.length ct) (.int .i64 0) (.int .i64 0)
    obtain ⟨WD, hWD⟩ : ∃ X, ((W2.setCell ⟨w.heap.size, 0, none⟩ (.slice At top.length ct)).setCell ⟨w.heap.size + 1, 0, none⟩ (.int .i64 0)).setCell ⟨w.heap.size + 1 + 1, 0, none⟩ (.int .i64 0) = X := ⟨_, rfl⟩
    rw [hWD] at u0 u1 u2 uB uK ⊢
    refine (show LeavesInM _ _ _ _ _ _ _ _ _ from ?_)
    refine ⟨by simp, .inr ⟨fun _ => by omega, _, _, _, _, rfl, invoke_closure (enters_of Tryz.func48 (by kernel_rfl) rfl) _, fun _ _ => trivial, ?_⟩⟩
    refine (catch_idle _ _ _ _ _).mono ?_
    rintro e u' w'' ⟨rfl, rfl, rfl⟩
    have e0 := blk_cell u0 0
    have e1 := blk_cell u1 0
    have e2 : World.cell? _ ⟨w.heap.size + 1 + 1, 0, none⟩ = _ := blk_cell u2 0
    refine ⟨.tuple #[.slice At top.length ct, .int .i64 0, .int .i64 0], by simp [results, Tryz.results15, go_sem, e0, e1, e2], ?_⟩
    rw [← HRO.out]
    refine ⟨_, rfl, Kd.R_lower (Kd.R_mono (Kd.R_move (Kd.R_bound H2.out.top) (fun k hk => uK.block k hk.2.2.1 ?_)) (fun _ _ => trivial)) B1.size, uB⟩
    have h1 := hk.2.1
    rintro (rfl | rfl | rfl) <;> omega
   ·obtain ⟨rfl, hb2⟩ := hpost
    have hle : w.heap.size + 3 ≤ W1.heap.size := by have := blk_lt r2; omega
    have b2 := B1.trans (hb2.mono B1.size)
    have v0 := blk_below r0 hb2
    have v1 := blk_below r1 hb2
    have v2 := blk_below r2 hb2
    refine (show LeavesInM _ _ _ _ _ _ _ _ _ from ?_)
    refine ⟨by simp, .inr ⟨fun _ => by omega, _, _, _, _, rfl, invoke_closure (enters_of Tryz.func48 (by kernel_rfl) rfl) _, fun _ _ => trivial, ?_⟩⟩
    refine (catch_refused _ w.heap.size (w.heap.size + 1) (w.heap.size + 2) p.at_ 21 _ (blk_cell v0 0) (blk_cell v1 0) (blk_cell v2 0) (blk_frozen v0 0) (blk_frozen v1 0) (blk_frozen v2 0) (blk_lt v0) (blk_lt v1) (blk_lt v2) (by omega) (by omega) (by omega)).mono ?_
    rintro e u' w'' ⟨rfl, rfl, c0, c1, c2, hk⟩
    refine ⟨.tuple #[.slice none 0 0, .int .i64 p.at_, .int .i64 21], by simp [results, Tryz.results15, go_sem, c0, c1, c2], ?_⟩
    rw [← hro]
    exact ⟨_, rfl, Kd.R_nil _ _ _ _ _, Kp.below b2 hk (by rintro k (rfl | rfl | rfl) <;> omega) b2.size⟩
   ·obtain ⟨rfl, hb2⟩ := hpost
    have hle : w.heap.size + 3 ≤ W1.heap.size := by have := blk_lt r2; omega
    have b2 := B1.trans (hb2.mono B1.size)
    have v0 := blk_below r0 hb2
    have v1 := blk_below r1 hb2
    have v2 := blk_below r2 hb2
    refine (show LeavesInM _ _ _ _ _ _ _ _ _ from ?_)
    refine ⟨by simp, .inr ⟨fun _ => by omega, _, _, _, _, rfl, invoke_closure (enters_of Tryz.func48 (by kernel_rfl) rfl) _, fun _ _ => trivial, ?_⟩⟩
    refine (catch_refused _ w.heap.size (w.heap.size + 1) (w.heap.size + 2) i er _ (blk_cell v0 0) (blk_cell v1 0) (blk_cell v2 0) (blk_frozen v0 0) (blk_frozen v1 0) (blk_frozen v2 0) (blk_lt v0) (blk_lt v1) (blk_lt v2) (by omega) (by omega) (by omega)).mono ?_
    rintro e u' w'' ⟨rfl, rfl, c0, c1, c2, hk⟩
    refine ⟨.tuple #[.slice none 0 0, .int .i64 i, .int .i64 er], by simp [results, Tryz.results15, go_sem, c0, c1, c2], ?_⟩
    rw [← hro]
    exact ⟨_, rfl, Kd.R_nil _ _ _ _ _, Kp.below b2 hk (by rintro k (rfl | rfl | rfl) <;> omega) b2.size⟩
end Go.Proofs.YtipnlgmeonepfaaGreatDoor.PFa

set_option linter.unusedVariables false
set_option linter.unusedSimpArgs false
namespace Go.Proofs.YtipnlgmeonepfaaGreatDoor.PFa
open Go.RowKit Go.Proofs.YtipnlgmeonepfaaGreatDoorW.PrintWords Go.Proofs.YtipnlgmeonepfaaGreatDoorW.PrintLast Go.Proofs.YtipnlgmeonepfaaGreatDoorW.PrintMore
attribute [local go_sem] Oper.semAt_some
/-- The token that closes a group. -/
def clos (x : Fg) : Tk := ⟨closeKd x.f1, 0, closeTx x.f1, x.f0.f3, x.f0.f4⟩
/-- The tokens of fragments that lie in at most so many groups. -/
def toksOf : Nat → List Fg → List Tk
 | 0, l => l.flatMap fun x => if x.f1.toList.isEmpty = true then [x.f0] else []
 | d + 1, l => l.flatMap fun x => if x.f1.toList.isEmpty = true then [x.f0] else x.f0 :: (toksOf d x.f2 ++ [clos x])
def elemT (d : Nat) (x : Fg) : List Tk := if x.f1.toList.isEmpty = true then [x.f0] else match d with
 | 0 => []
 | d + 1 => x.f0 :: (toksOf d x.f2 ++ [clos x])
theorem toksOf_eq (d : Nat) (l : List Fg) : toksOf d l = l.flatMap (elemT d) := by
 cases d <;> rfl
theorem toksOf_take (d : Nat) (l : List Fg) (i : Nat) (hi : i < l.length) : toksOf d (l.take (i + 1)) = toksOf d (l.take i) ++ elemT d (rd_T49 l (i : Int)) := by
 have e : rd_T49 l (i : Int) = l[i] := by
  unfold rd_T49
  simp [hi]
 rw [toksOf_eq, toksOf_eq, List.take_succ_eq_append_getElem hi, List.flatMap_append, e]
 simp
theorem flat_prefix {d : Nat} {a b : List Fg} (h : a <+: b) : a.flatMap (elemT d) <+: b.flatMap (elemT d) := by
 obtain ⟨c, rfl⟩ := h
 rw [List.flatMap_append]
 exact List.prefix_append _ _
def tokV (t : Tk) : Value := .agg #[.int .i64 t.f0, .int .i64 t.f1, .string t.f2, .int .i64 t.f3, .int .i64 t.f4]
/-- What a loop body does with a token. -/
def YieldsTo (w : World) (N lp : Nat) (J Jx : List Tk → World → Prop) : Prop :=
 ∀ (m : Nat) (pre : List Tk) (x : Tk) (W1 : World), J pre W1 → Below w.heap.size w W1 → pre.length < N → YieldAt Fence.wide m Tryz.prog lp #[tokV x] W1 fun e W' => (e = .returned (.bool true) ∧ J (pre ++ [x]) W' ∧ Below w.heap.size W1 W') ∨ (e = .returned (.bool false) ∧ Jx (pre ++ [x]) W')
/-- each at a depth. -/
def EachAt (w : World) (N lp : Nat) (J Jx : List Tk → World → Prop) (d : Nat) : Prop :=
 ∀ (l : List Fg) (A : Option Addr) (c m : Nat) (pre : List Tk) (W : World), d ≤ 100 → Kd.C k49 w A l.length l → Below w.heap.size w W → J pre W → pre.length + (toksOf d l).length ≤ N →
  CallsIn Fence.wide m Tryz.prog 92 #[.slice A l.length c, .int .i64 d, .func (.yield lp) #[] #[]] W fun e W' =>
   (e = .returned (.bool true) ∧ J (pre ++ toksOf d l) W' ∧ Below w.heap.size W W') ∨ (e = .returned (.bool false) ∧ ∃ q, q <+: toksOf d l ∧ Jx (pre ++ q) W')
set_option maxHeartbeats 12800000 in
set_option maxRecDepth 100000 in
theorem each_step {w : World} {N lp : Nat} {J Jx : List Tk → World → Prop} (hJ : ∀ s W W', J s W → Below W.heap.size W W' → J s W') (hY : YieldsTo w N lp J Jx) (D : Nat) (ih : ∀ d, d + 1 = D → EachAt w N lp J Jx d) : EachAt w N lp J Jx D := by
 intro l A c m pre W hd hC hB hj hN
 have HC := Lib.hid hC
 have HJ := Lib.hid hJ
 have HY := Lib.hid hY
 have HIH := Lib.hid ih
 have HB := Lib.hid hB
 have HJ0 := Lib.hid hj
 have HN := Lib.hid hN
 have hln := hC.2.1
 clear hC hJ hY ih hB hj hN
 refine callsIn_of_wp Tryz.func92 rfl trivial ?_ rfl
 simp only [Tryz.ntmps92, List.size_toArray, List.length_cons, List.length_nil, Nat.reduceAdd, Nat.reduceSub, Array.replicate_succ, Array.replicate_zero, List.push_toArray, List.append_toArray, List.nil_append, List.cons_append]
 gi_wp2_with fail
 gi_loopg [11] (l.length + 1) (fun kq v11 wr => ∃ i : Nat, v11 = .int .i64 i ∧ l.length + 1 - i ≤ kq ∧ i ≤ l.length ∧ Hid (J (pre ++ toksOf D (l.take i)) wr) ∧ Hid (Below w.heap.size W wr))
 case atStart => exact ⟨0, rfl, Nat.le_refl _, Nat.zero_le _, Lib.hid (by rw [List.take_zero, toksOf_eq]; simpa using HJ0.out), Lib.hid (Below.refl _ _)⟩
 case round =>
  obtain ⟨i, rfl, hkq, hil, HJi, HBi⟩ := hrel
  have HKQ := Lib.hid hkq
  clear hkq
  by_cases hlt : i < l.length
  ·have x1 : decide ((i : Int) < (l.length : Int)) = true := decide_eq_true (by omega)
   have x2 : decide (i < l.length) = true := decide_eq_true hlt
   have HBw := Lib.hid (HB.out.trans HBi.out)
   obtain ⟨ad, A6, c6, had, t0, t1, t2, t3, t4, t5, t6, hle6, hC6⟩ := at_T49 HC.out (i : Int) (by omega) (by omega)
   subst had
   have hstep := toksOf_take D l i hlt
   have hpre : toksOf D (l.take (i + 1)) <+: toksOf D l := by
    rw [toksOf_eq, toksOf_eq]
    exact flat_prefix (List.take_prefix _ _)
   obtain ⟨T, hT⟩ : ∃ T, rd_T49 l (i : Int) = T := ⟨_, rfl⟩
   rw [hT] at t0 t1 t2 t3 t4 t5 t6 hle6 hC6 hstep
   simp only [Int.toNat_natCast] at t0 t1 t2 t3 t4 t5 t6
   clear hT
   have HCL : Hid (∀ X, Below w.heap.size w X → X.cell? (ad.add (i * 7)) = some (.int .i64 T.f0.f0) ∧ X.cell? ⟨(ad.add (i * 7)).block, (ad.add (i * 7)).off + 1, none⟩ = some (.int .i64 T.f0.f1) ∧ X.cell? ⟨(ad.add (i * 7)).block, (ad.add (i * 7)).off + 2, none⟩ = some (.string T.f0.f2) ∧ X.cell? ⟨(ad.add (i * 7)).block, (ad.add (i * 7)).off + 3, none⟩ = some (.int .i64 T.f0.f3) ∧ X.cell? ⟨(ad.add (i * 7)).block, (ad.add (i * 7)).off + 4, none⟩ = some (.int .i64 T.f0.f4) ∧ X.cell? ⟨(ad.add (i * 7)).block, (ad.add (i * 7)).off + 5, none⟩ = some (.string T.f1) ∧ X.cell? ⟨(ad.add (i * 7)).block, (ad.add (i * 7)).off + 6, none⟩ = some (.slice A6 T.f2.length c6)) := Lib.hid (fun X hb => ⟨pw_cell_below hb t0, pw_cell_below hb t1, pw_cell_below hb t2, pw_cell_below hb t3, pw_cell_below hb t4, pw_cell_below hb t5, pw_cell_below hb t6⟩)
   clear t0 t1 t2 t3 t4 t5 t6
   obtain ⟨t0, t1, t2, t3, t4, t5, t6⟩ := HCL.out wr HBw.out
   have HC6 := Lib.hid hC6
   have HST := Lib.hid hstep
   have HPR := Lib.hid hpre
   clear hC6 hstep hpre
   obtain ⟨PX, hPX⟩ : ∃ PX, toksOf D (l.take i) = PX := ⟨_, rfl⟩
   rw [hPX] at HJi HST
   clear hPX
   have HLEN : Hid (∀ q, q <+: elemT D T → (pre ++ PX ++ q).length ≤ N) := Lib.hid (fun q hq => by
    have h1 := HPR.out.length_le
    rw [HST.out, List.length_append] at h1
    have h2 := hq.length_le
    have := HN.out
    simp only [List.length_append]
    omega)
   have HPQ : Hid (∀ q, q <+: elemT D T → PX ++ q <+: toksOf D l) := Lib.hid (fun q hq => by
    refine List.IsPrefix.trans ?_ HPR.out
    rw [HST.out]
    exact (List.prefix_append_right_inj PX).2 hq)
   have y1 : wrap64 ((i : Int) + 1) = ((i + 1 : Nat) : Int) := by unfold wrap64; omega
   have p1 : (0 : Int) ≤ (i : Int) := by omega
   have p2 : (i : Int) < (l.length : Int) := by omega
   cases he : T.f1.toList.isEmpty with
   | true =>
    have HEL : Hid (elemT D T = [T.f0]) := Lib.hid (by unfold elemT; rw [if_pos he])
    obtain ⟨fn, tmps, assign, body, hy, hR⟩ := HY.out (m - 1) (pre ++ PX) T.f0 wr HJi.out HBw.out (by have := HLEN.out [T.f0] (by rw [HEL.out]; exact List.prefix_refl _); simp at this ⊢; omega)
    dsimp only [tokV] at hy
    gi_wp2_with fail
    refine ⟨fun h => absurd h (by simp [Fence.wide]), hR.mono ?_⟩
    rintro e W2 (⟨rfl, hj2, hb2⟩ | ⟨rfl, hx2⟩)
    ·have HJ2 := Lib.hid hj2
     have HB2 := Lib.hid hb2
     clear hj2 hb2 hR hy
     gi_wp2_with fail
     gi_roundg (gk - 1)
     case measure => have := HKQ.out; omega
     case rel => exact ⟨i + 1, by go_num, by have := HKQ.out; omega, by omega, Lib.hid (by rw [HST.out, HEL.out, ← List.append_assoc]; exact HJ2.out), Lib.hid (HBi.out.trans HB2.out)⟩
    ·have HX2 := Lib.hid hx2
     clear hx2 hR hy
     gi_wp2_with fail
     refine bodyPost_ret (v := .bool false) (by simp [results, Tryz.results92, go_sem]) rfl ?_
     exact .inr ⟨rfl, PX ++ [T.f0], HPQ.out _ (by rw [HEL.out]; exact List.prefix_refl _), by rw [← List.append_assoc]; exact HX2.out⟩
   | false =>
    by_cases hd0 : D = 0
    ·have HEL : Hid (elemT D T = []) := Lib.hid (by subst hd0; unfold elemT; rw [if_neg (by rw [he]; decide)])
     have z1 : ((D : Int) == 0) = true := by rw [beq_iff_eq]; omega
     clear hd0
     gi_wp2_with fail
     gi_roundg (gk - 1)
     case measure => have := HKQ.out; omega
     case rel => exact ⟨i + 1, by go_num, by have := HKQ.out; omega, by omega, Lib.hid (by rw [HST.out, HEL.out, List.append_nil]; exact HJi.out), HBi⟩
    ·obtain ⟨d, hD⟩ : ∃ d, d + 1 = D := ⟨D - 1, by omega⟩
     have HD := Lib.hid hD
     clear hD hd0
     have HEL : Hid (elemT D T = T.f0 :: (toksOf d T.f2 ++ [clos T])) := Lib.hid (by rw [← HD.out]; unfold elemT; rw [if_neg (by rw [he]; decide)])
     have z1 : ((D : Int) == 0) = false := by have := HD.out; rw [beq_eq_false_iff_ne]; omega
     have z2 : (D : Int) - 1 = (d : Int) := by have := HD.out; omega
     obtain ⟨fn, tmps, assign, body, hy, hR⟩ := HY.out (m - 1) (pre ++ PX) T.f0 wr HJi.out HBw.out (by have := HLEN.out [T.f0] (by rw [HEL.out]; exact ⟨_, rfl⟩); simp at this ⊢; omega)
     dsimp only [tokV] at hy
     gi_wp2_with fail
     refine ⟨fun h => absurd h (by simp [Fence.wide]), hR.mono ?_⟩
     rintro e W2 (⟨rfl, hj2, hb2⟩ | ⟨rfl, hx2⟩)
     ·have HJ2 := Lib.hid hj2
      have HB2 := Lib.hid hb2
      have HBw2 := Lib.hid (HBw.out.trans hb2)
      clear hj2 hb2 hR hy t0 t1 t2 t3 t4 t5 t6
      obtain ⟨t0, t1, t2, t3, t4, t5, t6⟩ := HCL.out W2 HBw2.out
      gi_wp2_with fail
      refine ⟨trivial, fun h => absurd h (by simp [Fence.wide]), (HIH.out d HD.out T.f2 A6 c6 (m - 1) (pre ++ PX ++ [T.f0]) W2 (by have := HD.out; omega) HC6.out HBw2.out HJ2.out (by have := HLEN.out (T.f0 :: toksOf d T.f2) (by rw [HEL.out]; exact ⟨[clos T], by simp⟩); simp only [List.length_append, List.length_cons, List.length_nil] at this ⊢; omega)).mono ?_⟩
      rintro e W3 (⟨rfl, hj3, hb3⟩ | ⟨rfl, q3, hq3, hx3⟩)
      ·have HJ3 := Lib.hid hj3
       have HB3 := Lib.hid hb3
       have HBw3 := Lib.hid (HBw2.out.trans hb3)
       clear hj3 hb3 t0 t1 t2 t3 t4 t5 t6
       obtain ⟨t0, t1, t2, t3, t4, t5, t6⟩ := HCL.out W3 HBw3.out
       gi_wp2_with fail
       refine ⟨trivial, fun h => absurd h (by simp [Fence.wide]), (callsIn_wide.2 (closer_c T.f0 T.f1 (.slice A6 T.f2.length c6) W3 ⟨_, _, _, rfl⟩)).mono ?_⟩
       rintro e W4 ⟨rfl, hb4⟩
       have HB4 := Lib.hid hb4
       have HBw4 := Lib.hid (HBw3.out.trans (hb4.mono HBw3.out.size))
       have HJ4 := Lib.hid (HJ.out _ _ _ HJ3.out hb4)
       clear hb4 t0 t1 t2 t3 t4 t5 t6
       obtain ⟨fn, tmps, assign, body, hy, hR⟩ := HY.out (m - 1) (pre ++ PX ++ [T.f0] ++ toksOf d T.f2) (clos T) W4 HJ4.out HBw4.out (by have := HLEN.out (T.f0 :: (toksOf d T.f2 ++ [clos T])) (by rw [HEL.out]; exact List.prefix_refl _); simp only [List.length_append, List.length_cons, List.length_nil] at this ⊢; omega)
       dsimp only [tokV, clos] at hy
       gi_wp2_with fail
       refine ⟨fun h => absurd h (by simp [Fence.wide]), hR.mono ?_⟩
       rintro e W5 (⟨rfl, hj5, hb5⟩ | ⟨rfl, hx5⟩)
       ·have HJ5 := Lib.hid hj5
        have HB5 := Lib.hid (((HB2.out.trans HB3.out).trans (HB4.out.mono HBw3.out.size)).trans hb5)
        clear hj5 hb5 hR hy
        gi_wp2_with fail
        gi_roundg (gk - 1)
        case measure => have := HKQ.out; omega
        case rel => exact ⟨i + 1, by go_num, by have := HKQ.out; omega, by omega, Lib.hid (by rw [HST.out, HEL.out]; simpa only [List.append_assoc, List.cons_append, List.nil_append, List.singleton_append] using HJ5.out), Lib.hid (HBi.out.trans HB5.out)⟩
       ·have HX5 := Lib.hid hx5
        clear hx5 hR hy
        gi_wp2_with fail
        refine bodyPost_ret (v := .bool false) (by simp [results, Tryz.results92, go_sem]) rfl ?_
        exact .inr ⟨rfl, PX ++ (T.f0 :: (toksOf d T.f2 ++ [clos T])), HPQ.out _ (by rw [HEL.out]; exact List.prefix_refl _), by simpa only [List.append_assoc, List.cons_append, List.nil_append, List.singleton_append] using HX5.out⟩
      ·have HX3 := Lib.hid hx3
       have HQ3 := Lib.hid hq3
       clear hx3 hq3
       gi_wp2_with fail
       refine ⟨trivial, ?_⟩
       gi_wp2_with fail
       refine ⟨(fun f h => by cases h), ?_⟩
       gi_wp2_with fail
       refine bodyPost_ret (v := .bool false) (by simp [results, Tryz.results92, go_sem]) rfl ?_
       exact .inr ⟨rfl, PX ++ (T.f0 :: q3), HPQ.out _ (by rw [HEL.out]; exact (List.cons_prefix_cons.2 ⟨rfl, List.IsPrefix.trans HQ3.out (List.prefix_append _ _)⟩)), by simpa only [List.append_assoc, List.cons_append, List.nil_append, List.singleton_append] using HX3.out⟩
     ·have HX2 := Lib.hid hx2
      clear hx2 hR hy
      gi_wp2_with fail
      refine ⟨trivial, ?_⟩
      gi_wp2_with fail
      refine ⟨trivial, ?_⟩
      gi_wp2_with fail
      refine ⟨(fun f h => by cases h), ?_⟩
      gi_wp2_with fail
      refine bodyPost_ret (v := .bool false) (by simp [results, Tryz.results92, go_sem]) rfl ?_
      exact .inr ⟨rfl, PX ++ [T.f0], HPQ.out _ (by rw [HEL.out]; exact ⟨_, rfl⟩), by rw [← List.append_assoc]; exact HX2.out⟩
  ·have x1 : decide ((i : Int) < (l.length : Int)) = false := decide_eq_false (by omega)
   have x2 : decide (i < l.length) = false := decide_eq_false hlt
   obtain rfl : i = l.length := by omega
   have HE : Hid (J (pre ++ toksOf D l) wr) := Lib.hid (by have := HJi.out; rwa [List.take_length] at this)
   gi_wp2_with fail
   refine bodyPost_ret (v := .bool true) (by simp [results, Tryz.results92, go_sem]) rfl ?_
   exact .inl ⟨rfl, HE.out, HBi.out⟩
theorem each_c {w : World} {N lp : Nat} {J Jx : List Tk → World → Prop} (hJ : ∀ s W W', J s W → Below W.heap.size W W' → J s W') (hY : YieldsTo w N lp J Jx) : ∀ d : Nat, EachAt w N lp J Jx d
 | 0 => each_step hJ hY 0 (fun d h => absurd h (by omega))
 | d + 1 => each_step hJ hY (d + 1) (fun d' h => by
  obtain rfl : d' = d := by omega
  exact each_c hJ hY d')
end Go.Proofs.YtipnlgmeonepfaaGreatDoor.PFa

set_option linter.unusedVariables false
set_option linter.unusedSimpArgs false
namespace Go.Proofs.YtipnlgmeonepfaaGreatDoor.PFa
open Go.RowKit Go.Proofs.YtipnlgmeonepfaaGreatDoorW.PrintWords Go.Proofs.YtipnlgmeonepfaaGreatDoorW.PrintLast Go.Proofs.YtipnlgmeonepfaaGreatDoorW.PrintMore
open Go.Proofs.YtipnlgmeonepfaaGreatDoor.Lx (Kp)
attribute [local go_sem] Oper.semAt_some
theorem yieldAt_wide {m m' : Nat} {P : Program} {l : Nat} {args : Array Value} {W : World} {R : Ending → World → Prop} (h : YieldAt Fence.wide m P l args W R) : YieldAt Fence.wide m' P l args W R := by
 obtain ⟨fn, tmps, assign, body, hy, h1, h2⟩ := h
 exact ⟨fn, tmps, assign, body, hy, h1, fun c cs _ => h2 c cs (fun d hd => by cases hd)⟩
theorem tokens_c {A : Option Addr} {n c : Nat} (d : Nat) (w : World) :
  Calls Tryz.prog 54 #[.slice A n c, .int .i64 d] w fun e w' => e = .returned (.func (.func 91) #[] #[.pointer (some ⟨w.heap.size, 0, none⟩), .pointer (some ⟨w.heap.size + 1, 0, none⟩)]) ∧ w' = (w.alloc (.cells #[.slice A n c] 25)).alloc (.cells #[.int .i64 d] 3) := by
 go_enter Tryz.func54, Tryz.ntmps54
 go_wp2
 go_ret
 exact ⟨rfl, rfl⟩
set_option maxHeartbeats 3200000 in
/-- The iterator keeps its contract. -/
theorem tokens_stops {w W2 : World} {A : Option Addr} {c d b1 b2 n : Nat} {l : List Fg} (hd : d ≤ 100) (hC : Kd.C k49 w A l.length l) (hB : Below w.heap.size w W2) (h1 : W2.cell? ⟨b1, 0, none⟩ = some (.slice A l.length c)) (h2 : W2.cell? ⟨b2, 0, none⟩ = some (.int .i64 d)) :
  SeqStopsK Fence.wide n Tryz.prog 91 #[.pointer (some ⟨b1, 0, none⟩), .pointer (some ⟨b2, 0, none⟩)] (fun t : Tk => #[tokV t]) (Below w.heap.size) (fun xs => xs = toksOf d l) (fun pre => pre <+: toksOf d l) (toksOf d l).length W2 := by
 intro lp J Jx W hW hJ hJx hY h0
 have h1 := pw_cell_below hW h1
 have h2 := pw_cell_below hW h2
 have HE := Lib.hid (fun (m : Nat) => each_c (w := w) (N := (toksOf d l).length) (lp := lp) (J := J) (Jx := Jx) (fun s X Y hs hb => hJ s X Y none hs ⟨hb.os, hb.tape, hb.output, hb.size, fun k hk _ => hb.block k hk⟩ (fun r e => by cases e)) (fun m pre x W1 hj hb hl => yieldAt_wide (hY pre x W1 hj hl)) d l A c m [] W hd hC (hB.trans (hW.mono hB.size)) h0 (by simp))
 clear hY hJ hJx h0 hC
 refine callsIn_of_wp Tryz.func91 rfl trivial ?_ rfl
 simp only [Tryz.ntmps91, List.size_toArray, List.length_cons, List.length_nil, Nat.reduceAdd, Nat.reduceSub, Array.replicate_succ, Array.replicate_zero, List.push_toArray, List.append_toArray, List.nil_append, List.cons_append]
 gi_wp2_with fail
 refine ⟨trivial, fun h => absurd h (by simp [Fence.wide]), (HE.out _).mono ?_⟩
 rintro e W3 (⟨rfl, hj, hb⟩ | ⟨rfl, q, hq, hx⟩)
 ·gi_wp2_with fail
  go_end0
  exact ⟨⟨_, rfl⟩, .inl ⟨_, rfl, hj⟩⟩
 ·gi_wp2_with fail
  go_end0
  exact ⟨⟨_, rfl⟩, .inr ⟨_, hq, hx⟩⟩
set_option maxHeartbeats 6400000 in
set_option maxRecDepth 100000 in
theorem size_c {A : Option Addr} {c : Nat} {l : List Fg} {w : World} (hC : Kd.C k49 w A l.length l) :
  Calls Tryz.prog 24 #[.slice A l.length c] w fun e w' => e = .returned (.int .i64 ((min (toksOf 100 l).length 6001 : Nat) : Int)) ∧ Below w.heap.size w w' := by
 refine (callsIn_wide (n := 3)).1 ?_
 refine callsIn_of_wp_marks Tryz.func24 rfl trivial ?_ rfl
 simp only [Tryz.ntmps24, List.size_toArray, List.length_cons, List.length_nil, Nat.reduceAdd, Nat.reduceSub, Array.replicate_succ, Array.replicate_zero, List.push_toArray, List.append_toArray, List.nil_append, List.cons_append]
 have HC := Lib.hid hC
 clear hC
 obtain ⟨L, hL⟩ : ∃ L, toksOf 100 l = L := ⟨_, rfl⟩
 rw [hL]
 have HL := Lib.hid hL
 clear hL
 gi_wp2_with fail
 refine ⟨trivial, (callsIn_wide.2 (tokens_c 100 _)).mono ?_⟩
 rintro e W2 ⟨rfl, hw2⟩
 simp only [World.size_alloc] at hw2 ⊢
 have B2 : Below w.heap.size w W2 := by rw [hw2]; repeat (first | (with_reducible exact Below.refl _ _) | (with_reducible apply below_alloc))
 have r0 : W2.heap[w.heap.size]? = some (.cells #[.int .i64 0] 3 (0, 0)) := by rw [hw2]; exact blk_alloc (blk_alloc (blk_new w _) _) _
 have r1 : W2.heap[w.heap.size + 1]? = some (.cells #[.slice A l.length c] 25 (0, 0)) := by
  rw [hw2]
  have := blk_new (w.alloc (.cells #[.int .i64 0] 3)) (.cells #[.slice A l.length c] 25 (0, 0))
  rw [World.size_alloc] at this
  exact blk_alloc this _
 have r2 : W2.heap[w.heap.size + 1 + 1]? = some (.cells #[.int .i64 (100 : Nat)] 3 (0, 0)) := by
  rw [hw2]
  have := blk_new ((w.alloc (.cells #[.int .i64 0] 3)).alloc (.cells #[.slice A l.length c] 25)) (.cells #[.int .i64 (100 : Nat)] 3 (0, 0))
  rw [World.size_alloc, World.size_alloc] at this
  exact this
 have hs2 : W2.heap.size = w.heap.size + 3 := by rw [hw2]; simp
 have q1 : W2.cell? ⟨w.heap.size + 1, 0, none⟩ = some (.slice A l.length c) := blk_cell r1 0
 have q2 : W2.cell? ⟨w.heap.size + 1 + 1, 0, none⟩ = some (.int .i64 (100 : Nat)) := blk_cell r2 0
 have q0 : W2.cell? ⟨w.heap.size, 0, none⟩ = some (.int .i64 0) := blk_cell r0 0
 have f0 : W2.frozen? ⟨w.heap.size, 0, none⟩ = false := blk_frozen r0 0
 have HSEQ := Lib.hid (fun (n : Nat) => tokens_stops (n := n) (d := 100) (Nat.le_refl _) HC.out B2 q1 q2)
 have HB2 := Lib.hid B2
 have HQ0 := Lib.hid q0
 have HF0 := Lib.hid f0
 clear hw2 r0 r1 r2 q1 q2 q0 f0 B2
 rw [HL.out] at HSEQ
 clear HL
 gi_wp2_with fail
 refine wpIn_rangeFunc_ownF rfl (by omega) (gf := 91) (lb := #[.pointer (some ⟨w.heap.size + 1, 0, none⟩), .pointer (some ⟨w.heap.size + 1 + 1, 0, none⟩)]) rfl trivial (enters_of Tryz.func91 (by kernel_rfl) rfl) (HSEQ.out _) (fun h k => belowK_t h k) (belowK_b (by omega)) (Below.refl _ _) (fun _ => rfl)
  (fun pre W => (W.cell? ⟨w.heap.size, 0, none⟩ = some (.int .i64 (pre.length : Nat)) ∧ W.frozen? ⟨w.heap.size, 0, none⟩ = false ∧ pre.length ≤ 6000) ∧ Below w.heap.size w W)
  (fun c pre W => (c = .exit 0 ∧ W.cell? ⟨w.heap.size, 0, none⟩ = some (.int .i64 (pre.length : Nat)) ∧ pre.length = 6001) ∧ Below w.heap.size w W)
  (OwnFrom.and (fun s X Y row hs hg hr => ⟨cell_kept hs.1 hg (fun r e => (hr r e).2), (frozen_kept hs.1 hg (fun r e => (hr r e).2)).trans hs.2.1, hs.2.2⟩) (ownFrom_below (Nat.le_refl _) (by omega)))
  (fun c => OwnFrom.and (fun s X Y row hs hg hr => ⟨hs.1, cell_kept hs.2.1 hg (fun r e => (hr r e).2), hs.2.2⟩) (ownFrom_below (Nat.le_refl _) (by omega)))
  ⟨⟨HQ0.out, HF0.out, by simp⟩, HB2.out⟩
  (fun x => { tmps := #[.slice A l.length c, undef, .int .i64 0, .pointer (some ⟨w.heap.size, 0, none⟩), .slice A l.length c, .func (.func 91) #[] #[.pointer (some ⟨w.heap.size + 1, 0, none⟩), .pointer (some ⟨w.heap.size + 1 + 1, 0, none⟩)], tokV x, undef, undef, undef, undef, undef], defers := [] }) ?assign ?body ?done ?stop
 case assign =>
  intro lp x W K hK
  gi_wp2_with fail
  refine cast (congrArg (fun T => K { tmps := T, defers := [] } W) ?_) hK
  simp
 case body =>
  rintro lp pre x W ⟨⟨hc, hf, hn⟩, hb⟩ _
  have y1 : wrap64 ((pre.length : Int) + 1) = ((pre.length + 1 : Nat) : Int) := by unfold wrap64; omega
  have hw : (W.setCell ⟨w.heap.size, 0, none⟩ (.int .i64 ((pre.length + 1 : Nat) : Int))).cell? ⟨w.heap.size, 0, none⟩ = some (.int .i64 ((pre.length + 1 : Nat) : Int)) := World.cell?_setCell_same' _ _ _ (by rw [hc]; rfl)
  have hf2 : (W.setCell ⟨w.heap.size, 0, none⟩ (.int .i64 ((pre.length + 1 : Nat) : Int))).frozen? ⟨w.heap.size, 0, none⟩ = false := by rw [World.frozen?_setCell]; exact hf
  have hb2 : Below w.heap.size w (W.setCell ⟨w.heap.size, 0, none⟩ (.int .i64 ((pre.length + 1 : Nat) : Int))) := hb.setCell (Nat.le_refl _) _
  have hb3 : Below w.heap.size W (W.setCell ⟨w.heap.size, 0, none⟩ (.int .i64 ((pre.length + 1 : Nat) : Int))) := by
   apply Below.setCell (Below.refl _ _)
   exact Nat.le_refl _
  have hl : (pre ++ [x]).length = pre.length + 1 := by simp
  by_cases h6 : 6000 < pre.length + 1
  ·have x1 : decide ((6000 : Int) < ((pre.length + 1 : Nat) : Int)) = true := decide_eq_true (by omega)
   have x2 : decide (6000 < pre.length + 1) = true := decide_eq_true h6
   gi_wp2_with fail
   refine ⟨KeepsOthers.setCell _ _ _, ⟨rfl, ?_, by omega⟩, hb2⟩
   rw [hl]
   exact hw
  ·have x1 : decide ((6000 : Int) < ((pre.length + 1 : Nat) : Int)) = false := decide_eq_false (by omega)
   have x2 : decide (6000 < pre.length + 1) = false := decide_eq_false h6
   gi_wp2_with fail
   refine ⟨KeepsOthers.setCell _ _ _, hb3, ⟨?_, hf2, by omega⟩, hb2⟩
   rw [hl]
   exact hw
 case done =>
  rintro D xs W hD rfl ⟨⟨hc, hf, hn⟩, hb⟩ hK
  gi_wp2_with fail
  refine ⟨by simp, .inl ⟨_, _, rfl, run_takeDeferred hK, ?_⟩⟩
  refine ⟨_, results_tmp rfl _ _ _, ?_, Kp.below hb (Kp.putObj (S := fun k => k = D) (Kp.refl _ _) (.inl rfl) _) (by rintro k rfl; omega) hb.size⟩
  rw [Nat.min_eq_left (by omega)]
  rfl
 case stop =>
  rintro D c pre W hD hSp ⟨⟨rfl, hc, hn⟩, hb⟩ hK
  gi_wp2_with fail
  refine ⟨by simp, .inl ⟨_, _, rfl, run_takeDeferred hK, ?_⟩⟩
  refine ⟨_, results_tmp rfl _ _ _, ?_, Kp.below hb (Kp.putObj (S := fun k => k = D) (Kp.refl _ _) (.inl rfl) _) (by rintro k rfl; omega) hb.size⟩
  rw [Nat.min_eq_right (by have := hSp.length_le; omega)]
  rfl
end Go.Proofs.YtipnlgmeonepfaaGreatDoor.PFa

set_option linter.unusedVariables false
set_option linter.unusedSimpArgs false
namespace Go.Proofs.YtipnlgmeonepfaaGreatDoor.PFa
open Go.RowKit Go.Proofs.YtipnlgmeonepfaaGreatDoorW.PrintWords Go.Proofs.YtipnlgmeonepfaaGreatDoorW.PrintLast Go.Proofs.YtipnlgmeonepfaaGreatDoorW.PrintMore
def toksR (s : ByteArray) : List Tk := ((Lx.outL s).filter Ref.isTk).map (rtok s)
theorem scan_ex (s : ByteArray) (hs : s.size ≤ 1000) {W : World} : Calls Tryz.prog 46 #[.string s] W fun e W' => ∃ A c, e = .returned (.slice A (toksR s).length c) ∧ Hid (Kd.C k39 W' A (toksR s).length (toksR s)) ∧ Hid ((toksR s).length ≤ c) ∧ Hid (Below W.heap.size W W') := by
 have h : skerrylaw02_scan.f s = some (toksR s) := by
  unfold skerrylaw02_scan.f skerryref01_Scan.f
  rw [if_pos (by omega)]
  rfl
 refine (skerrylaw02_scan.calls s _ W h).mono ?_
 rintro e W' ⟨v, rfl, hR, hB⟩
 obtain ⟨A, c, rfl⟩ := Kd.R_slice hR
 exact ⟨A, c, rfl, Lib.hid (Kd.R_reads' hR).2.2, Lib.hid (Kd.R_reads' hR).2.1, Lib.hid hB⟩
theorem read_ex {l : List Tk} {ws : List ByteArray} {out : List Fg} {at_ er : Int} (n : Nat) (hr : Hid (readOut l ws = (out, at_, er))) (hn : Hid (out.length = n)) {A A1 : Option Addr} {c c1 : Nat} {W : World} (hC : Kd.C k39 W A l.length l) (hc : l.length ≤ c) (hW : Kd.C Kd.string W A1 ws.length ws) (hcw : ws.length ≤ c1) (hE : Lx.Env W) :
  Calls Tryz.prog 15 #[.slice A l.length c, .slice A1 ws.length c1] W fun e W' => ∃ A c, e = .returned (.tuple #[.slice A n c, .int .i64 at_, .int .i64 er]) ∧ Hid (Kd.C k49 W' A n out) ∧ Hid (n ≤ c) ∧ Hid (Below W.heap.size W W') := by
 have := read_walk hC hc hW hcw hE
 rw [hr.out] at this
 refine this.mono ?_
 rintro e W' ⟨v, rfl, hR, hB⟩
 obtain ⟨A, c, rfl⟩ := Kd.R_slice hR
 dsimp only at hR hB ⊢
 have h1 := (Kd.R_reads' hR).2.1
 have h2 := (Kd.R_reads' hR).2.2
 rw [hn.out] at h1 h2 ⊢
 exact ⟨A, c, rfl, Lib.hid h2, Lib.hid h1, Lib.hid hB⟩
theorem no_words (W : World) : Kd.C Kd.string W none ([] : List ByteArray).length [] := ⟨rfl, by simp, fun h => absurd h (by simp)⟩
/-- What one example comes to. -/
theorem ex_out {s : ByteArray} {ws : List ByteArray} {at_ er : Int} {n : Nat} (h : (readOut (toksR s) ws).2 = (at_, er)) (hl : (readOut (toksR s) ws).1.length = n) : ∃ out, Hid (readOut (toksR s) ws = (out, at_, er)) ∧ Hid (out.length = n) ∧ out = (readOut (toksR s) ws).1 :=
 ⟨_, Lib.hid (by rw [← h]), Lib.hid hl, rfl⟩
def ex1 : ByteArray := ⟨#[102, 40, 120, 44, 32, 91, 49, 93, 41]⟩
def ex2 : ByteArray := ⟨#[100, 101, 102, 105, 110, 101, 32, 109, 101, 116, 104, 111, 100, 32, 97, 114, 101, 97, 32, 40, 115, 41, 32, 115, 32, 101, 110, 100, 32, 109, 101, 116, 104, 111, 100, 32, 97, 114, 101, 97, 59]⟩
def ex3 : ByteArray := ⟨#[98, 101, 103, 105, 110, 32, 40, 101, 110, 100, 41]⟩
def ex4 : ByteArray := ⟨#[105, 102, 32, 40, 97, 41, 32, 98]⟩
def ex5 : ByteArray := ⟨#[119, 104, 105, 108, 101, 32, 40, 97, 41, 32, 98, 32, 101, 110, 100]⟩
def ex6 : ByteArray := ⟨#[99, 108, 97, 115, 115, 32, 115, 108, 111, 116, 32, 120]⟩
def exW : ByteArray := ⟨#[119, 104, 105, 108, 101]⟩
theorem out1 : (readOut (toksR ex1) []).2 = (0, 0) := by decide +kernel
theorem out2 : (readOut (toksR ex2) []).2 = (0, 0) := by decide +kernel
theorem out3 : (readOut (toksR ex3) []).2 = (2, 20) := by decide +kernel
theorem out4 : (readOut (toksR ex4) []).2 = (0, 21) := by decide +kernel
theorem out5 : (readOut (toksR ex5) [exW]).2 = (0, 0) := by decide +kernel
theorem out6 : (readOut (toksR ex5) []).2 = (5, 20) := by decide +kernel
theorem out7 : (readOut (toksR ex6) []).2 = (0, 0) := by decide +kernel
theorem len1 : (readOut (toksR ex1) []).1.length = 2 := by decide +kernel
theorem len2 : (readOut (toksR ex2) []).1.length = 3 := by decide +kernel
theorem len3 : (readOut (toksR ex3) []).1.length = 0 := by decide +kernel
theorem len4 : (readOut (toksR ex4) []).1.length = 0 := by decide +kernel
theorem len5 : (readOut (toksR ex5) [exW]).1.length = 1 := by decide +kernel
theorem len6 : (readOut (toksR ex5) []).1.length = 0 := by decide +kernel
theorem len7 : (readOut (toksR ex6) []).1.length = 3 := by decide +kernel
theorem in1 : (rd_T49 (readOut (toksR ex1) []).1 1).f1 = ⟨#[40]⟩ ∧ (rd_T49 (readOut (toksR ex1) []).1 1).f2.length = 3 ∧ (rd_T49 (rd_T49 (readOut (toksR ex1) []).1 1).f2 2).f1 = ⟨#[91]⟩ ∧ min (toksOf 100 (readOut (toksR ex1) []).1).length 6001 = 8 ∧ fragment_Depth.f 60 (readOut (toksR ex1) []).1 = some 2 := by decide +kernel
theorem in2 : (rd_T49 (readOut (toksR ex2) []).1 1).f1 = ⟨#[109, 101, 116, 104, 111, 100]⟩ ∧ (rd_T49 (readOut (toksR ex2) []).1 1).f2.length = 3 := by decide +kernel
set_option maxHeartbeats 6400000 in
set_option maxRecDepth 100000 in
theorem sane_c {w : World} (hE : Lx.Env w) : Calls Tryz.prog 14 #[] w fun e w' => e = .returned (.bool true) ∧ Below w.heap.size w w' := by
 obtain ⟨O1, R1, N1, d1⟩ := ex_out out1 len1
 obtain ⟨O2, R2, N2, d2⟩ := ex_out out2 len2
 obtain ⟨O3, R3, N3, _⟩ := ex_out out3 len3
 obtain ⟨O4, R4, N4, _⟩ := ex_out out4 len4
 obtain ⟨O5, R5, N5, _⟩ := ex_out out5 len5
 obtain ⟨O6, R6, N6, _⟩ := ex_out out6 len6
 obtain ⟨O7, R7, N7, _⟩ := ex_out out7 len7
 have I1 := in1
 have I2 := in2
 rw [← d1] at I1
 rw [← d2] at I2
 clear d1 d2
 have HI1 := Lib.hid I1
 have HI2 := Lib.hid I2
 clear I1 I2
 have HE := Lib.hid hE
 clear hE
 go_enter Tryz.func14, Tryz.ntmps14
 have HB : Hid (Below w.heap.size w w) := Lib.hid (Below.refl _ _)
 go_wp2_with fail
 refine (scan_ex ex1 (by decide)).mono ?_
 rintro e W1 ⟨A1, c1, rfl, C1, L1, B1⟩
 replace HB := Lib.hid (HB.out.trans (B1.out.mono HB.out.size))
 go_wp2_with fail
 refine (read_ex 2 R1 N1 C1.out L1.out (no_words _) (Nat.le_refl _) (HE.out.below HB.out)).mono ?_
 rintro e W2 ⟨Aa, ca, rfl, Ca, La, B2⟩
 replace HB := Lib.hid (HB.out.trans (B2.out.mono HB.out.size))
 clear C1 L1 B1 B2
 go_wp2_with fail
 refine (scan_ex ex2 (by decide)).mono ?_
 rintro e W3 ⟨A1, c1, rfl, C1, L1, B1⟩
 replace Ca := Lib.hid (Kd.C_below Ca.out B1.out)
 replace HB := Lib.hid (HB.out.trans (B1.out.mono HB.out.size))
 go_wp2_with fail
 refine (read_ex 3 R2 N2 C1.out L1.out (no_words _) (Nat.le_refl _) (HE.out.below HB.out)).mono ?_
 rintro e W4 ⟨Ab, cb, rfl, Cb, Lb, B2⟩
 replace Ca := Lib.hid (Kd.C_below Ca.out B2.out)
 replace HB := Lib.hid (HB.out.trans (B2.out.mono HB.out.size))
 clear C1 L1 B1 B2
 obtain ⟨ab, Ab6, cb6, hab, b0, b1, b2, b3, b4, b5, b6, lb6, kb⟩ := at_T49 Cb.out 1 (by decide) (by decide)
 rw [HI2.out.2] at b6
 subst hab
 simp only [show (1 : Int).toNat = 1 from rfl, show (2 : Int).toNat = 2 from rfl, Nat.reduceMul, Nat.reduceEqDiff, Go.Addr.add, ↓reduceIte] at b6
 clear b0 b1 b2 b3 b4 b5 kb
 go_wp2_with fail
 refine (scan_ex ex3 (by decide)).mono ?_
 rintro e W5 ⟨A1, c1, rfl, C1, L1, B1⟩
 replace Ca := Lib.hid (Kd.C_below Ca.out B1.out)
 replace Cb := Lib.hid (Kd.C_below Cb.out B1.out)
 replace HB := Lib.hid (HB.out.trans (B1.out.mono HB.out.size))
 go_wp2_with fail
 refine (read_ex 0 R3 N3 C1.out L1.out (no_words _) (Nat.le_refl _) (HE.out.below HB.out)).mono ?_
 rintro e W6 ⟨Ac, cc, rfl, Cc, Lc, B2⟩
 replace Ca := Lib.hid (Kd.C_below Ca.out B2.out)
 replace Cb := Lib.hid (Kd.C_below Cb.out B2.out)
 replace HB := Lib.hid (HB.out.trans (B2.out.mono HB.out.size))
 clear C1 L1 B1 B2
 go_wp2_with fail
 refine (scan_ex ex4 (by decide)).mono ?_
 rintro e W7 ⟨A1, c1, rfl, C1, L1, B1⟩
 replace Ca := Lib.hid (Kd.C_below Ca.out B1.out)
 replace Cb := Lib.hid (Kd.C_below Cb.out B1.out)
 replace HB := Lib.hid (HB.out.trans (B1.out.mono HB.out.size))
 go_wp2_with fail
 refine (read_ex 0 R4 N4 C1.out L1.out (no_words _) (Nat.le_refl _) (HE.out.below HB.out)).mono ?_
 rintro e W8 ⟨Ad, cd, rfl, Cd, Ld, B2⟩
 replace Ca := Lib.hid (Kd.C_below Ca.out B2.out)
 replace Cb := Lib.hid (Kd.C_below Cb.out B2.out)
 replace HB := Lib.hid (HB.out.trans (B2.out.mono HB.out.size))
 clear C1 L1 B1 B2
 go_wp2_with fail
 refine (scan_ex ex5 (by decide)).mono ?_
 rintro e W9 ⟨A1, c1, rfl, C1, L1, B1⟩
 replace Ca := Lib.hid (Kd.C_below Ca.out B1.out)
 replace Cb := Lib.hid (Kd.C_below Cb.out B1.out)
 replace HB := Lib.hid (HB.out.trans (B1.out.mono HB.out.size))
 obtain ⟨y282, hy282⟩ : ∃ y : List ByteArray, y = [exW] := ⟨_, rfl⟩
 have Ny282 := Aside0.mk hy282
 clear hy282
 go_wp2_with ((with_reducible refine gate_dst (N := 74) rfl ?_); refine Kd.R_lit Kd.string _ 9 ?hg (N := 74) ?hd (xs := ([(⟨#[119, 104, 105, 108, 101]⟩ : ByteArray)] : List ByteArray)) (inner := [.string (⟨#[119, 104, 105, 108, 101]⟩ : ByteArray)]) (ok := fun _ => True) (okp := fun _ => True) ?hr ?hp (fun _ hk => hk) trivial (Below.refl _ _) (Nat.le_refl _) (by simp) ?_; (case hd => rfl); (case hg => rfl); (case hr => first | (go_simp; done) | (go_simp; rfl)); (case hp => exact (Reps.one (show Kd.M Kd.string _ _ _ (⟨#[119, 104, 105, 108, 101]⟩ : ByteArray) [.string (⟨#[119, 104, 105, 108, 101]⟩ : ByteArray)] from rfl) (Reps.none _ _))); intro v283 w39 ho40 hb hg_ hnew_; clear hg_ hnew_; have HWR := Lib.hid (show Kd.R Kd.string 9 w39 _ _ v283 [exW] from ho40); have HB3 := Lib.hid hb; clear ho40 hb; obtain ⟨Aw, cw, ew⟩ := Kd.R_slice HWR.out; subst ew)
 replace C1 := Lib.hid (Kd.C_below C1.out HB3.out)
 replace Ca := Lib.hid (Kd.C_below Ca.out HB3.out)
 replace Cb := Lib.hid (Kd.C_below Cb.out HB3.out)
 replace HB := Lib.hid (HB.out.trans (HB3.out.mono HB.out.size))
 have HWW := Lib.hid (Kd.R_reads' HWR.out).2.2
 have HWL := Lib.hid (Kd.R_reads' HWR.out).2.1
 clear HWR HB3
 refine (read_ex 1 R5 N5 C1.out L1.out HWW.out HWL.out (HE.out.below HB.out)).mono ?_
 rintro e W10 ⟨Ae, ce, rfl, Ce, Le, B2⟩
 replace Ca := Lib.hid (Kd.C_below Ca.out B2.out)
 replace Cb := Lib.hid (Kd.C_below Cb.out B2.out)
 replace HB := Lib.hid (HB.out.trans (B2.out.mono HB.out.size))
 clear C1 L1 B1 B2
 go_wp2_with fail
 refine (scan_ex ex5 (by decide)).mono ?_
 rintro e W11 ⟨A1, c1, rfl, C1, L1, B1⟩
 replace Ca := Lib.hid (Kd.C_below Ca.out B1.out)
 replace Cb := Lib.hid (Kd.C_below Cb.out B1.out)
 replace HB := Lib.hid (HB.out.trans (B1.out.mono HB.out.size))
 go_wp2_with fail
 refine (read_ex 0 R6 N6 C1.out L1.out (no_words _) (Nat.le_refl _) (HE.out.below HB.out)).mono ?_
 rintro e W12 ⟨Af, cf, rfl, Cf, Lf, B2⟩
 replace Ca := Lib.hid (Kd.C_below Ca.out B2.out)
 replace Cb := Lib.hid (Kd.C_below Cb.out B2.out)
 replace HB := Lib.hid (HB.out.trans (B2.out.mono HB.out.size))
 clear C1 L1 B1 B2
 obtain ⟨aa, Aa6, ca6, haa, a0, a1, a2, a3, a4, a5, a6, la6, ka⟩ := at_T49 Ca.out 1 (by decide) (by decide)
 rw [HI1.out.1] at a5
 rw [HI1.out.2.1] at a6 ka
 subst haa
 obtain ⟨ak, Ak6, ck6, hak, x0, x1, x2, x3, x4, x5, x6, lk6, kk⟩ := at_T49 ka 2 (by decide) (by decide)
 rw [HI1.out.2.2.1] at x5
 subst hak
 obtain ⟨ab', Ab6', cb6', hab', b0, b1, b2, b3, b4, b5, b6', lb6', kb⟩ := at_T49 Cb.out 1 (by decide) (by decide)
 rw [HI2.out.1] at b5
 cases hab'
 simp only [show (1 : Int).toNat = 1 from rfl, show (2 : Int).toNat = 2 from rfl, Nat.reduceMul, Nat.reduceEqDiff, Go.Addr.add, ↓reduceIte] at a5 a6 x5 b5
 clear a0 a1 a2 a3 a4 ka x0 x1 x2 x3 x4 x6 kk b0 b1 b2 b3 b4 b6' kb b6
 go_wp2_with fail
 clear a5 a6 x5 b5
 refine (scan_ex ex6 (by decide)).mono ?_
 rintro e W13 ⟨A1, c1, rfl, C1, L1, B1⟩
 replace Ca := Lib.hid (Kd.C_below Ca.out B1.out)
 replace HB := Lib.hid (HB.out.trans (B1.out.mono HB.out.size))
 go_wp2_with fail
 refine (read_ex 3 R7 N7 C1.out L1.out (no_words _) (Nat.le_refl _) (HE.out.below HB.out)).mono ?_
 rintro e W14 ⟨Ag, cg, rfl, Cg, Lg, B2⟩
 replace Ca := Lib.hid (Kd.C_below Ca.out B2.out)
 replace HB := Lib.hid (HB.out.trans (B2.out.mono HB.out.size))
 clear C1 L1 B1 B2
 go_wp2_with fail
 have hC1 := Ca.out
 have hL1 := La.out
 rw [← N1.out] at hC1 hL1 ⊢
 refine (size_c hC1).mono ?_
 rintro e W15 ⟨rfl, B3⟩
 rw [HI1.out.2.2.2.1]
 have HB3 := Lib.hid B3
 have HC2 := Lib.hid (Kd.C_below hC1 B3)
 replace HB := Lib.hid (HB.out.trans (B3.mono HB.out.size))
 have HL1 := Lib.hid hL1
 clear B3 hC1 hL1
 go_wp2_with fail
 refine (fragment_Depth.calls 60 _ _ _ 2 _ HC2.out HL1.out HI1.out.2.2.2.2).mono ?_
 rintro e W16 ⟨rfl, B4⟩
 have HB4 := Lib.hid (HB.out.trans (B4.mono HB.out.size))
 clear B4
 go_wp2
 go_ret
 exact ⟨rfl, HB4.out⟩
end Go.Proofs.YtipnlgmeonepfaaGreatDoor.PFa
