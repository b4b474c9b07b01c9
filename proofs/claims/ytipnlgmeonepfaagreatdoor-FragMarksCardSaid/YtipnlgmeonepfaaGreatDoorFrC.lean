/- The reader's acts, walked: the map of what is done at which text. -/
import Derived.Test.YtipnlgmeonepfaaGreatDoorFrA
import Derived.Test.YtipnlgmeonepfaaGreatDoorPFax2
import Derived.Test.YtipnlgmeonepfaaGreatDoorFrB
import Derived.Deep.RegionHeld3
set_option linter.unusedVariables false
set_option linter.unusedSimpArgs false
namespace Go.Proofs.YtipnlgmeonepfaaGreatDoor.PFa
open Go.RowKit Go.Proofs.YtipnlgmeonepfaaGreatDoorW.PrintWords Go.Proofs.YtipnlgmeonepfaaGreatDoorW.PrintLast Go.Proofs.YtipnlgmeonepfaaGreatDoorW.PrintMore
theorem below_grown {B b : Nat} {W W' : World} (h : W.grownBy W' (some b)) (hB : B ≤ b) (hs : B ≤ W.heap.size) : Below B W W' :=
  ⟨h.os, h.tape, h.output, h.size, fun k hk => h.block k (by omega) (fun e => by injection e with e; omega)⟩
def signActs : List (ByteArray × Bool) := [(⟨#[101, 110, 100]⟩, false), (⟨#[125]⟩, false), (⟨#[93]⟩, false), (⟨#[41]⟩, false), (⟨#[123]⟩, true), (⟨#[91]⟩, true), (⟨#[40]⟩, true)]
def openers : List ByteArray := [⟨#[98, 101, 103, 105, 110]⟩, ⟨#[105, 102]⟩, ⟨#[98, 108, 111, 99, 107]⟩, ⟨#[109, 101, 116, 104, 111, 100]⟩, ⟨#[99, 108, 97, 115, 115]⟩, ⟨#[109, 97, 99, 114, 111]⟩]
/-- The table behind the loop over these words. -/
def actTab (xs : List ByteArray) : List (ByteArray × Bool) := (xs.map fun x => (x, true)).reverse ++ signActs
theorem strs_R {e : Nat} {X : World} {base : Nat} {ok : Nat → Prop} {v : Value} {xs : List ByteArray} (ho : X.ownsRow base e 1 v xs.length (xs.map Value.string)) (hok : ∀ k, v.ownBlock = some k → ok k) : Kd.string.R e X base ok v xs := by
  refine ⟨hok, xs.map Value.string, ho, by rw [List.length_map, show Kd.string.sz = 1 from rfl, Nat.mul_one], fun j p hj => ?_⟩
  obtain ⟨hl, hp⟩ := List.getElem?_eq_some_iff.1 hj
  have hl' : j < (xs.map Value.string).length := by rw [List.length_map]; exact hl
  show ((xs.map Value.string).drop (j * 1)).take 1 = [.string p]
  rw [Nat.mul_one, List.drop_eq_getElem_cons hl']
  simp [hp]
theorem strs_own {e : Nat} {X : World} {base : Nat} {ok : Nat → Prop} {v : Value} {xs : List ByteArray} (h : Kd.string.R e X base ok v xs) : X.ownsRow base e 1 v xs.length (xs.map Value.string) := by
  obtain ⟨_, inner, ho, hr⟩ := h
  have : inner = xs.map Value.string := by
    apply List.ext_getElem?
    intro j
    have hln : inner.length = xs.length := by have := hr.1; rw [show Kd.string.sz = 1 from rfl, Nat.mul_one] at this; exact this
    rcases Nat.lt_or_ge j xs.length with hj | hj
    · have hl : j < inner.length := by omega
      have h3 : (inner.drop (j * 1)).take 1 = [.string xs[j]] := hr.2 j _ (List.getElem?_eq_getElem hj)
      rw [Nat.mul_one, List.drop_eq_getElem_cons hl] at h3
      have h4 : inner[j] = .string xs[j] := by
        have h5 := congrArg List.head? h3
        rw [List.take_succ_cons] at h5
        exact Option.some.inj h5
      rw [List.getElem?_eq_getElem hl, h4, List.getElem?_map, List.getElem?_eq_getElem hj]
      rfl
    · rw [List.getElem?_eq_none (by omega), List.getElem?_eq_none (by rw [List.length_map]; omega)]
  rw [← this]
  exact ho
/-- A list of strings appended to one that lies apart: the run. -/
theorem app_strs {P : Program} {t ty e : TypeId} (ht : P.underlying t = some (.slice e)) (hinfo : (P.info? e).map (fun i => (i.zero, i.size, i.bytes)) = some (some (.string ⟨#[]⟩), 1, 16)) {X : World} {base : Nat} {ok : Nat → Prop} {v : Value} {xs ys : List ByteArray} {A : Option Addr} {c : Nat}
    (HO : Kd.string.R e X base ok v xs) (HR : Kd.string.C X A ys.length ys) (hfresh : ∀ k, X.heap.size ≤ k → ok k) (hbase : base ≤ X.heap.size) (hl : (xs.length + ys.length) * 16 ≤ 140737488355328) :
    ∃ v1 w1, (appSem #[t, t] ty #[v, .slice A ys.length c]).run P X = .ok v1 w1 ∧ Kd.string.R e w1 base ok v1 (xs ++ ys) ∧ Below base X w1 := by
  obtain ⟨i0, hi, hzz⟩ := Option.map_eq_some_iff.1 hinfo
  simp only [Prod.mk.injEq] at hzz
  obtain ⟨hz0, hz1, hz2⟩ := hzz
  have HS := strs_own HO
  have HD := Kd.reads_of_C (d := ByteArray.empty) HR
  have hrun : ∃ v1 w1, (Builtin.append_ #[t, t] ty #[v, .slice A ys.length c]).run P X = .ok v1 w1 ∧ w1.ownsRow base e 1 v1 (xs ++ ys).length ((xs ++ ys).map Value.string) ∧ X.grownBy w1 v.ownBlock ∧ (v1.ownBlock = v.ownBlock ∨ v1.ownBlock = some X.heap.size) := by
    rcases A with _ | ad
    · have h0 : ys.length = 0 := by
        rcases Nat.eq_zero_or_pos ys.length with h0 | h0
        · exact h0
        · obtain ⟨ad, h, _⟩ := HD.2.2 h0
          cases h
      obtain rfl : ys = [] := List.eq_nil_of_length_eq_zero h0
      refine ⟨v, X, ?_, by simpa using HS, World.grownBy.refl X _, .inl rfl⟩
      rcases HS.2 with ⟨rfl, hn⟩ | ⟨g, cap, cur, rfl, _, _, hnc, _⟩
      · simp [Builtin.append_, run_underlying ht, sizeOf, typeInfo, hi, Builtin.lenOf, Builtin.firstCells]
      · simp [Builtin.append_, run_underlying ht, sizeOf, typeInfo, hi, Builtin.lenOf, Builtin.firstCells, hnc, storeCells]
    · obtain ⟨v1, w1, hr, h2, h3, _, h5⟩ := run_append_own_at (P := P) X base t ty e i0 _ 1 16 ht hi hz0 hz1 hz2 rfl (by omega) v xs.length (xs.map Value.string) HS ad ys.length c (ys.map Value.string) (by simp) (fun j u hu => by
        have hj : j < ys.length := by
          rcases Nat.lt_or_ge j ys.length with h | h
          · exact h
          · rw [List.getElem?_eq_none (by rw [List.length_map]; exact h)] at hu
            cases hu
        obtain ⟨ad', h', hc⟩ := HD.2.2 (by omega)
        injection h' with h'
        subst h'
        rw [List.getElem?_map, List.getElem?_eq_getElem hj] at hu
        have hc := hc j (by omega)
        rw [List.getD_eq_getElem?_getD, List.getElem?_eq_getElem hj] at hc
        rw [← Option.some.inj hu]
        exact hc) (by intro u hu; simp only [List.mem_map] at hu; obtain ⟨q, _, rfl⟩ := hu; rfl) (by simp only [maxLen]; omega) hl hbase
      exact ⟨v1, w1, hr, by simpa using h2, h3, h5⟩
  obtain ⟨v1, w1, hr, hown, hg, hat⟩ := hrun
  refine ⟨v1, w1, hr, strs_R hown (fun k hk => ?_), ?_⟩
  · rcases hat with e1 | e1
    · exact HO.1 k (by rw [← e1]; exact hk)
    · rw [e1] at hk
      injection hk with hk
      exact hfresh k (by omega)
  · exact (Below.refl base X).grown hg hbase (own_base HS)
attribute [local go_sem ↓ high] app_veil
theorem actTab_step (xs : List ByteArray) (i : Nat) (hi : i < xs.length) : actTab (xs.take (i + 1)) = (rdOf ByteArray.empty xs (i : Int), true) :: actTab (xs.take i) := by
  have e : rdOf ByteArray.empty xs (i : Int) = xs[i] := by simp [rdOf, List.getD_eq_getElem?_getD, List.getElem?_eq_getElem hi]
  rw [e, List.take_succ_eq_append_getElem hi]
  unfold actTab
  rw [List.map_append, List.reverse_append]
  rfl
theorem Acts.cell {g b n : Nat} {tab : List (ByteArray × Bool)} {W W' : World} (h : Acts g b n tab W) (hg : W.grownBy W' (some b)) {a : Addr} {v : Value} (hc : W.cell? a = some v) : W'.cell? a = some v := by
  have hne : a.block ≠ b := by
    intro e
    obtain ⟨D, ⟨es, clock, hb, _⟩, _⟩ := h
    unfold World.cell? at hc
    rw [e, hb] at hc
    simp at hc
  exact (World.cell?_of_block (hg.block a.block (World.block_lt_of_cell? W a hc) (fun e => hne (Option.some.inj e)))).trans hc
section
variable {w W W' : World} {g : Nat} {A0 : Option Addr} {c0 : Nat} {l : List Tk} {A1 : Option Addr} {c1 : Nat} {ws : List ByteArray} {o : Nat → Nat} {at_ : Nat} {tv : Value} {top : List Fg} {sv : Value} {fs : List Fr} {ps : List PF}
/-- The seven signs' entries, laid one by one. -/
theorem seven_acts (g : Nat) (W : World) : ∃ w1 w2 w3 w4 w5 w6 w7 : World,
    (Instr.mapUpdate 101 (.map (some W.heap.size)) (.string ⟨#[40]⟩) (.func (.func 104) #[.pointer (some ⟨g, 0, none⟩)] #[])).run Tryz.prog (W.alloc (.map #[] 0)) = .ok () w1 ∧
    (Instr.mapUpdate 101 (.map (some W.heap.size)) (.string ⟨#[91]⟩) (.func (.func 104) #[.pointer (some ⟨g, 0, none⟩)] #[])).run Tryz.prog w1 = .ok () w2 ∧
    (Instr.mapUpdate 101 (.map (some W.heap.size)) (.string ⟨#[123]⟩) (.func (.func 104) #[.pointer (some ⟨g, 0, none⟩)] #[])).run Tryz.prog w2 = .ok () w3 ∧
    (Instr.mapUpdate 101 (.map (some W.heap.size)) (.string ⟨#[41]⟩) (.func (.func 105) #[.pointer (some ⟨g, 0, none⟩)] #[])).run Tryz.prog w3 = .ok () w4 ∧
    (Instr.mapUpdate 101 (.map (some W.heap.size)) (.string ⟨#[93]⟩) (.func (.func 105) #[.pointer (some ⟨g, 0, none⟩)] #[])).run Tryz.prog w4 = .ok () w5 ∧
    (Instr.mapUpdate 101 (.map (some W.heap.size)) (.string ⟨#[125]⟩) (.func (.func 105) #[.pointer (some ⟨g, 0, none⟩)] #[])).run Tryz.prog w5 = .ok () w6 ∧
    (Instr.mapUpdate 101 (.map (some W.heap.size)) (.string ⟨#[101, 110, 100]⟩) (.func (.func 105) #[.pointer (some ⟨g, 0, none⟩)] #[])).run Tryz.prog w6 = .ok () w7 ∧
    Acts g W.heap.size 7 (actTab []) w7 ∧ Below W.heap.size W w7 := by
  have b0 : Below W.heap.size W (W.alloc (.map #[] 0)) := below_alloc (Below.refl _ _) _
  obtain ⟨w1, e1, a1, g1⟩ := (Acts.made g W).put (by decide) (s := ⟨#[40]⟩) (by decide) true
  have b1 := b0.trans (below_grown g1 (Nat.le_refl _) b0.size)
  obtain ⟨w2, e2, a2, g2⟩ := a1.put (by decide) (s := ⟨#[91]⟩) (by decide) true
  have b2 := b1.trans (below_grown g2 (Nat.le_refl _) b1.size)
  obtain ⟨w3, e3, a3, g3⟩ := a2.put (by decide) (s := ⟨#[123]⟩) (by decide) true
  have b3 := b2.trans (below_grown g3 (Nat.le_refl _) b2.size)
  obtain ⟨w4, e4, a4, g4⟩ := a3.put (by decide) (s := ⟨#[41]⟩) (by decide) false
  have b4 := b3.trans (below_grown g4 (Nat.le_refl _) b3.size)
  obtain ⟨w5, e5, a5, g5⟩ := a4.put (by decide) (s := ⟨#[93]⟩) (by decide) false
  have b5 := b4.trans (below_grown g5 (Nat.le_refl _) b4.size)
  obtain ⟨w6, e6, a6, g6⟩ := a5.put (by decide) (s := ⟨#[125]⟩) (by decide) false
  have b6 := b5.trans (below_grown g6 (Nat.le_refl _) b5.size)
  obtain ⟨w7, e7, a7, g7⟩ := a6.put (by decide) (s := ⟨#[101, 110, 100]⟩) (by decide) false
  have b7 := b6.trans (below_grown g7 (Nat.le_refl _) b6.size)
  exact ⟨w1, w2, w3, w4, w5, w6, w7, e1, e2, e3, e4, e5, e6, e7, a7, b7⟩
set_option maxHeartbeats 6400000 in
set_option maxRecDepth 100000 in
theorem acts_c (h : Rd w g A0 c0 l A1 c1 ws o at_ tv top sv fs W) (hW : Kd.C Kd.string w A1 ws.length ws) (hws : ws.length ≤ 40) (hsz : ∀ x ∈ ws, x.size ≤ maxLen) :
    Calls Tryz.prog 74 #[.pointer (some ⟨g, 0, none⟩)] W fun e W' => ∃ b n, e = .returned (.map (some b)) ∧ Acts g b n (actTab (openers ++ ws)) W' ∧ Below W.heap.size W W' ∧ W.heap.size ≤ b := by
  obtain ⟨w1, w2, w3, w4, w5, w6, w7, e1, e2, e3, e4, e5, e6, e7, a7, b7⟩ := seven_acts g W
  have e0 : (Instr.makeMap 101 none).run Tryz.prog W = .ok (.map (some W.heap.size)) (W.alloc (.map #[] 0)) := run_makeMap _ W
  have k2 : W.cell? ⟨g, 2, none⟩ = some (.slice A1 ws.length c1) := blk_cell h.blk 2
  have k2 := pw_cell_below b7 k2
  have A7 := Lib.hid a7
  have B7 := Lib.hid b7
  have H0 := Lib.hid h
  have HW : Hid (∀ X : World, Below w7.heap.size w7 X → Kd.C Kd.string X A1 ws.length ws) := Lib.hid (fun X hb => Kd.C_below (Kd.C_below (Kd.C_below hW h.bel) b7) hb)
  clear a7 b7 h hW
  go_enter Tryz.func74, Tryz.ntmps74
  go_upto_region 2 with (fail)
  have HWD := Lib.hid (fun (X : World) => fragment_Words.calls openers X rfl)
  have HS : Hid (∀ w' : World, Below w7.heap.size w7 w' → w'.cell? ⟨g, 2, none⟩ = some (.slice A1 ws.length c1)) := Lib.hid (fun w' hb => pw_cell_below hb k2)
  clear e0 e1 e2 e3 e4 e5 e6 e7
  go_cut [27, 28, 29] (fun vs vn vi wd => vn = .int .i64 ((openers ++ ws).length : Nat) ∧ vi = .int .i64 0 ∧ Hid (Below w7.heap.size w7 wd) ∧ ∃ A c, vs = .slice A (openers ++ ws).length c ∧ Hid (Kd.C Kd.string wd A (openers ++ ws).length (openers ++ ws)))
  case first =>
    refine wp_region_held_drew (S := fun w' => w'.cell? ⟨g, 2, none⟩ = some (.slice A1 ws.length c1)) (by kernel_rfl) ?_ (fun hHeld => ?_)
    · exact HS.out _ (Below.drew (Below.refl _ _))
    refine wpAnyH_take (i := 1) (v := ?_) rfl (by kernel_rfl) (by kernel_rfl) (by kernel_rfl) (fun _ _ _ h => h) (Or.inl ⟨by rfl, ?hy⟩) (by assumption) ?_
    case hy =>
      intro w hSw
      try dsimp only at hSw
      simp only [List.getElem_toArray, List.getElem_cons_zero, List.getElem_cons_succ]
      go_simp
      try with_reducible rfl
    simp only [List.getElem_toArray, List.getElem_cons_zero, List.getElem_cons_succ, Act.put, List.setIfInBounds_toArray, List.set_cons_zero, List.set_cons_succ]
    refine wpAnyH_take (i := 2) (v := ?_) rfl (by kernel_rfl) (by kernel_rfl) (by kernel_rfl) (fun _ _ _ h => h) (Or.inl ⟨by rfl, ?hy⟩) (by assumption) ?_
    case hy =>
      intro w hSw
      try dsimp only at hSw
      simp only [List.getElem_toArray, List.getElem_cons_zero, List.getElem_cons_succ]
      go_simp
      try with_reducible rfl
    simp only [List.getElem_toArray, List.getElem_cons_zero, List.getElem_cons_succ, Act.put, List.setIfInBounds_toArray, List.set_cons_zero, List.set_cons_succ]
    refine wpAnyH_take (i := 3) (v := ?_) rfl (by kernel_rfl) (by kernel_rfl) (by kernel_rfl) (fun _ _ _ h => h) (Or.inl ⟨by rfl, ?hy⟩) (by assumption) ?_
    case hy =>
      intro w hSw
      try dsimp only at hSw
      simp only [List.getElem_toArray, List.getElem_cons_zero, List.getElem_cons_succ]
      go_simp
      try with_reducible rfl
    simp only [List.getElem_toArray, List.getElem_cons_zero, List.getElem_cons_succ, Act.put, List.setIfInBounds_toArray, List.set_cons_zero, List.set_cons_succ]
    refine wpAnyH_take (i := 4) (v := ?_) rfl (by kernel_rfl) (by kernel_rfl) (by kernel_rfl) (fun _ _ _ h => h) (Or.inl ⟨by rfl, ?hy⟩) (by assumption) ?_
    case hy =>
      intro w hSw
      try dsimp only at hSw
      simp only [List.getElem_toArray, List.getElem_cons_zero, List.getElem_cons_succ]
      go_simp
      try with_reducible rfl
    simp only [List.getElem_toArray, List.getElem_cons_zero, List.getElem_cons_succ, Act.put, List.setIfInBounds_toArray, List.set_cons_zero, List.set_cons_succ]
    refine wpAnyH_take (i := 7) (v := ?_) rfl (by kernel_rfl) (by kernel_rfl) (by kernel_rfl) (fun _ _ _ h => h) (Or.inl ⟨by rfl, ?hy⟩) (by assumption) ?_
    case hy =>
      intro w hSw
      try dsimp only at hSw
      simp only [List.getElem_toArray, List.getElem_cons_zero, List.getElem_cons_succ]
      go_simp
      try with_reducible rfl
    simp only [List.getElem_toArray, List.getElem_cons_zero, List.getElem_cons_succ, Act.put, List.setIfInBounds_toArray, List.set_cons_zero, List.set_cons_succ]
    refine wpAnyH_ready (rs := [0]) (by kernel_rfl) (by simp) ?_
    refine AllReadyH.cons rfl (fun K hK => ?_) ?_
    · simp only [List.getElem_toArray, List.getElem_cons_zero, List.getElem_cons_succ]
      go_simp
      go_at_call 18
      refine (HWD.out _).mono ?_
      rintro e W3 ⟨v0, rfl, hR, hb3⟩
      have HB3 : Hid (Below w7.heap.size w7 W3) := Lib.hid ((Below.drew (Below.refl _ _)).trans hb3)
      obtain ⟨v1, w9, hrun, hR9, hB9⟩ := app_strs (P := Tryz.prog) (t := 23) (ty := 23) (c := c1) Tryz.underlying23 (by kernel_rfl) hR (HW.out _ HB3.out) (fun _ _ => trivial) hb3.size (by rw [show openers.length = 6 from rfl]; omega)
      have HB9 : Hid (Below w7.heap.size w7 w9) := Lib.hid (HB3.out.trans hB9)
      have H3 := HS.out _ HB3.out
      have H9 := HS.out _ HB9.out
      obtain ⟨A9, c9, rfl, hle9, hC9⟩ := Kd.R_reads hR9
      have HC9 := Lib.hid hC9
      clear hR hb3 hR9 hB9 hC9
      go_simp
      refine hK.out _ _ ?_ (fun hHeld => ?_)
      · exact H3
      clear hK K
      try simp only [List.getElem_toArray, List.getElem_cons_zero, List.getElem_cons_succ, Act.put, List.setIfInBounds_toArray, List.set_cons_zero, List.set_cons_succ]
      refine wpAnyH_ready (rs := [5]) (by kernel_rfl) (by simp) ?_
      refine AllReadyH.cons rfl (fun K hK => ?_) ?_
      · simp only [List.getElem_toArray, List.getElem_cons_zero, List.getElem_cons_succ]
        go_simp
        refine hK.out _ _ ?_ (fun hHeld => ?_)
        · exact H9
        clear hK K
        try simp only [List.getElem_toArray, List.getElem_cons_zero, List.getElem_cons_succ, Act.put, List.setIfInBounds_toArray, List.set_cons_zero, List.set_cons_succ]
        refine wpAnyH_ready (rs := [6]) (by kernel_rfl) (by simp) ?_
        refine AllReadyH.cons rfl (fun K hK => ?_) ?_
        · simp only [List.getElem_toArray, List.getElem_cons_zero, List.getElem_cons_succ]
          go_simp
          refine hK.out _ _ ?_ (fun hHeld => ?_)
          · exact H9
          clear hK K
          try simp only [List.getElem_toArray, List.getElem_cons_zero, List.getElem_cons_succ, Act.put, List.setIfInBounds_toArray, List.set_cons_zero, List.set_cons_succ]
          refine wpAnyH_done (by kernel_rfl) ?_ _
          go_wp2
          go_meet
          case rel => exact ⟨by first | rfl | (rw [List.length_append]; rfl) | simp, rfl, HB9, A9, c9, by rw [List.length_append], HC9⟩
        exact AllReadyH.nil
      exact AllReadyH.nil
    exact AllReadyH.nil
  case rest =>
    obtain ⟨rfl, rfl, HB, A, c, rfl, HCS⟩ := hcut
    have HA : Hid (Acts g W.heap.size 7 (actTab []) wc) := Lib.hid (A7.out.below HB.out)
    have HBW : Hid (Below W.heap.size W wc) := Lib.hid (B7.out.trans (HB.out.mono B7.out.size))
    have HSZ : Hid (∀ x ∈ openers ++ ws, x.size ≤ maxLen) := Lib.hid (fun x hx => by
      rcases List.mem_append.1 hx with h | h
      · exact Nat.le_trans ((show ∀ y ∈ openers, y.size ≤ 100 by decide) x h) (by decide)
      · exact hsz x h)
    obtain ⟨xs, hxs⟩ : ∃ xs, openers ++ ws = xs := ⟨_, rfl⟩
    obtain ⟨n, hn⟩ : ∃ n, xs.length = n := ⟨_, rfl⟩
    have hn46 : n ≤ 46 := by rw [← hn, ← hxs, List.length_append, show openers.length = 6 from rfl]; omega
    rw [hxs, hn] at HCS
    rw [hxs] at HSZ
    simp only [hxs, hn]
    have HXS := Lib.hid hxs
    have HN := Lib.hid hn
    obtain ⟨mb, hmb⟩ : ∃ b, W.heap.size = b := ⟨_, rfl⟩
    simp only [hmb] at HA ⊢
    clear HWD HS A7 B7 H0 HW k2 HB hsz hxs hn
    have HCJ : Hid (∀ j, j < n → ∃ ad, A = some ad ∧ wc.cell? (ad.add j) = some (.string (rdOf ByteArray.empty xs (j : Int)))) := Lib.hid (fun j hj => by
      obtain ⟨ad, e, hc⟩ := Kd.at_string HCS.out (j : Int) (by omega) (by omega)
      exact ⟨ad, e, by simpa using hc⟩)
    have HMB : Hid (W.heap.size ≤ mb) := Lib.hid (by omega)
    clear hmb HCS
    go_wp2
    go_loopg [29] n (fun kq v wr => ∃ i : Nat, v = .int .i64 i ∧ i ≤ n ∧ kq = n - i ∧ Hid (Acts g mb (7 + i) (actTab (xs.take i)) wr) ∧ Hid (∀ j, j < n → ∃ ad, A = some ad ∧ wr.cell? (ad.add j) = some (.string (rdOf ByteArray.empty xs (j : Int)))) ∧ Hid (Below W.heap.size W wr))
    case atStart => exact ⟨0, rfl, Nat.zero_le _, rfl, HA, HCJ, HBW⟩
    case round =>
      obtain ⟨i, rfl, hin, hkq, HAi, HCi, HBi⟩ := hrel
      have HKQ := Lib.hid hkq
      clear hkq HA HCJ HBW
      by_cases hlt : i < n
      · have x1 : decide (i < n) = true := decide_eq_true hlt
        obtain ⟨ad, rfl, t0⟩ := HCi.out i hlt
        obtain ⟨S, hS⟩ : ∃ S, rdOf ByteArray.empty xs (i : Int) = S := ⟨_, rfl⟩
        rw [hS] at t0
        have hSz : S.size ≤ maxLen := by
          rw [← hS]
          have e : rdOf ByteArray.empty xs (i : Int) = xs[i]'(by rw [HN.out]; exact hlt) := by simp [rdOf, List.getD_eq_getElem?_getD, List.getElem?_eq_getElem (show i < xs.length by rw [HN.out]; exact hlt)]
          rw [e]
          exact HSZ.out _ (List.getElem_mem _)
        obtain ⟨w2, hrun, ha2, hg2⟩ := HAi.out.put (by simp only [maxLen]; omega) hSz true
        have hrun2 : (Instr.mapUpdate 101 (.map (some mb)) (.string S) (.func (.func 104) #[.pointer (some ⟨g, 0, none⟩)] #[])).run Tryz.prog wr = .ok () w2 := hrun
        have x2 : (0 : Int) ≤ (i : Int) := by omega
        have x3 : (i : Int) < (n : Int) := by omega
        have x4 : wrap64 ((i : Int) + 1) = ((i + 1 : Nat) : Int) := by unfold wrap64; omega
        have HA2 : Hid (Acts g mb (7 + (i + 1)) (actTab (xs.take (i + 1))) w2) := Lib.hid (by rw [actTab_step xs i (by rw [HN.out]; exact hlt), hS]; exact ha2)
        have HC2 : Hid (∀ j, j < n → ∃ ad', some ad = some ad' ∧ w2.cell? (ad'.add j) = some (.string (rdOf ByteArray.empty xs (j : Int)))) := Lib.hid (fun j hj => by
          obtain ⟨ad', e, hc⟩ := HCi.out j hj
          exact ⟨ad', e, HAi.out.cell hg2 hc⟩)
        have HB2 : Hid (Below W.heap.size W w2) := Lib.hid (HBi.out.trans (below_grown hg2 HMB.out HBi.out.size))
        clear hrun ha2 hg2 hS hSz
        go_wp2_with fail
        go_roundg (gk - 1)
        case measure => have := HKQ.out; omega
        case rel => exact ⟨i + 1, by go_num, by omega, by have := HKQ.out; omega, HA2, HC2, HB2⟩
      · obtain rfl : i = n := by omega
        have x1 : decide (i < i) = false := decide_eq_false hlt
        have HF : Hid (Acts g mb (7 + i) (actTab xs) wr) := Lib.hid (by
          have := HAi.out
          rw [List.take_of_length_le (by rw [HN.out]; exact Nat.le_refl _)] at this
          exact this)
        go_wp2
        go_ret
        exact ⟨mb, 7 + i, rfl, by rw [HXS.out]; exact HF.out, HBi.out, HMB.out⟩
end
end Go.Proofs.YtipnlgmeonepfaaGreatDoor.PFa

set_option linter.unusedVariables false
namespace Go.Proofs.YtipnlgmeonepfaaGreatDoor.PFa
/-- A reader's state behind a token: it goes on at this index, or it has refused there with this error. -/
inductive St where
  | go (i : Nat) (top : List Fg) (ps : List PF)
  | bad (i : Nat) (e : Int)
def slotName : ByteArray := ⟨#[115, 108, 111, 116]⟩
def endText : List UInt8 := [101, 110, 100]
/-- Is this token a leaf, whatever its text does? -/
def leafB (l : List Tk) (i : Nat) (ps : List PF) (a : Option Bool) : Bool :=
  (!a.isSome || (!((tkAt l i).f0 == 1) && !((tkAt l i).f0 == 5))) || (((tkAt l i).f2.toList == cClass) && isNm l (i + 1) slotName) || (((tkAt l i).f0 == 1) && !((tkAt l i).f2.toList == endText) && nmd i ps)
/-- The first of the next n tokens that is not valid. -/
def badIn (l : List Tk) (i : Nat) : Nat → Option Nat
  | 0 => none
  | n + 1 => match badIn l i n with
    | some j => some j
    | none => if Pure.good (tkAt l (i + 1 + n)) = true then none else some n
def step (tab : List (ByteArray × Bool)) (l : List Tk) (i : Nat) (top : List Fg) (ps : List PF) : St :=
  if Pure.good (tkAt l i) = true then
    if leafB l i ps (actIn tab (tkAt l i).f2) = true then .go (i + 1) (addT top ⟨tkAt l i, ⟨#[]⟩, []⟩ ps) (addP ⟨tkAt l i, ⟨#[]⟩, []⟩ ps)
    else if actIn tab (tkAt l i).f2 = some true then
      if ps.length = 100 then .bad i 6 else .go (i + 1) top (⟨tkAt l i, i, []⟩ :: ps)
    else match ps with
      | [] => .bad i 20
      | p :: r =>
        if (closeTx p.tok.f2).toList = (tkAt l i).f2.toList then
          match badIn l i (dropN l i p.tok p.kids) with
          | some j => .bad (i + 1 + j) 14
          | none => .go (i + dropN l i p.tok p.kids + 1) (addT top ⟨p.tok, p.tok.f2, p.kids⟩ r) (addP ⟨p.tok, p.tok.f2, p.kids⟩ r)
        else .bad i 20
  else .bad i 14
/-- All tokens, so many steps at most. -/
def mach (tab : List (ByteArray × Bool)) (l : List Tk) : Nat → Nat → List Fg → List PF → St
  | 0, i, top, ps => .go i top ps
  | k + 1, i, top, ps =>
    if i < l.length then
      match step tab l i top ps with
      | .bad j e => .bad j e
      | .go j t p => mach tab l k j t p
    else .go i top ps
/-- How much lies in memory: no more than tokens have been read. -/
def bulk (top : List Fg) : List PF → Nat
  | [] => top.length
  | p :: r => bulk top r + p.kids.length + 1
theorem bulk_leaf (top : List Fg) (x : Fg) (ps : List PF) : bulk (addT top x ps) (addP x ps) = bulk top ps + 1 := by
  cases ps with
  | nil => simp [bulk, addT, addP]
  | cons p r =>
    have : addT top x (p :: r) = top := rfl
    rw [this]
    show bulk top r + (p.kids ++ [x]).length + 1 = bulk top r + p.kids.length + 1 + 1
    rw [List.length_append, List.length_singleton]
    omega
theorem bulk_step {tab : List (ByteArray × Bool)} {l : List Tk} {i j : Nat} {top t : List Fg} {ps p : List PF} (hb : bulk top ps ≤ i) (h : step tab l i top ps = .go j t p) : bulk t p ≤ j := by
  cases ps with
  | nil =>
    unfold step at h
    split at h
    · split at h
      · injection h with h1 h2 h3
        rw [← h1, ← h2, ← h3, bulk_leaf]
        omega
      · split at h
        · split at h
          · cases h
          · injection h with h1 h2 h3
            rw [← h1, ← h2, ← h3]
            show bulk top [] + 0 + 1 ≤ i + 1
            omega
        · cases h
    · cases h
  | cons q r =>
    have e : bulk top (q :: r) = bulk top r + q.kids.length + 1 := rfl
    unfold step at h
    split at h
    · split at h
      · injection h with h1 h2 h3
        rw [← h1, ← h2, ← h3, bulk_leaf]
        omega
      · split at h
        · split at h
          · cases h
          · injection h with h1 h2 h3
            rw [← h1, ← h2, ← h3]
            show bulk top (q :: r) + 0 + 1 ≤ i + 1
            omega
        · dsimp only at h
          split at h
          · split at h
            · cases h
            · injection h with h1 h2 h3
              rw [← h1, ← h2, ← h3, bulk_leaf]
              omega
          · cases h
    · cases h
end Go.Proofs.YtipnlgmeonepfaaGreatDoor.PFa

set_option linter.unusedVariables false
namespace Go.Proofs.YtipnlgmeonepfaaGreatDoor.PFa
open Go.RowKit Go.Proofs.YtipnlgmeonepfaaGreatDoorW.PrintWords Go.Proofs.YtipnlgmeonepfaaGreatDoorW.PrintLast Go.Proofs.YtipnlgmeonepfaaGreatDoorW.PrintMore
/-- Two lists of tokens that have the same first n tokens. -/
def Agree (l l' : List Tk) (n : Nat) : Prop := ∀ j, j < n → j < l.length ∧ j < l'.length ∧ tkAt l j = tkAt l' j
section
variable {l l' : List Tk} {n i : Nat} {tab : List (ByteArray × Bool)} {top : List Fg} {ps : List PF}
theorem isNm_agree (h : Agree l l' n) (hi : i < n) (s : ByteArray) : isNm l i s = isNm l' i s := by
  obtain ⟨h1, h2, h3⟩ := h i hi
  unfold isNm
  rw [h3, decide_eq_true h1, decide_eq_true h2]
theorem stopsB_agree (h : Agree l l' n) (hi : i < n) : stopsB l i = stopsB l' i := by
  obtain ⟨h1, h2, h3⟩ := h i hi
  unfold stopsB
  rw [if_neg (show ¬ l.length ≤ i by omega), if_neg (show ¬ l'.length ≤ i by omega), isNm_agree h hi, h3]
theorem nameAt_agree (h : Agree l l' n) (kids : List Fg) (m : Nat) (hi : i + m < n) : nameAt l i kids m = nameAt l' i kids m := by
  cases kids with
  | nil => rfl
  | cons k r =>
    unfold nameAt
    dsimp only
    rw [isNm_agree h hi]
theorem dropN_agree (h : Agree l l' n) (hi : i + 3 < n) (T : Tk) (kids : List Fg) : dropN l i T kids = dropN l' i T kids := by
  unfold dropN
  rw [isNm_agree h (i := i + 1) (by omega), nameAt_agree h kids 2 (by omega), stopsB_agree h (i := i + 3) hi, nameAt_agree h kids 1 (by omega), stopsB_agree h (i := i + 2) (by omega)]
theorem dropN_two (T : Tk) (kids : List Fg) : dropN l i T kids ≤ 2 := by
  unfold dropN
  split
  · split
    · exact Nat.le_refl _
    · split <;> omega
  · omega
theorem badIn_agree (h : Agree l l' n) : ∀ m, i + m < n → badIn l i m = badIn l' i m
  | 0, _ => rfl
  | m + 1, hm => by
    unfold badIn
    rw [badIn_agree h m (by omega), (h (i + 1 + m) (by omega)).2.2]
theorem leafB_agree (h : Agree l l' n) (hi : i + 1 < n) (a : Option Bool) : leafB l i ps a = leafB l' i ps a := by
  unfold leafB
  rw [isNm_agree h hi, (h i (by omega)).2.2]
theorem step_agree (h : Agree l l' n) (hi : i + 3 < n) : step tab l i top ps = step tab l' i top ps := by
  unfold step
  rw [leafB_agree h (by omega), (h i (by omega)).2.2]
  cases ps with
  | nil => rfl
  | cons p r =>
    dsimp only
    rw [dropN_agree h hi, badIn_agree h _ (by have := dropN_two (l := l') (i := i) p.tok p.kids; omega)]
theorem step_here {e : Int} (h : Agree l l' n) (hi : i + 1 < n) (hs : step tab l i top ps = .bad i e) : step tab l' i top ps = .bad i e := by
  unfold step at hs ⊢
  rw [leafB_agree h hi, (h i (by omega)).2.2] at hs
  cases ps with
  | nil => exact hs
  | cons p r =>
    dsimp only at hs ⊢
    by_cases h1 : Pure.good (tkAt l' i) = true
    · rw [if_pos h1] at hs ⊢
      by_cases h2 : leafB l' i (p :: r) (actIn tab (tkAt l' i).f2) = true
      · rw [if_pos h2] at hs
        cases hs
      · rw [if_neg h2] at hs ⊢
        by_cases h3 : actIn tab (tkAt l' i).f2 = some true
        · rw [if_pos h3] at hs ⊢
          exact hs
        · rw [if_neg h3] at hs ⊢
          by_cases h4 : (closeTx p.tok.f2).toList = (tkAt l' i).f2.toList
          · rw [if_pos h4] at hs
            split at hs
            · injection hs with hs _
              omega
            · cases hs
          · rw [if_neg h4] at hs ⊢
            exact hs
    · rw [if_neg h1] at hs ⊢
      exact hs
theorem step_at {j : Nat} {e : Int} (hs : step tab l i top ps = .bad j e) : i ≤ j := by
  unfold step at hs
  split at hs
  · split at hs
    · cases hs
    · split at hs
      · split at hs
        · injection hs with hs _; omega
        · cases hs
      · split at hs
        · injection hs with hs _; omega
        · split at hs
          · split at hs
            · injection hs with hs _; omega
            · cases hs
          · injection hs with hs _; omega
  · injection hs with hs _; omega
theorem step_on {j : Nat} {t : List Fg} {p : List PF} (hs : step tab l i top ps = .go j t p) : i < j := by
  unfold step at hs
  split at hs
  · split at hs
    · injection hs with hs _ _; omega
    · split at hs
      · split at hs
        · cases hs
        · injection hs with hs _ _; omega
      · split at hs
        · cases hs
        · split at hs
          · split at hs
            · cases hs
            · injection hs with hs _ _; omega
          · cases hs
  · cases hs
theorem mach_at {e : Int} {j : Nat} : ∀ (k i : Nat) (top : List Fg) (ps : List PF), mach tab l k i top ps = .bad j e → i ≤ j
  | 0, i, top, ps, h => by cases h
  | k + 1, i, top, ps, h => by
    unfold mach at h
    split at h
    · split at h
      · rename_i a b hs
        injection h with h1 h2
        subst h1
        exact step_at hs
      · rename_i a b c hs
        have := mach_at k a b c h
        have := step_on hs
        omega
    · cases h
/-- An error is found whatever follows the second token behind it. -/
theorem mach_prefix {e : Int} {at_ : Nat} (h : Agree l l' n) (hn : at_ + 2 < n) : ∀ (k i : Nat) (top : List Fg) (ps : List PF) (k' : Nat), at_ < k' + i → mach tab l k i top ps = .bad at_ e → mach tab l' k' i top ps = .bad at_ e
  | 0, i, top, ps, k', _, hm => by cases hm
  | k + 1, i, top, ps, k', hk, hm => by
    have hle := mach_at (k + 1) i top ps hm
    unfold mach at hm
    split at hm
    · obtain ⟨q, rfl⟩ : ∃ q, k' = q + 1 := ⟨k' - 1, by omega⟩
      unfold mach
      rw [if_pos (h i (by omega)).2.1]
      split at hm
      · rename_i a b hs
        injection hm with h1 h2
        subst h1 h2
        by_cases e : i = a
        · subst e
          rw [step_here h (by omega) hs]
        · rw [← step_agree h (by omega), hs]
      · rename_i a b c hs
        have := mach_at k a b c hm
        have := step_on hs
        rw [← step_agree h (by omega), hs]
        exact mach_prefix h hn k a b c q (by omega) hm
    · cases hm
end
/-- A token without its mark and its offset, but for their signs. -/
def dimT (t : Tk) : Tk := ⟨t.f0, t.f1, t.f2, if 0 ≤ t.f3 then 0 else -1, if 0 ≤ t.f4 then 0 else -1⟩
mutual
def dimF : Fg → Fg
  | ⟨t, o, ks⟩ => ⟨dimT t, o, dimL ks⟩
def dimL : List Fg → List Fg
  | [] => []
  | x :: r => dimF x :: dimL r
end
def dimP (p : PF) : PF := ⟨dimT p.tok, p.at_, dimL p.kids⟩
def dimS : St → St
  | .go i t p => .go i (dimL t) (p.map dimP)
  | .bad i e => .bad i e
section
variable {l : List Tk} {tab : List (ByteArray × Bool)}
end
end Go.Proofs.YtipnlgmeonepfaaGreatDoor.PFa

set_option linter.unusedVariables false
set_option linter.unusedSimpArgs false
namespace Go.Proofs.YtipnlgmeonepfaaGreatDoor.PFa
open Go.RowKit Go.Proofs.YtipnlgmeonepfaaGreatDoorW.PrintWords Go.Proofs.YtipnlgmeonepfaaGreatDoorW.PrintLast Go.Proofs.YtipnlgmeonepfaaGreatDoorW.PrintMore
open Go.Proofs.YtipnlgmeonepfaaGreatDoor.Lx (Kp)
theorem Acts.same {g b n : Nat} {tab : List (ByteArray × Bool)} {W W' : World} (h : Acts g b n tab W) (hk : W'.heap[b]? = W.heap[b]?) : Acts g b n tab W' := by
  obtain ⟨D, ⟨es, clock, hb, r⟩, h2⟩ := h
  exact ⟨D, ⟨es, clock, hk.trans hb, r⟩, h2⟩
theorem dropN_lt {l : List Tk} {i : Nat} (hi : i < l.length) (T : Tk) (kids : List Fg) : i + dropN l i T kids < l.length := by
  unfold dropN
  split
  · split
    · rename_i h
      have := nameAt_lt h.2.1
      omega
    · split
      · rename_i h
        rcases h.1 with h | h
        · exact isNm_lt h
        · exact nameAt_lt h
      · exact hi
  · exact hi
theorem badIn_none {l : List Tk} {i : Nat} : ∀ {n : Nat}, (∀ j, j < n → Pure.good (tkAt l (i + 1 + j)) = true) → badIn l i n = none
  | 0, _ => rfl
  | n + 1, h => by
    unfold badIn
    rw [badIn_none (n := n) (fun j hj => h j (by omega))]
    dsimp only
    rw [if_pos (h n (by omega))]
theorem badIn_some {l : List Tk} {i j : Nat} : ∀ {n : Nat}, j < n → (∀ k, k < j → Pure.good (tkAt l (i + 1 + k)) = true) → Pure.good (tkAt l (i + 1 + j)) = false → badIn l i n = some j
  | 0, h, _, _ => by omega
  | n + 1, h, h1, h2 => by
    unfold badIn
    by_cases e : j = n
    · subst e
      rw [badIn_none h1]
      dsimp only
      rw [if_neg (by rw [h2]; decide)]
    · rw [badIn_some (n := n) (by omega) h1 h2]
theorem step_none {tab : List (ByteArray × Bool)} {l : List Tk} {i : Nat} {top : List Fg} (hg : Pure.good (tkAt l i) = true) (hl : leafB l i [] (actIn tab (tkAt l i).f2) = false) (ha : actIn tab (tkAt l i).f2 = some false) : step tab l i top [] = .bad i 20 := by
  unfold step
  rw [if_pos hg, if_neg (by rw [hl]; decide), ha, if_neg (by decide)]
theorem step_close {tab : List (ByteArray × Bool)} {l : List Tk} {i : Nat} {top : List Fg} {p : PF} {r : List PF} (hg : Pure.good (tkAt l i) = true) (hl : leafB l i (p :: r) (actIn tab (tkAt l i).f2) = false) (ha : actIn tab (tkAt l i).f2 = some false) :
    step tab l i top (p :: r) = if (closeTx p.tok.f2).toList = (tkAt l i).f2.toList then (match badIn l i (dropN l i p.tok p.kids) with
      | some j => .bad (i + 1 + j) 14
      | none => .go (i + dropN l i p.tok p.kids + 1) (addT top ⟨p.tok, p.tok.f2, p.kids⟩ r) (addP ⟨p.tok, p.tok.f2, p.kids⟩ r)) else .bad i 20 := by
  unfold step
  rw [if_pos hg, if_neg (by rw [hl]; decide), ha, if_neg (by decide)]
  all_goals rfl
theorem step_in {tab : List (ByteArray × Bool)} {l : List Tk} {i j : Nat} {top t : List Fg} {ps p : List PF} (hi : i < l.length) (hd : ps.length ≤ 100) (ha : ∀ x ∈ ps, x.at_ ≤ i) (h : step tab l i top ps = .go j t p) : j ≤ l.length ∧ p.length ≤ 100 ∧ ∀ x ∈ p, x.at_ ≤ j := by
  have leaf : ∀ (x : Fg) (ps : List PF) (k : Nat), i ≤ k → ps.length ≤ 100 → (∀ y ∈ ps, y.at_ ≤ i) → (addP x ps).length ≤ 100 ∧ ∀ y ∈ addP x ps, y.at_ ≤ k := by
    intro x ps k hk h1 h2
    cases ps with
    | nil => exact ⟨h1, fun y hy => absurd hy (by simp [addP])⟩
    | cons q r =>
      refine ⟨h1, fun y hy => ?_⟩
      rcases List.mem_cons.1 hy with rfl | hy
      · have := h2 q List.mem_cons_self
        exact Nat.le_trans this hk
      · have := h2 y (List.mem_cons_of_mem _ hy)
        omega
  unfold step at h
  split at h
  · split at h
    · injection h with h1 h2 h3
      rw [← h1, ← h3]
      exact ⟨hi, leaf _ ps _ (by omega) hd ha⟩
    · split at h
      · split at h
        · cases h
        · injection h with h1 h2 h3
          rw [← h1, ← h3]
          refine ⟨hi, by simp; omega, fun x hx => ?_⟩
          rcases List.mem_cons.1 hx with rfl | hx
          · exact Nat.le_succ i
          · have := ha x hx
            omega
      · cases ps with
        | nil => cases h
        | cons q r =>
          dsimp only at h
          split at h
          · split at h
            · cases h
            · injection h with h1 h2 h3
              have := dropN_lt hi q.tok q.kids
              rw [← h1, ← h3]
              exact ⟨by omega, leaf _ r _ (by omega) (by simp at hd; omega) (fun y hy => ha y (List.mem_cons_of_mem _ hy))⟩
          · cases h
  · cases h
/-- What lies in memory at the head of read's loop: the reader, and the map. -/
structure ReadAt (w : World) (g : Nat) (A0 : Option Addr) (c0 : Nat) (l : List Tk) (A1 : Option Addr) (c1 : Nat) (ws : List ByteArray) (b n : Nat) (tab : List (ByteArray × Bool)) (at_ : Nat) (top : List Fg) (ps : List PF) (W : World) : Prop where
  rd : RdZ w g A0 c0 l A1 c1 ws at_ top ps (fun k => k = b) W
  acts : Acts g b n tab W
  blk : bulk top ps ≤ at_
  deep : ps.length ≤ 100
  ats : ∀ p ∈ ps, p.at_ ≤ at_
/-- What read comes to: the machine's end. -/
def ReadPost (w : World) (g : Nat) (A0 : Option Addr) (c0 : Nat) (l : List Tk) (A1 : Option Addr) (c1 : Nat) (ws : List ByteArray) (tab : List (ByteArray × Bool)) (e : Ending) (W' : World) : Prop :=
  match mach tab l (l.length + 1) 0 [] [] with
  | .bad i er => e = endR i er ∧ Below w.heap.size w W'
  | .go i top [] => e = .returned (.tuple #[]) ∧ RdAt w g A0 c0 l A1 c1 ws i top [] W'
  | .go _ _ (p :: _) => e = endR p.at_ 21 ∧ Below w.heap.size w W'
section
variable {w W W' : World} {g : Nat} {A0 : Option Addr} {c0 : Nat} {l : List Tk} {A1 : Option Addr} {c1 : Nat} {ws : List ByteArray} {o : Nat → Nat} {tv : Value} {sv : Value}
set_option maxHeartbeats 6400000 in
set_option maxRecDepth 100000 in
theorem read_c (h : Rd w g A0 c0 l A1 c1 ws o 0 tv [] sv [] W) (hC : Kd.C k39 w A0 l.length l) (hl : l.length ≤ 6000) (hE : Lx.Env w) (hW : Kd.C Kd.string w A1 ws.length ws) (hws : ws.length ≤ 40) (hsz : ∀ x ∈ ws, x.size ≤ maxLen) :
    Calls Tryz.prog 49 #[.pointer (some ⟨g, 0, none⟩)] W (ReadPost w g A0 c0 l A1 c1 ws (actTab (openers ++ ws))) := by
  suffices H : ∀ K : Ending → World → Prop, (∀ e W', ReadPost w g A0 c0 l A1 c1 ws (actTab (openers ++ ws)) e W' → K e W') → Calls Tryz.prog 49 #[.pointer (some ⟨g, 0, none⟩)] W K from H _ (fun _ _ h => h)
  intro K hK
  have HK := Lib.hid hK
  clear hK
  have HACT := Lib.hid (acts_c h hW hws hsz)
  have H0 := Lib.hid h
  have HC := Lib.hid hC
  have HE := Lib.hid hE
  clear h hC hE hW
  go_enter Tryz.func49, Tryz.ntmps49
  go_wp2_with fail
  refine HACT.out.mono ?_
  rintro e W2 ⟨b, n, rfl, ha, hb2, hbn⟩
  have HR2 : Hid (ReadAt w g A0 c0 l A1 c1 ws b n (actTab (openers ++ ws)) 0 [] [] W2) := Lib.hid (by
    obtain ⟨o', h', hc, _⟩ := H0.out.clip
    have hgl := blk_lt H0.out.blk
    refine ⟨⟨o', tv, sv, [], h'.below hb2, rfl, ?_⟩, ha, Nat.le_refl _, by simp, by simp⟩
    rintro k rfl
    exact ⟨hc k hbn, by omega, by simp⟩)
  clear ha hb2 hbn H0 HACT
  go_wp2_with fail
  go_loopg [] (l.length + 1) (fun kq wr => ∃ i top ps, l.length + 1 - i ≤ kq ∧ i ≤ l.length ∧ mach (actTab (openers ++ ws)) l (l.length + 1) 0 [] [] = mach (actTab (openers ++ ws)) l kq i top ps ∧ Hid (ReadAt w g A0 c0 l A1 c1 ws b n (actTab (openers ++ ws)) i top ps wr))
  case atStart => exact ⟨0, [], [], Nat.le_refl _, Nat.zero_le _, rfl, HR2⟩
  case round =>
    obtain ⟨i, top, ps, hkq, hil, hm, HR⟩ := hrel
    have HKQ := Lib.hid hkq
    have HM := Lib.hid hm
    clear hkq hm HR2
    obtain ⟨o2, tv2, sv2, fs, hrd, hps, hz⟩ := HR.out.rd
    have HRD := Lib.hid hrd
    have HPS := Lib.hid hps
    have HZ := Lib.hid hz
    have k0 : wr.cell? ⟨g, 0, none⟩ = some (.slice A0 l.length c0) := blk_cell hrd.blk 0
    have k1 : wr.cell? ⟨g, 1, none⟩ = some (.int .i64 i) := blk_cell hrd.blk 1
    clear hrd hps hz
    by_cases hlt : i < l.length
    · have x1 : decide (i < l.length) = true := decide_eq_true hlt
      have x2 : (0 : Int) ≤ (i : Int) := by omega
      have x3 : (i : Int) < (l.length : Int) := by omega
      obtain ⟨ad, had, t0, t1, t2, t3, t4⟩ := at_T39 (Kd.C_below HC.out HRD.out.bel) (i : Int) (by omega) (by omega)
      subst had
      obtain ⟨T, hT⟩ : ∃ T, rd_T39 l (i : Int) = T := ⟨_, rfl⟩
      have HT : Hid (tkAt l i = T) := Lib.hid hT
      rw [hT] at t0 t1 t2 t3 t4
      simp only [Int.toNat_natCast] at t0 t1 t2 t3 t4
      clear hT
      have HV : Hid (∀ X, Below wr.heap.size wr X → Calls Tryz.prog 75 #[.pointer (some ⟨g, 0, none⟩)] X (ValPost i T X)) := Lib.hid (fun X hb => by
        have := valid_c (HRD.out.below hb) HC.out hl hlt HE.out
        rwa [HT.out] at this)
      have HPB : Hid (∀ (j : Nat) (er : Int) (X : World), step (actTab (openers ++ ws)) l i top ps = .bad j er → Below w.heap.size w X → K (endR j er) X) := Lib.hid (fun j er X hs hb => HK.out _ _ <| by
        unfold ReadPost
        obtain ⟨k, hk⟩ : ∃ k, gk = k + 1 := ⟨gk - 1, by have := HKQ.out; omega⟩
        rw [HM.out, hk]
        unfold mach
        rw [if_pos hlt, hs]
        exact ⟨rfl, hb⟩)
      have HNX : Hid (∀ (i' : Nat) (top' : List Fg) (ps' : List PF) (X : World), step (actTab (openers ++ ws)) l i top ps = .go (i' + 1) top' ps' → RdZ w g (some ad) c0 l A1 c1 ws i' top' ps' (fun k => k = b) X → Acts g b n (actTab (openers ++ ws)) X → ∃ i2 top2 ps2, l.length + 1 - i2 ≤ gk - 1 ∧ i2 ≤ l.length ∧ mach (actTab (openers ++ ws)) l (l.length + 1) 0 [] [] = mach (actTab (openers ++ ws)) l (gk - 1) i2 top2 ps2 ∧ Hid (ReadAt w g (some ad) c0 l A1 c1 ws b n (actTab (openers ++ ws)) i2 top2 ps2 (X.setCell ⟨g, 1, none⟩ (.int .i64 ((i' + 1 : Nat) : Int))))) := Lib.hid (fun i' top' ps' X hs hr ha => by
        obtain ⟨h1, h2, h3⟩ := step_in hlt HR.out.deep HR.out.ats hs
        have h4 := bulk_step HR.out.blk hs
        have h5 := step_on hs
        refine ⟨i' + 1, top', ps', by have := HKQ.out; omega, h1, ?_, Lib.hid ⟨?_, ?_, h4, h2, h3⟩⟩
        · obtain ⟨k, hk⟩ : ∃ k, gk = k + 1 := ⟨gk - 1, by have := HKQ.out; omega⟩
          rw [HM.out, hk]
          show _ = mach (actTab (openers ++ ws)) l k (i' + 1) top' ps'
          rw [mach, if_pos hlt, hs]
        · obtain ⟨o', tv', sv', fs', q1, q2, q3⟩ := hr
          exact ⟨o', tv', sv', fs', q1.setAt (i' + 1), q2, q3⟩
        · obtain ⟨o', tv', sv', fs', q1, q2, q3⟩ := hr
          exact ha.same (Below.heap_setCell _ _ _ b (q3 b rfl).2.1))
      go_upto_region 1 with (fail)
      go_quiet (fail)
      go_upto_block 1 with (fail)
      go_cut [] (fun wc => ∃ (i' : Nat) (top' : List Fg) (ps' : List PF), Hid (step (actTab (openers ++ ws)) l i top ps = .go (i' + 1) top' ps') ∧ Hid (RdZ w g (some ad) c0 l A1 c1 ws i' top' ps' (fun k => k = b) wc) ∧ Hid (Acts g b n (actTab (openers ++ ws)) wc))
      case' rest =>
        obtain ⟨i', top', ps', HS', HZ', HA'⟩ := hcut
        obtain ⟨o', tv', sv', fs', hr', _, _⟩ := HZ'.out
        have q1 : wc.cell? ⟨g, 1, none⟩ = some (.int .i64 i') := blk_cell hr'.blk 1
        have q2 : wc.frozen? ⟨g, 1, none⟩ = false := blk_frozen hr'.blk 1
        have hi' := step_in hlt HR.out.deep HR.out.ats HS'.out
        have y1 : wrap64 ((i' : Int) + 1) = ((i' + 1 : Nat) : Int) := by unfold wrap64; omega
        have HQ := HNX.out i' top' ps' wc HS'.out HZ'.out HA'.out
        clear hr' hi' k0 k1 t0 t1 t2 t3 t4
        go_wp2
        go_roundg (gk - 1)
        case measure => have := HKQ.out; omega
        case rel => exact HQ
      go_wp2_with fail
      refine (HV.out _ (by repeat (with_reducible first | exact Below.refl _ _ | apply pw_below_drewN | apply Below.drew))).mono ?_
      rintro e W3 ⟨he, hb3⟩
      replace hb3 : Below wr.heap.size wr W3 := (by repeat (with_reducible first | exact Below.refl _ _ | apply pw_below_drewN | apply Below.drew) : Below wr.heap.size wr _).trans (hb3.mono (by simp))
      by_cases hg : Pure.good T = true
      · rw [if_pos hg] at he
        subst he
        have HB3 := Lib.hid hb3
        have HG := Lib.hid hg
        have e0 := al (pw_cell_below hb3 k0)
        have e1 := al (pw_cell_below hb3 k1)
        have e2 := al (pw_cell_below hb3 t0)
        have e3 := al (pw_cell_below hb3 t1)
        have e4 := al (pw_cell_below hb3 t2)
        have e5 := al (pw_cell_below hb3 t3)
        have e6 := al (pw_cell_below hb3 t4)
        replace k0 := pw_cell_below hb3 k0
        replace k1 := pw_cell_below hb3 k1
        replace t0 := pw_cell_below hb3 t0
        replace t1 := pw_cell_below hb3 t1
        replace t2 := pw_cell_below hb3 t2
        replace t3 := pw_cell_below hb3 t3
        replace t4 := pw_cell_below hb3 t4
        have HR3 : Hid (ReadAt w g (some ad) c0 l A1 c1 ws b n (actTab (openers ++ ws)) i top ps W3) := Lib.hid ⟨HR.out.rd.below hb3, HR.out.acts.below hb3, HR.out.blk, HR.out.deep, HR.out.ats⟩
        clear hb3 hg HRD HZ HPS HV
        go_upto_region 4 with (fail)
        go_region
        go_upto_region 5 with (fail)
        go_name_world W4 hW4
        have hb4 : Below W3.heap.size W3 W4 := hW4 ▸ by repeat (with_reducible first | exact Below.refl _ _ | apply pw_below_drewN | apply Below.drew | apply below_alloc)
        have HT4 : Hid (W4.heap[W3.heap.size]? = some (.cells #[.int .i64 T.f0, .int .i64 T.f1, .string T.f2, .int .i64 T.f3, .int .i64 T.f4] 39 (0, 0))) := Lib.hid (hW4 ▸ blk_drew (blk_new W3 _))
        have HR4 : Hid (ReadAt w g (some ad) c0 l A1 c1 ws b n (actTab (openers ++ ws)) i top ps W4) := Lib.hid ⟨HR3.out.rd.below hb4, HR3.out.acts.below hb4, HR3.out.blk, HR3.out.deep, HR3.out.ats⟩
        clear hb4 hW4 HR3 HB3 k0 k1 t0 t1 t2 t3 t4 e0 e1 e2 e3 e4 e5 e6
        obtain ⟨v, hv⟩ : ∃ v, W3.heap.size = v := ⟨_, rfl⟩
        rw [hv] at HT4 ⊢
        clear hv
        have t0 : W4.cell? ⟨v, 0, none⟩ = some (.int .i64 T.f0) := blk_cell HT4.out 0
        have t2 : W4.cell? ⟨v, 2, none⟩ = some (.string T.f2) := blk_cell HT4.out 2
        obtain ⟨av, hlook, hact⟩ := HR4.out.acts.look (s := T.f2) (by have := Pure.good_len HG.out; simp only [maxLen]; omega)
        obtain ⟨a, ha⟩ : ∃ a, actIn (actTab (openers ++ ws)) T.f2 = a := ⟨_, rfl⟩
        rw [ha] at hlook hact
        have HA := Lib.hid ha
        have HACT := Lib.hid hact
        clear ha hact
        obtain ⟨q1, hq1⟩ : ∃ x, (T.f0 == 1) = x := ⟨_, rfl⟩
        obtain ⟨q5, hq5⟩ : ∃ x, (T.f0 == 5) = x := ⟨_, rfl⟩
        obtain ⟨qc, hqc⟩ : ∃ x, (T.f2.toList == cClass) = x := ⟨_, rfl⟩
        obtain ⟨qs, hqs⟩ : ∃ x, isNm l (i + 1) slotName = x := ⟨_, rfl⟩
        obtain ⟨qe, hqe⟩ : ∃ x, (T.f2.toList == endText) = x := ⟨_, rfl⟩
        obtain ⟨qn, hqn⟩ : ∃ x, nmd i ps = x := ⟨_, rfl⟩
        have n1 : (T.f0 != 1) = !q1 := by rw [← hq1]; rfl
        have n5 : (T.f0 != 5) = !q5 := by rw [← hq5]; rfl
        have ne : (T.f2.toList == [101, 110, 100]) = qe := hqe
        have nc : (T.f2.toList == [99, 108, 97, 115, 115]) = qc := hqc
        obtain ⟨isS, his⟩ : ∃ x, a.isSome = x := ⟨_, rfl⟩
        have HLB : Hid (leafB l i ps a = ((!isS || (!q1 && !q5)) || (qc && qs) || (q1 && !qe && qn))) := Lib.hid (by
          unfold leafB
          rw [HT.out, hq1, hq5, hqc, hqs, hqe, hqn, his])
        obtain ⟨lb, hlb⟩ : ∃ x, leafB l i ps a = x := ⟨_, rfl⟩
        rw [hlb] at HLB
        have HLF := Lib.hid hlb
        have HIS := Lib.hid his
        rw [his] at hlook
        have HNM : Hid (∀ X, Below W4.heap.size W4 X → Calls Tryz.prog 76 #[.pointer (some ⟨g, 0, none⟩), .int .i64 ((i + 1 : Nat) : Int), .string slotName] X fun e W' => e = .returned (.bool qs) ∧ Drawn0 X W') := Lib.hid (fun X hb => by
          obtain ⟨o', tv', sv', fs', hr', _, _⟩ := HR4.out.rd
          have := isName_c (hr'.below hb) HC.out hl (i + 1) slotName
          rwa [hqs] at this)
        have HND : Hid (∀ X, Below W4.heap.size W4 X → Calls Tryz.prog 77 #[.pointer (some ⟨g, 0, none⟩)] X fun e W' => e = .returned (.bool qn) ∧ Drawn0 X W') := Lib.hid (fun X hb => by
          obtain ⟨o', tv', sv', fs', hr', hp', _⟩ := HR4.out.rd
          have hle : fs'.length ≤ 100 := by have := HR4.out.deep; rw [← hp', List.length_map] at this; exact this
          have := named_c (hr'.below hb) hle (by omega) (fun f hf => by
            have := HR4.out.ats f.pf (hp' ▸ List.mem_map_of_mem hf)
            have e : f.pf.at_ = f.at_ := rfl
            omega)
          rw [hp', hqn] at this
          exact this)
        clear hqn hqs hqe hqc his hlb
        go_upto_region 7 with (fail)
        go_cut [47] (fun v47 wd => v47 = .bool (!isS || (!q1 && !q5)) ∧ Hid (Below W4.heap.size W4 wd))
        case first =>
          cases isS <;> cases q1 <;> cases q5
          all_goals go_wp2
          all_goals go_meet
          all_goals (case rel => exact ⟨rfl, Lib.hid (by repeat (with_reducible first | exact Below.refl _ _ | apply pw_below_drewN | apply Below.drew))⟩)
        case rest =>
          obtain ⟨rfl, HBD⟩ := hcut
          rename World => W5
          obtain ⟨c7, hc7⟩ : ∃ x, (!isS || (!q1 && !q5)) = x := ⟨_, rfl⟩
          rw [hc7] at HLB ⊢
          clear hc7 n1 n5
          have t0 := pw_cell_below HBD.out t0
          have t2 := pw_cell_below HBD.out t2
          have k1 : W5.cell? ⟨g, 1, none⟩ = some (.int .i64 i) := by
            obtain ⟨o', tv', sv', fs', hr', _, _⟩ := HR4.out.rd
            exact pw_cell_below HBD.out (blk_cell hr'.blk 1)
          have y1 : wrap64 ((i : Int) + 1) = ((i + 1 : Nat) : Int) := by unfold wrap64; omega
          go_upto_if 47 with (fail)
          go_cut [47] (fun v47 wd => v47 = .bool lb ∧ Hid (Below W4.heap.size W4 wd))
          case first =>
            have HLB2 := HLB.out
            cases c7 with
            | true =>
              go_wp2
              go_meet
              case rel => exact ⟨congrArg Value.bool (by rw [HLB.out]; rfl), HBD⟩
            | false =>
              cases qc with
              | true =>
                cases qs with
                | true =>
                  go_wp2_with (go_at_call 76; (refine (HNM.out _ (by repeat (with_reducible first | exact HBD.out | apply pw_below_drewN | apply Below.drew))).mono ?_); rintro e W6 ⟨rfl, ⟨m, rfl⟩⟩)
                  go_meet
                  case rel => exact ⟨congrArg Value.bool (by rw [HLB.out]; rfl), Lib.hid (by repeat (with_reducible first | exact HBD.out | apply pw_below_drewN | apply Below.drew))⟩
                | false =>
                  cases q1 with
                  | false =>
                    go_wp2_with (go_at_call 76; (refine (HNM.out _ (by repeat (with_reducible first | exact HBD.out | apply pw_below_drewN | apply Below.drew))).mono ?_); rintro e W6 ⟨rfl, ⟨m, rfl⟩⟩)
                    go_meet
                    case rel => exact ⟨congrArg Value.bool (by rw [HLB.out]; rfl), Lib.hid (by repeat (with_reducible first | exact HBD.out | apply pw_below_drewN | apply Below.drew))⟩
                  | true =>
                    cases qe <;> cases qn
                    all_goals go_wp2_with (first | (go_at_call 76; (refine (HNM.out _ (by repeat (with_reducible first | exact HBD.out | apply pw_below_drewN | apply Below.drew))).mono ?_); rintro e W6 ⟨rfl, ⟨m, rfl⟩⟩) | (go_at_call 77; (refine (HND.out _ (by repeat (with_reducible first | exact HBD.out | apply pw_below_drewN | apply Below.drew))).mono ?_); rintro e W7 ⟨rfl, ⟨m', rfl⟩⟩))
                    all_goals go_meet
                    all_goals (case rel => exact ⟨congrArg Value.bool (by rw [HLB.out]; rfl), Lib.hid (by repeat (with_reducible first | exact HBD.out | apply pw_below_drewN | apply Below.drew))⟩)
              | false =>
                cases q1 with
                | false =>
                  go_wp2
                  go_meet
                  case rel => exact ⟨congrArg Value.bool (by rw [HLB.out]; cases qs <;> rfl), HBD⟩
                | true =>
                  cases qe <;> cases qn
                  all_goals go_wp2_with (go_at_call 77; (refine (HND.out _ (by repeat (with_reducible first | exact HBD.out | apply pw_below_drewN | apply Below.drew))).mono ?_); rintro e W7 ⟨rfl, ⟨m', rfl⟩⟩)
                  all_goals go_meet
                  all_goals (case rel => exact ⟨congrArg Value.bool (by rw [HLB.out]; cases qs <;> rfl), Lib.hid (by repeat (with_reducible first | exact HBD.out | apply pw_below_drewN | apply Below.drew))⟩)
          case rest =>
            obtain ⟨rfl, HBE⟩ := hcut
            rename World => W6
            have HR6 : Hid (ReadAt w g (some ad) c0 l A1 c1 ws b n (actTab (openers ++ ws)) i top ps W6) := Lib.hid ⟨HR4.out.rd.below HBE.out, HR4.out.acts.below HBE.out, HR4.out.blk, HR4.out.deep, HR4.out.ats⟩
            clear HNM HND HBD HLB t0 t2 k1 ne nc hlook HT4
            obtain ⟨o6, tv6, sv6, fs6, h6, hp6, hz6⟩ := HR6.out.rd
            have hfs6 : fs6.length ≤ 100 := by have := HR6.out.deep; rw [← hp6, List.length_map] at this; exact this
            have hb6 : b < W6.heap.size := by obtain ⟨D, ⟨es, clock, hb, _⟩, _⟩ := HR6.out.acts; exact blk_lt hb
            have HZB : Hid (∀ k, (fun k => k = b) k → k < W6.heap.size ∧ o6 k = 0 ∧ k ≠ g ∧ ∀ f ∈ fs6, k ≠ f.blk) := Lib.hid (by
              rintro k rfl
              exact ⟨hb6, hz6 _ rfl⟩)
            have hbk : bulk top (fs6.map Fr.pf) ≤ i := by rw [hp6]; exact HR6.out.blk
            have hcl6 : (curL top fs6).length ≤ 6000 := by
              cases fs6 with
              | nil =>
                have e : bulk top ([] : List PF) = top.length := rfl
                rw [List.map_nil, e] at hbk
                show top.length ≤ 6000
                omega
              | cons f r =>
                have e : bulk top ((f :: r).map Fr.pf) = bulk top (r.map Fr.pf) + f.kids.length + 1 := rfl
                rw [e] at hbk
                show f.kids.length ≤ 6000
                omega
            have HGT : Hid (Pure.good (tkAt l i) = true) := Lib.hid (by rw [HT.out]; exact HG.out)
            have HLT : Hid (leafB l i ps (actIn (actTab (openers ++ ws)) (tkAt l i).f2) = lb) := Lib.hid (by rw [HT.out, HA.out]; exact HLF.out)
            have HAT : Hid (actIn (actTab (openers ++ ws)) (tkAt l i).f2 = a) := Lib.hid (by rw [HT.out]; exact HA.out)
            cases lb with
            | true =>
              have HLC := Lib.hid (leaf_c h6 HC.out hl hlt hfs6 hcl6 HZB.out)
              have HST : Hid (step (actTab (openers ++ ws)) l i top ps = .go (i + 1) (addT top ⟨tkAt l i, ⟨#[]⟩, []⟩ ps) (addP ⟨tkAt l i, ⟨#[]⟩, []⟩ ps)) := Lib.hid (by
                unfold step
                rw [if_pos HGT.out, if_pos HLT.out])
              have HP6 := Lib.hid hp6
              clear h6 hp6 hz6 hbk hcl6
              go_wp2_with fail
              refine HLC.out.mono ?_
              rintro e W9 ⟨rfl, hz9, hk9⟩
              have HZ9 := Lib.hid hz9
              have HK9 := Lib.hid hk9
              clear hz9 hk9
              go_wp2
              go_meet
              case rel =>
                refine ⟨i, _, _, HST, Lib.hid ?_, Lib.hid (HR6.out.acts.same (HK9.out b rfl))⟩
                have := HZ9.out
                rw [HP6.out, ← addT_map, HP6.out] at this
                exact this
            | false =>
              have hS : isS = true := by
                cases isS with
                | true => rfl
                | false =>
                  have := HLF.out
                  unfold leafB at this
                  rw [HIS.out] at this
                  simp at this
              have HSS : a.isSome = true := HIS.out.trans hS
              obtain ⟨x, rfl⟩ := Option.isSome_iff_exists.1 HSS
              obtain rfl := HACT.out x rfl
              cases x with
              | true =>
                by_cases hfull : ps.length = 100
                · have HBF := Lib.hid (begin_full h6 (by rw [← hfull, ← hp6, List.length_map]))
                  clear h6 hp6 hz6 hbk hcl6
                  unfold actV
                  go_wp2_with fail
                  refine HBF.out.mono ?_
                  rintro e W9 ⟨rfl, hb9⟩
                  refine ⟨rfl, ?_⟩
                  exact HPB.out i 6 W9 (by unfold step; rw [if_pos HGT.out, if_neg (by rw [HLT.out]; decide), HAT.out, if_pos rfl, if_pos hfull]) (HR6.out.rd.at.bel.trans (hb9.mono HR6.out.rd.at.bel.size))
                · have HLC := Lib.hid (begin_c h6 HC.out hl hlt (by rw [← hp6, List.length_map] at hfull; omega) HZB.out)
                  have HST : Hid (step (actTab (openers ++ ws)) l i top ps = .go (i + 1) top (⟨tkAt l i, i, []⟩ :: ps)) := Lib.hid (by
                    unfold step
                    rw [if_pos HGT.out, if_neg (by rw [HLT.out]; decide), HAT.out, if_pos rfl, if_neg hfull])
                  have HP6 := Lib.hid hp6
                  clear h6 hp6 hz6 hbk hcl6
                  unfold actV
                  go_wp2_with fail
                  refine HLC.out.mono ?_
                  rintro e W9 ⟨rfl, hz9, hk9⟩
                  have HZ9 := Lib.hid hz9
                  have HK9 := Lib.hid hk9
                  clear hz9 hk9
                  go_wp2
                  go_meet
                  case rel =>
                    refine ⟨i, _, _, HST, Lib.hid ?_, Lib.hid (HR6.out.acts.same (HK9.out b rfl))⟩
                    have := HZ9.out
                    rw [HP6.out] at this
                    exact this
              | false =>
                cases fs6 with
                | nil =>
                  have HBF := Lib.hid (close_none h6 HC.out hl hlt)
                  have HP6 : Hid (ps = []) := Lib.hid hp6.symm
                  clear h6 hp6 hz6 hbk hcl6
                  unfold actV
                  go_wp2_with fail
                  refine HBF.out.mono ?_
                  rintro e W9 ⟨rfl, hb9⟩
                  refine ⟨rfl, ?_⟩
                  exact HPB.out i 20 W9 (by have a := HLT.out; rw [HP6.out] at a ⊢; exact step_none HGT.out (a.trans rfl) HAT.out) (HR6.out.rd.at.bel.trans (hb9.mono HR6.out.rd.at.bel.size))
                | cons f r =>
                  have HP6 : Hid (ps = f.pf :: r.map Fr.pf) := Lib.hid hp6.symm
                  have hr6 : r.length + 1 ≤ 100 := by simpa using hfs6
                  by_cases hcx : (closeTx f.tok.f2).toList = (tkAt l i).f2.toList
                  · have hcr : (curL top r).length ≤ 6000 := by
                      have e : bulk top ((f :: r).map Fr.pf) = bulk top (r.map Fr.pf) + f.kids.length + 1 := rfl
                      rw [e] at hbk
                      cases r with
                      | nil =>
                        have e : bulk top ([] : List PF) = top.length := rfl
                        rw [List.map_nil, e] at hbk
                        show top.length ≤ 6000
                        omega
                      | cons f' r' =>
                        have e : bulk top ((f' :: r').map Fr.pf) = bulk top (r'.map Fr.pf) + f'.kids.length + 1 := rfl
                        rw [e] at hbk
                        show f'.kids.length ≤ 6000
                        omega
                    have HLC := Lib.hid (close_c h6 HC.out hl hlt HE.out hr6 hcr ((toList_eq _ _).1 hcx) HZB.out)
                    have HCX := Lib.hid hcx
                    clear h6 hp6 hz6 hbk hcl6 hcr hcx
                    unfold actV
                    go_wp2_with fail
                    refine HLC.out.mono ?_
                    rintro e W9 hd
                    rcases hd with ⟨rfl, h1, h2, h2k⟩ | ⟨j, h1, h2, h3, rfl, h5⟩
                    · have HBN : Hid (badIn l i (dropN l i f.tok f.kids) = none) := Lib.hid (badIn_none h1)
                      have HZ9 := Lib.hid h2
                      have HK9 := Lib.hid h2k
                      clear h1 h2 h2k
                      go_wp2
                      go_meet
                      case rel =>
                        refine ⟨i + dropN l i f.tok f.kids, _, _, Lib.hid ?_, HZ9, Lib.hid (HR6.out.acts.same (HK9.out b rfl))⟩
                        have a := HLT.out
                        rw [HP6.out] at a ⊢
                        rw [step_close HGT.out a HAT.out]
                        rw [if_pos (show (closeTx f.pf.tok.f2).toList = (tkAt l i).f2.toList from HCX.out)]
                        have e : badIn l i (dropN l i f.pf.tok f.pf.kids) = none := HBN.out
                        rw [e]
                        rfl
                    · refine ⟨rfl, ?_⟩
                      refine HPB.out (i + 1 + j) 14 W9 ?_ h5
                      have a := HLT.out
                      rw [HP6.out] at a ⊢
                      rw [step_close HGT.out a HAT.out]
                      rw [if_pos (show (closeTx f.pf.tok.f2).toList = (tkAt l i).f2.toList from HCX.out)]
                      have e : badIn l i (dropN l i f.pf.tok f.pf.kids) = some j := badIn_some h1 h2 h3
                      rw [e]
                  · have HBF := Lib.hid (close_bad h6 hr6 HC.out hl hlt hcx)
                    have HCX := Lib.hid hcx
                    clear h6 hp6 hz6 hbk hcl6 hcx
                    unfold actV
                    go_wp2_with fail
                    refine HBF.out.mono ?_
                    rintro e W9 ⟨rfl, hb9⟩
                    refine ⟨rfl, ?_⟩
                    refine HPB.out i 20 W9 ?_ (HR6.out.rd.at.bel.trans (hb9.mono HR6.out.rd.at.bel.size))
                    have a := HLT.out
                    rw [HP6.out] at a ⊢
                    rw [step_close HGT.out a HAT.out]
                    rw [if_neg (show ¬ (closeTx f.pf.tok.f2).toList = (tkAt l i).f2.toList from HCX.out)]
      · rw [if_neg hg] at he
        subst he
        refine ⟨rfl, ?_⟩
        exact HPB.out i 14 W3 (by unfold step; rw [HT.out, if_neg hg]) (HR.out.rd.at.bel.trans (hb3.mono HR.out.rd.at.bel.size))
    · obtain ⟨n0, hn0⟩ : ∃ m, l.length = m := ⟨_, rfl⟩
      obtain rfl : i = n0 := by omega
      have HEND : Hid (mach (actTab (openers ++ ws)) l (l.length + 1) 0 [] [] = .go i top ps) := Lib.hid (by
        rw [HM.out]
        obtain ⟨k, hk⟩ : ∃ k, gk = k + 1 := ⟨gk - 1, by have := HKQ.out; omega⟩
        rw [hk]
        unfold mach
        rw [if_neg hlt])
      rw [hn0] at k0
      have x1 : decide (i < i) = false := decide_eq_false (by omega)
      cases fs with
      | nil =>
        obtain ⟨A, c, rfl⟩ := own_slice HRD.out.stk
        have k4 : wr.cell? ⟨g, 4, none⟩ = some (.slice A 0 c) := blk_cell HRD.out.blk 4
        have HP : Hid (∀ X, Below wr.heap.size wr X → K (.returned (.tuple #[])) X) := Lib.hid (fun X hb => HK.out _ _ <| by
          unfold ReadPost
          rw [HEND.out]
          obtain rfl : ps = [] := HPS.out.symm
          exact ⟨rfl, ⟨o2, tv2, _, [], HRD.out.below hb, rfl⟩⟩)
        clear hn0 hlt hil
        go_upto_region 1 with (fail)
        go_quiet (fail)
        go_wp2
        go_end0
        exact HP.out _ (by repeat (with_reducible first | exact Below.refl _ _ | apply pw_below_drewN | apply Below.drew))
      | cons f r =>
        obtain ⟨P, cap, rfl, p0, p1, hcap⟩ := HRD.out.stack
        have k4 : wr.cell? ⟨g, 4, none⟩ = some (.slice (some ⟨P, 0, none⟩) (r.length + 1) cap) := blk_cell HRD.out.blk 4
        have f1 : wr.frozen? ⟨g, 1, none⟩ = false := blk_frozen HRD.out.blk 1
        have hd : r.length + 1 ≤ 100 := by have := HR.out.deep; rw [← HPS.out] at this; simpa using this
        have HX := Lib.hid (fun (nq : Nat) => (HRD.out.below (W' := wr.drewN nq) (pw_below_drewN (Below.refl _ _) _)).setAt f.at_)
        have HREF := Lib.hid (fun (nq : Nat) => refuse_c (HX.out nq) 21)
        have HP : Hid (∀ X, Below w.heap.size w X → K (endR f.at_ 21) X) := Lib.hid (fun X hb => HK.out _ _ <| by
          unfold ReadPost
          rw [HEND.out]
          obtain rfl : ps = f.pf :: r.map Fr.pf := HPS.out.symm
          exact ⟨rfl, hb⟩)
        obtain ⟨k, hk⟩ : ∃ k, r.length = k := ⟨_, rfl⟩
        rw [hk] at p0 p1 k4 hd
        obtain ⟨m, hm⟩ : ∃ m, k + 1 = m := ⟨_, rfl⟩
        rw [hm] at k4
        have y1 : decide ((0 : Int) < (m : Int)) = true := decide_eq_true (by omega)
        have y2 : decide (0 < m) = true := decide_eq_true (by omega)
        have y3 : wrap64 ((m : Int) - 1) = (k : Int) := by unfold wrap64; omega
        have y4 : (0 : Int) ≤ (k : Int) := by omega
        have y5 : (k : Int) < (m : Int) := by omega
        have hmk : m - 1 = k := by omega
        rw [← hmk] at p0 p1
        clear hmk
        go_upto_region 1 with (fail)
        go_quiet (fail)
        go_wp2_with fail
        refine (HREF.out nq).mono ?_
        rintro e W9 ⟨rfl, n9, rfl⟩
        refine ⟨rfl, ?_⟩
        exact HP.out _ (pw_below_drewN (HX.out nq).bel _)
end
end Go.Proofs.YtipnlgmeonepfaaGreatDoor.PFa
