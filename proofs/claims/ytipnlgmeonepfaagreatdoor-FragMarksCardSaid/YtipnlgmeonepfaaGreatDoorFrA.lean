/- What lies in memory while fragments are read. -/
import Derived.Test.YtipnlgmeonepfaaGreatDoorPFax0
import Derived.Test.YtipnlgmeonepfaaGreatDoorLxIter
import Derived.Deep.QuietTactic
import Derived.BigQuiet
import Derived.BigRegion
import Derived.WalkLawsBesides
import Derived.Maps.OwnSet
import Derived.Maps.Views
import Derived.StringKeys
import Derived.Recover
import Derived.RecoverIn
import Derived.RegionIn
import Derived.Deep.RegionHeldLaw
import Derived.Deep.AppendLies
set_option linter.unusedVariables false
set_option linter.unusedSimpArgs false
namespace Go.Proofs.YtipnlgmeonepfaaGreatDoor.PFa
open Go.RowKit Go.Proofs.YtipnlgmeonepfaaGreatDoorW.PrintWords Go.Proofs.YtipnlgmeonepfaaGreatDoorW.PrintLast Go.Proofs.YtipnlgmeonepfaaGreatDoorW.PrintMore
open Go.Proofs.YtipnlgmeonepfaaGreatDoor.Lx (Kp)

abbrev Tk := S39
abbrev Fg := S49
/-- A group that is being read: its block, the token that opened it, where that stands, the slice of what lies in it, and what lies in it. -/
structure Fr where
  blk : Nat
  tok : Tk
  at_ : Nat
  kv : Value
  kids : List Fg
/-- The same without memory. -/
structure PF where
  tok : Tk
  at_ : Nat
  kids : List Fg
def Fr.pf (f : Fr) : PF := ⟨f.tok, f.at_, f.kids⟩
def stCells : List Fr → List Value
  | [] => []
  | f :: l => stCells l ++ [.pointer (some ⟨f.blk, 0, none⟩), .int .i64 f.at_]
theorem stCells_len : ∀ l : List Fr, (stCells l).length = l.length * 2
  | [] => rfl
  | f :: l => by simp [stCells, stCells_len l]; omega
def frCells (t : Tk) (v : Value) : Array Value := #[.int .i64 t.f0, .int .i64 t.f1, .string t.f2, .int .i64 t.f3, .int .i64 t.f4, .string t.f2, v]
def curA (g : Nat) : List Fr → Addr | [] => ⟨g, 3, none⟩ | f :: _ => ⟨f.blk, 6, none⟩
def curV (tv : Value) : List Fr → Value | [] => tv | f :: _ => f.kv
def curL (top : List Fg) : List Fr → List Fg | [] => top | f :: _ => f.kids
def curO : List Fr → Nat | [] => 1 | f :: _ => f.blk + 3
def addT (top : List Fg) (x : Fg) {α : Type} : List α → List Fg | [] => top ++ [x] | _ => top
def addP (x : Fg) : List PF → List PF | [] => [] | f :: r => { f with kids := f.kids ++ [x] } :: r

structure Rd (w : World) (g : Nat) (A0 : Option Addr) (c0 : Nat) (l : List Tk) (A1 : Option Addr) (c1 : Nat) (ws : List ByteArray) (o : Nat → Nat) (at_ : Nat) (tv : Value) (top : List Fg) (sv : Value) (fs : List Fr) (W : World) : Prop where
  blk : W.heap[g]? = some (.cells #[.slice A0 l.length c0, .int .i64 at_, .slice A1 ws.length c1, tv, sv] 71 (0, 0))
  og : o g = 0
  top : k49.R 49 W w.heap.size (fun k => o k = 1) tv top
  stk : W.ownsRow w.heap.size 107 2 sv fs.length (stCells fs)
  so : ∀ k, sv.ownBlock = some k → o k = 2
  frs : ∀ f ∈ fs, W.heap[f.blk]? = some (.cells (frCells f.tok f.kv) 49 (0, 0)) ∧ o f.blk = 0 ∧ k49.R 49 W w.heap.size (fun k => o k = f.blk + 3) f.kv f.kids
  nd : fs.Pairwise (fun a b => a.blk ≠ b.blk)
  bel : Below w.heap.size w W
  hg : w.heap.size ≤ g
  fb : ∀ f ∈ fs, w.heap.size ≤ f.blk
/-- The reader, what it has read, and what is open. -/
def RdAt (w : World) (g : Nat) (A0 : Option Addr) (c0 : Nat) (l : List Tk) (A1 : Option Addr) (c1 : Nat) (ws : List ByteArray) (at_ : Nat) (top : List Fg) (ps : List PF) (W : World) : Prop :=
  ∃ o tv sv fs, Rd w g A0 c0 l A1 c1 ws o at_ tv top sv fs W ∧ fs.map Fr.pf = ps
/-- The same, and blocks (Z) that nothing of it lies in. -/
def RdZ (w : World) (g : Nat) (A0 : Option Addr) (c0 : Nat) (l : List Tk) (A1 : Option Addr) (c1 : Nat) (ws : List ByteArray) (at_ : Nat) (top : List Fg) (ps : List PF) (Z : Nat → Prop) (W : World) : Prop :=
  ∃ o tv sv fs, Rd w g A0 c0 l A1 c1 ws o at_ tv top sv fs W ∧ fs.map Fr.pf = ps ∧ ∀ k, Z k → o k = 0 ∧ k ≠ g ∧ ∀ f ∈ fs, k ≠ f.blk
section
variable {w W W' : World} {g : Nat} {A0 : Option Addr} {c0 : Nat} {l : List Tk} {A1 : Option Addr} {c1 : Nat} {ws : List ByteArray} {o : Nat → Nat} {at_ : Nat} {tv : Value} {top : List Fg} {sv : Value} {fs : List Fr} {ps : List PF}
theorem Rd.below (h : Rd w g A0 c0 l A1 c1 ws o at_ tv top sv fs W) (hb : Below W.heap.size W W') : Rd w g A0 c0 l A1 c1 ws o at_ tv top sv fs W' :=
  ⟨blk_below h.blk hb, h.og, Kd.R_below h.top hb, pw_own_below h.stk hb, h.so, fun f hf => ⟨blk_below (h.frs f hf).1 hb, (h.frs f hf).2.1, Kd.R_below (h.frs f hf).2.2 hb⟩, h.nd, h.bel.trans (hb.mono h.bel.size), h.hg, h.fb⟩
theorem RdAt.below (h : RdAt w g A0 c0 l A1 c1 ws at_ top ps W) (hb : Below W.heap.size W W') : RdAt w g A0 c0 l A1 c1 ws at_ top ps W' := by
  obtain ⟨o, tv, sv, fs, h, e⟩ := h
  exact ⟨o, tv, sv, fs, h.below hb, e⟩
theorem RdAt.bel (h : RdAt w g A0 c0 l A1 c1 ws at_ top ps W) : Below w.heap.size w W := by
  obtain ⟨o, tv, sv, fs, h, e⟩ := h
  exact h.bel
/-- A row that gets one element more, while what S says (and nothing of its own but the row itself) may turn. -/
theorem R_added {α : Type} {d : Kd α} {e base : Nat} {ok ok' okp S : Nat → Prop} {W w1 : World} {v v1 : Value} {xs : List α} {p : α} {inner cs : List Value} (h0 : ∀ k, v.ownBlock = some k → ok' k) (hr : Reps (d.M W base (fun k => ok k ∧ some k ≠ v.ownBlock)) d.sz xs inner) (hok : ∀ k, k < W.heap.size → ok k → ok' k)
    (hp : d.M W base okp p cs) (hokp : ∀ k, k < W.heap.size → okp k → ok' k ∧ some k ≠ v.ownBlock) (hfresh : ∀ k, W.heap.size ≤ k → ok' k)
    (hown : w1.ownsRow base e d.sz v1 (xs.length + 1) (inner ++ cs)) (hg : Kp S W w1) (hS : ∀ k, k < W.heap.size → ok' k → some k ≠ v.ownBlock → ¬ S k) (hat : v1.ownBlock = v.ownBlock ∨ ∃ b, v1.ownBlock = some b ∧ W.heap.size ≤ b) : d.R e w1 base ok' v1 (xs ++ [p]) := by
  have hne : ∀ k, some k ≠ v.ownBlock → k < W.heap.size → some k ≠ v1.ownBlock := by
    intro k hk hlt
    rcases hat with hat | ⟨b, hb, hle⟩
    · rw [hat]; exact hk
    · rw [hb]
      intro he
      injection he with he
      omega
  have step : ∀ {q : α} {c : List Value} {o : Nat → Prop}, d.M W base o q c → (∀ k, k < W.heap.size → o k → ok' k ∧ some k ≠ v.ownBlock) → d.M w1 base (fun k => ok' k ∧ some k ≠ v1.ownBlock) q c := by
    intro q c o hq ho
    have h1 := d.M_move (w1 := w1) (fun k hk => hg.block k hk.2.2.1 (hS k hk.2.2.1 (ho k hk.2.2.1 hk.1).1 (ho k hk.2.2.1 hk.1).2)) (d.M_bound hq)
    exact d.M_mono (fun k hk => ⟨(ho k hk.2.2.1 hk.1).1, hne k (ho k hk.2.2.1 hk.1).2 hk.2.2.1⟩) h1
  refine ⟨fun k hk => ?_, inner ++ cs, by rw [List.length_append, List.length_singleton]; exact hown, ?_⟩
  · rcases hat with hat | ⟨b, hb, hle⟩
    · exact h0 k (hat ▸ hk)
    · rw [hb] at hk
      injection hk with hk
      exact hfresh k (by omega)
  · exact (hr.imp_ (fun _ _ hq => step hq (fun k hlt hk => ⟨hok k hlt hk.1, hk.2⟩))).snoc (step hp hokp) (d.K_len (d.K_of_M hp))
theorem Rd.curR (h : Rd w g A0 c0 l A1 c1 ws o at_ tv top sv fs W) : k49.R 49 W w.heap.size (fun k => o k = curO fs) (curV tv fs) (curL top fs) := by
  cases fs with
  | nil => exact h.top
  | cons f r => exact (h.frs f List.mem_cons_self).2.2
/-- A row of another owner lies as it lay. -/
theorem R_aside {ok okx : Nat → Prop} {z z' : Nat} {v : Value} {xs : List Fg} {S : Nat → Prop} {o' : Nat → Nat} (h : k49.R 49 W w.heap.size (fun k => o k = z) v xs) (hk : Kp S W W') (hS : ∀ k, k < W.heap.size → o k = z → ¬ S k) (ho : ∀ k, k < W.heap.size → o k = z → o' k = z) : k49.R 49 W' w.heap.size (fun k => o' k = z) v xs :=
  Kd.R_mono (Kd.R_move (Kd.R_bound h) (fun k hk2 => hk.block k hk2.2.2.1 (hS k hk2.2.2.1 hk2.1))) (fun k hk2 => ho k hk2.2.2.1 hk2.1)
open Classical in
theorem Rd.add (h : Rd w g A0 c0 l A1 c1 ws o at_ tv top sv fs W) {x : Fg} {cs inner : List Value} {okx : Nat → Prop} {v1 : Value}
    (hin : Reps (k49.M W w.heap.size (fun k => o k = curO fs ∧ some k ≠ (curV tv fs).ownBlock)) 7 (curL top fs) inner)
    (hx : k49.M W w.heap.size okx x cs) (hokx : ∀ k, okx k → o k ≠ 0 ∧ o k ≠ 1 ∧ o k ≠ 2 ∧ ∀ f ∈ fs, o k ≠ f.blk + 3)
    (hown : W'.ownsRow w.heap.size 49 7 v1 ((curL top fs).length + 1) (inner ++ cs))
    (hk : Kp (fun k => k = (curA g fs).block ∨ some k = (curV tv fs).ownBlock) W W')
    (hat : v1.ownBlock = (curV tv fs).ownBlock ∨ ∃ b, v1.ownBlock = some b ∧ W.heap.size ≤ b)
    {Z : Nat → Prop} (hZ : ∀ k, Z k → k < W.heap.size ∧ o k = 0 ∧ k ≠ g ∧ ∀ f ∈ fs, k ≠ f.blk)
    (hcur : ∀ o, W.heap[(curA g fs).block]? = some o → W'.heap[(curA g fs).block]? = some (match o with | .cells c t f => .cells (c.setIfInBounds (curA g fs).off v1) t f | _ => o)) :
    RdZ w g A0 c0 l A1 c1 ws at_ (addT top x fs) (addP x (fs.map Fr.pf)) Z W' := by
  obtain ⟨o', ho'⟩ : ∃ o' : Nat → Nat, ∀ k, o' k = if k < W.heap.size then (if okx k then curO fs else o k) else curO fs := ⟨_, fun _ => rfl⟩
  have hold : ∀ k z, k < W.heap.size → o k = z → (z = 0 ∨ z = 1 ∨ z = 2 ∨ ∃ f ∈ fs, z = f.blk + 3) → o' k = z := by
    intro k z hlt hz hc
    rw [ho', if_pos hlt, if_neg, hz]
    intro hx'
    obtain ⟨h1, h2, h3, h4⟩ := hokx k hx'
    rcases hc with rfl | rfl | rfl | ⟨f, hf, rfl⟩
    · exact h1 hz
    · exact h2 hz
    · exact h3 hz
    · exact h4 f hf hz
  have hcO : curO fs = 1 ∨ ∃ f ∈ fs, curO fs = f.blk + 3 := by
    cases fs with
    | nil => exact .inl rfl
    | cons f r => exact .inr ⟨f, List.mem_cons_self, rfl⟩
  have hvO : ∀ k, (curV tv fs).ownBlock = some k → o k = curO fs := h.curR.1
  have hcb : o (curA g fs).block = 0 := by
    cases fs with
    | nil => exact h.og
    | cons f r => exact (h.frs f List.mem_cons_self).2.1
  have hnS : ∀ k z, o k = z → z ≠ 0 → z ≠ curO fs → ¬ (k = (curA g fs).block ∨ some k = (curV tv fs).ownBlock) := by
    rintro k z hz h0 h1 (rfl | h2)
    · exact h0 (hz.symm.trans hcb)
    · exact h1 (hz.symm.trans (hvO k h2.symm))
  have hcO0 : curO fs ≠ 0 := by
    cases fs <;> simp [curO]
  have hnew : k49.R 49 W' w.heap.size (fun k => o' k = curO fs) v1 (curL top fs ++ [x]) := by
    have hsz : k49.sz = 7 := rfl
    refine R_added (S := fun k => k = (curA g fs).block ∨ some k = (curV tv fs).ownBlock) (ok := fun k => o k = curO fs) (okp := okx) ?_ hin ?_ hx ?_ ?_ hown hk ?_ hat
    · intro k hk2
      have := Kd.R_lt h.curR k hk2
      rw [ho', if_pos this, hvO k hk2]
      split <;> rfl
    · intro k hlt hk2
      rw [ho', if_pos hlt, hk2]
      split <;> rfl
    · intro k hlt hk2
      refine ⟨by rw [ho', if_pos hlt, if_pos hk2], fun e => ?_⟩
      have e1 := hvO k e.symm
      obtain ⟨h1, h2, h3, h4⟩ := hokx k hk2
      rcases hcO with hc | ⟨f, hf, hc⟩
      · exact h2 (e1.trans hc)
      · exact h4 f hf (e1.trans hc)
    · intro k hge
      rw [ho', if_neg (by omega)]
    · rintro k hlt hk2 hne (rfl | h2)
      · rw [ho', if_pos hlt] at hk2
        split at hk2
        · rename_i hx'
          exact (hokx _ hx').1 hcb
        · exact hcO0 (hk2.symm.trans hcb)
      · exact hne h2
  have hgb : g < W.heap.size := blk_lt h.blk
  have hbel : Below w.heap.size w W' := Kp.below h.bel hk (by
    rintro k (rfl | h2)
    · cases fs with
      | nil => exact h.hg
      | cons f r => exact h.fb f List.mem_cons_self
    · exact Kd.R_base h.curR k h2.symm) h.bel.size
  have hso : ∀ k, sv.ownBlock = some k → o' k = 2 := fun k hk2 => hold k 2 (own_lt h.stk k hk2) (h.so k hk2) (.inr (.inr (.inl rfl)))
  have hstk : W'.ownsRow w.heap.size 107 2 sv fs.length (stCells fs) := own_move h.stk (fun k hk2 => hk.block k (own_lt h.stk k hk2) (hnS k 2 (h.so k hk2) (by decide) (by
    rcases hcO with hc | ⟨f, hf, hc⟩ <;> rw [hc] <;> omega)))
  cases fs with
  | nil =>
    refine ⟨o', v1, sv, [], ⟨?_, hold g 0 hgb h.og (.inl rfl), hnew, hstk, hso, fun f hf => absurd hf (by simp), List.Pairwise.nil, hbel, h.hg, fun f hf => absurd hf (by simp)⟩, rfl, fun k hz => ⟨hold k 0 (hZ k hz).1 (hZ k hz).2.1 (.inl rfl), (hZ k hz).2.2.1, fun f hf => absurd hf (by simp)⟩⟩
    exact hcur _ h.blk
  | cons f r =>
    have hff := h.frs f List.mem_cons_self
    have hndf : ∀ f' ∈ r, f.blk ≠ f'.blk := (List.pairwise_cons.1 h.nd).1
    have hgf : g ≠ f.blk := by
      intro e
      have h1 := h.blk
      rw [e, hff.1] at h1
      injection h1 with h1
      injection h1 with _ h2 _
      exact absurd h2 (by decide)
    refine ⟨o', tv, sv, { f with kv := v1, kids := f.kids ++ [x] } :: r, ⟨?_, hold g 0 hgb h.og (.inl rfl), ?_, hstk, hso, ?_, ?_, hbel, h.hg, ?_⟩, rfl, fun k hz => ⟨hold k 0 (hZ k hz).1 (hZ k hz).2.1 (.inl rfl), (hZ k hz).2.2.1, fun f' hf' => ?_⟩⟩
    · exact hk.blk h.blk (by
        rintro (h1 | h2)
        · exact hgf h1
        · exact hcO0 ((hvO g h2.symm).symm.trans h.og))
    · exact R_aside (ok := fun _ => True) (okx := okx) (z' := 0) h.top hk (fun k _ hz => hnS k 1 hz (by decide) (by simp only [curO]; omega)) (fun k hlt hz => hold k 1 hlt hz (.inr (.inl rfl)))
    · intro f' hf'
      rcases List.mem_cons.1 hf' with rfl | hf'
      · refine ⟨?_, hold f.blk 0 (blk_lt hff.1) hff.2.1 (.inl rfl), hnew⟩
        exact hcur _ hff.1
      · have hf2 := h.frs f' (List.mem_cons_of_mem _ hf')
        refine ⟨hk.blk hf2.1 ?_, hold f'.blk 0 (blk_lt hf2.1) hf2.2.1 (.inl rfl), ?_⟩
        · rintro (h1 | h2)
          · exact hndf f' hf' h1.symm
          · exact hcO0 ((hvO _ h2.symm).symm.trans hf2.2.1)
        · exact R_aside (ok := fun _ => True) (okx := okx) (z' := 0) hf2.2.2 hk (fun k _ hz => hnS k _ hz (by omega) (by
            have := hndf f' hf'
            simp only [curO]
            omega)) (fun k hlt hz => hold k _ hlt hz (.inr (.inr (.inr ⟨f', List.mem_cons_of_mem _ hf', rfl⟩))))
    · exact List.pairwise_cons.2 ⟨hndf, (List.pairwise_cons.1 h.nd).2⟩
    · intro f' hf'
      rcases List.mem_cons.1 hf' with rfl | hf'
      · exact h.fb f List.mem_cons_self
      · exact h.fb f' (List.mem_cons_of_mem _ hf')
    · rcases List.mem_cons.1 hf' with rfl | hf'
      · exact (hZ k hz).2.2.2 f List.mem_cons_self
      · exact (hZ k hz).2.2.2 f' (List.mem_cons_of_mem _ hf')
theorem RdZ.at {Z : Nat → Prop} (h : RdZ w g A0 c0 l A1 c1 ws at_ top ps Z W) : RdAt w g A0 c0 l A1 c1 ws at_ top ps W := by
  obtain ⟨o, tv, sv, fs, h, e, _⟩ := h
  exact ⟨o, tv, sv, fs, h, e⟩
/-- What is not ours may be written. -/
theorem RdZ.far {Z : Nat → Prop} (h : RdZ w g A0 c0 l A1 c1 ws at_ top ps Z W) {b : Nat} (hb : Z b) (hw : w.heap.size ≤ b) (i : Nat) (u : Value) : RdZ w g A0 c0 l A1 c1 ws at_ top ps Z (W.setCell ⟨b, i, none⟩ u) := by
  obtain ⟨o, tv, sv, fs, h, e, hz⟩ := h
  obtain ⟨h1, h2, h3⟩ := hz b hb
  have hne : ∀ k z, o k = z → z ≠ 0 → k ≠ b := by
    rintro k z hk hz rfl
    exact hz (hk.symm.trans h1)
  refine ⟨o, tv, sv, fs, ⟨blk_far h.blk (Ne.symm h2) _, h.og, Kd.R_far h.top (fun k hk => hne k 1 hk (by decide)) u, own_setCell h.stk (fun e => hne b 2 (h.so b e.symm) (by decide) rfl) u, h.so, fun f hf => ⟨blk_far (h.frs f hf).1 (Ne.symm (h3 f hf)) _, (h.frs f hf).2.1, Kd.R_far (h.frs f hf).2.2 (fun k hk => hne k _ hk (by omega)) u⟩, h.nd, h.bel.setCell hw u, h.hg, h.fb⟩, e, hz⟩
/-- New blocks are nobody's. -/
theorem Rd.clip (h : Rd w g A0 c0 l A1 c1 ws o at_ tv top sv fs W) : ∃ o', Rd w g A0 c0 l A1 c1 ws o' at_ tv top sv fs W ∧ (∀ k, W.heap.size ≤ k → o' k = 0) ∧ ∀ k, k < W.heap.size → o' k = o k := by
  obtain ⟨o', ho'⟩ : ∃ o' : Nat → Nat, ∀ k, o' k = if k < W.heap.size then o k else 0 := ⟨_, fun _ => rfl⟩
  have hold : ∀ k, k < W.heap.size → o' k = o k := fun k hk => by rw [ho', if_pos hk]
  have hR : ∀ {z : Nat} {v : Value} {xs : List Fg}, k49.R 49 W w.heap.size (fun k => o k = z) v xs → k49.R 49 W w.heap.size (fun k => o' k = z) v xs := fun h => Kd.R_mono (Kd.R_bound h) (fun k hk => (hold k hk.2.2.1).trans hk.1)
  exact ⟨o', ⟨h.blk, (hold g (blk_lt h.blk)).trans h.og, hR h.top, h.stk, fun k hk => (hold k (own_lt h.stk k hk)).trans (h.so k hk), fun f hf => ⟨(h.frs f hf).1, (hold _ (blk_lt (h.frs f hf).1)).trans (h.frs f hf).2.1, hR (h.frs f hf).2.2⟩, h.nd, h.bel, h.hg, h.fb⟩, fun k hk => by rw [ho', if_neg (by omega)], hold⟩
theorem RdZ.mono {Z Z' : Nat → Prop} (h : RdZ w g A0 c0 l A1 c1 ws at_ top ps Z W) (hz : ∀ k, Z' k → Z k) : RdZ w g A0 c0 l A1 c1 ws at_ top ps Z' W := by
  obtain ⟨o, tv, sv, fs, h, e, h3⟩ := h
  exact ⟨o, tv, sv, fs, h, e, fun k hk => h3 k (hz k hk)⟩
theorem RdZ.below {Z : Nat → Prop} (h : RdZ w g A0 c0 l A1 c1 ws at_ top ps Z W) (hb : Below W.heap.size W W') : RdZ w g A0 c0 l A1 c1 ws at_ top ps Z W' := by
  obtain ⟨o, tv, sv, fs, h, e, h3⟩ := h
  exact ⟨o, tv, sv, fs, h.below hb, e, h3⟩
/-- A new block is not ours. -/
theorem RdZ.alloc {Z : Nat → Prop} (h : RdZ w g A0 c0 l A1 c1 ws at_ top ps Z W) (hz : ∀ k, Z k → k < W.heap.size) (ob : Obj) : RdZ w g A0 c0 l A1 c1 ws at_ top ps (fun k => Z k ∨ k = W.heap.size) (W.alloc ob) := by
  obtain ⟨o, tv, sv, fs, h, e, h3⟩ := h
  obtain ⟨o', h', hc, hco⟩ := h.clip
  refine ⟨o', tv, sv, fs, h'.below (below_alloc (Below.refl _ _) _), e, fun k hk => ?_⟩
  rcases hk with hk | rfl
  · exact ⟨(hco k (hz k hk)).trans (h3 k hk).1, (h3 k hk).2⟩
  · refine ⟨hc _ (Nat.le_refl _), ?_, fun f hf => ?_⟩
    · have := blk_lt h.blk
      omega
    · have := blk_lt (h.frs f hf).1
      omega
end
end Go.Proofs.YtipnlgmeonepfaaGreatDoor.PFa

set_option linter.unusedVariables false
set_option linter.unusedSimpArgs false
namespace Go.Proofs.YtipnlgmeonepfaaGreatDoor.PFa
open Go.RowKit Go.Proofs.YtipnlgmeonepfaaGreatDoorW.PrintWords Go.Proofs.YtipnlgmeonepfaaGreatDoorW.PrintLast Go.Proofs.YtipnlgmeonepfaaGreatDoorW.PrintMore
open Go.Proofs.YtipnlgmeonepfaaGreatDoor.Lx (Kp)
section
variable {w W W' : World} {g : Nat} {A0 : Option Addr} {c0 : Nat} {l : List Tk} {A1 : Option Addr} {c1 : Nat} {ws : List ByteArray} {o : Nat → Nat} {at_ : Nat} {tv : Value} {top : List Fg} {sv : Value} {fs : List Fr} {ps : List PF}
/-- The stack's row, where something is open. -/
theorem Rd.stack {f : Fr} {r : List Fr} (h : Rd w g A0 c0 l A1 c1 ws o at_ tv top sv (f :: r) W) : ∃ P cap, sv = .slice (some ⟨P, 0, none⟩) (r.length + 1) cap ∧ W.cell? ⟨P, r.length * 2, none⟩ = some (.pointer (some ⟨f.blk, 0, none⟩)) ∧ W.cell? ⟨P, r.length * 2 + 1, none⟩ = some (.int .i64 f.at_) ∧ r.length + 1 ≤ cap := by
  have hs := h.stk
  rw [List.length_cons] at hs
  obtain ⟨P, cap, rfl, _, _⟩ := hs.form (by omega)
  have hcell : ∀ j u, (stCells (f :: r))[j]? = some u → W.cell? ⟨P, j, none⟩ = some u := fun j u hu => by
    have := hs.cells (g := P) rfl j u hu
    have hadd : (⟨P, 0, none⟩ : Addr).add j = ⟨P, j, none⟩ := by unfold Addr.add; split <;> simp_all
    rw [hadd] at this
    exact this
  refine ⟨P, cap, rfl, hcell _ _ ?_, hcell _ _ ?_, own_le hs⟩
  · simp [stCells, List.getElem?_append, stCells_len]
  · simp [stCells, List.getElem?_append, stCells_len]
set_option maxHeartbeats 1600000 in
theorem kids_c (h : Rd w g A0 c0 l A1 c1 ws o at_ tv top sv fs W) (hn : fs.length ≤ 100) : Calls Tryz.prog 106 #[.pointer (some ⟨g, 0, none⟩)] W fun e W' => e = .returned (.pointer (some (curA g fs))) ∧ Drawn0 W W' := by
  have hb := Lib.hid h.blk
  cases fs with
  | nil =>
    obtain ⟨A, c, rfl⟩ := own_slice h.stk
    have c4 : W.cell? ⟨g, 4, none⟩ = some (.slice A 0 c) := blk_cell hb.out 4
    clear h
    go_enter Tryz.func106, Tryz.ntmps106
    go_wp2
    go_ret
    exact ⟨rfl, Drawn0.refl _⟩
  | cons f r =>
    obtain ⟨P, cap, rfl, p0, _, _⟩ := h.stack
    have hn1 : r.length + 1 ≤ 100 := hn
    obtain ⟨k, hk⟩ : ∃ k, r.length = k := ⟨_, rfl⟩
    rw [hk] at p0 hb hn1
    obtain ⟨m, hm⟩ : ∃ m, k + 1 = m := ⟨_, rfl⟩
    rw [hm] at hb
    have c4 : W.cell? ⟨g, 4, none⟩ = some (.slice (some ⟨P, 0, none⟩) m cap) := blk_cell hb.out 4
    have x1 : ((m : Int) == 0) = false := by rw [beq_eq_false_iff_ne]; omega
    have x2 : IntKind.i64.wrap ((m : Int) - 1) = (k : Int) := by rw [IntWalk.i64_in _ (by omega)]; omega
    have x3 : (0 : Int) ≤ (k : Int) := by omega
    have x4 : (k : Int) < (m : Int) := by omega
    clear h hk hm hn
    go_enter Tryz.func106, Tryz.ntmps106
    go_wp2
    go_quiet (fail)
    go_wp2
    go_ret
    exact ⟨rfl, ⟨_, rfl⟩⟩
def refV (at_ : Nat) (e : Int) : Value := .iface 73 (.agg #[.int .i64 at_, .int .i64 e])
def endR (at_ : Nat) (e : Int) : Ending := .panicked [{ v := refV at_ e, recovered := false }]
set_option maxHeartbeats 1600000 in
theorem refuse_c (h : Rd w g A0 c0 l A1 c1 ws o at_ tv top sv fs W) (er : Int) : Calls Tryz.prog 79 #[.pointer (some ⟨g, 0, none⟩), .int .i64 er] W fun e W' => e = endR at_ er ∧ Drawn0 W W' := by
  have hb := Lib.hid h.blk
  have c1 : W.cell? ⟨g, 1, none⟩ = some (.int .i64 at_) := blk_cell hb.out 1
  clear h
  go_enter Tryz.func79, Tryz.ntmps79
  go_wp2
  exact ⟨rfl, rfl, Drawn0.refl _⟩
def tkAt (l : List Tk) (i : Nat) : Tk := rd_T39 l i
/-- Is the token at i the name s? -/
def isNm (l : List Tk) (i : Nat) (s : ByteArray) : Bool := decide (i < l.length) && ((tkAt l i).f0 == 1) && ((tkAt l i).f2.toList == s.toList)
set_option maxHeartbeats 3200000 in
set_option maxRecDepth 100000 in
theorem isName_c (h : Rd w g A0 c0 l A1 c1 ws o at_ tv top sv fs W) (hC : Kd.C k39 w A0 l.length l) (hl : l.length ≤ 6000) (i : Nat) (s : ByteArray) : Calls Tryz.prog 76 #[.pointer (some ⟨g, 0, none⟩), .int .i64 i, .string s] W fun e W' => e = .returned (.bool (isNm l i s)) ∧ Drawn0 W W' := by
  have hb := Lib.hid h.blk
  have k0 : W.cell? ⟨g, 0, none⟩ = some (.slice A0 l.length c0) := blk_cell hb.out 0
  by_cases hi : i < l.length
  · obtain ⟨ad, had, t0, t1, t2, t3, t4⟩ := at_T39 (Kd.C_below hC h.bel) (i : Int) (by omega) (by omega)
    subst had
    have x1 : decide (i < l.length) = true := decide_eq_true hi
    have x2 : (0 : Int) ≤ (i : Int) := by omega
    have x3 : (i : Int) < (l.length : Int) := by omega
    obtain ⟨T, hT⟩ : ∃ T, rd_T39 l (i : Int) = T := ⟨_, rfl⟩
    have HR : Hid (isNm l i s = ((T.f0 == 1) && (T.f2.toList == s.toList))) := Lib.hid (by unfold isNm tkAt; rw [hT, decide_eq_true hi, Bool.true_and])
    rw [hT] at t0 t1 t2 t3 t4
    simp only [Int.toNat_natCast] at t0 t2
    clear hT t1 t3 t4 h hb
    by_cases hk : T.f0 = 1
    · have x4 : (T.f0 == 1) = true := beq_iff_eq.2 hk
      rw [HR.out, x4, Bool.true_and]
      clear hk HR
      go_enter Tryz.func76, Tryz.ntmps76
      go_wp2
      go_ret
      exact ⟨rfl, Drawn0.refl _⟩
    · have x4 : (T.f0 == 1) = false := beq_eq_false_iff_ne.2 hk
      rw [HR.out, x4, Bool.false_and]
      clear hk HR
      go_enter Tryz.func76, Tryz.ntmps76
      go_wp2
      go_ret
      exact ⟨rfl, Drawn0.refl _⟩
  · have x1 : decide (i < l.length) = false := decide_eq_false hi
    have HR : isNm l i s = false := by unfold isNm; rw [decide_eq_false hi]; rfl
    rw [HR]
    clear HR h hb hi
    go_enter Tryz.func76, Tryz.ntmps76
    go_wp2
    go_ret
    exact ⟨rfl, Drawn0.refl _⟩
/-- Is the token at hand the name of the macro that the one ahead of it has opened? -/
def nmd (at_ : Nat) : List PF → Bool
  | [] => false
  | p :: _ => (p.tok.f2.toList == (⟨#[109, 97, 99, 114, 111]⟩ : ByteArray).toList) && ((p.at_ : Int) == (at_ : Int) - 1)
end
end Go.Proofs.YtipnlgmeonepfaaGreatDoor.PFa

set_option linter.unusedVariables false
set_option linter.unusedSimpArgs false
namespace Go.Proofs.YtipnlgmeonepfaaGreatDoor.PFa
open Go.RowKit Go.Proofs.YtipnlgmeonepfaaGreatDoorW.PrintWords Go.Proofs.YtipnlgmeonepfaaGreatDoorW.PrintLast Go.Proofs.YtipnlgmeonepfaaGreatDoorW.PrintMore
/-- The act as a value: begin (true) or close (false) of the reader in block g. -/
def actV (g : Nat) (x : Bool) : Value := .func (.func (if x then 104 else 105)) #[.pointer (some ⟨g, 0, none⟩)] #[]
/-- How an act reads: as a Boolean; anything else as nothing. -/
noncomputable def actElem (g : Nat) (v : Value) : Option (DataW Unit × List MemPlace) :=
  open Classical in if v = actV g true then some (.lit (.bool true), []) else if v = actV g false then some (.lit (.bool false), []) else some (.agg [], [])
theorem actV_ne (g : Nat) : actV g false ≠ actV g true := by
  intro e
  unfold actV at e
  injection e with e
  exact absurd e (by decide)
theorem actElem_act (g : Nat) (x : Bool) : actElem g (actV g x) = some (.lit (.bool x), []) := by
  unfold actElem
  cases x with
  | true => rw [if_pos rfl]
  | false => rw [if_neg (actV_ne g), if_pos rfl]
theorem actElem_inv {g : Nat} {v : Value} {x : Bool} {ps : List MemPlace} (h : actElem g v = some (.lit (.bool x), ps)) : v = actV g x := by
  unfold actElem at h
  split at h
  · rename_i e
    injection h with h
    injection h with h _
    injection h with h
    injection h with h
    rw [e, h]
  · split at h
    · rename_i e
      injection h with h
      injection h with h _
      injection h with h
      injection h with h
      rw [e, h]
    · injection h with h
      injection h with h _
      exact absurd h (by intro e; cases e)
theorem actElem_nil (g : Nat) : actElem g .nilFunc = some (.agg [], []) := by
  unfold actElem
  rw [if_neg (by intro e; unfold actV at e; cases e), if_neg (by intro e; unfold actV at e; cases e)]
/-- The act of a text: the newest entry counts. -/
def actIn : List (ByteArray × Bool) → ByteArray → Option Bool
  | [], _ => none
  | (k, x) :: r, s => if s.data.toList = k.data.toList then some x else actIn r s
/-- The map in block b reads as this table. -/
def Acts (g b n : Nat) (tab : List (ByteArray × Bool)) (W : World) : Prop :=
  ∃ D, W.ownsMap Tryz.prog 9 (actElem g) b n D ∧ Maps.IsMap D ∧ ∀ s : ByteArray, match actIn tab s with
    | some x => Maps.has D (.string s.data.toList) = true ∧ ∀ z, D.atKey (.string s.data.toList) z = .lit (.bool x)
    | none => Maps.has D (.string s.data.toList) = false
section
variable {g b n : Nat} {tab : List (ByteArray × Bool)} {W W' : World}
theorem Acts.made (g : Nat) (W : World) : Acts g W.heap.size 0 [] (W.alloc (.map #[] 0)) :=
  ⟨_, World.ownsMap_made W _ _ _, Maps.isMap_empty, fun s => rfl⟩
theorem Acts.below (h : Acts g b n tab W) (hb : Below W.heap.size W W') : Acts g b n tab W' := by
  obtain ⟨D, h1, h2⟩ := h
  refine ⟨D, ?_, h2⟩
  have hlt := h1.lt
  obtain ⟨es, clock, hh, r⟩ := h1
  exact ⟨es, clock, (hb.block b hlt).trans hh, r⟩
theorem Acts.put (h : Acts g b n tab W) (hn : n < maxLen) {s : ByteArray} (hs : s.size ≤ maxLen) (x : Bool) :
    ∃ w', (Instr.mapUpdate 101 (.map (some b)) (.string s) (actV g x)).run Tryz.prog W = .ok () w' ∧ Acts g b (n + 1) ((s, x) :: tab) w' ∧ W.grownBy w' (some b) := by
  obtain ⟨D, h1, h2, h3⟩ := h
  obtain ⟨w', hr, hq, hg⟩ := h1.update (Maps.string_keyed Tryz.underlying9) Tryz.underlying101 hn (WideMaps.keyOf_string_mk Tryz.underlying9 hs) (actElem_act g x)
  refine ⟨w', hr, ⟨_, hq, ?_, fun u => ?_⟩, hg⟩
  · obtain ⟨es, rfl⟩ := h2
    exact ⟨_, rfl⟩
  · have hk : WideAt.IsKeyLit (.string s.data.toList) := (Maps.string_keyed Tryz.underlying9).key (WideMaps.keyOf_string_mk Tryz.underlying9 hs)
    unfold actIn
    by_cases e : u.data.toList = s.data.toList
    · rw [if_pos e, e]
      exact ⟨Maps.has_put_same h2 hk _, fun z => Maps.atKey_put_same h2 hk _ z⟩
    · rw [if_neg e]
      have hne : (Lit.string u.data.toList) ≠ .string s.data.toList := fun h => e (by injection h)
      have := h3 u
      revert this
      cases actIn tab u with
      | none => exact fun h => (Maps.has_put_other hne _).trans h
      | some x => exact fun h => ⟨(Maps.has_put_other hne _).trans h.1, fun z => (Maps.atKey_put_other hne _ z).trans (h.2 z)⟩
theorem Acts.look (h : Acts g b n tab W) {s : ByteArray} (hs : s.size ≤ maxLen) :
    ∃ v, (Instr.lookup 101 (.map (some b)) (.string s) true).run Tryz.prog W = .ok (.tuple #[v, .bool (actIn tab s).isSome]) W ∧ ∀ x, actIn tab s = some x → v = actV g x := by
  obtain ⟨D, h1, h2, h3⟩ := h
  obtain ⟨v, ps, hr, hv⟩ := h1.look_ok (Maps.string_keyed Tryz.underlying9) Tryz.underlying101 (z := .nilFunc) (by kernel_rfl) (actElem_nil g) (WideMaps.keyOf_string_mk Tryz.underlying9 hs)
  have := h3 s
  revert this
  cases actIn tab s with
  | none =>
    intro h
    exact ⟨v, by rw [hr, h]; rfl, fun x hx => absurd hx (by simp)⟩
  | some x =>
    rintro ⟨ha, hb⟩
    refine ⟨v, by rw [hr, ha]; rfl, fun y hy => ?_⟩
    have hxy : x = y := Option.some.inj hy
    rw [hb, hxy] at hv
    exact actElem_inv hv
end
end Go.Proofs.YtipnlgmeonepfaaGreatDoor.PFa

set_option linter.unusedVariables false
set_option linter.unusedSimpArgs false
namespace Go.Proofs.YtipnlgmeonepfaaGreatDoor.PFa
open Go.RowKit Go.Proofs.YtipnlgmeonepfaaGreatDoorW.PrintWords
open Go.Proofs.YtipnlgmeonepfaaGreatDoor.Lx (Kp)
attribute [local go_sem] Oper.semAt_some

set_option maxHeartbeats 3200000 in
theorem catch_idle (n : Nat) (p q r : Addr) (w : World) :
    CallsDIn Fence.wide n Tryz.prog 48 #[.pointer (some p), .pointer (some q), .pointer (some r)] .returning w fun e u' w' => e = .returned (.tuple #[]) ∧ u' = .returning ∧ w' = w := by
  refine callsDIn_of_wpSIn Tryz.func48 rfl trivial fun c₀ cs hu => ?_
  apply wpSIn_seq
  apply wpSIn_region
  simp [wpOpsSIn, go_sem, recoverD, hu, Tryz.ntmps48, Exit.thenS]
  refine wpSIn_of_wpIn rfl ?_
  gi_wp2_with fail
  exact ⟨rfl, .returning, by cases c₀; simp_all, .tuple #[], results_none rfl _ _ _, rfl, rfl, rfl⟩

theorem assert_refused (a : Value) (t : TypeId) (w : World) : (Instr.typeAssert (.iface 73 a) t 73 true).run Tryz.prog w = .ok (.tuple #[a, .bool true]) w := by
  simp [Instr.typeAssert, run_underlying Tryz.underlying73, go_sem]

set_option maxHeartbeats 3200000 in
set_option maxRecDepth 100000 in
theorem catch_refused (n : Nat) (p q r : Nat) (at_ : Nat) (er : Int) (w : World) {v0 v1 v2 : Value} (h0 : w.cell? ⟨p, 0, none⟩ = some v0) (h1 : w.cell? ⟨q, 0, none⟩ = some v1) (h2 : w.cell? ⟨r, 0, none⟩ = some v2)
    (f0 : w.frozen? ⟨p, 0, none⟩ = false) (f1 : w.frozen? ⟨q, 0, none⟩ = false) (f2 : w.frozen? ⟨r, 0, none⟩ = false) (hp : p < w.heap.size) (hq : q < w.heap.size) (hr : r < w.heap.size) (hpq : p ≠ q) (hpr : p ≠ r) (hqr : q ≠ r) :
    CallsDIn Fence.wide n Tryz.prog 48 #[.pointer (some ⟨p, 0, none⟩), .pointer (some ⟨q, 0, none⟩), .pointer (some ⟨r, 0, none⟩)] (.panicking [{ v := refV at_ er, recovered := false }]) w
      fun e u' w' => e = .returned (.tuple #[]) ∧ u' = .panicking [{ v := refV at_ er, recovered := true }] ∧
        w'.cell? ⟨p, 0, none⟩ = some (.slice none 0 0) ∧ w'.cell? ⟨q, 0, none⟩ = some (.int .i64 at_) ∧ w'.cell? ⟨r, 0, none⟩ = some (.int .i64 er) ∧ Kp (fun k => k = p ∨ k = q ∨ k = r) w w' := by
  unfold refV
  refine callsDIn_of_wpSIn Tryz.func48 rfl trivial fun c₀ cs hu => ?_
  apply wpSIn_seq
  apply wpSIn_region
  simp [wpOpsSIn, go_sem, recoverD, hu, Tryz.ntmps48, Exit.thenS]
  refine wpSIn_of_wpIn rfl ?_
  simp only [List.size_toArray, List.length_cons, List.length_nil, Nat.reduceAdd, Nat.reduceSub, Array.replicate_succ, Array.replicate_zero, List.push_toArray, List.append_toArray, List.nil_append, List.cons_append, List.setIfInBounds_toArray, List.set_cons_zero, List.set_cons_succ]
  have hta := fun a => assert_refused a 20 w
  have hu67 := Tryz.underlying73
  gi_wp2_with fail
  gi_region
  gi_wp2_with fail
  refine ⟨rfl, .panicking [{ v := .iface 73 (.agg #[.int .i64 at_, .int .i64 er]), recovered := true }], by cases c₀; simp_all, .tuple #[], results_none rfl _ _ _, rfl, rfl, ?_, ?_, ?_, ?_⟩
  · show World.cell? (((((w.setCell _ _).setCell _ _).setCell _ _).alloc _)) _ = _
    rw [World.cell?_alloc_past _ _ _ (by simpa using hp), World.cell?_setCell_far _ _ _ _ (Ne.symm hpr), World.cell?_setCell_far _ _ _ _ (Ne.symm hpq)]
    exact World.cell?_setCell_same' _ _ _ (by rw [h0]; rfl)
  · show World.cell? (((((w.setCell _ _).setCell _ _).setCell _ _).alloc _)) _ = _
    rw [World.cell?_alloc_past _ _ _ (by simpa using hq), World.cell?_setCell_far _ _ _ _ (Ne.symm hqr)]
    exact World.cell?_setCell_same' _ _ _ (by rw [World.cell?_setCell_far _ _ _ _ hpq, h1]; rfl)
  · show World.cell? (((((w.setCell _ _).setCell _ _).setCell _ _).alloc _)) _ = _
    rw [World.cell?_alloc_past _ _ _ (by simpa using hr)]
    exact World.cell?_setCell_same' _ _ _ (by rw [World.cell?_setCell_far _ _ _ _ hqr, World.cell?_setCell_far _ _ _ _ hpr, h2]; rfl)
  · exact Kp.drew (Kp.alloc (Kp.setCell (Kp.setCell (Kp.setCell (S := fun k => k = p ∨ k = q ∨ k = r) (Kp.refl _ _) (.inl (.inl rfl)) _) (.inl (.inr (.inl rfl))) _) (.inl (.inr (.inr rfl))) _) _)
end Go.Proofs.YtipnlgmeonepfaaGreatDoor.PFa

set_option linter.unusedVariables false
set_option linter.unusedSimpArgs false
namespace Go.Proofs.YtipnlgmeonepfaaGreatDoor.PFa
open Go.RowKit Go.Proofs.YtipnlgmeonepfaaGreatDoorW.PrintWords Go.Proofs.YtipnlgmeonepfaaGreatDoorW.PrintLast Go.Proofs.YtipnlgmeonepfaaGreatDoorW.PrintMore
open Go.Proofs.YtipnlgmeonepfaaGreatDoor.Lx (Kp)
theorem info_frag : (Tryz.prog.info? 49).map (fun i => (i.zero, i.size, i.bytes)) = some (some (.agg #[.int .i64 0, .int .i64 0, .string ⟨#[]⟩, .int .i64 0, .int .i64 0, .string ⟨#[]⟩, .slice none 0 0]), 7, 88) := by kernel_rfl
def zFrag : List Value := [.int .i64 0, .int .i64 0, .string ⟨#[]⟩, .int .i64 0, .int .i64 0, .string ⟨#[]⟩, .slice none 0 0]
/-- Cell by cell: what lay in W lies in W' as it lay, but for v's own row and one cell. -/
def Kc (W : World) (v : Value) (cb co : Nat) (W' : World) : Prop := W.heap.size ≤ W'.heap.size ∧ ∀ a : Addr, a.block < W.heap.size → some a.block ≠ v.ownBlock → ¬ (a.block = cb ∧ a.off = co) → W'.cell? a = W.cell? a
namespace Kc
variable {W X Y : World} {v : Value} {cb co : Nat}
theorem refl (W : World) (v : Value) (cb co : Nat) : Kc W v cb co W := ⟨Nat.le_refl _, fun _ _ _ _ => rfl⟩
theorem drew (h : Kc W v cb co X) : Kc W v cb co X.drew := h
theorem drewN (h : Kc W v cb co X) (n : Nat) : Kc W v cb co (X.drewN n) := h
theorem alloc (h : Kc W v cb co X) (o : Obj) : Kc W v cb co (X.alloc o) := ⟨by simp; have := h.1; omega, fun a ha h1 h2 => (World.cell?_of_block (w := X) (Below.heap_alloc X o a.block (by have := h.1; omega))).trans (h.2 a ha h1 h2)⟩
theorem grown (h : Kc W v cb co X) (hg : X.grownBy Y v.ownBlock) : Kc W v cb co Y := ⟨Nat.le_trans h.1 hg.size, fun a ha h1 h2 => (hg.cell_far a (by have := h.1; omega) h1).trans (h.2 a ha h1 h2)⟩
theorem setCur (h : Kc W v cb co X) (u : Value) : Kc W v cb co (X.setCell ⟨cb, co, none⟩ u) := ⟨by simpa using h.1, fun a ha h1 h2 => (World.cell?_setCell_other _ _ _ _ (fun e => by
    subst e
    exact h2 ⟨rfl, rfl⟩)).trans (h.2 a ha h1 h2)⟩
end Kc
section
variable {w W W' : World} {g : Nat} {A0 : Option Addr} {c0 : Nat} {l : List Tk} {A1 : Option Addr} {c1 : Nat} {ws : List ByteArray} {o : Nat → Nat} {at_ : Nat} {tv : Value} {top : List Fg} {sv : Value} {fs : List Fr} {ps : List PF}
/-- The cell that holds the slice of what is being read. -/
theorem Rd.cur (h : Rd w g A0 c0 l A1 c1 ws o at_ tv top sv fs W) : ∃ cb co cells ty, curA g fs = ⟨cb, co, none⟩ ∧ W.heap[cb]? = some (.cells cells ty (0, 0)) ∧ cells[co]? = some (curV tv fs) ∧ some cb ≠ (curV tv fs).ownBlock ∧ w.heap.size ≤ cb ∧ some g ≠ (curV tv fs).ownBlock ∧ ∀ i, i < 2 → ¬ (g = cb ∧ i = co) := by
  cases fs with
  | nil =>
    have hgn : some g ≠ tv.ownBlock := fun e => by
      have : o g = 1 := h.top.1 g e.symm
      rw [h.og] at this
      exact absurd this (by decide)
    exact ⟨g, 3, _, _, rfl, h.blk, rfl, hgn, h.hg, hgn, fun i hi e => by omega⟩
  | cons f r =>
    have hgn : some g ≠ f.kv.ownBlock := fun e => by
      have : o g = f.blk + 3 := (h.frs f List.mem_cons_self).2.2.1 g e.symm
      rw [h.og] at this
      omega
    have hf := h.frs f List.mem_cons_self
    refine ⟨f.blk, 6, _, _, rfl, hf.1, rfl, fun e => ?_, h.fb f List.mem_cons_self, hgn, fun i hi e => ?_⟩
    · have : o f.blk = f.blk + 3 := hf.2.2.1 f.blk e.symm
      rw [hf.2.1] at this
      omega
    · have h1 := h.blk
      rw [e.1, hf.1] at h1
      injection h1 with h1
      injection h1 with _ h2 _
      exact absurd h2 (by decide)
/-- Seven cells of a row are written, the last element's. -/
theorem own_last {B n cap g9 : Nat} {inner : List Value} {a b c d e f z a' b' c' d' e' f' z' : Value} (h : W.ownsRow B 49 7 (.slice (some ⟨g9, 0, none⟩) (n + 1) cap) (n + 1) (inner ++ [a, b, c, d, e, f, z])) (hi : inner.length = n * 7) :
    (((((((W.setCell ⟨g9, n * 7, none⟩ a').setCell ⟨g9, n * 7 + 1, none⟩ b').setCell ⟨g9, n * 7 + 2, none⟩ c').setCell ⟨g9, n * 7 + 3, none⟩ d').setCell ⟨g9, n * 7 + 4, none⟩ e').setCell ⟨g9, n * 7 + 5, none⟩ f').setCell ⟨g9, n * 7 + 6, none⟩ z').ownsRow B 49 7 (.slice (some ⟨g9, 0, none⟩) (n + 1) cap) (n + 1) (inner ++ [a', b', c', d', e', f', z']) := by
  have h7 := (((((((h.stored (n * 7) a').1.stored (n * 7 + 1) b').1.stored (n * 7 + 2) c').1.stored (n * 7 + 3) d').1.stored (n * 7 + 4) e').1.stored (n * 7 + 5) f').1.stored (n * 7 + 6) z').1
  have e1 : ((((((((inner ++ [a, b, c, d, e, f, z]).set (n * 7) a').set (n * 7 + 1) b').set (n * 7 + 2) c').set (n * 7 + 3) d').set (n * 7 + 4) e').set (n * 7 + 5) f').set (n * 7 + 6) z') = inner ++ [a', b', c', d', e', f', z'] := by
    simp [List.set_append, hi]
  rw [e1] at h7
  exact h7
theorem last_cells {B n cap g9 : Nat} {inner : List Value} {a b c d e f z : Value} (h : W.ownsRow B 49 7 (.slice (some ⟨g9, 0, none⟩) (n + 1) cap) (n + 1) (inner ++ [a, b, c, d, e, f, z])) :
    (W.cell? ⟨g9, n * 7, none⟩ = some a ∧ W.cell? ⟨g9, n * 7 + 1, none⟩ = some b ∧ W.cell? ⟨g9, n * 7 + 2, none⟩ = some c ∧ W.cell? ⟨g9, n * 7 + 3, none⟩ = some d ∧ W.cell? ⟨g9, n * 7 + 4, none⟩ = some e ∧ W.cell? ⟨g9, n * 7 + 5, none⟩ = some f ∧ W.cell? ⟨g9, n * 7 + 6, none⟩ = some z) ∧
    (W.frozen? ⟨g9, n * 7, none⟩ = false ∧ W.frozen? ⟨g9, n * 7 + 1, none⟩ = false ∧ W.frozen? ⟨g9, n * 7 + 2, none⟩ = false ∧ W.frozen? ⟨g9, n * 7 + 3, none⟩ = false ∧ W.frozen? ⟨g9, n * 7 + 4, none⟩ = false ∧ W.frozen? ⟨g9, n * 7 + 5, none⟩ = false ∧ W.frozen? ⟨g9, n * 7 + 6, none⟩ = false) := by
  have hi : inner.length = n * 7 := by
    have := h.1
    simp only [List.length_append, List.length_cons, List.length_nil] at this
    omega
  have hc : ∀ j u, j < 7 → ([a, b, c, d, e, f, z] : List Value)[j]? = some u → W.cell? ⟨g9, n * 7 + j, none⟩ = some u := fun j u hj hu => by
    rw [h.cellAt (n * 7 + j) (by omega), List.getElem?_append_right (by omega), hi, show n * 7 + j - n * 7 = j from by omega]
    exact hu
  exact ⟨⟨hc 0 _ (by omega) rfl, hc 1 _ (by omega) rfl, hc 2 _ (by omega) rfl, hc 3 _ (by omega) rfl, hc 4 _ (by omega) rfl, hc 5 _ (by omega) rfl, hc 6 _ (by omega) rfl⟩, ⟨h.frozenAt _, h.frozenAt _, h.frozenAt _, h.frozenAt _, h.frozenAt _, h.frozenAt _, h.frozenAt _⟩⟩
/-- The end of 'append and store', in either order. -/
theorem Rd.ended (h : Rd w g A0 c0 l A1 c1 ws o at_ tv top sv fs W) {cb co n c g9 cap : Nat} {A : Option Addr} {inner : List Value} {w1 W4 : World} {z : Obj} {x : Fg} {okx : Nat → Prop} {z0 z1 z2 z3 z4 z5 z6 y0 y1 y2 y3 y4 y5 y6 : Value}
    (hca : curA g fs = ⟨cb, co, none⟩) (hv : curV tv fs = .slice A n c) (hn : (curL top fs).length = n)
    (hin : Reps (k49.M W w.heap.size (fun k => o k = curO fs ∧ some k ≠ (curV tv fs).ownBlock)) 7 (curL top fs) inner)
    (hgrow : (W.alloc z).drew.grownBy w1 (Value.slice A n c).ownBlock)
    (hown1 : w1.ownsRow w.heap.size 49 7 (.slice (some ⟨g9, 0, none⟩) (n + 1) cap) (n + 1) (inner ++ [z0, z1, z2, z3, z4, z5, z6]))
    (hat9 : (Value.slice A n c).ownBlock = some g9 ∨ g9 = W.heap.size + 1)
    (hx : k49.M W w.heap.size okx x [y0, y1, y2, y3, y4, y5, y6]) (hokx : ∀ k, okx k → o k ≠ 0 ∧ o k ≠ 1 ∧ o k ≠ 2 ∧ ∀ f ∈ fs, o k ≠ f.blk + 3)
    {Z : Nat → Prop} (hZ : ∀ k, Z k → k < W.heap.size ∧ o k = 0 ∧ k ≠ g ∧ ∀ f ∈ fs, k ≠ f.blk)
    (hW4 : W4 = (((((((w1.setCell ⟨g9, n * 7, none⟩ y0).setCell ⟨g9, n * 7 + 1, none⟩ y1).setCell ⟨g9, n * 7 + 2, none⟩ y2).setCell ⟨g9, n * 7 + 3, none⟩ y3).setCell ⟨g9, n * 7 + 4, none⟩ y4).setCell ⟨g9, n * 7 + 5, none⟩ y5).setCell ⟨g9, n * 7 + 6, none⟩ y6).setCell ⟨cb, co, none⟩ (.slice (some ⟨g9, 0, none⟩) (n + 1) cap) ∨ W4 = ((((((((w1.setCell ⟨cb, co, none⟩ (.slice (some ⟨g9, 0, none⟩) (n + 1) cap)).setCell ⟨g9, n * 7, none⟩ y0).setCell ⟨g9, n * 7 + 1, none⟩ y1).setCell ⟨g9, n * 7 + 2, none⟩ y2).setCell ⟨g9, n * 7 + 3, none⟩ y3).setCell ⟨g9, n * 7 + 4, none⟩ y4).setCell ⟨g9, n * 7 + 5, none⟩ y5).setCell ⟨g9, n * 7 + 6, none⟩ y6)) :
    RdZ w g A0 c0 l A1 c1 ws at_ (addT top x fs) (addP x (fs.map Fr.pf)) Z W4 ∧ Kp (fun k => k = (curA g fs).block ∨ some k = (curV tv fs).ownBlock) W W4 := by
  obtain ⟨cb', co', cells, ty, hca', hcb, hco, hcn, hcw, hgn, hcg⟩ := h.cur
  rw [hca] at hca'
  obtain ⟨rfl, rfl⟩ : cb = cb' ∧ co = co' := by injection hca' with a b; exact ⟨a, b⟩
  have hi : inner.length = n * 7 := by
    have := hown1.1
    simp only [List.length_append, List.length_cons, List.length_nil] at this
    omega
  have hne : cb ≠ g9 := by
    rintro rfl
    rcases hat9 with e | e
    · rw [hv] at hcn
      exact hcn e.symm
    · have := blk_lt hcb
      omega
  have hb1 : w1.heap[cb]? = some (.cells cells ty (0, 0)) := blk_grown (blk_drew (blk_alloc hcb _)) hgrow (by rw [hv] at hcn; exact hcn)
  have hS9 : (g9 = (curA g fs).block ∨ some g9 = (curV tv fs).ownBlock) ∨ W.heap.size ≤ g9 := by
    rcases hat9 with e | e
    · exact .inl (.inr (by rw [hv, e]))
    · exact .inr (by omega)
  have hScb : (cb = (curA g fs).block ∨ some cb = (curV tv fs).ownBlock) ∨ W.heap.size ≤ cb := .inl (.inl (by rw [hca]))
  have hk1 : Kp (fun k => k = (curA g fs).block ∨ some k = (curV tv fs).ownBlock) W w1 := Lx.Kp.grown (Kp.drew (Kp.alloc (Kp.refl _ _) _)) hgrow (fun k e => .inr (by rw [hv, e]))
  have hat : (Value.slice (some ⟨g9, 0, none⟩) (n + 1) cap).ownBlock = (curV tv fs).ownBlock ∨ ∃ b, (Value.slice (some ⟨g9, 0, none⟩) (n + 1) cap).ownBlock = some b ∧ W.heap.size ≤ b := by
    rcases hat9 with e | e
    · exact .inl (by rw [hv, e]; rfl)
    · exact .inr ⟨g9, rfl, by omega⟩
  have hcur : ∀ o, W.heap[(curA g fs).block]? = some o → W4.heap[(curA g fs).block]? = some (match o with | .cells c t f => .cells (c.setIfInBounds (curA g fs).off (.slice (some ⟨g9, 0, none⟩) (n + 1) cap)) t f | _ => o) := by
    rw [hca]
    intro o ho
    have ho : W.heap[cb]? = some o := ho
    rw [hcb] at ho
    injection ho with ho
    subst ho
    rcases hW4 with rfl | rfl
    · exact blk_set (blk_far (blk_far (blk_far (blk_far (blk_far (blk_far (blk_far hb1 hne _) hne _) hne _) hne _) hne _) hne _) hne _) co _
    · exact blk_far (blk_far (blk_far (blk_far (blk_far (blk_far (blk_far (blk_set hb1 co _) hne _) hne _) hne _) hne _) hne _) hne _) hne _
  have hcb0 : some cb ≠ (Value.slice (some ⟨g9, 0, none⟩) (n + 1) cap).ownBlock := fun e => by
    have e : some cb = some g9 := e
    injection e with e
    exact hne e
  rcases hW4 with rfl | rfl
  · have hk4 : Kp (fun k => k = (curA g fs).block ∨ some k = (curV tv fs).ownBlock) W ((((((((w1.setCell ⟨g9, n * 7, none⟩ y0).setCell ⟨g9, n * 7 + 1, none⟩ y1).setCell ⟨g9, n * 7 + 2, none⟩ y2).setCell ⟨g9, n * 7 + 3, none⟩ y3).setCell ⟨g9, n * 7 + 4, none⟩ y4).setCell ⟨g9, n * 7 + 5, none⟩ y5).setCell ⟨g9, n * 7 + 6, none⟩ y6).setCell ⟨cb, co, none⟩ (.slice (some ⟨g9, 0, none⟩) (n + 1) cap)) := Kp.setCell (Kp.setCell (Kp.setCell (Kp.setCell (Kp.setCell (Kp.setCell (Kp.setCell (Kp.setCell hk1 hS9 _) hS9 _) hS9 _) hS9 _) hS9 _) hS9 _) hS9 _) hScb _
    exact ⟨h.add hin hx hokx (by rw [hn]; exact own_setCell (own_last hown1 hi) hcb0 _) hk4 hat hZ hcur, hk4⟩
  · have hk4 : Kp (fun k => k = (curA g fs).block ∨ some k = (curV tv fs).ownBlock) W (((((((((w1.setCell ⟨cb, co, none⟩ (.slice (some ⟨g9, 0, none⟩) (n + 1) cap)).setCell ⟨g9, n * 7, none⟩ y0).setCell ⟨g9, n * 7 + 1, none⟩ y1).setCell ⟨g9, n * 7 + 2, none⟩ y2).setCell ⟨g9, n * 7 + 3, none⟩ y3).setCell ⟨g9, n * 7 + 4, none⟩ y4).setCell ⟨g9, n * 7 + 5, none⟩ y5).setCell ⟨g9, n * 7 + 6, none⟩ y6)) := Kp.setCell (Kp.setCell (Kp.setCell (Kp.setCell (Kp.setCell (Kp.setCell (Kp.setCell (Kp.setCell hk1 hScb _) hS9 _) hS9 _) hS9 _) hS9 _) hS9 _) hS9 _) hS9 _
    exact ⟨h.add hin hx hokx (by rw [hn]; exact own_last (own_setCell hown1 hcb0 _) hi) hk4 hat hZ hcur, hk4⟩
/-- A block that is nobody's lies as it lay. -/
theorem Rd.zkept (h : Rd w g A0 c0 l A1 c1 ws o at_ tv top sv fs W) {k : Nat} (hz : k < W.heap.size ∧ o k = 0 ∧ k ≠ g ∧ ∀ f ∈ fs, k ≠ f.blk) (hk : Kp (fun k => k = (curA g fs).block ∨ some k = (curV tv fs).ownBlock) W W') : W'.heap[k]? = W.heap[k]? := by
  refine hk.block k hz.1 ?_
  rintro (e | e)
  · cases fs with
    | nil => exact hz.2.2.1 e
    | cons f r => exact hz.2.2.2 f List.mem_cons_self e
  · have h0 : o k = curO fs := h.curR.1 k e.symm
    rw [hz.2.1] at h0
    cases fs with
    | nil => exact absurd h0 (by decide)
    | cons f r => exact absurd h0 (by simp [curO])
/-- An append, kept shut for the walk of a region that draws its order. -/
def appSem (ats : Array TypeId) (ty : TypeId) (args : Array Value) : Sem Value := Builtin.append_ ats ty args
theorem app_veil (ats : Array TypeId) (ty : TypeId) (cs : Array Bool) (args : Array Value) : builtin .append ats ty cs args = (do pure (.value (← appSem ats ty args))) := rfl
attribute [local go_sem ↓ high] app_veil
set_option maxHeartbeats 6400000 in
set_option maxRecDepth 100000 in
theorem leaf_c (h : Rd w g A0 c0 l A1 c1 ws o at_ tv top sv fs W) (hC : Kd.C k39 w A0 l.length l) (hl : l.length ≤ 6000) (hat : at_ < l.length) (hfs : fs.length ≤ 100) (hcl : (curL top fs).length ≤ 6000) {Z : Nat → Prop} (hZ : ∀ k, Z k → k < W.heap.size ∧ o k = 0 ∧ k ≠ g ∧ ∀ f ∈ fs, k ≠ f.blk) :
    Calls Tryz.prog 78 #[.pointer (some ⟨g, 0, none⟩)] W fun e W' => e = .returned (.tuple #[]) ∧ RdZ w g A0 c0 l A1 c1 ws at_ (addT top ⟨tkAt l at_, ⟨#[]⟩, []⟩ fs) (addP ⟨tkAt l at_, ⟨#[]⟩, []⟩ (fs.map Fr.pf)) Z W' ∧ ∀ k, Z k → W'.heap[k]? = W.heap[k]? := by
  have HC := Lib.hid hC
  have HKC := Lib.hid (kids_c h hfs)
  obtain ⟨cb, co, cells, ty, hca, _⟩ := h.cur
  have HCA := Lib.hid hca
  rw [hca] at HKC
  have H0 := Lib.hid h
  obtain ⟨i0, hi0, hz0, hz1, hz2⟩ := info_parts info_frag
  have HI0 := Lib.hid hi0
  have HZ0 := Lib.hid hz0
  have HZ1 := Lib.hid hz1
  have HZ2 := Lib.hid hz2
  clear hi0 hz0 hz1 hz2 hca h hC
  go_enter Tryz.func78, Tryz.ntmps78
  go_wp2_with fail
  refine HKC.out.mono ?_
  rintro e W2 ⟨rfl, hd⟩
  have H2 : Hid (Rd w g A0 c0 l A1 c1 ws o at_ tv top sv fs W2) := Lib.hid (by
    obtain ⟨m, rfl⟩ := hd
    exact H0.out.below (pw_below_drewN (Below.refl _ _) _))
  have hb2 : Below W.heap.size W W2 := by
    obtain ⟨m, rfl⟩ := hd
    exact pw_below_drewN (Below.refl _ _) _
  have HZZ : Hid (∀ k, Z k → k < W2.heap.size ∧ o k = 0 ∧ k ≠ g ∧ ∀ f ∈ fs, k ≠ f.blk) := Lib.hid (fun k hk => ⟨Nat.lt_of_lt_of_le (hZ k hk).1 hb2.size, (hZ k hk).2⟩)
  have HPZ : Hid (∀ (t2 : List Fg) (p2 : List PF) (W4 : World), RdZ w g A0 c0 l A1 c1 ws at_ t2 p2 Z W4 ∧ Kp (fun k => k = (curA g fs).block ∨ some k = (curV tv fs).ownBlock) W2 W4 → RdZ w g A0 c0 l A1 c1 ws at_ t2 p2 Z W4 ∧ ∀ k, Z k → W4.heap[k]? = W.heap[k]?) := Lib.hid (fun t2 p2 W4 h4 => ⟨h4.1, fun k hk => (H2.out.zkept (HZZ.out k hk) h4.2).trans (hb2.block k (hZ k hk).1)⟩)
  clear hb2 hZ
  clear hd HKC H0
  have hR := H2.out.curR
  obtain ⟨A, c, hv, hcc, _⟩ := Kd.R_reads hR
  obtain ⟨_, inner, hown, hin⟩ := hR
  have HIN := Lib.hid hin
  clear hin
  obtain ⟨cb', co', cells', ty', hca', hcb, hco, hcn, hcw, hgn, hcg⟩ := H2.out.cur
  have hown0 : W2.ownsRow w.heap.size 49 7 (curV tv fs) (curL top fs).length inner := hown
  rw [HCA.out] at hca'
  obtain ⟨rfl, rfl⟩ : cb = cb' ∧ co = co' := by injection hca' with a b; exact ⟨a, b⟩
  rw [hv] at hown0 hcn hco hgn
  obtain ⟨n, hn⟩ : ∃ n, (curL top fs).length = n := ⟨_, rfl⟩
  rw [hn] at hown0 hcn hco hgn hcl hcc
  have k0 : W2.cell? ⟨g, 0, none⟩ = some (.slice A0 l.length c0) := blk_cell H2.out.blk 0
  have k1 : W2.cell? ⟨g, 1, none⟩ = some (.int .i64 at_) := blk_cell H2.out.blk 1
  have kc : W2.cell? ⟨cb, co, none⟩ = some (.slice A n c) := (blk_cell hcb co).trans hco
  obtain ⟨ad, had, t0, t1, t2, t3, t4⟩ := at_T39 (Kd.C_below HC.out H2.out.bel) (at_ : Int) (by omega) (by omega)
  subst had
  obtain ⟨ad2, had2, s0, _⟩ := at_T39 HC.out (at_ : Int) (by omega) (by omega)
  obtain rfl : ad = ad2 := by injection had2
  clear had2
  obtain ⟨T, hT⟩ : ∃ T, rd_T39 l (at_ : Int) = T := ⟨_, rfl⟩
  have HT : Hid (tkAt l at_ = T) := Lib.hid hT
  rw [hT] at t0 t1 t2 t3 t4
  simp only [Int.toNat_natCast] at t0 t1 t2 t3 t4 s0
  have hpl := World.block_lt_of_cell? w _ s0
  clear hT s0
  have x2 : (0 : Int) ≤ (at_ : Int) := by omega
  have x3 : (at_ : Int) < (l.length : Int) := by omega
  have hob : ∀ k, (Value.slice A n c).ownBlock = some k → w.heap.size ≤ k := own_base hown0
  have hS : ∀ w', Kc W2 (.slice A n c) cb co w' → (w'.cell? ⟨g, 0, none⟩ = some (.slice (some ad) l.length c0) ∧ w'.cell? ⟨g, 1, none⟩ = some (.int .i64 at_) ∧
      w'.cell? (ad.add (at_ * 5)) = some (.int .i64 T.f0) ∧ w'.cell? ⟨(ad.add (at_ * 5)).block, (ad.add (at_ * 5)).off + 1, none⟩ = some (.int .i64 T.f1) ∧ w'.cell? ⟨(ad.add (at_ * 5)).block, (ad.add (at_ * 5)).off + 2, none⟩ = some (.string T.f2) ∧ w'.cell? ⟨(ad.add (at_ * 5)).block, (ad.add (at_ * 5)).off + 3, none⟩ = some (.int .i64 T.f3) ∧ w'.cell? ⟨(ad.add (at_ * 5)).block, (ad.add (at_ * 5)).off + 4, none⟩ = some (.int .i64 T.f4)) := by
    intro w' hk
    have hsz := H2.out.bel.size
    have hp : some (ad.add (at_ * 5)).block ≠ (Value.slice A n c).ownBlock := fun e => by have := hob _ e.symm; omega
    have hq : ∀ i, ¬ ((ad.add (at_ * 5)).block = cb ∧ i = co) := fun i h => by have := h.1; omega
    have hgl : g < W2.heap.size := blk_lt H2.out.blk
    exact ⟨(hk.2 _ hgl hgn (hcg 0 (by omega))).trans k0, (hk.2 _ hgl hgn (hcg 1 (by omega))).trans k1, (hk.2 _ (by omega) hp (hq _)).trans t0, (hk.2 ⟨(ad.add (at_ * 5)).block, (ad.add (at_ * 5)).off + 1, none⟩ (show (ad.add (at_ * 5)).block < _ by omega) hp (hq _)).trans t1, (hk.2 ⟨(ad.add (at_ * 5)).block, (ad.add (at_ * 5)).off + 2, none⟩ (show (ad.add (at_ * 5)).block < _ by omega) hp (hq _)).trans t2, (hk.2 ⟨(ad.add (at_ * 5)).block, (ad.add (at_ * 5)).off + 3, none⟩ (show (ad.add (at_ * 5)).block < _ by omega) hp (hq _)).trans t3, (hk.2 ⟨(ad.add (at_ * 5)).block, (ad.add (at_ * 5)).off + 4, none⟩ (show (ad.add (at_ * 5)).block < _ by omega) hp (hq _)).trans t4⟩
  have hlt0 : w.heap.size ≤ W2.heap.size := H2.out.bel.size
  have x5 : (0 : Int) ≤ (n : Int) := by omega
  have x6 : (n : Int) < (n : Int) + 1 := by omega
  have HO := Lib.hid hown0
  have HCB := Lib.hid hcb
  have HCO := Lib.hid hco
  have HN := Lib.hid hn
  have HV := Lib.hid hv
  clear hown0 hcb hco hn hv hown
  obtain ⟨g9, cap, w1, happ, hown1, hgrow, hat9, hlt9⟩ := run_append_lies (P := Tryz.prog) (W2.alloc (.cells #[.int .i64 0, .int .i64 0, .string ⟨#[]⟩, .int .i64 0, .int .i64 0, .string ⟨#[]⟩, .slice none 0 0] 49 (0, 0))).drew 25 25 w.heap.size 49 i0 (.agg #[.int .i64 0, .int .i64 0, .string ⟨#[]⟩, .int .i64 0, .int .i64 0, .string ⟨#[]⟩, .slice none 0 0]) 7 88 Tryz.underlying25 HI0.out HZ0.out HZ1.out HZ2.out rfl (by decide) (.slice A n c) n inner (own_drew (HO.out.alloc _)) ⟨W2.heap.size, 0, none⟩ 1 1 zFrag rfl (World.news_of_block (blk_drew (blk_new _ _))) (by simp [zFrag, Value.oneCell']) (by decide) (by simp only [maxLen]; omega) (by omega) (by simp; omega) (W2.heap.size + 1) (by simp)
  replace happ : (appSem #[25, 25] 25 #[.slice A n c, .slice (some ⟨W2.heap.size, 0, none⟩) 1 1]).run Tryz.prog _ = _ := happ
  obtain ⟨⟨y0, y1, y2, y3, y4, y5, y6⟩, ⟨z0, z1, z2, z3, z4, z5, z6⟩⟩ := last_cells hown1
  have kc1 : w1.cell? ⟨cb, co, none⟩ = some (.slice A n c) := (blk_cell (blk_grown (blk_drew (blk_alloc HCB.out _)) hgrow hcn) co).trans HCO.out
  have fc0 : W2.frozen? ⟨cb, co, none⟩ = false := blk_frozen HCB.out co
  have fc1 : w1.frozen? ⟨cb, co, none⟩ = false := blk_frozen (blk_grown (blk_drew (blk_alloc HCB.out _)) hgrow hcn) co
  have hne9 : cb ≠ g9 := by
    rintro rfl
    rcases hat9 with e | e
    · exact hcn e.symm
    · have := blk_lt HCB.out
      omega
  have hne9' : g9 ≠ cb := fun e => hne9 e.symm
  have HKA : Kc W2 (.slice A n c) cb co w1 := Kc.grown (Kc.drew (Kc.alloc (Kc.refl _ _ _ _) _)) hgrow
  have kca : (W2.alloc (.cells #[.int .i64 0, .int .i64 0, .string ⟨#[]⟩, .int .i64 0, .int .i64 0, .string ⟨#[]⟩, .slice none 0 0] 49 (0, 0))).cell? ⟨cb, co, none⟩ = some (.slice A n c) := (blk_cell (blk_alloc HCB.out _) co).trans HCO.out
  obtain ⟨a0, a1, a2, a3, a4, a5, a6⟩ := hS (W2.alloc (.cells #[.int .i64 0, .int .i64 0, .string ⟨#[]⟩, .int .i64 0, .int .i64 0, .string ⟨#[]⟩, .slice none 0 0] 49 (0, 0))) (Kc.alloc (Kc.refl _ _ _ _) _)
  obtain ⟨b0, b1, b2, b3, b4, b5, b6⟩ := hS w1 HKA
  obtain ⟨d0, d1, d2, d3, d4, d5, d6⟩ := hS (w1.setCell ⟨cb, co, none⟩ (.slice (some ⟨g9, 0, none⟩) (n + 1) cap)) (Kc.setCur HKA _)
  clear hS
  have HOWN := Lib.hid hown1
  have HGROW := Lib.hid hgrow
  have HAT := Lib.hid hat9
  clear hown1 hgrow hat9 HI0 HZ0 HZ1 HZ2 HKA hob
  go_wp2_with fail
  go_region
  all_goals go_wp2
  all_goals go_end0
  all_goals refine ⟨rfl, ?_⟩
  all_goals refine HPZ.out _ _ _ (Rd.ended H2.out HCA.out (by rw [HV.out, HN.out]) HN.out HIN.out (z := .cells #[.int .i64 0, .int .i64 0, .string ⟨#[]⟩, .int .i64 0, .int .i64 0, .string ⟨#[]⟩, .slice none 0 0] 49 (0, 0)) HGROW.out HOWN.out HAT.out (x := ⟨tkAt l at_, ⟨#[]⟩, []⟩) (okx := fun _ => False) ?_ (fun _ h => h.elim) (Z := Z) HZZ.out (by first | (left; with_reducible rfl) | (right; with_reducible rfl)))
  all_goals rw [HT.out]
  all_goals exact k49_mkM W2 _ _ ⟨T, ⟨#[]⟩, []⟩ (Kd.R_nil _ _ _ _ _)
end
end Go.Proofs.YtipnlgmeonepfaaGreatDoor.PFa

set_option linter.unusedVariables false
set_option linter.unusedSimpArgs false
namespace Go.Proofs.YtipnlgmeonepfaaGreatDoor.PFa
open Go.RowKit Go.Proofs.YtipnlgmeonepfaaGreatDoorW.PrintWords Go.Proofs.YtipnlgmeonepfaaGreatDoorW.PrintLast Go.Proofs.YtipnlgmeonepfaaGreatDoorW.PrintMore
open Go.Proofs.YtipnlgmeonepfaaGreatDoor.Lx (Kp)
attribute [local go_sem ↓ high] app_veil
theorem info_open : (Tryz.prog.info? 107).map (fun i => (i.zero, i.size, i.bytes)) = some (some (.agg #[.pointer none, .int .i64 0]), 2, 16) := by kernel_rfl
theorem al {W : World} {a : Addr} {v : Value} (h : W.cell? a = some v) (o : Obj) : (W.alloc o).cell? a = some v := (World.cell?_of_block (w := W) (Below.heap_alloc W o a.block (World.block_lt_of_cell? W a h))).trans h
section
variable {w W W' : World} {g : Nat} {A0 : Option Addr} {c0 : Nat} {l : List Tk} {A1 : Option Addr} {c1 : Nat} {ws : List ByteArray} {o : Nat → Nat} {at_ : Nat} {tv : Value} {top : List Fg} {sv : Value} {fs : List Fr} {ps : List PF}
theorem Rd.push (h : Rd w g A0 c0 l A1 c1 ws o at_ tv top sv fs W) {T : Tk} {z : Obj} {w1 : World} {g9 cap : Nat}
    (hgrow : ((W.alloc (.cells (frCells T (.slice none 0 0)) 49 (0, 0))).alloc z).drew.grownBy w1 sv.ownBlock)
    (hown1 : w1.ownsRow w.heap.size 107 2 (.slice (some ⟨g9, 0, none⟩) (fs.length + 1) cap) (fs.length + 1) (stCells fs ++ [.pointer (some ⟨W.heap.size, 0, none⟩), .int .i64 at_]))
    (hat9 : sv.ownBlock = some g9 ∨ g9 = W.heap.size + 2) {Z : Nat → Prop} (hZ : ∀ k, Z k → k < W.heap.size ∧ o k = 0 ∧ k ≠ g ∧ ∀ f ∈ fs, k ≠ f.blk) :
    RdZ w g A0 c0 l A1 c1 ws at_ top (⟨T, at_, []⟩ :: fs.map Fr.pf) Z (w1.setCell ⟨g, 4, none⟩ (.slice (some ⟨g9, 0, none⟩) (fs.length + 1) cap)) ∧ ∀ k, Z k → (w1.setCell ⟨g, 4, none⟩ (.slice (some ⟨g9, 0, none⟩) (fs.length + 1) cap)).heap[k]? = W.heap[k]? := by
  obtain ⟨o', ho'⟩ : ∃ o' : Nat → Nat, ∀ k, o' k = if k < W.heap.size then o k else if k = W.heap.size then 0 else 2 := ⟨_, fun _ => rfl⟩
  have hold : ∀ k, k < W.heap.size → o' k = o k := fun k hk => by rw [ho', if_pos hk]
  have hgl := blk_lt h.blk
  have hk1 : Kp (fun k => some k = sv.ownBlock) W w1 := Lx.Kp.grown (Kp.drew (Kp.alloc (Kp.alloc (Kp.refl _ _) _) _)) hgrow (fun k e => e.symm)
  have hk2 : Kp (fun k => k = g ∨ some k = sv.ownBlock) W (w1.setCell ⟨g, 4, none⟩ (.slice (some ⟨g9, 0, none⟩) (fs.length + 1) cap)) := Kp.setCell (hk1.mono (fun k _ e => .inr e)) (.inl (.inl rfl)) _
  have hS : ∀ k z, o k = z → z ≠ 0 → z ≠ 2 → ¬ (k = g ∨ some k = sv.ownBlock) := by
    rintro k z hz h0 h2 (rfl | e)
    · exact h0 (hz.symm.trans h.og)
    · exact h2 (hz.symm.trans (h.so k e.symm))
  have hgs : some g ≠ sv.ownBlock := fun e => by
    have := h.so g e.symm
    rw [h.og] at this
    exact absurd this (by decide)
  have hg9 : g ≠ g9 := by
    rintro rfl
    rcases hat9 with e | e
    · exact hgs e.symm
    · omega
  have hb1 : w1.heap[g]? = some (.cells #[.slice A0 l.length c0, .int .i64 at_, .slice A1 ws.length c1, tv, sv] 71 (0, 0)) := hk1.blk h.blk hgs
  have hs9 : g9 = W.heap.size + 2 ∨ g9 < W.heap.size := by
    rcases hat9 with e | e
    · exact .inr (own_lt h.stk g9 e)
    · exact .inl e
  have hnew : w1.heap[W.heap.size]? = some (.cells (frCells T (.slice none 0 0)) 49 (0, 0)) := by
    refine blk_grown (blk_drew (blk_alloc (blk_new W _) _)) hgrow (fun e => ?_)
    have := own_lt h.stk W.heap.size e.symm
    omega
  have hne : W.heap.size ≠ g := by omega
  refine ⟨⟨o', tv, _, ⟨W.heap.size, T, at_, .slice none 0 0, []⟩ :: fs, ⟨blk_put hb1 4 _ rfl, (hold g hgl).trans h.og, ?_, ?_, ?_, ?_, ?_, ?_, h.hg, ?_⟩, rfl, fun k hk => ⟨(hold k (hZ k hk).1).trans (hZ k hk).2.1, (hZ k hk).2.2.1, fun f hf => ?_⟩⟩, fun k hk => hk2.block k (hZ k hk).1 (fun e => ?_)⟩
  · exact R_aside (ok := fun _ => True) (okx := fun _ => True) (z' := 0) h.top hk2 (fun k _ hz => hS k 1 hz (by decide) (by decide)) (fun k hlt hz => (hold k hlt).trans hz)
  · exact own_setCell hown1 (by
      intro e
      have e : some g = some g9 := e
      injection e with e
      exact hg9 e) _
  · intro k hk
    have hk : some g9 = some k := hk
    injection hk with hk
    subst hk
    rcases hat9 with e | e
    · rw [hold _ (own_lt h.stk g9 e)]
      exact h.so g9 e
    · rw [ho', if_neg (by omega), if_neg (by omega)]
  · intro f hf
    rcases List.mem_cons.1 hf with rfl | hf
    · refine ⟨blk_far hnew hne _, ?_, Kd.R_nil _ _ _ _ _⟩
      show o' W.heap.size = 0
      rw [ho', if_neg (by omega), if_pos rfl]
    · have hff := h.frs f hf
      have hlt := blk_lt hff.1
      refine ⟨hk2.blk hff.1 ?_, (hold _ hlt).trans hff.2.1, ?_⟩
      · rintro (e | e)
        · have h1 := h.blk
          rw [← e, hff.1] at h1
          injection h1 with h1
          injection h1 with _ h2 _
          exact absurd h2 (by decide)
        · have h1 := h.so _ e.symm
          rw [hff.2.1] at h1
          exact absurd h1 (by decide)
      · exact R_aside (ok := fun _ => True) (okx := fun _ => True) (z' := 0) hff.2.2 hk2 (fun k _ hz => hS k _ hz (by omega) (by
          intro e
          omega)) (fun k hlt hz => (hold k hlt).trans hz)
  · refine List.pairwise_cons.2 ⟨fun f hf => ?_, h.nd⟩
    have := blk_lt (h.frs f hf).1
    show W.heap.size ≠ f.blk
    omega
  · refine Kp.below h.bel hk2 ?_ h.bel.size
    rintro k (rfl | e)
    · exact h.hg
    · exact own_base h.stk k e.symm
  · intro f hf
    rcases List.mem_cons.1 hf with rfl | hf
    · exact h.bel.size
    · exact h.fb f hf
  · rcases List.mem_cons.1 hf with rfl | hf
    · have := (hZ k hk).1
      show k ≠ W.heap.size
      omega
    · exact (hZ k hk).2.2.2 f hf
  · rcases e with e | e
    · exact (hZ k hk).2.2.1 e
    · have h1 := h.so k e.symm
      rw [(hZ k hk).2.1] at h1
      exact absurd h1 (by decide)
set_option maxHeartbeats 3200000 in
set_option maxRecDepth 100000 in
theorem begin_full (h : Rd w g A0 c0 l A1 c1 ws o at_ tv top sv fs W) (hfs : fs.length = 100) :
    Calls Tryz.prog 104 #[.pointer (some ⟨g, 0, none⟩)] W fun e W' => e = endR at_ 6 ∧ Below W.heap.size W W' := by
  have HREF := Lib.hid (refuse_c h 6)
  obtain ⟨A, c, rfl⟩ := own_slice h.stk
  rw [hfs] at h
  have k4 : W.cell? ⟨g, 4, none⟩ = some (.slice A 100 c) := by
    have := blk_cell h.blk 4
    exact this
  clear h
  go_enter Tryz.func104, Tryz.ntmps104
  go_wp2_with fail
  refine HREF.out.mono ?_
  rintro e W2 ⟨rfl, ⟨m, rfl⟩⟩
  exact ⟨rfl, rfl, pw_below_drewN (Below.refl _ _) _⟩
set_option maxHeartbeats 6400000 in
set_option maxRecDepth 100000 in
theorem begin_c (h : Rd w g A0 c0 l A1 c1 ws o at_ tv top sv fs W) (hC : Kd.C k39 w A0 l.length l) (hl : l.length ≤ 6000) (hat : at_ < l.length) (hfs : fs.length < 100) {Z : Nat → Prop} (hZ : ∀ k, Z k → k < W.heap.size ∧ o k = 0 ∧ k ≠ g ∧ ∀ f ∈ fs, k ≠ f.blk) :
    Calls Tryz.prog 104 #[.pointer (some ⟨g, 0, none⟩)] W fun e W' => e = .returned (.tuple #[]) ∧ RdZ w g A0 c0 l A1 c1 ws at_ top (⟨tkAt l at_, at_, []⟩ :: fs.map Fr.pf) Z W' ∧ ∀ k, Z k → W'.heap[k]? = W.heap[k]? := by
  obtain ⟨i0, hi0, hz0, hz1, hz2⟩ := info_parts info_open
  have HI0 := Lib.hid hi0
  have HZ0 := Lib.hid hz0
  have HZ1 := Lib.hid hz1
  have HZ2 := Lib.hid hz2
  clear hi0 hz0 hz1 hz2
  obtain ⟨A, c, rfl⟩ := own_slice h.stk
  have H0 := Lib.hid h
  obtain ⟨ad, had, t0, t1, t2, t3, t4⟩ := at_T39 (Kd.C_below hC h.bel) (at_ : Int) (by omega) (by omega)
  subst had
  obtain ⟨T, hT⟩ : ∃ T, rd_T39 l (at_ : Int) = T := ⟨_, rfl⟩
  have HT : Hid (tkAt l at_ = T) := Lib.hid hT
  rw [hT] at t0 t1 t2 t3 t4
  simp only [Int.toNat_natCast] at t0 t1 t2 t3 t4
  obtain ⟨n, hn⟩ : ∃ n, fs.length = n := ⟨_, rfl⟩
  have k0 : W.cell? ⟨g, 0, none⟩ = some (.slice (some ad) l.length c0) := blk_cell h.blk 0
  have k1 : W.cell? ⟨g, 1, none⟩ = some (.int .i64 at_) := blk_cell h.blk 1
  have k4 : W.cell? ⟨g, 4, none⟩ = some (.slice A fs.length c) := blk_cell h.blk 4
  rw [hn] at k4 hfs
  have HN := Lib.hid hn
  have x1 : ((n : Int) == 100) = false := by rw [beq_eq_false_iff_ne]; omega
  have x2 : (0 : Int) ≤ (at_ : Int) := by omega
  have x3 : (at_ : Int) < (l.length : Int) := by omega
  have e0 := al k0
  have e1 := al k1
  have e2 := al t0
  have e3 := al t1
  have e4 := al t2
  have e5 := al t3
  have e6 := al t4
  clear hT hn h hC
  go_enter Tryz.func104, Tryz.ntmps104
  go_wp2_with fail
  go_region
  go_wp2_with fail
  go_name_world W2 hW2
  have HT2 : Hid (W2.heap[W.heap.size]? = some (.cells #[.int .i64 T.f0, .int .i64 T.f1, .string T.f2, .int .i64 T.f3, .int .i64 T.f4] 39 (0, 0))) := Lib.hid (hW2 ▸ blk_drew (blk_new W _))
  have H2 : Hid (Rd w g (some ad) c0 l A1 c1 ws o at_ tv top (.slice A fs.length c) fs W2) := Lib.hid (hW2 ▸ H0.out.below (below_drew (below_alloc (Below.refl _ _) _)))
  have hb2 : Below W.heap.size W W2 := hW2 ▸ below_drew (below_alloc (Below.refl _ _) _)
  have HZZ : Hid (∀ k, Z k → k < W2.heap.size ∧ o k = 0 ∧ k ≠ g ∧ ∀ f ∈ fs, k ≠ f.blk) := Lib.hid (fun k hk => ⟨Nat.lt_of_lt_of_le (hZ k hk).1 hb2.size, (hZ k hk).2⟩)
  have HZK : Hid (∀ k, Z k → W2.heap[k]? = W.heap[k]?) := Lib.hid (fun k hk => hb2.block k (hZ k hk).1)
  clear hb2 hZ
  clear hW2 e0 e1 e2 e3 e4 e5 e6 k0 k1 k4 t0 t1 t2 t3 t4 H0
  have hown0 : W2.ownsRow w.heap.size 107 2 (.slice A n c) n (stCells fs) := by
    have := H2.out.stk
    rw [HN.out] at this
    exact this
  have k1 : W2.cell? ⟨g, 1, none⟩ = some (.int .i64 at_) := blk_cell H2.out.blk 1
  have k4 : W2.cell? ⟨g, 4, none⟩ = some (.slice A n c) := by
    have := blk_cell H2.out.blk 4
    rw [HN.out] at this
    exact this
  obtain ⟨v, hv⟩ : ∃ v, W.heap.size = v := ⟨_, rfl⟩
  rw [hv] at HT2 ⊢
  have HVV := Lib.hid hv
  clear hv
  have t0 : W2.cell? ⟨v, 0, none⟩ = some (.int .i64 T.f0) := blk_cell HT2.out 0
  have t1 : W2.cell? ⟨v, 1, none⟩ = some (.int .i64 T.f1) := blk_cell HT2.out 1
  have t2 : W2.cell? ⟨v, 2, none⟩ = some (.string T.f2) := blk_cell HT2.out 2
  have t3 : W2.cell? ⟨v, 3, none⟩ = some (.int .i64 T.f3) := blk_cell HT2.out 3
  have t4 : W2.cell? ⟨v, 4, none⟩ = some (.int .i64 T.f4) := blk_cell HT2.out 4
  have hsz := H2.out.bel.size
  have hgl : g < W2.heap.size := blk_lt H2.out.blk
  obtain ⟨X, hX⟩ : ∃ X, ((W2.alloc (.cells (frCells T (.slice none 0 0)) 49 (0, 0))).alloc (.cells #[.pointer (some ⟨W2.heap.size, 0, none⟩), .int .i64 at_] 107 (0, 0))).drew = X := ⟨_, rfl⟩
  have hXO : X.ownsRow w.heap.size 107 2 (.slice A n c) n (stCells fs) := hX ▸ own_drew ((hown0.alloc _).alloc _)
  have hXB : X.heap[W2.heap.size + 1]? = some (.cells #[.pointer (some ⟨W2.heap.size, 0, none⟩), .int .i64 at_] 107 (0, 0)) := by
    rw [← hX]
    have := blk_new (W2.alloc (.cells (frCells T (.slice none 0 0)) 49 (0, 0))) (.cells #[.pointer (some ⟨W2.heap.size, 0, none⟩), .int .i64 at_] 107 (0, 0))
    rw [World.size_alloc] at this
    exact blk_drew this
  have hXs : X.heap.size = W2.heap.size + 2 := by rw [← hX]; simp
  obtain ⟨g9, cap, w1, happ, hown1, hgrow, hat9, hlt9⟩ := run_append_lies (P := Tryz.prog) X 69 69 w.heap.size 107 i0 (.agg #[.pointer none, .int .i64 0]) 2 16 Tryz.underlying69 HI0.out HZ0.out HZ1.out HZ2.out rfl (by decide) (.slice A n c) n (stCells fs) hXO ⟨W2.heap.size + 1, 0, none⟩ 1 1 [.pointer (some ⟨W2.heap.size, 0, none⟩), .int .i64 at_] rfl (World.news_of_block hXB) (by simp [Value.oneCell']) (by decide) (by simp only [maxLen]; omega) (by omega) (by omega) (W2.heap.size + 2) hXs
  replace happ : (appSem #[69, 69] 69 #[.slice A n c, .slice (some ⟨W2.heap.size + 1, 0, none⟩) 1 1]).run Tryz.prog X = _ := happ
  have hgn : some g ≠ (Value.slice A n c).ownBlock := fun e => by
    have hso := H2.out.so
    rw [HN.out] at hso
    have := hso g e.symm
    rw [H2.out.og] at this
    exact absurd this (by decide)
  have hb1 : w1.heap[g]? = some (.cells #[.slice (some ad) l.length c0, .int .i64 at_, .slice A1 ws.length c1, tv, .slice A fs.length c] 71 (0, 0)) := blk_grown (hX ▸ blk_drew (blk_alloc (blk_alloc H2.out.blk _) _)) hgrow hgn
  have y4 : w1.cell? ⟨g, 4, none⟩ = some (.slice A fs.length c) := blk_cell hb1 4
  have z4 : w1.frozen? ⟨g, 4, none⟩ = false := blk_frozen hb1 4
  have HB1 := Lib.hid hb1
  have HOWN := Lib.hid hown1
  have HGROW := Lib.hid hgrow
  have HAT := Lib.hid hat9
  have HX := Lib.hid hX
  rw [← hX] at happ
  clear hown1 hgrow hat9 HI0 HZ0 HZ1 HZ2 hX hb1 hXO hXB hXs hown0 hgn
  have e1 := al k1
  have e4 := al k4
  have f1 := fun o1 o2 => al (e1 o1) o2
  have f4 := fun o1 o2 => al (e4 o1) o2
  have f0 := al t0
  have h1 := al t1
  have h2 := al t2
  have h3 := al t3
  have h4 := al t4
  simp only [frCells] at happ
  go_region
  all_goals go_wp2
  all_goals go_end0
  all_goals refine ⟨rfl, ?_⟩
  have hgr : ((W2.alloc (.cells (frCells T (.slice none 0 0)) 49 (0, 0))).alloc (.cells #[.pointer (some ⟨W2.heap.size, 0, none⟩), .int .i64 at_] 107 (0, 0))).drew.grownBy w1 (Value.slice A fs.length c).ownBlock := by
    rw [HX.out, HN.out]
    exact HGROW.out
  have hp := Rd.push H2.out (T := T) hgr (by rw [HN.out]; exact HOWN.out) (by rw [HN.out]; exact HAT.out) (Z := Z) HZZ.out
  rw [HN.out] at hp
  rw [HT.out]
  exact ⟨hp.1, fun k hk => (hp.2 k hk).trans (HZK.out k hk)⟩
end
end Go.Proofs.YtipnlgmeonepfaaGreatDoor.PFa

set_option linter.unusedVariables false
set_option linter.unusedSimpArgs false
namespace Go.Proofs.YtipnlgmeonepfaaGreatDoor.PFa
open Go.RowKit Go.Proofs.YtipnlgmeonepfaaGreatDoorW.PrintWords Go.Proofs.YtipnlgmeonepfaaGreatDoorW.PrintLast Go.Proofs.YtipnlgmeonepfaaGreatDoorW.PrintMore
open Go.Proofs.YtipnlgmeonepfaaGreatDoor.Lx (Kp)
attribute [local go_sem ↓ high] app_veil
/-- The text and the kind of the token that closes a group. -/
def closeTx (op : ByteArray) : ByteArray := if op.toList = ([40] : List UInt8) then ⟨#[41]⟩ else if op.toList = ([91] : List UInt8) then ⟨#[93]⟩ else if op.toList = ([123] : List UInt8) then ⟨#[125]⟩ else ⟨#[101, 110, 100]⟩
def closeKd (op : ByteArray) : Int := if op.toList = ([40] : List UInt8) then 5 else if op.toList = ([91] : List UInt8) then 5 else if op.toList = ([123] : List UInt8) then 5 else 1
theorem field_tok (w : World) (a b d e : Int) (c : ByteArray) : (Instr.field 39 (.agg #[.int .i64 a, .int .i64 b, .string c, .int .i64 d, .int .i64 e]) 2).run Tryz.prog w = .ok (.string c) w := by kernel_rfl
section
set_option maxHeartbeats 6400000 in
set_option maxRecDepth 100000 in
theorem closer_c (T : Tk) (op : ByteArray) (kv : Value) (W : World) (hkv : ∃ A n c, kv = .slice A n c) :
    Calls Tryz.prog 113 #[.agg #[.int .i64 T.f0, .int .i64 T.f1, .string T.f2, .int .i64 T.f3, .int .i64 T.f4, .string op, kv]] W fun e W' => e = .returned (.agg #[.int .i64 (closeKd op), .int .i64 0, .string (closeTx op), .int .i64 T.f3, .int .i64 T.f4]) ∧ Below W.heap.size W W' := by
  obtain ⟨A, n, c, rfl⟩ := hkv
  have hend : ∀ (tx : ByteArray) (kd : Int) (X : World), X = (((W.alloc (.cells #[.int .i64 T.f0, .int .i64 T.f1, .string T.f2, .int .i64 T.f3, .int .i64 T.f4, .string op, .slice A n c] 49)).alloc (.cells #[.int .i64 kd, .int .i64 0, .string tx, .int .i64 T.f3, .int .i64 T.f4] 39)).alloc (.cells #[.int .i64 kd, .int .i64 0, .string tx, .int .i64 T.f3, .int .i64 T.f4] 39)) → Below W.heap.size W X := by
    rintro tx kd X rfl
    exact below_alloc (below_alloc (below_alloc (Below.refl _ _) _) _) _
  by_cases h1 : op.toList = ([40] : List UInt8)
  · have e1 : closeTx op = ⟨#[41]⟩ := by unfold closeTx; rw [if_pos h1]
    have e2 : closeKd op = 5 := by unfold closeKd; rw [if_pos h1]
    rw [e1, e2]
    have b1 : (op.toList == ([40] : List UInt8)) = true := beq_iff_eq.2 h1
    clear e1 e2 h1
    go_enter Tryz.func113, Tryz.ntmps113
    go_wp2
    exact bodyPost_ret (v := .agg #[.int .i64 5, .int .i64 0, .string ⟨#[41]⟩, .int .i64 T.f3, .int .i64 T.f4]) (by simp [results, Tryz.results113, go_sem]) rfl ⟨rfl, hend _ _ _ rfl⟩
  · by_cases h2 : op.toList = ([91] : List UInt8)
    · have e1 : closeTx op = ⟨#[93]⟩ := by unfold closeTx; rw [if_neg h1, if_pos h2]
      have e2 : closeKd op = 5 := by unfold closeKd; rw [if_neg h1, if_pos h2]
      rw [e1, e2]
      have b1 : (op.toList == ([40] : List UInt8)) = false := beq_eq_false_iff_ne.2 h1
      have b2 : (op.toList == ([91] : List UInt8)) = true := beq_iff_eq.2 h2
      clear e1 e2 h1 h2
      go_enter Tryz.func113, Tryz.ntmps113
      go_wp2
      exact bodyPost_ret (v := .agg #[.int .i64 5, .int .i64 0, .string ⟨#[93]⟩, .int .i64 T.f3, .int .i64 T.f4]) (by simp [results, Tryz.results113, go_sem]) rfl ⟨rfl, hend _ _ _ rfl⟩
    · by_cases h3 : op.toList = ([123] : List UInt8)
      · have e1 : closeTx op = ⟨#[125]⟩ := by unfold closeTx; rw [if_neg h1, if_neg h2, if_pos h3]
        have e2 : closeKd op = 5 := by unfold closeKd; rw [if_neg h1, if_neg h2, if_pos h3]
        rw [e1, e2]
        have b1 : (op.toList == ([40] : List UInt8)) = false := beq_eq_false_iff_ne.2 h1
        have b2 : (op.toList == ([91] : List UInt8)) = false := beq_eq_false_iff_ne.2 h2
        have b3 : (op.toList == ([123] : List UInt8)) = true := beq_iff_eq.2 h3
        clear e1 e2 h1 h2 h3
        go_enter Tryz.func113, Tryz.ntmps113
        go_wp2
        exact bodyPost_ret (v := .agg #[.int .i64 5, .int .i64 0, .string ⟨#[125]⟩, .int .i64 T.f3, .int .i64 T.f4]) (by simp [results, Tryz.results113, go_sem]) rfl ⟨rfl, hend _ _ _ rfl⟩
      · have e1 : closeTx op = ⟨#[101, 110, 100]⟩ := by unfold closeTx; rw [if_neg h1, if_neg h2, if_neg h3]
        have e2 : closeKd op = 1 := by unfold closeKd; rw [if_neg h1, if_neg h2, if_neg h3]
        rw [e1, e2]
        have b1 : (op.toList == ([40] : List UInt8)) = false := beq_eq_false_iff_ne.2 h1
        have b2 : (op.toList == ([91] : List UInt8)) = false := beq_eq_false_iff_ne.2 h2
        have b3 : (op.toList == ([123] : List UInt8)) = false := beq_eq_false_iff_ne.2 h3
        clear e1 e2 h1 h2 h3
        go_enter Tryz.func113, Tryz.ntmps113
        go_wp2
        exact bodyPost_ret (v := .agg #[.int .i64 1, .int .i64 0, .string ⟨#[101, 110, 100]⟩, .int .i64 T.f3, .int .i64 T.f4]) (by simp [results, Tryz.results113, go_sem]) rfl ⟨rfl, hend _ _ _ rfl⟩
end
end Go.Proofs.YtipnlgmeonepfaaGreatDoor.PFa

set_option linter.unusedVariables false
set_option linter.unusedSimpArgs false
namespace Go.Proofs.YtipnlgmeonepfaaGreatDoor.PFa
open Go.RowKit Go.Proofs.YtipnlgmeonepfaaGreatDoorW.PrintWords Go.Proofs.YtipnlgmeonepfaaGreatDoorW.PrintLast Go.Proofs.YtipnlgmeonepfaaGreatDoorW.PrintMore
open Go.Proofs.YtipnlgmeonepfaaGreatDoor.Lx (Kp)
attribute [local go_sem ↓ high] app_veil
section
variable {w W W' : World} {g : Nat} {A0 : Option Addr} {c0 : Nat} {l : List Tk} {A1 : Option Addr} {c1 : Nat} {ws : List ByteArray} {o : Nat → Nat} {at_ : Nat} {tv : Value} {top : List Fg} {sv : Value} {fs : List Fr} {ps : List PF}
theorem Rd.pop {f : Fr} {r : List Fr} {P cap : Nat} (h : Rd w g A0 c0 l A1 c1 ws o at_ tv top (.slice (some ⟨P, 0, none⟩) (r.length + 1) cap) (f :: r) W) :
    Rd w g A0 c0 l A1 c1 ws o at_ tv top (.slice (some ⟨P, 0, none⟩) r.length cap) r (W.setCell ⟨g, 4, none⟩ (.slice (some ⟨P, 0, none⟩) r.length cap)) ∧
      k49.R 49 (W.setCell ⟨g, 4, none⟩ (.slice (some ⟨P, 0, none⟩) r.length cap)) w.heap.size (fun k => o k = f.blk + 3) f.kv f.kids := by
  have hne : ∀ k z, o k = z → z ≠ 0 → k ≠ g := by
    rintro k z hk hz rfl
    exact hz (hk.symm.trans h.og)
  have hPo : o P = 2 := h.so P rfl
  have hPg : some g ≠ (Value.slice (some ⟨P, 0, none⟩) r.length cap).ownBlock := fun e => by
    have e : some g = some P := e
    injection e with e
    exact hne P 2 hPo (by decide) e.symm
  have hs : W.ownsRow w.heap.size 107 2 (.slice (some ⟨P, 0, none⟩) r.length cap) r.length (stCells r) := by
    have h0 := h.stk
    rw [List.length_cons] at h0
    rcases h0.2 with ⟨e, _⟩ | ⟨g', cap', cur, e, hb, hh, hc, hm, hz, ht⟩
    · cases e
    · injection e with e1 e2 e3
      injection e1 with e1
      injection e1 with e1
      subst e1 e3
      refine ⟨stCells_len r, .inr ⟨P, cap, cur, rfl, hb, hh, by omega, hm, hz, ?_⟩⟩
      have := congrArg (fun z => z.take (r.length * 2)) ht
      simp only [List.take_take, stCells] at this
      rw [show min (r.length * 2) ((r.length + 1) * 2) = r.length * 2 from by omega, List.take_append_of_le_length (by rw [stCells_len]; exact Nat.le_refl _), List.take_of_length_le (l := stCells r) (by rw [stCells_len]; exact Nat.le_refl _)] at this
      exact this
  have hfar : ∀ {z : Nat} {v : Value} {xs : List Fg}, z ≠ 0 → k49.R 49 W w.heap.size (fun k => o k = z) v xs → k49.R 49 (W.setCell ⟨g, 4, none⟩ (.slice (some ⟨P, 0, none⟩) r.length cap)) w.heap.size (fun k => o k = z) v xs := fun hz h => Kd.R_far h (fun k hk => hne k _ hk hz) _
  have hblk : ∀ f' ∈ f :: r, f'.blk ≠ g := by
    intro f' hf' e
    have h1 := h.blk
    rw [← e, (h.frs f' hf').1] at h1
    injection h1 with h1
    injection h1 with _ h2 _
    exact absurd h2 (by decide)
  refine ⟨⟨blk_put h.blk 4 _ rfl, h.og, hfar (by decide) h.top, own_setCell hs hPg _, fun k hk => h.so k hk, fun f' hf' => ⟨blk_far (h.frs f' (List.mem_cons_of_mem _ hf')).1 (hblk f' (List.mem_cons_of_mem _ hf')) _, (h.frs f' (List.mem_cons_of_mem _ hf')).2.1, hfar (by omega) (h.frs f' (List.mem_cons_of_mem _ hf')).2.2⟩, (List.pairwise_cons.1 h.nd).2, h.bel.setCell h.hg _, h.hg, fun f' hf' => h.fb f' (List.mem_cons_of_mem _ hf')⟩, hfar (by omega) (h.frs f List.mem_cons_self).2.2⟩
set_option maxHeartbeats 3200000 in
set_option maxRecDepth 100000 in
/-- Nothing is open: a closing token is stray. -/
theorem finish_none (h : Rd w g A0 c0 l A1 c1 ws o at_ tv top sv [] W) (tx : ByteArray) :
    Calls Tryz.prog 128 #[.pointer (some ⟨g, 0, none⟩), .string tx] W fun e W' => e = endR at_ 20 ∧ Below W.heap.size W W' := by
  obtain ⟨A, c, rfl⟩ := own_slice h.stk
  have k4 : W.cell? ⟨g, 4, none⟩ = some (.slice A 0 c) := blk_cell h.blk 4
  have HREF := Lib.hid (fun (W' : World) (hb : Below W.heap.size W W') => refuse_c (h.below hb) 20)
  have e4 := al k4
  clear h
  have hfd := fun (w : World) (a b d e : Int) (c : ByteArray) => field_tok w a b d e c
  go_enter Tryz.func128, Tryz.ntmps128
  go_wp2_with fail
  refine (HREF.out _ (by repeat (first | (with_reducible exact Below.refl _ _) | (with_reducible apply below_alloc)))).mono ?_
  rintro e W2 ⟨rfl, ⟨m, rfl⟩⟩
  exact ⟨rfl, rfl, pw_below_drewN (below_alloc (Below.refl _ _) _) _⟩
set_option maxHeartbeats 3200000 in
set_option maxRecDepth 100000 in
/-- What is open is not closed by this. -/
theorem finish_bad {f : Fr} {r : List Fr} (h : Rd w g A0 c0 l A1 c1 ws o at_ tv top sv (f :: r) W) (hfs : r.length + 1 ≤ 100) (tx : ByteArray) (htx : (closeTx f.tok.f2).toList ≠ tx.toList) :
    Calls Tryz.prog 128 #[.pointer (some ⟨g, 0, none⟩), .string tx] W fun e W' => e = endR at_ 20 ∧ Below W.heap.size W W' := by
  have hff := h.frs f List.mem_cons_self
  obtain ⟨A6, c6, hkv, _⟩ := Kd.R_reads hff.2.2
  have HCL := Lib.hid (fun (W' : World) => closer_c f.tok f.tok.f2 f.kv W' ⟨_, _, _, hkv⟩)
  obtain ⟨P, cap, rfl, p0, _, hcap⟩ := h.stack
  have HREF := Lib.hid (fun (W' : World) (hb : Below W.heap.size W W') => refuse_c (h.below hb) 20)
  obtain ⟨k, hk⟩ : ∃ k, r.length = k := ⟨_, rfl⟩
  obtain ⟨m, hm⟩ : ∃ m, k + 1 = m := ⟨_, rfl⟩
  have k4 : W.cell? ⟨g, 4, none⟩ = some (.slice (some ⟨P, 0, none⟩) m cap) := by
    have := blk_cell h.blk 4
    rw [hk, hm] at this
    exact this
  rw [hk] at p0
  have hb := hff.1
  obtain ⟨n6, hn6⟩ : ∃ n, f.kids.length = n := ⟨_, rfl⟩
  rw [hkv, hn6] at hb
  rw [hkv, hn6] at HCL
  obtain ⟨b, hbb⟩ : ∃ b, f.blk = b := ⟨_, rfl⟩
  rw [hbb] at hb p0
  obtain ⟨T, hT⟩ : ∃ T, f.tok = T := ⟨_, rfl⟩
  rw [hT] at hb HCL htx
  obtain ⟨ct, hct⟩ : ∃ ct, closeTx T.f2 = ct := ⟨_, rfl⟩
  obtain ⟨kd, hkd⟩ : ∃ kd, closeKd T.f2 = kd := ⟨_, rfl⟩
  rw [hct, hkd] at HCL
  rw [hct] at htx
  have v0 : W.cell? ⟨b, 0, none⟩ = some (.int .i64 T.f0) := blk_cell hb 0
  have v1 : W.cell? ⟨b, 1, none⟩ = some (.int .i64 T.f1) := blk_cell hb 1
  have v2 : W.cell? ⟨b, 2, none⟩ = some (.string T.f2) := blk_cell hb 2
  have v3 : W.cell? ⟨b, 3, none⟩ = some (.int .i64 T.f3) := blk_cell hb 3
  have v4 : W.cell? ⟨b, 4, none⟩ = some (.int .i64 T.f4) := blk_cell hb 4
  have v5 : W.cell? ⟨b, 5, none⟩ = some (.string T.f2) := blk_cell hb 5
  have v6 : W.cell? ⟨b, 6, none⟩ = some (.slice A6 n6 c6) := blk_cell hb 6
  have e4 := al k4
  have e0 := al p0
  have d0 := al v0
  have d1 := al v1
  have d2 := al v2
  have d3 := al v3
  have d4 := al v4
  have d5 := al v5
  have d6 := al v6
  have x1 : decide ((k : Int) < 0) = false := decide_eq_false (by omega)
  have x2 : IntKind.i64.wrap ((m : Int) - 1) = (k : Int) := by rw [IntWalk.i64_in _ (by omega)]; omega
  have x3 : (0 : Int) ≤ (k : Int) := by omega
  have x4 : (k : Int) < (m : Int) := by omega
  have x6 : wrap64 ((m : Int) - 1) = (k : Int) := by unfold wrap64; omega
  have x5 : (ct.toList == tx.toList) = false := beq_eq_false_iff_ne.2 htx
  clear h hff hkv hk hm hb hn6 hT hct hkd hbb htx k4 p0 v0 v1 v2 v3 v4 v5 v6
  have hfd := fun (w : World) (a b d e : Int) (c : ByteArray) => field_tok w a b d e c
  go_enter Tryz.func128, Tryz.ntmps128
  go_wp2_with fail
  refine (HCL.out _).mono ?_
  rintro e W2 ⟨rfl, hb2⟩
  have HB2 : Hid (Below W.heap.size W W2) := Lib.hid ((below_alloc (Below.refl _ _) _).trans (hb2.mono (by simp)))
  clear hb2
  go_wp2_with fail
  refine (HREF.out _ HB2.out).mono ?_
  rintro e W3 ⟨rfl, ⟨q, rfl⟩⟩
  exact ⟨rfl, rfl, pw_below_drewN HB2.out _⟩
end
end Go.Proofs.YtipnlgmeonepfaaGreatDoor.PFa

set_option linter.unusedVariables false
set_option linter.unusedSimpArgs false
namespace Go.Proofs.YtipnlgmeonepfaaGreatDoor.PFa
open Go.RowKit Go.Proofs.YtipnlgmeonepfaaGreatDoorW.PrintWords Go.Proofs.YtipnlgmeonepfaaGreatDoorW.PrintLast Go.Proofs.YtipnlgmeonepfaaGreatDoorW.PrintMore
open Go.Proofs.YtipnlgmeonepfaaGreatDoor.Lx (Kp)
attribute [local go_sem ↓ high] app_veil
/-- What finish hands back: the group, and it lies where it belongs. -/
def FinPost (w : World) (g : Nat) (A0 : Option Addr) (c0 : Nat) (l : List Tk) (A1 : Option Addr) (c1 : Nat) (ws : List ByteArray) (at_ : Nat) (top : List Fg) (ps : List PF) (Z : Nat → Prop) (W : World) (T : Tk) (kids : List Fg) (e : Ending) (W' : World) : Prop :=
  ∃ A c, e = .returned (.agg #[.int .i64 T.f0, .int .i64 T.f1, .string T.f2, .int .i64 T.f3, .int .i64 T.f4, .string T.f2, .slice A kids.length c]) ∧ kids.length ≤ c ∧ (∀ W2 : World, (∀ k, ¬ Z k → W2.heap[k]? = W'.heap[k]?) → Kd.C k49 W2 A kids.length kids) ∧ RdZ w g A0 c0 l A1 c1 ws at_ (addT top ⟨T, T.f2, kids⟩ ps) (addP ⟨T, T.f2, kids⟩ ps) Z W' ∧ ∀ k, Z k → W'.heap[k]? = W.heap[k]?
theorem addT_map (top : List Fg) (x : Fg) (fs : List Fr) : addT top x (fs.map Fr.pf) = addT top x fs := by cases fs <;> rfl
section
variable {w W W' : World} {g : Nat} {A0 : Option Addr} {c0 : Nat} {l : List Tk} {A1 : Option Addr} {c1 : Nat} {ws : List ByteArray} {o : Nat → Nat} {at_ : Nat} {tv : Value} {top : List Fg} {sv : Value} {fs : List Fr} {ps : List PF}
set_option maxHeartbeats 12800000 in
set_option maxRecDepth 100000 in
theorem finish_c {f : Fr} {r : List Fr} (h0 : Rd w g A0 c0 l A1 c1 ws o at_ tv top sv (f :: r) W) (hfs : r.length + 1 ≤ 100) (hcl : (curL top r).length ≤ 6000) (tx : ByteArray) (htx : closeTx f.tok.f2 = tx) {Z : Nat → Prop} (hZ0 : ∀ k, Z k → k < W.heap.size ∧ o k = 0 ∧ k ≠ g ∧ ∀ f' ∈ r, k ≠ f'.blk) :
    Calls Tryz.prog 128 #[.pointer (some ⟨g, 0, none⟩), .string tx] W (FinPost w g A0 c0 l A1 c1 ws at_ top (r.map Fr.pf) Z W f.tok f.kids) := by
  obtain ⟨o, h, hclip, hco⟩ := h0.clip
  replace hZ0 : ∀ k, Z k → k < W.heap.size ∧ o k = 0 ∧ k ≠ g ∧ ∀ f' ∈ r, k ≠ f'.blk := fun k hk => ⟨(hZ0 k hk).1, (hco k (hZ0 k hk).1).trans (hZ0 k hk).2.1, (hZ0 k hk).2.2⟩
  clear h0 hco
  have HZ0' := Lib.hid hZ0
  clear hZ0
  obtain ⟨i0, hi0, hz0, hz1, hz2⟩ := info_parts info_frag
  have HI0 := Lib.hid hi0
  have HZ0 := Lib.hid hz0
  have HZ1 := Lib.hid hz1
  have HZ2 := Lib.hid hz2
  clear hi0 hz0 hz1 hz2
  have hff := h.frs f List.mem_cons_self
  obtain ⟨A6, c6, hkv, hle6, _⟩ := Kd.R_reads hff.2.2
  have HLE := Lib.hid hle6
  clear hle6
  have HCL := Lib.hid (fun (W' : World) => closer_c f.tok f.tok.f2 f.kv W' ⟨_, _, _, hkv⟩)
  obtain ⟨P, cap, rfl, p0, _, hcap⟩ := h.stack
  have H0 := Lib.hid h
  have HCLIP := Lib.hid hclip
  have HKV := Lib.hid hkv
  obtain ⟨k, hk⟩ : ∃ k, r.length = k := ⟨_, rfl⟩
  obtain ⟨m, hm⟩ : ∃ m, k + 1 = m := ⟨_, rfl⟩
  have k4 : W.cell? ⟨g, 4, none⟩ = some (.slice (some ⟨P, 0, none⟩) m cap) := by
    have := blk_cell h.blk 4
    rw [hk, hm] at this
    exact this
  have fg : W.frozen? ⟨g, 4, none⟩ = false := blk_frozen h.blk 4
  rw [hk] at p0
  have hb := hff.1
  obtain ⟨n6, hn6⟩ : ∃ n, f.kids.length = n := ⟨_, rfl⟩
  rw [hkv, hn6] at hb
  rw [hkv, hn6] at HCL
  obtain ⟨b, hbb⟩ : ∃ b, f.blk = b := ⟨_, rfl⟩
  rw [hbb] at hb p0
  obtain ⟨T, hT⟩ : ∃ T, f.tok = T := ⟨_, rfl⟩
  rw [hT] at hb HCL htx ⊢
  obtain ⟨kd, hkd⟩ : ∃ kd, closeKd T.f2 = kd := ⟨_, rfl⟩
  rw [htx, hkd] at HCL
  have HK := Lib.hid hk
  have HM := Lib.hid hm
  have HN6 := Lib.hid hn6
  have HT := Lib.hid hT
  have HBB := Lib.hid hbb
  have HBL := Lib.hid hb
  have hgl := blk_lt h.blk
  have hbl := blk_lt hb
  have v0 : W.cell? ⟨b, 0, none⟩ = some (.int .i64 T.f0) := blk_cell hb 0
  have v1 : W.cell? ⟨b, 1, none⟩ = some (.int .i64 T.f1) := blk_cell hb 1
  have v2 : W.cell? ⟨b, 2, none⟩ = some (.string T.f2) := blk_cell hb 2
  have v3 : W.cell? ⟨b, 3, none⟩ = some (.int .i64 T.f3) := blk_cell hb 3
  have v4 : W.cell? ⟨b, 4, none⟩ = some (.int .i64 T.f4) := blk_cell hb 4
  have v5 : W.cell? ⟨b, 5, none⟩ = some (.string T.f2) := blk_cell hb 5
  have v6 : W.cell? ⟨b, 6, none⟩ = some (.slice A6 n6 c6) := blk_cell hb 6
  have e4 := al k4
  have e0 := al p0
  have d0 := al v0
  have d1 := al v1
  have d2 := al v2
  have d3 := al v3
  have d4 := al v4
  have d5 := al v5
  have d6 := al v6
  have x1 : decide ((k : Int) < 0) = false := decide_eq_false (by omega)
  have x2 : IntKind.i64.wrap ((m : Int) - 1) = (k : Int) := by rw [IntWalk.i64_in _ (by omega)]; omega
  have x3 : (0 : Int) ≤ (k : Int) := by omega
  have x4 : (k : Int) < (m : Int) := by omega
  have x6 : wrap64 ((m : Int) - 1) = (k : Int) := by unfold wrap64; omega
  have x7 : (k : Int) ≤ (cap : Int) := by omega
  have HP0 := Lib.hid p0
  have HK4 := Lib.hid k4
  clear h hff hkv hk hm hb hn6 hT hkd hbb htx k4 p0 hclip
  have hfd := fun (w : World) (a b d e : Int) (c : ByteArray) => field_tok w a b d e c
  go_enter Tryz.func128, Tryz.ntmps128
  go_wp2_with fail
  refine (HCL.out _).mono ?_
  rintro e W2 ⟨rfl, hb2⟩
  have hr2 : W2.heap[W.heap.size]? = some (.cells #[.int .i64 0, .int .i64 0, .string ⟨#[]⟩, .int .i64 0, .int .i64 0, .string ⟨#[]⟩, .slice none 0 0] 49 (0, 0)) := blk_below (blk_new W _) hb2
  have HR2 := Lib.hid hr2
  have HB2 : Hid (Below W.heap.size W W2) := Lib.hid ((below_alloc (Below.refl _ _) _).trans (hb2.mono (by simp)))
  have hs2 : W.heap.size < W2.heap.size := blk_lt hr2
  clear hb2 e4 e0 d0 d1 d2 d3 d4 d5 d6 HCL hr2
  have k4 : W2.cell? ⟨g, 4, none⟩ = some (.slice (some ⟨P, 0, none⟩) m cap) := pw_cell_below HB2.out HK4.out
  have p0 : W2.cell? ⟨P, k * 2, none⟩ = some (.pointer (some ⟨b, 0, none⟩)) := pw_cell_below HB2.out HP0.out
  have v0 := pw_cell_below HB2.out v0
  have v1 := pw_cell_below HB2.out v1
  have v2 := pw_cell_below HB2.out v2
  have v3 := pw_cell_below HB2.out v3
  have v4 := pw_cell_below HB2.out v4
  have v5 := pw_cell_below HB2.out v5
  have v6 := pw_cell_below HB2.out v6
  have H2 := Lib.hid (H0.out.below HB2.out)
  have k4a := al k4
  have fga : ∀ o, (W2.alloc o).frozen? ⟨g, 4, none⟩ = false := fun o => blk_frozen (blk_alloc H2.out.blk o) 4
  go_wp2_with fail
  obtain ⟨W4, hW4⟩ : ∃ W4, (W2.alloc (.cells #[.int .i64 T.f0, .int .i64 T.f1, .string T.f2, .int .i64 T.f3, .int .i64 T.f4, .string T.f2, .slice A6 n6 c6] 49 (0, 0))).setCell ⟨g, 4, none⟩ (.slice (some ⟨P, 0, none⟩) k cap) = W4 := ⟨_, rfl⟩
  rw [hW4]
  have hpop := ((H2.out.below (below_alloc (Below.refl _ _) (.cells #[.int .i64 T.f0, .int .i64 T.f1, .string T.f2, .int .i64 T.f3, .int .i64 T.f4, .string T.f2, .slice A6 n6 c6] 49 (0, 0)))).pop)
  rw [HK.out] at hpop
  rw [hW4] at hpop
  have H4 := Lib.hid hpop.1
  have HR4 := Lib.hid hpop.2
  have hs4 : W4.heap.size = W2.heap.size + 1 := by rw [← hW4]; simp
  have hv4 : W4.heap[W2.heap.size]? = some (.cells #[.int .i64 T.f0, .int .i64 T.f1, .string T.f2, .int .i64 T.f3, .int .i64 T.f4, .string T.f2, .slice A6 n6 c6] 49 (0, 0)) := hW4 ▸ blk_far (blk_new W2 _) (by simp; omega) _
  have hr4 : W4.heap[W.heap.size]? = some (.cells #[.int .i64 0, .int .i64 0, .string ⟨#[]⟩, .int .i64 0, .int .i64 0, .string ⟨#[]⟩, .slice none 0 0] 49 (0, 0)) := hW4 ▸ blk_far (blk_alloc HR2.out _) (by simp; omega) _
  have HZ4 : Hid (∀ k, Z k → W4.heap[k]? = W.heap[k]?) := Lib.hid (fun k hk => by
    have hkl := (HZ0'.out k hk).1
    rw [← hW4]
    exact (Below.heap_setCell _ _ _ k (HZ0'.out k hk).2.2.1).trans ((Below.heap_alloc W2 _ k (by omega)).trans (HB2.out.block k hkl)))
  clear hpop hW4 k4a fga k4 p0 v0 v1 v2 v3 v4 v5 v6 HR2
  obtain ⟨cb, co, _, _, hca, _⟩ := H4.out.cur
  have HKC := Lib.hid (kids_c H4.out (by omega))
  rw [hca] at HKC
  have HCA := Lib.hid hca
  have HV4 := Lib.hid hv4
  have HR4b := Lib.hid hr4
  obtain ⟨vb, hvb⟩ : ∃ vb, W2.heap.size = vb := ⟨_, rfl⟩
  obtain ⟨rb, hrb⟩ : ∃ rb, W.heap.size = rb := ⟨_, rfl⟩
  rw [hvb] at HV4 hs4 ⊢
  rw [hrb] at HR4b ⊢
  have hvr : rb < vb := by omega
  have HVB := Lib.hid hvb
  have HRB := Lib.hid hrb
  clear hca hv4 hr4 hvb hrb
  refine HKC.out.mono ?_
  rintro e W5 ⟨rfl, hd⟩
  have hb5 : Below W4.heap.size W4 W5 := by
    obtain ⟨m, rfl⟩ := hd
    exact pw_below_drewN (Below.refl _ _) _
  have hs5 : W5.heap.size = W4.heap.size := by
    obtain ⟨m, rfl⟩ := hd
    rfl
  have HZ5 : Hid (∀ k, Z k → W5.heap[k]? = W.heap[k]?) := Lib.hid (fun k hk => (hb5.block k (by have := (HZ0'.out k hk).1; have := HRB.out; omega)).trans (HZ4.out k hk))
  clear hd HKC HZ4
  have H5 := Lib.hid (H4.out.below hb5)
  have HR5 := Lib.hid (Kd.R_below HR4.out hb5)
  have HV5 := Lib.hid (blk_below HV4.out hb5)
  have HRR5 := Lib.hid (blk_below HR4b.out hb5)
  clear hb5 H4 HR4 HV4 HR4b
  have hR := H5.out.curR
  obtain ⟨A, c, hv, hcc, _⟩ := Kd.R_reads hR
  obtain ⟨_, inner, hown, hin⟩ := hR
  have HIN := Lib.hid hin
  clear hin
  obtain ⟨cb', co', cells', ty', hca', hcb, hco, hcn, hcw, hgn, hcg⟩ := H5.out.cur
  have hown0 : W5.ownsRow w.heap.size 49 7 (curV tv r) (curL top r).length inner := hown
  rw [HCA.out] at hca'
  obtain ⟨rfl, rfl⟩ : cb = cb' ∧ co = co' := by injection hca' with a b; exact ⟨a, b⟩
  rw [hv] at hown0 hcn hco hgn
  obtain ⟨n, hn⟩ : ∃ n, (curL top r).length = n := ⟨_, rfl⟩
  rw [hn] at hown0 hcn hco hgn hcl hcc
  have kc : W5.cell? ⟨cb, co, none⟩ = some (.slice A n c) := (blk_cell hcb co).trans hco
  have v0 : W5.cell? ⟨vb, 0, none⟩ = some (.int .i64 T.f0) := blk_cell HV5.out 0
  have v1 : W5.cell? ⟨vb, 1, none⟩ = some (.int .i64 T.f1) := blk_cell HV5.out 1
  have v2 : W5.cell? ⟨vb, 2, none⟩ = some (.string T.f2) := blk_cell HV5.out 2
  have v3 : W5.cell? ⟨vb, 3, none⟩ = some (.int .i64 T.f3) := blk_cell HV5.out 3
  have v4 : W5.cell? ⟨vb, 4, none⟩ = some (.int .i64 T.f4) := blk_cell HV5.out 4
  have v5 : W5.cell? ⟨vb, 5, none⟩ = some (.string T.f2) := blk_cell HV5.out 5
  have v6 : W5.cell? ⟨vb, 6, none⟩ = some (.slice A6 n6 c6) := blk_cell HV5.out 6
  -- what is not ours: the result, and the variable
  have hZ : Hid (∀ k, (k = vb ∨ k = rb ∨ Z k) → k < W5.heap.size ∧ o k = 0 ∧ k ≠ g ∧ ∀ f' ∈ r, k ≠ f'.blk) := Lib.hid (by
    intro k hk
    rcases hk with hk | hk | hk
    · subst hk
      have h9 := HRB.out
      refine ⟨by omega, HCLIP.out _ (by omega), by omega, fun f' hf' => ?_⟩
      have := blk_lt (H0.out.frs f' (List.mem_cons_of_mem _ hf')).1
      omega
    · subst hk
      have h9 := HRB.out
      refine ⟨by omega, HCLIP.out _ (by omega), by omega, fun f' hf' => ?_⟩
      have := blk_lt (H0.out.frs f' (List.mem_cons_of_mem _ hf')).1
      omega
    · exact ⟨by have := (HZ0'.out k hk).1; have := HRB.out; omega, (HZ0'.out k hk).2⟩)
  have hvn : some vb ≠ (Value.slice A n c).ownBlock := fun e => by
    have h1 := H5.out.curR.1 vb (by rw [hv, hn]; exact e.symm)
    have h1 : o vb = curO r := h1
    rw [(hZ.out vb (.inl rfl)).2.1] at h1
    cases r <;> simp [curO] at h1
  have hvc : vb ≠ cb := by
    rintro rfl
    have h1 := HCA.out
    cases r with
    | nil =>
      injection h1 with h1
      exact (hZ.out vb (.inl rfl)).2.2.1 h1.symm
    | cons f' r' =>
      injection h1 with h1
      exact (hZ.out vb (.inl rfl)).2.2.2 f' List.mem_cons_self h1.symm
  have hrn : some rb ≠ (Value.slice A n c).ownBlock := fun e => by
    have h1 := H5.out.curR.1 rb (by rw [hv, hn]; exact e.symm)
    have h1 : o rb = curO r := h1
    rw [(hZ.out rb (.inr (.inl rfl))).2.1] at h1
    cases r <;> simp [curO] at h1
  have hrc : rb ≠ cb := by
    rintro rfl
    have h1 := HCA.out
    cases r with
    | nil =>
      injection h1 with h1
      exact (hZ.out rb (.inr (.inl rfl))).2.2.1 h1.symm
    | cons f' r' =>
      injection h1 with h1
      exact (hZ.out rb (.inr (.inl rfl))).2.2.2 f' List.mem_cons_self h1.symm
  have hS : ∀ w', Kc W5 (.slice A n c) cb co w' → (w'.cell? ⟨vb, 0, none⟩ = some (.int .i64 T.f0) ∧ w'.cell? ⟨vb, 1, none⟩ = some (.int .i64 T.f1) ∧ w'.cell? ⟨vb, 2, none⟩ = some (.string T.f2) ∧ w'.cell? ⟨vb, 3, none⟩ = some (.int .i64 T.f3) ∧ w'.cell? ⟨vb, 4, none⟩ = some (.int .i64 T.f4) ∧ w'.cell? ⟨vb, 5, none⟩ = some (.string T.f2) ∧ w'.cell? ⟨vb, 6, none⟩ = some (.slice A6 n6 c6)) := by
    intro w' hk
    have hq : ∀ i, ¬ (vb = cb ∧ i = co) := fun i h => hvc h.1
    have hvl : vb < W5.heap.size := (hZ.out vb (.inl rfl)).1
    exact ⟨(hk.2 _ hvl hvn (hq _)).trans v0, (hk.2 _ hvl hvn (hq _)).trans v1, (hk.2 _ hvl hvn (hq _)).trans v2, (hk.2 _ hvl hvn (hq _)).trans v3, (hk.2 _ hvl hvn (hq _)).trans v4, (hk.2 _ hvl hvn (hq _)).trans v5, (hk.2 _ hvl hvn (hq _)).trans v6⟩
  have hlt0 : w.heap.size ≤ W5.heap.size := H5.out.bel.size
  have x5 : (0 : Int) ≤ (n : Int) := by omega
  have x6 : (n : Int) < (n : Int) + 1 := by omega
  have HO := Lib.hid hown0
  have HCB := Lib.hid hcb
  have HCO := Lib.hid hco
  have HN := Lib.hid hn
  have HV := Lib.hid hv
  clear hown0 hcb hco hn hv hown
  obtain ⟨g9, cap9, w1, happ, hown1, hgrow, hat9, hlt9⟩ := run_append_lies (P := Tryz.prog) (W5.alloc (.cells #[.int .i64 0, .int .i64 0, .string ⟨#[]⟩, .int .i64 0, .int .i64 0, .string ⟨#[]⟩, .slice none 0 0] 49 (0, 0))).drew 25 25 w.heap.size 49 i0 (.agg #[.int .i64 0, .int .i64 0, .string ⟨#[]⟩, .int .i64 0, .int .i64 0, .string ⟨#[]⟩, .slice none 0 0]) 7 88 Tryz.underlying25 HI0.out HZ0.out HZ1.out HZ2.out rfl (by decide) (.slice A n c) n inner (own_drew (HO.out.alloc _)) ⟨W5.heap.size, 0, none⟩ 1 1 zFrag rfl (World.news_of_block (blk_drew (blk_new _ _))) (by simp [zFrag, Value.oneCell']) (by decide) (by simp only [maxLen]; omega) (by omega) (by simp; omega) (W5.heap.size + 1) (by simp)
  replace happ : (appSem #[25, 25] 25 #[.slice A n c, .slice (some ⟨W5.heap.size, 0, none⟩) 1 1]).run Tryz.prog _ = _ := happ
  obtain ⟨⟨y0, y1, y2, y3, y4, y5, y6⟩, ⟨z0, z1, z2, z3, z4, z5, z6⟩⟩ := last_cells hown1
  have kc1 : w1.cell? ⟨cb, co, none⟩ = some (.slice A n c) := (blk_cell (blk_grown (blk_drew (blk_alloc HCB.out _)) hgrow hcn) co).trans HCO.out
  have fc0 : W5.frozen? ⟨cb, co, none⟩ = false := blk_frozen HCB.out co
  have fc1 : w1.frozen? ⟨cb, co, none⟩ = false := blk_frozen (blk_grown (blk_drew (blk_alloc HCB.out _)) hgrow hcn) co
  have hne9 : cb ≠ g9 := by
    rintro rfl
    rcases hat9 with e | e
    · exact hcn e.symm
    · have := blk_lt HCB.out
      omega
  have hne9' : g9 ≠ cb := fun e => hne9 e.symm
  have HKA : Kc W5 (.slice A n c) cb co w1 := Kc.grown (Kc.drew (Kc.alloc (Kc.refl _ _ _ _) _)) hgrow
  have kca : (W5.alloc (.cells #[.int .i64 0, .int .i64 0, .string ⟨#[]⟩, .int .i64 0, .int .i64 0, .string ⟨#[]⟩, .slice none 0 0] 49 (0, 0))).cell? ⟨cb, co, none⟩ = some (.slice A n c) := (blk_cell (blk_alloc HCB.out _) co).trans HCO.out
  obtain ⟨a0, a1, a2, a3, a4, a5, a6⟩ := hS (W5.alloc (.cells #[.int .i64 0, .int .i64 0, .string ⟨#[]⟩, .int .i64 0, .int .i64 0, .string ⟨#[]⟩, .slice none 0 0] 49 (0, 0))) (Kc.alloc (Kc.refl _ _ _ _) _)
  obtain ⟨b0, b1, b2, b3, b4, b5, b6⟩ := hS w1 HKA
  obtain ⟨d0, d1, d2, d3, d4, d5, d6⟩ := hS (w1.setCell ⟨cb, co, none⟩ (.slice (some ⟨g9, 0, none⟩) (n + 1) cap9)) (Kc.setCur HKA _)
  clear hS
  have HV1 := Lib.hid (blk_grown (blk_drew (blk_alloc HV5.out (.cells #[.int .i64 0, .int .i64 0, .string ⟨#[]⟩, .int .i64 0, .int .i64 0, .string ⟨#[]⟩, .slice none 0 0] 49 (0, 0)))) hgrow hvn)
  have HR1 := Lib.hid (blk_grown (blk_drew (blk_alloc HRR5.out (.cells #[.int .i64 0, .int .i64 0, .string ⟨#[]⟩, .int .i64 0, .int .i64 0, .string ⟨#[]⟩, .slice none 0 0] 49 (0, 0)))) hgrow hrn)
  have hv9 : vb ≠ g9 := by
    rintro rfl
    rcases hat9 with e | e
    · exact hvn e.symm
    · have := blk_lt HV5.out
      omega
  have hr9 : rb ≠ g9 := by
    rintro rfl
    rcases hat9 with e | e
    · exact hrn e.symm
    · have := blk_lt HRR5.out
      omega
  have HOWN := Lib.hid hown1
  have HGROW := Lib.hid hgrow
  have HAT := Lib.hid hat9
  have HVN := Lib.hid hvn
  have HRN := Lib.hid hrn
  have HHC := Lib.hid hcn
  have KEY : Hid (∀ wc : World, (wc = (((((((w1.setCell ⟨g9, n * 7, none⟩ (.int .i64 T.f0)).setCell ⟨g9, n * 7 + 1, none⟩ (.int .i64 T.f1)).setCell ⟨g9, n * 7 + 2, none⟩ (.string T.f2)).setCell ⟨g9, n * 7 + 3, none⟩ (.int .i64 T.f3)).setCell ⟨g9, n * 7 + 4, none⟩ (.int .i64 T.f4)).setCell ⟨g9, n * 7 + 5, none⟩ (.string T.f2)).setCell ⟨g9, n * 7 + 6, none⟩ (.slice A6 n6 c6)).setCell ⟨cb, co, none⟩ (.slice (some ⟨g9, 0, none⟩) (n + 1) cap9) ∨ wc = ((((((((w1.setCell ⟨cb, co, none⟩ (.slice (some ⟨g9, 0, none⟩) (n + 1) cap9)).setCell ⟨g9, n * 7, none⟩ (.int .i64 T.f0)).setCell ⟨g9, n * 7 + 1, none⟩ (.int .i64 T.f1)).setCell ⟨g9, n * 7 + 2, none⟩ (.string T.f2)).setCell ⟨g9, n * 7 + 3, none⟩ (.int .i64 T.f3)).setCell ⟨g9, n * 7 + 4, none⟩ (.int .i64 T.f4)).setCell ⟨g9, n * 7 + 5, none⟩ (.string T.f2)).setCell ⟨g9, n * 7 + 6, none⟩ (.slice A6 n6 c6))) → (Hid (RdZ w g A0 c0 l A1 c1 ws at_ (addT top ⟨T, T.f2, f.kids⟩ r) (addP ⟨T, T.f2, f.kids⟩ (r.map Fr.pf)) (fun k => k = vb ∨ k = rb ∨ Z k) wc) ∧ Hid (wc.heap[vb]? = some (.cells #[.int .i64 T.f0, .int .i64 T.f1, .string T.f2, .int .i64 T.f3, .int .i64 T.f4, .string T.f2, .slice A6 n6 c6] 49 (0, 0))) ∧ Hid (wc.heap[rb]? = some (.cells #[.int .i64 0, .int .i64 0, .string ⟨#[]⟩, .int .i64 0, .int .i64 0, .string ⟨#[]⟩, .slice none 0 0] 49 (0, 0))) ∧ Hid (∀ W', (∀ k, k ≠ rb → ¬ Z k → W'.heap[k]? = wc.heap[k]?) → Kd.C k49 W' A6 f.kids.length f.kids) ∧ Hid (∀ k, Z k → wc.heap[k]? = W.heap[k]?))) := Lib.hid (by
    intro wc hwc
    obtain ⟨e1, e2⟩ := Rd.ended H5.out HCA.out (by rw [HV.out, HN.out]) HN.out HIN.out (z := .cells #[.int .i64 0, .int .i64 0, .string ⟨#[]⟩, .int .i64 0, .int .i64 0, .string ⟨#[]⟩, .slice none 0 0] 49 (0, 0)) HGROW.out HOWN.out HAT.out (x := ⟨T, T.f2, f.kids⟩) (okx := fun k => o k = f.blk + 3) (y0 := .int .i64 T.f0) (y1 := .int .i64 T.f1) (y2 := .string T.f2) (y3 := .int .i64 T.f3) (y4 := .int .i64 T.f4) (y5 := .string T.f2) (y6 := .slice A6 n6 c6) (by
        have h6 := k49_mkM W5 w.heap.size (fun k => o k = f.blk + 3) ⟨T, T.f2, f.kids⟩ HR5.out
        rw [HKV.out, HN6.out] at h6
        exact h6) (fun k hk => by
        refine ⟨by omega, by omega, by omega, fun f' hf' e => ?_⟩
        have := (List.pairwise_cons.1 H0.out.nd).1 f' hf'
        omega) hZ.out hwc
    refine ⟨Lib.hid e1, Lib.hid ?_, Lib.hid ?_, Lib.hid ?_, Lib.hid ?_⟩
    · exact e2.blk HV5.out (by rw [HCA.out, HV.out, HN.out]; rintro (h | h); exact hvc h; exact HVN.out h)
    · exact e2.blk HRR5.out (by rw [HCA.out, HV.out, HN.out]; rintro (h | h); exact hrc h; exact HRN.out h)
    · have h7 := Kd.R_move (Kd.R_bound HR5.out) (fun k hk => e2.block k hk.2.2.1 (by
        have h1 : o k = f.blk + 3 := hk.1
        rintro (h | h)
        · have h2 : o (curA g r).block = 0 := by
            cases r with
            | nil => exact H5.out.og
            | cons f' r' => exact (H5.out.frs f' List.mem_cons_self).2.1
          rw [← h, h1] at h2
          omega
        · have h2 : o k = curO r := H5.out.curR.1 k h.symm
          rw [h1] at h2
          cases r with
          | nil => simp [curO] at h2
          | cons f' r' =>
            have := (List.pairwise_cons.1 H0.out.nd).1 f' List.mem_cons_self
            simp only [curO] at h2
            omega))
      intro W' hw
      have h8 := Kd.R_move h7 (fun k hk => hw k (by
        rintro rfl
        have h1 : o k = f.blk + 3 := hk.1
        rw [(hZ.out k (.inr (.inl rfl))).2.1] at h1
        omega) (by
        intro hz
        have h1 : o k = f.blk + 3 := hk.1
        rw [(hZ.out k (.inr (.inr hz))).2.1] at h1
        omega))
      rw [HKV.out] at h8
      exact (Kd.R_reads' h8).2.2
    · intro k hk
      have hz := hZ.out k (.inr (.inr hk))
      refine (e2.block k hz.1 ?_).trans (HZ5.out k hk)
      rintro (h | h)
      · cases r with
        | nil => exact hz.2.2.1 h
        | cons f' r' => exact hz.2.2.2 f' List.mem_cons_self h
      · have h2 : o k = curO r := H5.out.curR.1 k h.symm
        rw [hz.2.1] at h2
        cases r <;> simp [curO] at h2)
  have HS5 := Lib.hid hs5
  have HS4 := Lib.hid hs4
  clear hown1 hgrow hat9 HI0 HZ0 HZ1 HZ2 HKA hcn hs5 hs4
  go_upto_region 7 with (fail)
  go_cut [] (fun wc => Hid (RdZ w g A0 c0 l A1 c1 ws at_ (addT top ⟨T, T.f2, f.kids⟩ r) (addP ⟨T, T.f2, f.kids⟩ (r.map Fr.pf)) (fun k => k = vb ∨ k = rb ∨ Z k) wc) ∧ Hid (wc.heap[vb]? = some (.cells #[.int .i64 T.f0, .int .i64 T.f1, .string T.f2, .int .i64 T.f3, .int .i64 T.f4, .string T.f2, .slice A6 n6 c6] 49 (0, 0))) ∧ Hid (wc.heap[rb]? = some (.cells #[.int .i64 0, .int .i64 0, .string ⟨#[]⟩, .int .i64 0, .int .i64 0, .string ⟨#[]⟩, .slice none 0 0] 49 (0, 0))) ∧ Hid (∀ W', (∀ k, k ≠ rb → ¬ Z k → W'.heap[k]? = wc.heap[k]?) → Kd.C k49 W' A6 f.kids.length f.kids) ∧ Hid (∀ k, Z k → wc.heap[k]? = W.heap[k]?))
  case first =>
    go_region
    all_goals go_wp2
    all_goals go_meet
    all_goals case rel =>
      exact KEY.out _ (by first | (left; with_reducible rfl) | (right; with_reducible rfl))
  case rest =>
    obtain ⟨HF, HVF, HRF, HCF, HZF⟩ := hcut
    clear HIN HO HCB HCO HN HV HV1 HR1 HGROW HAT HOWN HVN HHC HRN happ y0 y1 y2 y3 y4 y5 y6 z0 z1 z2 z3 z4 z5 z6 kc kc1 fc0 fc1 kca a0 a1 a2 a3 a4 a5 a6 b0 b1 b2 b3 b4 b5 b6 d0 d1 d2 d3 d4 d5 d6 v0 v1 v2 v3 v4 v5 v6 hgn hcg hvn hrn
    have v0 : wc.cell? ⟨vb, 0, none⟩ = some (.int .i64 T.f0) := blk_cell HVF.out 0
    have v1 : wc.cell? ⟨vb, 1, none⟩ = some (.int .i64 T.f1) := blk_cell HVF.out 1
    have v2 : wc.cell? ⟨vb, 2, none⟩ = some (.string T.f2) := blk_cell HVF.out 2
    have v3 : wc.cell? ⟨vb, 3, none⟩ = some (.int .i64 T.f3) := blk_cell HVF.out 3
    have v4 : wc.cell? ⟨vb, 4, none⟩ = some (.int .i64 T.f4) := blk_cell HVF.out 4
    have v5 : wc.cell? ⟨vb, 5, none⟩ = some (.string T.f2) := blk_cell HVF.out 5
    have v6 : wc.cell? ⟨vb, 6, none⟩ = some (.slice A6 n6 c6) := blk_cell HVF.out 6
    have r0 : wc.cell? ⟨rb, 0, none⟩ = some (.int .i64 0) := blk_cell HRF.out 0
    have r1 : wc.cell? ⟨rb, 1, none⟩ = some (.int .i64 0) := blk_cell HRF.out 1
    have r2 : wc.cell? ⟨rb, 2, none⟩ = some (.string ⟨#[]⟩) := blk_cell HRF.out 2
    have r3 : wc.cell? ⟨rb, 3, none⟩ = some (.int .i64 0) := blk_cell HRF.out 3
    have r4 : wc.cell? ⟨rb, 4, none⟩ = some (.int .i64 0) := blk_cell HRF.out 4
    have r5 : wc.cell? ⟨rb, 5, none⟩ = some (.string ⟨#[]⟩) := blk_cell HRF.out 5
    have r6 : wc.cell? ⟨rb, 6, none⟩ = some (.slice none 0 0) := blk_cell HRF.out 6
    have f0 : wc.frozen? ⟨rb, 0, none⟩ = false := blk_frozen HRF.out 0
    have f1 : wc.frozen? ⟨rb, 1, none⟩ = false := blk_frozen HRF.out 1
    have f2 : wc.frozen? ⟨rb, 2, none⟩ = false := blk_frozen HRF.out 2
    have f3 : wc.frozen? ⟨rb, 3, none⟩ = false := blk_frozen HRF.out 3
    have f4 : wc.frozen? ⟨rb, 4, none⟩ = false := blk_frozen HRF.out 4
    have f5 : wc.frozen? ⟨rb, 5, none⟩ = false := blk_frozen HRF.out 5
    have f6 : wc.frozen? ⟨rb, 6, none⟩ = false := blk_frozen HRF.out 6
    go_wp2
    obtain ⟨WF, hWF⟩ : ∃ WF, ((((((wc.setCell ⟨rb, 0, none⟩ (.int .i64 T.f0)).setCell ⟨rb, 1, none⟩ (.int .i64 T.f1)).setCell ⟨rb, 2, none⟩ (.string T.f2)).setCell ⟨rb, 3, none⟩ (.int .i64 T.f3)).setCell ⟨rb, 4, none⟩ (.int .i64 T.f4)).setCell ⟨rb, 5, none⟩ (.string T.f2)).setCell ⟨rb, 6, none⟩ (.slice A6 n6 c6) = WF := ⟨_, rfl⟩
    rw [hWF]
    have hrw : w.heap.size ≤ rb := by
      have := H0.out.bel.size
      have := HRB.out
      omega
    have hZF := hWF ▸ (((((((HF.out.far (.inr (.inl rfl)) hrw 0 _).far (.inr (.inl rfl)) hrw 1 _).far (.inr (.inl rfl)) hrw 2 _).far (.inr (.inl rfl)) hrw 3 _).far (.inr (.inl rfl)) hrw 4 _).far (.inr (.inl rfl)) hrw 5 _).far (.inr (.inl rfl)) hrw 6 _)
    have hbF : WF.heap[rb]? = some (.cells #[.int .i64 T.f0, .int .i64 T.f1, .string T.f2, .int .i64 T.f3, .int .i64 T.f4, .string T.f2, .slice A6 n6 c6] 49 (0, 0)) := hWF ▸ blk_put (blk_put (blk_put (blk_put (blk_put (blk_put (blk_put HRF.out 0 _ rfl) 1 _ rfl) 2 _ rfl) 3 _ rfl) 4 _ rfl) 5 _ rfl) 6 _ rfl
    have hCF : ∀ W2 : World, (∀ k, ¬ Z k → W2.heap[k]? = WF.heap[k]?) → Kd.C k49 W2 A6 f.kids.length f.kids := fun W2 hw2 => HCF.out W2 (fun k hk hz => by
      refine (hw2 k hz).trans ?_
      rw [← hWF]
      exact (Below.heap_setCell _ _ _ k hk).trans ((Below.heap_setCell _ _ _ k hk).trans ((Below.heap_setCell _ _ _ k hk).trans ((Below.heap_setCell _ _ _ k hk).trans ((Below.heap_setCell _ _ _ k hk).trans ((Below.heap_setCell _ _ _ k hk).trans (Below.heap_setCell _ _ _ k hk)))))))
    have z0 : WF.cell? ⟨rb, 0, none⟩ = some (.int .i64 T.f0) := blk_cell hbF 0
    have z1 : WF.cell? ⟨rb, 1, none⟩ = some (.int .i64 T.f1) := blk_cell hbF 1
    have z2 : WF.cell? ⟨rb, 2, none⟩ = some (.string T.f2) := blk_cell hbF 2
    have z3 : WF.cell? ⟨rb, 3, none⟩ = some (.int .i64 T.f3) := blk_cell hbF 3
    have z4 : WF.cell? ⟨rb, 4, none⟩ = some (.int .i64 T.f4) := blk_cell hbF 4
    have z5 : WF.cell? ⟨rb, 5, none⟩ = some (.string T.f2) := blk_cell hbF 5
    have z6 : WF.cell? ⟨rb, 6, none⟩ = some (.slice A6 n6 c6) := blk_cell hbF 6
    refine bodyPost_ret (v := .agg #[.int .i64 T.f0, .int .i64 T.f1, .string T.f2, .int .i64 T.f3, .int .i64 T.f4, .string T.f2, .slice A6 n6 c6]) (by simp [results, Tryz.results128, go_sem, z0, z1, z2, z3, z4, z5, z6]) rfl ?_
    refine ⟨A6, c6, by rw [HN6.out], HLE.out, hCF, ?_⟩
    rw [addT_map]
    obtain ⟨o2, tv2, sv2, fs2, hq1, hq2, hq3⟩ := hZF
    refine ⟨⟨o2, tv2, sv2, fs2, hq1, hq2, fun k hk => hq3 k (.inr (.inr hk))⟩, fun k hk => ?_⟩
    have hkr : k ≠ rb := by
      have := (HZ0'.out k hk).1
      have := HRB.out
      omega
    rw [← hWF]
    exact ((Below.heap_setCell _ _ _ k hkr).trans ((Below.heap_setCell _ _ _ k hkr).trans ((Below.heap_setCell _ _ _ k hkr).trans ((Below.heap_setCell _ _ _ k hkr).trans ((Below.heap_setCell _ _ _ k hkr).trans ((Below.heap_setCell _ _ _ k hkr).trans (Below.heap_setCell _ _ _ k hkr))))))).trans (HZF.out k hk)
end
end Go.Proofs.YtipnlgmeonepfaaGreatDoor.PFa
