/- LexGaps, without Go and memory. -/
import Derived.Test.YtdaccmjfefknoaaDoorPLax13
import Derived.Test.YtdaccmjfefknoaaDoorPUpd
import Derived.Test.YtdaccmjfefknoaaDoorPSane
import Derived.Test.YtdaccmjfefknoaaDoorLxGaps
set_option linter.unusedVariables false
set_option linter.unusedSimpArgs false
namespace Go.Proofs.YtdaccmjfefknoaaDoor.Pure
open Go.RowKit Go.Proofs.YtdaccmjfefknoaaDoor.PLa Go.Proofs.YtdaccmjfefknoaaDoorW.PrintWords Go.Proofs.YtdaccmjfefknoaaDoorW.PrintLast

theorem bt_nat (a : ByteArray) (i : Nat) (h : i < a.size) : bt a (i : Int) = (Lx.byteAt a.data.toList i : Int) := by
  unfold bt Lx.byteAt
  rw [dif_pos (by simpa using h)]
  simp only [Int.toNat_natCast]
  rw [← Lx.getElem_list a i h, List.getD_eq_getElem?_getD, List.getElem?_eq_getElem (by rw [size_list]; exact h)]
  rfl
theorem append_list (a b : ByteArray) : (a ++ b).data.toList = a.data.toList ++ b.data.toList := by rw [ByteArray.data_append, Array.toList_append]
/-! ### The comment -/
def Plain (f : List UInt8) : Prop := (∀ x ∈ f, x.toNat ≠ 42 ∧ x.toNat ≠ 47) ∧ f.length ≤ 40
theorem gap_loop (a0 : ByteArray) : ∀ (m i k : Nat) (x3 : ByteArray) (fl : List UInt8), 40 - i ≤ m → i ≤ 40 → i ≤ a0.size → x3.data.toList = [32, 47, 42, 32] ++ fl → (∀ x ∈ fl, x.toNat ≠ 42 ∧ x.toNat ≠ 47) → fl.length ≤ i → 3 * m + 3 ≤ k →
    ∃ g fl', skerrylaw01_gap.l0 k a0 x3 (i : Int) = some g ∧ g.data.toList = Lx.gapOf fl' ∧ Plain fl'
  | m, i, 0, x3, fl, _, _, _, _, _, _, hk => by omega
  | m, i, 1, x3, fl, _, _, _, _, _, _, hk => by omega
  | m, i, 2, x3, fl, _, _, _, _, _, _, hk => by omega
  | m, i, k + 3, x3, fl, hm, hi, hia, hx, hf, hl, hk => by
    have hsz : x3.size = fl.length + 4 := by rw [← size_list, hx]; simp <;> omega
    have stop : ∃ g fl', skerrylaw01_gap.j1 (k + 2) a0 x3 (i : Int) false = some g ∧ g.data.toList = Lx.gapOf fl' ∧ Plain fl' := by
      refine ⟨x3 ++ ⟨#[32, 42, 47, 32]⟩, fl, ?_, ?_, hf, by omega⟩
      · rw [skerrylaw01_gap.j1, if_neg (by simp), if_pos (by omega)]
      · rw [append_list, hx]; rfl
    unfold skerrylaw01_gap.l0
    by_cases hlt : i < a0.size
    · rw [if_pos (by omega)]
      by_cases h40 : i < 40
      · rw [decide_eq_true (by omega), skerrylaw01_gap.j1, if_pos rfl, if_pos (by omega), if_pos (by omega), bt_nat a0 i hlt]
        have hw : wrap64 ((i : Int) + 1) = ((i + 1 : Nat) : Int) := by rw [small _ (by omega) (by omega)]; omega
        have skip : ∃ g fl', skerrylaw01_gap.j2 (k + 1) a0 x3 (i : Int) false = some g ∧ g.data.toList = Lx.gapOf fl' ∧ Plain fl' := by
          rw [skerrylaw01_gap.j2, if_neg (by simp), hw]
          exact gap_loop a0 (m - 1) (i + 1) k x3 fl (by omega) (by omega) (by omega) hx hf (by omega) (by omega)
        by_cases h42 : Lx.byteAt a0.data.toList i = 42
        · rw [if_pos (by omega)]
          exact skip
        · rw [if_neg (by omega)]
          by_cases h47 : Lx.byteAt a0.data.toList i = 47
          · rw [h47]
            exact skip
          · have hb : ((Lx.byteAt a0.data.toList i : Int) != 47) = true := by
              rw [bne_iff_ne]
              omega
            rw [hb, skerrylaw01_gap.j2, if_pos rfl, hw, if_pos (by omega), if_pos (by omega), if_pos (by omega)]
            have hes : (a0.extract ((i : Int)).toNat (((i + 1 : Nat) : Int)).toNat).data.toList = [a0.data.toList[i]'(by rw [size_list]; exact hlt)] := by
              rw [Int.toNat_natCast, Int.toNat_natCast, extract_list, show i + 1 - i = 1 from by omega, List.drop_eq_getElem_cons (by rw [size_list]; exact hlt)]
              rfl
            have hez : (a0.extract ((i : Int)).toNat (((i + 1 : Nat) : Int)).toNat).size = 1 := by rw [← size_list, hes]; rfl
            rw [if_pos (by omega)]
            refine gap_loop a0 (m - 1) (i + 1) k _ (fl ++ [a0.data.toList[i]'(by rw [size_list]; exact hlt)]) (by omega) (by omega) (by omega) ?_ ?_ (by simp; omega) (by omega)
            · rw [append_list, hx, hes, List.append_assoc]
            · intro x hxm
              rcases List.mem_append.1 hxm with h | h
              · exact hf x h
              · rw [List.mem_singleton.1 h]
                have e : Lx.byteAt a0.data.toList i = (a0.data.toList[i]'(by rw [size_list]; exact hlt)).toNat := by
                  unfold Lx.byteAt
                  rw [List.getD_eq_getElem?_getD, List.getElem?_eq_getElem (by rw [size_list]; exact hlt)]
                  rfl
                rw [← e]
                exact ⟨h42, h47⟩
      · rw [decide_eq_false (by omega)]
        exact stop
    · rw [if_neg (by omega)]
      exact stop
theorem gap_f (a0 : ByteArray) (k : Nat) (hk : 200 ≤ k) : ∃ g fl, skerrylaw01_gap.f k a0 = some g ∧ g.data.toList = Lx.gapOf fl ∧ Plain fl := by
  unfold skerrylaw01_gap.f
  exact gap_loop a0 40 0 k _ [] (by omega) (by omega) (by omega) rfl (by simp) (by simp) (by omega)
theorem mod_f (n : Int) (m : Nat) (h0 : 0 < m) (hm : m ≤ 100000) : ∃ r : Nat, r < m ∧ skerryref01_Mod.f n (m : Int) = some (r : Int) := by
  unfold skerryref01_Mod.f
  have h1 := Int.tmod_lt_of_pos n (show (0 : Int) < m by omega)
  have h2 := Int.lt_tmod_of_pos n (show (0 : Int) < m by omega)
  rw [if_neg (by omega)]
  by_cases hn : Int.tmod n (m : Int) < 0
  · rw [if_pos hn, small _ (by omega) (by omega)]
    exact ⟨(Int.tmod n (m : Int) + m).toNat, by omega, by congr 1; omega⟩
  · rw [if_neg hn]
    exact ⟨(Int.tmod n (m : Int)).toNat, by omega, by congr 1; omega⟩
/-! ### Equal tokens -/
theorem same_tok_loop (x y : List S54) (hl : x.length = y.length) (hb : x.length ≤ 100000) (he : ∀ (j : Nat) (h : j < x.length), x[j].f0 = (y[j]'(by omega)).f0 ∧ x[j].f1 = (y[j]'(by omega)).f1 ∧ x[j].f2 = (y[j]'(by omega)).f2) : ∀ (m j k : Nat), x.length - j ≤ m → j ≤ x.length → 2 * m + 2 ≤ k → skerryref01_Same.l0 k x y true (j : Int) = some true
  | m, j, 0, _, _, h => by omega
  | m, j, 1, _, _, h => by omega
  | m, j, k + 2, hm, hj, hk => by
    unfold skerryref01_Same.l0
    rw [if_pos rfl]
    by_cases hlt : j < x.length
    · have rx : rd_T54 x (j : Int) = x[j] := by simp [rd_T54, hlt]
      have ry : rd_T54 y (j : Int) = y[j]'(by omega) := by simp [rd_T54, show j < y.length by omega]
      obtain ⟨h1, h2, h3⟩ := he j hlt
      rw [decide_eq_true (by omega), skerryref01_Same.j1, if_pos rfl, if_pos (by omega), if_pos (by omega), if_pos (by omega), rx, ry, if_pos h1, if_pos h2, h3, small _ (by omega) (by omega), show (j : Int) + 1 = ((j + 1 : Nat) : Int) from by omega]
      rw [show ((y[j]'(by omega)).f2.toList == (y[j]'(by omega)).f2.toList) = true from by simp]
      exact same_tok_loop x y hl hb he (m - 1) (j + 1) k (by omega) (by omega) (by omega)
    · rw [decide_eq_false (by omega), skerryref01_Same.j1, if_neg (by simp)]
theorem same_toks {a t : ByteArray} {l l2 : List Lx.Piece} (hb : l.length ≤ 100000) (h : (l.filter Lx.tokK).map (fun p => (p.kind, (a.data.toList.drop (p.at_ - 0)).take p.len)) = (l2.filter Lx.tokK).map (fun p => (p.kind, (t.data.toList.drop (p.at_ - 0)).take p.len))) (k : Nat) (hk : 300000 ≤ k) : skerryref01_Same.f k (toks a l) (toks t l2) = some true := by
  have hlen : (toks a l).length = (toks t l2).length := by
    have := congrArg List.length h
    rw [List.length_map, List.length_map] at this
    unfold toks
    rw [List.length_map, List.length_map]
    exact this
  have hle : (toks a l).length ≤ 100000 := by
    unfold toks
    rw [List.length_map]
    have := List.length_filter_le isTok l
    omega
  unfold skerryref01_Same.f
  rw [show (((toks a l).length : Int) == ((toks t l2).length : Int)) = true from by rw [hlen]; simp]
  refine same_tok_loop (toks a l) (toks t l2) hlen hle ?_ (toks a l).length 0 k (by omega) (by omega) (by omega)
  intro j hj
  have hj1 : j < (l.filter isTok).length := by unfold toks at hj; rwa [List.length_map] at hj
  have hj2 : j < (l2.filter isTok).length := by rw [hlen] at hj; unfold toks at hj; rwa [List.length_map] at hj
  have e1 : (toks a l)[j] = tok a ((l.filter isTok)[j]) := List.getElem_map (tok a)
  have e2 : (toks t l2)[j]'(by omega) = tok t ((l2.filter isTok)[j]) := List.getElem_map (tok t)
  have hh := congrArg (fun z => z[j]?) h
  have hh : ((l.filter isTok).map (fun p => (p.kind, (a.data.toList.drop (p.at_ - 0)).take p.len)))[j]? = ((l2.filter isTok).map (fun p => (p.kind, (t.data.toList.drop (p.at_ - 0)).take p.len)))[j]? := hh
  rw [List.getElem?_map, List.getElem?_map, List.getElem?_eq_getElem hj1, List.getElem?_eq_getElem hj2] at hh
  simp only [Option.map_some, Option.some.injEq, Prod.mk.injEq, Nat.sub_zero] at hh
  obtain ⟨hk1, ht1⟩ := hh
  rw [← txt_list, ← txt_list] at ht1
  have ht2 := bytes_ext ht1
  rw [e1, e2]
  refine ⟨?_, ?_, ht2⟩
  · show (((l.filter isTok)[j]).kind : Int) = (((l2.filter isTok)[j]).kind : Int)
    rw [hk1]
  · show (if ((l.filter isTok)[j]).kind = 2 then Lx.valN (txt a ((l.filter isTok)[j])).data.toList else 0) = (if ((l2.filter isTok)[j]).kind = 2 then Lx.valN (txt t ((l2.filter isTok)[j])).data.toList else 0)
    rw [hk1, ht1]
/-! ### The law -/
theorem next_any {op op' : Bool} {s : List UInt8} {k n : Nat} (h : Lx.next op s = .ok (k, n)) (hk : ¬ k ≤ 6) : Lx.next op' s = .ok (k, n) := by
  unfold Lx.next at h ⊢
  split at h
  · rename_i h1
    rw [if_pos h1]; exact h
  · rename_i h1
    rw [if_neg h1]
    split at h
    · rename_i h2
      rw [if_pos h2]; exact h
    · exfalso
      unfold Lx.checked at h
      split at h
      · injection h with h
        have := (Lx.longest_inv op (s.take 100)).1
        rw [h] at this
        exact hk this
      · cases h
theorem chain_total : ∀ (l : List Lx.Piece) (a e : Nat), Lx.Chain l a e → ∀ (r : Nat) (p : Lx.Piece), l[r]? = some p → a + Lx.total (l.take r) = p.at_
  | [], a, e, h, r, p, hp => by simp at hp
  | q :: l, a, e, h, 0, p, hp => by
    obtain ⟨h1, _⟩ := h
    obtain rfl : q = p := by simpa using hp
    rw [h1]; simp [Lx.total]
  | q :: l, a, e, h, r + 1, p, hp => by
    obtain ⟨h1, h2, h3, h4, h5, h6⟩ := h
    have := chain_total l _ _ h6 r p (by simpa using hp)
    have ht : Lx.total ((q :: l).take (r + 1)) = q.len + Lx.total (l.take r) := by simp [Lx.total]
    omega
theorem gap_tokens {s : List UInt8} {l : List Lx.Piece} (h : Lx.pieces s = .ok l) (r : Nat) (p : Lx.Piece) (hp : l[r]? = some p) (del : Nat) (hdel : del = 0 ∨ (7 ≤ p.kind ∧ del = p.len)) (fl : List UInt8) (hf : Plain fl)
    (hlast : ∀ q, (l.take r).getLast? = some q → q.kind = 8 → 2 ≤ q.len → Lx.byteAt s (q.at_ + 1) ≠ 47) : Lx.tk (s.take p.at_ ++ (Lx.gapOf fl ++ s.drop (p.at_ + del))) 0 false = Lx.tk s 0 false := by
  have hpm : p ∈ l := List.mem_of_getElem? hp
  obtain ⟨op, h1, h2, _⟩ := Lx.pieces_next h p hpm
  have hch := (Lx.pieces_chain h).1
  have htot := chain_total l 0 _ hch r p hp
  have hAl : (s.take p.at_).length = p.at_ := by rw [List.length_take]; omega
  have hR : ∀ toks op, Lx.tk (s.drop p.at_) toks op = Lx.tk (Lx.gapOf fl ++ s.drop (p.at_ + del)) toks op := by
    intro toks op'
    rw [Lx.tk_gap fl _ hf.1]
    rcases hdel with rfl | ⟨hk, rfl⟩
    · rfl
    · have hne : s.drop p.at_ ≠ [] := by
        intro e
        have := Lx.chain_ge _ _ _ hch p hpm
        have hl := congrArg List.length e
        rw [List.length_drop] at hl
        simp at hl
        omega
      rw [Lx.tk_skip hne (next_any h2 (by omega)) (by omega), List.drop_drop]
  have hgo : Lx.piecesGo s.length (s.take p.at_ ++ s.drop p.at_) 0 0 false = .ok (l.take r ++ l.drop r) := by
    rw [List.take_append_drop, List.take_append_drop]
    unfold Lx.pieces at h
    split at h
    · cases h
    · exact h
  have hlastp : ∀ q, (l.take r).getLast? = some q → q ∈ l ∧ q.at_ + q.len = p.at_ := by
    intro q hq
    refine ⟨List.mem_of_mem_take (List.mem_of_getLast? hq), ?_⟩
    obtain ⟨r', rfl⟩ : ∃ j, r = j + 1 := by
      cases r with
      | zero => simp at hq
      | succ r => exact ⟨r, rfl⟩
    have hr : r' + 1 < l.length := (List.getElem?_eq_some_iff.1 hp).1
    have hq' : l[r']? = some q := by
      rw [List.getLast?_eq_getElem?, List.length_take, show min (r' + 1) l.length - 1 = r' from by omega, List.getElem?_take_of_lt (by omega)] at hq
      exact hq
    have t1 := chain_total l 0 _ hch r' q hq'
    have e : l.take (r' + 1) = l.take r' ++ [q] := by
      rw [List.take_add_one, hq']
      rfl
    have t2 : Lx.total (l.take (r' + 1)) = Lx.total (l.take r') + q.len := by
      rw [e]
      simp [Lx.total]
    omega
  have hb : Lx.Bnd (s.take p.at_) (s.drop p.at_) := by
    intro i hi h58
    cases hg : (l.take r).getLast? with
    | none =>
      have : l.take r = [] := List.getLast?_eq_none_iff.1 hg
      rw [this] at htot
      simp [Lx.total] at htot
      omega
    | some q =>
      obtain ⟨hqm, hqe⟩ := hlastp q hg
      obtain ⟨op', g1, g2, _⟩ := Lx.pieces_next h q hqm
      have gc := Lx.chain_ge _ _ _ hch q hqm
      have hne : s.drop q.at_ ≠ [] := by
        intro e
        have hl := congrArg List.length e
        rw [List.length_drop] at hl
        simp at hl
        omega
      rw [Lx.byteAt_take s (by omega)] at h58
      have hl58 : Lx.byteAt (s.drop q.at_) (q.len - 1) = 58 := by
        rw [Lx.byteAt_drop, show q.at_ + (q.len - 1) = i from by omega]
        exact h58
      have hline : ¬ (Lx.pre [47, 47] (s.drop q.at_) = true) := by
        intro hpre
        have hq8 : q.kind = 8 ∧ 2 ≤ q.len := by
          unfold Lx.next at g2
          rw [hpre, Bool.true_or, if_pos rfl] at g2
          cases hc : Lx.comment (s.drop q.at_) with
          | error e => rw [hc] at g2; cases g2
          | ok m =>
            rw [hc] at g2
            have g2' : (Except.ok (8, m) : Except Int (Nat × Nat)) = .ok (q.kind, q.len) := g2
            injection g2' with g2'
            injection g2' with e1 e2
            have := Lx.comment_two hc
            exact ⟨e1.symm, by omega⟩
        have hne47 := hlast q hg hq8.1 hq8.2
        obtain ⟨rr, hrr⟩ := Lx.pre2 hpre
        have h47 : Lx.byteAt (s.drop q.at_) 1 = 47 := by rw [hrr]; rfl
        rw [Lx.byteAt_drop] at h47
        exact hne47 h47
      rcases Lx.next_last hne g2 hline hl58 with g3 | ⟨g4, g5⟩
      · left
        unfold Lx.colon at g3
        rw [List.drop_drop, show q.at_ + (q.len - 1) = i from by omega] at g3
        have hi' : i < s.length := by omega
        have hsi : s.drop i = 58 :: s.drop p.at_ := by
          rw [List.drop_eq_getElem_cons hi', show i + 1 = p.at_ from by omega]
          congr 1
          have e : Lx.byteAt s i = (s[i]).toNat := by
            unfold Lx.byteAt
            rw [List.getD_eq_getElem?_getD, List.getElem?_eq_getElem hi']
            rfl
          rw [e] at h58
          exact UInt8.toNat_inj.1 (by rw [h58]; rfl)
        rw [hsi] at g3
        exact g3
      · right
        intro j hj
        rw [Lx.byteAt_take s (by omega)]
        have := g5 (j - q.at_) (by omega)
        rw [Lx.byteAt_drop, show q.at_ + (j - q.at_) = j from by omega] at this
        exact this
  have hG : Lx.gapOf fl ++ s.drop (p.at_ + del) = 32 :: ([47, 42, 32] ++ fl ++ [32, 42, 47, 32] ++ s.drop (p.at_ + del)) := by simp [Lx.gapOf]
  rw [hG]
  have hkeep := Lx.tk_keep (l.take r) (s.take p.at_) (s.drop p.at_) ([47, 42, 32] ++ fl ++ [32, 42, 47, 32] ++ s.drop (p.at_ + del)) s.length 0 0 false (l.drop r) hgo (by omega) hb (by
    intro q hq hq8 hq2
    obtain ⟨hqm, hqe⟩ := hlastp q hq
    rw [hAl, Lx.byteAt_take s (by omega), show p.at_ - q.len + 1 = q.at_ + 1 from by omega]
    exact hlast q hq hq8 hq2) (fun toks op => by rw [hR toks op, hG])
  rw [List.take_append_drop] at hkeep
  exact hkeep.symm
theorem wrap_one {n : Nat} (h : n ≤ 20000) : wrap64 ((n : Int) + 1) = ((n + 1 : Nat) : Int) := by
  rw [small _ (by omega) (by omega)]
  omega
theorem LexGaps : skerrylaw01_LexGaps.Pure := by
  intro a0 n a2 h0 hn h2
  obtain ⟨K, hK⟩ : ∃ K : Nat, 1000000 ≤ K := ⟨1000000, Nat.le_refl _⟩
  refine ⟨K + 1 + 3, ?_⟩
  unfold skerrylaw01_LexGaps.f
  rw [sane_k _ (by omega), Option.bind_some, pieces_f, Option.bind_some]
  dsimp only
  cases hp : Lx.pieces a0.data.toList with
  | error e =>
    obtain ⟨_, e2, _, e4⟩ := out_err hp
    rw [scan_err hp, Option.bind_some]
    dsimp only
    rw [if_neg (by rw [e2]; exact e4), skerrylaw01_LexGaps.j0, if_pos rfl]
  | ok l =>
    obtain ⟨e1, e2, _⟩ := out_ok hp
    obtain ⟨hc, hs0⟩ := Lx.pieces_chain hp
    rw [size_list] at hc hs0
    have hl := chain_len _ _ _ hc
    rw [scan_ok hp _ (by omega), Option.bind_some]
    dsimp only
    have hcl : cells40 a0 = l.map cell40 := by unfold cells40; rw [e1]
    rw [if_pos e2, hcl, List.length_map]
    by_cases hnil : l.length = 0
    · rw [if_pos (by omega), skerrylaw01_LexGaps.j0, if_pos rfl]
    · rw [if_neg (by omega)]
      by_cases hbig : a0.size > 19800
      · rw [decide_eq_true (by omega), skerrylaw01_LexGaps.j0, if_pos rfl]
      · rw [decide_eq_false (by omega), skerrylaw01_LexGaps.j0, if_neg (by simp), List.length_map]
        obtain ⟨r, hr, hmod⟩ := mod_f n l.length (by omega) (by omega)
        obtain ⟨g, fl, hg, hgl, hfl⟩ := gap_f a2 (K + 1 + 2) (by omega)
        rw [hmod, Option.bind_some, if_pos (by omega), if_pos (by omega), hg, Option.bind_some]
        have hrd : ∀ i (hi : i < l.length), rd_T40 (l.map cell40) (i : Int) = cell40 l[i] := fun i hi => by simp [rd_T40, hi]
        rw [hrd r hr]
        obtain ⟨p, hpe⟩ : ∃ p, l[r] = p := ⟨_, rfl⟩
        have hpr : l[r]? = some p := by rw [List.getElem?_eq_getElem hr, hpe]
        rw [hpe]
        have hpm : p ∈ l := List.mem_of_getElem? hpr
        have hpc := Lx.chain_ge _ _ _ hc p hpm
        have hgs : g.size ≤ 48 := by
          rw [← size_list, hgl]
          have := hfl.2
          simp [Lx.gapOf]
          omega
        -- the rest, for a removal of del bytes
        have rest : ∀ (del : Nat), (del = 0 ∨ (7 ≤ p.kind ∧ del = p.len)) → skerrylaw01_LexGaps.j1 (K + 1 + 2) a0 true (l.map cell40) (toks a0 l) (r : Int) (p.at_ : Int) (del : Int) g = some true := by
          intro del hdel
          have hdl : p.at_ + del ≤ a0.size := by
            rcases hdel with rfl | ⟨_, rfl⟩ <;> omega
          have fin : (∀ q, (l.take r).getLast? = some q → q.kind = 8 → 2 ≤ q.len → Lx.byteAt a0.data.toList (q.at_ + 1) ≠ 47) → skerrylaw01_LexGaps.j2 (K + 1 + 1) a0 true (toks a0 l) false (p.at_ : Int) (del : Int) g = some true := by
            intro hlast
            rw [skerrylaw01_LexGaps.j2, if_neg (by simp), change_f _ a0 _ _ g (by omega) (by omega), if_pos (splices_mk hdl), Option.bind_some]
            dsimp only
            have ht := changed_list a0 p.at_ del g hdl
            have hts := changed_size a0 p.at_ del g hdl
            rw [hgl, List.append_assoc] at ht
            obtain ⟨t, hT⟩ : ∃ t, updChanged a0 (p.at_ : Int) (del : Int) g = t := ⟨_, rfl⟩
            rw [hT] at ht hts ⊢
            have htk := gap_tokens hp r p hpr del hdel fl hfl hlast
            rw [← ht] at htk
            have hgo : Lx.piecesGo a0.data.toList.length a0.data.toList 0 0 false = .ok l := by
              have hp' := hp
              unfold Lx.pieces at hp'
              split at hp'
              · cases hp'
              · exact hp'
            have hv := Lx.tk_of_go _ _ _ _ _ _ hgo
            rw [← htk] at hv
            obtain ⟨l2, hl2⟩ := Lx.go_of_tk t.data.toList.length t.data.toList 0 0 false _ (Nat.le_refl _) hv
            have hpt : Lx.pieces t.data.toList = .ok l2 := by
              unfold Lx.pieces
              rw [if_neg (by rw [size_list]; omega)]
              exact hl2
            have hv2 := Lx.tk_of_go _ _ _ _ _ _ hl2
            rw [hv] at hv2
            rw [scan_ok hpt _ (by omega), Option.bind_some]
            dsimp only
            rw [if_pos rfl, if_pos rfl, if_pos rfl, same_toks (by omega) (Option.some.inj hv2) _ (by omega)]
            rfl
          rw [skerrylaw01_LexGaps.j1]
          by_cases hr0 : 0 < r
          · rw [if_pos (by omega), small _ (by omega) (by omega), show (r : Int) - 1 = ((r - 1 : Nat) : Int) from by omega]
            rw [List.length_map, if_pos (by omega), if_pos (by omega), hrd (r - 1) (by omega)]
            obtain ⟨q, hqe⟩ : ∃ q, l[r - 1]'(by omega) = q := ⟨_, rfl⟩
            rw [hqe]
            have hqm : q ∈ l := by rw [← hqe]; exact List.getElem_mem _
            have hqc := Lx.chain_ge _ _ _ hc q hqm
            have hgl' : (l.take r).getLast? = some q := by
              rw [List.getLast?_eq_getElem?, List.length_take, show min r l.length - 1 = r - 1 from by omega, List.getElem?_take_of_lt (by omega), List.getElem?_eq_getElem (by omega), hqe]
            have other : (q.kind = 8 → 2 ≤ q.len → False) → skerrylaw01_LexGaps.j2 (K + 1 + 1) a0 true (toks a0 l) false (p.at_ : Int) (del : Int) g = some true := by
              intro hno
              refine fin fun q' hq' h8 h2' => ?_
              rw [hgl'] at hq'
              injection hq' with hq'
              subst hq'
              exact (hno h8 h2').elim
            have hq0 : q.at_ ≤ 20000 := by omega
            by_cases h8 : q.kind = 8
            · have c8 : (cell40 q).f0 = 8 := by show (q.kind : Int) = 8; rw [h8]; rfl
              rw [if_pos c8]
              by_cases h2' : 1 < q.len
              · have hq1 : q.at_ + 1 < a0.size := by omega
                have c9 : (cell40 q).f2 > 1 := by show (1 : Int) < (q.len : Int); exact Int.ofNat_lt.2 h2'
                have c1 : (0 : Int) ≤ ((q.at_ + 1 : Nat) : Int) := Int.natCast_nonneg _
                have c2 : ((q.at_ + 1 : Nat) : Int) < (a0.size : Int) := Int.ofNat_lt.2 hq1
                have hw : wrap64 ((cell40 q).f1 + 1) = ((q.at_ + 1 : Nat) : Int) := wrap_one hq0
                rw [if_pos c9]
                simp only [hw]
                rw [if_pos c1, if_pos c2, bt_nat a0 _ hq1]
                clear hw
                by_cases h47 : Lx.byteAt a0.data.toList (q.at_ + 1) = 47
                · have e47 : (((47 : Nat) : Int) == 47) = true := rfl
                  rw [h47, e47, skerrylaw01_LexGaps.j2, if_pos rfl]
                · rw [show ((Lx.byteAt a0.data.toList (q.at_ + 1) : Int) == 47) = false from by rw [beq_eq_false_iff_ne]; omega]
                  refine fin fun q' hq' _ _ => ?_
                  rw [hgl'] at hq'
                  injection hq' with hq'
                  subst hq'
                  exact h47
              · have c9 : ¬ (cell40 q).f2 > 1 := by show ¬ (1 : Int) < (q.len : Int); exact fun h => h2' (Int.ofNat_lt.1 h)
                rw [if_neg c9]
                exact other (fun _ h => by omega)
            · have c8 : ¬ (cell40 q).f0 = 8 := by show ¬ (q.kind : Int) = 8; exact fun h => h8 (Int.ofNat_inj.1 h)
              rw [if_neg c8]
              exact other (fun h _ => h8 h)
          · rw [if_neg (by omega)]
            refine fin fun q' hq' _ _ => ?_
            obtain rfl : r = 0 := by omega
            simp at hq'
        by_cases h7 : 7 ≤ p.kind
        · have c7 : (cell40 p).f0 ≥ 7 := by show (7 : Int) ≤ (p.kind : Int); omega
          rw [if_pos c7]
          exact rest p.len (.inr ⟨h7, rfl⟩)
        · have c7 : ¬ (cell40 p).f0 ≥ 7 := by show ¬ (7 : Int) ≤ (p.kind : Int); omega
          rw [if_neg c7]
          exact rest 0 (.inl rfl)
end Go.Proofs.YtdaccmjfefknoaaDoor.Pure
