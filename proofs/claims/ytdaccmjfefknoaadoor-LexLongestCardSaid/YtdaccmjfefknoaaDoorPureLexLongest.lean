/- LexLongest, without Go and memory. -/
import Derived.Test.YtdaccmjfefknoaaDoorPLax9
import Derived.Test.YtdaccmjfefknoaaDoorPScan
import Derived.Test.YtdaccmjfefknoaaDoorPSane
set_option linter.unusedVariables false
set_option linter.unusedSimpArgs false
namespace Go.Proofs.YtdaccmjfefknoaaDoor.Pure
open Go.RowKit Go.Proofs.YtdaccmjfefknoaaDoor.PLa Go.Proofs.YtdaccmjfefknoaaDoorW.PrintWords Go.Proofs.YtdaccmjfefknoaaDoorW.PrintLast

theorem bt_byte (a : ByteArray) (i : Nat) (h : i < a.size) : bt a (i : Int) = (Lx.byteAt a.data.toList i : Int) := by
  unfold bt Lx.byteAt
  rw [dif_pos (by simpa using h)]
  simp only [Int.toNat_natCast]
  rw [← Lx.getElem_list a i h, List.getD_eq_getElem?_getD, List.getElem?_eq_getElem (by rw [size_list]; exact h)]
  rfl
/-- A token and the byte behind it: no token, but for a colon and a minus. -/
theorem more_kind {a0 : ByteArray} {l : List Lx.Piece} (h : Lx.pieces a0.data.toList = .ok l) (p : Lx.Piece) (hp : p ∈ l) (hk : p.kind ≤ 6) (hlt : p.at_ + p.len < a0.size) (k : Nat) (hkk : 20000 < k)
    (h58 : Lx.byteAt a0.data.toList (p.at_ + p.len) ≠ 58) (h45 : (txt a0 p).data.toList ≠ [45]) : lex_Kind.f k (a0.extract p.at_ (p.at_ + p.len + 1)) = some 0 := by
  rw [kind_f _ k hkk]
  cases ho : one (a0.extract p.at_ (p.at_ + p.len + 1)) with
  | none => rfl
  | some q =>
    exfalso
    obtain ⟨hn, hq, _⟩ := one_next ho
    obtain ⟨op, h1, h2, _⟩ := Lx.pieces_next h p hp
    have hu : (a0.extract p.at_ (p.at_ + p.len + 1)).data.toList = (a0.data.toList.drop p.at_).take (p.len + 1) := by
      rw [extract_list, show p.at_ + p.len + 1 - p.at_ = p.len + 1 from by omega]
    have hs : (a0.extract p.at_ (p.at_ + p.len + 1)).size = p.len + 1 := by rw [ByteArray.size_extract]; omega
    rw [hu, hs] at hn
    rcases Lx.more h2 hk (by rw [List.length_drop, size_list]; omega) hn hq with e | e
    · rw [Lx.byteAt_drop] at e
      exact h58 e
    · rw [← txt_list] at e
      exact h45 e
theorem longest_loop (a0 : ByteArray) (l : List Lx.Piece) (h : Lx.pieces a0.data.toList = .ok l) (hs : a0.size ≤ 20000) (hll : l.length ≤ 20000) : ∀ (rest pre : List Lx.Piece) (k : Nat), (∀ p ∈ rest, p ∈ l ∧ p.kind ≤ 6) → pre.length + rest.length ≤ 20000 → 2 * rest.length + 20010 < k →
    skerrylaw01_LexLongest.l0 k a0 true ((pre ++ rest).map (tok a0)) (pre.length : Int) = some true
  | rest, pre, 0, _, _, hk => by omega
  | rest, pre, 1, _, _, hk => by omega
  | [], pre, k + 2, hm, hn, hk => by
    unfold skerrylaw01_LexLongest.l0
    rw [if_neg (by simp)]
  | p :: rest, pre, k + 2, hm, hn, hk => by
    obtain ⟨hp, hkind⟩ := hm p List.mem_cons_self
    obtain ⟨op, h1, h2, _⟩ := Lx.pieces_next h p hp
    rw [size_list] at h1
    simp only [List.length_cons] at hn hk
    have h7 : (pre.length : Int) < (((pre ++ p :: rest).map (tok a0)).length : Int) := by simp <;> omega
    have ih := longest_loop a0 l h hs hll rest (pre ++ [p]) k (fun q hq => hm q (List.mem_cons_of_mem _ hq)) (by simp; omega) (by omega)
    simp only [List.append_assoc, List.cons_append, List.nil_append, List.length_append, List.length_cons, List.length_nil, Nat.zero_add] at ih
    rw [show (((pre.length + 1 : Nat) : Int)) = (pre.length : Int) + 1 from by omega] at ih
    have go : ∀ e, skerrylaw01_LexLongest.j1 (k + 1) a0 true ((pre ++ p :: rest).map (tok a0)) (pre.length : Int) e true = some true := by
      intro e
      rw [skerrylaw01_LexLongest.j1, if_pos rfl, small _ (by omega) (by omega)]
      exact ih
    have hsz := txt_size a0 p h1
    unfold skerrylaw01_LexLongest.l0
    rw [if_pos h7, if_pos (by omega), rd_tok (tok a0) pre p rest]
    have hf3 : (tok a0 p).f3 = (p.at_ : Int) := rfl
    have hf2 : (tok a0 p).f2 = txt a0 p := rfl
    rw [hf3, hf2, hsz, small ((p.at_ : Int) + p.len) (by omega) (by omega)]
    by_cases hge : p.at_ + p.len < a0.size
    · rw [if_neg (by omega), if_pos (by omega), if_pos (by omega)]
      have hb := bt_byte a0 (p.at_ + p.len) hge
      rw [show ((p.at_ + p.len : Nat) : Int) = (p.at_ : Int) + p.len from by omega] at hb
      rw [hb]
      by_cases h58 : Lx.byteAt a0.data.toList (p.at_ + p.len) = 58
      · rw [if_pos (by omega)]
        exact go _
      · rw [if_neg (by omega)]
        by_cases h45 : (txt a0 p).data.toList = [45]
        · rw [show ((txt a0 p).toList == ([45] : List UInt8)) = true from by rw [Lib.toList_data, h45]; rfl]
          exact go _
        · rw [show ((txt a0 p).toList == ([45] : List UInt8)) = false from by rw [Lib.toList_data]; simpa using h45]
          rw [skerrylaw01_LexLongest.j1, if_neg (by simp), if_pos (by omega), if_pos h7, rd_tok (tok a0) pre p rest, hf3, small ((p.at_ : Int) + p.len + 1) (by omega) (by omega)]
          rw [if_pos (by omega), if_pos (by omega), if_pos (by omega)]
          rw [Int.toNat_natCast, show ((p.at_ : Int) + p.len + 1).toNat = p.at_ + p.len + 1 from by omega, more_kind h p hp hkind hge k (by omega) h58 h45, Option.bind_some, if_pos rfl, small ((pre.length : Int) + 1) (by omega) (by omega)]
          exact ih
    · rw [if_pos (by omega)]
      exact go _
theorem LexLongest : skerrylaw01_LexLongest.Pure := by
  intro a0 _
  refine ⟨70000, ?_⟩
  unfold skerrylaw01_LexLongest.f
  rw [sane_k _ (by omega), Option.bind_some]
  cases hp : Lx.pieces a0.data.toList with
  | ok l =>
    obtain ⟨hc, hs⟩ := Lx.pieces_chain hp
    rw [size_list] at hc hs
    have hl := chain_len _ _ _ hc
    have hf := List.length_filter_le isTok l
    rw [scan_ok hp _ (by omega), Option.bind_some]
    dsimp only
    rw [if_pos rfl]
    exact longest_loop a0 l hp hs (by omega) (l.filter isTok) [] 70000 (fun p hp => ⟨(List.mem_filter.1 hp).1, of_decide_eq_true (List.mem_filter.1 hp).2⟩) (by simp; omega) (by omega)
  | error e =>
    rw [scan_err hp, Option.bind_some]
    dsimp only
    rw [if_neg (Lx.pieces_error hp)]
end Go.Proofs.YtdaccmjfefknoaaDoor.Pure
