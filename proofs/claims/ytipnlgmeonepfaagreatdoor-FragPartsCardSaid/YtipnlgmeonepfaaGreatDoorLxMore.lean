/- A token and the byte behind it are no token, but for a colon and a minus. -/
import Derived.Test.YtipnlgmeonepfaaGreatDoorLxTake
namespace Go.Proofs.YtipnlgmeonepfaaGreatDoor.Lx

theorem minus_first (r:List UInt8) (k:Nat):takes true (45::r) k≤1:=by
 have hp:plain (45::r)=0:=by rw [plain_cons,if_neg (by decide)]
 unfold takes pick6
 split
 ·unfold name;rw [hp];simp
 ·unfold integer
  have hm:minus true (45::r)=0:=by unfold minus;rw [if_neg (by simp)]
  rw [hm]
  have h0:allN cD (45::r)=0:=by
   unfold allN
   rw [if_neg (by decide)]
  rw [List.drop_zero,h0]
  simp
 ·unfold keyword;rw [hp];simp
 ·unfold hash
  rw [if_neg (by simp [pre,List.isPrefixOf])]
  omega
 ·unfold sign
  rw [if_neg (by simp [sign2,pre,List.isPrefixOf])]
  dsimp only
  split<;>omega
 ·rw [pattern_cons,if_neg (by decide)]
  omega
theorem longest_more {op:Bool} {s:List UInt8} {k0 n k:Nat} (h:longest op s=(k0,n)) (h0:k0≠0) (hu:longest false (s.take (n+1))=(k,n+1)) (hk:k≠0) (hlt:n<s.length):byteAt s n=58∨s.take n=[45]:=by
 by_cases h58:byteAt s n=58
 ·exact .inl h58
 ·right
  have hg:Good s (n+1):=by
   intro p hp hb
   obtain rfl:p=n:=by omega
   exact absurd hb h58
  have hp:plain s≤n:=Nat.le_trans (plain_name s) (name_le h)
  obtain ⟨hm,ha,ht⟩:=longest_is hu hk
  have ha':ask s k=true:=by
   unfold ask at ha⊢
   rw [plain_take (by omega)] at ha
   exact ha
  have hle:=longest_ge h k hm ha'
  have hsame:=takes_take op (by omega) hg (by omega:plain s≤n+1) k (by omega)
  have hneq:takes op (s.take (n+1)) k≠takes false (s.take (n+1)) k:=by omega
  have hop:op=true:=by
   cases op with
   |true=>rfl
   |false=>exact absurd rfl hneq
  subst hop
  -- only the integers' rule asks
  have h2:k=2:=by
   apply Classical.byContradiction
   intro hk2
   apply hneq
   have hk':k=1∨k=2∨k=3∨k=4∨k=5∨k=6:=by simpa using hm
   rcases hk' with rfl|rfl|rfl|rfl|rfl|rfl
   ·rfl
   ·exact absurd rfl hk2
   ·rfl
   ·rfl
   ·rfl
   ·rfl
  subst h2
  cases s with
  |nil=>simp at hlt
  |cons c r=>
   by_cases hc:c=45
   ·subst hc
    obtain ⟨hm0,_,ht0⟩:=longest_is h h0
    have h1:=minus_first r k0
    have hn:n≤1:=by rw [←ht0];exact h1
    have hn0:0<n:=by
     have:=longest_pos true (45::r)
     rw [h] at this
     exact this h0
    obtain rfl:n=1:=by omega
    rfl
   ·exfalso
    apply hneq
    show integer true ((c::r).take (n+1))=integer false ((c::r).take (n+1))
    have e: ∀b,minus b ((c::r).take (n+1))=0:=by
     intro b
     have hpre:pre [45] (c::r.take n)=false:=by
      have:(45==c)=false:=by simpa using fun e=>hc e.symm
      simp [pre,List.isPrefixOf,this]
     rw [List.take_succ_cons]
     unfold minus
     rw [hpre]
     simp
    unfold integer
    rw [e true,e false]
/-- What one token alone is: its longest rule takes all. -/
theorem next_token {op:Bool} {s:List UInt8} {k n:Nat} (h:next op s=.ok (k,n)) (hk:k≤6):(pre [47,47] s||pre [47,42] s)=false∧cBlank (byteAt s 0)=false∧longest op (s.take 100)=(k,n)∧check s k n=0:=by
 unfold next at h
 split at h
 ·cases hc:comment s with
  |error e=>rw [hc] at h;cases h
  |ok m=>rw [hc] at h;cases h;omega
 ·rename_i h1
  split at h
  ·cases h;omega
  ·rename_i h2
   unfold checked at h
   split at h
   ·rename_i hc
    injection h with h
    rw [h] at hc
    exact ⟨by simpa using h1,by simpa using h2,h,hc⟩
   ·cases h
theorem more {op:Bool} {v:List UInt8} {k0 n k:Nat} (h:next op v=.ok (k0,n)) (h0:k0≤6) (hlt:n<v.length) (hu:next false (v.take (n+1))=.ok (k,n+1)) (hk:k≤6):byteAt v n=58∨v.take n=[45]:=by
 obtain ⟨_,_,hl,hc⟩:=next_token h h0
 obtain ⟨_,_,hl2,hc2⟩:=next_token hu hk
 have hk0:k0≠0:=by rintro rfl;exact check0 _ _ hc
 have hk1:k≠0:=by rintro rfl;exact check0 _ _ hc2
 have hn:n+1≤100:=by
  have:=(longest_inv false ((v.take (n+1)).take 100)).2
  rw [hl2] at this
  simp only [List.length_take] at this
  omega
 have e:(v.take (n+1)).take 100=(v.take 100).take (n+1):=by
  rw [List.take_take,List.take_take]
  congr 1
  omega
 rw [e] at hl2
 rcases longest_more hl hk0 hl2 hk1 (by rw [List.length_take];omega) with h'|h'
 ·left
  rwa [byteAt_take v (by omega)] at h'
 ·right
  rw [List.take_take] at h'
  rwa [show min n 100=n from by omega] at h'
/-- Each piece is the next one of the text at its place. -/
theorem go_next: ∀(f:Nat) (s:List UInt8) (at_ toks:Nat) (op:Bool) (l:List Piece),piecesGo f s at_ toks op=.ok l→ ∀p∈l,∃op',at_≤p.at_∧p.at_+p.len≤at_+s.length∧next op' (s.drop (p.at_-at_))=.ok (p.kind,p.len)∧(p.at_=at_→op'=op)
 |f,[],at_,toks,op,l,h,p,hp=>by
  have h':(Except.ok []:Except (Nat×Int) (List Piece))=.ok l:=by cases f<;>exact h
  cases h'
  cases hp
 |0,x::s,at_,toks,op,l,h,p,hp=>by cases h
 |f+1,x::s,at_,toks,op,l,h,p,hp=>by
  rw [go_step] at h
  cases hn:next op (x::s) with
  |error e=>rw [hn] at h;cases h
  |ok t=>
   obtain ⟨k,n⟩:=t
   rw [hn] at h
   simp only at h
   split at h
   ·cases h
   ·have hb:=next_len (by simp) hn
    cases hr:piecesGo f ((x::s).drop n) (at_+n) (if k≤6 then toks+1 else toks) (if k≤6 then operand k ((x::s).take n) else op) with
    |error e=>rw [hr] at h;cases h
    |ok l'=>
     rw [hr] at h
     cases h
     rcases List.mem_cons.1 hp with rfl|hp
     ·exact ⟨op,Nat.le_refl _,by show at_+n≤_;omega,by show next op ((x::s).drop (at_-at_))=_;rw [Nat.sub_self];exact hn,fun _=>rfl⟩
     ·obtain ⟨op',h1,h2,h3,h4⟩:=go_next f _ _ _ _ _ hr p hp
      rw [List.length_drop] at h2
      rw [List.drop_drop] at h3
      exact ⟨op',by omega,by omega,by rw [show p.at_-at_=n+(p.at_-(at_+n)) from by omega];exact h3,fun e=>by omega⟩
theorem pieces_next {s:List UInt8} {l:List Piece} (h:pieces s=.ok l) (p:Piece) (hp:p∈l): ∃op,p.at_+p.len≤s.length∧next op (s.drop p.at_)=.ok (p.kind,p.len)∧(p.at_=0→op=false):=by
 unfold pieces at h
 split at h
 ·cases h
 ·obtain ⟨op,_,h2,h3,h4⟩:=go_next _ _ _ _ _ _ h p hp
  exact ⟨op,by omega,h3,h4⟩
end Go.Proofs.YtipnlgmeonepfaaGreatDoor.Lx
