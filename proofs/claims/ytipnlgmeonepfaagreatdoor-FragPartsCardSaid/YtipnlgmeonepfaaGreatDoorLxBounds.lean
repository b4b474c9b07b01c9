/- What the plain rules take lies within what they are given; the pieces follow each other and are all of the text; an error is no 0. No condition. -/
import Derived.Test.YtipnlgmeonepfaaGreatDoorLxPure
namespace Go.Proofs.YtipnlgmeonepfaaGreatDoor.Lx

theorem allN_len (T:Nat→Bool): ∀s:List UInt8,allN T s≤s.length
 |[]=>Nat.le_refl _
 |x::xs=>by unfold allN;split<;>simp<;>have:=allN_len T xs<;>omega
theorem plainGo_len: ∀(l:List UInt8) (i:Nat) (lt:Bool) (n:Nat),n≤i→plainGo l i lt n≤i+l.length
 |[],i,lt,n,h=>by simpa [plainGo] using h
 |x::l,i,lt,n,h=>by
  simp only [plainGo,List.length_cons]
  have:=plainGo_len l (i+1) (lt||cL x.toNat) (if ((lt||cL x.toNat)&&cF x.toNat)=true then i+1 else n) (by split<;>omega)
  omega
theorem plain_len (s:List UInt8):plain s≤s.length:=by
 cases s with
 |nil=>simp [plain]
 |cons x s=>
  simp only [plain]
  split
  ·have h:=plainGo_len ((x::s).take (allN cW (x::s))) 0 false 0 (Nat.le_refl _)
   have:=List.length_take_le' (allN cW (x::s)) (x::s)
   omega
  ·omega
theorem colon_len {s:List UInt8} {n:Nat} (h:colon s n=true):n+1≤s.length:=by
 unfold colon at h
 rcases Nat.lt_or_ge n s.length with h'|h'
 ·exact h'
 ·rw [List.drop_of_length_le h'] at h;cases h
theorem pre_len {p s:List UInt8} (h:pre p s=true):p.length≤s.length:=(List.isPrefixOf_iff_prefix.1 h).length_le
theorem name_len (s:List UInt8):name s≤s.length:=by
 unfold name
 split
 ·split
  ·exact plain_len s
  ·rename_i c q h
   have hl:=congrArg List.length h
   rw [List.length_drop,List.length_cons] at hl
   have:=allN_len cQ q
   have:=plain_len s
   split<;>omega
 ·exact plain_len s
theorem minus_len (op:Bool) (s:List UInt8):minus op s≤s.length:=by
 unfold minus
 split
 ·rename_i h
  exact pre_len h.1
 ·omega
theorem integer_len (op:Bool) (s:List UInt8):integer op s≤s.length:=by
 unfold integer
 have h1:=minus_len op s
 have h2:=allN_len cD (s.drop (minus op s))
 rw [List.length_drop] at h2
 split<;>omega
theorem keyword_len (s:List UInt8):keyword s≤s.length:=by
 unfold keyword
 split
 ·rename_i h
  exact colon_len h.2
 ·omega
theorem hash_len (s:List UInt8):hash s≤s.length:=by
 unfold hash
 split
 ·rename_i h
  rcases (Bool.or_eq_true_iff.1 h) with h|h<;>exact pre_len h
 ·omega
theorem sign_len (s:List UInt8):sign s≤s.length:=by
 unfold sign
 split
 ·rename_i h
  obtain ⟨p,hp,h⟩:=List.any_eq_true.1 h
  have h2:=pre_len h
  have:p.length=2:=by
   simp only [sign2,List.mem_cons,List.not_mem_nil,or_false] at hp
   rcases hp with rfl|rfl|rfl|rfl|rfl|rfl<;>rfl
  omega
 ·cases s with
  |nil=>simp
  |cons c t=>simp only [List.length_cons];split<;>omega
theorem pattern_len (s:List UInt8):pattern s≤s.length:=by
 cases s with
 |nil=>simp [pattern]
 |cons c t=>
  have h1:=plain_len t
  simp only [pattern,List.length_cons]
  split
  ·split
   ·omega
   ·split
    ·rename_i h
     have h3:=plain_len ((c::t).drop (plain t+1+1))
     rw [List.length_drop,List.length_cons] at h3
     split<;>omega
    ·omega
  ·omega
theorem takes_len (op:Bool) (s:List UInt8) (k:Nat):takes op s k≤s.length:=by
 unfold takes pick6
 split
 ·exact name_len s
 ·exact integer_len op s
 ·exact keyword_len s
 ·exact hash_len s
 ·exact sign_len s
 ·exact pattern_len s
theorem fold_inv (op:Bool) (s:List UInt8): ∀(l:List Nat) (a:Nat×Nat),(∀k∈l,k≤6)→a.1≤6∧a.2≤s.length→(l.foldl (turn op s) a).1≤6∧(l.foldl (turn op s) a).2≤s.length
 |[],a,_,h=>h
 |k::l,a,hl,h=>by
  refine fold_inv op s l _ (fun j hj=>hl j (List.mem_cons_of_mem _ hj)) ?_
  unfold turn
  split
  ·exact h
  ·split
   ·exact ⟨hl k List.mem_cons_self,takes_len op s k⟩
   ·exact h
theorem longest_inv (op:Bool) (s:List UInt8):(longest op s).1≤6∧(longest op s).2≤s.length:=
 fold_inv op s _ _ (by decide) ⟨by decide,Nat.zero_le _⟩
end Go.Proofs.YtipnlgmeonepfaaGreatDoor.Lx
namespace Go.Proofs.YtipnlgmeonepfaaGreatDoor.Lx

theorem lineGo_len: ∀(l:List UInt8) (i:Nat),i≤lineGo l i∧lineGo l i≤i+l.length
 |[],i=>by unfold lineGo;simp
 |x::xs,i=>by
  unfold lineGo
  have:=lineGo_len xs (i+1)
  split<;>simp only [List.length_cons]<;>omega
theorem blockGo_len: ∀(m:Nat) (l:List UInt8) (i:Nat) (o:Int) (n:Nat),l.length≤m→blockGo l i o=.ok n→i+2≤n∧n≤i+l.length
 |_,[],_,_,_,_,h=>by simp [blockGo] at h
 |_,[_],_,_,_,_,h=>by simp [blockGo] at h
 |0,_::_::_,_,_,_,hm,_=>by simp at hm
 |m+1,x::y::r,i,o,n,hm,h=>by
  unfold blockGo at h
  simp only [List.length_cons] at hm⊢
  split at h
  ·split at h
   ·cases h
   ·have:=blockGo_len m r (i+2) (o+1) n (by omega) h;omega
  ·split at h
   ·split at h
    ·injection h with h;omega
    ·have:=blockGo_len m r (i+2) (o-1) n (by omega) h;omega
   ·have:=blockGo_len m (y::r) (i+1) o n (by simp only [List.length_cons];omega) h;simp only [List.length_cons] at this;omega
theorem pre2 {a b:UInt8} {s:List UInt8} (h:pre [a,b] s=true): ∃r,s=a::b::r:=by
 obtain ⟨t,rfl⟩:=List.isPrefixOf_iff_prefix.1 h
 exact ⟨t,rfl⟩
theorem comment_len {s:List UInt8} {n:Nat} (h:comment s=.ok n):1≤n∧n≤s.length:=by
 unfold comment at h
 split at h
 ·rename_i hp
  obtain ⟨r,rfl⟩:=pre2 hp
  injection h with h
  have h1:=lineGo_len r 2
  have h2:lineGo (47::47::r) 0=lineGo r 2:=rfl
  simp only [List.length_cons]
  omega
 ·have:=blockGo_len s.length s 0 0 n (Nat.le_refl _) h
  omega
theorem fold_pos (op:Bool) (s:List UInt8): ∀(l:List Nat) (a:Nat×Nat),(a.1≠0→0<a.2)→(l.foldl (turn op s) a).1≠0→0<(l.foldl (turn op s) a).2
 |[],a,h=>h
 |k::l,a,h=>by
  refine fold_pos op s l _ ?_
  unfold turn
  split
  ·exact h
  ·split
   ·intro _;show 0<takes op s k;omega
   ·exact h
theorem longest_pos (op:Bool) (s:List UInt8):(longest op s).1≠0→0<(longest op s).2:=fold_pos op s _ _ (fun h=>absurd rfl h)
theorem check0 (s:List UInt8) (n:Nat):check s 0 n≠0:=by unfold check;simp;split<;>simp
theorem next_len {op:Bool} {s:List UInt8} {k n:Nat} (hs:s≠[]) (h:next op s=.ok (k,n)):1≤n∧n≤s.length:=by
 unfold next at h
 split at h
 ·cases hc:comment s with
  |error e=>rw [hc] at h;cases h
  |ok m=>rw [hc] at h;cases h;exact comment_len hc
 ·split at h
  ·rename_i hb
   injection h with h
   injection h with _ h
   subst h
   refine ⟨?_,allN_len _ _⟩
   cases s with
   |nil=>exact absurd rfl hs
   |cons x xs=>
    have hb':cBlank x.toNat=true:=hb
    unfold allN
    rw [if_pos hb']
    omega
  ·unfold checked at h
   split at h
   ·rename_i hc
    injection h with h
    rw [h] at hc
    have hk:k≠0:=by rintro rfl;exact check0 _ _ hc
    have h1:=longest_pos op (s.take 100)
    have h2:=longest_inv op (s.take 100)
    rw [h] at h1 h2
    have h3:=h2.2
    rw [List.length_take] at h3
    exact ⟨h1 hk,by simp only at h3;omega⟩
   ·cases h
end Go.Proofs.YtipnlgmeonepfaaGreatDoor.Lx
namespace Go.Proofs.YtipnlgmeonepfaaGreatDoor.Lx

theorem next_kind {op:Bool} {s:List UInt8} {k n:Nat} (h:next op s=.ok (k,n)):1≤k∧k≤8:=by
 unfold next at h
 split at h
 ·cases hc:comment s with
  |error e=>rw [hc] at h;cases h
  |ok m=>rw [hc] at h;cases h;omega
 ·split at h
  ·cases h;omega
  ·unfold checked at h
   split at h
   ·rename_i hc
    injection h with h
    rw [h] at hc
    have hk:k≠0:=by rintro rfl;exact check0 _ _ hc
    have h2:=(longest_inv op (s.take 100)).1
    rw [h] at h2
    simp only at h2
    omega
   ·cases h
theorem blockGo_err: ∀(m:Nat) (l:List UInt8) (i:Nat) (o:Int) (e:Int),l.length≤m→blockGo l i o=.error e→e≠0
 |_,[],_,_,_,_,h=>by simp [blockGo] at h;omega
 |_,[_],_,_,_,_,h=>by simp [blockGo] at h;omega
 |0,_::_::_,_,_,_,hm,_=>by simp at hm
 |m+1,x::y::r,i,o,e,hm,h=>by
  unfold blockGo at h
  simp only [List.length_cons] at hm
  split at h
  ·split at h
   ·injection h with h;omega
   ·exact blockGo_err m r (i+2) (o+1) e (by omega) h
  ·split at h
   ·split at h
    ·cases h
    ·exact blockGo_err m r (i+2) (o-1) e (by omega) h
   ·exact blockGo_err m (y::r) (i+1) o e (by simp only [List.length_cons];omega) h
theorem next_err {op:Bool} {s:List UInt8} {e:Int} (h:next op s=.error e):e≠0:=by
 unfold next at h
 split at h
 ·cases hc:comment s with
  |error e'=>
   rw [hc] at h
   injection h with h
   subst h
   unfold comment at hc
   split at hc
   ·cases hc
   ·exact blockGo_err _ _ _ _ _ (Nat.le_refl _) hc
  |ok m=>rw [hc] at h;cases h
 ·split at h
  ·cases h
  ·unfold checked at h
   split at h
   ·cases h
   ·rename_i hc
    injection h with h
    subst h
    exact hc
def Chain:List Piece→Nat→Nat→Prop
 |[],a,e=>a=e
 |p::l,a,e=>p.at_=a∧1≤p.len∧a+p.len≤e∧1≤p.kind∧p.kind≤8∧Chain l (a+p.len) e
theorem go_step (f:Nat) (x:UInt8) (s:List UInt8) (at_ toks:Nat) (op:Bool):piecesGo (f+1) (x::s) at_ toks op=
  match next op (x::s) with
  | .error e=> .error (at_,e)
  | .ok (k,n)=>
   if k≤6∧6000<toks+1 then .error (at_,2)
   else
    match piecesGo f ((x::s).drop n) (at_+n) (if k≤6 then toks+1 else toks) (if k≤6 then operand k ((x::s).take n) else op) with
    | .error e=> .error e
    | .ok l=> .ok (⟨k,at_,n⟩::l):=rfl
theorem go_chain: ∀(f:Nat) (s:List UInt8) (at_ toks:Nat) (op:Bool) (l:List Piece),piecesGo f s at_ toks op=.ok l→Chain l at_ (at_+s.length)
 |f,[],at_,toks,op,l,h=>by
  have h':(Except.ok []:Except (Nat×Int) (List Piece))=.ok l:=by cases f<;>exact h
  cases h'
  rfl
 |0,x::s,at_,toks,op,l,h=>by cases h
 |f+1,x::s,at_,toks,op,l,h=>by
  rw [go_step] at h
  cases hn:next op (x::s) with
  |error e=>rw [hn] at h;cases h
  |ok t=>
   obtain ⟨k,n⟩:=t
   rw [hn] at h
   simp only at h
   split at h
   ·cases h
   ·have hb:=next_len (by simp) hn
    have hk:=next_kind hn
    cases hr:piecesGo f ((x::s).drop n) (at_+n) (if k≤6 then toks+1 else toks) (if k≤6 then operand k ((x::s).take n) else op) with
    |error e=>rw [hr] at h;cases h
    |ok l'=>
     rw [hr] at h
     cases h
     have ih:=go_chain f _ _ _ _ _ hr
     rw [List.length_drop] at ih
     refine ⟨rfl,hb.1,by show at_+n≤_;omega,hk.1,hk.2, ?_⟩
     show Chain l' (at_+n) _
     rw [show at_+(x::s).length=at_+n+((x::s).length-n) from by omega]
     exact ih
theorem go_error: ∀(f:Nat) (s:List UInt8) (at_ toks:Nat) (op:Bool) (e:Nat×Int),s.length≤f→piecesGo f s at_ toks op=.error e→e.2≠0
 |f,[],at_,toks,op,e,_,h=>by cases f<;>cases h
 |0,x::s,at_,toks,op,e,hf,h=>by simp at hf
 |f+1,x::s,at_,toks,op,e,hf,h=>by
  rw [go_step] at h
  cases hn:next op (x::s) with
  |error e'=>
   rw [hn] at h
   injection h with h
   subst h
   exact next_err hn
  |ok t=>
   obtain ⟨k,n⟩:=t
   rw [hn] at h
   simp only at h
   split at h
   ·injection h with h;subst h;exact show (2:Int)≠0 by decide
   ·have hb:=next_len (by simp) hn
    cases hr:piecesGo f ((x::s).drop n) (at_+n) (if k≤6 then toks+1 else toks) (if k≤6 then operand k ((x::s).take n) else op) with
    |error e'=>
     rw [hr] at h
     injection h with h
     subst h
     exact go_error f _ _ _ _ _ (by rw [List.length_drop];omega) hr
    |ok l'=>rw [hr] at h;cases h
theorem pieces_chain {s:List UInt8} {l:List Piece} (h:pieces s=.ok l):Chain l 0 s.length∧s.length≤20000:=by
 unfold pieces at h
 split at h
 ·cases h
 ·have:=go_chain _ _ _ _ _ _ h
  rw [Nat.zero_add] at this
  exact ⟨this,by omega⟩
theorem pieces_error {s:List UInt8} {e:Nat×Int} (h:pieces s=.error e):e.2≠0:=by
 unfold pieces at h
 split at h
 ·injection h with h;subst h;decide
 ·exact go_error _ _ _ _ _ _ (Nat.le_refl _) h
end Go.Proofs.YtipnlgmeonepfaaGreatDoor.Lx
