/- What the rules take of a text's begin, and of a text with a blank behind it. -/
import Derived.Test.YtipnlgmeonepfaaGreatDoorLxBounds
namespace Go.Proofs.YtipnlgmeonepfaaGreatDoor.Lx

theorem allN_take (T:Nat→Bool): ∀(s:List UInt8) (m:Nat),allN T (s.take m)=min m (allN T s)
 |[],m=>by simp [allN]
 |x::s,0=>by simp [allN]
 |x::s,m+1=>by
  rw [List.take_succ_cons]
  unfold allN
  split
  ·rw [allN_take T s m];omega
  ·omega
theorem allN_at (T:Nat→Bool): ∀(s:List UInt8) (i:Nat),i<allN T s→T (byteAt s i)=true
 |[],i,h=>by simp [allN] at h
 |x::s,i,h=>by
  unfold allN at h
  split at h
  ·rename_i hx
   cases i with
   |zero=>exact hx
   |succ i=>exact allN_at T s i (by omega)
  ·omega
theorem byteAt_take (s:List UInt8) {i m:Nat} (h:i<m):byteAt (s.take m) i=byteAt s i:=by
 unfold byteAt
 rw [List.getD_eq_getElem?_getD,List.getD_eq_getElem?_getD,List.getElem?_take_of_lt h]
theorem byteAt_drop (s:List UInt8) (p i:Nat):byteAt (s.drop p) i=byteAt s (p+i):=by
 unfold byteAt
 rw [List.getD_eq_getElem?_getD,List.getD_eq_getElem?_getD,List.getElem?_drop]

/-! ### plain -/
theorem plainGo_or: ∀(b:List UInt8) (i:Nat) (lt:Bool) (n:Nat),n≤i→plainGo b i lt n=n∨i<plainGo b i lt n
 |[],i,lt,n,h=> .inl rfl
 |x::b,i,lt,n,h=>by
  unfold plainGo
  by_cases hc:((lt||cL x.toNat)&&cF x.toNat)=true
  ·rw [if_pos hc]
   rcases plainGo_or b (i+1) (lt||cL x.toNat) (i+1) (Nat.le_refl _) with h1|h1
   ·right;omega
   ·right;omega
  ·rw [if_neg hc]
   rcases plainGo_or b (i+1) (lt||cL x.toNat) n (by omega) with h1|h1
   ·left;exact h1
   ·right;omega
theorem plainGo_append: ∀(a b:List UInt8) (i:Nat) (lt:Bool) (n:Nat),plainGo (a++b) i lt n=plainGo b (i+a.length) (lt||a.any (fun y=>cL y.toNat)) (plainGo a i lt n)
 |[],b,i,lt,n=>by simp [plainGo]
 |x::a,b,i,lt,n=>by
  simp only [List.cons_append,plainGo,List.any_cons,List.length_cons]
  rw [plainGo_append a b,←Bool.or_assoc,show i+1+a.length=i+(a.length+1) from by omega]
theorem run_take (s:List UInt8) (m:Nat):(s.take m).take (allN cW (s.take m))=(s.take (allN cW s)).take m:=by
 rw [allN_take,List.take_take,List.take_take]
 congr 1
 omega
theorem plain_cons (x:UInt8) (s:List UInt8):plain (x::s)=if cL x.toNat||cB x.toNat then plainGo ((x::s).take (allN cW (x::s))) 0 false 0 else 0:=rfl
theorem plain_take_or (s:List UInt8) (m:Nat):plain (s.take m)=plain s∨(m<plain s∧plain (s.take m)≤plain s):=by
 cases s with
 |nil=>left;simp
 |cons x s=>
  cases m with
  |zero=>
   by_cases h:plain (x::s)=0
   ·left;rw [h];rfl
   ·right;exact ⟨by omega,by simp [plain]⟩
  |succ m=>
   have hr:=run_take (x::s) (m+1)
   rw [List.take_succ_cons] at hr⊢
   rw [plain_cons,plain_cons]
   by_cases hx:(cL x.toNat||cB x.toNat)=true
   ·rw [if_pos hx,if_pos hx,hr]
    obtain ⟨R,hR⟩: ∃R,(x::s).take (allN cW (x::s))=R:=⟨_,rfl⟩
    rw [hR]
    have hsp:R=R.take (m+1)++R.drop (m+1):=(List.take_append_drop _ _).symm
    have hl:(R.take (m+1)).length=min (m+1) R.length:=List.length_take
    have happ:=plainGo_append (R.take (m+1)) (R.drop (m+1)) 0 false 0
    rw [←hsp] at happ
    have hle:=plainGo_len (R.take (m+1)) 0 false 0 (Nat.le_refl _)
    rcases plainGo_or (R.drop (m+1)) (0+(R.take (m+1)).length) (false||(R.take (m+1)).any (fun y=>cL y.toNat)) (plainGo (R.take (m+1)) 0 false 0) hle with h|h
    ·left;rw [happ,h]
    ·rw [←happ] at h
     by_cases hm:m+1≤R.length
     ·right;omega
     ·left
      rw [List.take_of_length_le (by omega)]
   ·rw [if_neg hx,if_neg hx];left;rfl
theorem plain_take {s:List UInt8} {m:Nat} (h:plain s≤m):plain (s.take m)=plain s:=by
 rcases plain_take_or s m with h1|h1
 ·exact h1
 ·omega
theorem plain_take_le (s:List UInt8) (m:Nat):plain (s.take m)≤plain s:=by
 rcases plain_take_or s m with h1|h1<;>omega
theorem plain_run (s:List UInt8):plain s≤allN cW s:=by
 cases s with
 |nil=>simp [plain]
 |cons x s=>
  rw [plain_cons]
  split
  ·have h:=plainGo_len ((x::s).take (allN cW (x::s))) 0 false 0 (Nat.le_refl _)
   have:=List.length_take_le (allN cW (x::s)) (x::s)
   omega
  ·omega
theorem stops (c:Nat) (h:cBlank c=true):cL c=false∧cB c=false∧cW c=false∧cQ c=false∧cD c=false∧cTail c=false∧cSign c=false∧c≠64∧c≠58∧c≠61∧c≠47∧c≠42∧c≠45∧c≠35∧c≠63∧c≠62∧c≠116∧c≠102:=by
 have:c=32∨c=9∨c=13∨c=10:=by simpa [cBlank] using h
 rcases this with rfl|rfl|rfl|rfl<;>decide
/-! ### The rules of a begin -/
theorem drop_take_comm (s:List UInt8) (m p:Nat):(s.take m).drop p=(s.drop p).take (m-p):=by
 rw [List.drop_take]
theorem plain_name (s:List UInt8):plain s≤name s:=by
 unfold name
 split
 ·split
  ·exact Nat.le_refl _
  ·split<;>omega
 ·exact Nat.le_refl _
theorem name_take {s:List UInt8} {m:Nat} (h:name s≤m):name (s.take m)=name s:=by
 have hp:plain s≤m:=Nat.le_trans (plain_name s) h
 unfold name at h⊢
 rw [plain_take hp]
 by_cases h0:0<plain s
 ·rw [if_pos h0] at h⊢
  rw [if_pos h0,drop_take_comm]
  cases hd:s.drop (plain s) with
  |nil=>simp
  |cons c q=>
   rw [hd] at h
   dsimp only at h⊢
   by_cases hj:m-plain s=0
   ·rw [hj]
    dsimp only [List.take_zero]
    split at h
    ·omega
    ·rename_i hn
     rw [if_neg hn]
   ·obtain ⟨j,hj⟩: ∃j,m-plain s=j+1:=⟨m-plain s-1,by omega⟩
    rw [hj,List.take_succ_cons]
    dsimp only
    rw [allN_take]
    by_cases hc:c.toNat=64∧0<allN cQ q∧byteAt q 0≠45
    ·rw [if_pos hc] at h
     have hm:min j (allN cQ q)=allN cQ q:=by omega
     rw [hm,byteAt_take q (show 0<j by omega)]
    ·rw [if_neg hc,if_neg (fun hc'=>hc ⟨hc'.1,by have:=hc'.2.1;omega,by have h2:=hc'.2.2;rwa [byteAt_take q (show 0<j by have:=hc'.2.1;omega)] at h2⟩)]
 ·rw [if_neg h0,if_neg h0]
theorem pre_take {p s:List UInt8} {m:Nat} (h:p.length≤m):pre p (s.take m)=pre p s:=by
 unfold pre
 rw [Bool.eq_iff_iff,List.isPrefixOf_iff_prefix,List.isPrefixOf_iff_prefix]
 constructor
 ·exact fun h1=>h1.trans (List.take_prefix _ _)
 ·intro h1
  exact List.prefix_take_iff.2 ⟨h1,h⟩
theorem pre_take_le {p s:List UInt8} {m:Nat} (h:pre p (s.take m)=true):pre p s=true:=by
 unfold pre at h⊢
 rw [List.isPrefixOf_iff_prefix] at h⊢
 exact h.trans (List.take_prefix _ _)
theorem minus_take (op:Bool) {s:List UInt8} {m:Nat} (h:1≤m):minus op (s.take m)=minus op s:=by
 unfold minus
 rw [pre_take (by simpa using h)]
theorem integer_take (op:Bool) {s:List UInt8} {m:Nat} (h1:1≤m) (h:integer op s≤m):integer op (s.take m)=integer op s:=by
 unfold integer at h⊢
 rw [minus_take op h1,drop_take_comm,allN_take]
 have hm:minus op s≤1:=by unfold minus;split<;>omega
 by_cases h0:0<allN cD (s.drop (minus op s))
 ·rw [if_pos h0] at h⊢
  rw [if_pos (by omega)]
  omega
 ·rw [if_neg h0,if_neg (by omega)]
/-- No place inside a sign of two bytes that begins with a colon, right behind a name. -/
def Good (s:List UInt8) (m:Nat):Prop:= ∀p,p+1=m→byteAt s p=58→colon s p=true∨(∀q,q+1=p→cW (byteAt s q)=false)
theorem colon_take_lt {s:List UInt8} {m p:Nat} (h:p+2≤m):colon (s.take m) p=colon s p:=by
 unfold colon
 rw [drop_take_comm]
 obtain ⟨j,hj⟩: ∃j,m-p=j+2:=⟨m-p-2,by omega⟩
 rw [hj]
 cases s.drop p with
 |nil=>rfl
 |cons c t=>
  cases t with
  |nil=>rfl
  |cons d t=>simp [List.take_succ_cons,colonHere]
theorem colon_take_ge {s:List UInt8} {m p:Nat} (h:m≤p):colon (s.take m) p=false:=by
 unfold colon
 rw [drop_take_comm,show m-p=0 from by omega]
 rfl
theorem colon_take_eq {s:List UInt8} {p:Nat}:colon (s.take (p+1)) p=true↔byteAt s p=58:=by
 unfold colon
 rw [drop_take_comm,show p+1-p=1 from by omega,show byteAt s p=byteAt (s.drop p) 0 from by rw [byteAt_drop];rfl]
 cases s.drop p with
 |nil=>simp [colonHere,byteAt]
 |cons c t=>simp [colonHere,byteAt]
theorem colon_byte {s:List UInt8} {p:Nat} (h:colon s p=true):byteAt s p=58:=by
 unfold colon at h
 rw [show byteAt s p=byteAt (s.drop p) 0 from by rw [byteAt_drop];rfl]
 cases hd:s.drop p with
 |nil=>rw [hd] at h;cases h
 |cons c t=>
  rw [hd] at h
  cases t with
  |nil=>simpa [colonHere,byteAt] using h
  |cons d t=>
   simp only [colonHere,Bool.and_eq_true,beq_iff_eq] at h
   exact h.1
/-- A colon behind a byte of a name: as in the whole text, at a good place. -/
theorem colon_take {s:List UInt8} {m p:Nat} (hg:Good s m) (hm:colon s p=true→p+1≤m) (hw: ∃q,q+1=p∧cW (byteAt s q)=true):colon (s.take m) p=colon s p:=by
 rcases Nat.lt_or_ge p m with h|h
 ·rcases Nat.lt_or_ge (p+1) m with h2|h2
  ·exact colon_take_lt (by omega)
  ·obtain rfl:m=p+1:=by omega
   rw [Bool.eq_iff_iff,colon_take_eq]
   constructor
   ·intro hb
    rcases hg p rfl hb with h3|h3
    ·exact h3
    ·obtain ⟨q,hq,hw⟩:=hw
     rw [h3 q hq] at hw
     cases hw
   ·exact colon_byte
 ·rw [colon_take_ge h]
  cases hc:colon s p with
  |false=>rfl
  |true=>have:=hm hc;omega
theorem plain_last {s:List UInt8} (h:0<plain s): ∃q,q+1=plain s∧cW (byteAt s q)=true:=
 ⟨plain s-1,by omega,allN_at cW s _ (by have:=plain_run s;omega)⟩
theorem keyword_take {s:List UInt8} {m:Nat} (hg:Good s m) (hp:plain s≤m) (h:keyword s≤m):keyword (s.take m)=keyword s:=by
 unfold keyword at h⊢
 rw [plain_take hp]
 by_cases h0:0<plain s
 ·have hc:colon (s.take m) (plain s)=colon s (plain s):=colon_take hg (fun hc=>by rw [if_pos ⟨h0,hc⟩] at h;exact h) (plain_last h0)
  rw [hc]
 ·rw [if_neg (fun h=>h0 h.1),if_neg (fun h=>h0 h.1)]
theorem hash_take {s:List UInt8} {m:Nat} (h:hash s≤m):hash (s.take m)=hash s:=by
 unfold hash at h⊢
 by_cases h0:(pre [35,116] s||pre [35,102] s)=true
 ·rw [if_pos h0] at h⊢
  rw [pre_take (by simpa using h),pre_take (by simpa using h),if_pos h0]
 ·rw [if_neg h0,if_neg (fun h1=>h0 (by
   rcases Bool.or_eq_true_iff.1 h1 with h1|h1
   ·rw [pre_take_le h1];rfl
   ·rw [pre_take_le h1,Bool.or_true]))]
theorem sign2_len {p:List UInt8} (h:p∈sign2):p.length=2:=by
 simp only [sign2,List.mem_cons,List.not_mem_nil,or_false] at h
 rcases h with rfl|rfl|rfl|rfl|rfl|rfl<;>rfl
theorem sign_take {s:List UInt8} {m:Nat} (h1:1≤m) (h:sign s≤m):sign (s.take m)=sign s:=by
 unfold sign at h⊢
 by_cases h0:sign2.any (fun p=>pre p s)=true
 ·rw [if_pos h0] at h⊢
  obtain ⟨p,hp,hs⟩:=List.any_eq_true.1 h0
  rw [if_pos (List.any_eq_true.2 ⟨p,hp,by rw [pre_take (by rw [sign2_len hp];exact h)];exact hs⟩)]
 ·rw [if_neg h0,if_neg (fun h2=>h0 (by
   obtain ⟨p,hp,hs⟩:=List.any_eq_true.1 h2
   exact List.any_eq_true.2 ⟨p,hp,pre_take_le hs⟩))]
  obtain ⟨j,rfl⟩: ∃j,m=j+1:=⟨m-1,by omega⟩
  cases s with
  |nil=>rfl
  |cons c t=>rfl
theorem pattern_cons (c : UInt8) (t : List UInt8) : pattern (c :: t) = if c.toNat = 63 then
   if plain t=0 then 0
   else if colon (c::t) (plain t+1) then
    if 0<plain ((c::t).drop (plain t+1+1)) then plain t+1+1+plain ((c::t).drop (plain t+1+1)) else plain t+1
   else plain t+1
  else 0:=rfl
theorem pattern_take {s:List UInt8} {m:Nat} (h1:1≤m) (hg:Good s m) (h:pattern s≤m):pattern (s.take m)=pattern s:=by
 obtain ⟨j,rfl⟩: ∃j,m=j+1:=⟨m-1,by omega⟩
 cases s with
 |nil=>rfl
 |cons c t=>
  rw [List.take_succ_cons,pattern_cons,pattern_cons]
  rw [pattern_cons] at h
  by_cases hc:c.toNat=63
  ·rw [if_pos hc] at h⊢
   rw [if_pos hc]
   by_cases h0:plain t=0
   ·have:=plain_take_le t j
    rw [if_pos h0,if_pos (by omega)]
   ·rw [if_neg h0] at h⊢
    have hle:plain t≤j:=by
     split at h
     ·split at h<;>omega
     ·omega
    rw [plain_take hle,if_neg h0]
    have hq: ∃q,q+1=plain t+1∧cW (byteAt (c::t) q)=true:=by
     obtain ⟨q,hq,hw⟩:=plain_last (s:=t) (by omega)
     exact ⟨q+1,by omega,hw⟩
    by_cases hcl:colon (c::t) (plain t+1)=true
    ·rw [if_pos hcl] at h⊢
     by_cases hpl:0<plain ((c::t).drop (plain t+1+1))
     ·rw [if_pos hpl] at h⊢
      have e1:colon (c::t.take j) (plain t+1)=true:=by
       rw [←List.take_succ_cons,colon_take_lt (by omega)];exact hcl
      have e2:plain ((c::t.take j).drop (plain t+1+1))=plain ((c::t).drop (plain t+1+1)):=by
       rw [←List.take_succ_cons,drop_take_comm,plain_take (by omega)]
      rw [if_pos e1,e2,if_pos hpl]
     ·rw [if_neg hpl]
      have e2: ¬0<plain ((c::t.take j).drop (plain t+1+1)):=by
       rw [←List.take_succ_cons,drop_take_comm]
       have:=plain_take_le ((c::t).drop (plain t+1+1)) (j+1-(plain t+1+1))
       omega
      rw [if_neg e2]
      split<;>rfl
    ·rw [if_neg hcl]
     have e1: ¬colon (c::t.take j) (plain t+1)=true:=by
      rw [←List.take_succ_cons,colon_take hg (fun h=>absurd h hcl) hq];exact hcl
     rw [if_neg e1]
  ·rw [if_neg hc,if_neg hc]
theorem takes_take (op:Bool) {s:List UInt8} {m:Nat} (h1:1≤m) (hg:Good s m) (hp:plain s≤m) (k:Nat) (h:takes op s k≤m):takes op (s.take m) k=takes op s k:=by
 unfold takes pick6 at h⊢
 split
 ·exact name_take h
 ·exact integer_take op h1 h
 ·exact keyword_take hg hp h
 ·exact hash_take h
 ·exact sign_take h1 h
 ·rename_i n1 n2 n3 n4 n5
  exact pattern_take h1 hg (by
   split at h
   ·exact absurd rfl n1
   ·exact absurd rfl n2
   ·exact absurd rfl n3
   ·exact absurd rfl n4
   ·exact absurd rfl n5
   ·exact h)

/-! ### The longest rule -/
/-- May this rule be asked? -/
def ask (s:List UInt8) (k:Nat):Bool:= !(decide (0<plain s)&&(k !=1&&k !=3))
theorem turn_ask (op:Bool) (s:List UInt8) (a:Nat×Nat) (k:Nat):turn op s a k=if ask s k=false then a else if a.2<takes op s k then (k,takes op s k) else a:=by
 unfold turn ask
 cases (decide (0<plain s)&&(k !=1&&k !=3))<;>rfl
theorem fold_bound (op:Bool) (s:List UInt8): ∀(l:List Nat) (a:Nat×Nat),a.2≤(l.foldl (turn op s) a).2∧(∀k∈l,ask s k=true→takes op s k≤(l.foldl (turn op s) a).2)∧((l.foldl (turn op s) a)=a∨((l.foldl (turn op s) a).1∈l∧ask s (l.foldl (turn op s) a).1=true∧takes op s (l.foldl (turn op s) a).1=(l.foldl (turn op s) a).2∧a.2<(l.foldl (turn op s) a).2))
 |[],a=>⟨Nat.le_refl _,fun k h=>by simp at h,.inl rfl⟩
 |j::l,a=>by
  obtain ⟨h1,h2,h3⟩:=fold_bound op s l (turn op s a j)
  rw [List.foldl_cons]
  have ht:turn op s a j=a∨(ask s j=true∧turn op s a j=(j,takes op s j)∧a.2<takes op s j):=by
   rw [turn_ask]
   by_cases h:ask s j=false
   ·rw [if_pos h];exact .inl rfl
   ·rw [if_neg h]
    by_cases h':a.2<takes op s j
    ·rw [if_pos h'];exact .inr ⟨by simpa using h,rfl,h'⟩
    ·rw [if_neg h'];exact .inl rfl
  have hj:ask s j=true→takes op s j≤(turn op s a j).2:=by
   intro h
   rw [turn_ask,if_neg (by rw [h];decide)]
   split
   ·exact Nat.le_refl _
   ·omega
  refine ⟨?_, ?_, ?_⟩
  ·have h5:a.2≤(turn op s a j).2:=by
    rcases ht with h|⟨_,h,h'⟩
    ·rw [h];exact Nat.le_refl _
    ·rw [h];exact Nat.le_of_lt h'
   exact Nat.le_trans h5 h1
  ·intro k hk ha
   rcases List.mem_cons.1 hk with rfl|hk
   ·exact Nat.le_trans (hj ha) h1
   ·exact h2 k hk ha
  ·rcases h3 with h3|⟨m1,m2,m3,m4⟩
   ·rw [h3]
    rcases ht with h|⟨hh,h,h'⟩
    ·exact .inl h
    ·rw [h]
     exact .inr ⟨List.mem_cons_self,hh,rfl,h'⟩
   ·refine .inr ⟨List.mem_cons_of_mem _ m1,m2,m3, ?_⟩
    have h5:a.2≤(turn op s a j).2:=by
     rcases ht with h|⟨_,h,h'⟩
     ·rw [h];exact Nat.le_refl _
     ·rw [h];exact Nat.le_of_lt h'
    exact Nat.lt_of_le_of_lt h5 m4
theorem longest_ge {op:Bool} {s:List UInt8} {k n:Nat} (h:longest op s=(k,n)) (j:Nat) (hj:j∈[1,2,3,4,5,6]) (ha:ask s j=true):takes op s j≤n:=by
 have:=(fold_bound op s [1,2,3,4,5,6] (0,0)).2.1 j hj ha
 unfold longest at h
 rw [h] at this
 exact this
theorem longest_is {op:Bool} {s:List UInt8} {k n:Nat} (h:longest op s=(k,n)) (hk:k≠0):k∈[1,2,3,4,5,6]∧ask s k=true∧takes op s k=n:=by
 have:=(fold_bound op s [1,2,3,4,5,6] (0,0)).2.2
 unfold longest at h
 rw [h] at this
 rcases this with h'|⟨h1,h2,h3,_⟩
 ·exact absurd (congrArg Prod.fst h') hk
 ·exact ⟨h1,h2,h3⟩
theorem ask_one (s:List UInt8):ask s 1=true:=by unfold ask;simp
theorem name_le {op:Bool} {s:List UInt8} {k n:Nat} (h:longest op s=(k,n)):name s≤n:=longest_ge h 1 (by decide) (ask_one s)
/-! ### A blank behind -/
theorem chain_ge: ∀(l:List Piece) (a e:Nat),Chain l a e→ ∀p∈l,a≤p.at_∧p.at_+p.len≤e∧1≤p.len
 |[],a,e,h,p,hp=>by cases hp
 |q::l,a,e,h,p,hp=>by
  obtain ⟨h1,h2,h3,h4,h5,h6⟩:=h
  rcases List.mem_cons.1 hp with rfl|hp
  ·exact ⟨by omega,by omega,h2⟩
  ·have:=chain_ge l _ _ h6 p hp
   exact ⟨by omega,this.2⟩
end Go.Proofs.YtipnlgmeonepfaaGreatDoor.Lx
