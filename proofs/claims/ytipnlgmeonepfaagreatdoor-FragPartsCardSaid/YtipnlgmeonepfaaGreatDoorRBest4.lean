/- The reference's patterns: which begins of a text a pattern takes; the names' patterns take what plain and name take. The reference's rules take what the program's rules take. The reference's best token is the longest rule's. The reference's choice among its rules and signs is the longest rule's. With the signs: the reference's best token. -/
import Derived.Test.YtipnlgmeonepfaaGreatDoorLxTake
import Derived.Test.YtipnlgmeonepfaaGreatDoorLxMore
namespace Go.Proofs.YtipnlgmeonepfaaGreatDoor.Lx

def mem (k x:Nat):Bool:=if k=76 then cL x else if k=68 then cD x else if k=87 then cW x else if k=70 then cF x else if k=66 then cB x else if k=81 then cQ x else if k=65 then cL x||cD x else x==k
/-- Does a pattern (its last sign first) take the first i bytes? -/
def R (s:List UInt8):List (Nat×Bool)→Nat→Bool
  |[],i=>i==0
  |(_,false)::_,0=>false
  |(c,false)::p,i+1=>R s p i&&mem c (byteAt s i)
  |(_,true)::p,0=>R s p 0
  |(c,true)::p,i+1=>R s p (i+1)||(R s ((c,true)::p) i&&mem c (byteAt s i))
termination_by p i=>(p.length,i)
theorem R_nil (s:List UInt8) (i:Nat):R s [] i=(i==0):=by rw [R]
theorem R_one0 (s:List UInt8) (c:Nat) (p:List (Nat×Bool)):R s ((c,false)::p) 0=false:=by rw [R]
theorem R_one (s:List UInt8) (c:Nat) (p:List (Nat×Bool)) (i:Nat):R s ((c,false)::p) (i+1)=(R s p i&&mem c (byteAt s i)):=by rw [R]
theorem R_star0 (s:List UInt8) (c:Nat) (p:List (Nat×Bool)):R s ((c,true)::p) 0=R s p 0:=by rw [R]
theorem R_star1 (s:List UInt8) (c:Nat) (p:List (Nat×Bool)) (i:Nat):R s ((c,true)::p) (i+1)=(R s p (i+1)||(R s ((c,true)::p) i&&mem c (byteAt s i))):=by rw [R]
theorem R_one_iff (s:List UInt8) (c:Nat) (p:List (Nat×Bool)) (i:Nat):R s ((c,false)::p) i=true↔ ∃j,i=j+1∧R s p j=true∧mem c (byteAt s j)=true:=by
  cases i with
  | zero => rw [R_one0]; constructor
            · intro h;cases h
            · rintro ⟨j,h,_⟩;omega
  |succ i=>
    rw [R_one,Bool.and_eq_true]
    constructor
    · intro h;exact ⟨i,rfl,h⟩
    · rintro ⟨j,h,h2⟩
      obtain rfl:i=j:=by omega
      exact h2
theorem R_star_iff (s:List UInt8) (c:Nat) (p:List (Nat×Bool)): ∀i,R s ((c,true)::p) i=true↔ ∃j,j≤i∧R s p j=true∧ ∀t,j≤t→t<i→mem c (byteAt s t)=true
  |0=>by
    rw [R_star0]
    constructor
    · intro h;exact ⟨0,Nat.le_refl _,h,fun t _ h=>by omega⟩
    · rintro ⟨j,h,h2,_⟩
      obtain rfl:j=0:=by omega
      exact h2
  |i+1=>by
    rw [R_star1,Bool.or_eq_true,Bool.and_eq_true,R_star_iff s c p i]
    constructor
    · rintro (h|⟨⟨j,h1,h2,h3⟩,h4⟩)
      · exact ⟨i+1,Nat.le_refl _,h,fun t _ h=>by omega⟩
      · refine ⟨j,by omega,h2,fun t ht1 ht2=> ?_⟩
        by_cases e:t=i
        · subst e;exact h4
        · exact h3 t ht1 (by omega)
    · rintro ⟨j,h1,h2,h3⟩
      by_cases e:j=i+1
      · subst e;exact .inl h2
      · exact .inr ⟨⟨j,by omega,h2,fun t ht1 ht2=>h3 t ht1 (by omega)⟩,h3 i (by omega) (by omega)⟩

/-! ### Names -/
theorem cls_sub (x:Nat) (h:x<256):(cL x=true→cF x=true)∧(cF x=true→cW x=true)∧(cB x=true→cF x=true∧cL x=false):=by
  have:=(by decide+kernel: ∀y:Fin 256,(cL y.val=true→cF y.val=true)∧(cF y.val=true→cW y.val=true)∧(cB y.val=true→cF y.val=true∧cL y.val=false)) ⟨x,h⟩
  exact this
theorem byteAt_lt (s:List UInt8) (i:Nat):byteAt s i<256:=(s.getD i 0).toNat_lt
def patL:List (Nat×Bool):=[(76,false)]
def patLF:List (Nat×Bool):=[(70,false),(87,true),(76,false)]
def patBL:List (Nat×Bool):=[(76,false),(87,true),(66,false)]
def patBF:List (Nat×Bool):=[(70,false),(87,true),(76,false),(87,true),(66,false)]
def PM (s:List UInt8) (i:Nat):Prop:= ∃p,(p=patL∨p=patLF∨p=patBL∨p=patBF)∧R s p i=true
theorem R_first (s:List UInt8) (c:Nat) (i:Nat):R s [(c,false)] i=true↔i=1∧mem c (byteAt s 0)=true:=by
  rw [R_one_iff]
  constructor
  · rintro ⟨j,rfl,h,h2⟩
    rw [R_nil] at h
    obtain rfl:j=0:=by simpa using h
    exact ⟨rfl,h2⟩
  · rintro ⟨rfl,h⟩
    exact ⟨0,rfl,by rw [R_nil];rfl,h⟩
theorem mL (x:Nat):mem 76 x=cL x:=rfl
theorem mF (x:Nat):mem 70 x=cF x:=rfl
theorem mB (x:Nat):mem 66 x=cB x:=rfl
/-- What a plain name is. -/
def PN (s:List UInt8) (i:Nat):Prop:=1≤i∧(cL (byteAt s 0)=true∨cB (byteAt s 0)=true)∧(∀t,t<i→cW (byteAt s t)=true)∧cF (byteAt s (i-1))=true∧ ∃t,t<i∧cL (byteAt s t)=true
theorem pm_iff (s:List UInt8) (i:Nat):PM s i↔PN s i:=by
  have sub:=fun t=>cls_sub (byteAt s t) (byteAt_lt s t)
  constructor
  · rintro ⟨p,hp,h⟩
    rcases hp with rfl|rfl|rfl|rfl
    · obtain ⟨rfl,h'⟩:=(R_first s 76 i).1 h
      rw [mL] at h'
      refine ⟨by omega,.inl h',fun t ht=> ?_,(sub 0).1 h',0,by omega,h'⟩
      obtain rfl:t=0:=by omega
      exact (sub 0).2.1 ((sub 0).1 h')
    · obtain ⟨j,rfl,h1,h2⟩:=(R_one_iff _ _ _ _).1 h
      obtain ⟨m,hm,h3,h4⟩:=(R_star_iff _ _ _ _).1 h1
      obtain ⟨rfl,h5⟩:=(R_first s 76 m).1 h3
      rw [mL] at h5
      rw [mF] at h2
      refine ⟨by omega,.inl h5,fun t ht=> ?_,h2,0,by omega,h5⟩
      by_cases e0:t=0
      · subst e0;exact (sub 0).2.1 ((sub 0).1 h5)
      · by_cases ej:t=j
        · subst ej;exact (sub t).2.1 h2
        · exact h4 t (by omega) (by omega)
    · obtain ⟨j,rfl,h1,h2⟩:=(R_one_iff _ _ _ _).1 h
      obtain ⟨m,hm,h3,h4⟩:=(R_star_iff _ _ _ _).1 h1
      obtain ⟨rfl,h5⟩:=(R_first s 66 m).1 h3
      rw [mB] at h5
      rw [mL] at h2
      refine ⟨by omega,.inr h5,fun t ht=> ?_,(sub j).1 h2,j,by omega,h2⟩
      by_cases e0:t=0
      · subst e0;exact (sub 0).2.1 ((sub 0).2.2 h5).1
      · by_cases ej:t=j
        · subst ej;exact (sub t).2.1 ((sub t).1 h2)
        · exact h4 t (by omega) (by omega)
    · obtain ⟨j,rfl,h1,h2⟩:=(R_one_iff _ _ _ _).1 h
      obtain ⟨m,hm,h3,h4⟩:=(R_star_iff _ _ _ _).1 h1
      obtain ⟨n,rfl,h6,h7⟩:=(R_one_iff _ _ _ _).1 h3
      obtain ⟨o,ho,h8,h9⟩:=(R_star_iff _ _ _ _).1 h6
      obtain ⟨rfl,h5⟩:=(R_first s 66 o).1 h8
      rw [mB] at h5
      rw [mF] at h2
      rw [mL] at h7
      refine ⟨by omega,.inr h5,fun t ht=> ?_,h2,n,by omega,h7⟩
      by_cases e0:t=0
      · subst e0;exact (sub 0).2.1 ((sub 0).2.2 h5).1
      · by_cases ej:t=j
        · subst ej;exact (sub t).2.1 h2
        · by_cases en:t=n
          · subst en;exact (sub t).2.1 ((sub t).1 h7)
          · rcases Nat.lt_or_ge t n with hl|hl
            · exact h9 t (by omega) hl
            · exact h4 t (by omega) (by omega)
  · rintro ⟨h1,h2,h3,h4,t,ht,h5⟩
    obtain ⟨j,rfl⟩: ∃j,i=j+1:=⟨i-1,by omega⟩
    rw [Nat.add_sub_cancel] at h4
    have star: ∀m,m≤j→ ∀u,m≤u→u<j→mem 87 (byteAt s u)=true:=fun m _ u _ hu=>h3 u (by omega)
    by_cases hL:cL (byteAt s 0)=true
    · by_cases hj:j=0
      · subst hj
        exact ⟨patL,.inl rfl,(R_first s 76 1).2 ⟨rfl,hL⟩⟩
      · refine ⟨patLF,.inr (.inl rfl),(R_one_iff _ _ _ _).2 ⟨j,rfl,(R_star_iff _ _ _ _).2 ⟨1,by omega,(R_first s 76 1).2 ⟨rfl,hL⟩,star 1 (by omega)⟩,h4⟩⟩
    · have hB : cB (byteAt s 0) = true := by
        rcases h2 with h|h
        · exact absurd h hL
        · exact h
      have ht0:t≠0:=by rintro rfl;exact hL h5
      by_cases htj:t=j
      · subst htj
        exact ⟨patBL,.inr (.inr (.inl rfl)),(R_one_iff _ _ _ _).2 ⟨t,rfl,(R_star_iff _ _ _ _).2 ⟨1,by omega,(R_first s 66 1).2 ⟨rfl,hB⟩,star 1 (by omega)⟩,h5⟩⟩
      · refine ⟨patBF,.inr (.inr (.inr rfl)),(R_one_iff _ _ _ _).2 ⟨j,rfl,(R_star_iff _ _ _ _).2 ⟨t+1,by omega,(R_one_iff _ _ _ _).2 ⟨t,rfl,(R_star_iff _ _ _ _).2 ⟨1,by omega,(R_first s 66 1).2 ⟨rfl,hB⟩,fun u _ hu=>h3 u (by omega)⟩,h5⟩,star (t+1) (by omega)⟩,h4⟩⟩
theorem plainGo_spec : ∀ (l : List UInt8) (i : Nat) (lt : Bool) (n : Nat), n ≤ i →
    (plainGo l i lt n=n∨ ∃t,plainGo l i lt n=i+t+1∧t<l.length∧cF (byteAt l t)=true∧(lt=true∨ ∃u,u≤t∧cL (byteAt l u)=true))∧n≤plainGo l i lt n∧
    ∀t,t<l.length→cF (byteAt l t)=true→(lt=true∨ ∃u,u≤t∧cL (byteAt l u)=true)→i+t+1≤plainGo l i lt n
  |[],i,lt,n,h=>⟨.inl rfl,Nat.le_refl _,fun t ht=>by simp at ht⟩
  |x::l,i,lt,n,h=>by
    have hx:byteAt (x::l) 0=x.toNat:=rfl
    have hs: ∀t,byteAt (x::l) (t+1)=byteAt l t:=fun t=>rfl
    have step:plainGo (x::l) i lt n=plainGo l (i+1) (lt||cL x.toNat) (if ((lt||cL x.toNat)&&cF x.toNat)=true then i+1 else n):=rfl
    obtain ⟨h1,h2,h3⟩:=plainGo_spec l (i+1) (lt||cL x.toNat) (if ((lt||cL x.toNat)&&cF x.toNat)=true then i+1 else n) (by split<;>omega)
    rw [step]
    have lift: ∀t,((lt||cL x.toNat)=true∨ ∃u,u≤t∧cL (byteAt l u)=true)↔(lt=true∨ ∃u,u≤t+1∧cL (byteAt (x::l) u)=true):=by
      intro t
      rw [Bool.or_eq_true]
      constructor
      · rintro ((h|h)|⟨u,hu,h⟩)
        · exact .inl h
        · exact .inr ⟨0,by omega,h⟩
        · exact .inr ⟨u+1,by omega,h⟩
      · rintro (h|⟨u,hu,h⟩)
        · exact .inl (.inl h)
        · cases u with
          |zero=>exact .inl (.inr h)
          |succ u=>exact .inr ⟨u,by omega,h⟩
    refine ⟨?_, ?_, ?_⟩
    · rcases h1 with h1|⟨t,h4,h5,h6,h7⟩
      · by_cases hc:((lt||cL x.toNat)&&cF x.toNat)=true
        · rw [if_pos hc] at h1⊢
          right
          rw [Bool.and_eq_true,Bool.or_eq_true] at hc
          refine ⟨0,by rw [h1],by simp,hc.2, ?_⟩
          rcases hc.1 with h|h
          · exact .inl h
          · exact .inr ⟨0,Nat.le_refl _,h⟩
        · rw [if_neg hc] at h1⊢
          exact .inl h1
      · right
        exact ⟨t+1,by rw [h4];omega,by simp only [List.length_cons];omega,h6,(lift t).1 h7⟩
    · refine Nat.le_trans ?_ h2
      split<;>omega
    · intro t ht hF hL
      cases t with
      |zero=>
        have hc:((lt||cL x.toNat)&&cF x.toNat)=true:=by
          rw [Bool.and_eq_true,Bool.or_eq_true]
          refine ⟨?_,hF⟩
          rcases hL with h|⟨u,hu,h⟩
          · exact .inl h
          · obtain rfl:u=0:=by omega
            exact .inr h
        rw [if_pos hc] at h2⊢
        omega
      |succ t=>
        have:=h3 t (by simp only [List.length_cons] at ht;omega) hF ((lift t).2 hL)
        omega
theorem allN_le_of {T:Nat→Bool}: ∀(s:List UInt8) (i:Nat),i≤s.length→(∀t,t<i→T (byteAt s t)=true)→i≤allN T s
  |s,0,_,_=>Nat.zero_le _
  |[],i+1,h,_=>by simp at h
  |x::s,i+1,h,hT=>by
    unfold allN
    rw [if_pos (show T x.toNat=true from hT 0 (by omega))]
    have:=allN_le_of s i (by simpa using h) (fun t ht=>hT (t+1) (by omega))
    omega
/-- plain is the longest plain name. -/
theorem plain_max (s:List UInt8):(0<plain s→PN s (plain s))∧ ∀i,i≤s.length→PN s i→i≤plain s:=by
  cases s with
  |nil=>exact ⟨fun h=>by simp [plain] at h,fun i hi=>by simp at hi;omega⟩
  |cons x s=>
    have hb: ∀m t,t<m→byteAt ((x::s).take m) t=byteAt (x::s) t:=fun m t ht=>byteAt_take _ ht
    rw [plain_cons]
    by_cases hx:(cL x.toNat||cB x.toNat)=true
    · rw [if_pos hx]
      have hx':cL (byteAt (x::s) 0)=true∨cB (byteAt (x::s) 0)=true:=Bool.or_eq_true_iff.1 hx
      obtain ⟨N,hN⟩: ∃N,allN cW (x::s)=N:=⟨_,rfl⟩
      have hNl:N≤(x::s).length:=hN▸allN_len cW (x::s)
      have hlen:((x::s).take N).length=N:=by rw [List.length_take];omega
      rw [hN]
      obtain ⟨h1,h2,h3⟩:=plainGo_spec ((x::s).take N) 0 false 0 (Nat.le_refl _)
      refine ⟨fun h=> ?_,fun i hi hp=> ?_⟩
      · rcases h1 with h1|⟨t,h4,h5,h6,h7⟩
        · omega
        · rw [hlen] at h5
          rw [hb N t h5] at h6
          rw [h4]
          refine ⟨by omega,hx',fun u hu=> ?_,by rw [show 0+t+1-1=t from by omega];exact h6, ?_⟩
          · exact allN_at cW (x::s) u (by omega)
          · rcases h7 with h7|⟨u,hu,h7⟩
            · cases h7
            · rw [hb N u (by omega)] at h7
              exact ⟨u,by omega,h7⟩
      · obtain ⟨p1,p2,p3,p4,t,ht,p5⟩:=hp
        have hiN:i≤N:=hN▸allN_le_of (x::s) i hi p3
        have:=h3 (i-1) (by rw [hlen];omega) (by rw [hb N _ (by omega)];exact p4) (.inr ⟨t,by omega,by rw [hb N _ (by omega)];exact p5⟩)
        omega
    · rw [if_neg hx]
      refine ⟨fun h=>by omega,fun i hi hp=> ?_⟩
      exact absurd (Bool.or_eq_true_iff.2 hp.2.1) hx
/-- Where a plain name is followed by a byte that is none of a name's, it is the longest one. -/
theorem plain_end {s:List UInt8} {j:Nat} (hj:j≤s.length) (hp:PN s j) (hw:cW (byteAt s j)=false):j=plain s:=by
  have h1:=(plain_max s).2 j hj hp
  rcases Nat.lt_or_ge j (plain s) with h|h
  · have:=((plain_max s).1 (by omega)).2.2.1 j h
    rw [this] at hw
    cases hw
  · omega
/-- What a name with a second part is. -/
def QN (s:List UInt8) (i:Nat):Prop:= ∃j,PN s j∧byteAt s j=64∧(cL (byteAt s (j+1))||cD (byteAt s (j+1)))=true∧j+2≤i∧ ∀t,j+2≤t→t<i→cQ (byteAt s t)=true
theorem q_split (x:Nat) (h:x<256):(cL x||cD x)=true↔(cQ x=true∧x≠45):=by
  have:=(by decide+kernel: ∀y:Fin 256,(cL y.val||cD y.val)=true↔(cQ y.val=true∧y.val≠45)) ⟨x,h⟩
  exact this
theorem byteAt_end {s:List UInt8} {i:Nat} (h:s.length≤i):byteAt s i=0:=by
  unfold byteAt
  rw [List.getD_eq_getElem?_getD,List.getElem?_eq_none h]
  rfl
theorem byteAt_in {s:List UInt8} {i:Nat} (h:byteAt s i≠0):i<s.length:=by
  rcases Nat.lt_or_ge i s.length with h'|h'
  · exact h'
  · exact absurd (byteAt_end h') h
theorem name_max (s:List UInt8):(0<name s→PN s (name s)∨QN s (name s))∧ ∀i,i≤s.length→(PN s i∨QN s i)→i≤name s:=by
  have hp:=plain_max s
  have noW:cW 64=false:=by decide
  -- the second part's begin
  have key: ∀i,i≤s.length→QN s i→0<plain s∧ ∃c q,s.drop (plain s)=c::q∧(c.toNat=64∧0<allN cQ q∧byteAt q 0≠45)∧i≤plain s+1+allN cQ q:=by
    rintro i hi ⟨j,h1,h2,h3,h4,h5⟩
    have hjl:j<s.length:=byteAt_in (by rw [h2];decide)
    obtain rfl:=plain_end (by omega) h1 (by rw [h2];exact noW)
    refine ⟨h1.1, ?_⟩
    have hd:s.drop (plain s)=s[plain s]::s.drop (plain s+1):=List.drop_eq_getElem_cons hjl
    have hc:(s[plain s]).toNat=64:=by
      rw [←h2]
      unfold byteAt
      rw [List.getD_eq_getElem?_getD,List.getElem?_eq_getElem hjl]
      rfl
    have hq0:byteAt (s.drop (plain s+1)) 0=byteAt s (plain s+1):=byteAt_drop _ _ _
    obtain ⟨hq,h45⟩:=(q_split _ (byteAt_lt s _)).1 h3
    have hall:i-(plain s+1)≤allN cQ (s.drop (plain s+1)):=by
      refine allN_le_of _ _ (by rw [List.length_drop];omega) fun t ht=> ?_
      rw [byteAt_drop]
      by_cases e:t=0
      · subst e;exact hq
      · exact h5 (plain s+1+t) (by omega) (by omega)
    exact ⟨_,_,hd,⟨hc,by omega,by rw [hq0];exact h45⟩,by omega⟩
  refine ⟨fun h=> ?_,fun i hi h=> ?_⟩
  · unfold name at h⊢
    by_cases h0:0<plain s
    · rw [if_pos h0] at h⊢
      cases hd:s.drop (plain s) with
      |nil=>exact .inl (hp.1 h0)
      |cons c q=>
        dsimp only
        by_cases hc:c.toNat=64∧0<allN cQ q∧byteAt q 0≠45
        · rw [if_pos hc]
          right
          have hb: ∀t,byteAt (c::q) t=byteAt s (plain s+t):=fun t=>by rw [←hd,byteAt_drop]
          refine ⟨plain s,hp.1 h0, ?_, ?_,by omega,fun t ht1 ht2=> ?_⟩
          · have:=hb 0
            rw [Nat.add_zero] at this
            rw [←this];exact hc.1
          · have h1:=hb 1
            rw [←h1]
            exact (q_split _ (byteAt_lt _ _)).2 ⟨allN_at cQ q 0 hc.2.1,hc.2.2⟩
          · have h1:=hb (t-plain s)
            rw [show plain s+(t-plain s)=t from by omega] at h1
            rw [←h1]
            obtain ⟨u,hu⟩: ∃u,t-plain s=u+1:=⟨t-plain s-1,by omega⟩
            rw [hu]
            exact allN_at cQ q u (by omega)
        · rw [if_neg hc];exact .inl (hp.1 h0)
    · rw [if_neg h0] at h;omega
  · rcases h with h|h
    · exact Nat.le_trans (hp.2 i hi h) (plain_name s)
    · obtain ⟨h0,c,q,hd,hc,hle⟩:=key i hi h
      unfold name
      rw [if_pos h0,hd]
      dsimp only
      rw [if_pos hc]
      exact hle
end Go.Proofs.YtipnlgmeonepfaaGreatDoor.Lx

namespace Go.Proofs.YtipnlgmeonepfaaGreatDoor.Lx

theorem R_append (s:List UInt8) (q:List (Nat×Bool)): ∀(p:List (Nat×Bool)) (i:Nat),R s (p++q) i=true↔ ∃j,j≤i∧R s q j=true∧R (s.drop j) p (i-j)=true
  |[],i=>by
    constructor
    · intro h;exact ⟨i,Nat.le_refl _,h,by rw [R_nil,Nat.sub_self];rfl⟩
    · rintro ⟨j,h1,h2,h3⟩
      rw [R_nil] at h3
      have h3:i-j=0:=by simpa using h3
      obtain rfl:j=i:=by omega
      exact h2
  |(c,false)::p,i=>by
    rw [List.cons_append,R_one_iff]
    constructor
    · rintro ⟨m,rfl,h1,h2⟩
      obtain ⟨j,hj,h3,h4⟩:=(R_append s q p m).1 h1
      exact ⟨j,by omega,h3,(R_one_iff _ _ _ _).2 ⟨m-j,by omega,h4,by rw [byteAt_drop,show j+(m-j)=m from by omega];exact h2⟩⟩
    · rintro ⟨j,hj,h3,h4⟩
      obtain ⟨m,hm,h5,h6⟩:=(R_one_iff _ _ _ _).1 h4
      rw [byteAt_drop] at h6
      exact ⟨j+m,by omega,(R_append s q p (j+m)).2 ⟨j,by omega,h3,by rw [show j+m-j=m from by omega];exact h5⟩,h6⟩
  |(c,true)::p,i=>by
    rw [List.cons_append,R_star_iff]
    constructor
    · rintro ⟨m,hm,h1,h2⟩
      obtain ⟨j,hj,h3,h4⟩:=(R_append s q p m).1 h1
      refine ⟨j,by omega,h3,(R_star_iff _ _ _ _).2 ⟨m-j,by omega,h4,fun t h5 h6=> ?_⟩⟩
      rw [byteAt_drop]
      exact h2 (j+t) (by omega) (by omega)
    · rintro ⟨j,hj,h3,h4⟩
      obtain ⟨m,hm,h5,h6⟩:=(R_star_iff _ _ _ _).1 h4
      refine ⟨j+m,by omega,(R_append s q p (j+m)).2 ⟨j,by omega,h3,by rw [show j+m-j=m from by omega];exact h5⟩,fun t h7 h8=> ?_⟩
      have:=h6 (t-j) (by omega) (by omega)
      rw [byteAt_drop,show j+(t-j)=t from by omega] at this
      exact this

/-! ### The most that a pattern takes -/
def lngGo (s:List UInt8) (p:List (Nat×Bool)):Nat→Nat
  |0=>0
  |i+1=>if R s p (i+1)=true then i+1 else lngGo s p i
def lng (p:List (Nat×Bool)) (s:List UInt8):Nat:=lngGo s p s.length
theorem lngGo_spec (s:List UInt8) (p:List (Nat×Bool)): ∀n,lngGo s p n≤n∧(0<lngGo s p n→R s p (lngGo s p n)=true)∧ ∀i,1≤i→i≤n→R s p i=true→i≤lngGo s p n
  |0=>⟨Nat.le_refl _,fun h=>absurd h (by simp [lngGo]),fun i h1 h2=>by omega⟩
  |n+1=>by
    obtain ⟨h1,h2,h3⟩:=lngGo_spec s p n
    unfold lngGo
    by_cases h:R s p (n+1)=true
    · rw [if_pos h]
      exact ⟨Nat.le_refl _,fun _=>h,fun i _ hi _=>hi⟩
    · rw [if_neg h]
      refine ⟨by omega,h2,fun i hi1 hi2 hi3=> ?_⟩
      by_cases e:i=n+1
      · subst e;exact absurd hi3 h
      · exact h3 i hi1 (by omega) hi3
theorem lng_le (p:List (Nat×Bool)) (s:List UInt8):lng p s≤s.length:=(lngGo_spec s p s.length).1
theorem lng_R {p:List (Nat×Bool)} {s:List UInt8} (h:0<lng p s):R s p (lng p s)=true:=(lngGo_spec s p s.length).2.1 h
theorem lng_ge {p:List (Nat×Bool)} {s:List UInt8} {i:Nat} (h1:1≤i) (h2:i≤s.length) (h:R s p i=true):i≤lng p s:=(lngGo_spec s p s.length).2.2 i h1 h2 h
/-- Where all that some patterns take is told by Q, and t is the most of Q: the patterns' most is t. -/
theorem lng_cover {Q : Nat → Prop} {P : List (Nat × Bool) → Prop} {s : List UInt8} {t : Nat} (hQ : ∀ i, 1 ≤ i → i ≤ s.length → (Q i ↔ ∃ p, P p ∧ R s p i = true)) (ht : t ≤ s.length) (h1 : 0 < t → Q t) (h2 : ∀ i, i ≤ s.length → 1 ≤ i → Q i → i ≤ t) :
    (∀p,P p→lng p s≤t)∧(0<t→ ∃p,P p∧lng p s=t):=by
  have up: ∀p,P p→lng p s≤t:=by
    intro p hp
    rcases Nat.eq_zero_or_pos (lng p s) with h|h
    · omega
    · exact h2 _ (lng_le p s) h ((hQ _ h (lng_le p s)).2 ⟨p,hp,lng_R h⟩)
  refine ⟨up,fun h=> ?_⟩
  obtain ⟨p,hp,hr⟩:=(hQ t h ht).1 (h1 h)
  have:=lng_ge h ht hr
  have:=up p hp
  exact ⟨p,hp,by omega⟩

/-! ### The kinds -/
def plainPats:List (List (Nat×Bool)):=[patL,patLF,patBL,patBF]
theorem plainPats_iff (p:List (Nat×Bool)):p∈plainPats↔(p=patL∨p=patLF∨p=patBL∨p=patBF):=by simp [plainPats]
theorem pn_iff (s:List UInt8) (i:Nat):PN s i↔ ∃p,p∈plainPats∧R s p i=true:=by
  rw [←pm_iff]
  unfold PM
  simp only [plainPats_iff]
def ats (p:List (Nat×Bool)):List (Nat×Bool):=(81,true)::(65,false)::(64,false)::p
theorem mem_lit (k x:Nat) (h:k≠76∧k≠68∧k≠87∧k≠70∧k≠66∧k≠81∧k≠65):mem k x=(x==k):=by
  obtain ⟨h1,h2,h3,h4,h5,h6,h7⟩:=h
  unfold mem
  rw [if_neg h1,if_neg h2,if_neg h3,if_neg h4,if_neg h5,if_neg h6,if_neg h7]
theorem ats_iff (s:List UInt8) (p:List (Nat×Bool)) (i:Nat):R s (ats p) i=true↔ ∃j,R s p j=true∧byteAt s j=64∧(cL (byteAt s (j+1))||cD (byteAt s (j+1)))=true∧j+2≤i∧ ∀t,j+2≤t→t<i→cQ (byteAt s t)=true:=by
  unfold ats
  rw [R_star_iff]
  constructor
  · rintro ⟨m,hm,h1,h2⟩
    obtain ⟨n,rfl,h3,h4⟩:=(R_one_iff _ _ _ _).1 h1
    obtain ⟨j,rfl,h5,h6⟩:=(R_one_iff _ _ _ _).1 h3
    rw [mem_lit 64 _ (by decide)] at h6
    exact ⟨j,h5,by simpa using h6,h4,by omega,fun t ht1 ht2=>h2 t (by omega) ht2⟩
  · rintro ⟨j,h5,h6,h4,hji,h2⟩
    exact ⟨j+2,hji,(R_one_iff _ _ _ _).2 ⟨j+1,rfl,(R_one_iff _ _ _ _).2 ⟨j,rfl,h5,by rw [mem_lit 64 _ (by decide),h6];rfl⟩,h4⟩,fun t ht1 ht2=>h2 t ht1 ht2⟩
theorem qn_iff (s:List UInt8) (i:Nat):QN s i↔ ∃p,p∈plainPats∧R s (ats p) i=true:=by
  constructor
  · rintro ⟨j,h1,h2⟩
    obtain ⟨p,hp,hr⟩:=(pn_iff s j).1 h1
    exact ⟨p,hp,(ats_iff s p i).2 ⟨j,hr,h2⟩⟩
  · rintro ⟨p,hp,hr⟩
    obtain ⟨j,h1,h2⟩:=(ats_iff s p i).1 hr
    exact ⟨j,(pn_iff s j).2 ⟨p,hp,h1⟩,h2⟩
theorem plain_cover (s:List UInt8):(∀p,p∈plainPats→lng p s≤plain s)∧(0<plain s→ ∃p,p∈plainPats∧lng p s=plain s):=
  lng_cover (Q:=PN s) (fun i _ _=>pn_iff s i) (plain_len s) (plain_max s).1 (fun i hi _ h=>(plain_max s).2 i hi h)
theorem name_cover (s:List UInt8):(∀p,(p∈plainPats∨ ∃q,q∈plainPats∧p=ats q)→lng p s≤name s)∧(0<name s→ ∃p,(p∈plainPats∨ ∃q,q∈plainPats∧p=ats q)∧lng p s=name s):=by
  refine lng_cover (Q:=fun i=>PN s i∨QN s i) (fun i _ _=> ?_) (name_len s) (name_max s).1 (fun i hi _ h=>(name_max s).2 i hi h)
  rw [pn_iff,qn_iff]
  constructor
  · rintro (⟨p,hp,hr⟩|⟨p,hp,hr⟩)
    · exact ⟨p,.inl hp,hr⟩
    · exact ⟨ats p,.inr ⟨p,hp,rfl⟩,hr⟩
  · rintro ⟨p,hp|⟨q,hq,rfl⟩,hr⟩
    · exact .inl ⟨p,hp,hr⟩
    · exact .inr ⟨q,hq,hr⟩
def digs:List (Nat×Bool):=[(68,true),(68,false)]
def ndigs:List (Nat×Bool):=[(68,true),(68,false),(45,false)]
theorem digs_iff (s:List UInt8) (i:Nat):R s digs i=true↔1≤i∧ ∀t,t<i→cD (byteAt s t)=true:=by
  unfold digs
  rw [R_star_iff]
  constructor
  · rintro ⟨j,hj,h1,h2⟩
    obtain ⟨rfl,h3⟩:=(R_first s 68 j).1 h1
    refine ⟨hj,fun t ht=> ?_⟩
    by_cases e:t=0
    · subst e;exact h3
    · exact h2 t (by omega) ht
  · rintro ⟨h1,h2⟩
    exact ⟨1,h1,(R_first s 68 1).2 ⟨rfl,h2 0 (by omega)⟩,fun t _ ht=>h2 t ht⟩
theorem ndigs_iff (s:List UInt8) (i:Nat):R s ndigs i=true↔2≤i∧byteAt s 0=45∧ ∀t,1≤t→t<i→cD (byteAt s t)=true:=by
  unfold ndigs
  rw [R_star_iff]
  constructor
  · rintro ⟨j,hj,h1,h2⟩
    obtain ⟨m,rfl,h3,h4⟩:=(R_one_iff _ _ _ _).1 h1
    obtain ⟨rfl,h5⟩:=(R_first s 45 m).1 h3
    rw [mem_lit 45 _ (by decide)] at h5
    refine ⟨hj,by simpa using h5,fun t ht1 ht2=> ?_⟩
    by_cases e:t=1
    · subst e;exact h4
    · exact h2 t (by omega) ht2
  · rintro ⟨h1,h2,h3⟩
    exact ⟨2,h1,(R_one_iff _ _ _ _).2 ⟨1,rfl,(R_first s 45 1).2 ⟨rfl,by rw [mem_lit 45 _ (by decide),h2];rfl⟩,h3 1 (by omega) (by omega)⟩,fun t ht1 ht2=>h3 t (by omega) ht2⟩
theorem minus_byte (s:List UInt8):pre [45] s=true↔byteAt s 0=45:=by
  cases s with
  |nil=>simp [pre,List.isPrefixOf,byteAt]
  |cons c t=>
    have:byteAt (c::t) 0=c.toNat:=rfl
    rw [this]
    simp only [pre,List.isPrefixOf,Bool.and_true,beq_iff_eq]
    constructor
    · intro h;rw [←h];rfl
    · intro h;exact (UInt8.toNat_inj.1 (by rw [h];rfl)).symm
theorem integer_cover (op:Bool) (s:List UInt8):(∀p,(p=digs∨(p=ndigs∧op=false))→lng p s≤integer op s)∧(0<integer op s→ ∃p,(p=digs∨(p=ndigs∧op=false))∧lng p s=integer op s):=by
  refine lng_cover (Q:=fun i=>(1≤i∧ ∀t,t<i→cD (byteAt s t)=true)∨(op=false∧2≤i∧byteAt s 0=45∧ ∀t,1≤t→t<i→cD (byteAt s t)=true)) (fun i _ _=> ?_) (integer_len op s) (fun h=> ?_) (fun i hi hi1 h=> ?_)
  · constructor
    · rintro (h|⟨ho,h⟩)
      · exact ⟨digs,.inl rfl,(digs_iff s i).2 h⟩
      · exact ⟨ndigs,.inr ⟨rfl,ho⟩,(ndigs_iff s i).2 h⟩
    · rintro ⟨p,rfl|⟨rfl,ho⟩,hr⟩
      · exact .inl ((digs_iff s i).1 hr)
      · exact .inr ⟨ho,(ndigs_iff s i).1 hr⟩
  · unfold integer at h⊢
    by_cases h0:0<allN cD (s.drop (minus op s))
    · rw [if_pos h0] at h⊢
      by_cases hm:pre [45] s=true∧op=false
      · have hm1:minus op s=1:=by unfold minus;rw [if_pos hm]
        rw [hm1] at h0⊢
        refine .inr ⟨hm.2,by omega,(minus_byte s).1 hm.1,fun t ht1 ht2=> ?_⟩
        have:=allN_at cD (s.drop 1) (t-1) (by omega)
        rwa [byteAt_drop,show 1+(t-1)=t from by omega] at this
      · have hm0:minus op s=0:=by unfold minus;rw [if_neg hm]
        rw [hm0] at h0⊢
        rw [List.drop_zero] at h0⊢
        exact .inl ⟨by omega,fun t ht=>allN_at cD s t (by omega)⟩
    · rw [if_neg h0] at h;omega
  · unfold integer
    rcases h with ⟨h1,h2⟩|⟨ho,h1,h2,h3⟩
    · have hne : ¬ (pre [45] s = true ∧ op = false) := by
        rintro ⟨hp,_⟩
        have h45:=(minus_byte s).1 hp
        have:=h2 0 (by omega)
        rw [h45] at this
        exact absurd this (by decide)
      have hm0:minus op s=0:=by unfold minus;rw [if_neg hne]
      rw [hm0,List.drop_zero]
      have:=allN_le_of (T:=cD) s i hi h2
      rw [if_pos (by omega)]
      omega
    · have hm1:minus op s=1:=by unfold minus;rw [if_pos ⟨(minus_byte s).2 h2,ho⟩]
      rw [hm1]
      have:=allN_le_of (T:=cD) (s.drop 1) (i-1) (by rw [List.length_drop];omega) (fun t ht=>by rw [byteAt_drop];exact h3 (1+t) (by omega) (by omega))
      rw [if_pos (by omega)]
      omega
def pair (a b:Nat):List (Nat×Bool):=[(b,false),(a,false)]
theorem pair_iff (s:List UInt8) (a b i:Nat) (ha:a≠76∧a≠68∧a≠87∧a≠70∧a≠66∧a≠81∧a≠65) (hb:b≠76∧b≠68∧b≠87∧b≠70∧b≠66∧b≠81∧b≠65):R s (pair a b) i=true↔i=2∧byteAt s 0=a∧byteAt s 1=b:=by
  unfold pair
  rw [R_one_iff]
  constructor
  · rintro ⟨j,rfl,h1,h2⟩
    obtain ⟨rfl,h3⟩:=(R_first s a j).1 h1
    rw [mem_lit a _ ha] at h3
    rw [mem_lit b _ hb] at h2
    exact ⟨rfl,by simpa using h3,by simpa using h2⟩
  · rintro ⟨rfl,h1,h2⟩
    exact ⟨1,rfl,(R_first s a 1).2 ⟨rfl,by rw [mem_lit a _ ha,h1];simp⟩,by rw [mem_lit b _ hb,h2];simp⟩
theorem pre2_byte (a b:UInt8) (s:List UInt8) (ha:a.toNat≠0) (hb:b.toNat≠0):pre [a,b] s=true↔byteAt s 0=a.toNat∧byteAt s 1=b.toNat:=by
  constructor
  · intro h
    obtain ⟨r,rfl⟩:=pre2 h
    exact ⟨rfl,rfl⟩
  · rintro ⟨h1,h2⟩
    cases s with
    |nil=>exact absurd h1.symm ha
    |cons x s=>
      cases s with
      |nil=>exact absurd h2.symm hb
      |cons y s=>
        have e1:x=a:=UInt8.toNat_inj.1 h1
        have e2:y=b:=UInt8.toNat_inj.1 h2
        subst e1 e2
        simp [pre,List.isPrefixOf]
theorem hash_cover (s:List UInt8):(∀p,(p=pair 35 116∨p=pair 35 102)→lng p s≤hash s)∧(0<hash s→ ∃p,(p=pair 35 116∨p=pair 35 102)∧lng p s=hash s):=by
  have hh:(pre [35,116] s||pre [35,102] s)=true↔(byteAt s 0=35∧(byteAt s 1=116∨byteAt s 1=102)):=by
    rw [Bool.or_eq_true,pre2_byte 35 116 s (by decide) (by decide),pre2_byte 35 102 s (by decide) (by decide)]
    show (byteAt s 0=35∧byteAt s 1=116)∨(byteAt s 0=35∧byteAt s 1=102)↔_
    constructor
    · rintro (⟨h,h'⟩|⟨h,h'⟩)
      · exact ⟨h,.inl h'⟩
      · exact ⟨h,.inr h'⟩
    · rintro ⟨h,h'|h'⟩
      · exact .inl ⟨h,h'⟩
      · exact .inr ⟨h,h'⟩
  refine lng_cover (Q:=fun i=>i=2∧byteAt s 0=35∧(byteAt s 1=116∨byteAt s 1=102)) (fun i _ _=> ?_) (hash_len s) (fun h=> ?_) (fun i hi hi1 h=> ?_)
  · constructor
    · rintro ⟨h1,h2,h3|h3⟩
      · exact ⟨_,.inl rfl,(pair_iff s 35 116 i (by decide) (by decide)).2 ⟨h1,h2,h3⟩⟩
      · exact ⟨_,.inr rfl,(pair_iff s 35 102 i (by decide) (by decide)).2 ⟨h1,h2,h3⟩⟩
    · rintro ⟨p,rfl|rfl,hr⟩
      · obtain ⟨h1,h2,h3⟩:=(pair_iff s 35 116 i (by decide) (by decide)).1 hr
        exact ⟨h1,h2,.inl h3⟩
      · obtain ⟨h1,h2,h3⟩:=(pair_iff s 35 102 i (by decide) (by decide)).1 hr
        exact ⟨h1,h2,.inr h3⟩
  · unfold hash at h⊢
    by_cases h0:(pre [35,116] s||pre [35,102] s)=true
    · rw [if_pos h0]
      exact ⟨rfl,hh.1 h0⟩
    · rw [if_neg h0] at h;omega
  · unfold hash
    rw [if_pos (hh.2 h.2)]
    omega
def keys (p:List (Nat×Bool)):List (Nat×Bool):=(58,false)::p
theorem keys_iff (s:List UInt8) (p:List (Nat×Bool)) (i:Nat):R s (keys p) i=true↔ ∃j,i=j+1∧R s p j=true∧byteAt s j=58:=by
  unfold keys
  rw [R_one_iff]
  constructor
  · rintro ⟨j,h1,h2,h3⟩
    rw [mem_lit 58 _ (by decide)] at h3
    exact ⟨j,h1,h2,by simpa using h3⟩
  · rintro ⟨j,h1,h2,h3⟩
    exact ⟨j,h1,h2,by rw [mem_lit 58 _ (by decide),h3];rfl⟩
/-- The length that the keywords' patterns take, whatever follows the colon. -/
def keyAny (s:List UInt8):Nat:=if 0<plain s∧byteAt s (plain s)=58 then plain s+1 else 0
theorem key_cover (s:List UInt8):(∀p,(∃q,q∈plainPats∧p=keys q)→lng p s=0∨lng p s=keyAny s)∧(0<keyAny s→ ∃p,(∃q,q∈plainPats∧p=keys q)∧lng p s=keyAny s):=by
  have noW:cW 58=false:=by decide
  have inv: ∀q,q∈plainPats→ ∀i,i≤s.length→R s (keys q) i=true→i=keyAny s:=by
    intro q hq i hi hr
    obtain ⟨j,rfl,h1,h2⟩:=(keys_iff s q i).1 hr
    have hp:=(pn_iff s j).2 ⟨q,hq,h1⟩
    obtain rfl:=plain_end (by omega) hp (by rw [h2];exact noW)
    unfold keyAny
    rw [if_pos ⟨hp.1,h2⟩]
  refine ⟨?_,fun h=> ?_⟩
  · rintro p ⟨q,hq,rfl⟩
    rcases Nat.eq_zero_or_pos (lng (keys q) s) with h|h
    · exact .inl h
    · exact .inr (inv q hq _ (lng_le _ _) (lng_R h))
  · have hk:=h
    unfold keyAny at h
    split at h
    · rename_i hc
      obtain ⟨q,hq,hr⟩:=(pn_iff s (plain s)).1 ((plain_max s).1 hc.1)
      have hlt:plain s<s.length:=byteAt_in (by rw [hc.2];decide)
      have hR:R s (keys q) (plain s+1)=true:=(keys_iff s q _).2 ⟨plain s,rfl,hr,hc.2⟩
      have e:keyAny s=plain s+1:=by unfold keyAny;rw [if_pos hc]
      refine ⟨keys q,⟨q,hq,rfl⟩, ?_⟩
      have h1:=lng_ge (by omega) (by omega) hR
      exact inv q hq _ (lng_le _ _) (lng_R (by omega))
    · omega
end Go.Proofs.YtipnlgmeonepfaaGreatDoor.Lx

namespace Go.Proofs.YtipnlgmeonepfaaGreatDoor.Lx

def q1 (p:List (Nat×Bool)):List (Nat×Bool):=p++[(63,false)]
def q2 (p p':List (Nat×Bool)):List (Nat×Bool):=p'++keys (q1 p)
theorem q1_iff (s:List UInt8) (p:List (Nat×Bool)) (i:Nat):R s (q1 p) i=true↔1≤i∧byteAt s 0=63∧R (s.drop 1) p (i-1)=true:=by
  unfold q1
  rw [R_append]
  constructor
  · rintro ⟨j,h1,h2,h3⟩
    obtain ⟨rfl,h4⟩:=(R_first s 63 j).1 h2
    rw [mem_lit 63 _ (by decide)] at h4
    exact ⟨h1,by simpa using h4,h3⟩
  · rintro ⟨h1,h2,h3⟩
    exact ⟨1,h1,(R_first s 63 1).2 ⟨rfl,by rw [mem_lit 63 _ (by decide),h2];rfl⟩,h3⟩
theorem q2_iff (s:List UInt8) (p p':List (Nat×Bool)) (i:Nat):R s (q2 p p') i=true↔ ∃m,m+1≤i∧R s (q1 p) m=true∧byteAt s m=58∧R (s.drop (m+1)) p' (i-(m+1))=true:=by
  unfold q2
  rw [R_append]
  constructor
  · rintro ⟨j,h1,h2,h3⟩
    obtain ⟨m,rfl,h4,h5⟩:=(keys_iff s _ j).1 h2
    exact ⟨m,h1,h4,h5,h3⟩
  · rintro ⟨m,h1,h4,h5,h3⟩
    exact ⟨m+1,h1,(keys_iff s _ _).2 ⟨m,rfl,h4,h5⟩,h3⟩
/-- What a pattern variable is. -/
def VN (s:List UInt8) (i:Nat):Prop:=byteAt s 0=63∧((1≤i∧PN (s.drop 1) (i-1))∨ ∃m,m+1≤i∧1≤m∧PN (s.drop 1) (m-1)∧byteAt s m=58∧PN (s.drop (m+1)) (i-(m+1)))
theorem vn_iff (s:List UInt8) (i:Nat):VN s i↔ ∃p,((∃q,q∈plainPats∧p=q1 q)∨ ∃q q',q∈plainPats∧q'∈plainPats∧p=q2 q q')∧R s p i=true:=by
  constructor
  · rintro ⟨h0,⟨h1,h2⟩|⟨m,h1,h2,h3,h4,h5⟩⟩
    · obtain ⟨q,hq,hr⟩:=(pn_iff _ _).1 h2
      exact ⟨q1 q,.inl ⟨q,hq,rfl⟩,(q1_iff s q i).2 ⟨h1,h0,hr⟩⟩
    · obtain ⟨q,hq,hr⟩:=(pn_iff _ _).1 h3
      obtain ⟨q',hq',hr'⟩:=(pn_iff _ _).1 h5
      exact ⟨q2 q q',.inr ⟨q,q',hq,hq',rfl⟩,(q2_iff s q q' i).2 ⟨m,h1,(q1_iff s q m).2 ⟨h2,h0,hr⟩,h4,hr'⟩⟩
  · rintro ⟨p,⟨q,hq,rfl⟩|⟨q,q',hq,hq',rfl⟩,hr⟩
    · obtain ⟨h1,h2,h3⟩:=(q1_iff s q i).1 hr
      exact ⟨h2,.inl ⟨h1,(pn_iff _ _).2 ⟨q,hq,h3⟩⟩⟩
    · obtain ⟨m,h1,h2,h3,h4⟩:=(q2_iff s q q' i).1 hr
      obtain ⟨h5,h6,h7⟩:=(q1_iff s q m).1 h2
      exact ⟨h6,.inr ⟨m,h1,h5,(pn_iff _ _).2 ⟨q,hq,h7⟩,h3,(pn_iff _ _).2 ⟨q',hq',h4⟩⟩⟩
theorem first_not_colon {x:Nat} (h:cL x=true∨cB x=true):x≠58∧x≠61:=by
  constructor<;>rintro rfl<;>exact absurd h (by decide)
theorem colon_next {s:List UInt8} {m:Nat} (h1:byteAt s m=58) (h2:byteAt s (m+1)≠58) (h3:byteAt s (m+1)≠61):colon s m=true:=by
  unfold colon
  have hm:m<s.length:=byteAt_in (by rw [h1];decide)
  have e:byteAt s m=(s[m]).toNat:=by
    unfold byteAt
    rw [List.getD_eq_getElem?_getD,List.getElem?_eq_getElem hm]
    rfl
  rw [List.drop_eq_getElem_cons hm]
  rw [e] at h1
  cases hd:s.drop (m+1) with
  |nil=>simp [colonHere,h1]
  |cons d t=>
    have e2:byteAt s (m+1)=d.toNat:=by
      have:=byteAt_drop s (m+1) 0
      rw [hd] at this
      exact this.symm
    rw [e2] at h2 h3
    simp [colonHere,h1,h2,h3]
theorem pattern_max (s:List UInt8):(0<pattern s→VN s (pattern s))∧ ∀i,i≤s.length→1≤i→VN s i→i≤pattern s:=by
  have noW:cW 58=false:=by decide
  cases s with
  |nil=>exact ⟨fun h=>by simp [pattern] at h,fun i hi h1=>by simp at hi;omega⟩
  |cons c t=>
    have hd1:(c::t).drop 1=t:=rfl
    have hb: ∀j,byteAt (c::t) (j+1)=byteAt t j:=fun j=>rfl
    have hc0:byteAt (c::t) 0=c.toNat:=rfl
    obtain ⟨a1,a2⟩:=plain_max t
    have hpl:=plain_len t
    rw [pattern_cons]
    by_cases hc:c.toNat=63
    · rw [if_pos hc]
      -- the second part
      have second : ∀ i m, i ≤ (c :: t).length → m + 1 ≤ i → 1 ≤ m → PN t (m - 1) → byteAt (c :: t) m = 58 → PN ((c :: t).drop (m + 1)) (i - (m + 1)) →
          m=plain t+1∧plain t≠0∧colon (c::t) (plain t+1)=true∧i≤plain t+1+1+plain ((c::t).drop (plain t+1+1))∧0<plain ((c::t).drop (plain t+1+1)):=by
        intro i m hi h1 h2 h3 h4 h5
        have hm58:byteAt t (m-1)=58:=by
          rw [←h4,show m=(m-1)+1 from by omega]
          rfl
        have hml:m-1<t.length:=byteAt_in (by rw [hm58];decide)
        have e:=plain_end (by omega) h3 (by rw [hm58];exact noW)
        have hm:m=plain t+1:=by omega
        subst hm
        have hf:=h5.2.1
        rw [byteAt_drop,Nat.add_zero] at hf
        obtain ⟨n1,n2⟩:=first_not_colon hf
        have hle:=(plain_max ((c::t).drop (plain t+1+1))).2 (i-(plain t+1+1)) (by rw [List.length_drop];omega) h5
        have:=h5.1
        have:=h3.1
        exact ⟨rfl,by omega,colon_next h4 n1 n2,by omega,by omega⟩
      refine ⟨fun h=> ?_,fun i hi hi1 hv=> ?_⟩
      · by_cases h0:plain t=0
        · rw [if_pos h0] at h;omega
        · rw [if_neg h0] at h⊢
          have base:VN (c::t) (plain t+1):=⟨hc,.inl ⟨by omega,by rw [hd1,Nat.add_sub_cancel];exact a1 (by omega)⟩⟩
          by_cases hcl:colon (c::t) (plain t+1)=true
          · rw [if_pos hcl]
            by_cases hp:0<plain ((c::t).drop (plain t+1+1))
            · rw [if_pos hp]
              refine ⟨hc,.inr ⟨plain t+1,by omega,by omega,by rw [hd1,Nat.add_sub_cancel];exact a1 (by omega),colon_byte hcl, ?_⟩⟩
              rw [show plain t+1+1+plain ((c::t).drop (plain t+1+1))-(plain t+1+1)=plain ((c::t).drop (plain t+1+1)) from by omega]
              exact (plain_max _).1 hp
            · rw [if_neg hp];exact base
          · rw [if_neg hcl];exact base
      · obtain ⟨h0,⟨h1,h2⟩|⟨m,h1,h2,h3,h4,h5⟩⟩:=hv
        · rw [hd1] at h2
          have hle:=a2 (i-1) (by simp only [List.length_cons] at hi;omega) h2
          have:=h2.1
          rw [if_neg (by omega)]
          split
          · split<;>omega
          · omega
        · rw [hd1] at h3
          obtain ⟨g1,g2,g3,g4,g5⟩:=second i m hi h1 h2 h3 h4 h5
          rw [if_neg g2,if_pos g3,if_pos g5]
          exact g4
    · rw [if_neg hc]
      refine ⟨fun h=>by omega,fun i hi hi1 hv=> ?_⟩
      exact absurd hv.1 hc
theorem pattern_cover (s:List UInt8):(∀p,((∃q,q∈plainPats∧p=q1 q)∨ ∃q q',q∈plainPats∧q'∈plainPats∧p=q2 q q')→lng p s≤pattern s)∧(0<pattern s→ ∃p,((∃q,q∈plainPats∧p=q1 q)∨ ∃q q',q∈plainPats∧q'∈plainPats∧p=q2 q q')∧lng p s=pattern s):=
  lng_cover (Q:=VN s) (fun i _ _=>vn_iff s i) (pattern_len s) (pattern_max s).1 (fun i hi h1 h=>(pattern_max s).2 i hi h1 h)

/-! ### The reference's choice -/
/-- Of two tokens (kind, length) the better one. -/
def pick (a c:Nat×Nat):Nat×Nat:=if a.2<c.2∨(c.2=a.2∧c.1<a.1) then c else a
/-- The best of what S tells. -/
def Best (S:Nat×Nat→Prop) (r:Nat×Nat):Prop:=(r=(0,0)∨(S r∧0<r.2))∧ ∀c,S c→0<c.2→c.2<r.2∨(c.2=r.2∧r.1≤c.1)
theorem Best.unique {S:Nat×Nat→Prop} {r r':Nat×Nat} (h:Best S r) (h':Best S r'):r=r':=by
  obtain ⟨a,b⟩:=h
  obtain ⟨a',b'⟩:=h'
  rcases a with rfl|⟨a1,a2⟩<;>rcases a' with rfl|⟨a1',a2'⟩
  · rfl
  · have:=b r' a1' a2'
    simp only at this
    omega
  · have:=b' r a1 a2
    simp only at this
    omega
  · have h1:=b r' a1' a2'
    have h2:=b' r a1 a2
    have e1:r.2=r'.2:=by omega
    have e2:r.1=r'.1:=by omega
    exact Prod.ext e2 e1
theorem fold_pick: ∀(L:List (Nat×Nat)) (a:Nat×Nat) (T:Nat×Nat→Prop),Best T a→(∀c∈L,0<c.2)→Best (fun c=>T c∨c∈L) (L.foldl pick a)
  |[],a,T,h,_=>by
    refine ⟨?_,fun c hc h0=> ?_⟩
    · rcases h.1 with h1|⟨h1,h2⟩
      · exact .inl h1
      · exact .inr ⟨.inl h1,h2⟩
    · rcases hc with hc|hc
      · exact h.2 c hc h0
      · cases hc
  |x::L,a,T,h,hp=>by
    have hx:=hp x List.mem_cons_self
    have h1:Best (fun c=>T c∨c=x) (pick a x):=by
      unfold pick
      by_cases hc:a.2<x.2∨(x.2=a.2∧x.1<a.1)
      · rw [if_pos hc]
        refine ⟨.inr ⟨.inr rfl,hx⟩,fun c hcc h0=> ?_⟩
        rcases hcc with hcc|rfl
        · have:=h.2 c hcc h0
          omega
        · omega
      · rw [if_neg hc]
        refine ⟨?_,fun c hcc h0=> ?_⟩
        · rcases h.1 with h1|⟨h1,h2⟩
          · exact .inl h1
          · exact .inr ⟨.inl h1,h2⟩
        · rcases hcc with hcc|rfl
          · exact h.2 c hcc h0
          · omega
    have h2:=fold_pick L (pick a x) _ h1 (fun c hc=>hp c (List.mem_cons_of_mem _ hc))
    rw [List.foldl_cons]
    refine ⟨?_,fun c hc h0=>h2.2 c ?_ h0⟩
    · rcases h2.1 with h3|⟨h3,h4⟩
      · exact .inl h3
      · refine .inr ⟨?_,h4⟩
        rcases h3 with (h3|h3)|h3
        · exact .inl h3
        · exact .inr (List.mem_cons.2 (.inl h3))
        · exact .inr (List.mem_cons_of_mem _ h3)
    · rcases hc with hc|hc
      · exact .inl (.inl hc)
      · rcases List.mem_cons.1 hc with rfl|hc
        · exact .inl (.inr rfl)
        · exact .inr hc
/-- Tokens of the program's rules. -/
def Took (op:Bool) (s:List UInt8) (c:Nat×Nat):Prop:=c.1∈[1,2,3,4,5,6]∧ask s c.1=true∧c.2=takes op s c.1
theorem longest_best (op:Bool) (s:List UInt8):Best (Took op s) (longest op s):=by
  have gen: ∀(l:List Nat) (a:Nat×Nat),(∀k∈l,k∈[1,2,3,4,5,6])→l.Pairwise (· < ·)→(∀k∈l,a.1<k)→Best (fun c=>Took op s c∧c.1∉l) a→Best (Took op s) (l.foldl (turn op s) a):=by
    intro l
    induction l with
    |nil=>
      intro a _ _ _ h
      refine ⟨?_,fun c hc h0=>h.2 c ⟨hc,by simp⟩ h0⟩
      rcases h.1 with h1|⟨h1,h2⟩
      · exact .inl h1
      · exact .inr ⟨h1.1,h2⟩
    |cons k l ih=>
      intro a hl hs ha h
      rw [List.foldl_cons]
      rw [List.pairwise_cons] at hs
      have hk:=hl k List.mem_cons_self
      have hk0: ∀c:Nat×Nat,c.1∉l→c.1≠k→c.1∉k::l:=fun c h1 h2 h3=>by
        rcases List.mem_cons.1 h3 with h3|h3
        · exact h2 h3
        · exact h1 h3
      have hak:=ha k List.mem_cons_self
      have hnotl: ∀j,j≤k→j∉l:=fun j hj hm=>by have:=hs.1 j hm;omega
      rw [turn_ask]
      by_cases hask:ask s k=false
      · rw [if_pos hask]
        refine ih a (fun j hj=>hl j (List.mem_cons_of_mem _ hj)) hs.2 (fun j hj=>ha j (List.mem_cons_of_mem _ hj)) ⟨?_,fun c hc h0=> ?_⟩
        · rcases h.1 with h1|⟨h1,h2⟩
          · exact .inl h1
          · exact .inr ⟨⟨h1.1,fun hm=>h1.2 (List.mem_cons_of_mem _ hm)⟩,h2⟩
        · by_cases hck:c.1=k
          · have:=hc.1.2.1
            rw [hck,hask] at this
            cases this
          · exact h.2 c ⟨hc.1,hk0 c hc.2 hck⟩ h0
      · have hask':ask s k=true:=by simpa using hask
        rw [if_neg hask]
        by_cases hlt:a.2<takes op s k
        · rw [if_pos hlt]
          refine ih (k,takes op s k) (fun j hj=>hl j (List.mem_cons_of_mem _ hj)) hs.2 (fun j hj=>hs.1 j hj) ⟨.inr ⟨⟨⟨hk,hask',rfl⟩,hnotl k (Nat.le_refl _)⟩,by show 0<takes op s k;omega⟩,fun c hc h0=> ?_⟩
          by_cases hck:c.1=k
          · have:=hc.1.2.2
            rw [hck] at this
            exact .inr ⟨this,by show k≤c.1;omega⟩
          · have:=h.2 c ⟨hc.1,hk0 c hc.2 hck⟩ h0
            left
            show c.2<takes op s k
            omega
        · rw [if_neg hlt]
          refine ih a (fun j hj=>hl j (List.mem_cons_of_mem _ hj)) hs.2 (fun j hj=>ha j (List.mem_cons_of_mem _ hj)) ⟨?_,fun c hc h0=> ?_⟩
          · rcases h.1 with h1|⟨h1,h2⟩
            · exact .inl h1
            · exact .inr ⟨⟨h1.1,fun hm=>h1.2 (List.mem_cons_of_mem _ hm)⟩,h2⟩
          · by_cases hck:c.1=k
            · have:=hc.1.2.2
              rw [hck] at this
              by_cases e:c.2=a.2
              · exact .inr ⟨e,by omega⟩
              · left;omega
            · exact h.2 c ⟨hc.1,hk0 c hc.2 hck⟩ h0
  refine gen [1,2,3,4,5,6] (0,0) (fun k h=>h) (by decide) (by decide) ⟨.inl rfl,fun c hc h0=> ?_⟩
  exact absurd hc.1.1 hc.2
end Go.Proofs.YtipnlgmeonepfaaGreatDoor.Lx

namespace Go.Proofs.YtipnlgmeonepfaaGreatDoor.Lx

def rulesP:List (Nat×List (Nat×Bool)):=plainPats.flatMap (fun p=>(1,p)::(1,ats p)::(3,keys p)::(6,q1 p)::plainPats.map (fun p'=>(6,q2 p p')))++[(2,digs),(2,ndigs),(4,pair 35 116),(4,pair 35 102)]
theorem rules_iff (k : Nat) (p : List (Nat × Bool)) : (k, p) ∈ rulesP ↔ ((k = 1 ∧ (p ∈ plainPats ∨ ∃ q, q ∈ plainPats ∧ p = ats q)) ∨ (k = 3 ∧ ∃ q, q ∈ plainPats ∧ p = keys q) ∨
    (k=6∧((∃q,q∈plainPats∧p=q1 q)∨ ∃q q',q∈plainPats∧q'∈plainPats∧p=q2 q q'))∨(k=2∧(p=digs∨p=ndigs))∨(k=4∧(p=pair 35 116∨p=pair 35 102))):=by
  unfold rulesP
  rw [List.mem_append,List.mem_flatMap]
  constructor
  · rintro (⟨q,hq,h⟩|h)
    · rcases List.mem_cons.1 h with h|h
      · injection h with h1 h2;subst h1 h2;exact .inl ⟨rfl,.inl hq⟩
      rcases List.mem_cons.1 h with h|h
      · injection h with h1 h2;subst h1 h2;exact .inl ⟨rfl,.inr ⟨q,hq,rfl⟩⟩
      rcases List.mem_cons.1 h with h|h
      · injection h with h1 h2;subst h1 h2;exact .inr (.inl ⟨rfl,q,hq,rfl⟩)
      rcases List.mem_cons.1 h with h|h
      · injection h with h1 h2;subst h1 h2;exact .inr (.inr (.inl ⟨rfl,.inl ⟨q,hq,rfl⟩⟩))
      · obtain ⟨q',hq',h⟩:=List.mem_map.1 h
        injection h with h1 h2;subst h1 h2;exact .inr (.inr (.inl ⟨rfl,.inr ⟨q,q',hq,hq',rfl⟩⟩))
    · simp only [List.mem_cons,List.not_mem_nil,or_false,Prod.mk.injEq] at h
      rcases h with ⟨rfl,rfl⟩|⟨rfl,rfl⟩|⟨rfl,rfl⟩|⟨rfl,rfl⟩
      · exact .inr (.inr (.inr (.inl ⟨rfl,.inl rfl⟩)))
      · exact .inr (.inr (.inr (.inl ⟨rfl,.inr rfl⟩)))
      · exact .inr (.inr (.inr (.inr ⟨rfl,.inl rfl⟩)))
      · exact .inr (.inr (.inr (.inr ⟨rfl,.inr rfl⟩)))
  · rintro (⟨rfl,hq|⟨q,hq,rfl⟩⟩|⟨rfl,q,hq,rfl⟩|⟨rfl,⟨q,hq,rfl⟩|⟨q,q',hq,hq',rfl⟩⟩|⟨rfl,rfl|rfl⟩|⟨rfl,rfl|rfl⟩)
    · exact .inl ⟨p,hq,by simp⟩
    · exact .inl ⟨q,hq,by simp⟩
    · exact .inl ⟨q,hq,by simp⟩
    · exact .inl ⟨q,hq,by simp⟩
    · refine .inl ⟨q,hq, ?_⟩
      simp only [List.mem_cons]
      exact .inr (.inr (.inr (.inr (List.mem_map.2 ⟨q',hq',rfl⟩))))
    · exact .inr (by simp)
    · exact .inr (by simp)
    · exact .inr (by simp)
    · exact .inr (by simp)
/-- Is the byte behind a place a colon or an equals sign? -/
def after (v:List UInt8) (j:Nat):Bool:=byteAt v (j+1)==58||byteAt v (j+1)==61
theorem after_iff (v:List UInt8) (j:Nat):after v j=false↔byteAt v (j+1)≠58∧byteAt v (j+1)≠61:=by
  unfold after
  rw [Bool.or_eq_false_iff,beq_eq_false_iff_ne,beq_eq_false_iff_ne]
theorem colon_iff (s:List UInt8) (m:Nat):colon s m=true↔byteAt s m=58∧after s m=false:=by
  rw [after_iff]
  constructor
  · intro h
    refine ⟨colon_byte h, ?_⟩
    unfold colon at h
    cases hd:s.drop m with
    |nil=>rw [hd] at h;cases h
    |cons c t=>
      rw [hd] at h
      have e:byteAt s (m+1)=byteAt (c::t) 1:=by rw [←hd,byteAt_drop]
      rw [e]
      cases t with
      |nil=>exact ⟨(by decide:(0:Nat)≠58),(by decide:(0:Nat)≠61)⟩
      |cons d t=>
        simp only [colonHere,Bool.and_eq_true,bne_iff_ne,beq_iff_eq] at h
        exact h.2
  · rintro ⟨h1,h2,h3⟩
    exact colon_next h1 h2 h3
def find58:List UInt8→Nat→Option Nat
  |[],_=>none
  |c::t,i=>if c.toNat=58 then some i else find58 t (i+1)
theorem find58_none: ∀(l:List UInt8) (i:Nat),(∀j,j<l.length→byteAt l j≠58)→find58 l i=none
  |[],_,_=>rfl
  |c::t,i,h=>by
    unfold find58
    rw [if_neg (show¬c.toNat=58 from h 0 (by simp))]
    exact find58_none t (i+1) (fun j hj=>h (j+1) (by simp only [List.length_cons];omega))
theorem find58_some: ∀(l:List UInt8) (i m:Nat),m<l.length→byteAt l m=58→(∀j,j<m→byteAt l j≠58)→find58 l i=some (i+m)
  |[],_,m,h,_,_=>by simp at h
  |c::t,i,0,_,h,_=>by
    unfold find58
    rw [if_pos (show c.toNat=58 from h)]
    rfl
  |c::t,i,m+1,hm,h,hn=>by
    unfold find58
    rw [if_neg (show¬c.toNat=58 from hn 0 (by omega))]
    rw [find58_some t (i+1) m (by simpa using hm) h (fun j hj=>hn (j+1) (by omega))]
    congr 1
    omega
def okVar (v:List UInt8) (n:Nat):Bool:=match find58 (v.take n) 0 with
  |none=>true
  |some j=> !after v j
def win (v:List UInt8):List UInt8:=v.take 100
/-- Does a match of a rule count? -/
def allowedP (v:List UInt8) (r:Nat×List (Nat×Bool)):Bool:=
  if lng r.2 (win v)=0 then false else if r.1=3 then !after v (lng r.2 (win v)-1) else if r.1=6 then okVar v (lng r.2 (win v)) else true
def active (v:List UInt8) (op:Bool) (r:Nat×List (Nat×Bool)):Bool:=ask (win v) r.1&& !(op&&decide (r.2=ndigs))&&allowedP v r
def cands (v:List UInt8) (op:Bool):List (Nat×Nat):=(rulesP.filter (active v op)).map (fun r=>(r.1,lng r.2 (win v)))
theorem okVar_vn {v:List UInt8} {n:Nat} (hn:n≤(win v).length) (h:VN (win v) n):okVar v n=true:=by
  have hwl:(win v).length≤100:=by unfold win;rw [List.length_take];omega
  have hvl:n≤v.length:=by
    have:(win v).length≤v.length:=by unfold win;rw [List.length_take];omega
    omega
  have hb: ∀j,j<100→byteAt (win v) j=byteAt v j:=fun j hj=>byteAt_take v hj
  have ht: ∀j,j<n→byteAt (v.take n) j=byteAt v j:=fun j hj=>byteAt_take v hj
  have hlen:(v.take n).length=n:=by rw [List.length_take];omega
  have noW: ∀x,cW x=true→x≠58:=fun x hx e=>by rw [e] at hx;exact absurd hx (by decide)
  have hd: ∀k j,byteAt ((win v).drop k) j=byteAt (win v) (k+j):=fun k j=>byteAt_drop _ _ _
  obtain ⟨h0,⟨h1,h2⟩|⟨m,h1,h2,h3,h4,h5⟩⟩:=h
  · have : find58 (v.take n) 0 = none := by
      refine find58_none _ _ fun j hj=> ?_
      rw [hlen] at hj
      rw [ht j hj,←hb j (by omega)]
      by_cases e:j=0
      · subst e;rw [h0];decide
      · have:=h2.2.2.1 (j-1) (by omega)
        rw [hd,show 1+(j-1)=j from by omega] at this
        exact noW _ this
    unfold okVar
    rw [this]
  · have hm:m<n:=by omega
    have h51:=h5.1
    have:find58 (v.take n) 0=some (0+m):=by
      refine find58_some _ _ _ (by omega) (by rw [ht m hm,←hb m (by omega)];exact h4) fun j hj=> ?_
      rw [ht j (by omega),←hb j (by omega)]
      by_cases e:j=0
      · subst e;rw [h0];decide
      · have:=h3.2.2.1 (j-1) (by omega)
        rw [hd,show 1+(j-1)=j from by omega] at this
        exact noW _ this
    unfold okVar
    rw [this,Nat.zero_add]
    have hf:=h5.2.1
    rw [hd,Nat.add_zero,hb (m+1) (by omega)] at hf
    have:=first_not_colon hf
    show (!after v m)=true
    rw [(after_iff v m).2 this]
    rfl
theorem Best.conv {S S':Nat×Nat→Prop} {r:Nat×Nat} (h:Best S r) (h1: ∀c,S c→0<c.2→ ∃c',S' c'∧c'.1=c.1∧c.2≤c'.2) (h2: ∀c,S' c→0<c.2→S c):Best S' r:=by
  refine ⟨?_,fun c hc h0=>h.2 c (h2 c hc h0) h0⟩
  rcases h.1 with h3|⟨h3,h4⟩
  · exact .inl h3
  · right
    obtain ⟨c',g1,g2,g3⟩:=h1 r h3 h4
    have:=h.2 c' (h2 c' g1 (by omega)) (by omega)
    have e:c'=r:=Prod.ext g2 (by omega)
    exact ⟨e▸g1,h4⟩
theorem keyword_any (v:List UInt8) (hk:keyAny (win v)≠100):keyword (win v)=if keyAny (win v)≠0∧after v (keyAny (win v)-1)=false then keyAny (win v) else 0:=by
  have hlen:(win v).length≤100:=by unfold win;rw [List.length_take];omega
  unfold keyword
  have hany:keyAny (win v)=if 0<plain (win v)∧byteAt (win v) (plain (win v))=58 then plain (win v)+1 else 0:=rfl
  by_cases hp:0<plain (win v)∧byteAt (win v) (plain (win v))=58
  · rw [if_pos hp] at hany
    have hlt:plain (win v)<(win v).length:=byteAt_in (by rw [hp.2];decide)
    have hb:after (win v) (plain (win v))=after v (plain (win v)):=by
      have e:byteAt (win v) (plain (win v)+1)=byteAt v (plain (win v)+1):=byteAt_take v (by omega)
      unfold after
      rw [e]
    rw [hany,Nat.add_sub_cancel]
    by_cases ha:after v (plain (win v))=false
    · rw [if_pos ⟨hp.1,(colon_iff _ _).2 ⟨hp.2,by rw [hb];exact ha⟩⟩,if_pos ⟨by omega,ha⟩]
    · rw [if_neg (fun h=>ha (by rw [←hb];exact ((colon_iff _ _).1 h.2).2)),if_neg (fun h=>ha h.2)]
  · rw [if_neg hp] at hany
    rw [if_neg (fun h=>hp ⟨h.1,((colon_iff _ _).1 h.2).1⟩),if_neg (fun h=>h.1 hany)]
theorem cands_best (v:List UInt8) (op:Bool) (hk:keyAny (win v)≠100):Best (fun c=>Took op (win v) c∧c.1≠5) ((cands v op).foldl pick (0,0)):=by
  have h0:Best (fun _=>False) (0,0):=⟨.inl rfl,fun c hc=>hc.elim⟩
  have hpos: ∀c∈cands v op,0<c.2:=by
    intro c hc
    obtain ⟨r,hr,rfl⟩:=List.mem_map.1 hc
    have:=(List.mem_filter.1 hr).2
    unfold active allowedP at this
    rw [Bool.and_eq_true] at this
    have:=this.2
    split at this
    · cases this
    · show 0<lng r.2 (win v);omega
  refine (fold_pick (cands v op) (0,0) (fun _=>False) h0 hpos).conv ?_ ?_
  · rintro c (hc|hc) hc0
    · exact hc.elim
    · obtain ⟨⟨k,p⟩,hr,rfl⟩:=List.mem_map.1 hc
      obtain ⟨hmem,hact⟩:=List.mem_filter.1 hr
      unfold active at hact
      rw [Bool.and_eq_true,Bool.and_eq_true] at hact
      obtain ⟨⟨hask,hop⟩,hal⟩:=hact
      dsimp only at hask hop hal hc0⊢
      refine ⟨(k,takes op (win v) k),⟨⟨?_,hask,rfl⟩, ?_⟩,rfl, ?_⟩
      · show k∈[1,2,3,4,5,6]
        rcases (rules_iff k p).1 hmem with ⟨rfl,_⟩|⟨rfl,_⟩|⟨rfl,_⟩|⟨rfl,_⟩|⟨rfl,_⟩<;>decide
      · show k≠5
        rcases (rules_iff k p).1 hmem with ⟨rfl,_⟩|⟨rfl,_⟩|⟨rfl,_⟩|⟨rfl,_⟩|⟨rfl,_⟩<;>decide
      · show lng p (win v)≤takes op (win v) k
        rcases (rules_iff k p).1 hmem with ⟨rfl,h⟩|⟨rfl,h⟩|⟨rfl,h⟩|⟨rfl,h⟩|⟨rfl,h⟩
        · exact (name_cover (win v)).1 p h
        · rcases (key_cover (win v)).1 p h with e|e
          · omega
          · show lng p (win v)≤keyword (win v)
            rw [keyword_any v hk]
            unfold allowedP at hal
            rw [if_neg (by show¬lng p (win v)=0;omega),if_pos rfl] at hal
            dsimp only at hal
            rw [e] at hal
            rw [if_pos ⟨by omega,by simpa using hal⟩]
            omega
        · exact (pattern_cover (win v)).1 p h
        · refine (integer_cover op (win v)).1 p ?_
          rcases h with rfl|rfl
          · exact .inl rfl
          · right
            refine ⟨rfl, ?_⟩
            cases op with
            |false=>rfl
            |true=>simp at hop
        · exact (hash_cover (win v)).1 p h
  · rintro ⟨k,n⟩ ⟨⟨hm,hask,hn⟩,h5⟩ hn0
    dsimp only at hm hask hn h5 hn0
    right
    have mk: ∀p,(k,p)∈rulesP→lng p (win v)=n→(op=true→p≠ndigs)→allowedP v (k,p)=true→(k,n)∈cands v op:=by
      intro p h1 h2 h3 h4
      refine List.mem_map.2 ⟨(k,p),List.mem_filter.2 ⟨h1, ?_⟩,by rw [h2]⟩
      unfold active
      rw [h4,Bool.and_true]
      dsimp only
      rw [hask,Bool.true_and]
      cases op with
      |false=>rfl
      |true=>simp [h3 rfl]
    have al: ∀p,lng p (win v)=n→k≠3→k≠6→allowedP v (k,p)=true:=by
      intro p h1 h2 h3
      unfold allowedP
      rw [if_neg (by show¬lng p (win v)=0;omega),if_neg h2,if_neg h3]
    have nd: ∀p,p∈plainPats∨(∃q,p=ats q)∨(∃q,p=keys q)∨(∃q,p=q1 q)∨(∃q q',p=q2 q q')→True:=fun _ _=>trivial
    have hk':k=1∨k=2∨k=3∨k=4∨k=5∨k=6:=by simpa using hm
    -- a pattern that takes something and does not begin with a minus is not ndigs
    have notnd: ∀p,lng p (win v)=n→byteAt (win v) 0≠45→p≠ndigs:=by
      rintro p h1 h2 rfl
      exact h2 ((ndigs_iff _ _).1 (lng_R (p:=ndigs) (s:=win v) (by omega))).2.1
    rcases hk' with rfl|rfl|rfl|rfl|rfl|rfl
    · have hn:n=name (win v):=hn
      obtain ⟨p,hp,he⟩:=(name_cover (win v)).2 (by omega)
      refine mk p ((rules_iff _ _).2 (.inl ⟨rfl,hp⟩)) (by omega) (fun _=>notnd p (by omega) ?_) (al p (by omega) (by decide) (by decide))
      have hpl:0<plain (win v):=by
        rcases Nat.eq_zero_or_pos (plain (win v)) with h|h
        · have:name (win v)=0:=by unfold name;rw [if_neg (by omega),h]
          omega
        · exact h
      have:=((plain_max (win v)).1 hpl).2.1
      intro e
      rw [e] at this
      exact absurd this (by decide)
    · have hn:n=integer op (win v):=hn
      obtain ⟨p,hp,he⟩:=(integer_cover op (win v)).2 (by omega)
      rcases hp with rfl|⟨rfl,ho⟩
      · exact mk digs ((rules_iff _ _).2 (.inr (.inr (.inr (.inl ⟨rfl,.inl rfl⟩))))) (by omega) (fun _=>by decide) (al _ (by omega) (by decide) (by decide))
      · exact mk ndigs ((rules_iff _ _).2 (.inr (.inr (.inr (.inl ⟨rfl,.inr rfl⟩))))) (by omega) (fun h=>by rw [ho] at h;cases h) (al _ (by omega) (by decide) (by decide))
    · have hn:n=keyword (win v):=hn
      rw [keyword_any v hk] at hn
      split at hn
      · rename_i hc
        obtain ⟨p,hp,he⟩:=(key_cover (win v)).2 (by omega)
        obtain ⟨q,hq,rfl⟩:=hp
        refine mk (keys q) ((rules_iff _ _).2 (.inr (.inl ⟨rfl,q,hq,rfl⟩))) (by omega) (fun _=>by unfold keys ndigs;simp) ?_
        unfold allowedP
        rw [if_neg (by show¬lng (keys q) (win v)=0;omega),if_pos rfl]
        dsimp only
        rw [he,hc.2]
        rfl
      · omega
    · have hn:n=hash (win v):=hn
      obtain ⟨p,hp,he⟩:=(hash_cover (win v)).2 (by omega)
      refine mk p ((rules_iff _ _).2 (.inr (.inr (.inr (.inr ⟨rfl,hp⟩))))) (by omega) (fun _=> ?_) (al p (by omega) (by decide) (by decide))
      rcases hp with rfl|rfl<;>decide
    · exact absurd rfl h5
    · have hn:n=pattern (win v):=hn
      obtain ⟨p,hp,he⟩:=(pattern_cover (win v)).2 (by omega)
      have hvn:=(pattern_max (win v)).1 (by omega)
      refine mk p ((rules_iff _ _).2 (.inr (.inr (.inl ⟨rfl,hp⟩)))) (by omega) (fun _=>notnd p (by omega) ?_) ?_
      · rw [hvn.1];decide
      · unfold allowedP
        rw [if_neg (by show¬lng p (win v)=0;omega),if_neg (by show¬(6:Nat)=3;decide),if_pos rfl]
        dsimp only
        rw [he]
        exact okVar_vn (pattern_len _) hvn
end Go.Proofs.YtipnlgmeonepfaaGreatDoor.Lx

namespace Go.Proofs.YtipnlgmeonepfaaGreatDoor.Lx

def sign1:List (List UInt8):=[[40],[41],[91],[93],[123],[125],[44],[59],[46],[61],[60],[62],[43],[45],[42],[47],[38],[124],[126],[63]]
def signStep (v:List UInt8) (a:Nat×Nat) (w:List UInt8):Nat×Nat:=if a.2<w.length∧w.length≤v.length∧v.take w.length=w then (5,w.length) else a
theorem pre_iff (w v:List UInt8):pre w v=true↔w.length≤v.length∧v.take w.length=w:=by
  unfold pre
  rw [List.isPrefixOf_iff_prefix,List.prefix_iff_eq_take]
  constructor
  · intro h
    exact ⟨by have:=congrArg List.length h;rw [List.length_take] at this;omega,h.symm⟩
  · intro h;exact h.2.symm
theorem fold_signs (v:List UInt8) (n:Nat): ∀(L:List (List UInt8)) (a:Nat×Nat),(∀w∈L,w.length=n)→L.foldl (signStep v) a=if a.2<n∧L.any (fun w=>pre w v)=true then (5,n) else a
  |[],a,_=>by simp
  |w::L,a,h=>by
    have hw:=h w List.mem_cons_self
    have hL:=fun x hx=>h x (List.mem_cons_of_mem w hx)
    rw [List.foldl_cons,fold_signs v n L _ hL,List.any_cons]
    unfold signStep
    rw [hw]
    have hp:=pre_iff w v
    rw [hw] at hp
    by_cases h1:a.2<n
    · by_cases h2:pre w v=true
      · rw [if_pos (show a.2<n∧n≤v.length∧v.take n=w from ⟨h1,hp.1 h2⟩),if_neg (by simp),if_pos ⟨h1,by rw [h2];rfl⟩]
      · rw [if_neg (show¬(a.2<n∧n≤v.length∧v.take n=w) from fun h=>h2 (hp.2 h.2))]
        have h2':pre w v=false:=by simpa using h2
        rw [h2',Bool.false_or]
    · rw [if_neg (show¬(a.2<n∧n≤v.length∧v.take n=w) from fun h=>h1 h.1),if_neg (fun h=>h1 h.1),if_neg (fun h=>h1 h.1)]
theorem sign1_any (v:List UInt8):sign1.any (fun w=>pre w v)=match v with|[]=>false|c::_=>cSign c.toNat:=by
  cases v with
  |nil=>rfl
  |cons c t=>
    have h: ∀b:UInt8,pre [b] (c::t)=(c.toNat==b.toNat):=fun b=>by
      simp only [pre,List.isPrefixOf,Bool.and_true]
      by_cases e:b=c
      · subst e;simp
      · have:c.toNat≠b.toNat:=fun h=>e (UInt8.toNat_inj.1 h.symm)
        rw [show (b==c)=false from by simpa using e,show (c.toNat==b.toNat)=false from by simpa using this]
    simp only [sign1,List.any_cons,List.any_nil,h]
    simp only [cSign,List.contains_cons,List.contains_nil]
    rfl
def signsP:List (List UInt8):=sign1++sign2
theorem sign_win (v:List UInt8):sign (win v)=if sign2.any (fun w=>pre w v)=true then 2 else if sign1.any (fun w=>pre w v)=true then 1 else 0:=by
  have e2:sign2.any (fun w=>pre w (win v))=sign2.any (fun w=>pre w v):=by
    rw [Bool.eq_iff_iff,List.any_eq_true,List.any_eq_true]
    constructor
    · rintro ⟨w,hw,h⟩;exact ⟨w,hw,pre_take_le h⟩
    · rintro ⟨w,hw,h⟩
      refine ⟨w,hw, ?_⟩
      unfold win
      rw [pre_take (by rw [sign2_len hw];omega)]
      exact h
  unfold sign
  rw [e2,sign1_any]
  cases v with
  |nil=>rfl
  |cons c t=>
    show (if _ then 2 else (if cSign c.toNat then 1 else 0))=_
    rfl
theorem signs_fold (v:List UInt8) (a:Nat×Nat):signsP.foldl (signStep v) a=if a.2<sign (win v) then (5,sign (win v)) else a:=by
  unfold signsP
  rw [List.foldl_append,fold_signs v 1 sign1 a (by decide),fold_signs v 2 sign2 _ (by decide),sign_win]
  by_cases h2:sign2.any (fun w=>pre w v)=true
  · rw [if_pos h2]
    by_cases h1:a.2<1∧sign1.any (fun w=>pre w v)=true
    · rw [if_pos h1,if_pos ⟨by decide,h2⟩,if_pos (by omega)]
    · rw [if_neg h1]
      by_cases ha:a.2<2
      · rw [if_pos ⟨ha,h2⟩,if_pos ha]
      · rw [if_neg (fun h=>ha h.1),if_neg ha]
  · rw [if_neg h2,if_neg (fun h=>h2 h.2)]
    by_cases h1:sign1.any (fun w=>pre w v)=true
    · rw [if_pos h1]
      by_cases ha:a.2<1
      · rw [if_pos ⟨ha,h1⟩,if_pos ha]
      · rw [if_neg (fun h=>ha h.1),if_neg ha]
    · rw [if_neg h1,if_neg (fun h=>h1 h.2),if_neg (by omega)]
/-- The reference's best token. -/
def bestP (v:List UInt8) (op:Bool):Nat×Nat:=if 0<plain (win v) then (cands v op).foldl pick (0,0) else signsP.foldl (signStep v) ((cands v op).foldl pick (0,0))
theorem best_eq (v:List UInt8) (op:Bool) (hk:keyAny (win v)≠100):bestP v op=longest op (win v):=by
  have hb:=cands_best v op hk
  obtain ⟨a,ha⟩: ∃a,(cands v op).foldl pick (0,0)=a:=⟨_,rfl⟩
  unfold bestP
  rw [ha] at hb⊢
  refine Best.unique (S:=Took op (win v)) ?_ (longest_best op (win v))
  by_cases hp:0<plain (win v)
  · rw [if_pos hp]
    refine hb.conv (fun c hc _=>⟨c,hc.1,rfl,Nat.le_refl _⟩) (fun c hc h0=>⟨hc,fun h5=> ?_⟩)
    have:=hc.2.1
    unfold ask at this
    rw [h5,decide_eq_true hp] at this
    exact absurd this (by decide)
  · rw [if_neg hp,signs_fold]
    have hask: ∀k,ask (win v) k=true:=fun k=>by unfold ask;rw [decide_eq_false hp];rfl
    by_cases hs:a.2<sign (win v)
    · rw [if_pos hs]
      refine ⟨.inr ⟨⟨by show (5:Nat)∈[1,2,3,4,5,6];decide,hask 5,rfl⟩,by show 0<sign (win v);omega⟩,fun c hc h0=> ?_⟩
      by_cases h5:c.1=5
      · right
        have:=hc.2.2
        rw [h5] at this
        exact ⟨this,by show 5≤c.1;omega⟩
      · left
        have:=hb.2 c ⟨hc,h5⟩ h0
        show c.2<sign (win v)
        omega
    · rw [if_neg hs]
      refine ⟨?_,fun c hc h0=> ?_⟩
      · rcases hb.1 with h1|⟨h1,h2⟩
        · exact .inl h1
        · exact .inr ⟨h1.1,h2⟩
      · by_cases h5:c.1=5
        · have hc2:=hc.2.2
          rw [h5] at hc2
          have hc2:c.2=sign (win v):=hc2
          by_cases e:c.2=a.2
          · right
            refine ⟨e, ?_⟩
            rcases hb.1 with h1|⟨h1,h2⟩
            · rw [h1];exact Nat.zero_le _
            · have hm:=h1.1.1
              have h5':=h1.2
              have hk':a.1=1∨a.1=2∨a.1=3∨a.1=4∨a.1=5∨a.1=6:=by simpa using hm
              rcases hk' with h|h|h|h|h|h
              · omega
              · omega
              · omega
              · omega
              · omega
              · exfalso
                have h3:=h1.1.2.2
                rw [h] at h3
                have h3:a.2=pattern (win v):=h3
                have hv:=(pattern_max (win v)).1 (by omega)
                have hge:2≤pattern (win v):=by
                  obtain ⟨_,⟨g1,g2⟩|⟨m,g1,g2,g3,g4,g5⟩⟩:=hv
                  · have:=g2.1;omega
                  · have:=g5.1;omega
                have h63:=hv.1
                have hle:sign (win v)≤1:=by
                  unfold sign
                  have hno: ¬sign2.any (fun p=>pre p (win v))=true:=by
                    intro hh
                    obtain ⟨p,hp2,hpre⟩:=List.any_eq_true.1 hh
                    simp only [sign2,List.mem_cons,List.not_mem_nil,or_false] at hp2
                    rcases hp2 with rfl|rfl|rfl|rfl|rfl|rfl<;>obtain ⟨r,hr⟩:=pre2 hpre<;>rw [hr] at h63
                    · exact absurd (show (58:UInt8).toNat=63 from h63) (by decide)
                    · exact absurd (show (58:UInt8).toNat=63 from h63) (by decide)
                    · exact absurd (show (61:UInt8).toNat=63 from h63) (by decide)
                    · exact absurd (show (61:UInt8).toNat=63 from h63) (by decide)
                    · exact absurd (show (60:UInt8).toNat=63 from h63) (by decide)
                    · exact absurd (show (62:UInt8).toNat=63 from h63) (by decide)
                  rw [if_neg hno]
                  split
                  · omega
                  · split<;>omega
                omega
          · left;omega
        · exact hb.2 c ⟨hc,h5⟩ h0
/-- Where the window ends with a keyword's colon, both are names or keywords, and too long. -/
theorem best_edge (v:List UInt8) (op:Bool) (hk:keyAny (win v)=100):((bestP v op).1=1∨(bestP v op).1=3)∧40<(bestP v op).2∧((longest op (win v)).1=1∨(longest op (win v)).1=3)∧40<(longest op (win v)).2:=by
  have hp:plain (win v)=99:=by
    unfold keyAny at hk
    split at hk<;>omega
  have hpos:0<plain (win v):=by omega
  have h13: ∀k,ask (win v) k=true→k=1∨k=3:=fun k h=>by
    unfold ask at h
    rw [decide_eq_true hpos] at h
    by_cases h1:k=1
    · exact .inl h1
    · by_cases h3:k=3
      · exact .inr h3
      · have e1:(k !=1)=true:=by simpa using h1
        have e3:(k !=3)=true:=by simpa using h3
        rw [e1,e3] at h
        cases h
  have h0:Best (fun _=>False) (0,0):=⟨.inl rfl,fun c hc=>hc.elim⟩
  have hcp: ∀c∈cands v op,0<c.2:=by
    intro c hc
    obtain ⟨r,hr,rfl⟩:=List.mem_map.1 hc
    have:=(List.mem_filter.1 hr).2
    unfold active allowedP at this
    rw [Bool.and_eq_true] at this
    have:=this.2
    split at this
    · cases this
    · show 0<lng r.2 (win v);omega
  have hb:=fold_pick (cands v op) (0,0) (fun _=>False) h0 hcp
  have hbest:bestP v op=(cands v op).foldl pick (0,0):=by unfold bestP;rw [if_pos hpos]
  rw [←hbest] at hb
  have hl:=longest_best op (win v)
  -- the plain name is one of the reference's candidates
  obtain ⟨p,hpp,he⟩:=(plain_cover (win v)).2 hpos
  have hnd:p≠ndigs:=by
    rintro rfl
    have:=(plainPats_iff ndigs).1 hpp
    exact absurd this (by decide)
  have hmem:((1,99):Nat×Nat)∈cands v op:=by
    refine List.mem_map.2 ⟨(1,p),List.mem_filter.2 ⟨(rules_iff 1 p).2 (.inl ⟨rfl,.inl hpp⟩), ?_⟩,by rw [he,hp]⟩
    unfold active allowedP
    rw [if_neg (by show¬lng p (win v)=0;omega),if_neg (by show¬(1:Nat)=3;decide),if_neg (by show¬(1:Nat)=6;decide),ask_one]
    simp [hnd]
  have h1:=hb.2 (1,99) (.inr hmem) (by decide)
  have hn:Took op (win v) (1,name (win v)):=⟨by show (1:Nat)∈[1,2,3,4,5,6];decide,ask_one _,rfl⟩
  have hname:=plain_name (win v)
  have h2:=hl.2 _ hn (by show 0<name (win v);omega)
  dsimp only at h1 h2
  refine ⟨?_,by omega, ?_,by omega⟩
  · rcases hb.1 with e|⟨e,_⟩
    · rw [e] at h1;simp at h1
    · rcases e with e|e
      · exact e.elim
      · obtain ⟨r,hr,hre⟩:=List.mem_map.1 e
        have:=(List.mem_filter.1 hr).2
        unfold active at this
        rw [Bool.and_eq_true,Bool.and_eq_true] at this
        have h3:=h13 _ this.1.1
        rw [←hre]
        exact h3
  · rcases hl.1 with e|⟨e,_⟩
    · rw [e] at h2;simp at h2;omega
    · exact h13 _ e.2.1
end Go.Proofs.YtipnlgmeonepfaaGreatDoor.Lx
