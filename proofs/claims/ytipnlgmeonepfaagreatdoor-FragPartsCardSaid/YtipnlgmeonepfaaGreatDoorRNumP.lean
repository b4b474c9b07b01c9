/- The numbers of the program, in plain words: a text is its number's own just if it is canonical and not too great. The reference's way to tell an integer (its length, its digits against the greatest ones) is the program's. -/
import Derived.Test.YtipnlgmeonepfaaGreatDoorLxPure
import Derived.Lib.ItoaNum
namespace Go.Proofs.YtipnlgmeonepfaaGreatDoor.Lx
open Go

def isDig (c:UInt8):Bool:=cD c.toNat
/-- What digits spell, behind what was read. -/
@[irreducible] def push (a:Nat) (c:UInt8):Nat:=a*10+(c.toNat-48)
theorem push_eq (a:Nat) (c:UInt8):push a c=a*10+(c.toNat-48):=by unfold push;exact Eq.refl _
def spell:Nat→List UInt8→Nat
 |a,[]=>a
 |a,c::l=>spell (push a c) l
theorem spell_cons (a:Nat) (c:UInt8) (l:List UInt8):spell a (c::l)=spell (a*10+(c.toNat-48)) l:=by rw [spell,push_eq]
theorem spell_nil (a:Nat):spell a []=a:=rfl
attribute [irreducible] spell
theorem spell_snoc: ∀(l:List UInt8) (a:Nat) (c:UInt8),spell a (l++[c])=spell a l*10+(c.toNat-48)
 |[],a,c=>by rw [List.nil_append,spell_cons,spell_nil,spell_nil]
 |d::l,a,c=>by rw [List.cons_append,spell_cons,spell_cons];exact spell_snoc l _ c
theorem spell_mono (l:List UInt8): ∀a,a≤spell a l:=by
 induction l with
 |nil=>intro a;rw [spell_nil];exact Nat.le_refl _
 |cons c l ih=>
  intro a
  rw [spell_cons]
  have:=ih (a*10+(c.toNat-48))
  omega
theorem isDig_iff (c:UInt8):isDig c=true↔48≤c.toNat∧c.toNat≤57:=by simp [isDig,cD]
theorem dec_digit {c:UInt8} (h:isDig c=true):UInt8.ofNat (48+(c.toNat-48))=c:=by
 have:=(isDig_iff c).1 h
 rw [show 48+(c.toNat-48)=c.toNat from by omega,UInt8.ofNat_toNat]
/-- Digits without a leading zero are the numeral of what they spell. -/
theorem dec_spell: ∀(n:Nat) (l:List UInt8),l.length=n→l≠[]→(∀c∈l,isDig c=true)→(l.head? ≠some 48∨l.length=1)→Lib.decDigits (spell 0 l)=l∧(l.head? ≠some 48→10^(l.length-1)≤spell 0 l)
 |0,l,hn,hne,_,_=>absurd (List.length_eq_zero_iff.1 hn) hne
 |n+1,l,hn,hne,hd,h0=>by
  obtain ⟨m,c,rfl⟩: ∃m c,l=m++[c]:=⟨l.dropLast,l.getLast hne,(List.dropLast_concat_getLast hne).symm⟩
  rw [List.length_append,List.length_singleton] at hn
  have hc:=hd c (by simp)
  have hcb:=(isDig_iff c).1 hc
  rw [spell_snoc]
  cases m with
  |nil=>
   refine ⟨?_,fun h=> ?_⟩
   ·rw [Lib.decDigits,dif_pos (by simp only [spell_nil];omega)]
    simp only [spell_nil,List.nil_append]
    rw [show 48+(0*10+(c.toNat-48))=48+(c.toNat-48) from by omega,dec_digit hc]
   ·have:c.toNat≠48:=fun e=>h (by
     have:c=48:=UInt8.toNat_inj.1 e
     rw [this];rfl)
    simp only [spell_nil,List.nil_append,List.length_singleton]
    omega
  |cons d m=>
   have hh:(d::m++[c]).head? =some d:=rfl
   have hd48:(d::m).head? ≠some 48:=by
    rcases h0 with h|h
    ·rw [hh] at h;exact h
    ·simp at h
   obtain ⟨h1,h2⟩:=dec_spell n (d::m) (by omega) (by simp) (fun x hx=>hd x (List.mem_append_left _ hx)) (.inl hd48)
   have h3:=h2 hd48
   have hge:1≤spell 0 (d::m):=Nat.le_trans (Nat.one_le_pow _ _ (by omega)) h3
   refine ⟨?_,fun _=> ?_⟩
   ·rw [Lib.decDigits,dif_neg (by omega),show (spell 0 (d::m)*10+(c.toNat-48)) / 10=spell 0 (d::m) from by omega,show (spell 0 (d::m)*10+(c.toNat-48))%10=c.toNat-48 from by omega,h1,dec_digit hc]
   ·rw [List.length_append,List.length_singleton,Nat.add_sub_cancel]
    have e:(d::m).length=((d::m).length-1)+1:=by simp
    rw [e,Nat.pow_succ]
    omega
theorem decDigits_digits: ∀(n u:Nat),u≤n→(∀c∈Lib.decDigits u,isDig c=true)∧Lib.decDigits u≠[]∧spell 0 (Lib.decDigits u)=u∧((Lib.decDigits u).head? ≠some 48∨u=0)
 |n,u,hn=>by
  rw [Lib.decDigits]
  have hto: ∀i,i<10→(UInt8.ofNat (48+i)).toNat=48+i:=fun i hi=>by rw [UInt8.toNat_ofNat'];omega
  by_cases h:u<10
  ·rw [dif_pos h]
   refine ⟨?_,by simp, ?_, ?_⟩
   ·intro c hc
    rw [List.mem_singleton.1 hc,isDig_iff,hto u h]
    omega
   ·simp only [spell_cons,spell_nil]
    rw [hto u h]
    omega
   ·by_cases h0:u=0
    ·exact .inr h0
    ·left
     intro e
     have e:UInt8.ofNat (48+u)=48:=by simpa using e
     have:=congrArg UInt8.toNat e
     rw [hto u h] at this
     have h48:(48:UInt8).toNat=48:=rfl
     omega
  ·rw [dif_neg h]
   cases n with
   |zero=>omega
   |succ n=>
    obtain ⟨h1,h2,h3,h4⟩:=decDigits_digits n (u / 10) (by omega)
    refine ⟨?_,by simp, ?_, ?_⟩
    ·intro c hc
     rcases List.mem_append.1 hc with hc|hc
     ·exact h1 c hc
     ·rw [List.mem_singleton.1 hc,isDig_iff,hto _ (by omega)]
      omega
    ·rw [spell_snoc,h3,hto _ (by omega)]
     omega
    ·left
     cases hh:Lib.decDigits (u / 10) with
     |nil=>exact absurd hh h2
     |cons d m=>
      rw [hh] at h4
      rcases h4 with h4|h4
      ·exact h4
      ·omega
theorem parse_spell: ∀(l:List UInt8) (a:Nat),(∀c∈l,isDig c=true)→spell a l<18446744073709551616→Lib.parseUint10 a l=.ok (spell a l)
 |[],a,_,_=>by rw [spell_nil,Lib.parseUint10]
 |c::l,a,hd,hlt=>by
  have hc:=(isDig_iff c).1 (hd c List.mem_cons_self)
  have hm:=spell_mono l (a*10+(c.toNat-48))
  rw [spell_cons] at hlt⊢
  unfold Lib.parseUint10
  rw [if_pos hc,if_neg (by omega),if_neg (by omega)]
  exact parse_spell l _ (fun x hx=>hd x (List.mem_cons_of_mem _ hx)) hlt
/-- A text behind its sign, canonical. -/
def canon (d:List UInt8):Prop:=d≠[]∧(∀c∈d,isDig c=true)∧(d.head? ≠some 48∨d.length=1)
theorem head_not {d:List UInt8} (h: ∀c∈d,isDig c=true) (hne:d≠[]): ∃c r,d=c::r∧48≤c.toNat∧c.toNat≤57:=by
 cases d with
 |nil=>exact absurd rfl hne
 |cons c r=>exact ⟨c,r,rfl,(isDig_iff c).1 (h c List.mem_cons_self)⟩
/-- Without a sign. -/
theorem val_pos {d:List UInt8} (hc:canon d) (hv:spell 0 d≤9223372036854775807):valB d=true∧valN d=(spell 0 d:Int):=by
 obtain ⟨hne,hd,h0⟩:=hc
 obtain ⟨c,r,rfl,hc1,hc2⟩:=head_not hd hne
 have hm:Lib.parseMag (c::r)=.ok (spell 0 (c::r)):=by
  unfold Lib.parseMag
  rw [if_neg (by simp),parse_spell _ _ hd (by omega)]
 have hp:Lib.atoiAll (c::r)=.ok (spell 0 (c::r):Int):=by
  simp only [Lib.atoiAll]
  rw [if_neg (by omega),hm]
  simp only
  rw [if_neg (by omega),if_neg (by omega),if_neg (by omega)]
 refine ⟨?_, ?_⟩
 ·unfold valB
  rw [hp]
  have:=(dec_spell _ (c::r) rfl (by simp) hd h0).1
  have hi:Lib.itoa (spell 0 (c::r):Int)=c::r:=by
   unfold Lib.itoa
   rw [if_neg (by omega),Int.toNat_natCast,this]
  simp [hi]
 ·unfold valN
  rw [hp]
/-- With a minus. -/
theorem val_neg {d:List UInt8} (hc:canon d) (h0:spell 0 d≠0) (hv:spell 0 d≤9223372036854775808):valB (45::d)=true∧valN (45::d)= -(spell 0 d:Int):=by
 obtain ⟨hne,hd,hz⟩:=hc
 have h45:(45:UInt8).toNat=45:=rfl
 have hp:Lib.atoiAll (45::d)=.ok (-(spell 0 d:Int)):=by
  have hm:Lib.parseMag d=.ok (spell 0 d):=by
   unfold Lib.parseMag
   rw [if_neg hne,parse_spell _ _ hd (by omega)]
  simp only [Lib.atoiAll]
  rw [if_pos (.inr h45),hm]
  simp only
  rw [if_neg (fun h=>h.1 h45),if_neg (by omega),if_pos h45]
 refine ⟨?_, ?_⟩
 ·unfold valB
  rw [hp]
  have:=(dec_spell _ d rfl hne hd hz).1
  have hi:Lib.itoa (-(spell 0 d:Int))=45::d:=by
   unfold Lib.itoa
   rw [if_pos (by omega),show (-(spell 0 d:Int)).natAbs=spell 0 d from by omega,this]
  simp [hi]
 ·unfold valN
  rw [hp]
/-- A text that is its number's own. -/
theorem valB_inv {s:List UInt8} (h:valB s=true):(canon s∧spell 0 s≤9223372036854775807)∨ ∃d,s=45::d∧canon d∧spell 0 d≠0∧spell 0 d≤9223372036854775808:=by
 unfold valB at h
 cases ha:Lib.atoiAll s with
 |ok v=>
  rw [ha] at h
  have hs:Lib.itoa v=s:=by simpa using h
  have hb: -9223372036854775808≤v∧v≤9223372036854775807:=by
   unfold Lib.atoiAll at ha
   cases s with
   |nil=>cases ha
   |cons c r=>
    simp only [] at ha
    split at ha
    ·cases ha
    ·cases ha
    ·split at ha
     ·cases ha
     ·split at ha
      ·cases ha
      ·injection ha with ha
       subst ha
       split<;>omega
  have can: ∀u,canon (Lib.decDigits u):=fun u=>by
   obtain ⟨h1,h2,h3,h4⟩:=decDigits_digits u u (Nat.le_refl _)
   refine ⟨h2,h1, ?_⟩
   rcases h4 with h4|h4
   ·exact .inl h4
   ·right;subst h4;rw [Lib.decDigits,dif_pos (by omega)];rfl
  have sp: ∀u,spell 0 (Lib.decDigits u)=u:=fun u=>(decDigits_digits u u (Nat.le_refl _)).2.2.1
  unfold Lib.itoa at hs
  split at hs
  ·right
   refine ⟨Lib.decDigits v.natAbs,hs.symm,can _, ?_, ?_⟩
   ·rw [sp];omega
   ·rw [sp];omega
  ·left
   rw [←hs]
   refine ⟨can _, ?_⟩
   rw [sp]
   omega
 |_=>rw [ha] at h;cases h
end Go.Proofs.YtipnlgmeonepfaaGreatDoor.Lx

set_option linter.unusedVariables false
set_option linter.unusedSimpArgs false
namespace Go.Proofs.YtipnlgmeonepfaaGreatDoor.Lx
open Go

theorem spell_lt: ∀(l:List UInt8) (a:Nat),(∀c∈l,isDig c=true)→spell a l<(a+1)*10^l.length
 |[],a,_=>by rw [spell_nil];simp
 |c::l,a,h=>by
  rw [spell_cons]
  have hc:=(isDig_iff c).1 (h c List.mem_cons_self)
  have:=spell_lt l (a*10+(c.toNat-48)) (fun x hx=>h x (List.mem_cons_of_mem c hx))
  refine Nat.lt_of_lt_of_le this ?_
  rw [List.length_cons,Nat.pow_succ,Nat.mul_comm (10^l.length) 10,←Nat.mul_assoc]
  exact Nat.mul_le_mul_right _ (by omega)
theorem spell_ge (l:List UInt8): ∀a,a*10^l.length≤spell a l:=by
 induction l with
 |nil=>intro a;rw [spell_nil];simp
 |cons c l ih=>
  intro a
  rw [spell_cons,List.length_cons,Nat.pow_succ,Nat.mul_comm (10^l.length) 10,←Nat.mul_assoc]
  exact Nat.le_trans (Nat.mul_le_mul_right _ (by omega)) (ih _)
/-- Digits of one length: less as bytes, less as numbers. -/
theorem less_spell: ∀(a b:List UInt8) (p q:Nat),a.length=b.length→(∀c∈a,isDig c=true)→(∀c∈b,isDig c=true)→(p<q→spell p a<spell q b)
 |a,b,p,q,hl,ha,hb,h=>by
  have h1:=spell_lt a p ha
  have h2:=spell_ge b q
  rw [hl] at h1
  exact Nat.lt_of_lt_of_le h1 (Nat.le_trans (Nat.mul_le_mul_right _ h) h2)
theorem less_iff: ∀(a b:List UInt8) (p:Nat),a.length=b.length→(∀c∈a,isDig c=true)→(∀c∈b,isDig c=true)→(Op.bytesLess a b=true↔spell p a<spell p b)
 |[],[],p,_,_,_=>by simp [Op.bytesLess,spell_nil]
 |[],_::_,p,h,_,_=>by simp at h
 |_::_,[],p,h,_,_=>by simp at h
 |c::a,d::b,p,h,ha,hb=>by
  have hc:=(isDig_iff c).1 (ha c List.mem_cons_self)
  have hd:=(isDig_iff d).1 (hb d List.mem_cons_self)
  have hl:a.length=b.length:=by simpa using h
  have ha':=fun x hx=>ha x (List.mem_cons_of_mem c hx)
  have hb':=fun x hx=>hb x (List.mem_cons_of_mem d hx)
  rw [spell_cons,spell_cons]
  unfold Op.bytesLess
  rw [Bool.or_eq_true,Bool.and_eq_true,decide_eq_true_eq,beq_iff_eq,UInt8.lt_iff_toNat_lt]
  rcases Nat.lt_trichotomy c.toNat d.toNat with hlt|heq|hgt
  ·exact ⟨fun _=>less_spell a b _ _ hl ha' hb' (by omega),fun _=> .inl hlt⟩
  ·have e:c=d:=UInt8.toNat_inj.1 heq
   subst e
   rw [←less_iff a b _ hl ha' hb']
   constructor
   ·rintro (h|h)
    ·omega
    ·exact h.2
   ·intro h;exact .inr ⟨rfl,h⟩
  ·have:=less_spell b a _ _ hl.symm hb' ha' (show p*10+(d.toNat-48)<p*10+(c.toNat-48) by omega)
   constructor
   ·rintro (h|h)
    ·omega
    ·have:=congrArg UInt8.toNat h.1;omega
   ·intro h;omega
theorem spell_inj: ∀(a b:List UInt8) (p:Nat),a.length=b.length→(∀c∈a,isDig c=true)→(∀c∈b,isDig c=true)→spell p a=spell p b→a=b:=by
 intro a
 induction a with
 |nil=>intro b p h _ _ _;simp at h;exact (List.length_eq_zero_iff.1 h.symm).symm
 |cons c a ih=>
  intro b p h ha hb he
  cases b with
  |nil=>simp at h
  |cons d b=>
   have hc:=(isDig_iff c).1 (ha c List.mem_cons_self)
   have hd:=(isDig_iff d).1 (hb d List.mem_cons_self)
   have hl:a.length=b.length:=by simpa using h
   have ha':=fun x hx=>ha x (List.mem_cons_of_mem c hx)
   have hb':=fun x hx=>hb x (List.mem_cons_of_mem d hx)
   rw [spell_cons,spell_cons] at he
   rcases Nat.lt_trichotomy c.toNat d.toNat with hlt|heq|hgt
   ·have:=less_spell a b _ _ hl ha' hb' (show p*10+(c.toNat-48)<p*10+(d.toNat-48) by omega);omega
   ·have e:c=d:=UInt8.toNat_inj.1 heq
    subst e
    rw [ih b _ hl ha' hb' he]
   ·have:=less_spell b a _ _ hl.symm hb' ha' (show p*10+(d.toNat-48)<p*10+(c.toNat-48) by omega);omega
def big7:List UInt8:=[57,50,50,51,51,55,50,48,51,54,56,53,52,55,55,53,56,48,55]
def big8:List UInt8:=[57,50,50,51,51,55,50,48,51,54,56,53,52,55,55,53,56,48,56]
theorem big7_spell:spell 0 big7=9223372036854775807:=by unfold big7;simp only [spell_cons,spell_nil];rfl
theorem big8_spell:spell 0 big8=9223372036854775808:=by unfold big8;simp only [spell_cons,spell_nil];rfl
/-- The reference's first test: too long, too great, a leading zero. -/
def tooMuch (d most:List UInt8) (z:Prop):Prop:=d.length=0∨19<d.length∨(d.length=19∧Op.bytesLess d most=false∧d≠most)∨(d.head? =some 48∧z)
theorem fits {d most:List UInt8} {M:Nat} {z:Prop} (hm:spell 0 most=M) (hl:most.length=19) (hmd: ∀c∈most,isDig c=true) (hM:10^18≤M) (ht: ¬tooMuch d most z) (hd: ∀c∈d,isDig c=true):d≠[]∧d.length≤19∧spell 0 d≤M:=by
 unfold tooMuch at ht
 have h1:d.length≠0:=fun h=>ht (.inl h)
 have h2:d.length≤19:=by
  rcases Nat.lt_or_ge 19 d.length with h|h
  ·exact absurd (.inr (.inl h)) ht
  ·exact h
 refine ⟨fun h=>h1 (by rw [h];rfl),h2, ?_⟩
 by_cases h19:d.length=19
 ·have h3: ¬(Op.bytesLess d most=false∧d≠most):=fun h=>ht (.inr (.inr (.inl ⟨h19,h⟩)))
  by_cases hb:Op.bytesLess d most=true
  ·have:=(less_iff d most 0 (by omega) hd hmd).1 hb
   omega
  ·have he:d=most:=by
    rcases Classical.em (d=most) with h|h
    ·exact h
    ·exact absurd ⟨by simpa using hb,h⟩ h3
   rw [he,hm]
   exact Nat.le_refl _
 ·have:=spell_lt d 0 hd
  have h4:10^d.length≤10^18:=Nat.pow_le_pow_right (by omega) (by omega)
  omega
theorem not_fits {d most:List UInt8} {M:Nat} {z:Prop} (hm:spell 0 most=M) (hl:most.length=19) (hmd: ∀c∈most,isDig c=true) (hM:M<10^19) (ht:tooMuch d most z) (hc:canon d) (hs:spell 0 d≤M):d.head? =some 48∧z:=by
 obtain ⟨hne,hd,h0⟩:=hc
 rcases ht with h|h|⟨h1,h2,h3⟩|h
 ·exact absurd (List.length_eq_zero_iff.1 h) hne
 ·exfalso
  have h4:d.head? ≠some 48:=by
   rcases h0 with h0|h0
   ·exact h0
   ·omega
  have h5:=(dec_spell d.length d rfl hne hd (.inl h4)).2 h4
  have h6:10^19≤10^(d.length-1):=Nat.pow_le_pow_right (by omega) (by omega)
  omega
 ·exfalso
  have h4: ¬spell 0 d<spell 0 most:=fun h=>by
   have:=(less_iff d most 0 (by omega) hd hmd).2 h
   rw [h2] at this
   cases this
  exact h3 (spell_inj d most 0 (by omega) hd hmd (by omega))
 ·exact h
theorem big_dig:(∀c∈big7,isDig c=true)∧(∀c∈big8,isDig c=true):=by decide
/-- Without a minus. -/
theorem pos_ok {s:List UInt8} (ht: ¬tooMuch s big7 (s≠[48])) (hd: ∀c∈s,isDig c=true):valB s=true∧valN s=(spell 0 s:Int)∧spell 0 s≤9223372036854775807:=by
 obtain ⟨h1,h2,h3⟩:=fits big7_spell rfl big_dig.1 (by decide) ht hd
 have hc:canon s:=⟨h1,hd,by
  by_cases h48:s.head? =some 48
  ·right
   have:s=[48]:=by
    rcases Classical.em (s=[48]) with h|h
    ·exact h
    ·exact absurd (.inr (.inr (.inr ⟨h48,h⟩))) ht
   rw [this];rfl
  ·exact .inl h48⟩
 obtain ⟨h4,h5⟩:=val_pos hc h3
 exact ⟨h4,h5,h3⟩
theorem pos_no {s:List UInt8} (h45:s.head? ≠some 45) (h:tooMuch s big7 (s≠[48])∨ ¬ ∀c∈s,isDig c=true):valB s=false:=by
 rw [←Bool.not_eq_true]
 intro hv
 rcases valB_inv hv with ⟨hc,hs⟩|⟨d,rfl,_⟩
 ·rcases h with h|h
  ·obtain ⟨h1,h2⟩:=not_fits big7_spell rfl big_dig.1 (by decide) h hc hs
   rcases hc.2.2 with h3|h3
   ·exact h3 h1
   ·cases s with
    |nil=>simp at h3
    |cons c t=>
     simp at h1 h3
     subst h1 h3
     exact h2 rfl
  ·exact h hc.2.1
 ·exact h45 rfl
/-- With a minus. -/
theorem neg_ok {d:List UInt8} (ht: ¬tooMuch d big8 True) (hd: ∀c∈d,isDig c=true):valB (45::d)=true∧valN (45::d)= -(spell 0 d:Int)∧spell 0 d≤9223372036854775808:=by
 obtain ⟨h1,h2,h3⟩:=fits big8_spell rfl big_dig.2 (by decide) ht hd
 have h48:d.head? ≠some 48:=fun h=>ht (.inr (.inr (.inr ⟨h,trivial⟩)))
 have hc:canon d:=⟨h1,hd,.inl h48⟩
 have h5:=(dec_spell d.length d rfl h1 hd (.inl h48)).2 h48
 have h6:1≤10^(d.length-1):=Nat.one_le_pow _ _ (by omega)
 obtain ⟨h7,h8⟩:=val_neg hc (by omega) h3
 exact ⟨h7,h8,h3⟩
theorem neg_no {d:List UInt8} (h:tooMuch d big8 True∨ ¬ ∀c∈d,isDig c=true):valB (45::d)=false:=by
 rw [←Bool.not_eq_true]
 intro hv
 rcases valB_inv hv with ⟨hc,hs⟩|⟨d',he,hc,h0,hs⟩
 ·have:=(isDig_iff 45).1 (hc.2.1 45 List.mem_cons_self)
  exact absurd this (by decide)
 ·injection he with _ he
  subst he
  rcases h with h|h
  ·obtain ⟨h1,_⟩:=not_fits big8_spell rfl big_dig.2 (by decide) h hc hs
   rcases hc.2.2 with h3|h3
   ·exact h3 h1
   ·cases d with
    |nil=>simp at h3
    |cons c t=>
     simp at h1 h3
     subst h1 h3
     exact h0 (by rw [spell_cons,spell_nil];rfl)
  ·exact h hc.2.1
end Go.Proofs.YtipnlgmeonepfaaGreatDoor.Lx
