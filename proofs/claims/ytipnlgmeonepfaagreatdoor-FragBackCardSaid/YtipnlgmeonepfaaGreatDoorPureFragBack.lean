/- FragBack in plain Lean. -/
import Derived.Test.YtipnlgmeonepfaaGreatDoorPFax13
import Derived.Test.YtipnlgmeonepfaaGreatDoorFrF
set_option linter.unusedVariables false
set_option linter.unusedSimpArgs false
namespace Go.Proofs.YtipnlgmeonepfaaGreatDoor.PFa
open Go.RowKit Go.Proofs.YtipnlgmeonepfaaGreatDoorW.PrintWords Go.Proofs.YtipnlgmeonepfaaGreatDoorW.PrintLast
theorem back_loop {l m:List Tk} (hl:l.length≤6000) (hm:m.length≤6000): ∀(d at_ i k:Nat),l.length-at_=d→i<m.length→Behind l at_ (m.drop i)→5*d+10≤k→
  skerrylaw02_FragBack.l1 k l true m (at_:Int) (i:Int)=some true:=by
 intro d
 induction d with
 |zero=>
  intro at_ i k hd hi hB hk
  rw [List.drop_eq_getElem_cons hi] at hB
  have:=hB.lt
  omega
 |succ d ih=>
  intro at_ i k hd hi hB hk
  have hdr:=List.drop_eq_getElem_cons hi
  rw [hdr] at hB
  have hat:=hB.lt
  have hmi:rd_T39 m (i:Int)=m[i]:=by
   unfold rd_T39
   simp [hi]
  have hli:rd_T39 l (at_:Int)=tkAt l at_:=rfl
  have w1:wrap64 ((at_:Int)+1)=((at_+1:Nat):Int):=by unfold wrap64;omega
  have w2:wrap64 ((i:Int)+1)=((i+1:Nat):Int):=by unfold wrap64;omega
  obtain ⟨k,rfl⟩: ∃q,k=q+3:=⟨k-3,by omega⟩
  -- a name that is dropped
  have skip: ¬((tkAt l at_).f0=(m[i]).f0∧(tkAt l at_).f2=(m[i]).f2)→skerrylaw02_FragBack.j3 (k+2) l true m (at_:Int) (i:Int) true=some true:=by
   intro hne
   obtain ⟨hk1,hB2⟩:=hB.skip hne
   rw [skerrylaw02_FragBack.j3,if_pos rfl,if_pos (by omega),if_pos (by omega),hli,if_pos hk1,w1]
   exact ih (at_+1) i (k+1) (by omega) hi (by rw [hdr];exact hB2) (by omega)
  rw [skerrylaw02_FragBack.l1,if_pos (by omega),if_pos (by omega),if_pos (by omega),if_pos (by omega),hmi,hli]
  by_cases h0:(tkAt l at_).f0=(m[i]).f0
  ·rw [if_pos h0]
   by_cases h2:(tkAt l at_).f2=(m[i]).f2
   ·have hq:((tkAt l at_).f2.toList !=(m[i]).f2.toList)=false:=by rw [h2,bne_self_eq_false]
    rw [hq,skerrylaw02_FragBack.j3,if_neg (by decide),w1,w2,skerrylaw02_FragBack.l0]
    have hB2:=hB.take h0 h2
    by_cases hi2:i+1<m.length
    ·rw [if_pos (by omega)]
     exact ih (at_+1) (i+1) k (by omega) hi2 hB2 (by omega)
    ·rw [if_neg (by omega),if_pos rfl,decide_eq_true (by omega)]
   ·have hq:((tkAt l at_).f2.toList !=(m[i]).f2.toList)=true:=by
     rw [bne_iff_ne]
     exact fun e=>h2 ((toList_eq _ _).1 e)
    rw [hq]
    exact skip (fun h=>h2 h.2)
  ·rw [if_neg h0]
   exact skip (fun h=>h0 h.1)
end Go.Proofs.YtipnlgmeonepfaaGreatDoor.PFa
namespace Go.Proofs.YtipnlgmeonepfaaGreatDoor.Pure
open Go.RowKit Go.Proofs.YtipnlgmeonepfaaGreatDoor.PFa Go.Proofs.YtipnlgmeonepfaaGreatDoorW.PrintWords Go.Proofs.YtipnlgmeonepfaaGreatDoorW.PrintLast
theorem FragBack (l:List Tk) (ws:List ByteArray): ∃k,skerrylaw02_FragBack.f k l ws=some true:=by
 refine ⟨40000,?_⟩
 unfold skerrylaw02_FragBack.f
 rw [show skerrylaw02_sane.f=some true from rfl,Option.bind_some]
 have f1: ∀x y,fragment_Read.f x y=some (readOut x y):=fun _ _=>rfl
 have f2: ∀x,fragment_Flat.f x=some (flatOut x):=fun _=>rfl
 have f3: ∀x y,fragment_Check.f x y=some (checkOut x y):=fun _ _=>rfl
 have f4: ∀x y b,skerryref02_Alike.f x y b=some (alL b x y):=fun _ _ _=>rfl
 simp only [f1,f2,f3,f4,Option.bind_some]
 obtain ⟨R,hR⟩: ∃R,readOut l ws=R:=⟨_,rfl⟩
 rw [hR]
 obtain ⟨a,at_,e⟩:=R
 dsimp only
 by_cases he:e=0
 ·subst he
  have hw:wordsB ws=true:=by
   cases hw:wordsB ws with
   |true=>rfl
   |false=>
    unfold readOut at hR
    rw [hw,if_neg (by decide)] at hR
    injection hR with _ hR
    injection hR with _ hR
    omega
  have hP:=plainly_of hw
  obtain ⟨_,hl,rfl,hok,hflt⟩:=read_ok hP hR
  have hlen:(flL a).length≤l.length:=by
   rcases hflt.len with h|h
   ·omega
   ·rw [h]
    exact Nat.zero_le _
  have e1:=ok_flat hok (by omega)
  have e2:=ok_read hP hw hok (by omega)
  have e3:=(check_iff hP).2 ⟨hw,hok,by omega⟩
  rw [e1,e2,e3]
  dsimp only
  rw [if_pos rfl,if_pos rfl,if_pos rfl,alL_self,if_pos rfl,decide_eq_false (by omega),skerrylaw02_FragBack.j0,if_neg (by decide),skerrylaw02_FragBack.l0]
  by_cases h0:0<(flL a).length
  ·rw [if_pos (by omega)]
   exact back_loop hl (by omega) l.length 0 0 _ (by omega) h0 ⟨0,fun h=>absurd rfl h,fun j hj=>absurd hj (by omega),hflt⟩ (by omega)
  ·rw [if_neg (by omega),if_pos rfl,decide_eq_true (by omega)]
 ·rw [if_neg he,if_pos trivial,read_none hR he]
  rfl
end Go.Proofs.YtipnlgmeonepfaaGreatDoor.Pure
