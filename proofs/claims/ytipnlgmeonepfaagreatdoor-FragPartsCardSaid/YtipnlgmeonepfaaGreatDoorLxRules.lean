/- The cutter's rules return what their plain forms say. -/
import Derived.Test.YtipnlgmeonepfaaGreatDoorLxPlain
import Derived.Test.YtipnlgmeonepfaaGreatDoorLxAll
import Derived.Lib.IndexBytes
import Derived.Shelf.Small.Strs
set_option linter.unusedVariables false
set_option linter.unusedSimpArgs false
namespace Go.Proofs.YtipnlgmeonepfaaGreatDoor.Lx
open Go.RowKit Go.Proofs.YtipnlgmeonepfaaGreatDoorW.PrintWords

/-- What the cutter's rules read: where its table lies, and the table. -/
structure CT (w:World) (b tb:Nat):Prop where
 is:w.cell? ⟨b,2,none⟩=some (.pointer (some ⟨tb,0,none⟩))
 tab:Tab w tb
theorem CT.drewN {w:World} {b tb:Nat} (h:CT w b tb) (n:Nat):CT (w.drewN n) b tb:=⟨h.is,h.tab.drewN n⟩
theorem CT.below {w w':World} {b tb:Nat} (h:CT w b tb) (hb:Below w.heap.size w w'):CT w' b tb:=⟨pw_cell_below hb h.is,h.tab.below hb⟩
theorem plain_at {b tb:Nat} {s:ByteArray} {n:Nat} (h:Hid (plain s.data.toList=n)) (hs:s.size≤20000) {w:World} (hc:CT w b tb):
  Calls Tryz.prog 191 #[.pointer (some ⟨b,0,none⟩),.string s] w fun e w'=>e=.returned (.int .i64 n)∧Drawn0 w w':=
 h.out▸plain_walk b tb s hs w hc.is hc.tab
theorem allQ_at {b tb:Nat} {s:ByteArray} {n:Nat} (h:Hid (allN cQ s.data.toList=n)) (hs:s.size≤20000) {w:World} (hc:CT w b tb):
  Calls Tryz.prog 192 #[.pointer (some ⟨b,0,none⟩),.string s,.int .i64 5] w fun e w'=>e=.returned (.int .i64 n)∧Drawn0 w w':=
 h.out▸all_Q b tb s hs w hc.is hc.tab
theorem allD_at {b tb:Nat} {s:ByteArray} {n:Nat} (h:Hid (allN cD s.data.toList=n)) (hs:s.size≤20000) {w:World} (hc:CT w b tb):
  Calls Tryz.prog 192 #[.pointer (some ⟨b,0,none⟩),.string s,.int .i64 1] w fun e w'=>e=.returned (.int .i64 n)∧Drawn0 w w':=
 h.out▸all_D b tb s hs w hc.is hc.tab

/-! ### colon -/
set_option maxHeartbeats 800000 in
theorem colon_walk (s:ByteArray) (n:Nat) (hn:n≤20000) (hs:s.size≤20000) (w:World):
  Calls Tryz.prog 195 #[.string s,.int .i64 (n:Int)] w fun e w'=>e=.returned (.bool (colon s.data.toList n))∧Drawn0 w w':=by
 by_cases h0:n<s.size
 ·have hd:=Lib.hid (drop_cons s n h0)
  by_cases h1:n+1=s.size
  ·have H1:=Lib.hid h1
   clear h1
   have hq:(((n:Int)+1)==(s.size:Int))=true:=beq_iff_eq.2 (by have:=H1.out;omega)
   go_enter Tryz.func195,Tryz.ntmps195
   go_wp2
   all_goals
    go_ret
    refine ⟨ret_bool ?_,Drawn0.refl _⟩
    have hd':=hd.out
    rw [List.drop_of_length_le (i:=n+1) (by rw [data_length];have:=H1.out;omega)] at hd'
    simp only [colon,hd',colonHere]
    rw [Bool.eq_iff_iff]
    simp only [bne_iff_ne,beq_iff_eq,Bool.and_eq_true,ne_eq,Bool.true_eq_false,Bool.false_eq_true,eq_self,true_iff,false_iff]
    omega
  ·have h2:n+1<s.size:=by omega
   have hq:(((n:Int)+1)==(s.size:Int))=false:=beq_eq_false_iff_ne.2 (by omega)
   have H1:=Lib.hid h1
   clear h1
   have hd2:=Lib.hid (drop_cons s (n+1) h2)
   go_enter Tryz.func195,Tryz.ntmps195
   go_wp2
   all_goals
    go_ret
    refine ⟨ret_bool ?_,Drawn0.refl _⟩
    have hd':=hd.out
    rw [hd2.out] at hd'
    simp only [colon,hd',colonHere]
    rw [Bool.eq_iff_iff]
    simp only [bne_iff_ne,beq_iff_eq,Bool.and_eq_true,ne_eq,Bool.true_eq_false,Bool.false_eq_true,eq_self,true_iff,false_iff]
    omega
 ·go_enter Tryz.func195,Tryz.ntmps195
  go_wp2
  go_ret
  refine ⟨ret_bool ?_,Drawn0.refl _⟩
  rw [colon,List.drop_of_length_le (by rw [data_length];omega)]
  rfl
theorem colon_at {s:ByteArray} {n:Nat} {v:Bool} (h:Hid (colon s.data.toList n=v)) (hn:n≤20000) (hs:s.size≤20000) (w:World):
  Calls Tryz.prog 195 #[.string s,.int .i64 (n:Int)] w fun e w'=>e=.returned (.bool v)∧Drawn0 w w':=h.out▸colon_walk s n hn hs w

/-! ### name -/
theorem byteAt_at (s:ByteArray) (k i:Nat) (h:k+i<s.size):byteAt (s.data.toList.drop k) i=s[k+i].toNat:=by
 unfold byteAt
 rw [List.getD_eq_getElem?_getD,List.getElem?_drop,List.getElem?_eq_getElem (by rw [data_length];exact h),getElem_list s (k+i) h]
 rfl
theorem name_plain {s:List UInt8} (h:plain s=0∨s.drop (plain s)=[]∨ ∃c q,s.drop (plain s)=c::q∧(c.toNat≠64∨allN cQ q=0∨byteAt q 0=45)):name s=plain s:=by
 unfold name
 rcases h with h|h|⟨c,q,h,h'⟩
 ·rw [if_neg (by omega)]
 ·split
  ·rw [h]
  ·rfl
 ·split
  ·rw [h]
   simp only []
   rw [if_neg]
   rintro ⟨h1,h2,h3⟩
   rcases h' with h'|h'|h'
   ·exact h' h1
   ·omega
   ·exact h3 h'
  ·rfl
theorem name_qual {s q:List UInt8} {c:UInt8} (h0:0<plain s) (h:s.drop (plain s)=c::q) (h1:c.toNat=64) (h2:0<allN cQ q) (h3:byteAt q 0≠45):name s=plain s+1+allN cQ q:=by
 unfold name
 rw [if_pos h0,h]
 simp only []
 rw [if_pos ⟨h1,h2,h3⟩]

set_option maxHeartbeats 1600000 in
theorem name_walk (b tb:Nat) (s:ByteArray) (hs:s.size≤20000) (w:World) (hc:CT w b tb):
  Calls Tryz.prog 175 #[.pointer (some ⟨b,0,none⟩),.string s] w fun e w'=>e=.returned (.int .i64 (name s.data.toList:Nat))∧Drawn0 w w':=by
 have HC:=Lib.hid hc
 clear hc
 obtain ⟨n,hn⟩: ∃n,plain s.data.toList=n:=⟨_,rfl⟩
 have hns:n≤s.size:=by rw [←hn,←data_length s];exact plain_le _
 have HP:=Lib.hid hn
 clear hn
 have hi0:(0:Int)≤n:=by omega
 by_cases h0:n=0
 ·obtain rfl:=h0
  go_enter Tryz.func175,Tryz.ntmps175
  go_wp2_with (go_at_call 191;go_must (refine (plain_at HP hs HC.out).mono ?_;rintro e w' ⟨rfl,⟨m1,rfl⟩⟩))
  go_ret
  refine ⟨ret_int ?_,by repeat (first|exact Drawn0.refl _|apply Drawn0.step)⟩
  rw [name_plain (.inl HP.out),HP.out]
  rfl
 ·have hpos:0<n:=by omega
  have hposi:(0:Int)<n:=by omega
  clear h0
  by_cases h1:n<s.size
  ·have h1i:(n:Int)<s.size:=by omega
   have hd:=Lib.hid (drop_cons s n h1)
   by_cases h2:s[n].toNat=64
   ·have h2b:((s[n].toNat:Int)==64)=true:=beq_iff_eq.2 (by omega)
    have H2:=Lib.hid h2
    clear h2
    obtain ⟨q,hq⟩: ∃q,allN cQ (s.data.toList.drop (n+1))=q:=⟨_,rfl⟩
    have hqs:q≤s.size-(n+1):=by rw [←hq];have:=allN_le cQ (s.data.toList.drop (n+1));rw [List.length_drop,data_length] at this;exact this
    have HQ:=Lib.hid hq
    have HQ':Hid (allN cQ (s.extract (n+1) s.size).data.toList=q):=Lib.hid (by rw [Lib.extract_to_end];exact hq)
    have hsz:(s.extract (n+1) s.size).size≤20000:=by rw [ByteArray.size_extract];omega
    clear hq
    by_cases h3:q=0
    ·obtain rfl:=h3
     go_enter Tryz.func175,Tryz.ntmps175
     go_wp2_with (first|(go_at_call 191;go_must (refine (plain_at HP hs HC.out).mono ?_;rintro e w' ⟨rfl,⟨m1,rfl⟩⟩))|(go_at_call 192;go_must (refine (allQ_at HQ' hsz (HC.out.drewN _)).mono ?_;rintro e w' ⟨rfl,⟨m2,rfl⟩⟩)))
     go_ret
     refine ⟨ret_int ?_,by repeat (first|exact Drawn0.refl _|apply Drawn0.step)⟩
     rw [name_plain (.inr (.inr ⟨_,_,by rw [HP.out];exact hd.out,.inr (.inl HQ.out)⟩)),HP.out]
    ·have hqpos:(0:Int)<q:=by omega
     have hqn:0<q:=by omega
     have h4:n+1<s.size:=by omega
     have h4i:(n:Int)+1<s.size:=by omega
     clear h3
     have hby:=Lib.hid (byteAt_at s (n+1) 0 h4)
     by_cases h5:s[n+1].toNat=45
     ·have h5b:((s[n+1].toNat:Int) !=45)=false:=bne_eq_false_iff_eq.2 (by omega)
      have H5:=Lib.hid h5
      clear h5
      go_enter Tryz.func175,Tryz.ntmps175
      go_wp2_with (first|(go_at_call 191;go_must (refine (plain_at HP hs HC.out).mono ?_;rintro e w' ⟨rfl,⟨m1,rfl⟩⟩))|(go_at_call 192;go_must (refine (allQ_at HQ' hsz (HC.out.drewN _)).mono ?_;rintro e w' ⟨rfl,⟨m2,rfl⟩⟩)))
      go_ret
      refine ⟨ret_int ?_,by repeat (first|exact Drawn0.refl _|apply Drawn0.step)⟩
      rw [name_plain (.inr (.inr ⟨_,_,by rw [HP.out];exact hd.out,.inr (.inr (by rw [hby.out];exact H5.out))⟩)),HP.out]
     ·have h5b:((s[n+1].toNat:Int) !=45)=true:=bne_iff_ne.2 (by omega)
      have H5:=Lib.hid h5
      clear h5
      go_enter Tryz.func175,Tryz.ntmps175
      go_wp2_with (first|(go_at_call 191;go_must (refine (plain_at HP hs HC.out).mono ?_;rintro e w' ⟨rfl,⟨m1,rfl⟩⟩))|(go_at_call 192;go_must (refine (allQ_at HQ' hsz (HC.out.drewN _)).mono ?_;rintro e w' ⟨rfl,⟨m2,rfl⟩⟩)))
      go_ret
      refine ⟨ret_int ?_,by repeat (first|exact Drawn0.refl _|apply Drawn0.step)⟩
      have h0:0<plain s.data.toList:=by rw [HP.out];exact hpos
      rw [name_qual h0 (by rw [HP.out];exact hd.out) H2.out (by rw [HQ.out];exact hqn) (by rw [hby.out];exact H5.out),HP.out,HQ.out]
      omega
   ·have h2b:((s[n].toNat:Int)==64)=false:=beq_eq_false_iff_ne.2 (by omega)
    have H2:=Lib.hid h2
    clear h2
    go_enter Tryz.func175,Tryz.ntmps175
    go_wp2_with (go_at_call 191;go_must (refine (plain_at HP hs HC.out).mono ?_;rintro e w' ⟨rfl,⟨m1,rfl⟩⟩))
    go_ret
    refine ⟨ret_int ?_,by repeat (first|exact Drawn0.refl _|apply Drawn0.step)⟩
    rw [name_plain (.inr (.inr ⟨_,_,by rw [HP.out];exact hd.out,.inl H2.out⟩)),HP.out]
  ·have h1i: ¬(n:Int)<s.size:=by omega
   go_enter Tryz.func175,Tryz.ntmps175
   go_wp2_with (go_at_call 191;go_must (refine (plain_at HP hs HC.out).mono ?_;rintro e w' ⟨rfl,⟨m1,rfl⟩⟩))
   go_ret
   refine ⟨ret_int ?_,by repeat (first|exact Drawn0.refl _|apply Drawn0.step)⟩
   rw [name_plain (.inr (.inl (by rw [HP.out];exact List.drop_of_length_le (by rw [data_length];omega)))),HP.out]
end Go.Proofs.YtipnlgmeonepfaaGreatDoor.Lx
set_option linter.unusedVariables false
set_option linter.unusedSimpArgs false
namespace Go.Proofs.YtipnlgmeonepfaaGreatDoor.Lx
open Go.RowKit Go.Proofs.YtipnlgmeonepfaaGreatDoorW.PrintWords

/-- The cutter in memory: its text, where it stands, its table, the last token. -/
structure Cut (w:World) (b tb:Nat) (text:ByteArray) (at_ lk la ll:Nat):Prop where
 c0:w.cell? ⟨b,0,none⟩=some (.string text)
 c1:w.cell? ⟨b,1,none⟩=some (.int .i64 at_)
 ct:CT w b tb
 c3:w.cell? ⟨b,3,none⟩=some (.int .i64 lk)
 c4:w.cell? ⟨b,4,none⟩=some (.int .i64 la)
 c5:w.cell? ⟨b,5,none⟩=some (.int .i64 ll)
section
variable {w w':World} {b tb:Nat} {text:ByteArray} {at_ lk la ll:Nat}
theorem Cut.drewN (h:Cut w b tb text at_ lk la ll) (n:Nat):Cut (w.drewN n) b tb text at_ lk la ll:=⟨h.c0,h.c1,h.ct.drewN n,h.c3,h.c4,h.c5⟩
theorem Cut.below (h:Cut w b tb text at_ lk la ll) (hb:Below w.heap.size w w'):Cut w' b tb text at_ lk la ll:=
 ⟨pw_cell_below hb h.c0,pw_cell_below hb h.c1,h.ct.below hb,pw_cell_below hb h.c3,pw_cell_below hb h.c4,pw_cell_below hb h.c5⟩
end

theorem take_drop_extract (s:ByteArray) (a n:Nat):(s.extract a (a+n)).data.toList=(s.data.toList.drop a).take n:=by
 rw [Lib.extract_data,Nat.add_sub_cancel_left]

set_option maxHeartbeats 1600000 in
theorem operator_at {b tb:Nat} {text:ByteArray} {at_ lk la ll:Nat} {v:Bool} (hv:Hid (operand lk ((text.data.toList.drop la).take ll)=v)) (hs:text.size≤20000) (hl:la+ll≤text.size) {w:World} (hc:Cut w b tb text at_ lk la ll):
  Calls Tryz.prog 194 #[.pointer (some ⟨b,0,none⟩)] w fun e w'=>e=.returned (.bool v)∧Drawn0 w w':=by
 obtain ⟨c0,c1,ct,c3,c4,c5⟩:=hc
 have hi1:(la:Int)+ll≤text.size:=by omega
 have hi2:(0:Int)≤la:=by omega
 have hi3:(la:Int)≤(la:Int)+ll:=by omega
 have hi4:(0:Int)≤ll:=by omega
 clear ct c1
 have e:=hv.out
 clear hv
 by_cases h1:lk=1
 ·subst h1
  obtain rfl:true=v:=by rw [←e];rfl
  clear e
  go_enter Tryz.func194,Tryz.ntmps194
  go_wp2
  go_ret
  exact ⟨rfl,by repeat (first|exact Drawn0.refl _|apply Drawn0.step)⟩
 by_cases h2:lk=2
 ·subst h2
  obtain rfl:true=v:=by rw [←e];rfl
  clear e h1
  go_enter Tryz.func194,Tryz.ntmps194
  go_wp2
  go_ret
  exact ⟨rfl,by repeat (first|exact Drawn0.refl _|apply Drawn0.step)⟩
 by_cases h4:lk=4
 ·subst h4
  obtain rfl:true=v:=by rw [←e];rfl
  clear e h1 h2
  go_enter Tryz.func194,Tryz.ntmps194
  go_wp2
  go_ret
  exact ⟨rfl,by repeat (first|exact Drawn0.refl _|apply Drawn0.step)⟩
 by_cases h5:lk=5
 ·subst h5
  clear h1 h2 h4
  have hx:=Lib.hid (take_drop_extract text la ll)
  have hy:=Lib.hid (Lib.toList_data (text.extract la (la+ll)))
  have e':Hid ((((text.extract la (la+ll)).toList==[41])||((text.extract la (la+ll)).toList==[93]))=v):=Lib.hid (by rw [hy.out,hx.out,←e];rfl)
  clear e
  obtain ⟨t,ht⟩: ∃t,text.extract la (la+ll)=t:=⟨_,rfl⟩
  have HT:=Lib.hid ht
  cases q1:((text.extract la (la+ll)).toList==[41])<;>cases q2:((text.extract la (la+ll)).toList==[93])
  all_goals
   have e2:=e'.out
   rw [q1,q2] at e2
   simp only [Bool.or_self,Bool.or_true,Bool.or_false] at e2
   subst e2
   clear ht
   go_enter Tryz.func194,Tryz.ntmps194
   go_wp2
   go_quiet (fail)
   go_wp2
   go_ret
   exact ⟨rfl,by repeat (first|exact Drawn0.refl _|apply Drawn0.step)⟩
 ·obtain rfl:false=v:=by rw [←e];simp [operand,h1,h2,h4,h5]
  clear e
  have b1:((lk:Int)==1)=false:=beq_eq_false_iff_ne.2 (by omega)
  have b2:((lk:Int)==2)=false:=beq_eq_false_iff_ne.2 (by omega)
  have b4:((lk:Int)==4)=false:=beq_eq_false_iff_ne.2 (by omega)
  have b5:((lk:Int)==5)=false:=beq_eq_false_iff_ne.2 (by omega)
  go_enter Tryz.func194,Tryz.ntmps194
  go_wp2
  go_ret
  exact ⟨rfl,by repeat (first|exact Drawn0.refl _|apply Drawn0.step)⟩

/-! ### integer -/
theorem minus_le (op:Bool) (s:List UInt8):minus op s≤s.length:=by
 unfold minus
 split
 ·rename_i h
  cases s with
  |nil=>simp [pre] at h
  |cons x s=>simp
 ·omega
def AD:List UInt8→Nat:=allN cD
set_option maxHeartbeats 1600000 in
theorem integer_walk {b tb:Nat} {text:ByteArray} {at_ lk la ll:Nat} {op:Bool} (hv:Hid (operand lk ((text.data.toList.drop la).take ll)=op)) (hs:text.size≤20000) (hl:la+ll≤text.size) {w:World} (hc:Cut w b tb text at_ lk la ll)
  (s:ByteArray) (hss:s.size≤20000):
  Calls Tryz.prog 176 #[.pointer (some ⟨b,0,none⟩),.string s] w fun e w'=>e=.returned (.int .i64 (integer op s.data.toList:Nat))∧Drawn0 w w':=by
 have HC:=Lib.hid hc
 clear hc
 obtain ⟨p,hp⟩: ∃p,pre ([45]:List UInt8) s.data.toList=p:=⟨_,rfl⟩
 have HP:Hid (pre (⟨#[45]⟩:ByteArray).data.toList s.data.toList=p):=Lib.hid hp
 obtain ⟨m,hm⟩: ∃m,minus op s.data.toList=m:=⟨_,rfl⟩
 have hmle:m≤s.size:=by rw [←hm,←data_length s];exact minus_le _ _
 obtain ⟨d,hd⟩: ∃d,allN cD (s.data.toList.drop m)=d:=⟨_,rfl⟩
 have hds:d≤s.size-m:=by rw [←hd];have:=allN_le cD (s.data.toList.drop m);rw [List.length_drop,data_length] at this;exact this
 have HD:Hid (allN cD (s.extract m s.size).data.toList=d):=Lib.hid (by rw [Lib.extract_to_end];exact hd)
 have hsz:(s.extract m s.size).size≤20000:=by rw [ByteArray.size_extract];omega
 have hres:Hid (integer op s.data.toList=if 0<d then m+d else 0):=Lib.hid (by unfold integer;rw [hm,hd])
 have hmm:m=if p=true∧op=false then 1 else 0:=by rw [←hm];unfold minus;rw [hp]
 have Hv:=hv
 clear hp hm hd hv
 by_cases h0:d=0
 ·have hd0:((d:Int)>0)=False:=by simp;omega
  have hdi:(d:Int)≤0:=by omega
  have H0:=Lib.hid h0
  clear h0
  cases p<;>cases op
  all_goals
   simp only [Bool.false_eq_true,if_false,if_true,and_self,and_false,false_and,true_and,reduceCtorEq] at hmm
   subst hmm
   clear hd0
   try simp only [ByteArray.extract_zero_size,Nat.sub_zero] at HD hsz
   go_enter Tryz.func176,Tryz.ntmps176
   go_wp2_with (first
    |(go_at_call 193;go_must (refine (prefix_at HP _).mono ?_;rintro e w' ⟨rfl,⟨m1,rfl⟩⟩))
    |(go_at_call 194;go_must (refine (operator_at Hv hs hl (HC.out.drewN _)).mono ?_;rintro e w' ⟨rfl,⟨m2,rfl⟩⟩))
    |(go_at_call 192;go_must (refine (allD_at HD hsz (by exact (HC.out.ct.drewN _))).mono ?_;rintro e w' ⟨rfl,⟨m3,rfl⟩⟩)))
   go_ret
   refine ⟨ret_int ?_,by repeat (first|exact Drawn0.refl _|apply Drawn0.step)⟩
   rw [hres.out,if_neg (by have:=H0.out;omega)]
   rfl
 ·have hdi:(0:Int)<d:=by omega
  have hdp:0<d:=by omega
  clear h0
  cases p<;>cases op
  all_goals
   simp only [Bool.false_eq_true,if_false,if_true,and_self,and_false,false_and,true_and,reduceCtorEq] at hmm
   subst hmm
   try simp only [ByteArray.extract_zero_size,Nat.sub_zero] at HD hsz
   go_enter Tryz.func176,Tryz.ntmps176
   go_wp2_with (first
    |(go_at_call 193;go_must (refine (prefix_at HP _).mono ?_;rintro e w' ⟨rfl,⟨m1,rfl⟩⟩))
    |(go_at_call 194;go_must (refine (operator_at Hv hs hl (HC.out.drewN _)).mono ?_;rintro e w' ⟨rfl,⟨m2,rfl⟩⟩))
    |(go_at_call 192;go_must (refine (allD_at HD hsz (by exact (HC.out.ct.drewN _))).mono ?_;rintro e w' ⟨rfl,⟨m3,rfl⟩⟩)))
   go_ret
   refine ⟨ret_int ?_,by repeat (first|exact Drawn0.refl _|apply Drawn0.step)⟩
   rw [hres.out,if_pos hdp]
   omega

/-! ### keyword, hash -/
set_option maxHeartbeats 1600000 in
theorem keyword_walk (b tb:Nat) (s:ByteArray) (hs:s.size≤20000) (w:World) (hc:CT w b tb):
  Calls Tryz.prog 177 #[.pointer (some ⟨b,0,none⟩),.string s] w fun e w'=>e=.returned (.int .i64 (keyword s.data.toList:Nat))∧Drawn0 w w':=by
 have HC:=Lib.hid hc
 clear hc
 obtain ⟨n,hn⟩: ∃n,plain s.data.toList=n:=⟨_,rfl⟩
 have hns:n≤s.size:=by rw [←hn,←data_length s];exact plain_le _
 obtain ⟨v,hv⟩: ∃v,colon s.data.toList n=v:=⟨_,rfl⟩
 have hres:Hid (keyword s.data.toList=if 0<n∧v=true then n+1 else 0):=Lib.hid (by unfold keyword;rw [hn,hv])
 have HP:=Lib.hid hn
 have HV:=Lib.hid hv
 have hn2:n≤20000:=by omega
 clear hn hv
 by_cases h0:n=0
 ·obtain rfl:=h0
  go_enter Tryz.func177,Tryz.ntmps177
  go_wp2_with (go_at_call 191;go_must (refine (plain_at HP hs HC.out).mono ?_;rintro e w' ⟨rfl,⟨m1,rfl⟩⟩))
  go_ret
  refine ⟨ret_int ?_,by repeat (first|exact Drawn0.refl _|apply Drawn0.step)⟩
  rw [hres.out]
  rfl
 ·have hpos:0<n:=by omega
  have hposi:(0:Int)<n:=by omega
  clear h0
  cases v
  all_goals
   go_enter Tryz.func177,Tryz.ntmps177
   go_wp2_with (first
    |(go_at_call 191;go_must (refine (plain_at HP hs HC.out).mono ?_;rintro e w' ⟨rfl,⟨m1,rfl⟩⟩))
    |(go_at_call 195;go_must (refine (colon_at HV hn2 hs _).mono ?_;rintro e w' ⟨rfl,⟨m2,rfl⟩⟩)))
   go_ret
   refine ⟨ret_int ?_,by repeat (first|exact Drawn0.refl _|apply Drawn0.step)⟩
   rw [hres.out]
   simp [hpos]
set_option maxHeartbeats 1600000 in
theorem hash_walk (b:Nat) (s:ByteArray) (w:World):
  Calls Tryz.prog 178 #[.pointer (some ⟨b,0,none⟩),.string s] w fun e w'=>e=.returned (.int .i64 (hash s.data.toList:Nat))∧Drawn0 w w':=by
 obtain ⟨p,hp⟩: ∃p,pre ([35,116]:List UInt8) s.data.toList=p:=⟨_,rfl⟩
 have HP:Hid (pre (⟨#[35,116]⟩:ByteArray).data.toList s.data.toList=p):=Lib.hid hp
 obtain ⟨q,hq⟩: ∃p,pre ([35,102]:List UInt8) s.data.toList=p:=⟨_,rfl⟩
 have HQ:Hid (pre (⟨#[35,102]⟩:ByteArray).data.toList s.data.toList=q):=Lib.hid hq
 have hres:Hid (hash s.data.toList=if p||q then 2 else 0):=Lib.hid (by unfold hash;rw [hp,hq])
 clear hp hq
 cases p<;>cases q
 all_goals
  go_enter Tryz.func178,Tryz.ntmps178
  go_wp2_with fail
  refine (prefix_at HP _).mono ?_
  rintro e w' ⟨rfl,⟨m1,rfl⟩⟩
  go_wp2_with (go_at_call 193;go_must (refine (prefix_at HQ _).mono ?_;rintro e w' ⟨rfl,⟨m1,rfl⟩⟩))
  go_ret
  exact ⟨ret_int (by rw [hres.out];rfl),by repeat (first|exact Drawn0.refl _|apply Drawn0.step)⟩
end Go.Proofs.YtipnlgmeonepfaaGreatDoor.Lx
set_option linter.unusedVariables false
set_option linter.unusedSimpArgs false
namespace Go.Proofs.YtipnlgmeonepfaaGreatDoor.Lx
open Go.RowKit Go.Proofs.YtipnlgmeonepfaaGreatDoorW.PrintWords

/-! ### pattern -/
theorem pre_one {x:UInt8} {s:List UInt8}:pre [x] s=true↔ ∃t,s=x::t:=by
 unfold pre
 rw [List.isPrefixOf_iff_prefix]
 constructor
 ·rintro ⟨t,rfl⟩;exact ⟨t,rfl⟩
 ·rintro ⟨t,rfl⟩;exact ⟨t,rfl⟩
theorem plain_drop_le (s:ByteArray) (k n:Nat) (h:plain (s.data.toList.drop k)=n):n≤s.size-k:=by
 rw [←h];have:=plain_le (s.data.toList.drop k);rw [List.length_drop,data_length] at this;exact this
set_option maxHeartbeats 3200000 in
theorem pattern_walk (b tb:Nat) (s:ByteArray) (hs:s.size≤20000) (w:World) (hc:CT w b tb):
  Calls Tryz.prog 180 #[.pointer (some ⟨b,0,none⟩),.string s] w fun e w'=>e=.returned (.int .i64 (pattern s.data.toList:Nat))∧Drawn0 w w':=by
 have HC:=Lib.hid hc
 clear hc
 obtain ⟨p,hp⟩: ∃p,pre ([63]:List UInt8) s.data.toList=p:=⟨_,rfl⟩
 have HP:Hid (pre (⟨#[63]⟩:ByteArray).data.toList s.data.toList=p):=Lib.hid hp
 cases p
 ·have hres:Hid (pattern s.data.toList=0):=Lib.hid (by
   cases hh:s.data.toList with
   |nil=>rfl
   |cons c t=>
    simp only [pattern]
    rw [if_neg]
    intro h63
    have:pre [63] s.data.toList=true:=pre_one.2 ⟨t,by rw [hh,show c=63 from UInt8.toNat_inj.1 h63]⟩
    rw [hp] at this
    cases this)
  clear hp
  go_enter Tryz.func180,Tryz.ntmps180
  go_wp2_with (go_at_call 193;go_must (refine (prefix_at HP _).mono ?_;rintro e w' ⟨rfl,⟨m1,rfl⟩⟩))
  go_ret
  exact ⟨ret_int (by rw [hres.out];rfl),by repeat (first|exact Drawn0.refl _|apply Drawn0.step)⟩
 ·obtain ⟨t,ht⟩:=pre_one.1 hp
  have hsz1:1≤s.size:=by rw [←data_length s,ht];simp
  obtain ⟨n,hn⟩: ∃n,plain (s.data.toList.drop 1)=n:=⟨_,rfl⟩
  have hns:=plain_drop_le s 1 n hn
  have HN:Hid (plain (s.extract 1 s.size).data.toList=n):=Lib.hid (by rw [Lib.extract_to_end];exact hn)
  have hz1:(s.extract 1 s.size).size≤20000:=by rw [ByteArray.size_extract];omega
  have hp0:Hid (pattern s.data.toList=if n=0 then 0 else if colon s.data.toList (n+1) then if 0<plain (s.data.toList.drop (n+1+1)) then n+1+1+plain (s.data.toList.drop (n+1+1)) else n+1 else n+1):=Lib.hid (by
   rw [ht,List.drop_one,List.tail_cons] at hn
   rw [ht]
   simp only [pattern,hn]
   rw [if_pos (by rfl)])
  clear hp ht hn
  by_cases h0:n=0
  ·obtain rfl:=h0
   go_enter Tryz.func180,Tryz.ntmps180
   go_wp2_with (first
    |(go_at_call 193;go_must (refine (prefix_at HP _).mono ?_;rintro e w' ⟨rfl,⟨m1,rfl⟩⟩))
    |(go_at_call 191;go_must (refine (plain_at HN hz1 (HC.out.drewN _)).mono ?_;rintro e w' ⟨rfl,⟨m2,rfl⟩⟩)))
   go_ret
   exact ⟨ret_int (by rw [hp0.out];rfl),by repeat (first|exact Drawn0.refl _|apply Drawn0.step)⟩
  ·have hpos:0<n:=by omega
   have hb0:((n:Int)==0)=false:=beq_eq_false_iff_ne.2 (by omega)
   have hn1:n+1≤20000:=by omega
   have hni:(0:Int)≤n:=by omega
   have hn1s:(n:Int)+1≤s.size:=by omega
   obtain ⟨v,hv⟩: ∃v,colon s.data.toList (n+1)=v:=⟨_,rfl⟩
   have HV:=Lib.hid hv
   have hcs:Hid (((n:Int)+1)=((n+1:Nat):Int)):=Lib.hid (by omega)
   have HCOL:=Lib.hid (fun w=>(colon_at HV hn1 hs w))
   rw [←hcs.out] at HCOL
   cases v
   ·have hres:Hid (pattern s.data.toList=n+1):=Lib.hid (by rw [hp0.out,if_neg h0,hv];rfl)
    clear hv h0
    go_enter Tryz.func180,Tryz.ntmps180
    go_wp2_with (first
     |(go_at_call 193;go_must (refine (prefix_at HP _).mono ?_;rintro e w' ⟨rfl,⟨m1,rfl⟩⟩))
     |(go_at_call 191;go_must (refine (plain_at HN hz1 (HC.out.drewN _)).mono ?_;rintro e w' ⟨rfl,⟨m2,rfl⟩⟩))
     |(go_at_call 195;go_must (refine (HCOL.out _).mono ?_;rintro e w' ⟨rfl,⟨m3,rfl⟩⟩)))
    go_ret
    exact ⟨ret_int (by rw [hres.out];omega),by repeat (first|exact Drawn0.refl _|apply Drawn0.step)⟩
   ·have hn2s:n+1+1≤s.size:=by
     rcases Nat.lt_or_ge (n+1) s.size with h|h
     ·omega
     ·unfold colon at hv
      rw [List.drop_of_length_le (by rw [data_length];omega)] at hv
      cases hv
    have hn2i:(n:Int)+1+1≤s.size:=by omega
    obtain ⟨k,hk⟩: ∃k,plain (s.data.toList.drop (n+1+1))=k:=⟨_,rfl⟩
    have hks:=plain_drop_le s (n+1+1) k hk
    have HK:Hid (plain (s.extract (n+1+1) s.size).data.toList=k):=Lib.hid (by rw [Lib.extract_to_end];exact hk)
    have hz2:(s.extract (n+1+1) s.size).size≤20000:=by rw [ByteArray.size_extract];omega
    have hres:Hid (pattern s.data.toList=if 0<k then n+1+1+k else n+1):=Lib.hid (by rw [hp0.out,if_neg h0,hv,hk];rfl)
    clear hv h0 hk
    by_cases hk0:k=0
    ·obtain rfl:=hk0
     go_enter Tryz.func180,Tryz.ntmps180
     go_wp2_with fail
     refine (prefix_at HP _).mono ?_
     rintro e w' ⟨rfl,⟨m1,rfl⟩⟩
     go_wp2_with fail
     refine (plain_at HN hz1 (HC.out.drewN _)).mono ?_
     rintro e w' ⟨rfl,⟨m2,rfl⟩⟩
     go_wp2_with fail
     refine (HCOL.out _).mono ?_
     rintro e w' ⟨rfl,⟨m3,rfl⟩⟩
     go_wp2_with (go_at_call 191;go_must (refine (plain_at HK hz2 (HC.out.drewN _)).mono ?_;rintro e w' ⟨rfl,⟨m2,rfl⟩⟩))
     go_ret
     exact ⟨ret_int (by rw [hres.out];simp),by repeat (first|exact Drawn0.refl _|apply Drawn0.step)⟩
    ·have hkp:0<k:=by omega
     have hki:(0:Int)<k:=by omega
     clear hk0
     go_enter Tryz.func180,Tryz.ntmps180
     go_wp2_with fail
     refine (prefix_at HP _).mono ?_
     rintro e w' ⟨rfl,⟨m1,rfl⟩⟩
     go_wp2_with fail
     refine (plain_at HN hz1 (HC.out.drewN _)).mono ?_
     rintro e w' ⟨rfl,⟨m2,rfl⟩⟩
     go_wp2_with fail
     refine (HCOL.out _).mono ?_
     rintro e w' ⟨rfl,⟨m3,rfl⟩⟩
     go_wp2_with (go_at_call 191;go_must (refine (plain_at HK hz2 (HC.out.drewN _)).mono ?_;rintro e w' ⟨rfl,⟨m2,rfl⟩⟩))
     go_ret
     exact ⟨ret_int (by rw [hres.out,if_pos hkp];omega),by repeat (first|exact Drawn0.refl _|apply Drawn0.step)⟩
end Go.Proofs.YtipnlgmeonepfaaGreatDoor.Lx
