-- PRINTED by print.py (a twelfth state) out of the translation. Not trusted: Lean checks it.
import Derived.Test.YtipnlgmeonepfaaGreatDoorPFax0
import Derived.Test.YtipnlgmeonepfaaGreatDoorPFax5
import Derived.Test.YtipnlgmeonepfaaGreatDoorPFax7
import Derived.Test.YtipnlgmeonepfaaGreatDoorPFax11
import Derived.Test.YtipnlgmeonepfaaGreatDoorPFax12
namespace Go.Proofs.YtipnlgmeonepfaaGreatDoor.PFa
open Go.RowKit Go.Proofs.YtipnlgmeonepfaaGreatDoorW.PrintWords Go.Proofs.YtipnlgmeonepfaaGreatDoorW.PrintLast Go.Proofs.YtipnlgmeonepfaaGreatDoorW.PrintMore
attribute [local go_sem] max2_int min2_int max_two min_two max_three min_three max_four min_four   -- for this text's walks alone
set_option linter.unusedVariables false
set_option linter.unusedSimpArgs false

/-! ### skerrylaw02_FragBack: function 6 -/
mutual
def skerrylaw02_FragBack.j0:Nat→List (S39)→Bool→List (S39)→Bool→Option (Bool)
 |0,_,_,_,_=>none
 |k+1,x0,x5,x9,x60=>if x60=true then (some false) else (skerrylaw02_FragBack.l0 k x0 x5 x9 0 0)
def skerrylaw02_FragBack.l0:Nat→List (S39)→Bool→List (S39)→Int→Int→Option (Bool)
 |0,_,_,_,_,_=>none
 |k+1,x0,x5,x9,x13,x14=>if x14<(x9.length:Int) then (skerrylaw02_FragBack.l1 k x0 x5 x9 x13 x14) else (if x5=true then (some (decide (x13≤(x0.length:Int)))) else (some false))
def skerrylaw02_FragBack.l1:Nat→List (S39)→Bool→List (S39)→Int→Int→Option (Bool)
 |0,_,_,_,_,_=>none
 |k+1,x0,x5,x9,x13,x14=>if x13<(x0.length:Int) then (if 0≤x13 then (if 0≤x14 then (if x14<(x9.length:Int) then (if ((rd_T39 x0 x13).f0)=((rd_T39 x9 x14).f0) then (skerrylaw02_FragBack.j3 k x0 x5 x9 x13 x14 (((rd_T39 x0 x13).f2).toList !=((rd_T39 x9 x14).f2).toList)) else (skerrylaw02_FragBack.j3 k x0 x5 x9 x13 x14 true)) else (none)) else (none)) else (none)) else (skerrylaw02_FragBack.j3 k x0 x5 x9 x13 x14 false)
def skerrylaw02_FragBack.j3:Nat→List (S39)→Bool→List (S39)→Int→Int→Bool→Option (Bool)
 |0,_,_,_,_,_,_=>none
 |k+1,x0,x5,x9,x13,x14,x96=>if x96=true then (if 0≤x13 then (if x13<(x0.length:Int) then (if ((rd_T39 x0 x13).f0)=1 then (skerrylaw02_FragBack.l1 k x0 x5 x9 (wrap64 (x13+1)) x14) else (some false)) else (none)) else (none)) else (skerrylaw02_FragBack.l0 k x0 x5 x9 (wrap64 (x13+1)) (wrap64 (x14+1)))
end
def skerrylaw02_FragBack.f (k:Nat) (l0:List (S39)) (l1:List ByteArray):Option (Bool):=(skerrylaw02_sane.f).bind fun t174=>((fragment_Read.f l0 l1).bind fun bt175=>(if bt175.2.2=0 then ((fragment_Flat.f bt175.1).bind fun t180=>((fragment_Read.f t180 l1).bind fun bt183=>((fragment_Check.f bt175.1 l1).bind fun t188=>(if t188=0 then (if bt183.2.2=0 then ((skerryref02_Alike.f bt175.1 bt183.1 false).bind fun t189=>(if t189=true then (skerrylaw02_FragBack.j0 k l0 t174 t180 (decide ((t180.length:Int)>(l0.length:Int)))) else (skerrylaw02_FragBack.j0 k l0 t174 t180 true))) else (skerrylaw02_FragBack.j0 k l0 t174 t180 true)) else (skerrylaw02_FragBack.j0 k l0 t174 t180 true))))) else (if t174=true then (some ((bt175.1.length:Int)==0)) else (some false))))
set_option maxHeartbeats 8000000 in
set_option maxRecDepth 100000 in
theorem skerrylaw02_FragBack.calls (k:Nat) (A0:Option Addr) (c0:Nat) (l0:List (S39)) (A1:Option Addr) (c1:Nat) (l1:List ByteArray) (r:Bool) (w:World) (hr0:Kd.C k39 w A0 l0.length l0) (hc0:l0.length≤c0) (hr1:Kd.C Kd.string w A1 l1.length l1) (hc1:l1.length≤c1) (h:skerrylaw02_FragBack.f k l0 l1=some r) (hE:Lx.Env w):
  Calls Tryz.prog 6 #[.slice A0 l0.length c0,.slice A1 l1.length c1] w fun e w'=>e=.returned (.bool r)∧Below w.heap.size w w':=by
 have HE:=Lib.hid hE
 clear hE
 have HR0:=Aside0.mk hr0
 have HC0:=Aside0.mk hc0
 clear hr0 hc0
 have HR1:=Aside0.mk hr1
 have HC1:=Aside0.mk hc1
 clear hr1 hc1
 have HB:=Aside0.mk (Below.refl w.heap.size w)
 have H:((skerrylaw02_sane.f).bind fun t174=>((fragment_Read.f l0 l1).bind fun bt175=>(if bt175.2.2=0 then ((fragment_Flat.f bt175.1).bind fun t180=>((fragment_Read.f t180 l1).bind fun bt183=>((fragment_Check.f bt175.1 l1).bind fun t188=>(if t188=0 then (if bt183.2.2=0 then ((skerryref02_Alike.f bt175.1 bt183.1 false).bind fun t189=>(if t189=true then (skerrylaw02_FragBack.j0 k l0 t174 t180 (decide ((t180.length:Int)>(l0.length:Int)))) else (skerrylaw02_FragBack.j0 k l0 t174 t180 true))) else (skerrylaw02_FragBack.j0 k l0 t174 t180 true)) else (skerrylaw02_FragBack.j0 k l0 t174 t180 true))))) else (if t174=true then (some ((bt175.1.length:Int)==0)) else (some false)))))=some r:=h
 clear h
 replace H:=Option.bind_eq_some_iff.mp H
 obtain ⟨t174,A30,H⟩:=H
 replace H:((fragment_Read.f l0 l1).bind fun bt175=>(if bt175.2.2=0 then ((fragment_Flat.f bt175.1).bind fun t180=>((fragment_Read.f t180 l1).bind fun bt183=>((fragment_Check.f bt175.1 l1).bind fun t188=>(if t188=0 then (if bt183.2.2=0 then ((skerryref02_Alike.f bt175.1 bt183.1 false).bind fun t189=>(if t189=true then (skerrylaw02_FragBack.j0 k l0 t174 t180 (decide ((t180.length:Int)>(l0.length:Int)))) else (skerrylaw02_FragBack.j0 k l0 t174 t180 true))) else (skerrylaw02_FragBack.j0 k l0 t174 t180 true)) else (skerrylaw02_FragBack.j0 k l0 t174 t180 true))))) else (if t174=true then (some ((bt175.1.length:Int)==0)) else (some false))))=some r:=H
 have A3:=Aside0.mk A30
 clear A30
 replace H:=Option.bind_eq_some_iff.mp H
 obtain ⟨⟨t175,t176,t177⟩,A40,H⟩:=H
 replace H:(if t177=0 then ((fragment_Flat.f t175).bind fun t180=>((fragment_Read.f t180 l1).bind fun bt183=>((fragment_Check.f t175 l1).bind fun t188=>(if t188=0 then (if bt183.2.2=0 then ((skerryref02_Alike.f t175 bt183.1 false).bind fun t189=>(if t189=true then (skerrylaw02_FragBack.j0 k l0 t174 t180 (decide ((t180.length:Int)>(l0.length:Int)))) else (skerrylaw02_FragBack.j0 k l0 t174 t180 true))) else (skerrylaw02_FragBack.j0 k l0 t174 t180 true)) else (skerrylaw02_FragBack.j0 k l0 t174 t180 true))))) else (if t174=true then (some ((t175.length:Int)==0)) else (some false)))=some r:=H
 have A4:=Aside0.mk A40
 clear A40
 by_cases c5:t177=0
 ·rw [if_pos c5] at H
  have c5b0:(t177==0)=true:=beq_iff_eq.mpr c5
  have c5b1:(t177 !=0)=false:=bne_eq_false_iff_eq.mpr c5
  clear c5
  replace H:=Option.bind_eq_some_iff.mp H
  obtain ⟨t180,A60,H⟩:=H
  replace H:((fragment_Read.f t180 l1).bind fun bt183=>((fragment_Check.f t175 l1).bind fun t188=>(if t188=0 then (if bt183.2.2=0 then ((skerryref02_Alike.f t175 bt183.1 false).bind fun t189=>(if t189=true then (skerrylaw02_FragBack.j0 k l0 t174 t180 (decide ((t180.length:Int)>(l0.length:Int)))) else (skerrylaw02_FragBack.j0 k l0 t174 t180 true))) else (skerrylaw02_FragBack.j0 k l0 t174 t180 true)) else (skerrylaw02_FragBack.j0 k l0 t174 t180 true))))=some r:=H
  have A6:=Aside0.mk A60
  clear A60
  replace H:=Option.bind_eq_some_iff.mp H
  obtain ⟨⟨t183,t184,t185⟩,A70,H⟩:=H
  replace H:((fragment_Check.f t175 l1).bind fun t188=>(if t188=0 then (if t185=0 then ((skerryref02_Alike.f t175 t183 false).bind fun t189=>(if t189=true then (skerrylaw02_FragBack.j0 k l0 t174 t180 (decide ((t180.length:Int)>(l0.length:Int)))) else (skerrylaw02_FragBack.j0 k l0 t174 t180 true))) else (skerrylaw02_FragBack.j0 k l0 t174 t180 true)) else (skerrylaw02_FragBack.j0 k l0 t174 t180 true)))=some r:=H
  have A7:=Aside0.mk A70
  clear A70
  have HC8:=Aside0.mk H
  clear H
  go_enter Tryz.func6,Tryz.ntmps6
  go_upto_region 7 with (first|(go_at_call 14;(with_reducible refine (skerrylaw02_sane.calls  t174 _ A3.out (Lx.Env.below HE.out (by repeat (first|(with_reducible first|exact HB.out|apply below_alloc|apply pw_below_drewN|apply below_drew1)|exact HB.out)))).mono ?_);rintro e w9 ⟨rfl,hb⟩;have n0_:=Aside0.mk (below_step (by repeat (first|(with_reducible first|exact HB.out|apply below_alloc|apply pw_below_drewN|apply below_drew1)|exact HB.out)) hb);clear HB;have HB:=n0_;clear n0_;(try clear hb);(try clear hb2);(try clear hk);(try clear hi))|(go_at_call 15;(with_reducible refine (fragment_Read.calls _ _ l0 _ _ l1 t175 t176 t177 _ ?side1 ?side2 ?side3 ?side4 A4.out (Lx.Env.below HE.out (by repeat (first|(with_reducible first|exact HB.out|apply below_alloc|apply pw_below_drewN|apply below_drew1)|exact HB.out)))).mono ?_);(case side1=>repeat (first|exact (Kd.C_below HR0.out HB.out)|(with_reducible refine Kd.C_alloc ?_ _)|(with_reducible refine Kd.C_drewN ?_ _)|(with_reducible refine Kd.C_drew ?_)));(case side2=>exact HC0.out);(case side3=>repeat (first|exact (Kd.C_below HR1.out HB.out)|(with_reducible refine Kd.C_alloc ?_ _)|(with_reducible refine Kd.C_drewN ?_ _)|(with_reducible refine Kd.C_drew ?_)));(case side4=>exact HC1.out);rintro e w10 ⟨v178,rfl,ho0,hb⟩;have n0_:=Aside0.mk (Kd.R_lower ho0 (below_size (by repeat (first|(with_reducible first|exact HB.out|apply below_alloc|apply pw_below_drewN|apply below_drew1)|exact HB.out))));have n1_:=Aside0.mk (below_step (by repeat (first|(with_reducible first|exact HB.out|apply below_alloc|apply pw_below_drewN|apply below_drew1)|exact HB.out)) hb);clear HB;have HO179:=n0_;have HB:=n1_;clear n0_ n1_;(try clear hb);(try clear hb2);(try clear hk);(try clear hi);(try clear ho0);obtain ⟨Ao11,co11,eo11⟩:=Kd.R_slice HO179.out;subst eo11)|(go_at_call 21;(with_reducible refine (fragment_Flat.calls _ _ t175 t180 _ ?side1 ?side2 A6.out).mono ?_);(case side1=>repeat (first|exact (Kd.R_reads' HO179.out).2.2|(with_reducible refine Kd.C_alloc ?_ _)|(with_reducible refine Kd.C_drewN ?_ _)|(with_reducible refine Kd.C_drew ?_)));(case side2=>exact (Kd.R_reads' HO179.out).2.1);rintro e w12 ⟨v181,rfl,ho0,hb⟩;have n0_:=Aside0.mk (Kd.R_below (by (with_reducible repeat (first|apply Kd.R_alloc|apply Kd.R_drewN|apply Kd.R_drew));exact HO179.out) hb);have n1_:=Aside0.mk (Kd.R_lower ho0 (below_size (by repeat (first|(with_reducible first|exact HB.out|apply below_alloc|apply pw_below_drewN|apply below_drew1)|exact HB.out))));have n2_:=Aside0.mk (below_step (by repeat (first|(with_reducible first|exact HB.out|apply below_alloc|apply pw_below_drewN|apply below_drew1)|exact HB.out)) hb);clear HO179;clear HB;have HO179:=n0_;have HO182:=n1_;have HB:=n2_;clear n0_ n1_ n2_;(try clear hb);(try clear hb2);(try clear hk);(try clear hi);(try clear ho0);obtain ⟨Ao13,co13,eo13⟩:=Kd.R_slice HO182.out;subst eo13)|(go_at_call 15;(with_reducible refine (fragment_Read.calls _ _ t180 _ _ l1 t183 t184 t185 _ ?side1 ?side2 ?side3 ?side4 A7.out (Lx.Env.below HE.out (by repeat (first|(with_reducible first|exact HB.out|apply below_alloc|apply pw_below_drewN|apply below_drew1)|exact HB.out)))).mono ?_);(case side1=>repeat (first|exact (Kd.R_reads' HO182.out).2.2|(with_reducible refine Kd.C_alloc ?_ _)|(with_reducible refine Kd.C_drewN ?_ _)|(with_reducible refine Kd.C_drew ?_)));(case side2=>exact (Kd.R_reads' HO182.out).2.1);(case side3=>repeat (first|exact (Kd.C_below HR1.out HB.out)|(with_reducible refine Kd.C_alloc ?_ _)|(with_reducible refine Kd.C_drewN ?_ _)|(with_reducible refine Kd.C_drew ?_)));(case side4=>exact HC1.out);rintro e w14 ⟨v186,rfl,ho0,hb⟩;have n0_:=Aside0.mk (Kd.R_elder' (by (with_reducible repeat (first|apply Kd.R_alloc|apply Kd.R_drewN|apply Kd.R_drew));exact HO179.out) (Kd.R_base ho0) hb);have n1_:=Aside0.mk (Kd.R_below (by (with_reducible repeat (first|apply Kd.R_alloc|apply Kd.R_drewN|apply Kd.R_drew));exact HO182.out) hb);have n2_:=Aside0.mk (Kd.R_lower (Kd.R_new' ho0 (Kd.R_lt (by (with_reducible repeat (first|apply Kd.R_alloc|apply Kd.R_drewN|apply Kd.R_drew));exact HO179.out))) (below_size (by repeat (first|(with_reducible first|exact HB.out|apply below_alloc|apply pw_below_drewN|apply below_drew1)|exact HB.out))));have n3_:=Aside0.mk (below_step (by repeat (first|(with_reducible first|exact HB.out|apply below_alloc|apply pw_below_drewN|apply below_drew1)|exact HB.out)) hb);clear HO179;clear HO182;clear HB;have HO179:=n0_;have HO182:=n1_;have HO187:=n2_;have HB:=n3_;clear n0_ n1_ n2_ n3_;(try clear hb);(try clear hb2);(try clear hk);(try clear hi);(try clear ho0)))
  repeat (go_quiet (first|(go_at_call 14;(with_reducible refine (skerrylaw02_sane.calls  t174 _ A3.out (Lx.Env.below HE.out (by repeat (first|(with_reducible first|exact HB.out|apply below_alloc|apply pw_below_drewN|apply below_drew1)|exact HB.out)))).mono ?_);rintro e w9 ⟨rfl,hb⟩;have n0_:=Aside0.mk (below_step (by repeat (first|(with_reducible first|exact HB.out|apply below_alloc|apply pw_below_drewN|apply below_drew1)|exact HB.out)) hb);clear HB;have HB:=n0_;clear n0_;(try clear hb);(try clear hb2);(try clear hk);(try clear hi))|(go_at_call 15;(with_reducible refine (fragment_Read.calls _ _ l0 _ _ l1 t175 t176 t177 _ ?side1 ?side2 ?side3 ?side4 A4.out (Lx.Env.below HE.out (by repeat (first|(with_reducible first|exact HB.out|apply below_alloc|apply pw_below_drewN|apply below_drew1)|exact HB.out)))).mono ?_);(case side1=>repeat (first|exact (Kd.C_below HR0.out HB.out)|(with_reducible refine Kd.C_alloc ?_ _)|(with_reducible refine Kd.C_drewN ?_ _)|(with_reducible refine Kd.C_drew ?_)));(case side2=>exact HC0.out);(case side3=>repeat (first|exact (Kd.C_below HR1.out HB.out)|(with_reducible refine Kd.C_alloc ?_ _)|(with_reducible refine Kd.C_drewN ?_ _)|(with_reducible refine Kd.C_drew ?_)));(case side4=>exact HC1.out);rintro e w10 ⟨v178,rfl,ho0,hb⟩;have n0_:=Aside0.mk (Kd.R_lower ho0 (below_size (by repeat (first|(with_reducible first|exact HB.out|apply below_alloc|apply pw_below_drewN|apply below_drew1)|exact HB.out))));have n1_:=Aside0.mk (below_step (by repeat (first|(with_reducible first|exact HB.out|apply below_alloc|apply pw_below_drewN|apply below_drew1)|exact HB.out)) hb);clear HB;have HO179:=n0_;have HB:=n1_;clear n0_ n1_;(try clear hb);(try clear hb2);(try clear hk);(try clear hi);(try clear ho0);obtain ⟨Ao11,co11,eo11⟩:=Kd.R_slice HO179.out;subst eo11)|(go_at_call 21;(with_reducible refine (fragment_Flat.calls _ _ t175 t180 _ ?side1 ?side2 A6.out).mono ?_);(case side1=>repeat (first|exact (Kd.R_reads' HO179.out).2.2|(with_reducible refine Kd.C_alloc ?_ _)|(with_reducible refine Kd.C_drewN ?_ _)|(with_reducible refine Kd.C_drew ?_)));(case side2=>exact (Kd.R_reads' HO179.out).2.1);rintro e w12 ⟨v181,rfl,ho0,hb⟩;have n0_:=Aside0.mk (Kd.R_below (by (with_reducible repeat (first|apply Kd.R_alloc|apply Kd.R_drewN|apply Kd.R_drew));exact HO179.out) hb);have n1_:=Aside0.mk (Kd.R_lower ho0 (below_size (by repeat (first|(with_reducible first|exact HB.out|apply below_alloc|apply pw_below_drewN|apply below_drew1)|exact HB.out))));have n2_:=Aside0.mk (below_step (by repeat (first|(with_reducible first|exact HB.out|apply below_alloc|apply pw_below_drewN|apply below_drew1)|exact HB.out)) hb);clear HO179;clear HB;have HO179:=n0_;have HO182:=n1_;have HB:=n2_;clear n0_ n1_ n2_;(try clear hb);(try clear hb2);(try clear hk);(try clear hi);(try clear ho0);obtain ⟨Ao13,co13,eo13⟩:=Kd.R_slice HO182.out;subst eo13)|(go_at_call 15;(with_reducible refine (fragment_Read.calls _ _ t180 _ _ l1 t183 t184 t185 _ ?side1 ?side2 ?side3 ?side4 A7.out (Lx.Env.below HE.out (by repeat (first|(with_reducible first|exact HB.out|apply below_alloc|apply pw_below_drewN|apply below_drew1)|exact HB.out)))).mono ?_);(case side1=>repeat (first|exact (Kd.R_reads' HO182.out).2.2|(with_reducible refine Kd.C_alloc ?_ _)|(with_reducible refine Kd.C_drewN ?_ _)|(with_reducible refine Kd.C_drew ?_)));(case side2=>exact (Kd.R_reads' HO182.out).2.1);(case side3=>repeat (first|exact (Kd.C_below HR1.out HB.out)|(with_reducible refine Kd.C_alloc ?_ _)|(with_reducible refine Kd.C_drewN ?_ _)|(with_reducible refine Kd.C_drew ?_)));(case side4=>exact HC1.out);rintro e w14 ⟨v186,rfl,ho0,hb⟩;have n0_:=Aside0.mk (Kd.R_elder' (by (with_reducible repeat (first|apply Kd.R_alloc|apply Kd.R_drewN|apply Kd.R_drew));exact HO179.out) (Kd.R_base ho0) hb);have n1_:=Aside0.mk (Kd.R_below (by (with_reducible repeat (first|apply Kd.R_alloc|apply Kd.R_drewN|apply Kd.R_drew));exact HO182.out) hb);have n2_:=Aside0.mk (Kd.R_lower (Kd.R_new' ho0 (Kd.R_lt (by (with_reducible repeat (first|apply Kd.R_alloc|apply Kd.R_drewN|apply Kd.R_drew));exact HO179.out))) (below_size (by repeat (first|(with_reducible first|exact HB.out|apply below_alloc|apply pw_below_drewN|apply below_drew1)|exact HB.out))));have n3_:=Aside0.mk (below_step (by repeat (first|(with_reducible first|exact HB.out|apply below_alloc|apply pw_below_drewN|apply below_drew1)|exact HB.out)) hb);clear HO179;clear HO182;clear HB;have HO179:=n0_;have HO182:=n1_;have HO187:=n2_;have HB:=n3_;clear n0_ n1_ n2_ n3_;(try clear hb);(try clear hb2);(try clear hk);(try clear hi);(try clear ho0)));go_upto_region 7 with (first|(go_at_call 14;(with_reducible refine (skerrylaw02_sane.calls  t174 _ A3.out (Lx.Env.below HE.out (by repeat (first|(with_reducible first|exact HB.out|apply below_alloc|apply pw_below_drewN|apply below_drew1)|exact HB.out)))).mono ?_);rintro e w9 ⟨rfl,hb⟩;have n0_:=Aside0.mk (below_step (by repeat (first|(with_reducible first|exact HB.out|apply below_alloc|apply pw_below_drewN|apply below_drew1)|exact HB.out)) hb);clear HB;have HB:=n0_;clear n0_;(try clear hb);(try clear hb2);(try clear hk);(try clear hi))|(go_at_call 15;(with_reducible refine (fragment_Read.calls _ _ l0 _ _ l1 t175 t176 t177 _ ?side1 ?side2 ?side3 ?side4 A4.out (Lx.Env.below HE.out (by repeat (first|(with_reducible first|exact HB.out|apply below_alloc|apply pw_below_drewN|apply below_drew1)|exact HB.out)))).mono ?_);(case side1=>repeat (first|exact (Kd.C_below HR0.out HB.out)|(with_reducible refine Kd.C_alloc ?_ _)|(with_reducible refine Kd.C_drewN ?_ _)|(with_reducible refine Kd.C_drew ?_)));(case side2=>exact HC0.out);(case side3=>repeat (first|exact (Kd.C_below HR1.out HB.out)|(with_reducible refine Kd.C_alloc ?_ _)|(with_reducible refine Kd.C_drewN ?_ _)|(with_reducible refine Kd.C_drew ?_)));(case side4=>exact HC1.out);rintro e w10 ⟨v178,rfl,ho0,hb⟩;have n0_:=Aside0.mk (Kd.R_lower ho0 (below_size (by repeat (first|(with_reducible first|exact HB.out|apply below_alloc|apply pw_below_drewN|apply below_drew1)|exact HB.out))));have n1_:=Aside0.mk (below_step (by repeat (first|(with_reducible first|exact HB.out|apply below_alloc|apply pw_below_drewN|apply below_drew1)|exact HB.out)) hb);clear HB;have HO179:=n0_;have HB:=n1_;clear n0_ n1_;(try clear hb);(try clear hb2);(try clear hk);(try clear hi);(try clear ho0);obtain ⟨Ao11,co11,eo11⟩:=Kd.R_slice HO179.out;subst eo11)|(go_at_call 21;(with_reducible refine (fragment_Flat.calls _ _ t175 t180 _ ?side1 ?side2 A6.out).mono ?_);(case side1=>repeat (first|exact (Kd.R_reads' HO179.out).2.2|(with_reducible refine Kd.C_alloc ?_ _)|(with_reducible refine Kd.C_drewN ?_ _)|(with_reducible refine Kd.C_drew ?_)));(case side2=>exact (Kd.R_reads' HO179.out).2.1);rintro e w12 ⟨v181,rfl,ho0,hb⟩;have n0_:=Aside0.mk (Kd.R_below (by (with_reducible repeat (first|apply Kd.R_alloc|apply Kd.R_drewN|apply Kd.R_drew));exact HO179.out) hb);have n1_:=Aside0.mk (Kd.R_lower ho0 (below_size (by repeat (first|(with_reducible first|exact HB.out|apply below_alloc|apply pw_below_drewN|apply below_drew1)|exact HB.out))));have n2_:=Aside0.mk (below_step (by repeat (first|(with_reducible first|exact HB.out|apply below_alloc|apply pw_below_drewN|apply below_drew1)|exact HB.out)) hb);clear HO179;clear HB;have HO179:=n0_;have HO182:=n1_;have HB:=n2_;clear n0_ n1_ n2_;(try clear hb);(try clear hb2);(try clear hk);(try clear hi);(try clear ho0);obtain ⟨Ao13,co13,eo13⟩:=Kd.R_slice HO182.out;subst eo13)|(go_at_call 15;(with_reducible refine (fragment_Read.calls _ _ t180 _ _ l1 t183 t184 t185 _ ?side1 ?side2 ?side3 ?side4 A7.out (Lx.Env.below HE.out (by repeat (first|(with_reducible first|exact HB.out|apply below_alloc|apply pw_below_drewN|apply below_drew1)|exact HB.out)))).mono ?_);(case side1=>repeat (first|exact (Kd.R_reads' HO182.out).2.2|(with_reducible refine Kd.C_alloc ?_ _)|(with_reducible refine Kd.C_drewN ?_ _)|(with_reducible refine Kd.C_drew ?_)));(case side2=>exact (Kd.R_reads' HO182.out).2.1);(case side3=>repeat (first|exact (Kd.C_below HR1.out HB.out)|(with_reducible refine Kd.C_alloc ?_ _)|(with_reducible refine Kd.C_drewN ?_ _)|(with_reducible refine Kd.C_drew ?_)));(case side4=>exact HC1.out);rintro e w14 ⟨v186,rfl,ho0,hb⟩;have n0_:=Aside0.mk (Kd.R_elder' (by (with_reducible repeat (first|apply Kd.R_alloc|apply Kd.R_drewN|apply Kd.R_drew));exact HO179.out) (Kd.R_base ho0) hb);have n1_:=Aside0.mk (Kd.R_below (by (with_reducible repeat (first|apply Kd.R_alloc|apply Kd.R_drewN|apply Kd.R_drew));exact HO182.out) hb);have n2_:=Aside0.mk (Kd.R_lower (Kd.R_new' ho0 (Kd.R_lt (by (with_reducible repeat (first|apply Kd.R_alloc|apply Kd.R_drewN|apply Kd.R_drew));exact HO179.out))) (below_size (by repeat (first|(with_reducible first|exact HB.out|apply below_alloc|apply pw_below_drewN|apply below_drew1)|exact HB.out))));have n3_:=Aside0.mk (below_step (by repeat (first|(with_reducible first|exact HB.out|apply below_alloc|apply pw_below_drewN|apply below_drew1)|exact HB.out)) hb);clear HO179;clear HO182;clear HB;have HO179:=n0_;have HO182:=n1_;have HO187:=n2_;have HB:=n3_;clear n0_ n1_ n2_ n3_;(try clear hb);(try clear hb2);(try clear hk);(try clear hi);(try clear ho0))))
  (try simp only [Act.put,List.setIfInBounds_toArray,List.set_cons_zero,List.set_cons_succ])
  go_cut [60] (fun v60 wc=> ∃(kq:Nat) (x60_7:Bool),v60=.bool x60_7∧Aside0 (skerrylaw02_FragBack.j0 kq l0 t174 t180 x60_7=some r)∧Aside0 (kq≤k)∧Aside0 (Kd.R k39 39 wc w.heap.size (fun _=>True) (.slice Ao13 t180.length co13) t180)∧Aside0 (Below w.heap.size w wc))
  case first=>
   have H:=HC8.out
   clear HC8
   replace H:=Option.bind_eq_some_iff.mp H
   obtain ⟨t188,A150,H⟩:=H
   replace H:(if t188=0 then (if t185=0 then ((skerryref02_Alike.f t175 t183 false).bind fun t189=>(if t189=true then (skerrylaw02_FragBack.j0 k l0 t174 t180 (decide ((t180.length:Int)>(l0.length:Int)))) else (skerrylaw02_FragBack.j0 k l0 t174 t180 true))) else (skerrylaw02_FragBack.j0 k l0 t174 t180 true)) else (skerrylaw02_FragBack.j0 k l0 t174 t180 true))=some r:=H
   have A15:=Aside0.mk A150
   clear A150
   by_cases c16:t188=0
   ·rw [if_pos c16] at H
    have c16b0:(t188==0)=true:=beq_iff_eq.mpr c16
    have c16b1:(t188 !=0)=false:=bne_eq_false_iff_eq.mpr c16
    clear c16
    (first|rw [c16b0]|(simp only [i64_w,i32_w];rw [c16b0])|skip)
    by_cases c17:t185=0
    ·rw [if_pos c17] at H
     have c17b0:(t185==0)=true:=beq_iff_eq.mpr c17
     have c17b1:(t185 !=0)=false:=bne_eq_false_iff_eq.mpr c17
     clear c17
     replace H:=Option.bind_eq_some_iff.mp H
     obtain ⟨t189,A180,H⟩:=H
     replace H:(if t189=true then (skerrylaw02_FragBack.j0 k l0 t174 t180 (decide ((t180.length:Int)>(l0.length:Int)))) else (skerrylaw02_FragBack.j0 k l0 t174 t180 true))=some r:=H
     have A18:=Aside0.mk A180
     clear A180
     by_cases c19:t189=true
     ·subst c19
      have H1:(skerrylaw02_FragBack.j0 k l0 t174 t180 (decide ((t180.length:Int)>(l0.length:Int))))=some r:=by rw [if_pos rfl] at H;exact H
      clear H
      have H:=H1
      clear H1
      have H':=Aside0.mk H
      clear H
      go_wp2_with (first|(go_at_call 22;(with_reducible refine (fragment_Check.calls _ _ t175 _ _ l1 t188 _ ?side1 ?side2 ?side3 ?side4 A15.out (Lx.Env.below HE.out (by repeat (first|(with_reducible first|exact HB.out|apply below_alloc|apply pw_below_drewN|apply below_drew1)|exact HB.out)))).mono ?_);(case side1=>repeat (first|exact (Kd.R_reads' HO179.out).2.2|(with_reducible refine Kd.C_alloc ?_ _)|(with_reducible refine Kd.C_drewN ?_ _)|(with_reducible refine Kd.C_drew ?_)));(case side2=>exact (Kd.R_reads' HO179.out).2.1);(case side3=>repeat (first|exact (Kd.C_below HR1.out HB.out)|(with_reducible refine Kd.C_alloc ?_ _)|(with_reducible refine Kd.C_drewN ?_ _)|(with_reducible refine Kd.C_drew ?_)));(case side4=>exact HC1.out);rintro e w20 ⟨rfl,hb⟩;have n0_:=Aside0.mk (Kd.R_below (by (with_reducible repeat (first|apply Kd.R_alloc|apply Kd.R_drewN|apply Kd.R_drew));exact HO179.out) hb);have n1_:=Aside0.mk (Kd.R_below (by (with_reducible repeat (first|apply Kd.R_alloc|apply Kd.R_drewN|apply Kd.R_drew));exact HO182.out) hb);have n2_:=Aside0.mk (Kd.R_below (by (with_reducible repeat (first|apply Kd.R_alloc|apply Kd.R_drewN|apply Kd.R_drew));exact HO187.out) hb);have n3_:=Aside0.mk (below_step (by repeat (first|(with_reducible first|exact HB.out|apply below_alloc|apply pw_below_drewN|apply below_drew1)|exact HB.out)) hb);clear HO179;clear HO182;clear HO187;clear HB;have HO179:=n0_;have HO182:=n1_;have HO187:=n2_;have HB:=n3_;clear n0_ n1_ n2_ n3_;(try clear hb);(try clear hb2);(try clear hk);(try clear hi);obtain ⟨Ao21,co21,eo21⟩:=Kd.R_slice HO187.out;subst eo21)|(go_at_call 20;(with_reducible refine (skerryref02_Alike.calls _ _ t175 _ _ t183 false true _ ?side1 ?side2 ?side3 ?side4 A18.out).mono ?_);(case side1=>repeat (first|exact (Kd.R_reads' HO179.out).2.2|(with_reducible refine Kd.C_alloc ?_ _)|(with_reducible refine Kd.C_drewN ?_ _)|(with_reducible refine Kd.C_drew ?_)));(case side2=>exact (Kd.R_reads' HO179.out).2.1);(case side3=>repeat (first|exact (Kd.R_reads' HO187.out).2.2|(with_reducible refine Kd.C_alloc ?_ _)|(with_reducible refine Kd.C_drewN ?_ _)|(with_reducible refine Kd.C_drew ?_)));(case side4=>exact (Kd.R_reads' HO187.out).2.1);rintro e w22 ⟨rfl,hb⟩;have n0_:=Aside0.mk (Kd.R_below (by (with_reducible repeat (first|apply Kd.R_alloc|apply Kd.R_drewN|apply Kd.R_drew));exact HO179.out) hb);have n1_:=Aside0.mk (Kd.R_below (by (with_reducible repeat (first|apply Kd.R_alloc|apply Kd.R_drewN|apply Kd.R_drew));exact HO182.out) hb);have n2_:=Aside0.mk (Kd.R_below (by (with_reducible repeat (first|apply Kd.R_alloc|apply Kd.R_drewN|apply Kd.R_drew));exact HO187.out) hb);have n3_:=Aside0.mk (below_step (by repeat (first|(with_reducible first|exact HB.out|apply below_alloc|apply pw_below_drewN|apply below_drew1)|exact HB.out)) hb);clear HO179;clear HO182;clear HO187;clear HB;have HO179:=n0_;have HO182:=n1_;have HO187:=n2_;have HB:=n3_;clear n0_ n1_ n2_ n3_;(try clear hb);(try clear hb2);(try clear hk);(try clear hi)))
      repeat (go_quiet (first|(go_at_call 22;(with_reducible refine (fragment_Check.calls _ _ t175 _ _ l1 t188 _ ?side1 ?side2 ?side3 ?side4 A15.out (Lx.Env.below HE.out (by repeat (first|(with_reducible first|exact HB.out|apply below_alloc|apply pw_below_drewN|apply below_drew1)|exact HB.out)))).mono ?_);(case side1=>repeat (first|exact (Kd.R_reads' HO179.out).2.2|(with_reducible refine Kd.C_alloc ?_ _)|(with_reducible refine Kd.C_drewN ?_ _)|(with_reducible refine Kd.C_drew ?_)));(case side2=>exact (Kd.R_reads' HO179.out).2.1);(case side3=>repeat (first|exact (Kd.C_below HR1.out HB.out)|(with_reducible refine Kd.C_alloc ?_ _)|(with_reducible refine Kd.C_drewN ?_ _)|(with_reducible refine Kd.C_drew ?_)));(case side4=>exact HC1.out);rintro e w20 ⟨rfl,hb⟩;have n0_:=Aside0.mk (Kd.R_below (by (with_reducible repeat (first|apply Kd.R_alloc|apply Kd.R_drewN|apply Kd.R_drew));exact HO179.out) hb);have n1_:=Aside0.mk (Kd.R_below (by (with_reducible repeat (first|apply Kd.R_alloc|apply Kd.R_drewN|apply Kd.R_drew));exact HO182.out) hb);have n2_:=Aside0.mk (Kd.R_below (by (with_reducible repeat (first|apply Kd.R_alloc|apply Kd.R_drewN|apply Kd.R_drew));exact HO187.out) hb);have n3_:=Aside0.mk (below_step (by repeat (first|(with_reducible first|exact HB.out|apply below_alloc|apply pw_below_drewN|apply below_drew1)|exact HB.out)) hb);clear HO179;clear HO182;clear HO187;clear HB;have HO179:=n0_;have HO182:=n1_;have HO187:=n2_;have HB:=n3_;clear n0_ n1_ n2_ n3_;(try clear hb);(try clear hb2);(try clear hk);(try clear hi);obtain ⟨Ao21,co21,eo21⟩:=Kd.R_slice HO187.out;subst eo21)|(go_at_call 20;(with_reducible refine (skerryref02_Alike.calls _ _ t175 _ _ t183 false true _ ?side1 ?side2 ?side3 ?side4 A18.out).mono ?_);(case side1=>repeat (first|exact (Kd.R_reads' HO179.out).2.2|(with_reducible refine Kd.C_alloc ?_ _)|(with_reducible refine Kd.C_drewN ?_ _)|(with_reducible refine Kd.C_drew ?_)));(case side2=>exact (Kd.R_reads' HO179.out).2.1);(case side3=>repeat (first|exact (Kd.R_reads' HO187.out).2.2|(with_reducible refine Kd.C_alloc ?_ _)|(with_reducible refine Kd.C_drewN ?_ _)|(with_reducible refine Kd.C_drew ?_)));(case side4=>exact (Kd.R_reads' HO187.out).2.1);rintro e w22 ⟨rfl,hb⟩;have n0_:=Aside0.mk (Kd.R_below (by (with_reducible repeat (first|apply Kd.R_alloc|apply Kd.R_drewN|apply Kd.R_drew));exact HO179.out) hb);have n1_:=Aside0.mk (Kd.R_below (by (with_reducible repeat (first|apply Kd.R_alloc|apply Kd.R_drewN|apply Kd.R_drew));exact HO182.out) hb);have n2_:=Aside0.mk (Kd.R_below (by (with_reducible repeat (first|apply Kd.R_alloc|apply Kd.R_drewN|apply Kd.R_drew));exact HO187.out) hb);have n3_:=Aside0.mk (below_step (by repeat (first|(with_reducible first|exact HB.out|apply below_alloc|apply pw_below_drewN|apply below_drew1)|exact HB.out)) hb);clear HO179;clear HO182;clear HO187;clear HB;have HO179:=n0_;have HO182:=n1_;have HO187:=n2_;have HB:=n3_;clear n0_ n1_ n2_ n3_;(try clear hb);(try clear hb2);(try clear hk);(try clear hi)));try go_wp2_with (first|(go_at_call 22;(with_reducible refine (fragment_Check.calls _ _ t175 _ _ l1 t188 _ ?side1 ?side2 ?side3 ?side4 A15.out (Lx.Env.below HE.out (by repeat (first|(with_reducible first|exact HB.out|apply below_alloc|apply pw_below_drewN|apply below_drew1)|exact HB.out)))).mono ?_);(case side1=>repeat (first|exact (Kd.R_reads' HO179.out).2.2|(with_reducible refine Kd.C_alloc ?_ _)|(with_reducible refine Kd.C_drewN ?_ _)|(with_reducible refine Kd.C_drew ?_)));(case side2=>exact (Kd.R_reads' HO179.out).2.1);(case side3=>repeat (first|exact (Kd.C_below HR1.out HB.out)|(with_reducible refine Kd.C_alloc ?_ _)|(with_reducible refine Kd.C_drewN ?_ _)|(with_reducible refine Kd.C_drew ?_)));(case side4=>exact HC1.out);rintro e w20 ⟨rfl,hb⟩;have n0_:=Aside0.mk (Kd.R_below (by (with_reducible repeat (first|apply Kd.R_alloc|apply Kd.R_drewN|apply Kd.R_drew));exact HO179.out) hb);have n1_:=Aside0.mk (Kd.R_below (by (with_reducible repeat (first|apply Kd.R_alloc|apply Kd.R_drewN|apply Kd.R_drew));exact HO182.out) hb);have n2_:=Aside0.mk (Kd.R_below (by (with_reducible repeat (first|apply Kd.R_alloc|apply Kd.R_drewN|apply Kd.R_drew));exact HO187.out) hb);have n3_:=Aside0.mk (below_step (by repeat (first|(with_reducible first|exact HB.out|apply below_alloc|apply pw_below_drewN|apply below_drew1)|exact HB.out)) hb);clear HO179;clear HO182;clear HO187;clear HB;have HO179:=n0_;have HO182:=n1_;have HO187:=n2_;have HB:=n3_;clear n0_ n1_ n2_ n3_;(try clear hb);(try clear hb2);(try clear hk);(try clear hi);obtain ⟨Ao21,co21,eo21⟩:=Kd.R_slice HO187.out;subst eo21)|(go_at_call 20;(with_reducible refine (skerryref02_Alike.calls _ _ t175 _ _ t183 false true _ ?side1 ?side2 ?side3 ?side4 A18.out).mono ?_);(case side1=>repeat (first|exact (Kd.R_reads' HO179.out).2.2|(with_reducible refine Kd.C_alloc ?_ _)|(with_reducible refine Kd.C_drewN ?_ _)|(with_reducible refine Kd.C_drew ?_)));(case side2=>exact (Kd.R_reads' HO179.out).2.1);(case side3=>repeat (first|exact (Kd.R_reads' HO187.out).2.2|(with_reducible refine Kd.C_alloc ?_ _)|(with_reducible refine Kd.C_drewN ?_ _)|(with_reducible refine Kd.C_drew ?_)));(case side4=>exact (Kd.R_reads' HO187.out).2.1);rintro e w22 ⟨rfl,hb⟩;have n0_:=Aside0.mk (Kd.R_below (by (with_reducible repeat (first|apply Kd.R_alloc|apply Kd.R_drewN|apply Kd.R_drew));exact HO179.out) hb);have n1_:=Aside0.mk (Kd.R_below (by (with_reducible repeat (first|apply Kd.R_alloc|apply Kd.R_drewN|apply Kd.R_drew));exact HO182.out) hb);have n2_:=Aside0.mk (Kd.R_below (by (with_reducible repeat (first|apply Kd.R_alloc|apply Kd.R_drewN|apply Kd.R_drew));exact HO187.out) hb);have n3_:=Aside0.mk (below_step (by repeat (first|(with_reducible first|exact HB.out|apply below_alloc|apply pw_below_drewN|apply below_drew1)|exact HB.out)) hb);clear HO179;clear HO182;clear HO187;clear HB;have HO179:=n0_;have HO182:=n1_;have HO187:=n2_;have HB:=n3_;clear n0_ n1_ n2_ n3_;(try clear hb);(try clear hb2);(try clear hk);(try clear hi))))
      go_meet
      case rel=>exact ⟨_,(decide ((t180.length:Int)>(l0.length:Int))),(by first|rfl|(simp;done)|(simp [*];done)),H',⟨by first|omega|exact Nat.le_refl _⟩,⟨by (with_reducible repeat (first|apply Kd.R_alloc|apply Kd.R_drewN|apply Kd.R_drew));exact HO182.out⟩,⟨by repeat (first|(with_reducible first|exact HB.out|apply below_alloc|apply pw_below_drewN|apply below_drew1)|exact HB.out)⟩⟩
     ·replace c19:=Bool.eq_false_iff.mpr c19
      subst c19
      have H1:(skerrylaw02_FragBack.j0 k l0 t174 t180 true)=some r:=by rw [if_neg (show¬(false=true) by decide)] at H;exact H
      clear H
      have H:=H1
      clear H1
      have H':=Aside0.mk H
      clear H
      go_wp2_with (first|(go_at_call 22;(with_reducible refine (fragment_Check.calls _ _ t175 _ _ l1 t188 _ ?side1 ?side2 ?side3 ?side4 A15.out (Lx.Env.below HE.out (by repeat (first|(with_reducible first|exact HB.out|apply below_alloc|apply pw_below_drewN|apply below_drew1)|exact HB.out)))).mono ?_);(case side1=>repeat (first|exact (Kd.R_reads' HO179.out).2.2|(with_reducible refine Kd.C_alloc ?_ _)|(with_reducible refine Kd.C_drewN ?_ _)|(with_reducible refine Kd.C_drew ?_)));(case side2=>exact (Kd.R_reads' HO179.out).2.1);(case side3=>repeat (first|exact (Kd.C_below HR1.out HB.out)|(with_reducible refine Kd.C_alloc ?_ _)|(with_reducible refine Kd.C_drewN ?_ _)|(with_reducible refine Kd.C_drew ?_)));(case side4=>exact HC1.out);rintro e w23 ⟨rfl,hb⟩;have n0_:=Aside0.mk (Kd.R_below (by (with_reducible repeat (first|apply Kd.R_alloc|apply Kd.R_drewN|apply Kd.R_drew));exact HO179.out) hb);have n1_:=Aside0.mk (Kd.R_below (by (with_reducible repeat (first|apply Kd.R_alloc|apply Kd.R_drewN|apply Kd.R_drew));exact HO182.out) hb);have n2_:=Aside0.mk (Kd.R_below (by (with_reducible repeat (first|apply Kd.R_alloc|apply Kd.R_drewN|apply Kd.R_drew));exact HO187.out) hb);have n3_:=Aside0.mk (below_step (by repeat (first|(with_reducible first|exact HB.out|apply below_alloc|apply pw_below_drewN|apply below_drew1)|exact HB.out)) hb);clear HO179;clear HO182;clear HO187;clear HB;have HO179:=n0_;have HO182:=n1_;have HO187:=n2_;have HB:=n3_;clear n0_ n1_ n2_ n3_;(try clear hb);(try clear hb2);(try clear hk);(try clear hi);obtain ⟨Ao24,co24,eo24⟩:=Kd.R_slice HO187.out;subst eo24)|(go_at_call 20;(with_reducible refine (skerryref02_Alike.calls _ _ t175 _ _ t183 false false _ ?side1 ?side2 ?side3 ?side4 A18.out).mono ?_);(case side1=>repeat (first|exact (Kd.R_reads' HO179.out).2.2|(with_reducible refine Kd.C_alloc ?_ _)|(with_reducible refine Kd.C_drewN ?_ _)|(with_reducible refine Kd.C_drew ?_)));(case side2=>exact (Kd.R_reads' HO179.out).2.1);(case side3=>repeat (first|exact (Kd.R_reads' HO187.out).2.2|(with_reducible refine Kd.C_alloc ?_ _)|(with_reducible refine Kd.C_drewN ?_ _)|(with_reducible refine Kd.C_drew ?_)));(case side4=>exact (Kd.R_reads' HO187.out).2.1);rintro e w25 ⟨rfl,hb⟩;have n0_:=Aside0.mk (Kd.R_below (by (with_reducible repeat (first|apply Kd.R_alloc|apply Kd.R_drewN|apply Kd.R_drew));exact HO179.out) hb);have n1_:=Aside0.mk (Kd.R_below (by (with_reducible repeat (first|apply Kd.R_alloc|apply Kd.R_drewN|apply Kd.R_drew));exact HO182.out) hb);have n2_:=Aside0.mk (Kd.R_below (by (with_reducible repeat (first|apply Kd.R_alloc|apply Kd.R_drewN|apply Kd.R_drew));exact HO187.out) hb);have n3_:=Aside0.mk (below_step (by repeat (first|(with_reducible first|exact HB.out|apply below_alloc|apply pw_below_drewN|apply below_drew1)|exact HB.out)) hb);clear HO179;clear HO182;clear HO187;clear HB;have HO179:=n0_;have HO182:=n1_;have HO187:=n2_;have HB:=n3_;clear n0_ n1_ n2_ n3_;(try clear hb);(try clear hb2);(try clear hk);(try clear hi)))
      repeat (go_quiet (first|(go_at_call 22;(with_reducible refine (fragment_Check.calls _ _ t175 _ _ l1 t188 _ ?side1 ?side2 ?side3 ?side4 A15.out (Lx.Env.below HE.out (by repeat (first|(with_reducible first|exact HB.out|apply below_alloc|apply pw_below_drewN|apply below_drew1)|exact HB.out)))).mono ?_);(case side1=>repeat (first|exact (Kd.R_reads' HO179.out).2.2|(with_reducible refine Kd.C_alloc ?_ _)|(with_reducible refine Kd.C_drewN ?_ _)|(with_reducible refine Kd.C_drew ?_)));(case side2=>exact (Kd.R_reads' HO179.out).2.1);(case side3=>repeat (first|exact (Kd.C_below HR1.out HB.out)|(with_reducible refine Kd.C_alloc ?_ _)|(with_reducible refine Kd.C_drewN ?_ _)|(with_reducible refine Kd.C_drew ?_)));(case side4=>exact HC1.out);rintro e w23 ⟨rfl,hb⟩;have n0_:=Aside0.mk (Kd.R_below (by (with_reducible repeat (first|apply Kd.R_alloc|apply Kd.R_drewN|apply Kd.R_drew));exact HO179.out) hb);have n1_:=Aside0.mk (Kd.R_below (by (with_reducible repeat (first|apply Kd.R_alloc|apply Kd.R_drewN|apply Kd.R_drew));exact HO182.out) hb);have n2_:=Aside0.mk (Kd.R_below (by (with_reducible repeat (first|apply Kd.R_alloc|apply Kd.R_drewN|apply Kd.R_drew));exact HO187.out) hb);have n3_:=Aside0.mk (below_step (by repeat (first|(with_reducible first|exact HB.out|apply below_alloc|apply pw_below_drewN|apply below_drew1)|exact HB.out)) hb);clear HO179;clear HO182;clear HO187;clear HB;have HO179:=n0_;have HO182:=n1_;have HO187:=n2_;have HB:=n3_;clear n0_ n1_ n2_ n3_;(try clear hb);(try clear hb2);(try clear hk);(try clear hi);obtain ⟨Ao24,co24,eo24⟩:=Kd.R_slice HO187.out;subst eo24)|(go_at_call 20;(with_reducible refine (skerryref02_Alike.calls _ _ t175 _ _ t183 false false _ ?side1 ?side2 ?side3 ?side4 A18.out).mono ?_);(case side1=>repeat (first|exact (Kd.R_reads' HO179.out).2.2|(with_reducible refine Kd.C_alloc ?_ _)|(with_reducible refine Kd.C_drewN ?_ _)|(with_reducible refine Kd.C_drew ?_)));(case side2=>exact (Kd.R_reads' HO179.out).2.1);(case side3=>repeat (first|exact (Kd.R_reads' HO187.out).2.2|(with_reducible refine Kd.C_alloc ?_ _)|(with_reducible refine Kd.C_drewN ?_ _)|(with_reducible refine Kd.C_drew ?_)));(case side4=>exact (Kd.R_reads' HO187.out).2.1);rintro e w25 ⟨rfl,hb⟩;have n0_:=Aside0.mk (Kd.R_below (by (with_reducible repeat (first|apply Kd.R_alloc|apply Kd.R_drewN|apply Kd.R_drew));exact HO179.out) hb);have n1_:=Aside0.mk (Kd.R_below (by (with_reducible repeat (first|apply Kd.R_alloc|apply Kd.R_drewN|apply Kd.R_drew));exact HO182.out) hb);have n2_:=Aside0.mk (Kd.R_below (by (with_reducible repeat (first|apply Kd.R_alloc|apply Kd.R_drewN|apply Kd.R_drew));exact HO187.out) hb);have n3_:=Aside0.mk (below_step (by repeat (first|(with_reducible first|exact HB.out|apply below_alloc|apply pw_below_drewN|apply below_drew1)|exact HB.out)) hb);clear HO179;clear HO182;clear HO187;clear HB;have HO179:=n0_;have HO182:=n1_;have HO187:=n2_;have HB:=n3_;clear n0_ n1_ n2_ n3_;(try clear hb);(try clear hb2);(try clear hk);(try clear hi)));try go_wp2_with (first|(go_at_call 22;(with_reducible refine (fragment_Check.calls _ _ t175 _ _ l1 t188 _ ?side1 ?side2 ?side3 ?side4 A15.out (Lx.Env.below HE.out (by repeat (first|(with_reducible first|exact HB.out|apply below_alloc|apply pw_below_drewN|apply below_drew1)|exact HB.out)))).mono ?_);(case side1=>repeat (first|exact (Kd.R_reads' HO179.out).2.2|(with_reducible refine Kd.C_alloc ?_ _)|(with_reducible refine Kd.C_drewN ?_ _)|(with_reducible refine Kd.C_drew ?_)));(case side2=>exact (Kd.R_reads' HO179.out).2.1);(case side3=>repeat (first|exact (Kd.C_below HR1.out HB.out)|(with_reducible refine Kd.C_alloc ?_ _)|(with_reducible refine Kd.C_drewN ?_ _)|(with_reducible refine Kd.C_drew ?_)));(case side4=>exact HC1.out);rintro e w23 ⟨rfl,hb⟩;have n0_:=Aside0.mk (Kd.R_below (by (with_reducible repeat (first|apply Kd.R_alloc|apply Kd.R_drewN|apply Kd.R_drew));exact HO179.out) hb);have n1_:=Aside0.mk (Kd.R_below (by (with_reducible repeat (first|apply Kd.R_alloc|apply Kd.R_drewN|apply Kd.R_drew));exact HO182.out) hb);have n2_:=Aside0.mk (Kd.R_below (by (with_reducible repeat (first|apply Kd.R_alloc|apply Kd.R_drewN|apply Kd.R_drew));exact HO187.out) hb);have n3_:=Aside0.mk (below_step (by repeat (first|(with_reducible first|exact HB.out|apply below_alloc|apply pw_below_drewN|apply below_drew1)|exact HB.out)) hb);clear HO179;clear HO182;clear HO187;clear HB;have HO179:=n0_;have HO182:=n1_;have HO187:=n2_;have HB:=n3_;clear n0_ n1_ n2_ n3_;(try clear hb);(try clear hb2);(try clear hk);(try clear hi);obtain ⟨Ao24,co24,eo24⟩:=Kd.R_slice HO187.out;subst eo24)|(go_at_call 20;(with_reducible refine (skerryref02_Alike.calls _ _ t175 _ _ t183 false false _ ?side1 ?side2 ?side3 ?side4 A18.out).mono ?_);(case side1=>repeat (first|exact (Kd.R_reads' HO179.out).2.2|(with_reducible refine Kd.C_alloc ?_ _)|(with_reducible refine Kd.C_drewN ?_ _)|(with_reducible refine Kd.C_drew ?_)));(case side2=>exact (Kd.R_reads' HO179.out).2.1);(case side3=>repeat (first|exact (Kd.R_reads' HO187.out).2.2|(with_reducible refine Kd.C_alloc ?_ _)|(with_reducible refine Kd.C_drewN ?_ _)|(with_reducible refine Kd.C_drew ?_)));(case side4=>exact (Kd.R_reads' HO187.out).2.1);rintro e w25 ⟨rfl,hb⟩;have n0_:=Aside0.mk (Kd.R_below (by (with_reducible repeat (first|apply Kd.R_alloc|apply Kd.R_drewN|apply Kd.R_drew));exact HO179.out) hb);have n1_:=Aside0.mk (Kd.R_below (by (with_reducible repeat (first|apply Kd.R_alloc|apply Kd.R_drewN|apply Kd.R_drew));exact HO182.out) hb);have n2_:=Aside0.mk (Kd.R_below (by (with_reducible repeat (first|apply Kd.R_alloc|apply Kd.R_drewN|apply Kd.R_drew));exact HO187.out) hb);have n3_:=Aside0.mk (below_step (by repeat (first|(with_reducible first|exact HB.out|apply below_alloc|apply pw_below_drewN|apply below_drew1)|exact HB.out)) hb);clear HO179;clear HO182;clear HO187;clear HB;have HO179:=n0_;have HO182:=n1_;have HO187:=n2_;have HB:=n3_;clear n0_ n1_ n2_ n3_;(try clear hb);(try clear hb2);(try clear hk);(try clear hi))))
      go_meet
      case rel=>exact ⟨_,(true),(by first|rfl|(simp;done)|(simp [*];done)),H',⟨by first|omega|exact Nat.le_refl _⟩,⟨by (with_reducible repeat (first|apply Kd.R_alloc|apply Kd.R_drewN|apply Kd.R_drew));exact HO182.out⟩,⟨by repeat (first|(with_reducible first|exact HB.out|apply below_alloc|apply pw_below_drewN|apply below_drew1)|exact HB.out)⟩⟩
    ·rw [if_neg c17] at H
     have c17b0:(t185==0)=false:=beq_eq_false_iff_ne.mpr c17
     have c17b1:(t185 !=0)=true:=bne_iff_ne.mpr c17
     have H':=Aside0.mk H
     clear H
     go_wp2_with (first|(go_at_call 22;(with_reducible refine (fragment_Check.calls _ _ t175 _ _ l1 t188 _ ?side1 ?side2 ?side3 ?side4 A15.out (Lx.Env.below HE.out (by repeat (first|(with_reducible first|exact HB.out|apply below_alloc|apply pw_below_drewN|apply below_drew1)|exact HB.out)))).mono ?_);(case side1=>repeat (first|exact (Kd.R_reads' HO179.out).2.2|(with_reducible refine Kd.C_alloc ?_ _)|(with_reducible refine Kd.C_drewN ?_ _)|(with_reducible refine Kd.C_drew ?_)));(case side2=>exact (Kd.R_reads' HO179.out).2.1);(case side3=>repeat (first|exact (Kd.C_below HR1.out HB.out)|(with_reducible refine Kd.C_alloc ?_ _)|(with_reducible refine Kd.C_drewN ?_ _)|(with_reducible refine Kd.C_drew ?_)));(case side4=>exact HC1.out);rintro e w26 ⟨rfl,hb⟩;have n0_:=Aside0.mk (Kd.R_below (by (with_reducible repeat (first|apply Kd.R_alloc|apply Kd.R_drewN|apply Kd.R_drew));exact HO179.out) hb);have n1_:=Aside0.mk (Kd.R_below (by (with_reducible repeat (first|apply Kd.R_alloc|apply Kd.R_drewN|apply Kd.R_drew));exact HO182.out) hb);have n2_:=Aside0.mk (Kd.R_below (by (with_reducible repeat (first|apply Kd.R_alloc|apply Kd.R_drewN|apply Kd.R_drew));exact HO187.out) hb);have n3_:=Aside0.mk (below_step (by repeat (first|(with_reducible first|exact HB.out|apply below_alloc|apply pw_below_drewN|apply below_drew1)|exact HB.out)) hb);clear HO179;clear HO182;clear HO187;clear HB;have HO179:=n0_;have HO182:=n1_;have HO187:=n2_;have HB:=n3_;clear n0_ n1_ n2_ n3_;(try clear hb);(try clear hb2);(try clear hk);(try clear hi)))
     repeat (go_quiet (first|(go_at_call 22;(with_reducible refine (fragment_Check.calls _ _ t175 _ _ l1 t188 _ ?side1 ?side2 ?side3 ?side4 A15.out (Lx.Env.below HE.out (by repeat (first|(with_reducible first|exact HB.out|apply below_alloc|apply pw_below_drewN|apply below_drew1)|exact HB.out)))).mono ?_);(case side1=>repeat (first|exact (Kd.R_reads' HO179.out).2.2|(with_reducible refine Kd.C_alloc ?_ _)|(with_reducible refine Kd.C_drewN ?_ _)|(with_reducible refine Kd.C_drew ?_)));(case side2=>exact (Kd.R_reads' HO179.out).2.1);(case side3=>repeat (first|exact (Kd.C_below HR1.out HB.out)|(with_reducible refine Kd.C_alloc ?_ _)|(with_reducible refine Kd.C_drewN ?_ _)|(with_reducible refine Kd.C_drew ?_)));(case side4=>exact HC1.out);rintro e w26 ⟨rfl,hb⟩;have n0_:=Aside0.mk (Kd.R_below (by (with_reducible repeat (first|apply Kd.R_alloc|apply Kd.R_drewN|apply Kd.R_drew));exact HO179.out) hb);have n1_:=Aside0.mk (Kd.R_below (by (with_reducible repeat (first|apply Kd.R_alloc|apply Kd.R_drewN|apply Kd.R_drew));exact HO182.out) hb);have n2_:=Aside0.mk (Kd.R_below (by (with_reducible repeat (first|apply Kd.R_alloc|apply Kd.R_drewN|apply Kd.R_drew));exact HO187.out) hb);have n3_:=Aside0.mk (below_step (by repeat (first|(with_reducible first|exact HB.out|apply below_alloc|apply pw_below_drewN|apply below_drew1)|exact HB.out)) hb);clear HO179;clear HO182;clear HO187;clear HB;have HO179:=n0_;have HO182:=n1_;have HO187:=n2_;have HB:=n3_;clear n0_ n1_ n2_ n3_;(try clear hb);(try clear hb2);(try clear hk);(try clear hi)));try go_wp2_with (first|(go_at_call 22;(with_reducible refine (fragment_Check.calls _ _ t175 _ _ l1 t188 _ ?side1 ?side2 ?side3 ?side4 A15.out (Lx.Env.below HE.out (by repeat (first|(with_reducible first|exact HB.out|apply below_alloc|apply pw_below_drewN|apply below_drew1)|exact HB.out)))).mono ?_);(case side1=>repeat (first|exact (Kd.R_reads' HO179.out).2.2|(with_reducible refine Kd.C_alloc ?_ _)|(with_reducible refine Kd.C_drewN ?_ _)|(with_reducible refine Kd.C_drew ?_)));(case side2=>exact (Kd.R_reads' HO179.out).2.1);(case side3=>repeat (first|exact (Kd.C_below HR1.out HB.out)|(with_reducible refine Kd.C_alloc ?_ _)|(with_reducible refine Kd.C_drewN ?_ _)|(with_reducible refine Kd.C_drew ?_)));(case side4=>exact HC1.out);rintro e w26 ⟨rfl,hb⟩;have n0_:=Aside0.mk (Kd.R_below (by (with_reducible repeat (first|apply Kd.R_alloc|apply Kd.R_drewN|apply Kd.R_drew));exact HO179.out) hb);have n1_:=Aside0.mk (Kd.R_below (by (with_reducible repeat (first|apply Kd.R_alloc|apply Kd.R_drewN|apply Kd.R_drew));exact HO182.out) hb);have n2_:=Aside0.mk (Kd.R_below (by (with_reducible repeat (first|apply Kd.R_alloc|apply Kd.R_drewN|apply Kd.R_drew));exact HO187.out) hb);have n3_:=Aside0.mk (below_step (by repeat (first|(with_reducible first|exact HB.out|apply below_alloc|apply pw_below_drewN|apply below_drew1)|exact HB.out)) hb);clear HO179;clear HO182;clear HO187;clear HB;have HO179:=n0_;have HO182:=n1_;have HO187:=n2_;have HB:=n3_;clear n0_ n1_ n2_ n3_;(try clear hb);(try clear hb2);(try clear hk);(try clear hi))))
     go_meet
     case rel=>exact ⟨_,(true),(by first|rfl|(simp;done)|(simp [*];done)),H',⟨by first|omega|exact Nat.le_refl _⟩,⟨by (with_reducible repeat (first|apply Kd.R_alloc|apply Kd.R_drewN|apply Kd.R_drew));exact HO182.out⟩,⟨by repeat (first|(with_reducible first|exact HB.out|apply below_alloc|apply pw_below_drewN|apply below_drew1)|exact HB.out)⟩⟩
   ·rw [if_neg c16] at H
    have c16b0:(t188==0)=false:=beq_eq_false_iff_ne.mpr c16
    have c16b1:(t188 !=0)=true:=bne_iff_ne.mpr c16
    (first|rw [c16b0]|(simp only [i64_w,i32_w];rw [c16b0])|skip)
    have H':=Aside0.mk H
    clear H
    go_wp2_with (first|(go_at_call 22;(with_reducible refine (fragment_Check.calls _ _ t175 _ _ l1 t188 _ ?side1 ?side2 ?side3 ?side4 A15.out (Lx.Env.below HE.out (by repeat (first|(with_reducible first|exact HB.out|apply below_alloc|apply pw_below_drewN|apply below_drew1)|exact HB.out)))).mono ?_);(case side1=>repeat (first|exact (Kd.R_reads' HO179.out).2.2|(with_reducible refine Kd.C_alloc ?_ _)|(with_reducible refine Kd.C_drewN ?_ _)|(with_reducible refine Kd.C_drew ?_)));(case side2=>exact (Kd.R_reads' HO179.out).2.1);(case side3=>repeat (first|exact (Kd.C_below HR1.out HB.out)|(with_reducible refine Kd.C_alloc ?_ _)|(with_reducible refine Kd.C_drewN ?_ _)|(with_reducible refine Kd.C_drew ?_)));(case side4=>exact HC1.out);rintro e w27 ⟨rfl,hb⟩;have n0_:=Aside0.mk (Kd.R_below (by (with_reducible repeat (first|apply Kd.R_alloc|apply Kd.R_drewN|apply Kd.R_drew));exact HO179.out) hb);have n1_:=Aside0.mk (Kd.R_below (by (with_reducible repeat (first|apply Kd.R_alloc|apply Kd.R_drewN|apply Kd.R_drew));exact HO182.out) hb);have n2_:=Aside0.mk (Kd.R_below (by (with_reducible repeat (first|apply Kd.R_alloc|apply Kd.R_drewN|apply Kd.R_drew));exact HO187.out) hb);have n3_:=Aside0.mk (below_step (by repeat (first|(with_reducible first|exact HB.out|apply below_alloc|apply pw_below_drewN|apply below_drew1)|exact HB.out)) hb);clear HO179;clear HO182;clear HO187;clear HB;have HO179:=n0_;have HO182:=n1_;have HO187:=n2_;have HB:=n3_;clear n0_ n1_ n2_ n3_;(try clear hb);(try clear hb2);(try clear hk);(try clear hi)))
    repeat (go_quiet (first|(go_at_call 22;(with_reducible refine (fragment_Check.calls _ _ t175 _ _ l1 t188 _ ?side1 ?side2 ?side3 ?side4 A15.out (Lx.Env.below HE.out (by repeat (first|(with_reducible first|exact HB.out|apply below_alloc|apply pw_below_drewN|apply below_drew1)|exact HB.out)))).mono ?_);(case side1=>repeat (first|exact (Kd.R_reads' HO179.out).2.2|(with_reducible refine Kd.C_alloc ?_ _)|(with_reducible refine Kd.C_drewN ?_ _)|(with_reducible refine Kd.C_drew ?_)));(case side2=>exact (Kd.R_reads' HO179.out).2.1);(case side3=>repeat (first|exact (Kd.C_below HR1.out HB.out)|(with_reducible refine Kd.C_alloc ?_ _)|(with_reducible refine Kd.C_drewN ?_ _)|(with_reducible refine Kd.C_drew ?_)));(case side4=>exact HC1.out);rintro e w27 ⟨rfl,hb⟩;have n0_:=Aside0.mk (Kd.R_below (by (with_reducible repeat (first|apply Kd.R_alloc|apply Kd.R_drewN|apply Kd.R_drew));exact HO179.out) hb);have n1_:=Aside0.mk (Kd.R_below (by (with_reducible repeat (first|apply Kd.R_alloc|apply Kd.R_drewN|apply Kd.R_drew));exact HO182.out) hb);have n2_:=Aside0.mk (Kd.R_below (by (with_reducible repeat (first|apply Kd.R_alloc|apply Kd.R_drewN|apply Kd.R_drew));exact HO187.out) hb);have n3_:=Aside0.mk (below_step (by repeat (first|(with_reducible first|exact HB.out|apply below_alloc|apply pw_below_drewN|apply below_drew1)|exact HB.out)) hb);clear HO179;clear HO182;clear HO187;clear HB;have HO179:=n0_;have HO182:=n1_;have HO187:=n2_;have HB:=n3_;clear n0_ n1_ n2_ n3_;(try clear hb);(try clear hb2);(try clear hk);(try clear hi)));try go_wp2_with (first|(go_at_call 22;(with_reducible refine (fragment_Check.calls _ _ t175 _ _ l1 t188 _ ?side1 ?side2 ?side3 ?side4 A15.out (Lx.Env.below HE.out (by repeat (first|(with_reducible first|exact HB.out|apply below_alloc|apply pw_below_drewN|apply below_drew1)|exact HB.out)))).mono ?_);(case side1=>repeat (first|exact (Kd.R_reads' HO179.out).2.2|(with_reducible refine Kd.C_alloc ?_ _)|(with_reducible refine Kd.C_drewN ?_ _)|(with_reducible refine Kd.C_drew ?_)));(case side2=>exact (Kd.R_reads' HO179.out).2.1);(case side3=>repeat (first|exact (Kd.C_below HR1.out HB.out)|(with_reducible refine Kd.C_alloc ?_ _)|(with_reducible refine Kd.C_drewN ?_ _)|(with_reducible refine Kd.C_drew ?_)));(case side4=>exact HC1.out);rintro e w27 ⟨rfl,hb⟩;have n0_:=Aside0.mk (Kd.R_below (by (with_reducible repeat (first|apply Kd.R_alloc|apply Kd.R_drewN|apply Kd.R_drew));exact HO179.out) hb);have n1_:=Aside0.mk (Kd.R_below (by (with_reducible repeat (first|apply Kd.R_alloc|apply Kd.R_drewN|apply Kd.R_drew));exact HO182.out) hb);have n2_:=Aside0.mk (Kd.R_below (by (with_reducible repeat (first|apply Kd.R_alloc|apply Kd.R_drewN|apply Kd.R_drew));exact HO187.out) hb);have n3_:=Aside0.mk (below_step (by repeat (first|(with_reducible first|exact HB.out|apply below_alloc|apply pw_below_drewN|apply below_drew1)|exact HB.out)) hb);clear HO179;clear HO182;clear HO187;clear HB;have HO179:=n0_;have HO182:=n1_;have HO187:=n2_;have HB:=n3_;clear n0_ n1_ n2_ n3_;(try clear hb);(try clear hb2);(try clear hk);(try clear hi))))
    go_meet
    case rel=>exact ⟨_,(true),(by first|rfl|(simp;done)|(simp [*];done)),H',⟨by first|omega|exact Nat.le_refl _⟩,⟨by (with_reducible repeat (first|apply Kd.R_alloc|apply Kd.R_drewN|apply Kd.R_drew));exact HO182.out⟩,⟨by repeat (first|(with_reducible first|exact HB.out|apply below_alloc|apply pw_below_drewN|apply below_drew1)|exact HB.out)⟩⟩
  case rest=>
   clear HC8
   try clear c1
   try clear p2
   try clear c5
   try clear c5b0
   try clear c5b1
   try clear c6
   try clear c16
   try clear c16b0
   try clear c16b1
   try clear c17
   try clear c17b0
   try clear c17b1
   try clear c19
   obtain ⟨kq,x60_7,rfl,HA,HJ7,HO_9,HB⟩:=hcut
   cases kq with
   |zero=>exact absurd HA.out (by simp [skerrylaw02_FragBack.j0])
   |succ kj7=>
    have H:=HA.out
    clear HA
    simp only [skerrylaw02_FragBack.j0] at H
    by_cases c28:x60_7=true
    ·subst c28
     have H1:(some false)=some r:=by rw [if_pos rfl] at H;exact H
     clear H
     have H:=H1
     clear H1
     obtain rfl:=Option.some.inj H
     go_wp2
     repeat (go_quiet (fail);try go_wp2)
     go_ret
     exact ⟨by first|rfl|(simp [errW_none,errW_some]<;>rfl)|(simp [*,errW_none,errW_some]<;>rfl),by repeat (first|(with_reducible first|exact HB.out|apply below_alloc|apply pw_below_drewN|apply below_drew1)|exact HB.out)⟩
    ·replace c28:=Bool.eq_false_iff.mpr c28
     subst c28
     have H1:(skerrylaw02_FragBack.l0 kj7 l0 t174 t180 0 0)=some r:=by rw [if_neg (show¬(false=true) by decide)] at H;exact H
     clear H
     have H:=H1
     clear H1
     have H':=Aside0.mk H
     clear H
     go_wp2
     repeat (go_quiet (fail);try go_wp2)
     go_loopg [13,14] kj7 (fun kq v13 v14 w'=> ∃(x13_2:Int) (x14_2:Int),v13=.int .i64 x13_2∧v14=.int .i64 x14_2∧Aside0 (skerrylaw02_FragBack.l0 kq l0 t174 t180 x13_2 x14_2=some r)∧Aside0 (kq≤kj7)∧Aside0 (Kd.R k39 39 w' w.heap.size (fun _=>True) (.slice Ao13 t180.length co13) t180)∧Aside0 (Below w.heap.size w w'))
     case atStart=>exact ⟨(0),(0),(by first|rfl|(simp;done)|(simp [*];done)),(by first|rfl|(simp;done)|(simp [*];done)),H',⟨Nat.le_refl _⟩,⟨by (with_reducible repeat (first|apply Kd.R_alloc|apply Kd.R_drewN|apply Kd.R_drew));exact HO_9.out⟩,⟨by repeat (first|(with_reducible first|exact HB.out|apply below_alloc|apply pw_below_drewN|apply below_drew1)|exact HB.out)⟩⟩
     case round=>
      clear H'
      try clear c1
      try clear c2
      try clear p2
      try clear c5
      try clear c5b0
      try clear c5b1
      try clear c6
      try clear c16
      try clear c16b0
      try clear c16b1
      try clear c17
      try clear c17b0
      try clear c17b1
      try clear c19
      try clear c28
      try clear p2
      obtain ⟨x13_2,x14_2,rfl,rfl,HA,HK2,HO_9,HB⟩:=hrel
      cases gk with
      |zero=>exact absurd HA.out (by simp [skerrylaw02_FragBack.l0])
      |succ k2=>
       have H:=HA.out
       clear HA
       simp only [skerrylaw02_FragBack.l0] at H
       by_cases c29:x14_2<(t180.length:Int)
       ·rw [if_pos c29] at H
        have c29b0:decide (x14_2<(t180.length:Int))=true:=decide_eq_true c29
        clear c29
        have H':=Aside0.mk H
        clear H
        go_wp2
        repeat (go_quiet (fail);try go_wp2)
        go_loopg [13] k2 (fun kq v13 w'=> ∃(x13_3:Int),v13=.int .i64 x13_3∧Aside0 (skerrylaw02_FragBack.l1 kq l0 t174 t180 x13_3 x14_2=some r)∧Aside0 (kq≤k2)∧Aside0 (Kd.R k39 39 w' w.heap.size (fun _=>True) (.slice Ao13 t180.length co13) t180)∧Aside0 (Below w.heap.size w w'))
        case atStart=>exact ⟨(x13_2),(by first|rfl|(simp;done)|(simp [*];done)),H',⟨Nat.le_refl _⟩,⟨by (with_reducible repeat (first|apply Kd.R_alloc|apply Kd.R_drewN|apply Kd.R_drew));exact HO_9.out⟩,⟨by repeat (first|(with_reducible first|exact HB.out|apply below_alloc|apply pw_below_drewN|apply below_drew1)|exact HB.out)⟩⟩
        case round=>
         clear H'
         try clear c1
         try clear c2
         try clear p2
         try clear c5
         try clear c5b0
         try clear c5b1
         try clear c6
         try clear c16
         try clear c16b0
         try clear c16b1
         try clear c17
         try clear c17b0
         try clear c17b1
         try clear c19
         try clear c28
         try clear c29
         try clear c29b0
         try clear p2
         obtain ⟨x13_3,rfl,HA,HK3,HO_9,HB⟩:=hrel
         cases gk with
         |zero=>exact absurd HA.out (by simp [skerrylaw02_FragBack.l1])
         |succ k3=>
          have H:=HA.out
          clear HA
          simp only [skerrylaw02_FragBack.l1] at H
          have HC30:=Aside0.mk H
          clear H
          go_upto_region 13 with (fail)
          repeat (go_quiet (fail);go_upto_region 13 with (fail))
          go_cut [96] (fun v96 wc=> ∃(kq:Nat) (x96_29:Bool),v96=.bool x96_29∧Aside0 (skerrylaw02_FragBack.j3 kq l0 t174 t180 x13_3 x14_2 x96_29=some r)∧Aside0 (kq≤k3)∧Aside0 (Kd.R k39 39 wc w.heap.size (fun _=>True) (.slice Ao13 t180.length co13) t180)∧Aside0 (Below w.heap.size w wc))
          case first=>
           have H:=HC30.out
           clear HC30
           by_cases c31:x13_3<(l0.length:Int)
           ·rw [if_pos c31] at H
            have c31b0:decide (x13_3<(l0.length:Int))=true:=decide_eq_true c31
            clear c31
            (first|rw [c31b0]|(simp only [i64_w,i32_w];rw [c31b0])|skip)
            by_cases c32:0≤x13_3
            ·rw [if_pos c32] at H
             have c32b0:decide (0≤x13_3)=true:=decide_eq_true c32
             clear c32
             by_cases c33:0≤x14_2
             ·rw [if_pos c33] at H
              have c33b0:decide (0≤x14_2)=true:=decide_eq_true c33
              clear c33
              by_cases c34:x14_2<(t180.length:Int)
              ·rw [if_pos c34] at H
               have c34b0:decide (x14_2<(t180.length:Int))=true:=decide_eq_true c34
               clear c34
               by_cases c35:((rd_T39 l0 x13_3).f0)=((rd_T39 t180 x14_2).f0)
               ·rw [if_pos c35] at H
                have c35b0:(((rd_T39 l0 x13_3).f0)==((rd_T39 t180 x14_2).f0))=true:=beq_iff_eq.mpr c35
                have c35b1:(((rd_T39 l0 x13_3).f0) !=((rd_T39 t180 x14_2).f0))=false:=bne_eq_false_iff_eq.mpr c35
                clear c35
                have H':=Aside0.mk H
                clear H
                have p190:0≤(x13_3:Int):=of_decide_eq_true (by first|(with_reducible assumption)|assumption)
                have q190:x13_3<(l0.length:Int):=of_decide_eq_true (by first|(with_reducible assumption)|assumption)
                obtain ⟨ad190,e190,hx190_0,hx190_1,hx190_2,hx190_3,hx190_4⟩:=at_T39 HR0.out x13_3 p190 q190
                cases e190
                replace hx190_0:=(HB.out.cell (World.block_lt_of_cell? w _ hx190_0)).trans hx190_0
                replace hx190_1:=(HB.out.cell (World.block_lt_of_cell? w _ hx190_1)).trans hx190_1
                replace hx190_2:=(HB.out.cell (World.block_lt_of_cell? w _ hx190_2)).trans hx190_2
                replace hx190_3:=(HB.out.cell (World.block_lt_of_cell? w _ hx190_3)).trans hx190_3
                replace hx190_4:=(HB.out.cell (World.block_lt_of_cell? w _ hx190_4)).trans hx190_4
                replace p190:=eq_true p190
                replace q190:=eq_true q190
                have p191:0≤(x14_2:Int):=of_decide_eq_true (by first|(with_reducible assumption)|assumption)
                have q191:x14_2<(t180.length:Int):=of_decide_eq_true (by first|(with_reducible assumption)|assumption)
                obtain ⟨ad191,e191,hx191_0,hx191_1,hx191_2,hx191_3,hx191_4⟩:=at_T39 (Kd.R_reads' HO_9.out).2.2 x14_2 p191 q191
                cases e191
                replace p191:=eq_true p191
                replace q191:=eq_true q191
                have p192:0≤(x13_3:Int):=of_decide_eq_true (by first|(with_reducible assumption)|assumption)
                have q192:x13_3<(l0.length:Int):=of_decide_eq_true (by first|(with_reducible assumption)|assumption)
                obtain ⟨ad192,e192,hx192_0,hx192_1,hx192_2,hx192_3,hx192_4⟩:=at_T39 HR0.out x13_3 p192 q192
                obtain rfl:ad190=ad192:=(by injection e192)
                replace hx192_0:=(HB.out.cell (World.block_lt_of_cell? w _ hx192_0)).trans hx192_0
                replace hx192_1:=(HB.out.cell (World.block_lt_of_cell? w _ hx192_1)).trans hx192_1
                replace hx192_2:=(HB.out.cell (World.block_lt_of_cell? w _ hx192_2)).trans hx192_2
                replace hx192_3:=(HB.out.cell (World.block_lt_of_cell? w _ hx192_3)).trans hx192_3
                replace hx192_4:=(HB.out.cell (World.block_lt_of_cell? w _ hx192_4)).trans hx192_4
                replace p192:=eq_true p192
                replace q192:=eq_true q192
                have p193:0≤(x14_2:Int):=of_decide_eq_true (by first|(with_reducible assumption)|assumption)
                have q193:x14_2<(t180.length:Int):=of_decide_eq_true (by first|(with_reducible assumption)|assumption)
                obtain ⟨ad193,e193,hx193_0,hx193_1,hx193_2,hx193_3,hx193_4⟩:=at_T39 (Kd.R_reads' HO_9.out).2.2 x14_2 p193 q193
                obtain rfl:ad191=ad193:=(by injection e193)
                replace p193:=eq_true p193
                replace q193:=eq_true q193
                go_wp2
                repeat (go_quiet (fail);try go_wp2)
                go_meet
                case rel=>exact ⟨_,((((rd_T39 l0 x13_3).f2).toList !=((rd_T39 t180 x14_2).f2).toList)),(by first|rfl|(simp;done)|(simp [*];done)),H',⟨by have:=HJ7.out;have:=HK2.out;have:=HK3.out;first|omega|exact Nat.le_refl _⟩,⟨by (with_reducible repeat (first|apply Kd.R_alloc|apply Kd.R_drewN|apply Kd.R_drew));exact HO_9.out⟩,⟨by repeat (first|(with_reducible first|exact HB.out|apply below_alloc|apply pw_below_drewN|apply below_drew1)|exact HB.out)⟩⟩
               ·rw [if_neg c35] at H
                have c35b0:(((rd_T39 l0 x13_3).f0)==((rd_T39 t180 x14_2).f0))=false:=beq_eq_false_iff_ne.mpr c35
                have c35b1:(((rd_T39 l0 x13_3).f0) !=((rd_T39 t180 x14_2).f0))=true:=bne_iff_ne.mpr c35
                have H':=Aside0.mk H
                clear H
                have p190:0≤(x13_3:Int):=of_decide_eq_true (by first|(with_reducible assumption)|assumption)
                have q190:x13_3<(l0.length:Int):=of_decide_eq_true (by first|(with_reducible assumption)|assumption)
                obtain ⟨ad190,e190,hx190_0,hx190_1,hx190_2,hx190_3,hx190_4⟩:=at_T39 HR0.out x13_3 p190 q190
                cases e190
                replace hx190_0:=(HB.out.cell (World.block_lt_of_cell? w _ hx190_0)).trans hx190_0
                replace hx190_1:=(HB.out.cell (World.block_lt_of_cell? w _ hx190_1)).trans hx190_1
                replace hx190_2:=(HB.out.cell (World.block_lt_of_cell? w _ hx190_2)).trans hx190_2
                replace hx190_3:=(HB.out.cell (World.block_lt_of_cell? w _ hx190_3)).trans hx190_3
                replace hx190_4:=(HB.out.cell (World.block_lt_of_cell? w _ hx190_4)).trans hx190_4
                replace p190:=eq_true p190
                replace q190:=eq_true q190
                have p191:0≤(x14_2:Int):=of_decide_eq_true (by first|(with_reducible assumption)|assumption)
                have q191:x14_2<(t180.length:Int):=of_decide_eq_true (by first|(with_reducible assumption)|assumption)
                obtain ⟨ad191,e191,hx191_0,hx191_1,hx191_2,hx191_3,hx191_4⟩:=at_T39 (Kd.R_reads' HO_9.out).2.2 x14_2 p191 q191
                cases e191
                replace p191:=eq_true p191
                replace q191:=eq_true q191
                go_wp2
                repeat (go_quiet (fail);try go_wp2)
                go_meet
                case rel=>exact ⟨_,(true),(by first|rfl|(simp;done)|(simp [*];done)),H',⟨by have:=HJ7.out;have:=HK2.out;have:=HK3.out;first|omega|exact Nat.le_refl _⟩,⟨by (with_reducible repeat (first|apply Kd.R_alloc|apply Kd.R_drewN|apply Kd.R_drew));exact HO_9.out⟩,⟨by repeat (first|(with_reducible first|exact HB.out|apply below_alloc|apply pw_below_drewN|apply below_drew1)|exact HB.out)⟩⟩
              ·rw [if_neg c34] at H
               exact absurd H (by simp)
             ·rw [if_neg c33] at H
              exact absurd H (by simp)
            ·rw [if_neg c32] at H
             exact absurd H (by simp)
           ·rw [if_neg c31] at H
            have c31b0:decide (x13_3<(l0.length:Int))=false:=decide_eq_false c31
            clear c31
            (first|rw [c31b0]|(simp only [i64_w,i32_w];rw [c31b0])|skip)
            have H':=Aside0.mk H
            clear H
            go_wp2
            repeat (go_quiet (fail);try go_wp2)
            go_meet
            case rel=>exact ⟨_,(false),(by first|rfl|(simp;done)|(simp [*];done)),H',⟨by have:=HJ7.out;have:=HK2.out;have:=HK3.out;first|omega|exact Nat.le_refl _⟩,⟨by (with_reducible repeat (first|apply Kd.R_alloc|apply Kd.R_drewN|apply Kd.R_drew));exact HO_9.out⟩,⟨by repeat (first|(with_reducible first|exact HB.out|apply below_alloc|apply pw_below_drewN|apply below_drew1)|exact HB.out)⟩⟩
          case rest=>
           clear HC30
           try clear c1
           try clear p1
           try clear q1
           try clear hx1
           try clear c2
           try clear p2
           try clear c3
           try clear c5
           try clear c5b0
           try clear c5b1
           try clear c6
           try clear c16
           try clear c16b0
           try clear c16b1
           try clear c17
           try clear c17b0
           try clear c17b1
           try clear c19
           try clear p19
           try clear q19
           try clear hx19
           try clear c28
           try clear c29
           try clear c29b0
           try clear c31
           try clear c31b0
           try clear c32
           try clear c32b0
           try clear c33
           try clear c33b0
           try clear c34
           try clear c34b0
           try clear c35
           try clear c35b0
           try clear c35b1
           try clear hx190_0
           try clear hx190_1
           try clear hx190_2
           try clear hx190_3
           try clear hx190_4
           try clear hx191_0
           try clear hx191_1
           try clear hx191_2
           try clear hx191_3
           try clear hx191_4
           try clear hx192_0
           try clear hx192_1
           try clear hx192_2
           try clear hx192_3
           try clear hx192_4
           try clear hx193_0
           try clear hx193_1
           try clear hx193_2
           try clear hx193_3
           try clear hx193_4
           try clear p190
           try clear p191
           try clear p192
           try clear p193
           try clear p2
           try clear q190
           try clear q191
           try clear q192
           try clear q193
           obtain ⟨kq,x96_29,rfl,HA,HJ29,HO_9,HB⟩:=hcut
           cases kq with
           |zero=>exact absurd HA.out (by simp [skerrylaw02_FragBack.j3])
           |succ kj29=>
            have H:=HA.out
            clear HA
            simp only [skerrylaw02_FragBack.j3] at H
            by_cases c36:x96_29=true
            ·subst c36
             have H1:(if 0≤x13_3 then (if x13_3<(l0.length:Int) then (if ((rd_T39 l0 x13_3).f0)=1 then (skerrylaw02_FragBack.l1 kj29 l0 t174 t180 (wrap64 (x13_3+1)) x14_2) else (some false)) else (none)) else (none))=some r:=by rw [if_pos rfl] at H;exact H
             clear H
             have H:=H1
             clear H1
             by_cases c37:0≤x13_3
             ·rw [if_pos c37] at H
              have c37b0:decide (0≤x13_3)=true:=decide_eq_true c37
              clear c37
              by_cases c38:x13_3<(l0.length:Int)
              ·rw [if_pos c38] at H
               have c38b0:decide (x13_3<(l0.length:Int))=true:=decide_eq_true c38
               clear c38
               by_cases c39:((rd_T39 l0 x13_3).f0)=1
               ·rw [if_pos c39] at H
                have c39b0:(((rd_T39 l0 x13_3).f0)==1)=true:=beq_iff_eq.mpr c39
                have c39b1:(((rd_T39 l0 x13_3).f0) !=1)=false:=bne_eq_false_iff_eq.mpr c39
                clear c39
                have H':=Aside0.mk H
                clear H
                have p194:0≤(x13_3:Int):=of_decide_eq_true (by first|(with_reducible assumption)|assumption)
                have q194:x13_3<(l0.length:Int):=of_decide_eq_true (by first|(with_reducible assumption)|assumption)
                obtain ⟨ad194,e194,hx194_0,hx194_1,hx194_2,hx194_3,hx194_4⟩:=at_T39 HR0.out x13_3 p194 q194
                cases e194
                replace hx194_0:=(HB.out.cell (World.block_lt_of_cell? w _ hx194_0)).trans hx194_0
                replace hx194_1:=(HB.out.cell (World.block_lt_of_cell? w _ hx194_1)).trans hx194_1
                replace hx194_2:=(HB.out.cell (World.block_lt_of_cell? w _ hx194_2)).trans hx194_2
                replace hx194_3:=(HB.out.cell (World.block_lt_of_cell? w _ hx194_3)).trans hx194_3
                replace hx194_4:=(HB.out.cell (World.block_lt_of_cell? w _ hx194_4)).trans hx194_4
                replace p194:=eq_true p194
                replace q194:=eq_true q194
                go_wp2
                repeat (go_quiet (fail);try go_wp2)
                go_roundg kj29
                case measure=>have:=HJ7.out;have:=HK2.out;have:=HK3.out;have:=HJ29.out;omega
                case rel=>exact ⟨(wrap64 (x13_3+1)),(by first|rfl|(simp;done)|(simp [*];done)),H',⟨by have:=HJ7.out;have:=HK2.out;have:=HK3.out;have:=HJ29.out;omega⟩,⟨by (with_reducible repeat (first|apply Kd.R_alloc|apply Kd.R_drewN|apply Kd.R_drew));exact HO_9.out⟩,⟨by repeat (first|(with_reducible first|exact HB.out|apply below_alloc|apply pw_below_drewN|apply below_drew1)|exact HB.out)⟩⟩
               ·rw [if_neg c39] at H
                have c39b0:(((rd_T39 l0 x13_3).f0)==1)=false:=beq_eq_false_iff_ne.mpr c39
                have c39b1:(((rd_T39 l0 x13_3).f0) !=1)=true:=bne_iff_ne.mpr c39
                obtain rfl:=Option.some.inj H
                have p194:0≤(x13_3:Int):=of_decide_eq_true (by first|(with_reducible assumption)|assumption)
                have q194:x13_3<(l0.length:Int):=of_decide_eq_true (by first|(with_reducible assumption)|assumption)
                obtain ⟨ad194,e194,hx194_0,hx194_1,hx194_2,hx194_3,hx194_4⟩:=at_T39 HR0.out x13_3 p194 q194
                cases e194
                replace hx194_0:=(HB.out.cell (World.block_lt_of_cell? w _ hx194_0)).trans hx194_0
                replace hx194_1:=(HB.out.cell (World.block_lt_of_cell? w _ hx194_1)).trans hx194_1
                replace hx194_2:=(HB.out.cell (World.block_lt_of_cell? w _ hx194_2)).trans hx194_2
                replace hx194_3:=(HB.out.cell (World.block_lt_of_cell? w _ hx194_3)).trans hx194_3
                replace hx194_4:=(HB.out.cell (World.block_lt_of_cell? w _ hx194_4)).trans hx194_4
                replace p194:=eq_true p194
                replace q194:=eq_true q194
                go_wp2
                repeat (go_quiet (fail);try go_wp2)
                go_ret
                exact ⟨by first|rfl|(simp [errW_none,errW_some]<;>rfl)|(simp [*,errW_none,errW_some]<;>rfl),by repeat (first|(with_reducible first|exact HB.out|apply below_alloc|apply pw_below_drewN|apply below_drew1)|exact HB.out)⟩
              ·rw [if_neg c38] at H
               exact absurd H (by simp)
             ·rw [if_neg c37] at H
              exact absurd H (by simp)
            ·replace c36:=Bool.eq_false_iff.mpr c36
             subst c36
             have H1:(skerrylaw02_FragBack.l0 kj29 l0 t174 t180 (wrap64 (x13_3+1)) (wrap64 (x14_2+1)))=some r:=by rw [if_neg (show¬(false=true) by decide)] at H;exact H
             clear H
             have H:=H1
             clear H1
             have H':=Aside0.mk H
             clear H
             go_wp2
             repeat (go_quiet (fail);try go_wp2)
             go_roundg kj29
             case measure=>have:=HJ7.out;have:=HK2.out;have:=HK3.out;have:=HJ29.out;omega
             case rel=>exact ⟨(wrap64 (x13_3+1)),(wrap64 (x14_2+1)),(by first|rfl|(simp;done)|(simp [*];done)),(by first|rfl|(simp;done)|(simp [*];done)),H',⟨by have:=HJ7.out;have:=HK2.out;have:=HK3.out;have:=HJ29.out;omega⟩,⟨by (with_reducible repeat (first|apply Kd.R_alloc|apply Kd.R_drewN|apply Kd.R_drew));exact HO_9.out⟩,⟨by repeat (first|(with_reducible first|exact HB.out|apply below_alloc|apply pw_below_drewN|apply below_drew1)|exact HB.out)⟩⟩
       ·rw [if_neg c29] at H
        have c29b0:decide (x14_2<(t180.length:Int))=false:=decide_eq_false c29
        clear c29
        by_cases c40:t174=true
        ·subst c40
         have H1:(some (decide (x13_2≤(l0.length:Int))))=some r:=by rw [if_pos rfl] at H;exact H
         clear H
         have H:=H1
         clear H1
         obtain rfl:=Option.some.inj H
         go_wp2
         repeat (go_quiet (fail);try go_wp2)
         go_ret
         exact ⟨by first|rfl|(simp [errW_none,errW_some]<;>rfl)|(simp [*,errW_none,errW_some]<;>rfl),by repeat (first|(with_reducible first|exact HB.out|apply below_alloc|apply pw_below_drewN|apply below_drew1)|exact HB.out)⟩
        ·replace c40:=Bool.eq_false_iff.mpr c40
         subst c40
         have H1:(some false)=some r:=by rw [if_neg (show¬(false=true) by decide)] at H;exact H
         clear H
         have H:=H1
         clear H1
         obtain rfl:=Option.some.inj H
         go_wp2
         repeat (go_quiet (fail);try go_wp2)
         go_ret
         exact ⟨by first|rfl|(simp [errW_none,errW_some]<;>rfl)|(simp [*,errW_none,errW_some]<;>rfl),by repeat (first|(with_reducible first|exact HB.out|apply below_alloc|apply pw_below_drewN|apply below_drew1)|exact HB.out)⟩
 ·rw [if_neg c5] at H
  have c5b0:(t177==0)=false:=beq_eq_false_iff_ne.mpr c5
  have c5b1:(t177 !=0)=true:=bne_iff_ne.mpr c5
  by_cases c41:t174=true
  ·subst c41
   have H1:(some ((t175.length:Int)==0))=some r:=by rw [if_pos rfl] at H;exact H
   clear H
   have H:=H1
   clear H1
   obtain rfl:=Option.some.inj H
   go_enter Tryz.func6,Tryz.ntmps6
   go_wp2_with (first|(go_at_call 14;(with_reducible refine (skerrylaw02_sane.calls  true _ A3.out (Lx.Env.below HE.out (by repeat (first|(with_reducible first|exact HB.out|apply below_alloc|apply pw_below_drewN|apply below_drew1)|exact HB.out)))).mono ?_);rintro e w42 ⟨rfl,hb⟩;have n0_:=Aside0.mk (below_step (by repeat (first|(with_reducible first|exact HB.out|apply below_alloc|apply pw_below_drewN|apply below_drew1)|exact HB.out)) hb);clear HB;have HB:=n0_;clear n0_;(try clear hb);(try clear hb2);(try clear hk);(try clear hi))|(go_at_call 15;(with_reducible refine (fragment_Read.calls _ _ l0 _ _ l1 t175 t176 t177 _ ?side1 ?side2 ?side3 ?side4 A4.out (Lx.Env.below HE.out (by repeat (first|(with_reducible first|exact HB.out|apply below_alloc|apply pw_below_drewN|apply below_drew1)|exact HB.out)))).mono ?_);(case side1=>repeat (first|exact (Kd.C_below HR0.out HB.out)|(with_reducible refine Kd.C_alloc ?_ _)|(with_reducible refine Kd.C_drewN ?_ _)|(with_reducible refine Kd.C_drew ?_)));(case side2=>exact HC0.out);(case side3=>repeat (first|exact (Kd.C_below HR1.out HB.out)|(with_reducible refine Kd.C_alloc ?_ _)|(with_reducible refine Kd.C_drewN ?_ _)|(with_reducible refine Kd.C_drew ?_)));(case side4=>exact HC1.out);rintro e w43 ⟨v178,rfl,ho0,hb⟩;have n0_:=Aside0.mk (Kd.R_lower ho0 (below_size (by repeat (first|(with_reducible first|exact HB.out|apply below_alloc|apply pw_below_drewN|apply below_drew1)|exact HB.out))));have n1_:=Aside0.mk (below_step (by repeat (first|(with_reducible first|exact HB.out|apply below_alloc|apply pw_below_drewN|apply below_drew1)|exact HB.out)) hb);clear HB;have HO179:=n0_;have HB:=n1_;clear n0_ n1_;(try clear hb);(try clear hb2);(try clear hk);(try clear hi);(try clear ho0);obtain ⟨Ao44,co44,eo44⟩:=Kd.R_slice HO179.out;subst eo44))
   repeat (go_quiet (first|(go_at_call 14;(with_reducible refine (skerrylaw02_sane.calls  true _ A3.out (Lx.Env.below HE.out (by repeat (first|(with_reducible first|exact HB.out|apply below_alloc|apply pw_below_drewN|apply below_drew1)|exact HB.out)))).mono ?_);rintro e w42 ⟨rfl,hb⟩;have n0_:=Aside0.mk (below_step (by repeat (first|(with_reducible first|exact HB.out|apply below_alloc|apply pw_below_drewN|apply below_drew1)|exact HB.out)) hb);clear HB;have HB:=n0_;clear n0_;(try clear hb);(try clear hb2);(try clear hk);(try clear hi))|(go_at_call 15;(with_reducible refine (fragment_Read.calls _ _ l0 _ _ l1 t175 t176 t177 _ ?side1 ?side2 ?side3 ?side4 A4.out (Lx.Env.below HE.out (by repeat (first|(with_reducible first|exact HB.out|apply below_alloc|apply pw_below_drewN|apply below_drew1)|exact HB.out)))).mono ?_);(case side1=>repeat (first|exact (Kd.C_below HR0.out HB.out)|(with_reducible refine Kd.C_alloc ?_ _)|(with_reducible refine Kd.C_drewN ?_ _)|(with_reducible refine Kd.C_drew ?_)));(case side2=>exact HC0.out);(case side3=>repeat (first|exact (Kd.C_below HR1.out HB.out)|(with_reducible refine Kd.C_alloc ?_ _)|(with_reducible refine Kd.C_drewN ?_ _)|(with_reducible refine Kd.C_drew ?_)));(case side4=>exact HC1.out);rintro e w43 ⟨v178,rfl,ho0,hb⟩;have n0_:=Aside0.mk (Kd.R_lower ho0 (below_size (by repeat (first|(with_reducible first|exact HB.out|apply below_alloc|apply pw_below_drewN|apply below_drew1)|exact HB.out))));have n1_:=Aside0.mk (below_step (by repeat (first|(with_reducible first|exact HB.out|apply below_alloc|apply pw_below_drewN|apply below_drew1)|exact HB.out)) hb);clear HB;have HO179:=n0_;have HB:=n1_;clear n0_ n1_;(try clear hb);(try clear hb2);(try clear hk);(try clear hi);(try clear ho0);obtain ⟨Ao44,co44,eo44⟩:=Kd.R_slice HO179.out;subst eo44));try go_wp2_with (first|(go_at_call 14;(with_reducible refine (skerrylaw02_sane.calls  true _ A3.out (Lx.Env.below HE.out (by repeat (first|(with_reducible first|exact HB.out|apply below_alloc|apply pw_below_drewN|apply below_drew1)|exact HB.out)))).mono ?_);rintro e w42 ⟨rfl,hb⟩;have n0_:=Aside0.mk (below_step (by repeat (first|(with_reducible first|exact HB.out|apply below_alloc|apply pw_below_drewN|apply below_drew1)|exact HB.out)) hb);clear HB;have HB:=n0_;clear n0_;(try clear hb);(try clear hb2);(try clear hk);(try clear hi))|(go_at_call 15;(with_reducible refine (fragment_Read.calls _ _ l0 _ _ l1 t175 t176 t177 _ ?side1 ?side2 ?side3 ?side4 A4.out (Lx.Env.below HE.out (by repeat (first|(with_reducible first|exact HB.out|apply below_alloc|apply pw_below_drewN|apply below_drew1)|exact HB.out)))).mono ?_);(case side1=>repeat (first|exact (Kd.C_below HR0.out HB.out)|(with_reducible refine Kd.C_alloc ?_ _)|(with_reducible refine Kd.C_drewN ?_ _)|(with_reducible refine Kd.C_drew ?_)));(case side2=>exact HC0.out);(case side3=>repeat (first|exact (Kd.C_below HR1.out HB.out)|(with_reducible refine Kd.C_alloc ?_ _)|(with_reducible refine Kd.C_drewN ?_ _)|(with_reducible refine Kd.C_drew ?_)));(case side4=>exact HC1.out);rintro e w43 ⟨v178,rfl,ho0,hb⟩;have n0_:=Aside0.mk (Kd.R_lower ho0 (below_size (by repeat (first|(with_reducible first|exact HB.out|apply below_alloc|apply pw_below_drewN|apply below_drew1)|exact HB.out))));have n1_:=Aside0.mk (below_step (by repeat (first|(with_reducible first|exact HB.out|apply below_alloc|apply pw_below_drewN|apply below_drew1)|exact HB.out)) hb);clear HB;have HO179:=n0_;have HB:=n1_;clear n0_ n1_;(try clear hb);(try clear hb2);(try clear hk);(try clear hi);(try clear ho0);obtain ⟨Ao44,co44,eo44⟩:=Kd.R_slice HO179.out;subst eo44)))
   go_ret
   exact ⟨by first|rfl|(simp [errW_none,errW_some]<;>rfl)|(simp [*,errW_none,errW_some]<;>rfl),by repeat (first|(with_reducible first|exact HB.out|apply below_alloc|apply pw_below_drewN|apply below_drew1)|exact HB.out)⟩
  ·replace c41:=Bool.eq_false_iff.mpr c41
   subst c41
   have H1:(some false)=some r:=by rw [if_neg (show¬(false=true) by decide)] at H;exact H
   clear H
   have H:=H1
   clear H1
   obtain rfl:=Option.some.inj H
   go_enter Tryz.func6,Tryz.ntmps6
   go_wp2_with (first|(go_at_call 14;(with_reducible refine (skerrylaw02_sane.calls  false _ A3.out (Lx.Env.below HE.out (by repeat (first|(with_reducible first|exact HB.out|apply below_alloc|apply pw_below_drewN|apply below_drew1)|exact HB.out)))).mono ?_);rintro e w45 ⟨rfl,hb⟩;have n0_:=Aside0.mk (below_step (by repeat (first|(with_reducible first|exact HB.out|apply below_alloc|apply pw_below_drewN|apply below_drew1)|exact HB.out)) hb);clear HB;have HB:=n0_;clear n0_;(try clear hb);(try clear hb2);(try clear hk);(try clear hi))|(go_at_call 15;(with_reducible refine (fragment_Read.calls _ _ l0 _ _ l1 t175 t176 t177 _ ?side1 ?side2 ?side3 ?side4 A4.out (Lx.Env.below HE.out (by repeat (first|(with_reducible first|exact HB.out|apply below_alloc|apply pw_below_drewN|apply below_drew1)|exact HB.out)))).mono ?_);(case side1=>repeat (first|exact (Kd.C_below HR0.out HB.out)|(with_reducible refine Kd.C_alloc ?_ _)|(with_reducible refine Kd.C_drewN ?_ _)|(with_reducible refine Kd.C_drew ?_)));(case side2=>exact HC0.out);(case side3=>repeat (first|exact (Kd.C_below HR1.out HB.out)|(with_reducible refine Kd.C_alloc ?_ _)|(with_reducible refine Kd.C_drewN ?_ _)|(with_reducible refine Kd.C_drew ?_)));(case side4=>exact HC1.out);rintro e w46 ⟨v178,rfl,ho0,hb⟩;have n0_:=Aside0.mk (Kd.R_lower ho0 (below_size (by repeat (first|(with_reducible first|exact HB.out|apply below_alloc|apply pw_below_drewN|apply below_drew1)|exact HB.out))));have n1_:=Aside0.mk (below_step (by repeat (first|(with_reducible first|exact HB.out|apply below_alloc|apply pw_below_drewN|apply below_drew1)|exact HB.out)) hb);clear HB;have HO179:=n0_;have HB:=n1_;clear n0_ n1_;(try clear hb);(try clear hb2);(try clear hk);(try clear hi);(try clear ho0)))
   repeat (go_quiet (first|(go_at_call 14;(with_reducible refine (skerrylaw02_sane.calls  false _ A3.out (Lx.Env.below HE.out (by repeat (first|(with_reducible first|exact HB.out|apply below_alloc|apply pw_below_drewN|apply below_drew1)|exact HB.out)))).mono ?_);rintro e w45 ⟨rfl,hb⟩;have n0_:=Aside0.mk (below_step (by repeat (first|(with_reducible first|exact HB.out|apply below_alloc|apply pw_below_drewN|apply below_drew1)|exact HB.out)) hb);clear HB;have HB:=n0_;clear n0_;(try clear hb);(try clear hb2);(try clear hk);(try clear hi))|(go_at_call 15;(with_reducible refine (fragment_Read.calls _ _ l0 _ _ l1 t175 t176 t177 _ ?side1 ?side2 ?side3 ?side4 A4.out (Lx.Env.below HE.out (by repeat (first|(with_reducible first|exact HB.out|apply below_alloc|apply pw_below_drewN|apply below_drew1)|exact HB.out)))).mono ?_);(case side1=>repeat (first|exact (Kd.C_below HR0.out HB.out)|(with_reducible refine Kd.C_alloc ?_ _)|(with_reducible refine Kd.C_drewN ?_ _)|(with_reducible refine Kd.C_drew ?_)));(case side2=>exact HC0.out);(case side3=>repeat (first|exact (Kd.C_below HR1.out HB.out)|(with_reducible refine Kd.C_alloc ?_ _)|(with_reducible refine Kd.C_drewN ?_ _)|(with_reducible refine Kd.C_drew ?_)));(case side4=>exact HC1.out);rintro e w46 ⟨v178,rfl,ho0,hb⟩;have n0_:=Aside0.mk (Kd.R_lower ho0 (below_size (by repeat (first|(with_reducible first|exact HB.out|apply below_alloc|apply pw_below_drewN|apply below_drew1)|exact HB.out))));have n1_:=Aside0.mk (below_step (by repeat (first|(with_reducible first|exact HB.out|apply below_alloc|apply pw_below_drewN|apply below_drew1)|exact HB.out)) hb);clear HB;have HO179:=n0_;have HB:=n1_;clear n0_ n1_;(try clear hb);(try clear hb2);(try clear hk);(try clear hi);(try clear ho0)));try go_wp2_with (first|(go_at_call 14;(with_reducible refine (skerrylaw02_sane.calls  false _ A3.out (Lx.Env.below HE.out (by repeat (first|(with_reducible first|exact HB.out|apply below_alloc|apply pw_below_drewN|apply below_drew1)|exact HB.out)))).mono ?_);rintro e w45 ⟨rfl,hb⟩;have n0_:=Aside0.mk (below_step (by repeat (first|(with_reducible first|exact HB.out|apply below_alloc|apply pw_below_drewN|apply below_drew1)|exact HB.out)) hb);clear HB;have HB:=n0_;clear n0_;(try clear hb);(try clear hb2);(try clear hk);(try clear hi))|(go_at_call 15;(with_reducible refine (fragment_Read.calls _ _ l0 _ _ l1 t175 t176 t177 _ ?side1 ?side2 ?side3 ?side4 A4.out (Lx.Env.below HE.out (by repeat (first|(with_reducible first|exact HB.out|apply below_alloc|apply pw_below_drewN|apply below_drew1)|exact HB.out)))).mono ?_);(case side1=>repeat (first|exact (Kd.C_below HR0.out HB.out)|(with_reducible refine Kd.C_alloc ?_ _)|(with_reducible refine Kd.C_drewN ?_ _)|(with_reducible refine Kd.C_drew ?_)));(case side2=>exact HC0.out);(case side3=>repeat (first|exact (Kd.C_below HR1.out HB.out)|(with_reducible refine Kd.C_alloc ?_ _)|(with_reducible refine Kd.C_drewN ?_ _)|(with_reducible refine Kd.C_drew ?_)));(case side4=>exact HC1.out);rintro e w46 ⟨v178,rfl,ho0,hb⟩;have n0_:=Aside0.mk (Kd.R_lower ho0 (below_size (by repeat (first|(with_reducible first|exact HB.out|apply below_alloc|apply pw_below_drewN|apply below_drew1)|exact HB.out))));have n1_:=Aside0.mk (below_step (by repeat (first|(with_reducible first|exact HB.out|apply below_alloc|apply pw_below_drewN|apply below_drew1)|exact HB.out)) hb);clear HB;have HO179:=n0_;have HB:=n1_;clear n0_ n1_;(try clear hb);(try clear hb2);(try clear hk);(try clear hi);(try clear ho0))))
   go_ret
   exact ⟨by first|rfl|(simp [errW_none,errW_some]<;>rfl)|(simp [*,errW_none,errW_some]<;>rfl),by repeat (first|(with_reducible first|exact HB.out|apply below_alloc|apply pw_below_drewN|apply below_drew1)|exact HB.out)⟩

end Go.Proofs.YtipnlgmeonepfaaGreatDoor.PFa
