-- PRINTED by print.py (a twelfth state) out of the translation. Not trusted: Lean checks it.
import Derived.Test.YtipnlgmeonepfaaGreatDoorPFax0
namespace Go.Proofs.YtipnlgmeonepfaaGreatDoor.PFa
open Go.RowKit Go.Proofs.YtipnlgmeonepfaaGreatDoorW.PrintWords Go.Proofs.YtipnlgmeonepfaaGreatDoorW.PrintLast Go.Proofs.YtipnlgmeonepfaaGreatDoorW.PrintMore
attribute [local go_sem] max2_int min2_int max_two min_two max_three min_three max_four min_four   -- for this text's walks alone
set_option linter.unusedVariables false
set_option linter.unusedSimpArgs false

/-! ### skerryref01_SameStrings: function 17 -/
mutual
def skerryref01_SameStrings.l0:Nat→List ByteArray→List ByteArray→Bool→Int→Option (Bool)
 |0,_,_,_,_=>none
 |k+1,x0,x1,x5,x6=>if x5=true then (skerryref01_SameStrings.j1 k x0 x1 x5 x6 (decide (x6<(x0.length:Int)))) else (skerryref01_SameStrings.j1 k x0 x1 x5 x6 false)
def skerryref01_SameStrings.j1:Nat→List ByteArray→List ByteArray→Bool→Int→Bool→Option (Bool)
 |0,_,_,_,_,_=>none
 |k+1,x0,x1,x5,x6,x18=>if x18=true then (if 0≤x6 then (if x6<(x0.length:Int) then (if x6<(x1.length:Int) then (skerryref01_SameStrings.l0 k x0 x1 ((rdOf ByteArray.empty x0 x6).toList==(rdOf ByteArray.empty x1 x6).toList) (wrap64 (x6+1))) else (none)) else (none)) else (none)) else (some x5)
end
def skerryref01_SameStrings.f (k:Nat) (l0:List ByteArray) (l1:List ByteArray):Option (Bool):=skerryref01_SameStrings.l0 k l0 l1 ((l0.length:Int)==(l1.length:Int)) 0
set_option maxHeartbeats 8000000 in
set_option maxRecDepth 100000 in
theorem skerryref01_SameStrings.calls (k:Nat) (A0:Option Addr) (c0:Nat) (l0:List ByteArray) (A1:Option Addr) (c1:Nat) (l1:List ByteArray) (r:Bool) (w:World) (hr0:Kd.C Kd.string w A0 l0.length l0) (hc0:l0.length≤c0) (hr1:Kd.C Kd.string w A1 l1.length l1) (hc1:l1.length≤c1) (h:skerryref01_SameStrings.f k l0 l1=some r):
  Calls Tryz.prog 17 #[.slice A0 l0.length c0,.slice A1 l1.length c1] w fun e w'=>e=.returned (.bool r)∧Drawn0 w w':=by
 have HR0:=Aside0.mk hr0
 have HC0:=Aside0.mk hc0
 clear hr0 hc0
 have HR1:=Aside0.mk hr1
 have HC1:=Aside0.mk hc1
 clear hr1 hc1
 have H:(skerryref01_SameStrings.l0 k l0 l1 ((l0.length:Int)==(l1.length:Int)) 0)=some r:=h
 clear h
 have H':=Aside0.mk H
 clear H
 go_enter Tryz.func17,Tryz.ntmps17
 go_wp2
 repeat (go_quiet (fail);try go_wp2)
 go_loopg [5,6] k (fun kq v5 v6 w'=> ∃(x5_1:Bool) (x6_1:Int),v5=.bool x5_1∧v6=.int .i64 x6_1∧Aside0 (skerryref01_SameStrings.l0 kq l0 l1 x5_1 x6_1=some r)∧Aside0 (kq≤k)∧Drawn0 w w')
 case atStart=>exact ⟨(((l0.length:Int)==(l1.length:Int))),(0),(by first|rfl|(simp;done)|(simp [*];done)),(by first|rfl|(simp;done)|(simp [*];done)),H',⟨Nat.le_refl _⟩,by repeat (first|exact Drawn0.refl _|apply Drawn0.step)⟩
 case round=>
  clear H'
  try clear c1
  try clear p2
  obtain ⟨x5_1,x6_1,rfl,rfl,HA,HK1,⟨m1,rfl⟩⟩:=hrel
  cases gk with
  |zero=>exact absurd HA.out (by simp [skerryref01_SameStrings.l0])
  |succ k1=>
   have H:=HA.out
   clear HA
   simp only [skerryref01_SameStrings.l0] at H
   have HC3:=Aside0.mk H
   clear H
   go_upto_region 3 with (fail)
   repeat (go_quiet (fail);go_upto_region 3 with (fail))
   go_cut [18] (fun v18 wc=> ∃(kq:Nat) (x18_2:Bool),v18=.bool x18_2∧Aside0 (skerryref01_SameStrings.j1 kq l0 l1 x5_1 x6_1 x18_2=some r)∧Aside0 (kq≤k1)∧Drawn0 w wc)
   case first=>
    have H:=HC3.out
    clear HC3
    by_cases c4:x5_1=true
    ·subst c4
     have H1:(skerryref01_SameStrings.j1 k1 l0 l1 true x6_1 (decide (x6_1<(l0.length:Int))))=some r:=by rw [if_pos rfl] at H;exact H
     clear H
     have H:=H1
     clear H1
     have H':=Aside0.mk H
     clear H
     go_wp2
     repeat (go_quiet (fail);try go_wp2)
     go_meet
     case rel=>exact ⟨_,(decide (x6_1<(l0.length:Int))),(by first|rfl|(simp;done)|(simp [*];done)),H',⟨by have:=HK1.out;first|omega|exact Nat.le_refl _⟩,by repeat (first|exact Drawn0.refl _|apply Drawn0.step)⟩
    ·replace c4:=Bool.eq_false_iff.mpr c4
     subst c4
     have H1:(skerryref01_SameStrings.j1 k1 l0 l1 false x6_1 false)=some r:=by rw [if_neg (show¬(false=true) by decide)] at H;exact H
     clear H
     have H:=H1
     clear H1
     have H':=Aside0.mk H
     clear H
     go_wp2
     repeat (go_quiet (fail);try go_wp2)
     go_meet
     case rel=>exact ⟨_,(false),(by first|rfl|(simp;done)|(simp [*];done)),H',⟨by have:=HK1.out;first|omega|exact Nat.le_refl _⟩,by repeat (first|exact Drawn0.refl _|apply Drawn0.step)⟩
   case rest=>
    clear HC3
    try clear c1
    try clear p2
    try clear c4
    try clear p2
    obtain ⟨kq,x18_2,rfl,HA,HJ2,⟨mc2,rfl⟩⟩:=hcut
    cases kq with
    |zero=>exact absurd HA.out (by simp [skerryref01_SameStrings.j1])
    |succ kj2=>
     have H:=HA.out
     clear HA
     simp only [skerryref01_SameStrings.j1] at H
     by_cases c5:x18_2=true
     ·subst c5
      have H1:(if 0≤x6_1 then (if x6_1<(l0.length:Int) then (if x6_1<(l1.length:Int) then (skerryref01_SameStrings.l0 kj2 l0 l1 ((rdOf ByteArray.empty l0 x6_1).toList==(rdOf ByteArray.empty l1 x6_1).toList) (wrap64 (x6_1+1))) else (none)) else (none)) else (none))=some r:=by rw [if_pos rfl] at H;exact H
      clear H
      have H:=H1
      clear H1
      by_cases c6:0≤x6_1
      ·rw [if_pos c6] at H
       have c6b0:decide (0≤x6_1)=true:=decide_eq_true c6
       clear c6
       by_cases c7:x6_1<(l0.length:Int)
       ·rw [if_pos c7] at H
        have c7b0:decide (x6_1<(l0.length:Int))=true:=decide_eq_true c7
        clear c7
        by_cases c8:x6_1<(l1.length:Int)
        ·rw [if_pos c8] at H
         have c8b0:decide (x6_1<(l1.length:Int))=true:=decide_eq_true c8
         clear c8
         have H':=Aside0.mk H
         clear H
         have p105:0≤(x6_1:Int):=of_decide_eq_true (by first|(with_reducible assumption)|assumption)
         have q105:x6_1<(l0.length:Int):=of_decide_eq_true (by first|(with_reducible assumption)|assumption)
         obtain ⟨ad105,e105,hx105_0⟩:=Kd.at_string HR0.out x6_1 p105 q105
         cases e105
         replace p105:=eq_true p105
         replace q105:=eq_true q105
         have p106:0≤(x6_1:Int):=of_decide_eq_true (by first|(with_reducible assumption)|assumption)
         have q106:x6_1<(l1.length:Int):=of_decide_eq_true (by first|(with_reducible assumption)|assumption)
         obtain ⟨ad106,e106,hx106_0⟩:=Kd.at_string HR1.out x6_1 p106 q106
         cases e106
         replace p106:=eq_true p106
         replace q106:=eq_true q106
         go_wp2
         repeat (go_quiet (fail);try go_wp2)
         go_roundg kj2
         case measure=>have:=HK1.out;have:=HJ2.out;omega
         case rel=>exact ⟨(((rdOf ByteArray.empty l0 x6_1).toList==(rdOf ByteArray.empty l1 x6_1).toList)),(wrap64 (x6_1+1)),(by first|rfl|(simp;done)|(simp [*];done)),(by first|rfl|(simp;done)|(simp [*];done)),H',⟨by have:=HK1.out;have:=HJ2.out;omega⟩,by repeat (first|exact Drawn0.refl _|apply Drawn0.step)⟩
        ·rw [if_neg c8] at H
         exact absurd H (by simp)
       ·rw [if_neg c7] at H
        exact absurd H (by simp)
      ·rw [if_neg c6] at H
       exact absurd H (by simp)
     ·replace c5:=Bool.eq_false_iff.mpr c5
      subst c5
      have H1:(some x5_1)=some r:=by rw [if_neg (show¬(false=true) by decide)] at H;exact H
      clear H
      have H:=H1
      clear H1
      obtain rfl:=Option.some.inj H
      go_wp2
      repeat (go_quiet (fail);try go_wp2)
      go_ret
      exact ⟨by first|rfl|(simp;done)|(simp [*];done),by repeat (first|exact Drawn0.refl _|apply Drawn0.step)⟩

/-! ### fragment_Words: function 18 -/
-- by hand: FrLexW

end Go.Proofs.YtipnlgmeonepfaaGreatDoor.PFa
