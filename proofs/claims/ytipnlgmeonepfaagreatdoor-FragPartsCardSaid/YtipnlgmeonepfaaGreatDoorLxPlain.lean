/- The cutter's function plain returns what its plain form says, wherever the cutter's table holds the classes. -/
import Derived.Test.YtipnlgmeonepfaaGreatDoorLxAll
import Derived.Lib.Bytes
import Derived.Deep.DeepMust
set_option linter.unusedVariables false
set_option linter.unusedSimpArgs false
namespace Go.Proofs.YtipnlgmeonepfaaGreatDoor.Lx
open Go.RowKit Go.Proofs.YtipnlgmeonepfaaGreatDoorW.PrintWords

theorem plainGo_snoc: ∀(l:List UInt8) (x:UInt8) (i:Nat) (lt:Bool) (n:Nat),plainGo (l++[x]) i lt n=
  if ((lt||l.any (fun y=>cL y.toNat))||cL x.toNat)&&cF x.toNat then i+l.length+1 else plainGo l i lt n
 |[],x,i,lt,n=>by simp [plainGo]
 |y::l,x,i,lt,n=>by
  simp only [List.cons_append,plainGo]
  rw [plainGo_snoc l x]
  simp only [List.any_cons,List.length_cons,←Bool.or_assoc]
  have e:i+1+l.length+1=i+(l.length+1)+1:=by omega
  rw [e]

theorem empty_of_size {s:ByteArray} (h:s.size=0):s=⟨#[]⟩:=by
 obtain ⟨d⟩:=s
 congr
 exact Array.eq_empty_of_size_eq_zero h

theorem plainGo_le: ∀(l:List UInt8) (i:Nat) (lt:Bool) (n:Nat),n≤i→plainGo l i lt n≤i+l.length
 |[],i,lt,n,h=>by simpa [plainGo] using h
 |x::l,i,lt,n,h=>by
  simp only [plainGo,List.length_cons]
  have:=plainGo_le l (i+1) (lt||cL x.toNat) (if ((lt||cL x.toNat)&&cF x.toNat)=true then i+1 else n) (by split<;>omega)
  omega
theorem plain_le (s:List UInt8):plain s≤s.length:=by
 cases s with
 |nil=>simp [plain]
 |cons x s=>
  simp only [plain]
  split
  ·have h:=plainGo_le ((x::s).take (allN cW (x::s))) 0 false 0 (Nat.le_refl _)
   have:=List.length_take_le (allN cW (x::s)) (x::s)
   have:=List.length_take_le' (allN cW (x::s)) (x::s)
   omega
  ·omega

def PG (s:List UInt8) (k:Nat):Nat:=plainGo (s.take k) 0 false 0
def PL (s:List UInt8) (k:Nat):Bool:=(s.take k).any (fun y=>cL y.toNat)
theorem PG_succ (s:ByteArray) (k:Nat) (h:k<s.size):PG s.data.toList (k+1)=if (PL s.data.toList k||cL s[k].toNat)&&cF s[k].toNat then k+1 else PG s.data.toList k:=by
 unfold PG PL
 rw [List.take_succ_eq_append_getElem (by rw [data_length];exact h),getElem_list s k h,plainGo_snoc]
 simp only [Bool.false_or,Nat.zero_add,List.length_take,data_length,Nat.min_eq_left (Nat.le_of_lt h)]
theorem PL_succ (s:ByteArray) (k:Nat) (h:k<s.size):PL s.data.toList (k+1)=(PL s.data.toList k||cL s[k].toNat):=by
 unfold PL
 rw [List.take_succ_eq_append_getElem (by rw [data_length];exact h),getElem_list s k h]
 simp
theorem all_W (b tb:Nat) (s:ByteArray) (hs:s.size≤20000) (w:World)
  (h1:w.cell? ⟨b,2,none⟩=some (.pointer (some ⟨tb,0,none⟩))) (htab:Tab w tb):
  Calls Tryz.prog 192 #[.pointer (some ⟨b,0,none⟩),.string s,.int .i64 2] w
   fun e w'=>e=.returned (.int .i64 (allN cW s.data.toList:Nat))∧Drawn0 w w':=all_walk b tb s 2 (by omega) hs w h1 htab
theorem all_D (b tb:Nat) (s:ByteArray) (hs:s.size≤20000) (w:World)
  (h1:w.cell? ⟨b,2,none⟩=some (.pointer (some ⟨tb,0,none⟩))) (htab:Tab w tb):
  Calls Tryz.prog 192 #[.pointer (some ⟨b,0,none⟩),.string s,.int .i64 1] w
   fun e w'=>e=.returned (.int .i64 (allN cD s.data.toList:Nat))∧Drawn0 w w':=all_walk b tb s 1 (by omega) hs w h1 htab
theorem all_Q (b tb:Nat) (s:ByteArray) (hs:s.size≤20000) (w:World)
  (h1:w.cell? ⟨b,2,none⟩=some (.pointer (some ⟨tb,0,none⟩))) (htab:Tab w tb):
  Calls Tryz.prog 192 #[.pointer (some ⟨b,0,none⟩),.string s,.int .i64 5] w
   fun e w'=>e=.returned (.int .i64 (allN cQ s.data.toList:Nat))∧Drawn0 w w':=all_walk b tb s 5 (by omega) hs w h1 htab

theorem Tab.drewN {w:World} {tb:Nat} (h:Tab w tb) (n:Nat):Tab (w.drewN n) tb:=fun c x hc hx=>by
 rw [show (w.drewN n).cell? ⟨tb,c*256+x,none⟩=w.cell? ⟨tb,c*256+x,none⟩ from rfl];exact h c x hc hx

set_option maxHeartbeats 4000000 in
set_option maxRecDepth 100000 in
theorem plain_walk (b tb:Nat) (s:ByteArray) (hs:s.size≤20000) (w:World)
  (h1:w.cell? ⟨b,2,none⟩=some (.pointer (some ⟨tb,0,none⟩))) (htab:Tab w tb):
  Calls Tryz.prog 191 #[.pointer (some ⟨b,0,none⟩),.string s] w
   fun e w'=>e=.returned (.int .i64 (plain s.data.toList:Nat))∧Drawn0 w w':=by
 have HT:=Lib.hid htab
 clear htab
 by_cases h0:s.size=0
 ·obtain rfl:=empty_of_size h0
  clear h0
  go_enter Tryz.func191,Tryz.ntmps191
  go_wp2
  go_quiet (fail)
  go_wp2
  go_ret
  exact ⟨rfl,by repeat (first|exact Drawn0.refl _|apply Drawn0.step)⟩
 ·have hlt:0<s.size:=by omega
  have hemp:s.toList.isEmpty=false:=by rw [Lib.toList_data];have:=data_length s;cases hh:s.data.toList<;>simp_all
  have hx0:=HT.out 0 (s[0]).toNat (by omega) (s[0]).toNat_lt
  have hx4:=HT.out 4 (s[0]).toNat (by omega) (s[0]).toNat_lt
  have hb:((s[0].toNat:Nat):Int)<256:=by have:=(s[0]).toNat_lt;omega
  have hs0:=Lib.hid (drop_cons s 0 hlt)
  have HM:=Lib.hid (plain_le s.data.toList)
  simp only [cls,Nat.reduceMul,Nat.zero_mul,Nat.zero_add] at hx0 hx4
  by_cases hgo:(cL s[0].toNat||cB s[0].toNat)=true
  ·have hplain:Hid (plain s.data.toList=PG s.data.toList (allN cW s.data.toList)):=by
    have e:=hs0.out
    rw [List.drop_zero] at e
    refine Lib.hid ?_
    unfold PG
    rw [e]
    simp only [plain]
    rw [if_pos hgo]
   have HN:=Lib.hid (allN_le cW s.data.toList)
   have hnle:allN cW s.data.toList≤20000:=by have:=HN.out;rw [data_length] at this;omega
   have hnsz:allN cW s.data.toList≤s.size:=by have:=HN.out;rw [data_length] at this;omega
   obtain ⟨N,hN⟩: ∃N:Nat,allN cW s.data.toList=N:=⟨_,rfl⟩
   have hgo':=Lib.hid hgo
   clear hgo
   rcases hcase:(cL s[0].toNat,cB s[0].toNat) with ⟨xl,xb⟩
   have hl:cL s[0].toNat=xl:=congrArg Prod.fst hcase
   have hbb:cB s[0].toNat=xb:=congrArg Prod.snd hcase
   have hor:(xl||xb)=true:=by rw [←hl,←hbb];exact hgo'.out
   rw [hl] at hx0
   rw [hbb] at hx4
   clear hcase hl hbb
   rw [hN] at hnle hnsz
   have HNN:=Lib.hid hN
   have HW:=Lib.hid (fun w h1 htab=>hN▸all_W b tb s hs w h1 htab)
   clear hN
   cases xl<;>cases xb
   ·simp at hor
   all_goals
    clear hor
    go_enter Tryz.func191,Tryz.ntmps191
    go_wp2
    go_quiet (fail)
    go_wp2_with (go_at_call 192;go_must (refine (HW.out _ (by exact h1) (HT.out.drewN _)).mono ?_;rintro e w' ⟨rfl,⟨m2,rfl⟩⟩))
    clear hx0 hx4
    go_loopw [5,6,7,39] (fun v5 v6 v7 v39 wr=> ∃(k n:Nat) (lt:Bool),v5=.int .i64 n∧v6=.bool lt∧v39=.int .i64 k∧k≤N∧Hid (n=PG s.data.toList k)∧Hid (lt=PL s.data.toList k)∧Drawn0 w wr) (fun _ _ _ v39 _=>N-(intOf v39).toNat)
    case atStart=>exact ⟨0,0,false,rfl,rfl,rfl,by omega,Lib.hid (by simp [PG,plainGo]),Lib.hid (by simp [PL]),by repeat (first|exact Drawn0.refl _|apply Drawn0.step)⟩
    case round=>
     obtain ⟨k,n,lt,rfl,rfl,rfl,hk,Hn,Hl,⟨m1,rfl⟩⟩:=hrel
     by_cases hlt:k<N
     ·have hks:k<s.size:=by omega
      have hx0:=HT.out 0 (s[k]).toNat (by omega) (s[k]).toNat_lt
      have hx3:=HT.out 3 (s[k]).toNat (by omega) (s[k]).toNat_lt
      have hb:((s[k].toNat:Nat):Int)<256:=by have:=(s[k]).toNat_lt;omega
      simp only [cls,Nat.reduceMul,Nat.zero_mul,Nat.zero_add] at hx0 hx3
      have Hg1:=Lib.hid (PG_succ s k hks)
      have Hl1:=Lib.hid (PL_succ s k hks)
      obtain ⟨xl,hxl⟩: ∃xl,cL s[k].toNat=xl:=⟨_,rfl⟩
      obtain ⟨xf,hxf⟩: ∃xf,cF s[k].toNat=xf:=⟨_,rfl⟩
      rw [hxl] at hx0
      rw [hxf] at hx3
      have Hxl:=Lib.hid hxl
      have Hxf:=Lib.hid hxf
      clear hxl hxf
      cases lt<;>cases xl<;>cases xf
      all_goals
       go_wp2
       go_quiet (fail)
       go_wp2
       go_quiet (fail)
       go_wp2
       go_roundw
       case rel=>
        have h1':=Hg1.out
        have h2':=Hl1.out
        rw [Hxl.out,Hxf.out,←Hl.out,←Hn.out] at h1'
        rw [Hxl.out,←Hl.out] at h2'
        exact ⟨k+1,_,_,(by first|rfl|go_num),rfl,(by go_num),by omega,Lib.hid (by rw [h1'];simp),Lib.hid (by rw [h2'];simp),by repeat (first|exact Drawn0.refl _|apply Drawn0.step)⟩
       case measure=>simp [intOf];omega
     ·have hke:k=N:=by omega
      have HE:=Lib.hid hke
      clear hke
      go_wp2
      go_ret
      refine ⟨ret_int ?_,by repeat (first|exact Drawn0.refl _|apply Drawn0.step)⟩
      rw [hplain.out,HNN.out,Hn.out,HE.out]
  ·have HG:=Lib.hid hgo
   clear hgo
   have hl:cL s[0].toNat=false:=by have:=HG.out;revert this;cases cL s[0].toNat<;>simp
   have hbb:cB s[0].toNat=false:=by have:=HG.out;revert this;cases cB s[0].toNat<;>simp
   rw [hl] at hx0
   rw [hbb] at hx4
   clear hl hbb
   go_enter Tryz.func191,Tryz.ntmps191
   go_wp2
   go_quiet (fail)
   go_wp2
   go_ret
   refine ⟨ret_int ?_,by repeat (first|exact Drawn0.refl _|apply Drawn0.step)⟩
   have e:=hs0.out
   rw [List.drop_zero] at e
   rw [e]
   simp only [plain]
   rw [if_neg HG.out]
   rfl
end Go.Proofs.YtipnlgmeonepfaaGreatDoor.Lx
