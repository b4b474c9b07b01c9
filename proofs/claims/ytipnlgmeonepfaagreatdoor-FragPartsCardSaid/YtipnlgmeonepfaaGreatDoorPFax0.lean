-- PRINTED by print.py (a twelfth state) out of the translation. Not trusted: Lean checks it.
import Derived.Test.YtipnlgmeonepfaaGreatDoorProg
import Derived.Below
import Derived.Deep.Draws
import Derived.Deep.AppendLies
import Derived.Maps.AppendAt
import Derived.OwnWalk
import Derived.Laws.BytesArg
import Derived.Laws.MakeOwn
import Derived.Laws.OwnMore
import Derived.Deep.OwnRows
import Derived.Tactics
import Derived.Lib.ConvBytes
import Derived.Laws.Slices
import Derived.WalkKit
import Derived.KernelRfl
import Derived.RowKit3
import Derived.Deep.LoopGhost
import Derived.Deep.QuietTactic
import Derived.BigQuiet
import Derived.WideLaws
import Derived.Deep.DeepCutAuto
import Derived.Deep.CutBlock
import Derived.Deep.RegionHeld3
import Derived.Laws.Rows
import Derived.Lib.AppendStr
import Derived.ArgAppend
import Derived.Laws.IdiomCopy
import Derived.OrdersHeld
import Derived.Laws.BitsLemmas
import Derived.RowKit
import Derived.Test.YtipnlgmeonepfaaGreatDoorLxExt
import Derived.Test.YtipnlgmeonepfaaGreatDoorRScan
import Derived.Test.YtipnlgmeonepfaaGreatDoorMoreWords
namespace Go.Proofs.YtipnlgmeonepfaaGreatDoor.PFa
open Go.RowKit Go.Proofs.YtipnlgmeonepfaaGreatDoorW.PrintWords Go.Proofs.YtipnlgmeonepfaaGreatDoorW.PrintLast Go.Proofs.YtipnlgmeonepfaaGreatDoorW.PrintMore
attribute [local go_sem] max2_int min2_int max_two min_two max_three min_three max_four min_four   -- for this text's walks alone
set_option linter.unusedVariables false
set_option linter.unusedSimpArgs false



def errW:Option Int→Value
 |none=> .nilIface
 |some c=> .iface 0 (.int .i64 c)
theorem errW_none:errW none=.nilIface:=rfl
theorem errW_some (c:Int):errW (some c)=.iface 0 (.int .i64 c):=rfl

theorem info9:(Tryz.prog.info? 9).map (fun i=>(i.zero,i.size,i.bytes))=some (some (.string ⟨#[]⟩),1,16):=by kernel_rfl
-- the values' own types
/-! #### struct type 39 -/
structure S39 where
 f0:Int
 f1:Int
 f2:ByteArray
 f3:Int
 f4:Int
def z39:S39:=⟨(0:Int),(0:Int),(⟨#[]⟩:ByteArray),(0:Int),(0:Int)⟩
def k39:Kd S39:=Kd.iso (Kd.pair (Kd.int .i64) (Kd.pair (Kd.int .i64) (Kd.pair Kd.string (Kd.pair (Kd.int .i64) (Kd.int .i64))))) (fun x:S39=>(x.f0,x.f1,x.f2,x.f3,x.f4))
theorem k39_open {w:World} {x:S39} {cs:List Value} (h:k39.K w x cs):cs=[.int .i64 x.f0,.int .i64 x.f1,.string x.f2,.int .i64 x.f3,.int .i64 x.f4]:=by
 obtain ⟨_,_,rfl,rfl,⟨_,_,rfl,rfl,⟨_,_,rfl,rfl,⟨_,_,rfl,rfl,rfl⟩⟩⟩⟩:=h
 exact rfl
theorem k39_mk (w:World) (x:S39)  :k39.K w x [.int .i64 x.f0,.int .i64 x.f1,.string x.f2,.int .i64 x.f3,.int .i64 x.f4]:=⟨[.int .i64 x.f0],[.int .i64 x.f1,.string x.f2,.int .i64 x.f3,.int .i64 x.f4],rfl,rfl,⟨[.int .i64 x.f1],[.string x.f2,.int .i64 x.f3,.int .i64 x.f4],rfl,rfl,⟨[.string x.f2],[.int .i64 x.f3,.int .i64 x.f4],rfl,rfl,⟨[.int .i64 x.f3],[.int .i64 x.f4],rfl,rfl,rfl⟩⟩⟩⟩
theorem k39_mkM (w:World) (base:Nat) (ok:Nat→Prop) (x:S39)  :k39.M w base ok x [.int .i64 x.f0,.int .i64 x.f1,.string x.f2,.int .i64 x.f3,.int .i64 x.f4]:=⟨[.int .i64 x.f0],[.int .i64 x.f1,.string x.f2,.int .i64 x.f3,.int .i64 x.f4],rfl,rfl,⟨[.int .i64 x.f1],[.string x.f2,.int .i64 x.f3,.int .i64 x.f4],rfl,rfl,⟨[.string x.f2],[.int .i64 x.f3,.int .i64 x.f4],rfl,rfl,⟨[.int .i64 x.f3],[.int .i64 x.f4],rfl,rfl,rfl⟩⟩⟩⟩
def rd_T39 (xs:List S39) (i:Int):S39:=xs.getD i.toNat z39
theorem at_T39 {w:World} {A:Option Addr} {n:Nat} {xs:List S39} (h:Kd.C k39 w A n xs) (i:Int) (h0:0≤i) (h1:i<n): ∃ad,A=some ad∧w.cell? (ad.add (i.toNat*5))=some (.int .i64 (rd_T39 xs i).f0)∧w.cell? ⟨(ad.add (i.toNat*5)).block,(ad.add (i.toNat*5)).off+1,none⟩=some (.int .i64 (rd_T39 xs i).f1)∧w.cell? ⟨(ad.add (i.toNat*5)).block,(ad.add (i.toNat*5)).off+2,none⟩=some (.string (rd_T39 xs i).f2)∧w.cell? ⟨(ad.add (i.toNat*5)).block,(ad.add (i.toNat*5)).off+3,none⟩=some (.int .i64 (rd_T39 xs i).f3)∧w.cell? ⟨(ad.add (i.toNat*5)).block,(ad.add (i.toNat*5)).off+4,none⟩=some (.int .i64 (rd_T39 xs i).f4):=by
 obtain ⟨ad,c,e,_,hK,hc0⟩:=Kd.C_get h z39 i h0 h1
 have hc: ∀j u,c[j]? =some u→w.cell? (ad.add (i.toNat*5+j))=some u:=hc0
 obtain rfl:=k39_open hK
 exact ⟨ad,e,hc 0 _ rfl,by rw [←add_field _ _ 1 (by omega)];exact hc 1 _ rfl,by rw [←add_field _ _ 2 (by omega)];exact hc 2 _ rfl,by rw [←add_field _ _ 3 (by omega)];exact hc 3 _ rfl,by rw [←add_field _ _ 4 (by omega)];exact hc 4 _ rfl⟩

/-! #### struct type 49, nested in itself -/
structure S49 where
 f0:S39
 f1:ByteArray
 f2:(List S49)
def z49:S49:=⟨z39,(⟨#[]⟩:ByteArray),([]:List S49)⟩
def F49 (d:Kd S49):Kd S49:=Kd.iso (Kd.pair k39 (Kd.pair Kd.string (Kd.slice 49 d))) (fun x:S49=>(x.f0,x.f1,x.f2))
theorem mono49:Kd.Mono F49:=Kd.mono_iso _ (Kd.mono_pair (Kd.mono_const _) (Kd.mono_pair (Kd.mono_const _) (Kd.mono_slice 49 Kd.mono_id)))
theorem sub49:Kd.Sub F49 [49]:=Kd.sub_iso _ (Kd.sub_pair (Kd.sub_const _ (by decide)) (Kd.sub_pair (Kd.sub_const _ (by decide)) (Kd.sub_slice 49 (by decide) Kd.sub_id)))
theorem sz49: ∀n,(Kd.upto F49 7 [49] n).sz=7:=Kd.upto_sz (fun _=>rfl)
def k49:Kd S49:=Kd.fix F49 7 [49] sz49 (Kd.upto_E sub49)
theorem k49_open {w:World} {x:S49} {cs:List Value} (h:k49.K w x cs): ∃A6 c6,cs=[.int .i64 x.f0.f0,.int .i64 x.f0.f1,.string x.f0.f2,.int .i64 x.f0.f3,.int .i64 x.f0.f4,.string x.f1,.slice A6 x.f2.length c6]∧x.f2.length≤c6∧k49.C w A6 x.f2.length x.f2:=by
 obtain ⟨n,h⟩:=h
 cases n with
 |zero=>exact h.elim
 |succ n=>
  obtain ⟨_,_,rfl,s0,⟨_,_,rfl,rfl,⟨A6,c6,rfl,l6,g6⟩⟩⟩:=h
  obtain rfl:=k39_open s0
  exact ⟨A6,c6,rfl,l6,Kd.fix_C g6⟩
theorem k49_mkM (w:World) (base:Nat) (ok:Nat→Prop) (x:S49) {v6:Value} (g6:k49.R 49 w base ok v6 x.f2):k49.M w base ok x [.int .i64 x.f0.f0,.int .i64 x.f0.f1,.string x.f0.f2,.int .i64 x.f0.f3,.int .i64 x.f0.f4,.string x.f1,v6]:=by
 obtain ⟨n6,q6⟩:=Kd.fix_R_back mono49 g6
 have r6:=Kd.upto_R_le mono49 sz49 (show n6≤n6 by omega) q6
 exact ⟨n6+1,⟨[.int .i64 x.f0.f0,.int .i64 x.f0.f1,.string x.f0.f2,.int .i64 x.f0.f3,.int .i64 x.f0.f4],[.string x.f1,v6],rfl,(k39_mkM w base ok x.f0),⟨[.string x.f1],[v6],rfl,rfl,⟨v6,rfl,r6⟩⟩⟩⟩
def rd_T49 (xs:List S49) (i:Int):S49:=xs.getD i.toNat z49
theorem at_T49 {w:World} {A:Option Addr} {n:Nat} {xs:List S49} (h:Kd.C k49 w A n xs) (i:Int) (h0:0≤i) (h1:i<n): ∃ad A6 c6,A=some ad∧w.cell? (ad.add (i.toNat*7))=some (.int .i64 (rd_T49 xs i).f0.f0)∧w.cell? ⟨(ad.add (i.toNat*7)).block,(ad.add (i.toNat*7)).off+1,none⟩=some (.int .i64 (rd_T49 xs i).f0.f1)∧w.cell? ⟨(ad.add (i.toNat*7)).block,(ad.add (i.toNat*7)).off+2,none⟩=some (.string (rd_T49 xs i).f0.f2)∧w.cell? ⟨(ad.add (i.toNat*7)).block,(ad.add (i.toNat*7)).off+3,none⟩=some (.int .i64 (rd_T49 xs i).f0.f3)∧w.cell? ⟨(ad.add (i.toNat*7)).block,(ad.add (i.toNat*7)).off+4,none⟩=some (.int .i64 (rd_T49 xs i).f0.f4)∧w.cell? ⟨(ad.add (i.toNat*7)).block,(ad.add (i.toNat*7)).off+5,none⟩=some (.string (rd_T49 xs i).f1)∧w.cell? ⟨(ad.add (i.toNat*7)).block,(ad.add (i.toNat*7)).off+6,none⟩=some (.slice A6 (rd_T49 xs i).f2.length c6)∧(rd_T49 xs i).f2.length≤c6∧k49.C w A6 (rd_T49 xs i).f2.length (rd_T49 xs i).f2:=by
 obtain ⟨ad,c,e,_,hK,hc0⟩:=Kd.C_get h z49 i h0 h1
 have hc: ∀j u,c[j]? =some u→w.cell? (ad.add (i.toNat*7+j))=some u:=hc0
 obtain ⟨A6,c6,rfl,l6,g6⟩:=k49_open hK
 exact ⟨ad,A6,c6,e,hc 0 _ rfl,by rw [←add_field _ _ 1 (by omega)];exact hc 1 _ rfl,by rw [←add_field _ _ 2 (by omega)];exact hc 2 _ rfl,by rw [←add_field _ _ 3 (by omega)];exact hc 3 _ rfl,by rw [←add_field _ _ 4 (by omega)];exact hc 4 _ rfl,by rw [←add_field _ _ 5 (by omega)];exact hc 5 _ rfl,by rw [←add_field _ _ 6 (by omega)];exact hc 6 _ rfl,l6,g6⟩

end Go.Proofs.YtipnlgmeonepfaaGreatDoor.PFa
