/- The value of an integer's text: what strconv.Atoi and Itoa make of it. The listed variables of strconv hold what they were laid as. -/
import Derived.Test.YtipnlgmeonepfaaGreatDoorLxAll
import Derived.Test.YtipnlgmeonepfaaGreatDoorShelf
import Derived.WalkSmall
import Derived.WalkLawsBesides
set_option linter.unusedVariables false
set_option linter.unusedSimpArgs false
namespace Go.Proofs.YtipnlgmeonepfaaGreatDoor.Lx
open Go.RowKit Go.Proofs.YtipnlgmeonepfaaGreatDoorW.PrintWords

/-- What the library's variables hold. -/
structure Env (w:World):Prop where
 s: ∃tp p,w.var? Tryz.prog "strconv.ErrSyntax" =some #[.iface tp p]
 r: ∃tp p,w.var? Tryz.prog "strconv.ErrRange" =some #[.iface tp p]
 t:Lib.TabIs Tryz.prog w "internal/strconv.uint64pow10" .u64 Lib.pow10Tab
theorem var_below {w w':World} {n:String} {cs:Array Value} (h:w.var? Tryz.prog n=some cs) (hb:Below w.heap.size w w'):w'.var? Tryz.prog n=some cs:=by
 cases hg:Tryz.prog.globalNamed n with
 |none=>unfold World.var? at h;simp [hg] at h
 |some g=>
  refine var?_below hb hg ?_ h
  unfold World.var? at h
  simp only [hg,Option.bind_some] at h
  rcases Nat.lt_or_ge g w.heap.size with h'|h'
  ·exact h'
  ·rw [Array.getElem?_eq_none h'] at h;cases h
theorem Env.below {w w':World} (h:Env w) (hb:Below w.heap.size w w'):Env w':=
 ⟨let ⟨tp,p,e⟩:=h.s;⟨tp,p,var_below e hb⟩,let ⟨tp,p,e⟩:=h.r;⟨tp,p,var_below e hb⟩,var_below h.t hb⟩
theorem Env.drewN {w:World} (h:Env w) (n:Nat):Env (w.drewN n):=h.below (pw_below_drewN (Below.refl _ _) n)

theorem atoi_bounds {l:List UInt8} {v:Int} (h:Lib.atoiAll l=.ok v): -9223372036854775808≤v∧v≤9223372036854775807:=by
 unfold Lib.atoiAll at h
 cases l with
 |nil=>cases h
 |cons c r=>
  simp only [] at h
  split at h
  ·cases h
  ·cases h
  ·split at h
   ·cases h
   ·split at h
    ·cases h
    ·injection h with h
     subst h
     split<;>omega
theorem below_grow (w:World) (k:Nat) (os:Array Obj):Below w.heap.size w (Sort.grow (w.drewN k) os):=
 ⟨rfl,rfl,rfl,by show w.heap.size≤(w.heap++os).size;rw [Array.size_append];omega,fun j hj=>by show (w.heap++os)[j]? =_;rw [Array.getElem?_append_left hj]⟩
theorem ret_pair {a b:Value} {c d:Value} (h1:a=c) (h2:b=d):Ending.returned (.tuple #[a,b])=.returned (.tuple #[c,d]):=by rw [h1,h2]

set_option maxHeartbeats 3200000 in
theorem value_walk (s:ByteArray) (hs:s.size≤140737488351232) (w:World) (hE:Env w):
  Calls Tryz.prog 144 #[.string s] w fun e w'=>e=.returned (.tuple #[.int .i64 (valN s.data.toList),.bool (valB s.data.toList)])∧Below w.heap.size w w':=by
 have HE:=Lib.hid hE
 clear hE
 cases hv:Lib.atoiAll s.data.toList with
 |ok v=>
  have h1:=Lib.hid (show valN s.data.toList=v by unfold valN;rw [hv])
  have h2:=Lib.hid (show valB s.data.toList=(Lib.itoa v==s.data.toList) by unfold valB;rw [hv])
  have hbd:=atoi_bounds hv
  have HC:=Lib.hid (Tryz.strconv_Atoi_ok s (by omega) v hv w)
  have HI:=Lib.hid (fun (W:World) (h:Env W)=>Tryz.strconv_Itoa v hbd.1 hbd.2 W h.t)
  rw [h1.out,h2.out]
  obtain ⟨d,hd⟩: ∃d,Lib.itoa v=d:=⟨_,rfl⟩
  rw [hd] at HI⊢
  obtain ⟨q,hq⟩: ∃q,(d==s.data.toList)=q:=⟨_,rfl⟩
  have HQ:=Lib.hid hq
  rw [hq]
  clear hd hv h1 h2 hbd hq
  go_enter Tryz.func144,Tryz.ntmps144
  go_wp2_with fail
  refine HC.out.mono ?_
  rintro e w2 ⟨rfl,hb⟩
  have HB:Hid (Below w.heap.size w w2):=Lib.hid (by
   rcases hb with rfl|⟨t,rfl⟩
   ·exact Below.refl _ _
   ·exact bytes_below (Below.refl _ _) (Nat.le_refl _) _ _)
  clear hb
  go_wp2_with fail
  refine (HI.out _ (HE.out.below HB.out)).mono ?_
  rintro e w3 ⟨rfl,k,os,rfl⟩
  go_wp2_with fail
  go_ret2
  refine ⟨ret_pair rfl ?_,HB.out.trans ((below_grow _ _ _).mono HB.out.size)⟩
  show Value.bool (d==s.toList)=Value.bool q
  rw [Lib.toList_data,HQ.out]
 |range=>
  have h1:=Lib.hid (show valN s.data.toList=Lib.atoiSat s.data.toList by unfold valN;rw [hv])
  have h2:=Lib.hid (show valB s.data.toList=false by unfold valB;rw [hv])
  obtain ⟨tp,p,hvar⟩:=HE.out.r
  have HC:=Lib.hid (Tryz.strconv_Atoi_range_var s (by omega) hv tp p w hvar)
  rw [h1.out,h2.out]
  obtain ⟨m,hm⟩: ∃m,Lib.atoiSat s.data.toList=m:=⟨_,rfl⟩
  rw [hm] at HC⊢
  clear hm hv hvar h1 h2
  go_enter Tryz.func144,Tryz.ntmps144
  go_wp2_with fail
  refine HC.out.mono ?_
  rintro e w2 ⟨N,rfl,hN,hcell,hb⟩
  have HB:=Lib.hid hb
  clear hb hcell hN
  go_wp2_with fail
  go_ret2
  exact ⟨rfl,HB.out⟩
 |_=>
  have h1:=Lib.hid (show valN s.data.toList=0 by unfold valN;rw [hv])
  have h2:=Lib.hid (show valB s.data.toList=false by unfold valB;rw [hv])
  obtain ⟨tp,p,hvar⟩:=HE.out.s
  have HC:=Lib.hid (Tryz.strconv_Atoi_syntax_var s (by omega) hv tp p w hvar)
  rw [h1.out,h2.out]
  clear hv hvar h1 h2
  go_enter Tryz.func144,Tryz.ntmps144
  go_wp2_with fail
  refine HC.out.mono ?_
  rintro e w2 ⟨N,rfl,hN,hcell,hb⟩
  have HB:=Lib.hid hb
  clear hb hcell hN
  go_wp2_with fail
  go_ret2
  exact ⟨rfl,HB.out⟩
end Go.Proofs.YtipnlgmeonepfaaGreatDoor.Lx
