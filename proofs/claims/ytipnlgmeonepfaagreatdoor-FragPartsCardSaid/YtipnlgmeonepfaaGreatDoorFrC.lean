/- The reader's acts, walked: the map of what is done at which text. -/
import Derived.Test.YtipnlgmeonepfaaGreatDoorFrA
import Derived.Test.YtipnlgmeonepfaaGreatDoorFrB
import Derived.Deep.RegionHeld3
import Derived.Recover
import Derived.RecoverIn
import Derived.RegionIn
import Derived.Test.YtipnlgmeonepfaaGreatDoorLxPieces
set_option linter.unusedVariables false
set_option linter.unusedSimpArgs false
namespace Go.Proofs.YtipnlgmeonepfaaGreatDoor.PFa
open Go.RowKit Go.Proofs.YtipnlgmeonepfaaGreatDoorW.PrintWords Go.Proofs.YtipnlgmeonepfaaGreatDoorW.PrintLast Go.Proofs.YtipnlgmeonepfaaGreatDoorW.PrintMore
theorem below_grown {B b:Nat} {W W':World} (h:W.grownBy W' (some b)) (hB:B≤b) (hs:B≤W.heap.size):Below B W W':=
  ⟨h.os,h.tape,h.output,h.size,fun k hk=>h.block k (by omega) (fun e=>by injection e with e;omega)⟩
def signActs:List (ByteArray×Bool):=[(⟨#[101,110,100]⟩,false),(⟨#[125]⟩,false),(⟨#[93]⟩,false),(⟨#[41]⟩,false),(⟨#[123]⟩,true),(⟨#[91]⟩,true),(⟨#[40]⟩,true)]
def openers:List ByteArray:=[⟨#[98,101,103,105,110]⟩,⟨#[105,102]⟩,⟨#[98,108,111,99,107]⟩,⟨#[109,101,116,104,111,100]⟩,⟨#[99,108,97,115,115]⟩,⟨#[109,97,99,114,111]⟩]
/-- The table behind the loop over these words. -/
def actTab (xs:List ByteArray):List (ByteArray×Bool):=(xs.map fun x=>(x,true)).reverse++signActs
theorem strs_own {e:Nat} {X:World} {base:Nat} {ok:Nat→Prop} {v:Value} {xs:List ByteArray} (h:Kd.string.R e X base ok v xs):X.ownsRow base e 1 v xs.length (xs.map Value.string):=by
  obtain ⟨_,inner,ho,hr⟩:=h
  have:inner=xs.map Value.string:=by
    apply List.ext_getElem?
    intro j
    have hln:inner.length=xs.length:=by have:=hr.1;rw [show Kd.string.sz=1 from rfl,Nat.mul_one] at this;exact this
    rcases Nat.lt_or_ge j xs.length with hj|hj
    · have hl:j<inner.length:=by omega
      have h3:(inner.drop (j*1)).take 1=[.string xs[j]]:=hr.2 j _ (List.getElem?_eq_getElem hj)
      rw [Nat.mul_one,List.drop_eq_getElem_cons hl] at h3
      have h4:inner[j]=.string xs[j]:=by
        have h5:=congrArg List.head? h3
        rw [List.take_succ_cons] at h5
        exact Option.some.inj h5
      rw [List.getElem?_eq_getElem hl,h4,List.getElem?_map,List.getElem?_eq_getElem hj]
      rfl
    · rw [List.getElem?_eq_none (by omega),List.getElem?_eq_none (by rw [List.length_map];omega)]
  rw [←this]
  exact ho
/-- A list of strings appended to one that lies apart: the run. -/
theorem app_strs {P : Program} {t ty e : TypeId} (ht : P.underlying t = some (.slice e)) (hinfo : (P.info? e).map (fun i => (i.zero, i.size, i.bytes)) = some (some (.string ⟨#[]⟩), 1, 16)) {X : World} {base : Nat} {ok : Nat → Prop} {v : Value} {xs ys : List ByteArray} {A : Option Addr} {c : Nat}
    (HO:Kd.string.R e X base ok v xs) (HR:Kd.string.C X A ys.length ys) (hfresh: ∀k,X.heap.size≤k→ok k) (hbase:base≤X.heap.size) (hl:(xs.length+ys.length)*16≤140737488355328):
    ∃v1 w1,(appSem #[t,t] ty #[v,.slice A ys.length c]).run P X=.ok v1 w1∧Kd.string.R e w1 base ok v1 (xs++ys)∧Below base X w1:=by
  obtain ⟨i0,hi,hzz⟩:=Option.map_eq_some_iff.1 hinfo
  simp only [Prod.mk.injEq] at hzz
  obtain ⟨hz0,hz1,hz2⟩:=hzz
  have HS:=strs_own HO
  have HD:=Kd.reads_of_C (d:=ByteArray.empty) HR
  have hrun: ∃v1 w1,(Builtin.append_ #[t,t] ty #[v,.slice A ys.length c]).run P X=.ok v1 w1∧w1.ownsRow base e 1 v1 (xs++ys).length ((xs++ys).map Value.string)∧X.grownBy w1 v.ownBlock∧(v1.ownBlock=v.ownBlock∨v1.ownBlock=some X.heap.size):=by
    rcases A with _|ad
    · have h0 : ys.length = 0 := by
        rcases Nat.eq_zero_or_pos ys.length with h0|h0
        · exact h0
        · obtain ⟨ad,h,_⟩:=HD.2.2 h0
          cases h
      obtain rfl:ys=[]:=List.eq_nil_of_length_eq_zero h0
      refine ⟨v,X, ?_,by simpa using HS,World.grownBy.refl X _,.inl rfl⟩
      rcases HS.2 with ⟨rfl,hn⟩|⟨g,cap,cur,rfl,_,_,hnc,_⟩
      · simp [Builtin.append_,run_underlying ht,sizeOf,typeInfo,hi,Builtin.lenOf,Builtin.firstCells]
      · simp [Builtin.append_,run_underlying ht,sizeOf,typeInfo,hi,Builtin.lenOf,Builtin.firstCells,hnc,storeCells]
    · obtain ⟨v1, w1, hr, h2, h3, _, h5⟩ := run_append_own_at (P := P) X base t ty e i0 _ 1 16 ht hi hz0 hz1 hz2 rfl (by omega) v xs.length (xs.map Value.string) HS ad ys.length c (ys.map Value.string) (by simp) (fun j u hu => by
        have hj:j<ys.length:=by
          rcases Nat.lt_or_ge j ys.length with h|h
          · exact h
          · rw [List.getElem?_eq_none (by rw [List.length_map];exact h)] at hu
            cases hu
        obtain ⟨ad',h',hc⟩:=HD.2.2 (by omega)
        injection h' with h'
        subst h'
        rw [List.getElem?_map,List.getElem?_eq_getElem hj] at hu
        have hc:=hc j (by omega)
        rw [List.getD_eq_getElem?_getD,List.getElem?_eq_getElem hj] at hc
        rw [←Option.some.inj hu]
        exact hc) (by intro u hu;simp only [List.mem_map] at hu;obtain ⟨q,_,rfl⟩:=hu;rfl) (by simp only [maxLen];omega) hl hbase
      exact ⟨v1,w1,hr,by simpa using h2,h3,h5⟩
  obtain ⟨v1,w1,hr,hown,hg,hat⟩:=hrun
  refine ⟨v1,w1,hr,strs_R hown (fun k hk=> ?_), ?_⟩
  · rcases hat with e1|e1
    · exact HO.1 k (by rw [←e1];exact hk)
    · rw [e1] at hk
      injection hk with hk
      exact hfresh k (by omega)
  · exact (Below.refl base X).grown hg hbase (own_base HS)
attribute [local go_sem ↓ high] app_veil
theorem actTab_step (xs:List ByteArray) (i:Nat) (hi:i<xs.length):actTab (xs.take (i+1))=(rdOf ByteArray.empty xs (i:Int),true)::actTab (xs.take i):=by
  have e:rdOf ByteArray.empty xs (i:Int)=xs[i]:=by simp [rdOf,List.getD_eq_getElem?_getD,List.getElem?_eq_getElem hi]
  rw [e,List.take_succ_eq_append_getElem hi]
  unfold actTab
  rw [List.map_append,List.reverse_append]
  rfl
theorem Acts.cell {g b n:Nat} {tab:List (ByteArray×Bool)} {W W':World} (h:Acts g b n tab W) (hg:W.grownBy W' (some b)) {a:Addr} {v:Value} (hc:W.cell? a=some v):W'.cell? a=some v:=by
  have hne:a.block≠b:=by
    intro e
    obtain ⟨D,⟨es,clock,hb,_⟩,_⟩:=h
    unfold World.cell? at hc
    rw [e,hb] at hc
    simp at hc
  exact (World.cell?_of_block (hg.block a.block (World.block_lt_of_cell? W a hc) (fun e=>hne (Option.some.inj e)))).trans hc
section
variable {w W W':World} {g:Nat} {A0:Option Addr} {c0:Nat} {l:List Tk} {A1:Option Addr} {c1:Nat} {ws:List ByteArray} {o:Nat→Nat} {at_:Nat} {tv:Value} {top:List Fg} {sv:Value} {fs:List Fr} {ps:List PF}
/-- The seven signs' entries, laid one by one. -/
theorem seven_acts (g : Nat) (W : World) : ∃ w1 w2 w3 w4 w5 w6 w7 : World,
    (Instr.mapUpdate 101 (.map (some W.heap.size)) (.string ⟨#[40]⟩) (.func (.func 104) #[.pointer (some ⟨g,0,none⟩)] #[])).run Tryz.prog (W.alloc (.map #[] 0))=.ok () w1∧
    (Instr.mapUpdate 101 (.map (some W.heap.size)) (.string ⟨#[91]⟩) (.func (.func 104) #[.pointer (some ⟨g,0,none⟩)] #[])).run Tryz.prog w1=.ok () w2∧
    (Instr.mapUpdate 101 (.map (some W.heap.size)) (.string ⟨#[123]⟩) (.func (.func 104) #[.pointer (some ⟨g,0,none⟩)] #[])).run Tryz.prog w2=.ok () w3∧
    (Instr.mapUpdate 101 (.map (some W.heap.size)) (.string ⟨#[41]⟩) (.func (.func 105) #[.pointer (some ⟨g,0,none⟩)] #[])).run Tryz.prog w3=.ok () w4∧
    (Instr.mapUpdate 101 (.map (some W.heap.size)) (.string ⟨#[93]⟩) (.func (.func 105) #[.pointer (some ⟨g,0,none⟩)] #[])).run Tryz.prog w4=.ok () w5∧
    (Instr.mapUpdate 101 (.map (some W.heap.size)) (.string ⟨#[125]⟩) (.func (.func 105) #[.pointer (some ⟨g,0,none⟩)] #[])).run Tryz.prog w5=.ok () w6∧
    (Instr.mapUpdate 101 (.map (some W.heap.size)) (.string ⟨#[101,110,100]⟩) (.func (.func 105) #[.pointer (some ⟨g,0,none⟩)] #[])).run Tryz.prog w6=.ok () w7∧
    Acts g W.heap.size 7 (actTab []) w7∧Below W.heap.size W w7:=by
  have b0:Below W.heap.size W (W.alloc (.map #[] 0)):=below_alloc (Below.refl _ _) _
  obtain ⟨w1,e1,a1,g1⟩:=(Acts.made g W).put (by decide) (s:=⟨#[40]⟩) (by decide) true
  have b1:=b0.trans (below_grown g1 (Nat.le_refl _) b0.size)
  obtain ⟨w2,e2,a2,g2⟩:=a1.put (by decide) (s:=⟨#[91]⟩) (by decide) true
  have b2:=b1.trans (below_grown g2 (Nat.le_refl _) b1.size)
  obtain ⟨w3,e3,a3,g3⟩:=a2.put (by decide) (s:=⟨#[123]⟩) (by decide) true
  have b3:=b2.trans (below_grown g3 (Nat.le_refl _) b2.size)
  obtain ⟨w4,e4,a4,g4⟩:=a3.put (by decide) (s:=⟨#[41]⟩) (by decide) false
  have b4:=b3.trans (below_grown g4 (Nat.le_refl _) b3.size)
  obtain ⟨w5,e5,a5,g5⟩:=a4.put (by decide) (s:=⟨#[93]⟩) (by decide) false
  have b5:=b4.trans (below_grown g5 (Nat.le_refl _) b4.size)
  obtain ⟨w6,e6,a6,g6⟩:=a5.put (by decide) (s:=⟨#[125]⟩) (by decide) false
  have b6:=b5.trans (below_grown g6 (Nat.le_refl _) b5.size)
  obtain ⟨w7,e7,a7,g7⟩:=a6.put (by decide) (s:=⟨#[101,110,100]⟩) (by decide) false
  have b7:=b6.trans (below_grown g7 (Nat.le_refl _) b6.size)
  exact ⟨w1,w2,w3,w4,w5,w6,w7,e1,e2,e3,e4,e5,e6,e7,a7,b7⟩
set_option maxHeartbeats 6400000 in
set_option maxRecDepth 100000 in
theorem acts_c (h : Rd w g A0 c0 l A1 c1 ws o at_ tv top sv fs W) (hW : Kd.C Kd.string w A1 ws.length ws) (hws : ws.length ≤ 40) (hsz : ∀ x ∈ ws, x.size ≤ maxLen) :
    Calls Tryz.prog 74 #[.pointer (some ⟨g,0,none⟩)] W fun e W'=> ∃b n,e=.returned (.map (some b))∧Acts g b n (actTab (openers++ws)) W'∧Below W.heap.size W W'∧W.heap.size≤b:=by
  obtain ⟨w1,w2,w3,w4,w5,w6,w7,e1,e2,e3,e4,e5,e6,e7,a7,b7⟩:=seven_acts g W
  have e0:(Instr.makeMap 101 none).run Tryz.prog W=.ok (.map (some W.heap.size)) (W.alloc (.map #[] 0)):=run_makeMap _ W
  have k2:W.cell? ⟨g,2,none⟩=some (.slice A1 ws.length c1):=blk_cell h.blk 2
  have k2:=pw_cell_below b7 k2
  have A7:=Lib.hid a7
  have B7:=Lib.hid b7
  have H0:=Lib.hid h
  have HW:Hid (∀X:World,Below w7.heap.size w7 X→Kd.C Kd.string X A1 ws.length ws):=Lib.hid (fun X hb=>Kd.C_below (Kd.C_below (Kd.C_below hW h.bel) b7) hb)
  clear a7 b7 h hW
  go_enter Tryz.func74,Tryz.ntmps74
  go_upto_region 2 with (fail)
  have HWD:=Lib.hid (fun (X:World)=>fragment_Words.calls openers X rfl)
  have HS:Hid (∀w':World,Below w7.heap.size w7 w'→w'.cell? ⟨g,2,none⟩=some (.slice A1 ws.length c1)):=Lib.hid (fun w' hb=>pw_cell_below hb k2)
  clear e0 e1 e2 e3 e4 e5 e6 e7
  go_cut [27,28,29] (fun vs vn vi wd=>vn=.int .i64 ((openers++ws).length:Nat)∧vi=.int .i64 0∧Hid (Below w7.heap.size w7 wd)∧ ∃A c,vs=.slice A (openers++ws).length c∧Hid (Kd.C Kd.string wd A (openers++ws).length (openers++ws)))
  case first=>
    refine wp_region_held_drew (S:=fun w'=>w'.cell? ⟨g,2,none⟩=some (.slice A1 ws.length c1)) (by kernel_rfl) ?_ (fun hHeld=> ?_)
    · exact HS.out _ (Below.drew (Below.refl _ _))
    refine wpAnyH_take (i:=1) (v:= ?_) rfl (by kernel_rfl) (by kernel_rfl) (by kernel_rfl) (fun _ _ _ h=>h) (Or.inl ⟨by rfl, ?hy⟩) (by assumption) ?_
    case hy=>
      intro w hSw
      try dsimp only at hSw
      simp only [List.getElem_toArray,List.getElem_cons_zero,List.getElem_cons_succ]
      go_simp
      try with_reducible rfl
    simp only [List.getElem_toArray,List.getElem_cons_zero,List.getElem_cons_succ,Act.put,List.setIfInBounds_toArray,List.set_cons_zero,List.set_cons_succ]
    refine wpAnyH_take (i:=2) (v:= ?_) rfl (by kernel_rfl) (by kernel_rfl) (by kernel_rfl) (fun _ _ _ h=>h) (Or.inl ⟨by rfl, ?hy⟩) (by assumption) ?_
    case hy=>
      intro w hSw
      try dsimp only at hSw
      simp only [List.getElem_toArray,List.getElem_cons_zero,List.getElem_cons_succ]
      go_simp
      try with_reducible rfl
    simp only [List.getElem_toArray,List.getElem_cons_zero,List.getElem_cons_succ,Act.put,List.setIfInBounds_toArray,List.set_cons_zero,List.set_cons_succ]
    refine wpAnyH_take (i:=3) (v:= ?_) rfl (by kernel_rfl) (by kernel_rfl) (by kernel_rfl) (fun _ _ _ h=>h) (Or.inl ⟨by rfl, ?hy⟩) (by assumption) ?_
    case hy=>
      intro w hSw
      try dsimp only at hSw
      simp only [List.getElem_toArray,List.getElem_cons_zero,List.getElem_cons_succ]
      go_simp
      try with_reducible rfl
    simp only [List.getElem_toArray,List.getElem_cons_zero,List.getElem_cons_succ,Act.put,List.setIfInBounds_toArray,List.set_cons_zero,List.set_cons_succ]
    refine wpAnyH_take (i:=4) (v:= ?_) rfl (by kernel_rfl) (by kernel_rfl) (by kernel_rfl) (fun _ _ _ h=>h) (Or.inl ⟨by rfl, ?hy⟩) (by assumption) ?_
    case hy=>
      intro w hSw
      try dsimp only at hSw
      simp only [List.getElem_toArray,List.getElem_cons_zero,List.getElem_cons_succ]
      go_simp
      try with_reducible rfl
    simp only [List.getElem_toArray,List.getElem_cons_zero,List.getElem_cons_succ,Act.put,List.setIfInBounds_toArray,List.set_cons_zero,List.set_cons_succ]
    refine wpAnyH_take (i:=7) (v:= ?_) rfl (by kernel_rfl) (by kernel_rfl) (by kernel_rfl) (fun _ _ _ h=>h) (Or.inl ⟨by rfl, ?hy⟩) (by assumption) ?_
    case hy=>
      intro w hSw
      try dsimp only at hSw
      simp only [List.getElem_toArray,List.getElem_cons_zero,List.getElem_cons_succ]
      go_simp
      try with_reducible rfl
    simp only [List.getElem_toArray,List.getElem_cons_zero,List.getElem_cons_succ,Act.put,List.setIfInBounds_toArray,List.set_cons_zero,List.set_cons_succ]
    refine wpAnyH_ready (rs:=[0]) (by kernel_rfl) (by simp) ?_
    refine AllReadyH.cons rfl (fun K hK=> ?_) ?_
    · simp only [List.getElem_toArray,List.getElem_cons_zero,List.getElem_cons_succ]
      go_simp
      go_at_call 18
      refine (HWD.out _).mono ?_
      rintro e W3 ⟨v0,rfl,hR,hb3⟩
      have HB3:Hid (Below w7.heap.size w7 W3):=Lib.hid ((Below.drew (Below.refl _ _)).trans hb3)
      obtain ⟨v1,w9,hrun,hR9,hB9⟩:=app_strs (P:=Tryz.prog) (t:=23) (ty:=23) (c:=c1) Tryz.underlying23 (by kernel_rfl) hR (HW.out _ HB3.out) (fun _ _=>trivial) hb3.size (by rw [show openers.length=6 from rfl];omega)
      have HB9:Hid (Below w7.heap.size w7 w9):=Lib.hid (HB3.out.trans hB9)
      have H3:=HS.out _ HB3.out
      have H9:=HS.out _ HB9.out
      obtain ⟨A9,c9,rfl,hle9,hC9⟩:=Kd.R_reads hR9
      have HC9:=Lib.hid hC9
      clear hR hb3 hR9 hB9 hC9
      go_simp
      refine hK.out _ _ ?_ (fun hHeld=> ?_)
      · exact H3
      clear hK K
      try simp only [List.getElem_toArray,List.getElem_cons_zero,List.getElem_cons_succ,Act.put,List.setIfInBounds_toArray,List.set_cons_zero,List.set_cons_succ]
      refine wpAnyH_ready (rs:=[5]) (by kernel_rfl) (by simp) ?_
      refine AllReadyH.cons rfl (fun K hK=> ?_) ?_
      · simp only [List.getElem_toArray,List.getElem_cons_zero,List.getElem_cons_succ]
        go_simp
        refine hK.out _ _ ?_ (fun hHeld=> ?_)
        · exact H9
        clear hK K
        try simp only [List.getElem_toArray,List.getElem_cons_zero,List.getElem_cons_succ,Act.put,List.setIfInBounds_toArray,List.set_cons_zero,List.set_cons_succ]
        refine wpAnyH_ready (rs:=[6]) (by kernel_rfl) (by simp) ?_
        refine AllReadyH.cons rfl (fun K hK=> ?_) ?_
        · simp only [List.getElem_toArray,List.getElem_cons_zero,List.getElem_cons_succ]
          go_simp
          refine hK.out _ _ ?_ (fun hHeld=> ?_)
          · exact H9
          clear hK K
          try simp only [List.getElem_toArray,List.getElem_cons_zero,List.getElem_cons_succ,Act.put,List.setIfInBounds_toArray,List.set_cons_zero,List.set_cons_succ]
          refine wpAnyH_done (by kernel_rfl) ?_ _
          go_wp2
          go_meet
          case rel=>exact ⟨by first|rfl|(rw [List.length_append];rfl)|simp,rfl,HB9,A9,c9,by rw [List.length_append],HC9⟩
        exact AllReadyH.nil
      exact AllReadyH.nil
    exact AllReadyH.nil
  case rest=>
    obtain ⟨rfl,rfl,HB,A,c,rfl,HCS⟩:=hcut
    have HA:Hid (Acts g W.heap.size 7 (actTab []) wc):=Lib.hid (A7.out.below HB.out)
    have HBW:Hid (Below W.heap.size W wc):=Lib.hid (B7.out.trans (HB.out.mono B7.out.size))
    have HSZ:Hid (∀x∈openers++ws,x.size≤maxLen):=Lib.hid (fun x hx=>by
      rcases List.mem_append.1 hx with h|h
      · exact Nat.le_trans ((show∀y∈openers,y.size≤100 by decide) x h) (by decide)
      · exact hsz x h)
    obtain ⟨xs,hxs⟩: ∃xs,openers++ws=xs:=⟨_,rfl⟩
    obtain ⟨n,hn⟩: ∃n,xs.length=n:=⟨_,rfl⟩
    have hn46:n≤46:=by rw [←hn,←hxs,List.length_append,show openers.length=6 from rfl];omega
    rw [hxs,hn] at HCS
    rw [hxs] at HSZ
    simp only [hxs,hn]
    have HXS:=Lib.hid hxs
    have HN:=Lib.hid hn
    obtain ⟨mb,hmb⟩: ∃b,W.heap.size=b:=⟨_,rfl⟩
    simp only [hmb] at HA⊢
    clear HWD HS A7 B7 H0 HW k2 HB hsz hxs hn
    have HCJ:Hid (∀j,j<n→ ∃ad,A=some ad∧wc.cell? (ad.add j)=some (.string (rdOf ByteArray.empty xs (j:Int)))):=Lib.hid (fun j hj=>by
      obtain ⟨ad,e,hc⟩:=Kd.at_string HCS.out (j:Int) (by omega) (by omega)
      exact ⟨ad,e,by simpa using hc⟩)
    have HMB:Hid (W.heap.size≤mb):=Lib.hid (by omega)
    clear hmb HCS
    go_wp2
    go_loopg [29] n (fun kq v wr=> ∃i:Nat,v=.int .i64 i∧i≤n∧kq=n-i∧Hid (Acts g mb (7+i) (actTab (xs.take i)) wr)∧Hid (∀j,j<n→ ∃ad,A=some ad∧wr.cell? (ad.add j)=some (.string (rdOf ByteArray.empty xs (j:Int))))∧Hid (Below W.heap.size W wr))
    case atStart=>exact ⟨0,rfl,Nat.zero_le _,rfl,HA,HCJ,HBW⟩
    case round=>
      obtain ⟨i,rfl,hin,hkq,HAi,HCi,HBi⟩:=hrel
      have HKQ:=Lib.hid hkq
      clear hkq HA HCJ HBW
      by_cases hlt:i<n
      · have x1:decide (i<n)=true:=decide_eq_true hlt
        obtain ⟨ad,rfl,t0⟩:=HCi.out i hlt
        obtain ⟨S,hS⟩: ∃S,rdOf ByteArray.empty xs (i:Int)=S:=⟨_,rfl⟩
        rw [hS] at t0
        have hSz:S.size≤maxLen:=by
          rw [←hS]
          have e:rdOf ByteArray.empty xs (i:Int)=xs[i]'(by rw [HN.out];exact hlt):=by simp [rdOf,List.getD_eq_getElem?_getD,List.getElem?_eq_getElem (show i<xs.length by rw [HN.out];exact hlt)]
          rw [e]
          exact HSZ.out _ (List.getElem_mem _)
        obtain ⟨w2,hrun,ha2,hg2⟩:=HAi.out.put (by simp only [maxLen];omega) hSz true
        have hrun2:(Instr.mapUpdate 101 (.map (some mb)) (.string S) (.func (.func 104) #[.pointer (some ⟨g,0,none⟩)] #[])).run Tryz.prog wr=.ok () w2:=hrun
        have x2:(0:Int)≤(i:Int):=by omega
        have x3:(i:Int)<(n:Int):=by omega
        have x4:wrap64 ((i:Int)+1)=((i+1:Nat):Int):=by unfold wrap64;omega
        have HA2:Hid (Acts g mb (7+(i+1)) (actTab (xs.take (i+1))) w2):=Lib.hid (by rw [actTab_step xs i (by rw [HN.out];exact hlt),hS];exact ha2)
        have HC2:Hid (∀j,j<n→ ∃ad',some ad=some ad'∧w2.cell? (ad'.add j)=some (.string (rdOf ByteArray.empty xs (j:Int)))):=Lib.hid (fun j hj=>by
          obtain ⟨ad',e,hc⟩:=HCi.out j hj
          exact ⟨ad',e,HAi.out.cell hg2 hc⟩)
        have HB2:Hid (Below W.heap.size W w2):=Lib.hid (HBi.out.trans (below_grown hg2 HMB.out HBi.out.size))
        clear hrun ha2 hg2 hS hSz
        go_wp2_with fail
        go_roundg (gk-1)
        case measure=>have:=HKQ.out;omega
        case rel=>exact ⟨i+1,by go_num,by omega,by have:=HKQ.out;omega,HA2,HC2,HB2⟩
      · obtain rfl:i=n:=by omega
        have x1:decide (i<i)=false:=decide_eq_false hlt
        have HF:Hid (Acts g mb (7+i) (actTab xs) wr):=Lib.hid (by
          have:=HAi.out
          rw [List.take_of_length_le (by rw [HN.out];exact Nat.le_refl _)] at this
          exact this)
        go_wp2
        go_ret
        exact ⟨mb,7+i,rfl,by rw [HXS.out];exact HF.out,HBi.out,HMB.out⟩
end
end Go.Proofs.YtipnlgmeonepfaaGreatDoor.PFa

set_option linter.unusedVariables false
namespace Go.Proofs.YtipnlgmeonepfaaGreatDoor.PFa
/-- A reader's state behind a token: it goes on at this index, or it has refused there with this error. -/
inductive St where
  |go (i:Nat) (top:List Fg) (ps:List PF)
  |bad (i:Nat) (e:Int)
def slotName:ByteArray:=⟨#[115,108,111,116]⟩
def endText:List UInt8:=[101,110,100]
/-- Is this token a leaf, whatever its text does? -/
def leafB (l:List Tk) (i:Nat) (ps:List PF) (a:Option Bool):Bool:=
  (!a.isSome||(!((tkAt l i).f0==1)&& !((tkAt l i).f0==5)))||(((tkAt l i).f2.toList==cClass)&&isNm l (i+1) slotName)||(((tkAt l i).f0==1)&& !((tkAt l i).f2.toList==endText)&&nmd i ps)
/-- The first of the next n tokens that is not valid. -/
def badIn (l:List Tk) (i:Nat):Nat→Option Nat
  |0=>none
  |n+1=>match badIn l i n with
    |some j=>some j
    |none=>if Pure.good (tkAt l (i+1+n))=true then none else some n
def step (tab:List (ByteArray×Bool)) (l:List Tk) (i:Nat) (top:List Fg) (ps:List PF):St:=
  if Pure.good (tkAt l i)=true then
    if leafB l i ps (actIn tab (tkAt l i).f2)=true then .go (i+1) (addT top ⟨tkAt l i,⟨#[]⟩,[]⟩ ps) (addP ⟨tkAt l i,⟨#[]⟩,[]⟩ ps)
    else if actIn tab (tkAt l i).f2=some true then
      if ps.length=100 then .bad i 6 else .go (i+1) top (⟨tkAt l i,i,[]⟩::ps)
    else match ps with
      |[]=> .bad i 20
      |p::r=>
        if (closeTx p.tok.f2).toList=(tkAt l i).f2.toList then
          match badIn l i (dropN l i p.tok p.kids) with
          |some j=> .bad (i+1+j) 14
          |none=> .go (i+dropN l i p.tok p.kids+1) (addT top ⟨p.tok,p.tok.f2,p.kids⟩ r) (addP ⟨p.tok,p.tok.f2,p.kids⟩ r)
        else .bad i 20
  else .bad i 14
/-- All tokens, so many steps at most. -/
def mach (tab:List (ByteArray×Bool)) (l:List Tk):Nat→Nat→List Fg→List PF→St
  |0,i,top,ps=> .go i top ps
  |k+1,i,top,ps=>
    if i<l.length then
      match step tab l i top ps with
      | .bad j e=> .bad j e
      | .go j t p=>mach tab l k j t p
    else .go i top ps
/-- How much lies in memory: no more than tokens have been read. -/
def bulk (top:List Fg):List PF→Nat
  |[]=>top.length
  |p::r=>bulk top r+p.kids.length+1
theorem bulk_leaf (top:List Fg) (x:Fg) (ps:List PF):bulk (addT top x ps) (addP x ps)=bulk top ps+1:=by
  cases ps with
  |nil=>simp [bulk,addT,addP]
  |cons p r=>
    have:addT top x (p::r)=top:=rfl
    rw [this]
    show bulk top r+(p.kids++[x]).length+1=bulk top r+p.kids.length+1+1
    rw [List.length_append,List.length_singleton]
    omega
theorem bulk_step {tab:List (ByteArray×Bool)} {l:List Tk} {i j:Nat} {top t:List Fg} {ps p:List PF} (hb:bulk top ps≤i) (h:step tab l i top ps=.go j t p):bulk t p≤j:=by
  cases ps with
  |nil=>
    unfold step at h
    split at h
    · split at h
      · injection h with h1 h2 h3
        rw [←h1,←h2,←h3,bulk_leaf]
        omega
      · split at h
        · split at h
          · cases h
          · injection h with h1 h2 h3
            rw [←h1,←h2,←h3]
            show bulk top []+0+1≤i+1
            omega
        · cases h
    · cases h
  |cons q r=>
    have e:bulk top (q::r)=bulk top r+q.kids.length+1:=rfl
    unfold step at h
    split at h
    · split at h
      · injection h with h1 h2 h3
        rw [←h1,←h2,←h3,bulk_leaf]
        omega
      · split at h
        · split at h
          · cases h
          · injection h with h1 h2 h3
            rw [←h1,←h2,←h3]
            show bulk top (q::r)+0+1≤i+1
            omega
        · dsimp only at h
          split at h
          · split at h
            · cases h
            · injection h with h1 h2 h3
              rw [←h1,←h2,←h3,bulk_leaf]
              omega
          · cases h
    · cases h
end Go.Proofs.YtipnlgmeonepfaaGreatDoor.PFa

set_option linter.unusedVariables false
namespace Go.Proofs.YtipnlgmeonepfaaGreatDoor.PFa
open Go.RowKit Go.Proofs.YtipnlgmeonepfaaGreatDoorW.PrintWords Go.Proofs.YtipnlgmeonepfaaGreatDoorW.PrintLast Go.Proofs.YtipnlgmeonepfaaGreatDoorW.PrintMore
/-- Two lists of tokens that have the same first n tokens. -/
def Agree (l l':List Tk) (n:Nat):Prop:= ∀j,j<n→j<l.length∧j<l'.length∧tkAt l j=tkAt l' j
section
variable {l l':List Tk} {n i:Nat} {tab:List (ByteArray×Bool)} {top:List Fg} {ps:List PF}
theorem step_on {j:Nat} {t:List Fg} {p:List PF} (hs:step tab l i top ps=.go j t p):i<j:=by
  unfold step at hs
  split at hs
  · split at hs
    · injection hs with hs _ _;omega
    · split at hs
      · split at hs
        · cases hs
        · injection hs with hs _ _;omega
      · split at hs
        · cases hs
        · split at hs
          · split at hs
            · cases hs
            · injection hs with hs _ _;omega
          · cases hs
  · cases hs
end
end Go.Proofs.YtipnlgmeonepfaaGreatDoor.PFa

set_option linter.unusedVariables false
set_option linter.unusedSimpArgs false
namespace Go.Proofs.YtipnlgmeonepfaaGreatDoor.PFa
open Go.RowKit Go.Proofs.YtipnlgmeonepfaaGreatDoorW.PrintWords Go.Proofs.YtipnlgmeonepfaaGreatDoorW.PrintLast Go.Proofs.YtipnlgmeonepfaaGreatDoorW.PrintMore
open Go.Proofs.YtipnlgmeonepfaaGreatDoor.Lx (Kp)
theorem Acts.same {g b n:Nat} {tab:List (ByteArray×Bool)} {W W':World} (h:Acts g b n tab W) (hk:W'.heap[b]? =W.heap[b]?):Acts g b n tab W':=by
  obtain ⟨D,⟨es,clock,hb,r⟩,h2⟩:=h
  exact ⟨D,⟨es,clock,hk.trans hb,r⟩,h2⟩
theorem dropN_lt {l:List Tk} {i:Nat} (hi:i<l.length) (T:Tk) (kids:List Fg):i+dropN l i T kids<l.length:=by
  unfold dropN
  split
  · split
    · rename_i h
      have:=nameAt_lt h.2.1
      omega
    · split
      · rename_i h
        rcases h.1 with h|h
        · exact isNm_lt h
        · exact nameAt_lt h
      · exact hi
  · exact hi
theorem badIn_none {l:List Tk} {i:Nat}: ∀{n:Nat},(∀j,j<n→Pure.good (tkAt l (i+1+j))=true)→badIn l i n=none
  |0,_=>rfl
  |n+1,h=>by
    unfold badIn
    rw [badIn_none (n:=n) (fun j hj=>h j (by omega))]
    dsimp only
    rw [if_pos (h n (by omega))]
theorem badIn_some {l:List Tk} {i j:Nat}: ∀{n:Nat},j<n→(∀k,k<j→Pure.good (tkAt l (i+1+k))=true)→Pure.good (tkAt l (i+1+j))=false→badIn l i n=some j
  |0,h,_,_=>by omega
  |n+1,h,h1,h2=>by
    unfold badIn
    by_cases e:j=n
    · subst e
      rw [badIn_none h1]
      dsimp only
      rw [if_neg (by rw [h2];decide)]
    · rw [badIn_some (n:=n) (by omega) h1 h2]
theorem step_none {tab:List (ByteArray×Bool)} {l:List Tk} {i:Nat} {top:List Fg} (hg:Pure.good (tkAt l i)=true) (hl:leafB l i [] (actIn tab (tkAt l i).f2)=false) (ha:actIn tab (tkAt l i).f2=some false):step tab l i top []=.bad i 20:=by
  unfold step
  rw [if_pos hg,if_neg (by rw [hl];decide),ha,if_neg (by decide)]
theorem step_close {tab : List (ByteArray × Bool)} {l : List Tk} {i : Nat} {top : List Fg} {p : PF} {r : List PF} (hg : Pure.good (tkAt l i) = true) (hl : leafB l i (p :: r) (actIn tab (tkAt l i).f2) = false) (ha : actIn tab (tkAt l i).f2 = some false) :
    step tab l i top (p::r)=if (closeTx p.tok.f2).toList=(tkAt l i).f2.toList then (match badIn l i (dropN l i p.tok p.kids) with
      |some j=> .bad (i+1+j) 14
      |none=> .go (i+dropN l i p.tok p.kids+1) (addT top ⟨p.tok,p.tok.f2,p.kids⟩ r) (addP ⟨p.tok,p.tok.f2,p.kids⟩ r)) else .bad i 20:=by
  unfold step
  rw [if_pos hg,if_neg (by rw [hl];decide),ha,if_neg (by decide)]
  all_goals rfl
theorem step_in {tab:List (ByteArray×Bool)} {l:List Tk} {i j:Nat} {top t:List Fg} {ps p:List PF} (hi:i<l.length) (hd:ps.length≤100) (ha: ∀x∈ps,x.at_≤i) (h:step tab l i top ps=.go j t p):j≤l.length∧p.length≤100∧ ∀x∈p,x.at_≤j:=by
  have leaf: ∀(x:Fg) (ps:List PF) (k:Nat),i≤k→ps.length≤100→(∀y∈ps,y.at_≤i)→(addP x ps).length≤100∧ ∀y∈addP x ps,y.at_≤k:=by
    intro x ps k hk h1 h2
    cases ps with
    |nil=>exact ⟨h1,fun y hy=>absurd hy (by simp [addP])⟩
    |cons q r=>
      refine ⟨h1,fun y hy=> ?_⟩
      rcases List.mem_cons.1 hy with rfl|hy
      · have:=h2 q List.mem_cons_self
        exact Nat.le_trans this hk
      · have:=h2 y (List.mem_cons_of_mem _ hy)
        omega
  unfold step at h
  split at h
  · split at h
    · injection h with h1 h2 h3
      rw [←h1,←h3]
      exact ⟨hi,leaf _ ps _ (by omega) hd ha⟩
    · split at h
      · split at h
        · cases h
        · injection h with h1 h2 h3
          rw [←h1,←h3]
          refine ⟨hi,by simp;omega,fun x hx=> ?_⟩
          rcases List.mem_cons.1 hx with rfl|hx
          · exact Nat.le_succ i
          · have:=ha x hx
            omega
      · cases ps with
        |nil=>cases h
        |cons q r=>
          dsimp only at h
          split at h
          · split at h
            · cases h
            · injection h with h1 h2 h3
              have:=dropN_lt hi q.tok q.kids
              rw [←h1,←h3]
              exact ⟨by omega,leaf _ r _ (by omega) (by simp at hd;omega) (fun y hy=>ha y (List.mem_cons_of_mem _ hy))⟩
          · cases h
  · cases h
/-- What lies in memory at the head of read's loop: the reader, and the map. -/
structure ReadAt (w:World) (g:Nat) (A0:Option Addr) (c0:Nat) (l:List Tk) (A1:Option Addr) (c1:Nat) (ws:List ByteArray) (b n:Nat) (tab:List (ByteArray×Bool)) (at_:Nat) (top:List Fg) (ps:List PF) (W:World):Prop where
  rd:RdZ w g A0 c0 l A1 c1 ws at_ top ps (fun k=>k=b) W
  acts:Acts g b n tab W
  blk:bulk top ps≤at_
  deep:ps.length≤100
  ats: ∀p∈ps,p.at_≤at_
/-- What read comes to: the machine's end. -/
def ReadPost (w:World) (g:Nat) (A0:Option Addr) (c0:Nat) (l:List Tk) (A1:Option Addr) (c1:Nat) (ws:List ByteArray) (tab:List (ByteArray×Bool)) (e:Ending) (W':World):Prop:=
  match mach tab l (l.length+1) 0 [] [] with
  | .bad i er=>e=endR i er∧Below w.heap.size w W'
  | .go i top []=>e=.returned (.tuple #[])∧RdAt w g A0 c0 l A1 c1 ws i top [] W'
  | .go _ _ (p::_)=>e=endR p.at_ 21∧Below w.heap.size w W'
section
variable {w W W':World} {g:Nat} {A0:Option Addr} {c0:Nat} {l:List Tk} {A1:Option Addr} {c1:Nat} {ws:List ByteArray} {o:Nat→Nat} {tv:Value} {sv:Value}
set_option maxHeartbeats 6400000 in
set_option maxRecDepth 100000 in
theorem read_c (h : Rd w g A0 c0 l A1 c1 ws o 0 tv [] sv [] W) (hC : Kd.C k39 w A0 l.length l) (hl : l.length ≤ 6000) (hE : Lx.Env w) (hW : Kd.C Kd.string w A1 ws.length ws) (hws : ws.length ≤ 40) (hsz : ∀ x ∈ ws, x.size ≤ maxLen) :
    Calls Tryz.prog 49 #[.pointer (some ⟨g,0,none⟩)] W (ReadPost w g A0 c0 l A1 c1 ws (actTab (openers++ws))):=by
  suffices H: ∀K:Ending→World→Prop,(∀e W',ReadPost w g A0 c0 l A1 c1 ws (actTab (openers++ws)) e W'→K e W')→Calls Tryz.prog 49 #[.pointer (some ⟨g,0,none⟩)] W K from H _ (fun _ _ h=>h)
  intro K hK
  have HK:=Lib.hid hK
  clear hK
  have HACT:=Lib.hid (acts_c h hW hws hsz)
  have H0:=Lib.hid h
  have HC:=Lib.hid hC
  have HE:=Lib.hid hE
  clear h hC hE hW
  go_enter Tryz.func49,Tryz.ntmps49
  go_wp2_with fail
  refine HACT.out.mono ?_
  rintro e W2 ⟨b,n,rfl,ha,hb2,hbn⟩
  have HR2:Hid (ReadAt w g A0 c0 l A1 c1 ws b n (actTab (openers++ws)) 0 [] [] W2):=Lib.hid (by
    obtain ⟨o',h',hc,_⟩:=H0.out.clip
    have hgl:=blk_lt H0.out.blk
    refine ⟨⟨o',tv,sv,[],h'.below hb2,rfl, ?_⟩,ha,Nat.le_refl _,by simp,by simp⟩
    rintro k rfl
    exact ⟨hc k hbn,by omega,by simp⟩)
  clear ha hb2 hbn H0 HACT
  go_wp2_with fail
  go_loopg [] (l.length+1) (fun kq wr=> ∃i top ps,l.length+1-i≤kq∧i≤l.length∧mach (actTab (openers++ws)) l (l.length+1) 0 [] []=mach (actTab (openers++ws)) l kq i top ps∧Hid (ReadAt w g A0 c0 l A1 c1 ws b n (actTab (openers++ws)) i top ps wr))
  case atStart=>exact ⟨0,[],[],Nat.le_refl _,Nat.zero_le _,rfl,HR2⟩
  case round=>
    obtain ⟨i,top,ps,hkq,hil,hm,HR⟩:=hrel
    have HKQ:=Lib.hid hkq
    have HM:=Lib.hid hm
    clear hkq hm HR2
    obtain ⟨o2,tv2,sv2,fs,hrd,hps,hz⟩:=HR.out.rd
    have HRD:=Lib.hid hrd
    have HPS:=Lib.hid hps
    have HZ:=Lib.hid hz
    have k0:wr.cell? ⟨g,0,none⟩=some (.slice A0 l.length c0):=blk_cell hrd.blk 0
    have k1:wr.cell? ⟨g,1,none⟩=some (.int .i64 i):=blk_cell hrd.blk 1
    clear hrd hps hz
    by_cases hlt:i<l.length
    · have x1:decide (i<l.length)=true:=decide_eq_true hlt
      have x2:(0:Int)≤(i:Int):=by omega
      have x3:(i:Int)<(l.length:Int):=by omega
      obtain ⟨ad,had,t0,t1,t2,t3,t4⟩:=at_T39 (Kd.C_below HC.out HRD.out.bel) (i:Int) (by omega) (by omega)
      subst had
      obtain ⟨T,hT⟩: ∃T,rd_T39 l (i:Int)=T:=⟨_,rfl⟩
      have HT:Hid (tkAt l i=T):=Lib.hid hT
      rw [hT] at t0 t1 t2 t3 t4
      simp only [Int.toNat_natCast] at t0 t1 t2 t3 t4
      clear hT
      have HV:Hid (∀X,Below wr.heap.size wr X→Calls Tryz.prog 75 #[.pointer (some ⟨g,0,none⟩)] X (ValPost i T X)):=Lib.hid (fun X hb=>by
        have:=valid_c (HRD.out.below hb) HC.out hl hlt HE.out
        rwa [HT.out] at this)
      have HPB:Hid (∀(j:Nat) (er:Int) (X:World),step (actTab (openers++ws)) l i top ps=.bad j er→Below w.heap.size w X→K (endR j er) X):=Lib.hid (fun j er X hs hb=>HK.out _ _<|by
        unfold ReadPost
        obtain ⟨k,hk⟩: ∃k,gk=k+1:=⟨gk-1,by have:=HKQ.out;omega⟩
        rw [HM.out,hk]
        unfold mach
        rw [if_pos hlt,hs]
        exact ⟨rfl,hb⟩)
      have HNX:Hid (∀(i':Nat) (top':List Fg) (ps':List PF) (X:World),step (actTab (openers++ws)) l i top ps=.go (i'+1) top' ps'→RdZ w g (some ad) c0 l A1 c1 ws i' top' ps' (fun k=>k=b) X→Acts g b n (actTab (openers++ws)) X→ ∃i2 top2 ps2,l.length+1-i2≤gk-1∧i2≤l.length∧mach (actTab (openers++ws)) l (l.length+1) 0 [] []=mach (actTab (openers++ws)) l (gk-1) i2 top2 ps2∧Hid (ReadAt w g (some ad) c0 l A1 c1 ws b n (actTab (openers++ws)) i2 top2 ps2 (X.setCell ⟨g,1,none⟩ (.int .i64 ((i'+1:Nat):Int))))):=Lib.hid (fun i' top' ps' X hs hr ha=>by
        obtain ⟨h1,h2,h3⟩:=step_in hlt HR.out.deep HR.out.ats hs
        have h4:=bulk_step HR.out.blk hs
        have h5:=step_on hs
        refine ⟨i'+1,top',ps',by have:=HKQ.out;omega,h1, ?_,Lib.hid ⟨?_, ?_,h4,h2,h3⟩⟩
        · obtain ⟨k,hk⟩: ∃k,gk=k+1:=⟨gk-1,by have:=HKQ.out;omega⟩
          rw [HM.out,hk]
          show _=mach (actTab (openers++ws)) l k (i'+1) top' ps'
          rw [mach,if_pos hlt,hs]
        · obtain ⟨o',tv',sv',fs',q1,q2,q3⟩:=hr
          exact ⟨o',tv',sv',fs',q1.setAt (i'+1),q2,q3⟩
        · obtain ⟨o',tv',sv',fs',q1,q2,q3⟩:=hr
          exact ha.same (Below.heap_setCell _ _ _ b (q3 b rfl).2.1))
      go_upto_region 1 with (fail)
      go_quiet (fail)
      go_upto_block 1 with (fail)
      go_cut [] (fun wc=> ∃(i':Nat) (top':List Fg) (ps':List PF),Hid (step (actTab (openers++ws)) l i top ps=.go (i'+1) top' ps')∧Hid (RdZ w g (some ad) c0 l A1 c1 ws i' top' ps' (fun k=>k=b) wc)∧Hid (Acts g b n (actTab (openers++ws)) wc))
      case' rest=>
        obtain ⟨i',top',ps',HS',HZ',HA'⟩:=hcut
        obtain ⟨o',tv',sv',fs',hr',_,_⟩:=HZ'.out
        have q1:wc.cell? ⟨g,1,none⟩=some (.int .i64 i'):=blk_cell hr'.blk 1
        have q2:wc.frozen? ⟨g,1,none⟩=false:=blk_frozen hr'.blk 1
        have hi':=step_in hlt HR.out.deep HR.out.ats HS'.out
        have y1:wrap64 ((i':Int)+1)=((i'+1:Nat):Int):=by unfold wrap64;omega
        have HQ:=HNX.out i' top' ps' wc HS'.out HZ'.out HA'.out
        clear hr' hi' k0 k1 t0 t1 t2 t3 t4
        go_wp2
        go_roundg (gk-1)
        case measure=>have:=HKQ.out;omega
        case rel=>exact HQ
      go_wp2_with fail
      refine (HV.out _ (by repeat (with_reducible first|exact Below.refl _ _|apply pw_below_drewN|apply Below.drew))).mono ?_
      rintro e W3 ⟨he,hb3⟩
      replace hb3:Below wr.heap.size wr W3:=(by repeat (with_reducible first|exact Below.refl _ _|apply pw_below_drewN|apply Below.drew):Below wr.heap.size wr _).trans (hb3.mono (by simp))
      by_cases hg:Pure.good T=true
      · rw [if_pos hg] at he
        subst he
        have HB3:=Lib.hid hb3
        have HG:=Lib.hid hg
        have e0:=al (pw_cell_below hb3 k0)
        have e1:=al (pw_cell_below hb3 k1)
        have e2:=al (pw_cell_below hb3 t0)
        have e3:=al (pw_cell_below hb3 t1)
        have e4:=al (pw_cell_below hb3 t2)
        have e5:=al (pw_cell_below hb3 t3)
        have e6:=al (pw_cell_below hb3 t4)
        replace k0:=pw_cell_below hb3 k0
        replace k1:=pw_cell_below hb3 k1
        replace t0:=pw_cell_below hb3 t0
        replace t1:=pw_cell_below hb3 t1
        replace t2:=pw_cell_below hb3 t2
        replace t3:=pw_cell_below hb3 t3
        replace t4:=pw_cell_below hb3 t4
        have HR3:Hid (ReadAt w g (some ad) c0 l A1 c1 ws b n (actTab (openers++ws)) i top ps W3):=Lib.hid ⟨HR.out.rd.below hb3,HR.out.acts.below hb3,HR.out.blk,HR.out.deep,HR.out.ats⟩
        clear hb3 hg HRD HZ HPS HV
        go_upto_region 4 with (fail)
        go_region
        go_upto_region 5 with (fail)
        go_name_world W4 hW4
        have hb4:Below W3.heap.size W3 W4:=hW4▸by repeat (with_reducible first|exact Below.refl _ _|apply pw_below_drewN|apply Below.drew|apply below_alloc)
        have HT4:Hid (W4.heap[W3.heap.size]? =some (.cells #[.int .i64 T.f0,.int .i64 T.f1,.string T.f2,.int .i64 T.f3,.int .i64 T.f4] 39 (0,0))):=Lib.hid (hW4▸blk_drew (blk_new W3 _))
        have HR4:Hid (ReadAt w g (some ad) c0 l A1 c1 ws b n (actTab (openers++ws)) i top ps W4):=Lib.hid ⟨HR3.out.rd.below hb4,HR3.out.acts.below hb4,HR3.out.blk,HR3.out.deep,HR3.out.ats⟩
        clear hb4 hW4 HR3 HB3 k0 k1 t0 t1 t2 t3 t4 e0 e1 e2 e3 e4 e5 e6
        obtain ⟨v,hv⟩: ∃v,W3.heap.size=v:=⟨_,rfl⟩
        rw [hv] at HT4⊢
        clear hv
        have t0:W4.cell? ⟨v,0,none⟩=some (.int .i64 T.f0):=blk_cell HT4.out 0
        have t2:W4.cell? ⟨v,2,none⟩=some (.string T.f2):=blk_cell HT4.out 2
        obtain ⟨av,hlook,hact⟩:=HR4.out.acts.look (s:=T.f2) (by have:=Pure.good_len HG.out;simp only [maxLen];omega)
        obtain ⟨a,ha⟩: ∃a,actIn (actTab (openers++ws)) T.f2=a:=⟨_,rfl⟩
        rw [ha] at hlook hact
        have HA:=Lib.hid ha
        have HACT:=Lib.hid hact
        clear ha hact
        obtain ⟨q1,hq1⟩: ∃x,(T.f0==1)=x:=⟨_,rfl⟩
        obtain ⟨q5,hq5⟩: ∃x,(T.f0==5)=x:=⟨_,rfl⟩
        obtain ⟨qc,hqc⟩: ∃x,(T.f2.toList==cClass)=x:=⟨_,rfl⟩
        obtain ⟨qs,hqs⟩: ∃x,isNm l (i+1) slotName=x:=⟨_,rfl⟩
        obtain ⟨qe,hqe⟩: ∃x,(T.f2.toList==endText)=x:=⟨_,rfl⟩
        obtain ⟨qn,hqn⟩: ∃x,nmd i ps=x:=⟨_,rfl⟩
        have n1:(T.f0 !=1)= !q1:=by rw [←hq1];rfl
        have n5:(T.f0 !=5)= !q5:=by rw [←hq5];rfl
        have ne:(T.f2.toList==[101,110,100])=qe:=hqe
        have nc:(T.f2.toList==[99,108,97,115,115])=qc:=hqc
        obtain ⟨isS,his⟩: ∃x,a.isSome=x:=⟨_,rfl⟩
        have HLB:Hid (leafB l i ps a=((!isS||(!q1&& !q5))||(qc&&qs)||(q1&& !qe&&qn))):=Lib.hid (by
          unfold leafB
          rw [HT.out,hq1,hq5,hqc,hqs,hqe,hqn,his])
        obtain ⟨lb,hlb⟩: ∃x,leafB l i ps a=x:=⟨_,rfl⟩
        rw [hlb] at HLB
        have HLF:=Lib.hid hlb
        have HIS:=Lib.hid his
        rw [his] at hlook
        have HNM:Hid (∀X,Below W4.heap.size W4 X→Calls Tryz.prog 76 #[.pointer (some ⟨g,0,none⟩),.int .i64 ((i+1:Nat):Int),.string slotName] X fun e W'=>e=.returned (.bool qs)∧Drawn0 X W'):=Lib.hid (fun X hb=>by
          obtain ⟨o',tv',sv',fs',hr',_,_⟩:=HR4.out.rd
          have:=isName_c (hr'.below hb) HC.out hl (i+1) slotName
          rwa [hqs] at this)
        have HND:Hid (∀X,Below W4.heap.size W4 X→Calls Tryz.prog 77 #[.pointer (some ⟨g,0,none⟩)] X fun e W'=>e=.returned (.bool qn)∧Drawn0 X W'):=Lib.hid (fun X hb=>by
          obtain ⟨o',tv',sv',fs',hr',hp',_⟩:=HR4.out.rd
          have hle:fs'.length≤100:=by have:=HR4.out.deep;rw [←hp',List.length_map] at this;exact this
          have:=named_c (hr'.below hb) hle (by omega) (fun f hf=>by
            have:=HR4.out.ats f.pf (hp'▸List.mem_map_of_mem hf)
            have e:f.pf.at_=f.at_:=rfl
            omega)
          rw [hp',hqn] at this
          exact this)
        clear hqn hqs hqe hqc his hlb
        go_upto_region 7 with (fail)
        go_cut [47] (fun v47 wd=>v47=.bool (!isS||(!q1&& !q5))∧Hid (Below W4.heap.size W4 wd))
        case first=>
          cases isS<;>cases q1<;>cases q5
          all_goals go_wp2
          all_goals go_meet
          all_goals (case rel=>exact ⟨rfl,Lib.hid (by repeat (with_reducible first|exact Below.refl _ _|apply pw_below_drewN|apply Below.drew))⟩)
        case rest=>
          obtain ⟨rfl,HBD⟩:=hcut
          rename World=>W5
          obtain ⟨c7,hc7⟩: ∃x,(!isS||(!q1&& !q5))=x:=⟨_,rfl⟩
          rw [hc7] at HLB⊢
          clear hc7 n1 n5
          have t0:=pw_cell_below HBD.out t0
          have t2:=pw_cell_below HBD.out t2
          have k1:W5.cell? ⟨g,1,none⟩=some (.int .i64 i):=by
            obtain ⟨o',tv',sv',fs',hr',_,_⟩:=HR4.out.rd
            exact pw_cell_below HBD.out (blk_cell hr'.blk 1)
          have y1:wrap64 ((i:Int)+1)=((i+1:Nat):Int):=by unfold wrap64;omega
          go_upto_if 47 with (fail)
          go_cut [47] (fun v47 wd=>v47=.bool lb∧Hid (Below W4.heap.size W4 wd))
          case first=>
            have HLB2:=HLB.out
            cases c7 with
            |true=>
              go_wp2
              go_meet
              case rel=>exact ⟨congrArg Value.bool (by rw [HLB.out];rfl),HBD⟩
            |false=>
              cases qc with
              |true=>
                cases qs with
                |true=>
                  go_wp2_with (go_at_call 76;(refine (HNM.out _ (by repeat (with_reducible first|exact HBD.out|apply pw_below_drewN|apply Below.drew))).mono ?_);rintro e W6 ⟨rfl,⟨m,rfl⟩⟩)
                  go_meet
                  case rel=>exact ⟨congrArg Value.bool (by rw [HLB.out];rfl),Lib.hid (by repeat (with_reducible first|exact HBD.out|apply pw_below_drewN|apply Below.drew))⟩
                |false=>
                  cases q1 with
                  |false=>
                    go_wp2_with (go_at_call 76;(refine (HNM.out _ (by repeat (with_reducible first|exact HBD.out|apply pw_below_drewN|apply Below.drew))).mono ?_);rintro e W6 ⟨rfl,⟨m,rfl⟩⟩)
                    go_meet
                    case rel=>exact ⟨congrArg Value.bool (by rw [HLB.out];rfl),Lib.hid (by repeat (with_reducible first|exact HBD.out|apply pw_below_drewN|apply Below.drew))⟩
                  |true=>
                    cases qe<;>cases qn
                    all_goals go_wp2_with (first|(go_at_call 76;(refine (HNM.out _ (by repeat (with_reducible first|exact HBD.out|apply pw_below_drewN|apply Below.drew))).mono ?_);rintro e W6 ⟨rfl,⟨m,rfl⟩⟩)|(go_at_call 77;(refine (HND.out _ (by repeat (with_reducible first|exact HBD.out|apply pw_below_drewN|apply Below.drew))).mono ?_);rintro e W7 ⟨rfl,⟨m',rfl⟩⟩))
                    all_goals go_meet
                    all_goals (case rel=>exact ⟨congrArg Value.bool (by rw [HLB.out];rfl),Lib.hid (by repeat (with_reducible first|exact HBD.out|apply pw_below_drewN|apply Below.drew))⟩)
              |false=>
                cases q1 with
                |false=>
                  go_wp2
                  go_meet
                  case rel=>exact ⟨congrArg Value.bool (by rw [HLB.out];cases qs<;>rfl),HBD⟩
                |true=>
                  cases qe<;>cases qn
                  all_goals go_wp2_with (go_at_call 77;(refine (HND.out _ (by repeat (with_reducible first|exact HBD.out|apply pw_below_drewN|apply Below.drew))).mono ?_);rintro e W7 ⟨rfl,⟨m',rfl⟩⟩)
                  all_goals go_meet
                  all_goals (case rel=>exact ⟨congrArg Value.bool (by rw [HLB.out];cases qs<;>rfl),Lib.hid (by repeat (with_reducible first|exact HBD.out|apply pw_below_drewN|apply Below.drew))⟩)
          case rest=>
            obtain ⟨rfl,HBE⟩:=hcut
            rename World=>W6
            have HR6:Hid (ReadAt w g (some ad) c0 l A1 c1 ws b n (actTab (openers++ws)) i top ps W6):=Lib.hid ⟨HR4.out.rd.below HBE.out,HR4.out.acts.below HBE.out,HR4.out.blk,HR4.out.deep,HR4.out.ats⟩
            clear HNM HND HBD HLB t0 t2 k1 ne nc hlook HT4
            obtain ⟨o6,tv6,sv6,fs6,h6,hp6,hz6⟩:=HR6.out.rd
            have hfs6:fs6.length≤100:=by have:=HR6.out.deep;rw [←hp6,List.length_map] at this;exact this
            have hb6:b<W6.heap.size:=by obtain ⟨D,⟨es,clock,hb,_⟩,_⟩:=HR6.out.acts;exact blk_lt hb
            have HZB:Hid (∀k,(fun k=>k=b) k→k<W6.heap.size∧o6 k=0∧k≠g∧ ∀f∈fs6,k≠f.blk):=Lib.hid (by
              rintro k rfl
              exact ⟨hb6,hz6 _ rfl⟩)
            have hbk:bulk top (fs6.map Fr.pf)≤i:=by rw [hp6];exact HR6.out.blk
            have hcl6:(curL top fs6).length≤6000:=by
              cases fs6 with
              |nil=>
                have e:bulk top ([]:List PF)=top.length:=rfl
                rw [List.map_nil,e] at hbk
                show top.length≤6000
                omega
              |cons f r=>
                have e:bulk top ((f::r).map Fr.pf)=bulk top (r.map Fr.pf)+f.kids.length+1:=rfl
                rw [e] at hbk
                show f.kids.length≤6000
                omega
            have HGT:Hid (Pure.good (tkAt l i)=true):=Lib.hid (by rw [HT.out];exact HG.out)
            have HLT:Hid (leafB l i ps (actIn (actTab (openers++ws)) (tkAt l i).f2)=lb):=Lib.hid (by rw [HT.out,HA.out];exact HLF.out)
            have HAT:Hid (actIn (actTab (openers++ws)) (tkAt l i).f2=a):=Lib.hid (by rw [HT.out];exact HA.out)
            cases lb with
            |true=>
              have HLC:=Lib.hid (leaf_c h6 HC.out hl hlt hfs6 hcl6 HZB.out)
              have HST:Hid (step (actTab (openers++ws)) l i top ps=.go (i+1) (addT top ⟨tkAt l i,⟨#[]⟩,[]⟩ ps) (addP ⟨tkAt l i,⟨#[]⟩,[]⟩ ps)):=Lib.hid (by
                unfold step
                rw [if_pos HGT.out,if_pos HLT.out])
              have HP6:=Lib.hid hp6
              clear h6 hp6 hz6 hbk hcl6
              go_wp2_with fail
              refine HLC.out.mono ?_
              rintro e W9 ⟨rfl,hz9,hk9⟩
              have HZ9:=Lib.hid hz9
              have HK9:=Lib.hid hk9
              clear hz9 hk9
              go_wp2
              go_meet
              case rel=>
                refine ⟨i,_,_,HST,Lib.hid ?_,Lib.hid (HR6.out.acts.same (HK9.out b rfl))⟩
                have:=HZ9.out
                rw [HP6.out,←addT_map,HP6.out] at this
                exact this
            |false=>
              have hS:isS=true:=by
                cases isS with
                |true=>rfl
                |false=>
                  have:=HLF.out
                  unfold leafB at this
                  rw [HIS.out] at this
                  simp at this
              have HSS:a.isSome=true:=HIS.out.trans hS
              obtain ⟨x,rfl⟩:=Option.isSome_iff_exists.1 HSS
              obtain rfl:=HACT.out x rfl
              cases x with
              |true=>
                by_cases hfull:ps.length=100
                · have HBF:=Lib.hid (begin_full h6 (by rw [←hfull,←hp6,List.length_map]))
                  clear h6 hp6 hz6 hbk hcl6
                  unfold actV
                  go_wp2_with fail
                  refine HBF.out.mono ?_
                  rintro e W9 ⟨rfl,hb9⟩
                  refine ⟨rfl, ?_⟩
                  exact HPB.out i 6 W9 (by unfold step;rw [if_pos HGT.out,if_neg (by rw [HLT.out];decide),HAT.out,if_pos rfl,if_pos hfull]) (HR6.out.rd.at.bel.trans (hb9.mono HR6.out.rd.at.bel.size))
                · have HLC:=Lib.hid (begin_c h6 HC.out hl hlt (by rw [←hp6,List.length_map] at hfull;omega) HZB.out)
                  have HST:Hid (step (actTab (openers++ws)) l i top ps=.go (i+1) top (⟨tkAt l i,i,[]⟩::ps)):=Lib.hid (by
                    unfold step
                    rw [if_pos HGT.out,if_neg (by rw [HLT.out];decide),HAT.out,if_pos rfl,if_neg hfull])
                  have HP6:=Lib.hid hp6
                  clear h6 hp6 hz6 hbk hcl6
                  unfold actV
                  go_wp2_with fail
                  refine HLC.out.mono ?_
                  rintro e W9 ⟨rfl,hz9,hk9⟩
                  have HZ9:=Lib.hid hz9
                  have HK9:=Lib.hid hk9
                  clear hz9 hk9
                  go_wp2
                  go_meet
                  case rel=>
                    refine ⟨i,_,_,HST,Lib.hid ?_,Lib.hid (HR6.out.acts.same (HK9.out b rfl))⟩
                    have:=HZ9.out
                    rw [HP6.out] at this
                    exact this
              |false=>
                cases fs6 with
                |nil=>
                  have HBF:=Lib.hid (close_none h6 HC.out hl hlt)
                  have HP6:Hid (ps=[]):=Lib.hid hp6.symm
                  clear h6 hp6 hz6 hbk hcl6
                  unfold actV
                  go_wp2_with fail
                  refine HBF.out.mono ?_
                  rintro e W9 ⟨rfl,hb9⟩
                  refine ⟨rfl, ?_⟩
                  exact HPB.out i 20 W9 (by have a:=HLT.out;rw [HP6.out] at a⊢;exact step_none HGT.out (a.trans rfl) HAT.out) (HR6.out.rd.at.bel.trans (hb9.mono HR6.out.rd.at.bel.size))
                |cons f r=>
                  have HP6:Hid (ps=f.pf::r.map Fr.pf):=Lib.hid hp6.symm
                  have hr6:r.length+1≤100:=by simpa using hfs6
                  by_cases hcx:(closeTx f.tok.f2).toList=(tkAt l i).f2.toList
                  · have hcr : (curL top r).length ≤ 6000 := by
                      have e:bulk top ((f::r).map Fr.pf)=bulk top (r.map Fr.pf)+f.kids.length+1:=rfl
                      rw [e] at hbk
                      cases r with
                      |nil=>
                        have e:bulk top ([]:List PF)=top.length:=rfl
                        rw [List.map_nil,e] at hbk
                        show top.length≤6000
                        omega
                      |cons f' r'=>
                        have e:bulk top ((f'::r').map Fr.pf)=bulk top (r'.map Fr.pf)+f'.kids.length+1:=rfl
                        rw [e] at hbk
                        show f'.kids.length≤6000
                        omega
                    have HLC:=Lib.hid (close_c h6 HC.out hl hlt HE.out hr6 hcr ((toList_eq _ _).1 hcx) HZB.out)
                    have HCX:=Lib.hid hcx
                    clear h6 hp6 hz6 hbk hcl6 hcr hcx
                    unfold actV
                    go_wp2_with fail
                    refine HLC.out.mono ?_
                    rintro e W9 hd
                    rcases hd with ⟨rfl,h1,h2,h2k⟩|⟨j,h1,h2,h3,rfl,h5⟩
                    · have HBN:Hid (badIn l i (dropN l i f.tok f.kids)=none):=Lib.hid (badIn_none h1)
                      have HZ9:=Lib.hid h2
                      have HK9:=Lib.hid h2k
                      clear h1 h2 h2k
                      go_wp2
                      go_meet
                      case rel=>
                        refine ⟨i+dropN l i f.tok f.kids,_,_,Lib.hid ?_,HZ9,Lib.hid (HR6.out.acts.same (HK9.out b rfl))⟩
                        have a:=HLT.out
                        rw [HP6.out] at a⊢
                        rw [step_close HGT.out a HAT.out]
                        rw [if_pos (show (closeTx f.pf.tok.f2).toList=(tkAt l i).f2.toList from HCX.out)]
                        have e:badIn l i (dropN l i f.pf.tok f.pf.kids)=none:=HBN.out
                        rw [e]
                        rfl
                    · refine ⟨rfl, ?_⟩
                      refine HPB.out (i+1+j) 14 W9 ?_ h5
                      have a:=HLT.out
                      rw [HP6.out] at a⊢
                      rw [step_close HGT.out a HAT.out]
                      rw [if_pos (show (closeTx f.pf.tok.f2).toList=(tkAt l i).f2.toList from HCX.out)]
                      have e:badIn l i (dropN l i f.pf.tok f.pf.kids)=some j:=badIn_some h1 h2 h3
                      rw [e]
                  · have HBF:=Lib.hid (close_bad h6 hr6 HC.out hl hlt hcx)
                    have HCX:=Lib.hid hcx
                    clear h6 hp6 hz6 hbk hcl6 hcx
                    unfold actV
                    go_wp2_with fail
                    refine HBF.out.mono ?_
                    rintro e W9 ⟨rfl,hb9⟩
                    refine ⟨rfl, ?_⟩
                    refine HPB.out i 20 W9 ?_ (HR6.out.rd.at.bel.trans (hb9.mono HR6.out.rd.at.bel.size))
                    have a:=HLT.out
                    rw [HP6.out] at a⊢
                    rw [step_close HGT.out a HAT.out]
                    rw [if_neg (show¬(closeTx f.pf.tok.f2).toList=(tkAt l i).f2.toList from HCX.out)]
      · rw [if_neg hg] at he
        subst he
        refine ⟨rfl, ?_⟩
        exact HPB.out i 14 W3 (by unfold step;rw [HT.out,if_neg hg]) (HR.out.rd.at.bel.trans (hb3.mono HR.out.rd.at.bel.size))
    · obtain ⟨n0,hn0⟩: ∃m,l.length=m:=⟨_,rfl⟩
      obtain rfl:i=n0:=by omega
      have HEND:Hid (mach (actTab (openers++ws)) l (l.length+1) 0 [] []=.go i top ps):=Lib.hid (by
        rw [HM.out]
        obtain ⟨k,hk⟩: ∃k,gk=k+1:=⟨gk-1,by have:=HKQ.out;omega⟩
        rw [hk]
        unfold mach
        rw [if_neg hlt])
      rw [hn0] at k0
      have x1:decide (i<i)=false:=decide_eq_false (by omega)
      cases fs with
      |nil=>
        obtain ⟨A,c,rfl⟩:=own_slice HRD.out.stk
        have k4:wr.cell? ⟨g,4,none⟩=some (.slice A 0 c):=blk_cell HRD.out.blk 4
        have HP:Hid (∀X,Below wr.heap.size wr X→K (.returned (.tuple #[])) X):=Lib.hid (fun X hb=>HK.out _ _<|by
          unfold ReadPost
          rw [HEND.out]
          obtain rfl:ps=[]:=HPS.out.symm
          exact ⟨rfl,⟨o2,tv2,_,[],HRD.out.below hb,rfl⟩⟩)
        clear hn0 hlt hil
        go_upto_region 1 with (fail)
        go_quiet (fail)
        go_wp2
        go_end0
        exact HP.out _ (by repeat (with_reducible first|exact Below.refl _ _|apply pw_below_drewN|apply Below.drew))
      |cons f r=>
        obtain ⟨P,cap,rfl,p0,p1,hcap⟩:=HRD.out.stack
        have k4:wr.cell? ⟨g,4,none⟩=some (.slice (some ⟨P,0,none⟩) (r.length+1) cap):=blk_cell HRD.out.blk 4
        have f1:wr.frozen? ⟨g,1,none⟩=false:=blk_frozen HRD.out.blk 1
        have hd:r.length+1≤100:=by have:=HR.out.deep;rw [←HPS.out] at this;simpa using this
        have HX:=Lib.hid (fun (nq:Nat)=>(HRD.out.below (W':=wr.drewN nq) (pw_below_drewN (Below.refl _ _) _)).setAt f.at_)
        have HREF:=Lib.hid (fun (nq:Nat)=>refuse_c (HX.out nq) 21)
        have HP:Hid (∀X,Below w.heap.size w X→K (endR f.at_ 21) X):=Lib.hid (fun X hb=>HK.out _ _<|by
          unfold ReadPost
          rw [HEND.out]
          obtain rfl:ps=f.pf::r.map Fr.pf:=HPS.out.symm
          exact ⟨rfl,hb⟩)
        obtain ⟨k,hk⟩: ∃k,r.length=k:=⟨_,rfl⟩
        rw [hk] at p0 p1 k4 hd
        obtain ⟨m,hm⟩: ∃m,k+1=m:=⟨_,rfl⟩
        rw [hm] at k4
        have y1:decide ((0:Int)<(m:Int))=true:=decide_eq_true (by omega)
        have y2:decide (0<m)=true:=decide_eq_true (by omega)
        have y3:wrap64 ((m:Int)-1)=(k:Int):=by unfold wrap64;omega
        have y4:(0:Int)≤(k:Int):=by omega
        have y5:(k:Int)<(m:Int):=by omega
        have hmk:m-1=k:=by omega
        rw [←hmk] at p0 p1
        clear hmk
        go_upto_region 1 with (fail)
        go_quiet (fail)
        go_wp2_with fail
        refine (HREF.out nq).mono ?_
        rintro e W9 ⟨rfl,n9,rfl⟩
        refine ⟨rfl, ?_⟩
        exact HP.out _ (pw_below_drewN (HX.out nq).bel _)
end
end Go.Proofs.YtipnlgmeonepfaaGreatDoor.PFa

set_option linter.unusedVariables false
set_option linter.unusedSimpArgs false
namespace Go.Proofs.YtipnlgmeonepfaaGreatDoor.PFa
open Go.RowKit Go.Proofs.YtipnlgmeonepfaaGreatDoorW.PrintWords
open Go.Proofs.YtipnlgmeonepfaaGreatDoor.Lx (Kp)
attribute [local go_sem] Oper.semAt_some

set_option maxHeartbeats 3200000 in
theorem catch_idle (n : Nat) (p q r : Addr) (w : World) :
    CallsDIn Fence.wide n Tryz.prog 48 #[.pointer (some p),.pointer (some q),.pointer (some r)] .returning w fun e u' w'=>e=.returned (.tuple #[])∧u'=.returning∧w'=w:=by
  refine callsDIn_of_wpSIn Tryz.func48 rfl trivial fun c₀ cs hu=> ?_
  apply wpSIn_seq
  apply wpSIn_region
  simp [wpOpsSIn,go_sem,recoverD,hu,Tryz.ntmps48,Exit.thenS]
  refine wpSIn_of_wpIn rfl ?_
  gi_wp2_with fail
  exact ⟨rfl,.returning,by cases c₀;simp_all,.tuple #[],results_none rfl _ _ _,rfl,rfl,rfl⟩

theorem assert_refused (a:Value) (t:TypeId) (w:World):(Instr.typeAssert (.iface 73 a) t 73 true).run Tryz.prog w=.ok (.tuple #[a,.bool true]) w:=by
  simp [Instr.typeAssert,run_underlying Tryz.underlying73,go_sem]

set_option maxHeartbeats 3200000 in
set_option maxRecDepth 100000 in
theorem catch_refused (n : Nat) (p q r : Nat) (at_ : Nat) (er : Int) (w : World) {v0 v1 v2 : Value} (h0 : w.cell? ⟨p, 0, none⟩ = some v0) (h1 : w.cell? ⟨q, 0, none⟩ = some v1) (h2 : w.cell? ⟨r, 0, none⟩ = some v2)
    (f0:w.frozen? ⟨p,0,none⟩=false) (f1:w.frozen? ⟨q,0,none⟩=false) (f2:w.frozen? ⟨r,0,none⟩=false) (hp:p<w.heap.size) (hq:q<w.heap.size) (hr:r<w.heap.size) (hpq:p≠q) (hpr:p≠r) (hqr:q≠r):
    CallsDIn Fence.wide n Tryz.prog 48 #[.pointer (some ⟨p,0,none⟩),.pointer (some ⟨q,0,none⟩),.pointer (some ⟨r,0,none⟩)] (.panicking [{v:=refV at_ er,recovered:=false}]) w
      fun e u' w'=>e=.returned (.tuple #[])∧u'=.panicking [{v:=refV at_ er,recovered:=true}]∧
        w'.cell? ⟨p,0,none⟩=some (.slice none 0 0)∧w'.cell? ⟨q,0,none⟩=some (.int .i64 at_)∧w'.cell? ⟨r,0,none⟩=some (.int .i64 er)∧Kp (fun k=>k=p∨k=q∨k=r) w w':=by
  unfold refV
  refine callsDIn_of_wpSIn Tryz.func48 rfl trivial fun c₀ cs hu=> ?_
  apply wpSIn_seq
  apply wpSIn_region
  simp [wpOpsSIn,go_sem,recoverD,hu,Tryz.ntmps48,Exit.thenS]
  refine wpSIn_of_wpIn rfl ?_
  simp only [List.size_toArray,List.length_cons,List.length_nil,Nat.reduceAdd,Nat.reduceSub,Array.replicate_succ,Array.replicate_zero,List.push_toArray,List.append_toArray,List.nil_append,List.cons_append,List.setIfInBounds_toArray,List.set_cons_zero,List.set_cons_succ]
  have hta:=fun a=>assert_refused a 20 w
  have hu67:=Tryz.underlying73
  gi_wp2_with fail
  gi_region
  gi_wp2_with fail
  refine ⟨rfl,.panicking [{v:=.iface 73 (.agg #[.int .i64 at_,.int .i64 er]),recovered:=true}],by cases c₀;simp_all,.tuple #[],results_none rfl _ _ _,rfl,rfl, ?_, ?_, ?_, ?_⟩
  · show World.cell? (((((w.setCell _ _).setCell _ _).setCell _ _).alloc _)) _=_
    rw [World.cell?_alloc_past _ _ _ (by simpa using hp),World.cell?_setCell_far _ _ _ _ (Ne.symm hpr),World.cell?_setCell_far _ _ _ _ (Ne.symm hpq)]
    exact World.cell?_setCell_same' _ _ _ (by rw [h0];rfl)
  · show World.cell? (((((w.setCell _ _).setCell _ _).setCell _ _).alloc _)) _=_
    rw [World.cell?_alloc_past _ _ _ (by simpa using hq),World.cell?_setCell_far _ _ _ _ (Ne.symm hqr)]
    exact World.cell?_setCell_same' _ _ _ (by rw [World.cell?_setCell_far _ _ _ _ hpq,h1];rfl)
  · show World.cell? (((((w.setCell _ _).setCell _ _).setCell _ _).alloc _)) _=_
    rw [World.cell?_alloc_past _ _ _ (by simpa using hr)]
    exact World.cell?_setCell_same' _ _ _ (by rw [World.cell?_setCell_far _ _ _ _ hqr,World.cell?_setCell_far _ _ _ _ hpr,h2];rfl)
  · exact Kp.drew (Kp.alloc (Kp.setCell (Kp.setCell (Kp.setCell (S:=fun k=>k=p∨k=q∨k=r) (Kp.refl _ _) (.inl (.inl rfl)) _) (.inl (.inr (.inl rfl))) _) (.inl (.inr (.inr rfl))) _) _)
end Go.Proofs.YtipnlgmeonepfaaGreatDoor.PFa

set_option linter.unusedVariables false
set_option linter.unusedSimpArgs false
namespace Go.Proofs.YtipnlgmeonepfaaGreatDoor.PFa
open Go.RowKit Go.Proofs.YtipnlgmeonepfaaGreatDoorW.PrintWords Go.Proofs.YtipnlgmeonepfaaGreatDoorW.PrintLast Go.Proofs.YtipnlgmeonepfaaGreatDoorW.PrintMore
def wordOk (ws:List ByteArray) (i:Nat):Bool:=plainB (rdOf ByteArray.empty ws (i:Int))&& !memB (rdOf ByteArray.empty ws (i:Int)) takenWords&& !memB (rdOf ByteArray.empty ws (i:Int)) (ws.take i)
/-- May words be given? -/
def wordsB (ws:List ByteArray):Bool:=decide (ws.length≤40)&&(List.range ws.length).all (wordOk ws)
theorem words_bad {ws:List ByteArray} {i:Nat} (hi:i<ws.length) (h:wordOk ws i=false):wordsB ws=false:=by
  unfold wordsB
  rw [Bool.and_eq_false_iff]
  refine .inr ?_
  rw [List.all_eq_false]
  exact ⟨i,List.mem_range.2 hi,by rw [h];decide⟩
theorem words_all {ws:List ByteArray} (hl:ws.length≤40) (h: ∀j,j<ws.length→wordOk ws j=true):wordsB ws=true:=by
  unfold wordsB
  rw [Bool.and_eq_true,List.all_eq_true]
  exact ⟨decide_eq_true hl,fun j hj=>h j (List.mem_range.1 hj)⟩
set_option maxHeartbeats 6400000 in
set_option maxRecDepth 100000 in
theorem areWords_c {A : Option Addr} {c : Nat} {l0 : List ByteArray} {w : World} (hC : Kd.C Kd.string w A l0.length l0) (hc : l0.length ≤ c) (hE : Lx.Env w) :
    Calls Tryz.prog 47 #[.slice A l0.length c] w fun e w'=>e=.returned (.bool (wordsB l0))∧Below w.heap.size w w':=by
  by_cases hlen:40<l0.length
  · have x1:decide (40<l0.length)=true:=decide_eq_true hlen
    have x2:decide ((40:Int)<(l0.length:Int))=true:=decide_eq_true (by omega)
    have HB:Hid (wordsB l0=false):=Lib.hid (by unfold wordsB;rw [decide_eq_false (by omega)];rfl)
    clear hC hc hE hlen
    go_enter Tryz.func47,Tryz.ntmps47
    go_wp2
    go_ret
    exact ⟨by rw [HB.out];rfl,by repeat (with_reducible first|exact Below.refl _ _|apply Below.drew)⟩
  · have x1:decide (40<l0.length)=false:=decide_eq_false hlen
    have x2:decide ((40:Int)<(l0.length:Int))=false:=decide_eq_false (by omega)
    have HR0:=Aside0.mk hC
    have HE:=Aside0.mk hE
    have HB:=Aside0.mk (Below.refl w.heap.size w)
    obtain ⟨t168,ht168⟩: ∃x,x=ownWords:=⟨_,rfl⟩
    have A6:Aside0 (fragment_Words.f=some t168):=Aside0.mk (by rw [ht168];rfl)
    obtain ⟨y171,hy171⟩: ∃y_:List ByteArray,y_=(([(⟨#[101,110,100]⟩:ByteArray),(⟨#[115,108,111,116]⟩:ByteArray)]:List ByteArray)):=⟨_,rfl⟩
    have LMc7:=Aside0.mk (show t168.length+y171.length<8796093022208 by rw [ht168,hy171];decide)
    obtain ⟨y174,hy174⟩: ∃y_:List ByteArray,y_=(t168++y171):=⟨_,rfl⟩
    have HY:Hid (y174=takenWords):=Lib.hid (by rw [hy174,ht168,hy171];rfl)
    have Ny171:=Aside0.mk hy171
    have Ny174:=Aside0.mk hy174
    clear hy171 hy174 ht168 hC hE
    go_enter Tryz.func47,Tryz.ntmps47
    go_upto_region 3 with (fail)
    go_wp2_with (first|((with_reducible refine gate_callee (f:=18) rfl ?_);refine goesL_ (some 9) rfl rfl Tryz.func18 (by kernel_rfl) rfl #[] rfl (by (try simp only [List.map_toArray,List.map_cons,List.map_nil]);first|done|rfl|(simp only [List.length_drop,List.length_take];rfl)) ?_;(with_reducible refine (fragment_Words.calls  t168 _ A6.out).mono ?_);rintro e w8 ⟨v169,rfl,ho0,hb⟩;refine ⟨_,rfl, ?_⟩;have n0_:=Aside0.mk (Kd.R_lower ho0 (below_size (by repeat (first|(with_reducible first|exact HB.out|apply below_alloc|apply pw_below_drewN|apply below_drew1)|exact HB.out))));have n1_:=Aside0.mk (below_step (by repeat (first|(with_reducible first|exact HB.out|apply below_alloc|apply pw_below_drewN|apply below_drew1)|exact HB.out)) hb);clear HB;have HO170:=n0_;have HB:=n1_;clear n0_ n1_;(try clear hb);(try clear hb2);(try clear hk);(try clear hi);(try clear ho0))|((with_reducible refine gate_dst (N:=10) rfl ?_);refine Kd.R_lit Kd.string _ 9 ?hg (N:=10) ?hd (xs:=([(⟨#[101,110,100]⟩:ByteArray),(⟨#[115,108,111,116]⟩:ByteArray)]:List ByteArray)) (inner:=[.string (⟨#[101,110,100]⟩:ByteArray),.string (⟨#[115,108,111,116]⟩:ByteArray)]) (ok:=fun _=>True) (okp:=fun _=>True) ?hr ?hp (fun _ hk=>hk) trivial (Below.refl _ _) (Nat.le_refl _) (by simp) ?_;(case hd=>rfl);(case hg=>rfl);(case hr=>first|(go_simp;done)|(go_simp;rfl));(case hp=>exact (Reps.one (show Kd.M Kd.string _ _ _ (⟨#[101,110,100]⟩:ByteArray) [.string (⟨#[101,110,100]⟩:ByteArray)] from rfl) (Reps.one (show Kd.M Kd.string _ _ _ (⟨#[115,108,111,116]⟩:ByteArray) [.string (⟨#[115,108,111,116]⟩:ByteArray)] from rfl) (Reps.none _ _))));intro v172 w9 ho10 hb hg_ hnew_;clear hg_ hnew_;(first|rw [←Ny171.out] at ho10|(simp only [Int.reduceToNat] at ho10;rw [←Ny171.out] at ho10));have n0_:=Aside0.mk (Kd.R_elder' (by (with_reducible repeat (first|apply Kd.R_alloc|apply Kd.R_drewN|apply Kd.R_drew));exact HO170.out) (Kd.R_base ho10) hb);have n1_:=Aside0.mk (Kd.R_lower (Kd.R_new' ho10 (Kd.R_lt (by (with_reducible repeat (first|apply Kd.R_alloc|apply Kd.R_drewN|apply Kd.R_drew));exact HO170.out))) (below_size (by repeat (first|(with_reducible first|exact HB.out|apply below_alloc|apply pw_below_drewN|apply below_drew1)|exact HB.out))));have n2_:=Aside0.mk (below_step (by repeat (first|(with_reducible first|exact HB.out|apply below_alloc|apply pw_below_drewN|apply below_drew1)|exact HB.out)) hb);clear HO170;clear HB;have HO170:=n0_;have HO173:=n1_;have HB:=n2_;clear n0_ n1_ n2_;clear hb ho10;obtain ⟨Ao12,co12,eo12⟩:=Kd.R_slice HO173.out;subst eo12)|((with_reducible refine gate_builtin (b:=.append) (xs:= #[.tmp 9,.tmp 10]) rfl ?_);at_builtin;refine Kd.R_append_rows Kd.string (w0:=w) w.heap.size rfl (.tmp 9) (.tmp 10) 23 9 (.string ⟨#[]⟩) 16 rfl Tryz.underlying23 info9 rfl (by decide) (by omega) v169 t168 y171 _ _ _ (fun k_=>some k_≠(.slice Ao12 y171.length co12:Value).ownBlock) (fun _=>False) rfl rfl ?aO ?aR (fun _ _ h=>h) (fun _ h=>h.elim) ?aF ?aB ?aS ?aL ?_;(case aR=>repeat (first|exact (Kd.R_reads' HO173.out).2.2|(with_reducible refine Kd.C_alloc ?_ _)|(with_reducible refine Kd.C_drewN ?_ _)|(with_reducible refine Kd.C_drew ?_)));(case aB=>exact (by repeat (first|(with_reducible first|exact HB.out|apply below_alloc|apply pw_below_drewN|apply below_drew1)|exact HB.out)));(case aF=>exact (fun k_ hk=>Kd.fresh' (Kd.R_lt (by (with_reducible repeat (first|apply Kd.R_alloc|apply Kd.R_drewN|apply Kd.R_drew));exact HO173.out)) k_ hk));(case aO=>exact (by (with_reducible repeat (first|apply Kd.R_alloc|apply Kd.R_drewN|apply Kd.R_drew));exact Kd.R_mono HO170.out (fun _ hk=>hk.2)));(case aS=>exact (below_size (by repeat (first|(with_reducible first|exact HB.out|apply below_alloc|apply pw_below_drewN|apply below_drew1)|exact HB.out))));(case aL=>have:=LMc7.out;omega);intro v175 w11 ho hb hg hat;rw [←Ny174.out] at ho;have n0_:=Aside0.mk (Kd.R_after (ok:=(fun _=>True)) (by (with_reducible repeat (first|apply Kd.R_alloc|apply Kd.R_drewN|apply Kd.R_drew));exact HO173.out) hg hat);have n1_:=Aside0.mk (hb);have n2_:=Aside0.mk (ho);clear HO173;clear HB;clear HO170;have HO173:=n0_;have HB:=n1_;have HO176:=n2_;clear n0_ n1_ n2_;clear ho hb hg hat))
    have HB0:=HB
    go_loopg [14] (l0.length+1) (fun kq v14 w'=> ∃i:Nat,v14=.int .i64 i∧l0.length+1-i≤kq∧i≤l0.length∧Aside0 (∀j,j<i→wordOk l0 j=true)∧Aside0 (Kd.R Kd.string 9 w' w.heap.size (fun _=>True) v175 y174)∧Aside0 (Below w.heap.size w w'))
    case atStart=>exact ⟨0,rfl,Nat.le_refl _,Nat.zero_le _,⟨fun j hj=>absurd hj (by omega)⟩,⟨by (with_reducible repeat (first|apply Kd.R_alloc|apply Kd.R_drewN|apply Kd.R_drew));exact Kd.R_mono HO176.out (fun _ hk=>trivial)⟩,⟨by repeat (first|(with_reducible first|exact HB.out|apply below_alloc|apply pw_below_drewN|apply below_drew1)|exact HB.out)⟩⟩
    case round=>
      obtain ⟨i,rfl,hkq,hil,HALL,HO,HBW⟩:=hrel
      clear HB HB0 HO176 HO173
      have HKQ:=Aside0.mk hkq
      clear hkq
      by_cases hlt:i<l0.length
      · have c1:decide ((i:Int)<(l0.length:Int))=true:=decide_eq_true (by omega)
        have c2:decide (i<l0.length)=true:=decide_eq_true hlt
        have p1:(0≤(i:Int))=True:=eq_true (by omega)
        have p2:((i:Int)<(l0.length:Int))=True:=eq_true (by omega)
        obtain ⟨ad,ead,hx⟩:=Kd.at_string HR0.out (i:Int) (by omega) (by omega)
        cases ead
        replace hx:=(HBW.out.cell (World.block_lt_of_cell? w _ hx)).trans hx
        obtain ⟨s,hs⟩: ∃s,rdOf ByteArray.empty l0 (i:Int)=s:=⟨_,rfl⟩
        rw [hs] at hx
        simp only [Int.toNat_natCast] at hx
        have HS:=Lib.hid hs
        have hti:(l0.take i).length=i:=by rw [List.length_take];omega
        obtain ⟨A2,c3,e2⟩:=Kd.R_slice HO.out
        subst e2
        have HPL:Hid (∀X,Below wr.heap.size wr X→Calls Tryz.prog 72 #[.string s] X fun e w'=>e=.returned (.bool (plainB s))∧Below wr.heap.size wr w'):=Lib.hid (fun X hb=>(plain_c s (HE.out.below (HBW.out.trans (hb.mono HBW.out.size)))).mono (fun e w' h=>⟨h.1,hb.trans (h.2.mono hb.size)⟩))
        have HC1:Hid (∀X,Below wr.heap.size wr X→Calls Tryz.prog 73 #[.slice A2 y174.length c3,.string s] X fun e w'=>e=.returned (.bool (memB s takenWords))∧Drawn0 X w'):=Lib.hid (fun X hb=>by
          have:=contains_c s (Kd.C_below (Kd.R_reads' HO.out).2.2 hb) (Kd.R_reads' HO.out).2.1 (by rw [HY.out];decide)
          rwa [HY.out] at this⊢)
        have HC2:Hid (∀X,Below wr.heap.size wr X→Calls Tryz.prog 73 #[.slice (some ad) i c,.string s] X fun e w'=>e=.returned (.bool (memB s (l0.take i)))∧Drawn0 X w'):=Lib.hid (fun X hb=>by
          have:=contains_c (c:=c) s (strs_take (Kd.C_below HR0.out (HBW.out.trans (hb.mono HBW.out.size))) i (by omega)) (by omega) (by omega)
          rwa [hti] at this)
        have HOK:Hid (wordOk l0 i=(plainB s&& !memB s takenWords&& !memB s (l0.take i))):=Lib.hid (by unfold wordOk;rw [hs])
        have HF:Hid (wordOk l0 i=false→wordsB l0=false):=Lib.hid (words_bad hlt)
        clear hs hti
        have e1:decide ((i:Int)≤(c:Int))=true:=decide_eq_true (by omega)
        have e2:decide (i≤c)=true:=decide_eq_true (by omega)
        have e3:(0≤(i:Int)∧(i:Int)≤(c:Int))=True:=eq_true (by omega)
        have e4:(i:Int)≤(c:Int):=by omega
        have e5:(0:Int)≤(i:Int):=by omega
        have e6:i≤c:=by omega
        obtain ⟨pl,hpl⟩: ∃b,plainB s=b:=⟨_,rfl⟩
        rw [hpl] at HPL HOK
        obtain ⟨m1,hm1⟩: ∃b,memB s takenWords=b:=⟨_,rfl⟩
        rw [hm1] at HC1 HOK
        obtain ⟨m2,hm2⟩: ∃b,memB s (l0.take i)=b:=⟨_,rfl⟩
        rw [hm2] at HC2 HOK
        clear hpl hm1 hm2
        cases pl with
        |false=>
          have HFF:Hid (wordsB l0=false):=Lib.hid (HF.out (HOK.out.trans (by cases m1<;>cases m2<;>rfl)))
          go_upto_region 7 with (fail)
          go_wp2_with (go_at_call 72;(refine (HPL.out _ (by repeat (with_reducible first|exact Below.refl _ _|apply pw_below_drewN|apply Below.drew))).mono ?_);rintro e W3 ⟨rfl,hb3⟩)
          go_ret
          exact ⟨by rw [HFF.out];rfl,by repeat (with_reducible first|exact HBW.out.trans (hb3.mono HBW.out.size)|apply pw_below_drewN|apply Below.drew)⟩
        |true=>
          cases m1 with
          |true=>
            have HFF:Hid (wordsB l0=false):=Lib.hid (HF.out (HOK.out.trans (by cases m2<;>rfl)))
            go_upto_region 7 with (fail)
            go_wp2_with (first
              |(go_at_call 72;(refine (HPL.out _ (by repeat (with_reducible first|exact Below.refl _ _|apply pw_below_drewN|apply Below.drew))).mono ?_);rintro e W3 ⟨rfl,hb3⟩)
              |(go_at_call 73;(refine (HC1.out _ (by repeat (with_reducible first|exact hb3|apply pw_below_drewN|apply Below.drew))).mono ?_);rintro e W4 ⟨rfl,⟨m,rfl⟩⟩))
            go_ret
            exact ⟨by rw [HFF.out];rfl,by repeat (with_reducible first|exact HBW.out.trans (hb3.mono HBW.out.size)|apply pw_below_drewN|apply Below.drew)⟩
          |false=>
            cases m2 with
            |true=>
              have HFF:Hid (wordsB l0=false):=Lib.hid (HF.out (HOK.out.trans rfl))
              go_upto_region 7 with (fail)
              go_wp2_with (first
                |(go_at_call 72;(refine (HPL.out _ (by repeat (with_reducible first|exact Below.refl _ _|apply pw_below_drewN|apply Below.drew))).mono ?_);rintro e W3 ⟨rfl,hb3⟩)
                |(go_at_call 73;(refine (HC1.out _ (by repeat (with_reducible first|exact hb3|apply pw_below_drewN|apply Below.drew))).mono ?_);rintro e W4 ⟨rfl,⟨m,rfl⟩⟩)
                |(go_at_call 73;(refine (HC2.out _ (by repeat (with_reducible first|exact hb3|apply pw_below_drewN|apply Below.drew))).mono ?_);rintro e W5 ⟨rfl,⟨m',rfl⟩⟩))
              go_ret
              exact ⟨by rw [HFF.out];rfl,by repeat (with_reducible first|exact HBW.out.trans (hb3.mono HBW.out.size)|apply pw_below_drewN|apply Below.drew)⟩
            |false=>
              have HTT:Hid (wordOk l0 i=true):=Lib.hid (HOK.out.trans rfl)
              have y1:wrap64 ((i:Int)+1)=((i+1:Nat):Int):=by unfold wrap64;omega
              go_upto_region 7 with (fail)
              go_wp2_with (first
                |(go_at_call 72;(refine (HPL.out _ (by repeat (with_reducible first|exact Below.refl _ _|apply pw_below_drewN|apply Below.drew))).mono ?_);rintro e W3 ⟨rfl,hb3⟩)
                |(go_at_call 73;(refine (HC1.out _ (by repeat (with_reducible first|exact hb3|apply pw_below_drewN|apply Below.drew))).mono ?_);rintro e W4 ⟨rfl,⟨m,rfl⟩⟩)
                |(go_at_call 73;(refine (HC2.out _ (by repeat (with_reducible first|exact hb3|apply pw_below_drewN|apply Below.drew))).mono ?_);rintro e W5 ⟨rfl,⟨m',rfl⟩⟩))
              go_roundg (gk-1)
              case measure=>have:=HKQ.out;omega
              case rel=>
                refine ⟨i+1,by go_num,by have:=HKQ.out;omega,by omega,⟨fun j hj=> ?_⟩,⟨Kd.R_below HO.out (by repeat (with_reducible first|exact hb3|apply pw_below_drewN|apply Below.drew))⟩,⟨by repeat (with_reducible first|exact HBW.out.trans (hb3.mono HBW.out.size)|apply pw_below_drewN|apply Below.drew)⟩⟩
                by_cases e:j=i
                · rw [e]
                  exact HTT.out
                · exact HALL.out j (by omega)
      · have c1:decide ((i:Int)<(l0.length:Int))=false:=decide_eq_false (by omega)
        have c2:decide (i<l0.length)=false:=decide_eq_false hlt
        have HFF:Hid (wordsB l0=true):=Lib.hid (words_all (by omega) (fun j hj=>HALL.out j (by omega)))
        go_wp2
        go_ret
        exact ⟨by rw [HFF.out];rfl,HBW.out⟩
end Go.Proofs.YtipnlgmeonepfaaGreatDoor.PFa

set_option linter.unusedVariables false
set_option linter.unusedSimpArgs false
namespace Go.Proofs.YtipnlgmeonepfaaGreatDoor.PFa
open Go.RowKit Go.Proofs.YtipnlgmeonepfaaGreatDoorW.PrintWords Go.Proofs.YtipnlgmeonepfaaGreatDoorW.PrintLast Go.Proofs.YtipnlgmeonepfaaGreatDoorW.PrintMore
open Go.Proofs.YtipnlgmeonepfaaGreatDoor.Lx (Kp invoke_closure)
attribute [local go_sem] Oper.semAt_some
/-- What Read hands back. -/
def readOut (l:List Tk) (ws:List ByteArray):List Fg×Int×Int:=
  if wordsB ws=true then
    if l.length≤6000 then
      match mach (actTab (openers++ws)) l (l.length+1) 0 [] [] with
      | .bad i e=>([],i,e)
      | .go _ top []=>(top,0,0)
      | .go _ _ (p::_)=>([],p.at_,21)
    else ([],0,2)
  else ([],0,1)
theorem words_size {ws:List ByteArray} (h:wordsB ws=true):ws.length≤40∧ ∀x∈ws,x.size≤maxLen:=by
  unfold wordsB at h
  rw [Bool.and_eq_true,List.all_eq_true] at h
  refine ⟨of_decide_eq_true h.1,fun x hx=> ?_⟩
  obtain ⟨i,hi,rfl⟩:=List.getElem_of_mem hx
  have h2:=h.2 i (List.mem_range.2 hi)
  unfold wordOk plainB at h2
  have e:rdOf ByteArray.empty ws (i:Int)=ws[i]:=by
    unfold rdOf
    simp [hi]
  rw [e] at h2
  simp only [Bool.and_eq_true,beq_iff_eq] at h2
  have h3:=h2.1.1.1
  unfold Pure.kindOf at h3
  cases ho:Pure.one ws[i] with
  |none=>rw [ho] at h3;cases h3
  |some p=>
    have:=Pure.one_size ho
    simp only [maxLen]
    omega
def ReadGot (out:List Fg×Int×Int) (w:World) (e:Ending) (W:World):Prop:=
  ∃v,e=.returned (.tuple #[v,.int .i64 out.2.1,.int .i64 out.2.2])∧k49.R 49 W w.heap.size (fun _=>True) v out.1∧Below w.heap.size w W
/-- The three results' variables, written. -/
theorem three_set {w W : World} {n : Nat} {v0 v1 v2 : Value} (r0 : W.heap[n]? = some (.cells #[v0] 25 (0, 0))) (r1 : W.heap[n + 1]? = some (.cells #[v1] 3 (0, 0))) (r2 : W.heap[n + 2]? = some (.cells #[v2] 26 (0, 0))) (hn : w.heap.size ≤ n) (hb : Below w.heap.size w W) (a0 a1 a2 : Value) :
    (((W.setCell ⟨n,0,none⟩ a0).setCell ⟨n+1,0,none⟩ a1).setCell ⟨n+1+1,0,none⟩ a2).heap[n]? =some (.cells #[a0] 25 (0,0))∧
    (((W.setCell ⟨n,0,none⟩ a0).setCell ⟨n+1,0,none⟩ a1).setCell ⟨n+1+1,0,none⟩ a2).heap[n+1]? =some (.cells #[a1] 3 (0,0))∧
    (((W.setCell ⟨n,0,none⟩ a0).setCell ⟨n+1,0,none⟩ a1).setCell ⟨n+1+1,0,none⟩ a2).heap[n+2]? =some (.cells #[a2] 26 (0,0))∧
    Below w.heap.size w (((W.setCell ⟨n,0,none⟩ a0).setCell ⟨n+1,0,none⟩ a1).setCell ⟨n+1+1,0,none⟩ a2)∧
    Kp (fun k=>k=n∨k=n+1∨k=n+2) W (((W.setCell ⟨n,0,none⟩ a0).setCell ⟨n+1,0,none⟩ a1).setCell ⟨n+1+1,0,none⟩ a2):=by
  have K:=Kp.setCell (Kp.setCell (Kp.setCell (S:=fun k=>k=n∨k=n+1∨k=n+2) (Kp.refl _ W) (p:=⟨n,0,none⟩) (.inl (.inl rfl)) a0) (p:=⟨n+1,0,none⟩) (.inl (.inr (.inl rfl))) a1) (p:=⟨n+1+1,0,none⟩) (.inl (.inr (.inr rfl))) a2
  exact ⟨blk_far (blk_far (blk_put r0 0 _ rfl) (by simp) _) (by simp;omega) _,blk_far (blk_put (blk_far r1 (by simp) _) 0 _ rfl) (by simp) _,blk_put (blk_far (blk_far r2 (by simp) _) (by simp) _) 0 _ rfl,
    Kp.below hb K (by rintro k (rfl|rfl|rfl)<;>omega) hb.size,K⟩
set_option maxHeartbeats 12800000 in
set_option maxRecDepth 100000 in
theorem read_walk {A0 A1 : Option Addr} {c0 c1 : Nat} {l : List Tk} {ws : List ByteArray} {w : World} (hC : Kd.C k39 w A0 l.length l) (hc : l.length ≤ c0) (hW : Kd.C Kd.string w A1 ws.length ws) (hcw : ws.length ≤ c1) (hE : Lx.Env w) :
    Calls Tryz.prog 15 #[.slice A0 l.length c0,.slice A1 ws.length c1] w (ReadGot (readOut l ws) w):=by
  obtain ⟨Res,hRes⟩: ∃R,readOut l ws=R:=⟨_,rfl⟩
  rw [hRes]
  have HR:=Lib.hid hRes
  have HC:=Lib.hid hC
  have HW:=Lib.hid hW
  have HE:=Lib.hid hE
  clear hRes hC hW hE
  refine (callsIn_wide (n:=3)).1 ?_
  refine callsIn_of_wp_marks Tryz.func15 rfl trivial ?_ rfl
  simp only [Tryz.ntmps15,List.size_toArray,List.length_cons,List.length_nil,Nat.reduceAdd,Nat.reduceSub,Array.replicate_succ,Array.replicate_zero,List.push_toArray,List.append_toArray,List.nil_append,List.cons_append]
  gi_wp2_with fail
  obtain ⟨W0,hW0⟩: ∃X,((w.alloc (.cells #[.slice none 0 0] 25 (0,0))).alloc (.cells #[.int .i64 0] 3 (0,0))).alloc (.cells #[.int .i64 0] 26 (0,0))=X:=⟨_,rfl⟩
  rw [hW0]
  have B0:Below w.heap.size w W0:=hW0▸by repeat (first|(with_reducible exact Below.refl _ _)|(with_reducible apply below_alloc))
  have r0:W0.heap[w.heap.size]? =some (.cells #[.slice none 0 0] 25 (0,0)):=hW0▸blk_alloc (blk_alloc (blk_new w _) _) _
  have r1:W0.heap[w.heap.size+1]? =some (.cells #[.int .i64 0] 3 (0,0)):=hW0▸blk_alloc (by have h:=blk_new (w.alloc (Obj.cells #[.slice none 0 0] 25 (0,0))) (Obj.cells #[.int .i64 0] 3 (0,0));rwa [World.size_alloc] at h) _
  have r2:W0.heap[w.heap.size+2]? =some (.cells #[.int .i64 0] 26 (0,0)):=hW0▸by have h:=blk_new ((w.alloc (Obj.cells #[.slice none 0 0] 25 (0,0))).alloc (Obj.cells #[.int .i64 0] 3 (0,0))) (Obj.cells #[.int .i64 0] 26 (0,0));rwa [World.size_alloc,World.size_alloc] at h
  clear hW0
  refine ⟨trivial,(callsIn_wide.2 (areWords_c (Kd.C_below HW.out B0) hcw (HE.out.below B0))).mono ?_⟩
  rintro e W1 ⟨rfl,hb1⟩
  have B1:=B0.trans (hb1.mono B0.size)
  replace r0:=blk_below r0 hb1
  replace r1:=blk_below r1 hb1
  replace r2:=blk_below r2 hb1
  clear hb1 B0
  obtain ⟨bw,hbw⟩: ∃b,wordsB ws=b:=⟨_,rfl⟩
  rw [hbw]
  have HBW:=Lib.hid hbw
  clear hbw
  have k0:W1.cell? ⟨w.heap.size,0,none⟩=some (.slice none 0 0):=blk_cell r0 0
  have k1:W1.cell? ⟨w.heap.size+1,0,none⟩=some (.int .i64 0):=blk_cell r1 0
  have k2:W1.cell? ⟨w.heap.size+1+1,0,none⟩=some (.int .i64 0):=blk_cell r2 0
  have f0:W1.frozen? ⟨w.heap.size,0,none⟩=false:=blk_frozen r0 0
  have f1:W1.frozen? ⟨w.heap.size+1,0,none⟩=false:=blk_frozen r1 0
  have f2:W1.frozen? ⟨w.heap.size+1+1,0,none⟩=false:=blk_frozen r2 0
  cases bw with
  |false=>
    have HRE:Hid (Res=([],0,1)):=Lib.hid (by rw [←HR.out];unfold readOut;rw [if_neg (by rw [HBW.out];decide)])
    gi_wp2_with fail
    obtain ⟨u0,u1,u2,uB,_⟩:=three_set r0 r1 r2 (Nat.le_refl _) B1 (.slice none 0 0) (.int .i64 0) (.int .i64 1)
    have e0:=blk_cell u0 0
    have e1:=blk_cell u1 0
    have e2:World.cell? _ ⟨w.heap.size+1+1,0,none⟩=_:=blk_cell u2 0
    refine (show LeavesInM _ _ _ _ _ _ _ _ _ from ?_)
    refine ⟨.tuple #[.slice none 0 0,.int .i64 0,.int .i64 1],by simp [results,Tryz.results15,go_sem,e0,e1,e2], ?_⟩
    rw [HRE.out]
    exact ⟨_,rfl,Kd.R_nil _ _ _ _ _,uB⟩
  |true=>
    by_cases hlen:6000<l.length
    · have x1:decide (6000<l.length)=true:=decide_eq_true hlen
      have x2:decide ((6000:Int)<(l.length:Int))=true:=decide_eq_true (by omega)
      have HRE:Hid (Res=([],0,2)):=Lib.hid (by rw [←HR.out];unfold readOut;rw [if_pos HBW.out,if_neg (by omega)])
      gi_wp2_with fail
      obtain ⟨u0,u1,u2,uB,_⟩:=three_set r0 r1 r2 (Nat.le_refl _) B1 (.slice none 0 0) (.int .i64 0) (.int .i64 2)
      have e0:=blk_cell u0 0
      have e1:=blk_cell u1 0
      have e2:World.cell? _ ⟨w.heap.size+1+1,0,none⟩=_:=blk_cell u2 0
      refine (show LeavesInM _ _ _ _ _ _ _ _ _ from ?_)
      refine ⟨.tuple #[.slice none 0 0,.int .i64 0,.int .i64 2],by simp [results,Tryz.results15,go_sem,e0,e1,e2], ?_⟩
      rw [HRE.out]
      exact ⟨_,rfl,Kd.R_nil _ _ _ _ _,uB⟩
    · have x1:decide (6000<l.length)=false:=decide_eq_false hlen
      have x2:decide ((6000:Int)<(l.length:Int))=false:=decide_eq_false (by omega)
      gi_wp2_with fail
      obtain ⟨g,hg⟩: ∃g,W1.heap.size=g:=⟨_,rfl⟩
      rw [hg]
      have hrd:Rd W1 g A0 c0 l A1 c1 ws (fun _=>0) 0 (.slice none 0 0) [] (.slice none 0 0) [] (W1.alloc (.cells #[.slice A0 l.length c0,.int .i64 0,.slice A1 ws.length c1,.slice none 0 0,.slice none 0 0] 71 (0,0))):=
        ⟨hg▸blk_new W1 _,rfl,Kd.R_nil _ _ _ _ _,World.ownsRow_nil _ _ _ _,fun k hk=>by simp [Value.ownBlock] at hk,fun f hf=>absurd hf (by simp),List.Pairwise.nil,below_alloc (Below.refl _ _) _,by omega,fun f hf=>absurd hf (by simp)⟩
      obtain ⟨hw40,hwsz⟩:=words_size HBW.out
      refine ⟨trivial,(callsIn_wide.2 (read_c hrd (Kd.C_below HC.out B1) (by omega) (HE.out.below B1) (Kd.C_below HW.out B1) hw40 hwsz)).mono ?_⟩
      rintro e W2 hpost
      unfold ReadPost at hpost
      have hro:readOut l ws=Res:=HR.out
      unfold readOut at hro
      rw [if_pos HBW.out,if_pos (by omega)] at hro
      obtain ⟨st,hst⟩: ∃st,mach (actTab (openers++ws)) l (l.length+1) 0 [] []=st:=⟨_,rfl⟩
      rw [hst] at hpost hro
      clear hst hrd
      rcases st with ⟨i,top,_|⟨p,r⟩⟩|⟨i,er⟩
      · obtain ⟨rfl,o2,tv,sv,fs,h2,hfs⟩:=hpost
        obtain rfl:fs=[]:=by simpa using hfs
        have hb2:=h2.bel
        have b2:=B1.trans (hb2.mono B1.size)
        have v0:=blk_below r0 hb2
        have v1:=blk_below r1 hb2
        have v2:=blk_below r2 hb2
        obtain ⟨At,ct,rfl⟩:=Kd.R_slice h2.top
        have k3:W2.cell? ⟨g,3,none⟩=some (.slice At top.length ct):=blk_cell h2.blk 3
        have k0:W2.cell? ⟨w.heap.size,0,none⟩=some (.slice none 0 0):=blk_cell v0 0
        have k1:W2.cell? ⟨w.heap.size+1,0,none⟩=some (.int .i64 0):=blk_cell v1 0
        have k2:W2.cell? ⟨w.heap.size+1+1,0,none⟩=some (.int .i64 0):=blk_cell v2 0
        have f0:W2.frozen? ⟨w.heap.size,0,none⟩=false:=blk_frozen v0 0
        have f1:W2.frozen? ⟨w.heap.size+1,0,none⟩=false:=blk_frozen v1 0
        have f2:W2.frozen? ⟨w.heap.size+1+1,0,none⟩=false:=blk_frozen v2 0
        have H2:=Lib.hid h2
        have HB2:=Lib.hid b2
        have HRO:=Lib.hid hro
        have hle:w.heap.size+3≤W1.heap.size:=by have:=blk_lt r2;omega
        clear h2 b2 hro hb2
        dsimp only
        gi_wp2_with fail
        obtain ⟨u0,u1,u2,uB,uK⟩:=three_set v0 v1 v2 (Nat.le_refl _) HB2.out (.slice At top.length ct) (.int .i64 0) (.int .i64 0)
        obtain ⟨WD,hWD⟩: ∃X,((W2.setCell ⟨w.heap.size,0,none⟩ (.slice At top.length ct)).setCell ⟨w.heap.size+1,0,none⟩ (.int .i64 0)).setCell ⟨w.heap.size+1+1,0,none⟩ (.int .i64 0)=X:=⟨_,rfl⟩
        rw [hWD] at u0 u1 u2 uB uK⊢
        refine (show LeavesInM _ _ _ _ _ _ _ _ _ from ?_)
        refine ⟨by simp,.inr ⟨fun _=>by omega,_,_,_,_,rfl,invoke_closure (enters_of Tryz.func48 (by kernel_rfl) rfl) _,fun _ _=>trivial, ?_⟩⟩
        refine (catch_idle _ _ _ _ _).mono ?_
        rintro e u' w'' ⟨rfl,rfl,rfl⟩
        have e0:=blk_cell u0 0
        have e1:=blk_cell u1 0
        have e2:World.cell? _ ⟨w.heap.size+1+1,0,none⟩=_:=blk_cell u2 0
        refine ⟨.tuple #[.slice At top.length ct,.int .i64 0,.int .i64 0],by simp [results,Tryz.results15,go_sem,e0,e1,e2], ?_⟩
        rw [←HRO.out]
        refine ⟨_,rfl,Kd.R_lower (Kd.R_mono (Kd.R_move (Kd.R_bound H2.out.top) (fun k hk=>uK.block k hk.2.2.1 ?_)) (fun _ _=>trivial)) B1.size,uB⟩
        have h1:=hk.2.1
        rintro (rfl|rfl|rfl)<;>omega
      · obtain ⟨rfl,hb2⟩:=hpost
        have hle:w.heap.size+3≤W1.heap.size:=by have:=blk_lt r2;omega
        have b2:=B1.trans (hb2.mono B1.size)
        have v0:=blk_below r0 hb2
        have v1:=blk_below r1 hb2
        have v2:=blk_below r2 hb2
        refine (show LeavesInM _ _ _ _ _ _ _ _ _ from ?_)
        refine ⟨by simp,.inr ⟨fun _=>by omega,_,_,_,_,rfl,invoke_closure (enters_of Tryz.func48 (by kernel_rfl) rfl) _,fun _ _=>trivial, ?_⟩⟩
        refine (catch_refused _ w.heap.size (w.heap.size+1) (w.heap.size+2) p.at_ 21 _ (blk_cell v0 0) (blk_cell v1 0) (blk_cell v2 0) (blk_frozen v0 0) (blk_frozen v1 0) (blk_frozen v2 0) (blk_lt v0) (blk_lt v1) (blk_lt v2) (by omega) (by omega) (by omega)).mono ?_
        rintro e u' w'' ⟨rfl,rfl,c0,c1,c2,hk⟩
        refine ⟨.tuple #[.slice none 0 0,.int .i64 p.at_,.int .i64 21],by simp [results,Tryz.results15,go_sem,c0,c1,c2], ?_⟩
        rw [←hro]
        exact ⟨_,rfl,Kd.R_nil _ _ _ _ _,Kp.below b2 hk (by rintro k (rfl|rfl|rfl)<;>omega) b2.size⟩
      · obtain ⟨rfl,hb2⟩:=hpost
        have hle:w.heap.size+3≤W1.heap.size:=by have:=blk_lt r2;omega
        have b2:=B1.trans (hb2.mono B1.size)
        have v0:=blk_below r0 hb2
        have v1:=blk_below r1 hb2
        have v2:=blk_below r2 hb2
        refine (show LeavesInM _ _ _ _ _ _ _ _ _ from ?_)
        refine ⟨by simp,.inr ⟨fun _=>by omega,_,_,_,_,rfl,invoke_closure (enters_of Tryz.func48 (by kernel_rfl) rfl) _,fun _ _=>trivial, ?_⟩⟩
        refine (catch_refused _ w.heap.size (w.heap.size+1) (w.heap.size+2) i er _ (blk_cell v0 0) (blk_cell v1 0) (blk_cell v2 0) (blk_frozen v0 0) (blk_frozen v1 0) (blk_frozen v2 0) (blk_lt v0) (blk_lt v1) (blk_lt v2) (by omega) (by omega) (by omega)).mono ?_
        rintro e u' w'' ⟨rfl,rfl,c0,c1,c2,hk⟩
        refine ⟨.tuple #[.slice none 0 0,.int .i64 i,.int .i64 er],by simp [results,Tryz.results15,go_sem,c0,c1,c2], ?_⟩
        rw [←hro]
        exact ⟨_,rfl,Kd.R_nil _ _ _ _ _,Kp.below b2 hk (by rintro k (rfl|rfl|rfl)<;>omega) b2.size⟩
end Go.Proofs.YtipnlgmeonepfaaGreatDoor.PFa
