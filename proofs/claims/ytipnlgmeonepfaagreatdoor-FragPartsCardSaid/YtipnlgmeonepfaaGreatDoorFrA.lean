/- What lies in memory while fragments are read. -/
import Derived.Test.YtipnlgmeonepfaaGreatDoorPFax0
import Derived.Test.YtipnlgmeonepfaaGreatDoorLxIter
import Derived.Deep.QuietTactic
import Derived.BigQuiet
import Derived.BigRegion
import Derived.WalkLawsBesides
import Derived.Maps.OwnSet
import Derived.Maps.Views
import Derived.StringKeys
import Derived.Test.YtipnlgmeonepfaaGreatDoorLxMore
import Derived.Test.YtipnlgmeonepfaaGreatDoorLxScanW
import Derived.Test.YtipnlgmeonepfaaGreatDoorLxExt
import Derived.Deep.RegionHeldLaw
import Derived.Deep.AppendLies
set_option linter.unusedVariables false
set_option linter.unusedSimpArgs false
namespace Go.Proofs.YtipnlgmeonepfaaGreatDoor.PFa
open Go.RowKit Go.Proofs.YtipnlgmeonepfaaGreatDoorW.PrintWords Go.Proofs.YtipnlgmeonepfaaGreatDoorW.PrintLast Go.Proofs.YtipnlgmeonepfaaGreatDoorW.PrintMore
open Go.Proofs.YtipnlgmeonepfaaGreatDoor.Lx (Kp)

abbrev Tk:=S39
abbrev Fg:=S49
/-- A group that is being read: its block, the token that opened it, where that stands, the slice of what lies in it, and what lies in it. -/
structure Fr where
  blk:Nat
  tok:Tk
  at_:Nat
  kv:Value
  kids:List Fg
/-- The same without memory. -/
structure PF where
  tok:Tk
  at_:Nat
  kids:List Fg
def Fr.pf (f:Fr):PF:=⟨f.tok,f.at_,f.kids⟩
def stCells:List Fr→List Value
  |[]=>[]
  |f::l=>stCells l++[.pointer (some ⟨f.blk,0,none⟩),.int .i64 f.at_]
theorem stCells_len: ∀l:List Fr,(stCells l).length=l.length*2
  |[]=>rfl
  |f::l=>by simp [stCells,stCells_len l];omega
def frCells (t:Tk) (v:Value):Array Value:= #[.int .i64 t.f0,.int .i64 t.f1,.string t.f2,.int .i64 t.f3,.int .i64 t.f4,.string t.f2,v]
def curA (g:Nat):List Fr→Addr|[]=>⟨g,3,none⟩|f::_=>⟨f.blk,6,none⟩
def curV (tv:Value):List Fr→Value|[]=>tv|f::_=>f.kv
def curL (top:List Fg):List Fr→List Fg|[]=>top|f::_=>f.kids
def curO:List Fr→Nat|[]=>1|f::_=>f.blk+3
def addT (top:List Fg) (x:Fg) {α:Type}:List α→List Fg|[]=>top++[x]|_=>top
def addP (x:Fg):List PF→List PF|[]=>[]|f::r=>{f with kids:=f.kids++[x]}::r

structure Rd (w:World) (g:Nat) (A0:Option Addr) (c0:Nat) (l:List Tk) (A1:Option Addr) (c1:Nat) (ws:List ByteArray) (o:Nat→Nat) (at_:Nat) (tv:Value) (top:List Fg) (sv:Value) (fs:List Fr) (W:World):Prop where
  blk:W.heap[g]? =some (.cells #[.slice A0 l.length c0,.int .i64 at_,.slice A1 ws.length c1,tv,sv] 71 (0,0))
  og:o g=0
  top:k49.R 49 W w.heap.size (fun k=>o k=1) tv top
  stk:W.ownsRow w.heap.size 107 2 sv fs.length (stCells fs)
  so: ∀k,sv.ownBlock=some k→o k=2
  frs: ∀f∈fs,W.heap[f.blk]? =some (.cells (frCells f.tok f.kv) 49 (0,0))∧o f.blk=0∧k49.R 49 W w.heap.size (fun k=>o k=f.blk+3) f.kv f.kids
  nd:fs.Pairwise (fun a b=>a.blk≠b.blk)
  bel:Below w.heap.size w W
  hg:w.heap.size≤g
  fb: ∀f∈fs,w.heap.size≤f.blk
/-- The reader, what it has read, and what is open. -/
def RdAt (w:World) (g:Nat) (A0:Option Addr) (c0:Nat) (l:List Tk) (A1:Option Addr) (c1:Nat) (ws:List ByteArray) (at_:Nat) (top:List Fg) (ps:List PF) (W:World):Prop:=
  ∃o tv sv fs,Rd w g A0 c0 l A1 c1 ws o at_ tv top sv fs W∧fs.map Fr.pf=ps
/-- The same, and blocks (Z) that nothing of it lies in. -/
def RdZ (w:World) (g:Nat) (A0:Option Addr) (c0:Nat) (l:List Tk) (A1:Option Addr) (c1:Nat) (ws:List ByteArray) (at_:Nat) (top:List Fg) (ps:List PF) (Z:Nat→Prop) (W:World):Prop:=
  ∃o tv sv fs,Rd w g A0 c0 l A1 c1 ws o at_ tv top sv fs W∧fs.map Fr.pf=ps∧ ∀k,Z k→o k=0∧k≠g∧ ∀f∈fs,k≠f.blk
section
variable {w W W':World} {g:Nat} {A0:Option Addr} {c0:Nat} {l:List Tk} {A1:Option Addr} {c1:Nat} {ws:List ByteArray} {o:Nat→Nat} {at_:Nat} {tv:Value} {top:List Fg} {sv:Value} {fs:List Fr} {ps:List PF}
theorem Rd.below (h:Rd w g A0 c0 l A1 c1 ws o at_ tv top sv fs W) (hb:Below W.heap.size W W'):Rd w g A0 c0 l A1 c1 ws o at_ tv top sv fs W':=
  ⟨blk_below h.blk hb,h.og,Kd.R_below h.top hb,pw_own_below h.stk hb,h.so,fun f hf=>⟨blk_below (h.frs f hf).1 hb,(h.frs f hf).2.1,Kd.R_below (h.frs f hf).2.2 hb⟩,h.nd,h.bel.trans (hb.mono h.bel.size),h.hg,h.fb⟩
theorem RdAt.below (h:RdAt w g A0 c0 l A1 c1 ws at_ top ps W) (hb:Below W.heap.size W W'):RdAt w g A0 c0 l A1 c1 ws at_ top ps W':=by
  obtain ⟨o,tv,sv,fs,h,e⟩:=h
  exact ⟨o,tv,sv,fs,h.below hb,e⟩
theorem RdAt.bel (h:RdAt w g A0 c0 l A1 c1 ws at_ top ps W):Below w.heap.size w W:=by
  obtain ⟨o,tv,sv,fs,h,e⟩:=h
  exact h.bel
/-- A row that gets one element more, while what S says (and nothing of its own but the row itself) may turn. -/
theorem R_added {α : Type} {d : Kd α} {e base : Nat} {ok ok' okp S : Nat → Prop} {W w1 : World} {v v1 : Value} {xs : List α} {p : α} {inner cs : List Value} (h0 : ∀ k, v.ownBlock = some k → ok' k) (hr : Reps (d.M W base (fun k => ok k ∧ some k ≠ v.ownBlock)) d.sz xs inner) (hok : ∀ k, k < W.heap.size → ok k → ok' k)
    (hp:d.M W base okp p cs) (hokp: ∀k,k<W.heap.size→okp k→ok' k∧some k≠v.ownBlock) (hfresh: ∀k,W.heap.size≤k→ok' k)
    (hown:w1.ownsRow base e d.sz v1 (xs.length+1) (inner++cs)) (hg:Kp S W w1) (hS: ∀k,k<W.heap.size→ok' k→some k≠v.ownBlock→ ¬S k) (hat:v1.ownBlock=v.ownBlock∨ ∃b,v1.ownBlock=some b∧W.heap.size≤b):d.R e w1 base ok' v1 (xs++[p]):=by
  have hne: ∀k,some k≠v.ownBlock→k<W.heap.size→some k≠v1.ownBlock:=by
    intro k hk hlt
    rcases hat with hat|⟨b,hb,hle⟩
    · rw [hat];exact hk
    · rw [hb]
      intro he
      injection he with he
      omega
  have step: ∀{q:α} {c:List Value} {o:Nat→Prop},d.M W base o q c→(∀k,k<W.heap.size→o k→ok' k∧some k≠v.ownBlock)→d.M w1 base (fun k=>ok' k∧some k≠v1.ownBlock) q c:=by
    intro q c o hq ho
    have h1:=d.M_move (w1:=w1) (fun k hk=>hg.block k hk.2.2.1 (hS k hk.2.2.1 (ho k hk.2.2.1 hk.1).1 (ho k hk.2.2.1 hk.1).2)) (d.M_bound hq)
    exact d.M_mono (fun k hk=>⟨(ho k hk.2.2.1 hk.1).1,hne k (ho k hk.2.2.1 hk.1).2 hk.2.2.1⟩) h1
  refine ⟨fun k hk=> ?_,inner++cs,by rw [List.length_append,List.length_singleton];exact hown, ?_⟩
  · rcases hat with hat|⟨b,hb,hle⟩
    · exact h0 k (hat▸hk)
    · rw [hb] at hk
      injection hk with hk
      exact hfresh k (by omega)
  · exact (hr.imp_ (fun _ _ hq=>step hq (fun k hlt hk=>⟨hok k hlt hk.1,hk.2⟩))).snoc (step hp hokp) (d.K_len (d.K_of_M hp))
theorem Rd.curR (h:Rd w g A0 c0 l A1 c1 ws o at_ tv top sv fs W):k49.R 49 W w.heap.size (fun k=>o k=curO fs) (curV tv fs) (curL top fs):=by
  cases fs with
  |nil=>exact h.top
  |cons f r=>exact (h.frs f List.mem_cons_self).2.2
/-- A row of another owner lies as it lay. -/
theorem R_aside {ok okx:Nat→Prop} {z z':Nat} {v:Value} {xs:List Fg} {S:Nat→Prop} {o':Nat→Nat} (h:k49.R 49 W w.heap.size (fun k=>o k=z) v xs) (hk:Kp S W W') (hS: ∀k,k<W.heap.size→o k=z→ ¬S k) (ho: ∀k,k<W.heap.size→o k=z→o' k=z):k49.R 49 W' w.heap.size (fun k=>o' k=z) v xs:=
  Kd.R_mono (Kd.R_move (Kd.R_bound h) (fun k hk2=>hk.block k hk2.2.2.1 (hS k hk2.2.2.1 hk2.1))) (fun k hk2=>ho k hk2.2.2.1 hk2.1)
open Classical in
theorem Rd.add (h : Rd w g A0 c0 l A1 c1 ws o at_ tv top sv fs W) {x : Fg} {cs inner : List Value} {okx : Nat → Prop} {v1 : Value}
    (hin:Reps (k49.M W w.heap.size (fun k=>o k=curO fs∧some k≠(curV tv fs).ownBlock)) 7 (curL top fs) inner)
    (hx:k49.M W w.heap.size okx x cs) (hokx: ∀k,okx k→o k≠0∧o k≠1∧o k≠2∧ ∀f∈fs,o k≠f.blk+3)
    (hown:W'.ownsRow w.heap.size 49 7 v1 ((curL top fs).length+1) (inner++cs))
    (hk:Kp (fun k=>k=(curA g fs).block∨some k=(curV tv fs).ownBlock) W W')
    (hat:v1.ownBlock=(curV tv fs).ownBlock∨ ∃b,v1.ownBlock=some b∧W.heap.size≤b)
    {Z:Nat→Prop} (hZ: ∀k,Z k→k<W.heap.size∧o k=0∧k≠g∧ ∀f∈fs,k≠f.blk)
    (hcur: ∀o,W.heap[(curA g fs).block]? =some o→W'.heap[(curA g fs).block]? =some (match o with| .cells c t f=> .cells (c.setIfInBounds (curA g fs).off v1) t f|_=>o)):
    RdZ w g A0 c0 l A1 c1 ws at_ (addT top x fs) (addP x (fs.map Fr.pf)) Z W':=by
  obtain ⟨o',ho'⟩: ∃o':Nat→Nat,∀k,o' k=if k<W.heap.size then (if okx k then curO fs else o k) else curO fs:=⟨_,fun _=>rfl⟩
  have hold: ∀k z,k<W.heap.size→o k=z→(z=0∨z=1∨z=2∨ ∃f∈fs,z=f.blk+3)→o' k=z:=by
    intro k z hlt hz hc
    rw [ho',if_pos hlt,if_neg,hz]
    intro hx'
    obtain ⟨h1,h2,h3,h4⟩:=hokx k hx'
    rcases hc with rfl|rfl|rfl|⟨f,hf,rfl⟩
    · exact h1 hz
    · exact h2 hz
    · exact h3 hz
    · exact h4 f hf hz
  have hcO:curO fs=1∨ ∃f∈fs,curO fs=f.blk+3:=by
    cases fs with
    |nil=>exact .inl rfl
    |cons f r=>exact .inr ⟨f,List.mem_cons_self,rfl⟩
  have hvO: ∀k,(curV tv fs).ownBlock=some k→o k=curO fs:=h.curR.1
  have hcb:o (curA g fs).block=0:=by
    cases fs with
    |nil=>exact h.og
    |cons f r=>exact (h.frs f List.mem_cons_self).2.1
  have hnS: ∀k z,o k=z→z≠0→z≠curO fs→ ¬(k=(curA g fs).block∨some k=(curV tv fs).ownBlock):=by
    rintro k z hz h0 h1 (rfl|h2)
    · exact h0 (hz.symm.trans hcb)
    · exact h1 (hz.symm.trans (hvO k h2.symm))
  have hcO0:curO fs≠0:=by
    cases fs<;>simp [curO]
  have hnew:k49.R 49 W' w.heap.size (fun k=>o' k=curO fs) v1 (curL top fs++[x]):=by
    have hsz:k49.sz=7:=rfl
    refine R_added (S:=fun k=>k=(curA g fs).block∨some k=(curV tv fs).ownBlock) (ok:=fun k=>o k=curO fs) (okp:=okx) ?_ hin ?_ hx ?_ ?_ hown hk ?_ hat
    · intro k hk2
      have:=Kd.R_lt h.curR k hk2
      rw [ho',if_pos this,hvO k hk2]
      split<;>rfl
    · intro k hlt hk2
      rw [ho',if_pos hlt,hk2]
      split<;>rfl
    · intro k hlt hk2
      refine ⟨by rw [ho',if_pos hlt,if_pos hk2],fun e=> ?_⟩
      have e1:=hvO k e.symm
      obtain ⟨h1,h2,h3,h4⟩:=hokx k hk2
      rcases hcO with hc|⟨f,hf,hc⟩
      · exact h2 (e1.trans hc)
      · exact h4 f hf (e1.trans hc)
    · intro k hge
      rw [ho',if_neg (by omega)]
    · rintro k hlt hk2 hne (rfl|h2)
      · rw [ho',if_pos hlt] at hk2
        split at hk2
        · rename_i hx'
          exact (hokx _ hx').1 hcb
        · exact hcO0 (hk2.symm.trans hcb)
      · exact hne h2
  have hgb:g<W.heap.size:=blk_lt h.blk
  have hbel:Below w.heap.size w W':=Kp.below h.bel hk (by
    rintro k (rfl|h2)
    · cases fs with
      |nil=>exact h.hg
      |cons f r=>exact h.fb f List.mem_cons_self
    · exact Kd.R_base h.curR k h2.symm) h.bel.size
  have hso: ∀k,sv.ownBlock=some k→o' k=2:=fun k hk2=>hold k 2 (own_lt h.stk k hk2) (h.so k hk2) (.inr (.inr (.inl rfl)))
  have hstk:W'.ownsRow w.heap.size 107 2 sv fs.length (stCells fs):=own_move h.stk (fun k hk2=>hk.block k (own_lt h.stk k hk2) (hnS k 2 (h.so k hk2) (by decide) (by
    rcases hcO with hc|⟨f,hf,hc⟩<;>rw [hc]<;>omega)))
  cases fs with
  |nil=>
    refine ⟨o',v1,sv,[],⟨?_,hold g 0 hgb h.og (.inl rfl),hnew,hstk,hso,fun f hf=>absurd hf (by simp),List.Pairwise.nil,hbel,h.hg,fun f hf=>absurd hf (by simp)⟩,rfl,fun k hz=>⟨hold k 0 (hZ k hz).1 (hZ k hz).2.1 (.inl rfl),(hZ k hz).2.2.1,fun f hf=>absurd hf (by simp)⟩⟩
    exact hcur _ h.blk
  |cons f r=>
    have hff:=h.frs f List.mem_cons_self
    have hndf: ∀f'∈r,f.blk≠f'.blk:=(List.pairwise_cons.1 h.nd).1
    have hgf:g≠f.blk:=by
      intro e
      have h1:=h.blk
      rw [e,hff.1] at h1
      injection h1 with h1
      injection h1 with _ h2 _
      exact absurd h2 (by decide)
    refine ⟨o',tv,sv,{f with kv:=v1,kids:=f.kids++[x]}::r,⟨?_,hold g 0 hgb h.og (.inl rfl), ?_,hstk,hso, ?_, ?_,hbel,h.hg, ?_⟩,rfl,fun k hz=>⟨hold k 0 (hZ k hz).1 (hZ k hz).2.1 (.inl rfl),(hZ k hz).2.2.1,fun f' hf'=> ?_⟩⟩
    · exact hk.blk h.blk (by
        rintro (h1|h2)
        · exact hgf h1
        · exact hcO0 ((hvO g h2.symm).symm.trans h.og))
    · exact R_aside (ok:=fun _=>True) (okx:=okx) (z':=0) h.top hk (fun k _ hz=>hnS k 1 hz (by decide) (by simp only [curO];omega)) (fun k hlt hz=>hold k 1 hlt hz (.inr (.inl rfl)))
    · intro f' hf'
      rcases List.mem_cons.1 hf' with rfl|hf'
      · refine ⟨?_,hold f.blk 0 (blk_lt hff.1) hff.2.1 (.inl rfl),hnew⟩
        exact hcur _ hff.1
      · have hf2:=h.frs f' (List.mem_cons_of_mem _ hf')
        refine ⟨hk.blk hf2.1 ?_,hold f'.blk 0 (blk_lt hf2.1) hf2.2.1 (.inl rfl), ?_⟩
        · rintro (h1|h2)
          · exact hndf f' hf' h1.symm
          · exact hcO0 ((hvO _ h2.symm).symm.trans hf2.2.1)
        · exact R_aside (ok := fun _ => True) (okx := okx) (z' := 0) hf2.2.2 hk (fun k _ hz => hnS k _ hz (by omega) (by
            have:=hndf f' hf'
            simp only [curO]
            omega)) (fun k hlt hz=>hold k _ hlt hz (.inr (.inr (.inr ⟨f',List.mem_cons_of_mem _ hf',rfl⟩))))
    · exact List.pairwise_cons.2 ⟨hndf,(List.pairwise_cons.1 h.nd).2⟩
    · intro f' hf'
      rcases List.mem_cons.1 hf' with rfl|hf'
      · exact h.fb f List.mem_cons_self
      · exact h.fb f' (List.mem_cons_of_mem _ hf')
    · rcases List.mem_cons.1 hf' with rfl|hf'
      · exact (hZ k hz).2.2.2 f List.mem_cons_self
      · exact (hZ k hz).2.2.2 f' (List.mem_cons_of_mem _ hf')
theorem RdZ.at {Z:Nat→Prop} (h:RdZ w g A0 c0 l A1 c1 ws at_ top ps Z W):RdAt w g A0 c0 l A1 c1 ws at_ top ps W:=by
  obtain ⟨o,tv,sv,fs,h,e,_⟩:=h
  exact ⟨o,tv,sv,fs,h,e⟩
/-- What is not ours may be written. -/
theorem RdZ.far {Z:Nat→Prop} (h:RdZ w g A0 c0 l A1 c1 ws at_ top ps Z W) {b:Nat} (hb:Z b) (hw:w.heap.size≤b) (i:Nat) (u:Value):RdZ w g A0 c0 l A1 c1 ws at_ top ps Z (W.setCell ⟨b,i,none⟩ u):=by
  obtain ⟨o,tv,sv,fs,h,e,hz⟩:=h
  obtain ⟨h1,h2,h3⟩:=hz b hb
  have hne: ∀k z,o k=z→z≠0→k≠b:=by
    rintro k z hk hz rfl
    exact hz (hk.symm.trans h1)
  refine ⟨o,tv,sv,fs,⟨blk_far h.blk (Ne.symm h2) _,h.og,Kd.R_far h.top (fun k hk=>hne k 1 hk (by decide)) u,own_setCell h.stk (fun e=>hne b 2 (h.so b e.symm) (by decide) rfl) u,h.so,fun f hf=>⟨blk_far (h.frs f hf).1 (Ne.symm (h3 f hf)) _,(h.frs f hf).2.1,Kd.R_far (h.frs f hf).2.2 (fun k hk=>hne k _ hk (by omega)) u⟩,h.nd,h.bel.setCell hw u,h.hg,h.fb⟩,e,hz⟩
/-- New blocks are nobody's. -/
theorem Rd.clip (h:Rd w g A0 c0 l A1 c1 ws o at_ tv top sv fs W): ∃o',Rd w g A0 c0 l A1 c1 ws o' at_ tv top sv fs W∧(∀k,W.heap.size≤k→o' k=0)∧ ∀k,k<W.heap.size→o' k=o k:=by
  obtain ⟨o',ho'⟩: ∃o':Nat→Nat,∀k,o' k=if k<W.heap.size then o k else 0:=⟨_,fun _=>rfl⟩
  have hold: ∀k,k<W.heap.size→o' k=o k:=fun k hk=>by rw [ho',if_pos hk]
  have hR: ∀{z:Nat} {v:Value} {xs:List Fg},k49.R 49 W w.heap.size (fun k=>o k=z) v xs→k49.R 49 W w.heap.size (fun k=>o' k=z) v xs:=fun h=>Kd.R_mono (Kd.R_bound h) (fun k hk=>(hold k hk.2.2.1).trans hk.1)
  exact ⟨o',⟨h.blk,(hold g (blk_lt h.blk)).trans h.og,hR h.top,h.stk,fun k hk=>(hold k (own_lt h.stk k hk)).trans (h.so k hk),fun f hf=>⟨(h.frs f hf).1,(hold _ (blk_lt (h.frs f hf).1)).trans (h.frs f hf).2.1,hR (h.frs f hf).2.2⟩,h.nd,h.bel,h.hg,h.fb⟩,fun k hk=>by rw [ho',if_neg (by omega)],hold⟩
theorem RdZ.mono {Z Z':Nat→Prop} (h:RdZ w g A0 c0 l A1 c1 ws at_ top ps Z W) (hz: ∀k,Z' k→Z k):RdZ w g A0 c0 l A1 c1 ws at_ top ps Z' W:=by
  obtain ⟨o,tv,sv,fs,h,e,h3⟩:=h
  exact ⟨o,tv,sv,fs,h,e,fun k hk=>h3 k (hz k hk)⟩
theorem RdZ.below {Z:Nat→Prop} (h:RdZ w g A0 c0 l A1 c1 ws at_ top ps Z W) (hb:Below W.heap.size W W'):RdZ w g A0 c0 l A1 c1 ws at_ top ps Z W':=by
  obtain ⟨o,tv,sv,fs,h,e,h3⟩:=h
  exact ⟨o,tv,sv,fs,h.below hb,e,h3⟩
/-- A new block is not ours. -/
theorem RdZ.alloc {Z:Nat→Prop} (h:RdZ w g A0 c0 l A1 c1 ws at_ top ps Z W) (hz: ∀k,Z k→k<W.heap.size) (ob:Obj):RdZ w g A0 c0 l A1 c1 ws at_ top ps (fun k=>Z k∨k=W.heap.size) (W.alloc ob):=by
  obtain ⟨o,tv,sv,fs,h,e,h3⟩:=h
  obtain ⟨o',h',hc,hco⟩:=h.clip
  refine ⟨o',tv,sv,fs,h'.below (below_alloc (Below.refl _ _) _),e,fun k hk=> ?_⟩
  rcases hk with hk|rfl
  · exact ⟨(hco k (hz k hk)).trans (h3 k hk).1,(h3 k hk).2⟩
  · refine ⟨hc _ (Nat.le_refl _), ?_,fun f hf=> ?_⟩
    · have:=blk_lt h.blk
      omega
    · have:=blk_lt (h.frs f hf).1
      omega
end
theorem al {W:World} {a:Addr} {v:Value} (h:W.cell? a=some v) (o:Obj):(W.alloc o).cell? a=some v:=(World.cell?_of_block (w:=W) (Below.heap_alloc W o a.block (World.block_lt_of_cell? W a h))).trans h
end Go.Proofs.YtipnlgmeonepfaaGreatDoor.PFa

set_option linter.unusedVariables false
set_option linter.unusedSimpArgs false
namespace Go.Proofs.YtipnlgmeonepfaaGreatDoor.PFa
open Go.RowKit Go.Proofs.YtipnlgmeonepfaaGreatDoorW.PrintWords Go.Proofs.YtipnlgmeonepfaaGreatDoorW.PrintLast Go.Proofs.YtipnlgmeonepfaaGreatDoorW.PrintMore
open Go.Proofs.YtipnlgmeonepfaaGreatDoor.Lx (Kp)
section
variable {w W W':World} {g:Nat} {A0:Option Addr} {c0:Nat} {l:List Tk} {A1:Option Addr} {c1:Nat} {ws:List ByteArray} {o:Nat→Nat} {at_:Nat} {tv:Value} {top:List Fg} {sv:Value} {fs:List Fr} {ps:List PF}
/-- The stack's row, where something is open. -/
theorem Rd.stack {f:Fr} {r:List Fr} (h:Rd w g A0 c0 l A1 c1 ws o at_ tv top sv (f::r) W): ∃P cap,sv=.slice (some ⟨P,0,none⟩) (r.length+1) cap∧W.cell? ⟨P,r.length*2,none⟩=some (.pointer (some ⟨f.blk,0,none⟩))∧W.cell? ⟨P,r.length*2+1,none⟩=some (.int .i64 f.at_)∧r.length+1≤cap:=by
  have hs:=h.stk
  rw [List.length_cons] at hs
  obtain ⟨P,cap,rfl,_,_⟩:=hs.form (by omega)
  have hcell: ∀j u,(stCells (f::r))[j]? =some u→W.cell? ⟨P,j,none⟩=some u:=fun j u hu=>by
    have:=hs.cells (g:=P) rfl j u hu
    have hadd:(⟨P,0,none⟩:Addr).add j=⟨P,j,none⟩:=by unfold Addr.add;split<;>simp_all
    rw [hadd] at this
    exact this
  refine ⟨P,cap,rfl,hcell _ _ ?_,hcell _ _ ?_,own_le hs⟩
  · simp [stCells,List.getElem?_append,stCells_len]
  · simp [stCells,List.getElem?_append,stCells_len]
set_option maxHeartbeats 1600000 in
theorem kids_c (h:Rd w g A0 c0 l A1 c1 ws o at_ tv top sv fs W) (hn:fs.length≤100):Calls Tryz.prog 106 #[.pointer (some ⟨g,0,none⟩)] W fun e W'=>e=.returned (.pointer (some (curA g fs)))∧Drawn0 W W':=by
  have hb:=Lib.hid h.blk
  cases fs with
  |nil=>
    obtain ⟨A,c,rfl⟩:=own_slice h.stk
    have c4:W.cell? ⟨g,4,none⟩=some (.slice A 0 c):=blk_cell hb.out 4
    clear h
    go_enter Tryz.func106,Tryz.ntmps106
    go_wp2
    go_ret
    exact ⟨rfl,Drawn0.refl _⟩
  |cons f r=>
    obtain ⟨P,cap,rfl,p0,_,_⟩:=h.stack
    have hn1:r.length+1≤100:=hn
    obtain ⟨k,hk⟩: ∃k,r.length=k:=⟨_,rfl⟩
    rw [hk] at p0 hb hn1
    obtain ⟨m,hm⟩: ∃m,k+1=m:=⟨_,rfl⟩
    rw [hm] at hb
    have c4:W.cell? ⟨g,4,none⟩=some (.slice (some ⟨P,0,none⟩) m cap):=blk_cell hb.out 4
    have x1:((m:Int)==0)=false:=by rw [beq_eq_false_iff_ne];omega
    have x2:IntKind.i64.wrap ((m:Int)-1)=(k:Int):=by rw [IntWalk.i64_in _ (by omega)];omega
    have x3:(0:Int)≤(k:Int):=by omega
    have x4:(k:Int)<(m:Int):=by omega
    clear h hk hm hn
    go_enter Tryz.func106,Tryz.ntmps106
    go_wp2
    go_quiet (fail)
    go_wp2
    go_ret
    exact ⟨rfl,⟨_,rfl⟩⟩
def refV (at_:Nat) (e:Int):Value:=.iface 73 (.agg #[.int .i64 at_,.int .i64 e])
def endR (at_:Nat) (e:Int):Ending:=.panicked [{v:=refV at_ e,recovered:=false}]
set_option maxHeartbeats 1600000 in
theorem refuse_c (h:Rd w g A0 c0 l A1 c1 ws o at_ tv top sv fs W) (er:Int):Calls Tryz.prog 79 #[.pointer (some ⟨g,0,none⟩),.int .i64 er] W fun e W'=>e=endR at_ er∧Drawn0 W W':=by
  have hb:=Lib.hid h.blk
  have c1:W.cell? ⟨g,1,none⟩=some (.int .i64 at_):=blk_cell hb.out 1
  clear h
  go_enter Tryz.func79,Tryz.ntmps79
  go_wp2
  exact ⟨rfl,rfl,Drawn0.refl _⟩
def tkAt (l:List Tk) (i:Nat):Tk:=rd_T39 l i
/-- Is the token at i the name s? -/
def isNm (l:List Tk) (i:Nat) (s:ByteArray):Bool:=decide (i<l.length)&&((tkAt l i).f0==1)&&((tkAt l i).f2.toList==s.toList)
set_option maxHeartbeats 3200000 in
set_option maxRecDepth 100000 in
theorem isName_c (h:Rd w g A0 c0 l A1 c1 ws o at_ tv top sv fs W) (hC:Kd.C k39 w A0 l.length l) (hl:l.length≤6000) (i:Nat) (s:ByteArray):Calls Tryz.prog 76 #[.pointer (some ⟨g,0,none⟩),.int .i64 i,.string s] W fun e W'=>e=.returned (.bool (isNm l i s))∧Drawn0 W W':=by
  have hb:=Lib.hid h.blk
  have k0:W.cell? ⟨g,0,none⟩=some (.slice A0 l.length c0):=blk_cell hb.out 0
  by_cases hi:i<l.length
  · obtain ⟨ad,had,t0,t1,t2,t3,t4⟩:=at_T39 (Kd.C_below hC h.bel) (i:Int) (by omega) (by omega)
    subst had
    have x1:decide (i<l.length)=true:=decide_eq_true hi
    have x2:(0:Int)≤(i:Int):=by omega
    have x3:(i:Int)<(l.length:Int):=by omega
    obtain ⟨T,hT⟩: ∃T,rd_T39 l (i:Int)=T:=⟨_,rfl⟩
    have HR:Hid (isNm l i s=((T.f0==1)&&(T.f2.toList==s.toList))):=Lib.hid (by unfold isNm tkAt;rw [hT,decide_eq_true hi,Bool.true_and])
    rw [hT] at t0 t1 t2 t3 t4
    simp only [Int.toNat_natCast] at t0 t2
    clear hT t1 t3 t4 h hb
    by_cases hk:T.f0=1
    · have x4:(T.f0==1)=true:=beq_iff_eq.2 hk
      rw [HR.out,x4,Bool.true_and]
      clear hk HR
      go_enter Tryz.func76,Tryz.ntmps76
      go_wp2
      go_ret
      exact ⟨rfl,Drawn0.refl _⟩
    · have x4:(T.f0==1)=false:=beq_eq_false_iff_ne.2 hk
      rw [HR.out,x4,Bool.false_and]
      clear hk HR
      go_enter Tryz.func76,Tryz.ntmps76
      go_wp2
      go_ret
      exact ⟨rfl,Drawn0.refl _⟩
  · have x1:decide (i<l.length)=false:=decide_eq_false hi
    have HR:isNm l i s=false:=by unfold isNm;rw [decide_eq_false hi];rfl
    rw [HR]
    clear HR h hb hi
    go_enter Tryz.func76,Tryz.ntmps76
    go_wp2
    go_ret
    exact ⟨rfl,Drawn0.refl _⟩
/-- Is the token at hand the name of the macro that the one ahead of it has opened? -/
def nmd (at_:Nat):List PF→Bool
  |[]=>false
  |p::_=>(p.tok.f2.toList==(⟨#[109,97,99,114,111]⟩:ByteArray).toList)&&((p.at_:Int)==(at_:Int)-1)
end
end Go.Proofs.YtipnlgmeonepfaaGreatDoor.PFa

set_option linter.unusedVariables false
set_option linter.unusedSimpArgs false
namespace Go.Proofs.YtipnlgmeonepfaaGreatDoor.PFa
open Go.RowKit Go.Proofs.YtipnlgmeonepfaaGreatDoorW.PrintWords Go.Proofs.YtipnlgmeonepfaaGreatDoorW.PrintLast Go.Proofs.YtipnlgmeonepfaaGreatDoorW.PrintMore
/-- The act as a value: begin (true) or close (false) of the reader in block g. -/
def actV (g:Nat) (x:Bool):Value:=.func (.func (if x then 104 else 105)) #[.pointer (some ⟨g,0,none⟩)] #[]
/-- How an act reads: as a Boolean; anything else as nothing. -/
noncomputable def actElem (g:Nat) (v:Value):Option (DataW Unit×List MemPlace):=
  open Classical in if v=actV g true then some (.lit (.bool true),[]) else if v=actV g false then some (.lit (.bool false),[]) else some (.agg [],[])
theorem actV_ne (g:Nat):actV g false≠actV g true:=by
  intro e
  unfold actV at e
  injection e with e
  exact absurd e (by decide)
theorem actElem_act (g:Nat) (x:Bool):actElem g (actV g x)=some (.lit (.bool x),[]):=by
  unfold actElem
  cases x with
  |true=>rw [if_pos rfl]
  |false=>rw [if_neg (actV_ne g),if_pos rfl]
theorem actElem_inv {g:Nat} {v:Value} {x:Bool} {ps:List MemPlace} (h:actElem g v=some (.lit (.bool x),ps)):v=actV g x:=by
  unfold actElem at h
  split at h
  · rename_i e
    injection h with h
    injection h with h _
    injection h with h
    injection h with h
    rw [e,h]
  · split at h
    · rename_i e
      injection h with h
      injection h with h _
      injection h with h
      injection h with h
      rw [e,h]
    · injection h with h
      injection h with h _
      exact absurd h (by intro e;cases e)
theorem actElem_nil (g:Nat):actElem g .nilFunc=some (.agg [],[]):=by
  unfold actElem
  rw [if_neg (by intro e;unfold actV at e;cases e),if_neg (by intro e;unfold actV at e;cases e)]
/-- The act of a text: the newest entry counts. -/
def actIn:List (ByteArray×Bool)→ByteArray→Option Bool
  |[],_=>none
  |(k,x)::r,s=>if s.data.toList=k.data.toList then some x else actIn r s
/-- The map in block b reads as this table. -/
def Acts (g b n:Nat) (tab:List (ByteArray×Bool)) (W:World):Prop:=
  ∃D,W.ownsMap Tryz.prog 9 (actElem g) b n D∧Maps.IsMap D∧ ∀s:ByteArray,match actIn tab s with
    |some x=>Maps.has D (.string s.data.toList)=true∧ ∀z,D.atKey (.string s.data.toList) z=.lit (.bool x)
    |none=>Maps.has D (.string s.data.toList)=false
section
variable {g b n:Nat} {tab:List (ByteArray×Bool)} {W W':World}
theorem Acts.made (g:Nat) (W:World):Acts g W.heap.size 0 [] (W.alloc (.map #[] 0)):=
  ⟨_,World.ownsMap_made W _ _ _,Maps.isMap_empty,fun s=>rfl⟩
theorem Acts.below (h:Acts g b n tab W) (hb:Below W.heap.size W W'):Acts g b n tab W':=by
  obtain ⟨D,h1,h2⟩:=h
  refine ⟨D, ?_,h2⟩
  have hlt:=h1.lt
  obtain ⟨es,clock,hh,r⟩:=h1
  exact ⟨es,clock,(hb.block b hlt).trans hh,r⟩
theorem Acts.put (h : Acts g b n tab W) (hn : n < maxLen) {s : ByteArray} (hs : s.size ≤ maxLen) (x : Bool) :
    ∃w',(Instr.mapUpdate 101 (.map (some b)) (.string s) (actV g x)).run Tryz.prog W=.ok () w'∧Acts g b (n+1) ((s,x)::tab) w'∧W.grownBy w' (some b):=by
  obtain ⟨D,h1,h2,h3⟩:=h
  obtain ⟨w',hr,hq,hg⟩:=h1.update (Maps.string_keyed Tryz.underlying9) Tryz.underlying101 hn (WideMaps.keyOf_string_mk Tryz.underlying9 hs) (actElem_act g x)
  refine ⟨w',hr,⟨_,hq, ?_,fun u=> ?_⟩,hg⟩
  · obtain ⟨es,rfl⟩:=h2
    exact ⟨_,rfl⟩
  · have hk:WideAt.IsKeyLit (.string s.data.toList):=(Maps.string_keyed Tryz.underlying9).key (WideMaps.keyOf_string_mk Tryz.underlying9 hs)
    unfold actIn
    by_cases e:u.data.toList=s.data.toList
    · rw [if_pos e,e]
      exact ⟨Maps.has_put_same h2 hk _,fun z=>Maps.atKey_put_same h2 hk _ z⟩
    · rw [if_neg e]
      have hne:(Lit.string u.data.toList)≠ .string s.data.toList:=fun h=>e (by injection h)
      have:=h3 u
      revert this
      cases actIn tab u with
      |none=>exact fun h=>(Maps.has_put_other hne _).trans h
      |some x=>exact fun h=>⟨(Maps.has_put_other hne _).trans h.1,fun z=>(Maps.atKey_put_other hne _ z).trans (h.2 z)⟩
theorem Acts.look (h : Acts g b n tab W) {s : ByteArray} (hs : s.size ≤ maxLen) :
    ∃v,(Instr.lookup 101 (.map (some b)) (.string s) true).run Tryz.prog W=.ok (.tuple #[v,.bool (actIn tab s).isSome]) W∧ ∀x,actIn tab s=some x→v=actV g x:=by
  obtain ⟨D,h1,h2,h3⟩:=h
  obtain ⟨v,ps,hr,hv⟩:=h1.look_ok (Maps.string_keyed Tryz.underlying9) Tryz.underlying101 (z:=.nilFunc) (by kernel_rfl) (actElem_nil g) (WideMaps.keyOf_string_mk Tryz.underlying9 hs)
  have:=h3 s
  revert this
  cases actIn tab s with
  |none=>
    intro h
    exact ⟨v,by rw [hr,h];rfl,fun x hx=>absurd hx (by simp)⟩
  |some x=>
    rintro ⟨ha,hb⟩
    refine ⟨v,by rw [hr,ha];rfl,fun y hy=> ?_⟩
    have hxy:x=y:=Option.some.inj hy
    rw [hb,hxy] at hv
    exact actElem_inv hv
end
end Go.Proofs.YtipnlgmeonepfaaGreatDoor.PFa

set_option linter.unusedVariables false
set_option linter.unusedSimpArgs false
namespace Go.Proofs.YtipnlgmeonepfaaGreatDoor.Pure
open Go.RowKit Go.Proofs.YtipnlgmeonepfaaGreatDoor.PFa Go.Proofs.YtipnlgmeonepfaaGreatDoorW.PrintWords Go.Proofs.YtipnlgmeonepfaaGreatDoorW.PrintLast Go.Proofs.YtipnlgmeonepfaaGreatDoorW.PrintMore
theorem small (n:Int) (h0: -1000000≤n) (h1:n≤1000000):wrap64 n=n:=by unfold wrap64;omega
def txt (a0:ByteArray) (p:Lx.Piece):ByteArray:=a0.extract p.at_ (p.at_+p.len)
def tok (a0:ByteArray) (p:Lx.Piece):S39:=⟨(p.kind:Int),if p.kind=2 then Lx.valN (txt a0 p).data.toList else 0,txt a0 p,(p.at_:Int),0⟩
def isTok (p:Lx.Piece):Bool:=decide (p.kind≤6)
def toks (a0:ByteArray) (l:List Lx.Piece):List S39:=(l.filter isTok).map (tok a0)
theorem extract_list (a:ByteArray) (i j:Nat):(a.extract i j).data.toList=(a.data.toList.drop i).take (j-i):=Lib.extract_data a i j
theorem txt_list (a:ByteArray) (p:Lx.Piece):(txt a p).data.toList=(a.data.toList.drop p.at_).take p.len:=by
  unfold txt
  rw [extract_list,show p.at_+p.len-p.at_=p.len from by omega]
theorem txt_size (a:ByteArray) (p:Lx.Piece) (h:p.at_+p.len≤a.size):(txt a p).size=p.len:=by
  unfold txt
  rw [ByteArray.size_extract]
  omega
theorem size_list (a0:ByteArray):a0.data.toList.length=a0.size:=by simp
theorem out_ok {a0:ByteArray} {l:List Lx.Piece} (h:Lx.pieces a0.data.toList=.ok l):Lx.outL a0=l∧Lx.outE a0=0∧Lx.outAt a0=0:=by
  unfold Lx.outL Lx.outE Lx.outAt
  rw [h]
  exact ⟨rfl,rfl,rfl⟩
theorem out_err {a0:ByteArray} {e:Nat×Int} (h:Lx.pieces a0.data.toList=.error e):Lx.outL a0=[]∧Lx.outE a0=e.2∧Lx.outAt a0=e.1∧e.2≠0:=by
  unfold Lx.outL Lx.outE Lx.outAt
  rw [h]
  exact ⟨rfl,rfl,rfl,Lx.pieces_error h⟩
/-! ### One token alone -/
/-- The one token that a string is. -/
def one (u:ByteArray):Option Lx.Piece:=match Lx.pieces u.data.toList with
  | .ok l=>match l.filter isTok with
    |[p]=>if p.len=u.size then some p else none
    |_=>none
  | .error _=>none
theorem bytes_ext {a b:ByteArray} (h:a.data.toList=b.data.toList):a=b:=by
  cases a;cases b
  congr
  exact Array.ext' h
theorem toList_ne (a b:ByteArray):(a.toList !=b.toList)=decide (a≠b):=by
  rw [Lib.toList_data,Lib.toList_data]
  by_cases h:a=b
  · subst h;simp
  · have:a.data.toList≠b.data.toList:=fun e=>h (bytes_ext e)
    simp [h,this]
theorem one_next {u:ByteArray} {p:Lx.Piece} (h:one u=some p):Lx.next false u.data.toList=.ok (p.kind,u.size)∧p.kind≤6∧p.at_=0∧p.len=u.size∧ ∃l,Lx.pieces u.data.toList=.ok l∧p∈l:=by
  unfold one at h
  split at h
  · rename_i l hp
    split at h
    · rename_i q hq
      split at h
      · rename_i hl
        injection h with h
        subst h
        have hm:=List.mem_filter.1 (show q∈l.filter isTok from by rw [hq];exact List.mem_cons_self)
        obtain ⟨op,h1,h2,h3⟩:=Lx.pieces_next hp q hm.1
        rw [size_list] at h1
        have h0:q.at_=0:=by omega
        obtain rfl:=h3 h0
        rw [h0,List.drop_zero,hl] at h2
        exact ⟨h2,of_decide_eq_true hm.2,h0,hl,l,hp,hm.1⟩
      · cases h
    · cases h
  · cases h

def kindOf (u:ByteArray):Int:=match one u with|some p=>(p.kind:Int)|none=>0
theorem one_size {u:ByteArray} {p:Lx.Piece} (h:one u=some p):u.size≠0∧u.size≤20000:=by
  obtain ⟨hn,hk,ha,hl,l,hp,hm⟩:=one_next h
  obtain ⟨hc,hs⟩:=Lx.pieces_chain hp
  rw [size_list] at hs
  have:=(Lx.chain_ge _ _ _ hc p hm).2.2
  exact ⟨by omega,hs⟩
theorem one_zero {u:ByteArray} {p:Lx.Piece} (h:one u=some p):tok u p=⟨(p.kind:Int),if p.kind=2 then Lx.valN u.data.toList else 0,u,0,0⟩:=by
  obtain ⟨hn,hk,ha,hl,_⟩:=one_next h
  have he:txt u p=u:=by
    apply bytes_ext
    rw [txt_list,ha,List.drop_zero,List.take_of_length_le (by rw [size_list];omega)]
  unfold tok
  rw [he,ha]
  rfl
/-- A token that is alone in its text: no comment, no blank; taken by the longest rule, and checked. -/
theorem one_longest {u:ByteArray} {p:Lx.Piece} (h:one u=some p):Lx.longest false (u.data.toList.take 100)=(p.kind,u.size)∧Lx.check u.data.toList p.kind u.size=0:=by
  obtain ⟨hn,hk,ha,hl,_⟩:=one_next h
  unfold Lx.next at hn
  split at hn
  · cases hc:Lx.comment u.data.toList with
    |error e=>rw [hc] at hn;cases hn
    |ok n=>
      rw [hc] at hn
      have:(8,n)=(p.kind,u.size):=by injection hn
      injection this with h8 _
      omega
  · split at hn
    · have:(7,Lx.allN Lx.cBlank u.data.toList)=(p.kind,u.size):=by injection hn
      injection this with h7 _
      omega
    · unfold Lx.checked at hn
      split at hn
      · rename_i hc
        have e:Lx.longest false (u.data.toList.take 100)=(p.kind,u.size):=by injection hn
        rw [e] at hc
        exact ⟨e,hc⟩
      · cases hn
theorem one_num {u:ByteArray} {p:Lx.Piece} (h:one u=some p) (h2:p.kind=2):Lx.valB u.data.toList=true:=by
  have hc:=(one_longest h).2
  rw [h2] at hc
  change (if Lx.valB (u.data.toList.take u.size)=false∨_ then (11:Int) else 0)=0 at hc
  rw [List.take_of_length_le (by rw [size_list];omega)] at hc
  cases hv:Lx.valB u.data.toList with
  |true=>rfl
  |false=>
    rw [if_pos (.inl hv)] at hc
    exact absurd hc (by decide)
theorem one_kind {u:ByteArray} {p:Lx.Piece} (h:one u=some p):p.kind∈[1,2,3,4,5,6]∧Lx.takes false (u.data.toList.take 100) p.kind=u.size:=by
  obtain ⟨h1,h2⟩:=one_longest h
  have h0:p.kind≠0:=fun e=>by
    rw [e] at h2
    change (if Lx.pre [35] u.data.toList=true then (12:Int) else 10)=0 at h2
    split at h2<;>exact absurd h2 (by decide)
  obtain ⟨a,_,b⟩:=Lx.longest_is h1 h0
  exact ⟨a,b⟩
theorem num_len {s:List UInt8} (h:Lx.valB s=true):s.length≤20:=by
  have key: ∀d,Lx.canon d→Lx.spell 0 d≤9223372036854775808→d.length≤19:=fun d hd hs=>by
    rcases hd.2.2 with h48|h1
    · have:=(Lx.dec_spell _ d rfl hd.1 hd.2.1 (.inl h48)).2 h48
      rcases Nat.lt_or_ge 19 d.length with h6|h6
      · have h7:10^19≤10^(d.length-1):=Nat.pow_le_pow_right (by decide) (by omega)
        have h8:(10:Nat)^19=10000000000000000000:=by decide
        omega
      · exact h6
    · omega
  rcases Lx.valB_inv h with ⟨a,b⟩|⟨d,rfl,a,_,b⟩
  · have:=key s a (by omega)
    omega
  · have:=key d a b
    rw [List.length_cons]
    omega
theorem one_len {u:ByteArray} {p:Lx.Piece} (h:one u=some p):u.size≤40:=by
  obtain ⟨h1,h2⟩:=one_kind h
  obtain ⟨_,hc⟩:=one_longest h
  simp only [List.mem_cons,List.not_mem_nil,or_false] at h1
  rcases h1 with e|e|e|e|e|e
  · rw [e] at hc
    change (if 40<u.size then (2:Int) else 0)=0 at hc
    split at hc
    · exact absurd hc (by decide)
    · omega
  · have:=num_len (one_num h e)
    rw [size_list] at this
    omega
  · rw [e] at hc
    change (if 40<u.size then (2:Int) else 0)=0 at hc
    split at hc
    · exact absurd hc (by decide)
    · omega
  · rw [e] at h2
    change Lx.hash _=u.size at h2
    unfold Lx.hash at h2
    split at h2<;>omega
  · rw [e] at h2
    change Lx.sign _=u.size at h2
    unfold Lx.sign at h2
    split at h2
    · omega
    · split at h2
      · omega
      · split at h2<;>omega
  · rw [e] at hc
    change (if 40<u.size then (2:Int) else 0)=0 at hc
    split at hc
    · exact absurd hc (by decide)
    · omega
def good (t:S39):Bool:=decide ((t.f0≠0∧kindOf t.f2=t.f0)∧t.f1=(if t.f0=2 then Lx.valN t.f2.data.toList else 0)∧0≤t.f3∧0≤t.f4)
def chk (t:S39):Int:=if good t=true then 0 else 14
theorem chk_zero (t:S39):chk t=0↔good t=true:=by
  unfold chk
  split
  · simp [*]
  · simp [*]
theorem good_one {t:S39} (h:good t=true): ∃p,one t.f2=some p∧(p.kind:Int)=t.f0:=by
  obtain ⟨⟨h0,h1⟩,_⟩:=of_decide_eq_true h
  unfold kindOf at h1
  cases ho:one t.f2 with
  |none=>rw [ho] at h1;exact absurd h1.symm h0
  |some p=>rw [ho] at h1;exact ⟨p,rfl,h1⟩
theorem good_len {t:S39} (h:good t=true):t.f2.size≤40:=by
  obtain ⟨p,hp,_⟩:=good_one h
  exact one_len hp
end Go.Proofs.YtipnlgmeonepfaaGreatDoor.Pure

set_option linter.unusedVariables false
set_option linter.unusedSimpArgs false
namespace Go.Proofs.YtipnlgmeonepfaaGreatDoor.PFa
open Go.RowKit Go.Proofs.YtipnlgmeonepfaaGreatDoorW.PrintWords Go.Proofs.YtipnlgmeonepfaaGreatDoorW.PrintLast Go.Proofs.YtipnlgmeonepfaaGreatDoorW.PrintMore
def ownWords:List ByteArray:=[⟨#[98,101,103,105,110]⟩,⟨#[105,102]⟩,⟨#[98,108,111,99,107]⟩,⟨#[109,101,116,104,111,100]⟩,⟨#[99,108,97,115,115]⟩,⟨#[109,97,99,114,111]⟩]
def takenWords:List ByteArray:=ownWords++[⟨#[101,110,100]⟩,⟨#[115,108,111,116]⟩]
def memB (x:ByteArray) (l:List ByteArray):Bool:=l.any fun y=>decide (y=x)
theorem toList_eq (a b:ByteArray):a.toList=b.toList↔a=b:=by
  have h:=Pure.toList_ne a b
  constructor
  · intro e
    rw [e,bne_self_eq_false] at h
    exact Decidable.byContradiction fun hn=>absurd h (by simp [hn])
  · rintro rfl
    rfl
theorem toList_beq (a b:ByteArray):(a.toList==b.toList)=decide (a=b):=by
  rw [Bool.eq_iff_iff,beq_iff_eq,toList_eq,decide_eq_true_iff]
theorem strs_lit {w:World} {b:Nat} {l:List ByteArray} {t:TypeId} (h:w.heap[b]? =some (.cells (l.map Value.string).toArray t (0,0))) (hl:l.length≤1000000):Kd.C Kd.string w (some ⟨b,0,none⟩) l.length l:=by
  refine ⟨rfl,by omega,fun _=>⟨_,rfl,fun j p hj=>⟨[.string p],rfl,rfl,fun i u hu=> ?_⟩⟩⟩
  rcases i with _|i
  · injection hu with hu
    subst hu
    have hadd:(⟨b,0,none⟩:Addr).add (j*1+0)=⟨b,j,none⟩:=by
      unfold Addr.add
      split<;>simp_all
    show w.cell? ((⟨b,0,none⟩:Addr).add (j*1+0))=_
    rw [hadd,blk_cell h j]
    simp [hj]
  · simp at hu
theorem strs_take {w:World} {A:Option Addr} {l:List ByteArray} (h:Kd.C Kd.string w A l.length l) (i:Nat) (hi:i≤l.length):Kd.C Kd.string w A (l.take i).length (l.take i):=by
  have hlen:(l.take i).length=i:=by rw [List.length_take];omega
  refine ⟨rfl,by have:=h.2.1;omega,fun h0=> ?_⟩
  obtain ⟨ad,e,hc⟩:=h.2.2 (by omega)
  refine ⟨ad,e,fun j p hj=>hc j p ?_⟩
  rw [List.getElem?_take] at hj
  split at hj
  · exact hj
  · cases hj
end Go.Proofs.YtipnlgmeonepfaaGreatDoor.PFa

set_option linter.unusedVariables false
set_option linter.unusedSimpArgs false
namespace Go.Proofs.YtipnlgmeonepfaaGreatDoor.PFa
open Go.RowKit Go.Proofs.YtipnlgmeonepfaaGreatDoorW.PrintWords Go.Proofs.YtipnlgmeonepfaaGreatDoorW.PrintLast Go.Proofs.YtipnlgmeonepfaaGreatDoorW.PrintMore
def tokV (t:S39):Value:=.agg #[.int .i64 t.f0,.int .i64 t.f1,.string t.f2,.int .i64 t.f3,.int .i64 t.f4]
theorem strs_R {e:Nat} {X:World} {base:Nat} {ok:Nat→Prop} {v:Value} {xs:List ByteArray} (ho:X.ownsRow base e 1 v xs.length (xs.map Value.string)) (hok: ∀k,v.ownBlock=some k→ok k):Kd.string.R e X base ok v xs:=by
  refine ⟨hok,xs.map Value.string,ho,by rw [List.length_map,show Kd.string.sz=1 from rfl,Nat.mul_one],fun j p hj=> ?_⟩
  obtain ⟨hl,hp⟩:=List.getElem?_eq_some_iff.1 hj
  have hl':j<(xs.map Value.string).length:=by rw [List.length_map];exact hl
  show ((xs.map Value.string).drop (j*1)).take 1=[.string p]
  rw [Nat.mul_one,List.drop_eq_getElem_cons hl']
  simp [hp]
def fragment_Words.f:Option (List ByteArray):=some ownWords
theorem fragment_Words.calls (r:List ByteArray) (w:World) (h:fragment_Words.f=some r):Calls Tryz.prog 18 #[] w fun e w'=> ∃v0_:Value,e=.returned (v0_)∧Kd.R Kd.string 9 w' w.heap.size (fun _=>True) v0_ r∧Below w.heap.size w w':=by
  obtain rfl:=Option.some.inj h
  have HO:=Lib.hid (World.ownsRow_lit (base:=w.heap.size) (e:=9) (size:=1) w (ownWords.map Value.string).toArray 6 (Nat.le_refl _) (by decide) (by decide))
  have HB:=Lib.hid (below_alloc (Below.refl w.heap.size w) (.cells (ownWords.map Value.string).toArray 9 (0,0)))
  go_enter Tryz.func18,Tryz.ntmps18
  go_wp2
  go_ret
  exact ⟨_,rfl,strs_R HO.out (fun _ _=>trivial),HB.out⟩
theorem memB_snoc (s:ByteArray) (l:List ByteArray) (i:Nat) (hi:i<l.length):memB s (l.take (i+1))=(memB s (l.take i)||decide (rdOf ByteArray.empty l (i:Int)=s)):=by
  have e:rdOf ByteArray.empty l (i:Int)=l[i]:=by simp [rdOf,List.getD_eq_getElem?_getD,List.getElem?_eq_getElem hi]
  rw [e,List.take_succ_eq_append_getElem hi]
  unfold memB
  rw [List.any_append]
  simp
theorem index_c {A : Option Addr} {c : Nat} {ls : List ByteArray} {s : ByteArray} {W : World} (hC : Kd.C Kd.string W A ls.length ls) (hl : ls.length ≤ 1000000) :
    Calls Tryz.prog 103 #[.slice A ls.length c,.string s] W fun e X'=> ∃r:Int,e=.returned (.int .i64 r)∧decide (r≥0)=memB s ls∧Drawn0 W X':=by
  have HC:=Lib.hid hC
  clear hC
  go_enter Tryz.func103,Tryz.ntmps103
  go_wp2_with fail
  go_loopg [8] (ls.length+1) (fun kq v8 wr=> ∃i:Nat,v8=.int .i64 i∧i≤ls.length∧ls.length+1-i≤kq∧Hid (memB s (ls.take i)=false)∧Hid (Drawn0 W wr))
  case atStart=>exact ⟨0,rfl,Nat.zero_le _,Nat.le_refl _,Lib.hid rfl,Lib.hid (Drawn0.refl _)⟩
  case round=>
    obtain ⟨i,rfl,hil,hkq,HM,HD⟩:=hrel
    have HKQ:=Lib.hid hkq
    clear hkq
    by_cases hlt:i<ls.length
    · have x1:decide ((i:Int)<(ls.length:Int))=true:=decide_eq_true (by omega)
      have x2:decide (i<ls.length)=true:=decide_eq_true hlt
      have x3:(0:Int)≤(i:Int):=by omega
      have x4:(i:Int)<(ls.length:Int):=by omega
      have y1:IntKind.i64.wrap ((i:Int)+1)=((i+1:Nat):Int):=by rw [IntWalk.i64_in _ (by omega)];omega
      have y2:wrap64 ((i:Int)+1)=((i+1:Nat):Int):=by unfold wrap64;omega
      have hrw:Kd.C Kd.string wr A ls.length ls:=by obtain ⟨m,rfl⟩:=HD.out;exact Kd.C_drewN HC.out m
      obtain ⟨ad,ead,hx⟩:=Kd.at_string hrw (i:Int) (by omega) (by omega)
      cases ead
      obtain ⟨u,hu⟩: ∃u,rdOf ByteArray.empty ls (i:Int)=u:=⟨_,rfl⟩
      rw [hu] at hx
      simp only [Int.toNat_natCast] at hx
      have HSN:=Lib.hid (memB_snoc s ls i hlt)
      rw [hu] at HSN
      obtain ⟨q,hq⟩: ∃q,(s.toList==u.toList)=q:=⟨_,rfl⟩
      have HQ:Hid (decide (u=s)=q):=Lib.hid (by rw [←hq,toList_beq];exact decide_eq_decide.2 ⟨fun e=>e.symm,fun e=>e.symm⟩)
      clear hrw hu
      cases q with
      |true=>
        have HT:Hid (memB s ls=true):=Lib.hid (by
          have h1:=HSN.out
          rw [HQ.out,Bool.or_true] at h1
          unfold memB at h1⊢
          rw [List.any_eq_true] at h1⊢
          obtain ⟨y,hy,e⟩:=h1
          exact ⟨y,List.mem_of_mem_take hy,e⟩)
        go_wp2
        go_ret
        exact ⟨i,rfl,by rw [HT.out];exact decide_eq_true (by omega),HD.out⟩
      |false=>
        go_wp2
        go_roundg (gk-1)
        case measure=>have:=HKQ.out;omega
        case rel=>exact ⟨i+1,by go_num,by omega,by have:=HKQ.out;omega,Lib.hid (by rw [HSN.out,HM.out,HQ.out];rfl),HD⟩
    · have x1:decide ((i:Int)<(ls.length:Int))=false:=decide_eq_false (by omega)
      have x2:decide (i<ls.length)=false:=decide_eq_false hlt
      have HF:Hid (memB s ls=false):=Lib.hid (by have:=HM.out;rwa [List.take_of_length_le (by omega)] at this)
      go_wp2
      go_ret
      exact ⟨-1,rfl,by rw [HF.out];rfl,HD.out⟩
theorem contains_c {A:Option Addr} {c:Nat} {l:List ByteArray} {w:World} (s:ByteArray) (hC:Kd.C Kd.string w A l.length l) (hc:l.length≤c) (hl:l.length≤1000000):Calls Tryz.prog 73 #[.slice A l.length c,.string s] w fun e w'=>e=.returned (.bool (memB s l))∧Drawn0 w w':=by
  have HI:=Lib.hid (index_c (c:=c) (s:=s) hC hl)
  go_enter Tryz.func73,Tryz.ntmps73
  go_wp2_with fail
  refine HI.out.mono ?_
  rintro e w' ⟨r,rfl,hr,hd⟩
  have HR:=Lib.hid hr
  have HD:=Lib.hid hd
  clear hr hd
  obtain ⟨q,hq⟩: ∃q,decide (r≥0)=q:=⟨_,rfl⟩
  rw [hq] at HR
  have q1:decide ((0:Int)≤r)=q:=hq
  clear hq
  go_wp2
  go_ret
  exact ⟨by rw [←HR.out];rfl,HD.out⟩
/-- The token that a string is; zeros if it is none. -/
def oneT (u:ByteArray):S39:=match Pure.one u with
  |some p=>Pure.tok u p
  |none=>⟨0,0,⟨#[]⟩,0,0⟩
theorem five_put {W : World} {g : Nat} {t : TypeId} {a b c d e a' b' c' d' e' : Value} (hb : W.heap[g]? = some (.cells #[a, b, c, d, e] t (0, 0))) :
    (((((W.setCell ⟨g,0,none⟩ a').setCell ⟨g,1,none⟩ b').setCell ⟨g,2,none⟩ c').setCell ⟨g,3,none⟩ d').setCell ⟨g,4,none⟩ e').heap[g]? =some (.cells #[a',b',c',d',e'] t (0,0)):=
  blk_put (blk_put (blk_put (blk_put (blk_put hb 0 _ rfl) 1 _ rfl) 2 _ rfl) 3 _ rfl) 4 _ rfl
theorem filter_tk (l:List Lx.Piece):l.filter Ref.isTk=l.filter Pure.isTok:=rfl
theorem one_eq (u : ByteArray) : Pure.one u = if Lx.outE u = 0 then (match (Lx.outL u).filter Pure.isTok with
    |[p]=>if p.len=u.size then some p else none
    |_=>none) else none:=by
  unfold Pure.one
  cases hp:Lx.pieces u.data.toList with
  |ok l=>
    obtain ⟨h1,h2,_⟩:=Pure.out_ok hp
    rw [h1,h2,if_pos rfl]
    all_goals rfl
  |error e=>
    obtain ⟨_,h2,_,h4⟩:=Pure.out_err hp
    rw [h2,if_neg h4]
theorem one_text {u:ByteArray} {p:Lx.Piece} (hE:Lx.outE u=0) (hp:(Lx.outL u).filter Pure.isTok=[p]):((Pure.tok u p).f2.toList==u.toList)=decide (p.len=u.size):=by
  have hpl: ∃l,Lx.pieces u.data.toList=.ok l:=by
    unfold Lx.outE at hE
    cases h:Lx.pieces u.data.toList with
    |ok l=>exact ⟨l,rfl⟩
    |error e=>rw [h] at hE;exact absurd hE (Lx.pieces_error h)
  obtain ⟨l,hl⟩:=hpl
  rw [(Pure.out_ok hl).1] at hp
  have hm:p∈l:=(List.mem_filter.1 (by rw [hp];exact List.mem_cons_self)).1
  obtain ⟨op,h1,h2,_⟩:=Lx.pieces_next hl p hm
  rw [Pure.size_list] at h1
  have hsz:=Pure.txt_size u p h1
  have hf2:(Pure.tok u p).f2=Pure.txt u p:=rfl
  rw [hf2,toList_beq]
  refine decide_eq_decide.2 ⟨fun e=>by rw [←hsz,e],fun hlen=> ?_⟩
  apply Pure.bytes_ext
  rw [Pure.txt_list,show p.at_=0 from by omega,List.drop_zero,List.take_of_length_le (by rw [Pure.size_list];omega)]
set_option maxHeartbeats 6400000 in
set_option maxRecDepth 100000 in
theorem single_c (u:ByteArray) {w:World} (hE:Lx.Env w):Calls Tryz.prog 114 #[.string u] w fun e w'=>e=.returned (.tuple #[tokV (oneT u),.bool (Pure.one u).isSome])∧Below w.heap.size w w':=by
  have HSC:=Lib.hid (fun (X:World) (hX:Below w.heap.size w X)=>Ref.lscan_walk u (hE.below hX))
  obtain ⟨t0,ht0⟩: ∃t,oneT u=t:=⟨_,rfl⟩
  obtain ⟨b0,hb0⟩: ∃b,(Pure.one u).isSome=b:=⟨_,rfl⟩
  rw [ht0,hb0]
  have HT0:=Lib.hid ht0
  have HB0:=Lib.hid hb0
  clear hE ht0 hb0
  obtain ⟨Z,hZ⟩: ∃Z,w.alloc (.cells #[.int .i64 0,.int .i64 0,.string ⟨#[]⟩,.int .i64 0,.int .i64 0] 39)=Z:=⟨_,rfl⟩
  have HBZ:Hid (Below w.heap.size w Z):=Lib.hid (hZ▸below_alloc (Below.refl _ _) _)
  have HKZ:Hid (Z.heap[w.heap.size]? =some (.cells #[.int .i64 0,.int .i64 0,.string ⟨#[]⟩,.int .i64 0,.int .i64 0] 39 (0,0))):=Lib.hid (hZ▸blk_new w _)
  have HZ:=Lib.hid hZ
  clear hZ
  have HOE:=Lib.hid (one_eq u)
  obtain ⟨oe,hoe⟩: ∃x,Lx.outE u=x:=⟨_,rfl⟩
  obtain ⟨oa,hoa⟩: ∃x,Lx.outAt u=x:=⟨_,rfl⟩
  obtain ⟨l,hl⟩: ∃x,(Lx.outL u).filter Pure.isTok=x:=⟨_,rfl⟩
  have HTX:Hid (∀p,oe=0→l=[p]→((Pure.tok u p).f2.toList==u.toList)=decide (p.len=u.size)):=Lib.hid (fun p h1 h2=>one_text (hoe.trans h1) (hl.trans h2))
  rw [hoe,hl] at HOE
  have HSC2:Hid (Calls Tryz.prog 134 #[.string u] Z fun e w'=> ∃v,e=.returned (.tuple #[v,.int .i64 oa,.int .i64 oe])∧w'.ownsRow Z.heap.size 39 5 v l.length (l.flatMap (Ref.tokOf u))∧Below Z.heap.size Z w'):=Lib.hid (by
    have:=HSC.out Z HBZ.out
    unfold Ref.Got3 Ref.tokCells at this
    rw [filter_tk,hl,hoe,hoa] at this
    exact this)
  clear hoe hoa hl HSC
  go_enter Tryz.func114,Tryz.ntmps114
  go_wp2_with fail
  rw [HZ.out]
  refine HSC2.out.mono ?_
  rintro e W2 ⟨v,rfl,ho,hb⟩
  obtain ⟨A,c,rfl⟩:=Ref.own_slice ho
  have HO:=Lib.hid ho
  have HB:=Lib.hid (HBZ.out.trans (hb.mono HBZ.out.size))
  have HK:=Lib.hid (blk_below HKZ.out hb)
  clear ho hb HSC2 HZ HKZ HBZ
  have z0:W2.cell? ⟨w.heap.size,0,none⟩=some (.int .i64 0):=blk_cell HK.out 0
  have z1:W2.cell? ⟨w.heap.size,1,none⟩=some (.int .i64 0):=blk_cell HK.out 1
  have z2:W2.cell? ⟨w.heap.size,2,none⟩=some (.string ⟨#[]⟩):=blk_cell HK.out 2
  have z3:W2.cell? ⟨w.heap.size,3,none⟩=some (.int .i64 0):=blk_cell HK.out 3
  have z4:W2.cell? ⟨w.heap.size,4,none⟩=some (.int .i64 0):=blk_cell HK.out 4
  have y0:=blk_frozen HK.out 0
  have y1:=blk_frozen HK.out 1
  have y2:=blk_frozen HK.out 2
  have y3:=blk_frozen HK.out 3
  have y4:=blk_frozen HK.out 4
  by_cases he:oe=0
  · have x1:(oe !=0)=false:=bne_eq_false_iff_eq.2 he
    by_cases h1:l.length=1
    · obtain ⟨p,rfl⟩:=List.length_eq_one_iff.1 h1
      obtain ⟨q,hq⟩: ∃q,decide (p.len=u.size)=q:=⟨_,rfl⟩
      have HQ:=Lib.hid hq
      have hx:=HTX.out p he rfl
      rw [hq] at hx
      obtain ⟨P,cap,hvA,_,_⟩:=HO.out.form (by simp)
      injection hvA with hvA1 _ _
      subst hvA1
      have hcell: ∀j v,(([p]:List Lx.Piece).flatMap (Ref.tokOf u))[j]? =some v→W2.cell? ⟨P,j,none⟩=some v:=fun j v hv=>by
        have:=HO.out.cells (g:=P) rfl j v hv
        have hadd:(⟨P,0,none⟩:Addr).add j=⟨P,j,none⟩:=by unfold Addr.add;split<;>simp_all
        rw [hadd] at this
        exact this
      obtain ⟨tk,htk⟩: ∃t,Pure.tok u p=t:=⟨_,rfl⟩
      have hcs:(([p]:List Lx.Piece).flatMap (Ref.tokOf u))=[.int .i64 tk.f0,.int .i64 tk.f1,.string tk.f2,.int .i64 tk.f3,.int .i64 tk.f4]:=by rw [←htk];rfl
      rw [hcs] at hcell
      have p0:W2.cell? ⟨P,0,none⟩=some (.int .i64 tk.f0):=hcell 0 _ rfl
      have p1:W2.cell? ⟨P,1,none⟩=some (.int .i64 tk.f1):=hcell 1 _ rfl
      have p2:W2.cell? ⟨P,2,none⟩=some (.string tk.f2):=hcell 2 _ rfl
      have p3:W2.cell? ⟨P,3,none⟩=some (.int .i64 tk.f3):=hcell 3 _ rfl
      have p4:W2.cell? ⟨P,4,none⟩=some (.int .i64 tk.f4):=hcell 4 _ rfl
      rw [htk] at hx
      have HON:Hid (Pure.one u=if p.len=u.size then some p else none):=Lib.hid (by rw [HOE.out,if_pos he])
      have HTK:=Lib.hid htk
      clear hcell hcs htk hq he h1
      cases q with
      |true=>
        have hx2:(tk.f2.toList !=u.toList)=false:=by rw [bne,hx];rfl
        have HT1:Hid (t0=tk):=Lib.hid (by
          rw [←HT0.out]
          unfold oneT
          rw [HON.out,if_pos (of_decide_eq_true HQ.out)]
          exact HTK.out)
        have HB1:Hid (b0=true):=Lib.hid (by rw [←HB0.out,HON.out,if_pos (of_decide_eq_true HQ.out)];rfl)
        go_wp2
        obtain ⟨WF,hWF⟩: ∃WF,((((W2.setCell ⟨w.heap.size,0,none⟩ (.int .i64 tk.f0)).setCell ⟨w.heap.size,1,none⟩ (.int .i64 tk.f1)).setCell ⟨w.heap.size,2,none⟩ (.string tk.f2)).setCell ⟨w.heap.size,3,none⟩ (.int .i64 tk.f3)).setCell ⟨w.heap.size,4,none⟩ (.int .i64 tk.f4)=WF:=⟨_,rfl⟩
        rw [hWF]
        have hf:=hWF▸five_put HK.out (a':=.int .i64 tk.f0) (b':=.int .i64 tk.f1) (c':=.string tk.f2) (d':=.int .i64 tk.f3) (e':=.int .i64 tk.f4)
        have hbf:Below w.heap.size w WF:=hWF▸((((HB.out.setCell (by simp) _).setCell (by simp) _).setCell (by simp) _).setCell (by simp) _).setCell (by simp) _
        have r0:WF.cell? ⟨w.heap.size,0,none⟩=_:=blk_cell hf 0
        have r1:WF.cell? ⟨w.heap.size,1,none⟩=_:=blk_cell hf 1
        have r2:WF.cell? ⟨w.heap.size,2,none⟩=_:=blk_cell hf 2
        have r3:WF.cell? ⟨w.heap.size,3,none⟩=_:=blk_cell hf 3
        have r4:WF.cell? ⟨w.heap.size,4,none⟩=_:=blk_cell hf 4
        refine bodyPost_ret (v:=.tuple #[.agg #[.int .i64 tk.f0,.int .i64 tk.f1,.string tk.f2,.int .i64 tk.f3,.int .i64 tk.f4],.bool true]) (by simp [results,Tryz.results114,go_sem,r0,r1,r2,r3,r4]) rfl ?_
        exact ⟨by rw [HT1.out,HB1.out];rfl,hbf⟩
      |false=>
        have hx2:(tk.f2.toList !=u.toList)=true:=by rw [bne,hx];rfl
        have HO1:Hid (Pure.one u=none):=Lib.hid (by rw [HON.out,if_neg (of_decide_eq_false HQ.out)])
        go_wp2
        obtain ⟨WF,hWF⟩: ∃WF,((((W2.setCell ⟨w.heap.size,0,none⟩ (.int .i64 0)).setCell ⟨w.heap.size,1,none⟩ (.int .i64 0)).setCell ⟨w.heap.size,2,none⟩ (.string ⟨#[]⟩)).setCell ⟨w.heap.size,3,none⟩ (.int .i64 0)).setCell ⟨w.heap.size,4,none⟩ (.int .i64 0)=WF:=⟨_,rfl⟩
        rw [hWF]
        have hf:=hWF▸five_put HK.out (a':=.int .i64 0) (b':=.int .i64 0) (c':=.string ⟨#[]⟩) (d':=.int .i64 0) (e':=.int .i64 0)
        have hbf:Below w.heap.size w WF:=hWF▸((((HB.out.setCell (by simp) _).setCell (by simp) _).setCell (by simp) _).setCell (by simp) _).setCell (by simp) _
        have r0:WF.cell? ⟨w.heap.size,0,none⟩=_:=blk_cell hf 0
        have r1:WF.cell? ⟨w.heap.size,1,none⟩=_:=blk_cell hf 1
        have r2:WF.cell? ⟨w.heap.size,2,none⟩=_:=blk_cell hf 2
        have r3:WF.cell? ⟨w.heap.size,3,none⟩=_:=blk_cell hf 3
        have r4:WF.cell? ⟨w.heap.size,4,none⟩=_:=blk_cell hf 4
        refine bodyPost_ret (v:=.tuple #[.agg #[.int .i64 0,.int .i64 0,.string ⟨#[]⟩,.int .i64 0,.int .i64 0],.bool false]) (by simp [results,Tryz.results114,go_sem,r0,r1,r2,r3,r4]) rfl ?_
        exact ⟨by rw [←HT0.out,←HB0.out];unfold oneT;rw [HO1.out];rfl,hbf⟩
    · have HO1 : Hid (Pure.one u = none) := Lib.hid (by
        rw [HOE.out,if_pos he]
        rcases l with _|⟨p,_|⟨q,r⟩⟩
        · rfl
        · exact absurd rfl h1
        · rfl)
      have x2:((l.length:Int) !=1)=true:=by rw [bne_iff_ne];omega
      go_wp2
      obtain ⟨WF,hWF⟩: ∃WF,((((W2.setCell ⟨w.heap.size,0,none⟩ (.int .i64 0)).setCell ⟨w.heap.size,1,none⟩ (.int .i64 0)).setCell ⟨w.heap.size,2,none⟩ (.string ⟨#[]⟩)).setCell ⟨w.heap.size,3,none⟩ (.int .i64 0)).setCell ⟨w.heap.size,4,none⟩ (.int .i64 0)=WF:=⟨_,rfl⟩
      rw [hWF]
      have hf:=hWF▸five_put HK.out (a':=.int .i64 0) (b':=.int .i64 0) (c':=.string ⟨#[]⟩) (d':=.int .i64 0) (e':=.int .i64 0)
      have hbf:Below w.heap.size w WF:=hWF▸((((HB.out.setCell (by simp) _).setCell (by simp) _).setCell (by simp) _).setCell (by simp) _).setCell (by simp) _
      have r0:WF.cell? ⟨w.heap.size,0,none⟩=_:=blk_cell hf 0
      have r1:WF.cell? ⟨w.heap.size,1,none⟩=_:=blk_cell hf 1
      have r2:WF.cell? ⟨w.heap.size,2,none⟩=_:=blk_cell hf 2
      have r3:WF.cell? ⟨w.heap.size,3,none⟩=_:=blk_cell hf 3
      have r4:WF.cell? ⟨w.heap.size,4,none⟩=_:=blk_cell hf 4
      refine bodyPost_ret (v:=.tuple #[.agg #[.int .i64 0,.int .i64 0,.string ⟨#[]⟩,.int .i64 0,.int .i64 0],.bool false]) (by simp [results,Tryz.results114,go_sem,r0,r1,r2,r3,r4]) rfl ?_
      exact ⟨by rw [←HT0.out,←HB0.out];unfold oneT;rw [HO1.out];rfl,hbf⟩
  · have x1:(oe !=0)=true:=bne_iff_ne.2 he
    have HO1:Hid (Pure.one u=none):=Lib.hid (by rw [HOE.out,if_neg he])
    go_wp2
    obtain ⟨WF,hWF⟩: ∃WF,((((W2.setCell ⟨w.heap.size,0,none⟩ (.int .i64 0)).setCell ⟨w.heap.size,1,none⟩ (.int .i64 0)).setCell ⟨w.heap.size,2,none⟩ (.string ⟨#[]⟩)).setCell ⟨w.heap.size,3,none⟩ (.int .i64 0)).setCell ⟨w.heap.size,4,none⟩ (.int .i64 0)=WF:=⟨_,rfl⟩
    rw [hWF]
    have hf:=hWF▸five_put HK.out (a':=.int .i64 0) (b':=.int .i64 0) (c':=.string ⟨#[]⟩) (d':=.int .i64 0) (e':=.int .i64 0)
    have hbf:Below w.heap.size w WF:=hWF▸((((HB.out.setCell (by simp) _).setCell (by simp) _).setCell (by simp) _).setCell (by simp) _).setCell (by simp) _
    have r0:WF.cell? ⟨w.heap.size,0,none⟩=_:=blk_cell hf 0
    have r1:WF.cell? ⟨w.heap.size,1,none⟩=_:=blk_cell hf 1
    have r2:WF.cell? ⟨w.heap.size,2,none⟩=_:=blk_cell hf 2
    have r3:WF.cell? ⟨w.heap.size,3,none⟩=_:=blk_cell hf 3
    have r4:WF.cell? ⟨w.heap.size,4,none⟩=_:=blk_cell hf 4
    refine bodyPost_ret (v:=.tuple #[.agg #[.int .i64 0,.int .i64 0,.string ⟨#[]⟩,.int .i64 0,.int .i64 0],.bool false]) (by simp [results,Tryz.results114,go_sem,r0,r1,r2,r3,r4]) rfl ?_
    exact ⟨by rw [←HT0.out,←HB0.out];unfold oneT;rw [HO1.out];rfl,hbf⟩
theorem oneT_kind (u:ByteArray):(oneT u).f0=Pure.kindOf u:=by
  unfold oneT Pure.kindOf
  cases Pure.one u<;>rfl
theorem kind_c (u:ByteArray) {w:World} (hE:Lx.Env w):Calls Tryz.prog 126 #[.string u] w fun e w'=>e=.returned (.int .i64 (Pure.kindOf u))∧Below w.heap.size w w':=by
  have HS:=Lib.hid (single_c u hE)
  have HK:=Lib.hid (oneT_kind u)
  obtain ⟨t,ht⟩: ∃t,oneT u=t:=⟨_,rfl⟩
  rw [ht] at HS HK
  obtain ⟨k,hk⟩: ∃k,Pure.kindOf u=k:=⟨_,rfl⟩
  rw [hk] at HK⊢
  clear ht hk
  unfold tokV at HS
  go_enter Tryz.func126,Tryz.ntmps126
  go_wp2_with fail
  refine HS.out.mono ?_
  rintro e w2 ⟨rfl,hb⟩
  have HB:=Lib.hid hb
  clear hb HS
  go_wp2
  go_ret
  exact ⟨by rw [←HK.out];rfl,below_alloc HB.out _⟩
theorem name_c (u:ByteArray) {w:World} (hE:Lx.Env w):Calls Tryz.prog 101 #[.string u] w fun e w'=>e=.returned (.bool (Pure.kindOf u==1))∧Below w.heap.size w w':=by
  have HK:=Lib.hid (kind_c u hE)
  obtain ⟨k,hk⟩: ∃k,Pure.kindOf u=k:=⟨_,rfl⟩
  rw [hk] at HK⊢
  clear hk hE
  go_enter Tryz.func101,Tryz.ntmps101
  go_wp2_with fail
  refine HK.out.mono ?_
  rintro e w2 ⟨rfl,hb⟩
  have HB:=Lib.hid hb
  clear hb HK
  go_wp2
  go_ret
  exact ⟨rfl,HB.out⟩
def plainB (x:ByteArray):Bool:=(Pure.kindOf x==1)&& !(x.data.toList.contains 64)
theorem plain_c (x:ByteArray) {w:World} (hE:Lx.Env w):Calls Tryz.prog 72 #[.string x] w fun e w'=>e=.returned (.bool (plainB x))∧Below w.heap.size w w':=by
  have HN:=Lib.hid (name_c x hE)
  have HC:=Lib.hid (fun (X:World)=>Lx.contains_out x 64 X)
  have HP:Hid (plainB x=((Pure.kindOf x==1)&& !(x.data.toList.contains 64))):=Lib.hid rfl
  obtain ⟨P,hP⟩: ∃P,plainB x=P:=⟨_,rfl⟩
  obtain ⟨b,hb⟩: ∃b,(Pure.kindOf x==1)=b:=⟨_,rfl⟩
  obtain ⟨q,hq⟩: ∃q,x.data.toList.contains 64=q:=⟨_,rfl⟩
  rw [hb] at HN HP
  rw [hq] at HC HP
  rw [hP] at HP⊢
  clear hP hb hq hE
  cases b with
  |false=>
    go_enter Tryz.func72,Tryz.ntmps72
    go_wp2_with fail
    refine HN.out.mono ?_
    rintro e w2 ⟨rfl,hb⟩
    have HB:=Lib.hid hb
    clear hb HN
    go_wp2
    go_ret
    exact ⟨by rw [HP.out];rfl,HB.out⟩
  |true=>
    go_enter Tryz.func72,Tryz.ntmps72
    go_wp2_with fail
    refine HN.out.mono ?_
    rintro e w2 ⟨rfl,hb⟩
    have HB:=Lib.hid hb
    clear hb HN
    go_wp2_with fail
    refine (HC.out _).mono ?_
    rintro e w3 ⟨rfl,m,rfl⟩
    go_wp2
    go_ret
    exact ⟨by rw [HP.out];rfl,pw_below_drewN HB.out _⟩
theorem chk_one (T:S39):Pure.chk T=if (!(Pure.one T.f2).isSome||T.f0 !=(oneT T.f2).f0||T.f1 !=(oneT T.f2).f1||decide (T.f3<0)||decide (T.f4<0))=true then 14 else 0:=by
  unfold Pure.chk oneT
  cases ho:Pure.one T.f2 with
  |none=>
    rw [if_neg]
    · exact (if_pos rfl).symm
    · intro hg
      obtain ⟨p,hp,_⟩:=Pure.good_one hg
      rw [ho] at hp
      cases hp
  |some p=>
    have hk0:=(Pure.one_kind ho).1
    have hkz:(p.kind:Int)≠0:=fun e=>by
      have:p.kind=0:=by omega
      rw [this] at hk0
      exact absurd hk0 (by decide)
    have hk1:Pure.kindOf T.f2=p.kind:=by unfold Pure.kindOf;rw [ho]
    simp only [Pure.one_zero ho]
    have hn:T.f0=p.kind→(if p.kind=2 then Lx.valN T.f2.data.toList else 0)=(if T.f0=2 then Lx.valN T.f2.data.toList else 0):=fun h=>by
      by_cases h2:p.kind=2
      · rw [if_pos h2,if_pos (by omega)]
      · rw [if_neg h2,if_neg (by omega)]
    by_cases hg:Pure.good T=true
    · rw [if_pos hg]
      obtain ⟨⟨h0,h1⟩,h2,h3,h4⟩:=of_decide_eq_true hg
      rw [hk1] at h1
      rw [hn h1.symm,bne_eq_false_iff_eq.2 h1.symm,bne_eq_false_iff_eq.2 h2,decide_eq_false (by omega),decide_eq_false (by omega)]
      rfl
    · rw [if_neg hg,if_pos]
      refine Decidable.byContradiction fun hn2=>hg ?_
      rw [Bool.not_eq_true] at hn2
      simp only [Bool.or_eq_false_iff,bne_eq_false_iff_eq,decide_eq_false_iff_not] at hn2
      obtain ⟨⟨⟨⟨_,h0⟩,h1⟩,h3⟩,h4⟩:=hn2
      exact decide_eq_true ⟨⟨by omega,by omega⟩,by rw [←hn h0];exact h1,by omega,by omega⟩
set_option maxHeartbeats 6400000 in
theorem check_c (T:S39) (w:World) (hE:Lx.Env w):Calls Tryz.prog 94 #[.agg #[.int .i64 T.f0,.int .i64 T.f1,.string T.f2,.int .i64 T.f3,.int .i64 T.f4]] w fun e w'=>e=.returned (.int .i64 (Pure.chk T))∧Below w.heap.size w w':=by
  have HS:=Lib.hid (fun (X:World) (hX:Below w.heap.size w X)=>single_c T.f2 (hE.below hX))
  have HV:=Lib.hid (chk_one T)
  obtain ⟨V,hV⟩: ∃V,Pure.chk T=V:=⟨_,rfl⟩
  obtain ⟨o,ho⟩: ∃o,oneT T.f2=o:=⟨_,rfl⟩
  obtain ⟨b,hb⟩: ∃b,(Pure.one T.f2).isSome=b:=⟨_,rfl⟩
  obtain ⟨q0,h0⟩: ∃q,(T.f0 !=o.f0)=q:=⟨_,rfl⟩
  obtain ⟨q1,h1⟩: ∃q,(T.f1 !=o.f1)=q:=⟨_,rfl⟩
  obtain ⟨q3,h3⟩: ∃q,decide (T.f3<0)=q:=⟨_,rfl⟩
  obtain ⟨q4,h4⟩: ∃q,decide (T.f4<0)=q:=⟨_,rfl⟩
  rw [hV,ho,hb,h0,h1,h3,h4] at HV
  rw [ho,hb] at HS
  rw [hV]
  have HBL:Hid (Below w.heap.size w (w.alloc (.cells #[.int .i64 T.f0,.int .i64 T.f1,.string T.f2,.int .i64 T.f3,.int .i64 T.f4] 39 (0,0)))):=Lib.hid (below_alloc (Below.refl _ _) _)
  have HBK:=Lib.hid (blk_new w (.cells #[.int .i64 T.f0,.int .i64 T.f1,.string T.f2,.int .i64 T.f3,.int .i64 T.f4] 39 (0,0)))
  clear hV ho hb hE
  unfold tokV at HS
  go_enter Tryz.func94,Tryz.ntmps94
  go_wp2_with fail
  refine (HS.out _ HBL.out).mono ?_
  rintro e w2 ⟨rfl,hb2⟩
  have hk:=blk_below HBK.out hb2
  have HB2:=Lib.hid (HBL.out.trans (hb2.mono HBL.out.size))
  have t0:w2.cell? ⟨w.heap.size,0,none⟩=some (.int .i64 T.f0):=blk_cell hk 0
  have t1:w2.cell? ⟨w.heap.size,1,none⟩=some (.int .i64 T.f1):=blk_cell hk 1
  have t3:w2.cell? ⟨w.heap.size,3,none⟩=some (.int .i64 T.f3):=blk_cell hk 3
  have t4:w2.cell? ⟨w.heap.size,4,none⟩=some (.int .i64 T.f4):=blk_cell hk 4
  clear hk hb2 HS HBL HBK
  have t0:=al t0
  have t1:=al t1
  have t3:=al t3
  have t4:=al t4
  cases b<;>cases q0<;>cases q1<;>cases q3<;>cases q4
  all_goals go_wp2
  all_goals go_ret
  all_goals exact ⟨by rw [HV.out];rfl,below_alloc HB2.out _⟩
end Go.Proofs.YtipnlgmeonepfaaGreatDoor.PFa

set_option linter.unusedVariables false
set_option linter.unusedSimpArgs false
namespace Go.Proofs.YtipnlgmeonepfaaGreatDoor.PFa
open Go.RowKit Go.Proofs.YtipnlgmeonepfaaGreatDoorW.PrintWords Go.Proofs.YtipnlgmeonepfaaGreatDoorW.PrintLast Go.Proofs.YtipnlgmeonepfaaGreatDoorW.PrintMore
open Go.Proofs.YtipnlgmeonepfaaGreatDoor.Lx (Kp)
theorem info_frag:(Tryz.prog.info? 49).map (fun i=>(i.zero,i.size,i.bytes))=some (some (.agg #[.int .i64 0,.int .i64 0,.string ⟨#[]⟩,.int .i64 0,.int .i64 0,.string ⟨#[]⟩,.slice none 0 0]),7,88):=by kernel_rfl
def zFrag:List Value:=[.int .i64 0,.int .i64 0,.string ⟨#[]⟩,.int .i64 0,.int .i64 0,.string ⟨#[]⟩,.slice none 0 0]
/-- Cell by cell: what lay in W lies in W' as it lay, but for v's own row and one cell. -/
def Kc (W:World) (v:Value) (cb co:Nat) (W':World):Prop:=W.heap.size≤W'.heap.size∧ ∀a:Addr,a.block<W.heap.size→some a.block≠v.ownBlock→ ¬(a.block=cb∧a.off=co)→W'.cell? a=W.cell? a
namespace Kc
variable {W X Y:World} {v:Value} {cb co:Nat}
theorem refl (W:World) (v:Value) (cb co:Nat):Kc W v cb co W:=⟨Nat.le_refl _,fun _ _ _ _=>rfl⟩
theorem drew (h:Kc W v cb co X):Kc W v cb co X.drew:=h
theorem drewN (h:Kc W v cb co X) (n:Nat):Kc W v cb co (X.drewN n):=h
theorem alloc (h:Kc W v cb co X) (o:Obj):Kc W v cb co (X.alloc o):=⟨by simp;have:=h.1;omega,fun a ha h1 h2=>(World.cell?_of_block (w:=X) (Below.heap_alloc X o a.block (by have:=h.1;omega))).trans (h.2 a ha h1 h2)⟩
theorem grown (h:Kc W v cb co X) (hg:X.grownBy Y v.ownBlock):Kc W v cb co Y:=⟨Nat.le_trans h.1 hg.size,fun a ha h1 h2=>(hg.cell_far a (by have:=h.1;omega) h1).trans (h.2 a ha h1 h2)⟩
theorem setCur (h : Kc W v cb co X) (u : Value) : Kc W v cb co (X.setCell ⟨cb, co, none⟩ u) := ⟨by simpa using h.1, fun a ha h1 h2 => (World.cell?_setCell_other _ _ _ _ (fun e => by
    subst e
    exact h2 ⟨rfl,rfl⟩)).trans (h.2 a ha h1 h2)⟩
end Kc
section
variable {w W W':World} {g:Nat} {A0:Option Addr} {c0:Nat} {l:List Tk} {A1:Option Addr} {c1:Nat} {ws:List ByteArray} {o:Nat→Nat} {at_:Nat} {tv:Value} {top:List Fg} {sv:Value} {fs:List Fr} {ps:List PF}
/-- The cell that holds the slice of what is being read. -/
theorem Rd.cur (h:Rd w g A0 c0 l A1 c1 ws o at_ tv top sv fs W): ∃cb co cells ty,curA g fs=⟨cb,co,none⟩∧W.heap[cb]? =some (.cells cells ty (0,0))∧cells[co]? =some (curV tv fs)∧some cb≠(curV tv fs).ownBlock∧w.heap.size≤cb∧some g≠(curV tv fs).ownBlock∧ ∀i,i<2→ ¬(g=cb∧i=co):=by
  cases fs with
  |nil=>
    have hgn:some g≠tv.ownBlock:=fun e=>by
      have:o g=1:=h.top.1 g e.symm
      rw [h.og] at this
      exact absurd this (by decide)
    exact ⟨g,3,_,_,rfl,h.blk,rfl,hgn,h.hg,hgn,fun i hi e=>by omega⟩
  |cons f r=>
    have hgn:some g≠f.kv.ownBlock:=fun e=>by
      have:o g=f.blk+3:=(h.frs f List.mem_cons_self).2.2.1 g e.symm
      rw [h.og] at this
      omega
    have hf:=h.frs f List.mem_cons_self
    refine ⟨f.blk,6,_,_,rfl,hf.1,rfl,fun e=> ?_,h.fb f List.mem_cons_self,hgn,fun i hi e=> ?_⟩
    · have:o f.blk=f.blk+3:=hf.2.2.1 f.blk e.symm
      rw [hf.2.1] at this
      omega
    · have h1:=h.blk
      rw [e.1,hf.1] at h1
      injection h1 with h1
      injection h1 with _ h2 _
      exact absurd h2 (by decide)
/-- Seven cells of a row are written, the last element's. -/
theorem own_last {B n cap g9 : Nat} {inner : List Value} {a b c d e f z a' b' c' d' e' f' z' : Value} (h : W.ownsRow B 49 7 (.slice (some ⟨g9, 0, none⟩) (n + 1) cap) (n + 1) (inner ++ [a, b, c, d, e, f, z])) (hi : inner.length = n * 7) :
    (((((((W.setCell ⟨g9,n*7,none⟩ a').setCell ⟨g9,n*7+1,none⟩ b').setCell ⟨g9,n*7+2,none⟩ c').setCell ⟨g9,n*7+3,none⟩ d').setCell ⟨g9,n*7+4,none⟩ e').setCell ⟨g9,n*7+5,none⟩ f').setCell ⟨g9,n*7+6,none⟩ z').ownsRow B 49 7 (.slice (some ⟨g9,0,none⟩) (n+1) cap) (n+1) (inner++[a',b',c',d',e',f',z']):=by
  have h7:=(((((((h.stored (n*7) a').1.stored (n*7+1) b').1.stored (n*7+2) c').1.stored (n*7+3) d').1.stored (n*7+4) e').1.stored (n*7+5) f').1.stored (n*7+6) z').1
  have e1:((((((((inner++[a,b,c,d,e,f,z]).set (n*7) a').set (n*7+1) b').set (n*7+2) c').set (n*7+3) d').set (n*7+4) e').set (n*7+5) f').set (n*7+6) z')=inner++[a',b',c',d',e',f',z']:=by
    simp [List.set_append,hi]
  rw [e1] at h7
  exact h7
theorem last_cells {B n cap g9 : Nat} {inner : List Value} {a b c d e f z : Value} (h : W.ownsRow B 49 7 (.slice (some ⟨g9, 0, none⟩) (n + 1) cap) (n + 1) (inner ++ [a, b, c, d, e, f, z])) :
    (W.cell? ⟨g9,n*7,none⟩=some a∧W.cell? ⟨g9,n*7+1,none⟩=some b∧W.cell? ⟨g9,n*7+2,none⟩=some c∧W.cell? ⟨g9,n*7+3,none⟩=some d∧W.cell? ⟨g9,n*7+4,none⟩=some e∧W.cell? ⟨g9,n*7+5,none⟩=some f∧W.cell? ⟨g9,n*7+6,none⟩=some z)∧
    (W.frozen? ⟨g9,n*7,none⟩=false∧W.frozen? ⟨g9,n*7+1,none⟩=false∧W.frozen? ⟨g9,n*7+2,none⟩=false∧W.frozen? ⟨g9,n*7+3,none⟩=false∧W.frozen? ⟨g9,n*7+4,none⟩=false∧W.frozen? ⟨g9,n*7+5,none⟩=false∧W.frozen? ⟨g9,n*7+6,none⟩=false):=by
  have hi:inner.length=n*7:=by
    have:=h.1
    simp only [List.length_append,List.length_cons,List.length_nil] at this
    omega
  have hc: ∀j u,j<7→([a,b,c,d,e,f,z]:List Value)[j]? =some u→W.cell? ⟨g9,n*7+j,none⟩=some u:=fun j u hj hu=>by
    rw [h.cellAt (n*7+j) (by omega),List.getElem?_append_right (by omega),hi,show n*7+j-n*7=j from by omega]
    exact hu
  exact ⟨⟨hc 0 _ (by omega) rfl,hc 1 _ (by omega) rfl,hc 2 _ (by omega) rfl,hc 3 _ (by omega) rfl,hc 4 _ (by omega) rfl,hc 5 _ (by omega) rfl,hc 6 _ (by omega) rfl⟩,⟨h.frozenAt _,h.frozenAt _,h.frozenAt _,h.frozenAt _,h.frozenAt _,h.frozenAt _,h.frozenAt _⟩⟩
/-- The end of 'append and store', in either order. -/
theorem Rd.ended (h : Rd w g A0 c0 l A1 c1 ws o at_ tv top sv fs W) {cb co n c g9 cap : Nat} {A : Option Addr} {inner : List Value} {w1 W4 : World} {z : Obj} {x : Fg} {okx : Nat → Prop} {z0 z1 z2 z3 z4 z5 z6 y0 y1 y2 y3 y4 y5 y6 : Value}
    (hca:curA g fs=⟨cb,co,none⟩) (hv:curV tv fs=.slice A n c) (hn:(curL top fs).length=n)
    (hin:Reps (k49.M W w.heap.size (fun k=>o k=curO fs∧some k≠(curV tv fs).ownBlock)) 7 (curL top fs) inner)
    (hgrow:(W.alloc z).drew.grownBy w1 (Value.slice A n c).ownBlock)
    (hown1:w1.ownsRow w.heap.size 49 7 (.slice (some ⟨g9,0,none⟩) (n+1) cap) (n+1) (inner++[z0,z1,z2,z3,z4,z5,z6]))
    (hat9:(Value.slice A n c).ownBlock=some g9∨g9=W.heap.size+1)
    (hx:k49.M W w.heap.size okx x [y0,y1,y2,y3,y4,y5,y6]) (hokx: ∀k,okx k→o k≠0∧o k≠1∧o k≠2∧ ∀f∈fs,o k≠f.blk+3)
    {Z:Nat→Prop} (hZ: ∀k,Z k→k<W.heap.size∧o k=0∧k≠g∧ ∀f∈fs,k≠f.blk)
    (hW4:W4=(((((((w1.setCell ⟨g9,n*7,none⟩ y0).setCell ⟨g9,n*7+1,none⟩ y1).setCell ⟨g9,n*7+2,none⟩ y2).setCell ⟨g9,n*7+3,none⟩ y3).setCell ⟨g9,n*7+4,none⟩ y4).setCell ⟨g9,n*7+5,none⟩ y5).setCell ⟨g9,n*7+6,none⟩ y6).setCell ⟨cb,co,none⟩ (.slice (some ⟨g9,0,none⟩) (n+1) cap)∨W4=((((((((w1.setCell ⟨cb,co,none⟩ (.slice (some ⟨g9,0,none⟩) (n+1) cap)).setCell ⟨g9,n*7,none⟩ y0).setCell ⟨g9,n*7+1,none⟩ y1).setCell ⟨g9,n*7+2,none⟩ y2).setCell ⟨g9,n*7+3,none⟩ y3).setCell ⟨g9,n*7+4,none⟩ y4).setCell ⟨g9,n*7+5,none⟩ y5).setCell ⟨g9,n*7+6,none⟩ y6)):
    RdZ w g A0 c0 l A1 c1 ws at_ (addT top x fs) (addP x (fs.map Fr.pf)) Z W4∧Kp (fun k=>k=(curA g fs).block∨some k=(curV tv fs).ownBlock) W W4:=by
  obtain ⟨cb',co',cells,ty,hca',hcb,hco,hcn,hcw,hgn,hcg⟩:=h.cur
  rw [hca] at hca'
  obtain ⟨rfl,rfl⟩:cb=cb'∧co=co':=by injection hca' with a b;exact ⟨a,b⟩
  have hi:inner.length=n*7:=by
    have:=hown1.1
    simp only [List.length_append,List.length_cons,List.length_nil] at this
    omega
  have hne:cb≠g9:=by
    rintro rfl
    rcases hat9 with e|e
    · rw [hv] at hcn
      exact hcn e.symm
    · have:=blk_lt hcb
      omega
  have hb1:w1.heap[cb]? =some (.cells cells ty (0,0)):=blk_grown (blk_drew (blk_alloc hcb _)) hgrow (by rw [hv] at hcn;exact hcn)
  have hS9:(g9=(curA g fs).block∨some g9=(curV tv fs).ownBlock)∨W.heap.size≤g9:=by
    rcases hat9 with e|e
    · exact .inl (.inr (by rw [hv,e]))
    · exact .inr (by omega)
  have hScb:(cb=(curA g fs).block∨some cb=(curV tv fs).ownBlock)∨W.heap.size≤cb:=.inl (.inl (by rw [hca]))
  have hk1:Kp (fun k=>k=(curA g fs).block∨some k=(curV tv fs).ownBlock) W w1:=Lx.Kp.grown (Kp.drew (Kp.alloc (Kp.refl _ _) _)) hgrow (fun k e=> .inr (by rw [hv,e]))
  have hat:(Value.slice (some ⟨g9,0,none⟩) (n+1) cap).ownBlock=(curV tv fs).ownBlock∨ ∃b,(Value.slice (some ⟨g9,0,none⟩) (n+1) cap).ownBlock=some b∧W.heap.size≤b:=by
    rcases hat9 with e|e
    · exact .inl (by rw [hv,e];rfl)
    · exact .inr ⟨g9,rfl,by omega⟩
  have hcur: ∀o,W.heap[(curA g fs).block]? =some o→W4.heap[(curA g fs).block]? =some (match o with| .cells c t f=> .cells (c.setIfInBounds (curA g fs).off (.slice (some ⟨g9,0,none⟩) (n+1) cap)) t f|_=>o):=by
    rw [hca]
    intro o ho
    have ho:W.heap[cb]? =some o:=ho
    rw [hcb] at ho
    injection ho with ho
    subst ho
    rcases hW4 with rfl|rfl
    · exact blk_set (blk_far (blk_far (blk_far (blk_far (blk_far (blk_far (blk_far hb1 hne _) hne _) hne _) hne _) hne _) hne _) hne _) co _
    · exact blk_far (blk_far (blk_far (blk_far (blk_far (blk_far (blk_far (blk_set hb1 co _) hne _) hne _) hne _) hne _) hne _) hne _) hne _
  have hcb0:some cb≠(Value.slice (some ⟨g9,0,none⟩) (n+1) cap).ownBlock:=fun e=>by
    have e:some cb=some g9:=e
    injection e with e
    exact hne e
  rcases hW4 with rfl|rfl
  · have hk4:Kp (fun k=>k=(curA g fs).block∨some k=(curV tv fs).ownBlock) W ((((((((w1.setCell ⟨g9,n*7,none⟩ y0).setCell ⟨g9,n*7+1,none⟩ y1).setCell ⟨g9,n*7+2,none⟩ y2).setCell ⟨g9,n*7+3,none⟩ y3).setCell ⟨g9,n*7+4,none⟩ y4).setCell ⟨g9,n*7+5,none⟩ y5).setCell ⟨g9,n*7+6,none⟩ y6).setCell ⟨cb,co,none⟩ (.slice (some ⟨g9,0,none⟩) (n+1) cap)):=Kp.setCell (Kp.setCell (Kp.setCell (Kp.setCell (Kp.setCell (Kp.setCell (Kp.setCell (Kp.setCell hk1 hS9 _) hS9 _) hS9 _) hS9 _) hS9 _) hS9 _) hS9 _) hScb _
    exact ⟨h.add hin hx hokx (by rw [hn];exact own_setCell (own_last hown1 hi) hcb0 _) hk4 hat hZ hcur,hk4⟩
  · have hk4:Kp (fun k=>k=(curA g fs).block∨some k=(curV tv fs).ownBlock) W (((((((((w1.setCell ⟨cb,co,none⟩ (.slice (some ⟨g9,0,none⟩) (n+1) cap)).setCell ⟨g9,n*7,none⟩ y0).setCell ⟨g9,n*7+1,none⟩ y1).setCell ⟨g9,n*7+2,none⟩ y2).setCell ⟨g9,n*7+3,none⟩ y3).setCell ⟨g9,n*7+4,none⟩ y4).setCell ⟨g9,n*7+5,none⟩ y5).setCell ⟨g9,n*7+6,none⟩ y6)):=Kp.setCell (Kp.setCell (Kp.setCell (Kp.setCell (Kp.setCell (Kp.setCell (Kp.setCell (Kp.setCell hk1 hScb _) hS9 _) hS9 _) hS9 _) hS9 _) hS9 _) hS9 _) hS9 _
    exact ⟨h.add hin hx hokx (by rw [hn];exact own_last (own_setCell hown1 hcb0 _) hi) hk4 hat hZ hcur,hk4⟩
/-- A block that is nobody's lies as it lay. -/
theorem Rd.zkept (h:Rd w g A0 c0 l A1 c1 ws o at_ tv top sv fs W) {k:Nat} (hz:k<W.heap.size∧o k=0∧k≠g∧ ∀f∈fs,k≠f.blk) (hk:Kp (fun k=>k=(curA g fs).block∨some k=(curV tv fs).ownBlock) W W'):W'.heap[k]? =W.heap[k]? :=by
  refine hk.block k hz.1 ?_
  rintro (e|e)
  · cases fs with
    |nil=>exact hz.2.2.1 e
    |cons f r=>exact hz.2.2.2 f List.mem_cons_self e
  · have h0:o k=curO fs:=h.curR.1 k e.symm
    rw [hz.2.1] at h0
    cases fs with
    |nil=>exact absurd h0 (by decide)
    |cons f r=>exact absurd h0 (by simp [curO])
/-- An append, kept shut for the walk of a region that draws its order. -/
def appSem (ats:Array TypeId) (ty:TypeId) (args:Array Value):Sem Value:=Builtin.append_ ats ty args
theorem app_veil (ats:Array TypeId) (ty:TypeId) (cs:Array Bool) (args:Array Value):builtin .append ats ty cs args=(do pure (.value (←appSem ats ty args))):=rfl
attribute [local go_sem ↓ high] app_veil
set_option maxHeartbeats 6400000 in
set_option maxRecDepth 100000 in
theorem leaf_c (h : Rd w g A0 c0 l A1 c1 ws o at_ tv top sv fs W) (hC : Kd.C k39 w A0 l.length l) (hl : l.length ≤ 6000) (hat : at_ < l.length) (hfs : fs.length ≤ 100) (hcl : (curL top fs).length ≤ 6000) {Z : Nat → Prop} (hZ : ∀ k, Z k → k < W.heap.size ∧ o k = 0 ∧ k ≠ g ∧ ∀ f ∈ fs, k ≠ f.blk) :
    Calls Tryz.prog 78 #[.pointer (some ⟨g,0,none⟩)] W fun e W'=>e=.returned (.tuple #[])∧RdZ w g A0 c0 l A1 c1 ws at_ (addT top ⟨tkAt l at_,⟨#[]⟩,[]⟩ fs) (addP ⟨tkAt l at_,⟨#[]⟩,[]⟩ (fs.map Fr.pf)) Z W'∧ ∀k,Z k→W'.heap[k]? =W.heap[k]? :=by
  have HC:=Lib.hid hC
  have HKC:=Lib.hid (kids_c h hfs)
  obtain ⟨cb,co,cells,ty,hca,_⟩:=h.cur
  have HCA:=Lib.hid hca
  rw [hca] at HKC
  have H0:=Lib.hid h
  obtain ⟨i0,hi0,hz0,hz1,hz2⟩:=info_parts info_frag
  have HI0:=Lib.hid hi0
  have HZ0:=Lib.hid hz0
  have HZ1:=Lib.hid hz1
  have HZ2:=Lib.hid hz2
  clear hi0 hz0 hz1 hz2 hca h hC
  go_enter Tryz.func78,Tryz.ntmps78
  go_wp2_with fail
  refine HKC.out.mono ?_
  rintro e W2 ⟨rfl,hd⟩
  have H2:Hid (Rd w g A0 c0 l A1 c1 ws o at_ tv top sv fs W2):=Lib.hid (by
    obtain ⟨m,rfl⟩:=hd
    exact H0.out.below (pw_below_drewN (Below.refl _ _) _))
  have hb2:Below W.heap.size W W2:=by
    obtain ⟨m,rfl⟩:=hd
    exact pw_below_drewN (Below.refl _ _) _
  have HZZ:Hid (∀k,Z k→k<W2.heap.size∧o k=0∧k≠g∧ ∀f∈fs,k≠f.blk):=Lib.hid (fun k hk=>⟨Nat.lt_of_lt_of_le (hZ k hk).1 hb2.size,(hZ k hk).2⟩)
  have HPZ:Hid (∀(t2:List Fg) (p2:List PF) (W4:World),RdZ w g A0 c0 l A1 c1 ws at_ t2 p2 Z W4∧Kp (fun k=>k=(curA g fs).block∨some k=(curV tv fs).ownBlock) W2 W4→RdZ w g A0 c0 l A1 c1 ws at_ t2 p2 Z W4∧ ∀k,Z k→W4.heap[k]? =W.heap[k]?):=Lib.hid (fun t2 p2 W4 h4=>⟨h4.1,fun k hk=>(H2.out.zkept (HZZ.out k hk) h4.2).trans (hb2.block k (hZ k hk).1)⟩)
  clear hb2 hZ
  clear hd HKC H0
  have hR:=H2.out.curR
  obtain ⟨A,c,hv,hcc,_⟩:=Kd.R_reads hR
  obtain ⟨_,inner,hown,hin⟩:=hR
  have HIN:=Lib.hid hin
  clear hin
  obtain ⟨cb',co',cells',ty',hca',hcb,hco,hcn,hcw,hgn,hcg⟩:=H2.out.cur
  have hown0:W2.ownsRow w.heap.size 49 7 (curV tv fs) (curL top fs).length inner:=hown
  rw [HCA.out] at hca'
  obtain ⟨rfl,rfl⟩:cb=cb'∧co=co':=by injection hca' with a b;exact ⟨a,b⟩
  rw [hv] at hown0 hcn hco hgn
  obtain ⟨n,hn⟩: ∃n,(curL top fs).length=n:=⟨_,rfl⟩
  rw [hn] at hown0 hcn hco hgn hcl hcc
  have k0:W2.cell? ⟨g,0,none⟩=some (.slice A0 l.length c0):=blk_cell H2.out.blk 0
  have k1:W2.cell? ⟨g,1,none⟩=some (.int .i64 at_):=blk_cell H2.out.blk 1
  have kc:W2.cell? ⟨cb,co,none⟩=some (.slice A n c):=(blk_cell hcb co).trans hco
  obtain ⟨ad,had,t0,t1,t2,t3,t4⟩:=at_T39 (Kd.C_below HC.out H2.out.bel) (at_:Int) (by omega) (by omega)
  subst had
  obtain ⟨ad2,had2,s0,_⟩:=at_T39 HC.out (at_:Int) (by omega) (by omega)
  obtain rfl:ad=ad2:=by injection had2
  clear had2
  obtain ⟨T,hT⟩: ∃T,rd_T39 l (at_:Int)=T:=⟨_,rfl⟩
  have HT:Hid (tkAt l at_=T):=Lib.hid hT
  rw [hT] at t0 t1 t2 t3 t4
  simp only [Int.toNat_natCast] at t0 t1 t2 t3 t4 s0
  have hpl:=World.block_lt_of_cell? w _ s0
  clear hT s0
  have x2:(0:Int)≤(at_:Int):=by omega
  have x3:(at_:Int)<(l.length:Int):=by omega
  have hob: ∀k,(Value.slice A n c).ownBlock=some k→w.heap.size≤k:=own_base hown0
  have hS : ∀ w', Kc W2 (.slice A n c) cb co w' → (w'.cell? ⟨g, 0, none⟩ = some (.slice (some ad) l.length c0) ∧ w'.cell? ⟨g, 1, none⟩ = some (.int .i64 at_) ∧
      w'.cell? (ad.add (at_*5))=some (.int .i64 T.f0)∧w'.cell? ⟨(ad.add (at_*5)).block,(ad.add (at_*5)).off+1,none⟩=some (.int .i64 T.f1)∧w'.cell? ⟨(ad.add (at_*5)).block,(ad.add (at_*5)).off+2,none⟩=some (.string T.f2)∧w'.cell? ⟨(ad.add (at_*5)).block,(ad.add (at_*5)).off+3,none⟩=some (.int .i64 T.f3)∧w'.cell? ⟨(ad.add (at_*5)).block,(ad.add (at_*5)).off+4,none⟩=some (.int .i64 T.f4)):=by
    intro w' hk
    have hsz:=H2.out.bel.size
    have hp:some (ad.add (at_*5)).block≠(Value.slice A n c).ownBlock:=fun e=>by have:=hob _ e.symm;omega
    have hq: ∀i,¬((ad.add (at_*5)).block=cb∧i=co):=fun i h=>by have:=h.1;omega
    have hgl:g<W2.heap.size:=blk_lt H2.out.blk
    exact ⟨(hk.2 _ hgl hgn (hcg 0 (by omega))).trans k0,(hk.2 _ hgl hgn (hcg 1 (by omega))).trans k1,(hk.2 _ (by omega) hp (hq _)).trans t0,(hk.2 ⟨(ad.add (at_*5)).block,(ad.add (at_*5)).off+1,none⟩ (show (ad.add (at_*5)).block<_ by omega) hp (hq _)).trans t1,(hk.2 ⟨(ad.add (at_*5)).block,(ad.add (at_*5)).off+2,none⟩ (show (ad.add (at_*5)).block<_ by omega) hp (hq _)).trans t2,(hk.2 ⟨(ad.add (at_*5)).block,(ad.add (at_*5)).off+3,none⟩ (show (ad.add (at_*5)).block<_ by omega) hp (hq _)).trans t3,(hk.2 ⟨(ad.add (at_*5)).block,(ad.add (at_*5)).off+4,none⟩ (show (ad.add (at_*5)).block<_ by omega) hp (hq _)).trans t4⟩
  have hlt0:w.heap.size≤W2.heap.size:=H2.out.bel.size
  have x5:(0:Int)≤(n:Int):=by omega
  have x6:(n:Int)<(n:Int)+1:=by omega
  have HO:=Lib.hid hown0
  have HCB:=Lib.hid hcb
  have HCO:=Lib.hid hco
  have HN:=Lib.hid hn
  have HV:=Lib.hid hv
  clear hown0 hcb hco hn hv hown
  obtain ⟨g9,cap,w1,happ,hown1,hgrow,hat9,hlt9⟩:=run_append_lies (P:=Tryz.prog) (W2.alloc (.cells #[.int .i64 0,.int .i64 0,.string ⟨#[]⟩,.int .i64 0,.int .i64 0,.string ⟨#[]⟩,.slice none 0 0] 49 (0,0))).drew 25 25 w.heap.size 49 i0 (.agg #[.int .i64 0,.int .i64 0,.string ⟨#[]⟩,.int .i64 0,.int .i64 0,.string ⟨#[]⟩,.slice none 0 0]) 7 88 Tryz.underlying25 HI0.out HZ0.out HZ1.out HZ2.out rfl (by decide) (.slice A n c) n inner (own_drew (HO.out.alloc _)) ⟨W2.heap.size,0,none⟩ 1 1 zFrag rfl (World.news_of_block (blk_drew (blk_new _ _))) (by simp [zFrag,Value.oneCell']) (by decide) (by simp only [maxLen];omega) (by omega) (by simp;omega) (W2.heap.size+1) (by simp)
  replace happ:(appSem #[25,25] 25 #[.slice A n c,.slice (some ⟨W2.heap.size,0,none⟩) 1 1]).run Tryz.prog _=_:=happ
  obtain ⟨⟨y0,y1,y2,y3,y4,y5,y6⟩,⟨z0,z1,z2,z3,z4,z5,z6⟩⟩:=last_cells hown1
  have kc1:w1.cell? ⟨cb,co,none⟩=some (.slice A n c):=(blk_cell (blk_grown (blk_drew (blk_alloc HCB.out _)) hgrow hcn) co).trans HCO.out
  have fc0:W2.frozen? ⟨cb,co,none⟩=false:=blk_frozen HCB.out co
  have fc1:w1.frozen? ⟨cb,co,none⟩=false:=blk_frozen (blk_grown (blk_drew (blk_alloc HCB.out _)) hgrow hcn) co
  have hne9:cb≠g9:=by
    rintro rfl
    rcases hat9 with e|e
    · exact hcn e.symm
    · have:=blk_lt HCB.out
      omega
  have hne9':g9≠cb:=fun e=>hne9 e.symm
  have HKA:Kc W2 (.slice A n c) cb co w1:=Kc.grown (Kc.drew (Kc.alloc (Kc.refl _ _ _ _) _)) hgrow
  have kca:(W2.alloc (.cells #[.int .i64 0,.int .i64 0,.string ⟨#[]⟩,.int .i64 0,.int .i64 0,.string ⟨#[]⟩,.slice none 0 0] 49 (0,0))).cell? ⟨cb,co,none⟩=some (.slice A n c):=(blk_cell (blk_alloc HCB.out _) co).trans HCO.out
  obtain ⟨a0,a1,a2,a3,a4,a5,a6⟩:=hS (W2.alloc (.cells #[.int .i64 0,.int .i64 0,.string ⟨#[]⟩,.int .i64 0,.int .i64 0,.string ⟨#[]⟩,.slice none 0 0] 49 (0,0))) (Kc.alloc (Kc.refl _ _ _ _) _)
  obtain ⟨b0,b1,b2,b3,b4,b5,b6⟩:=hS w1 HKA
  obtain ⟨d0,d1,d2,d3,d4,d5,d6⟩:=hS (w1.setCell ⟨cb,co,none⟩ (.slice (some ⟨g9,0,none⟩) (n+1) cap)) (Kc.setCur HKA _)
  clear hS
  have HOWN:=Lib.hid hown1
  have HGROW:=Lib.hid hgrow
  have HAT:=Lib.hid hat9
  clear hown1 hgrow hat9 HI0 HZ0 HZ1 HZ2 HKA hob
  go_wp2_with fail
  go_region
  all_goals go_wp2
  all_goals go_end0
  all_goals refine ⟨rfl, ?_⟩
  all_goals refine HPZ.out _ _ _ (Rd.ended H2.out HCA.out (by rw [HV.out,HN.out]) HN.out HIN.out (z:=.cells #[.int .i64 0,.int .i64 0,.string ⟨#[]⟩,.int .i64 0,.int .i64 0,.string ⟨#[]⟩,.slice none 0 0] 49 (0,0)) HGROW.out HOWN.out HAT.out (x:=⟨tkAt l at_,⟨#[]⟩,[]⟩) (okx:=fun _=>False) ?_ (fun _ h=>h.elim) (Z:=Z) HZZ.out (by first|(left;with_reducible rfl)|(right;with_reducible rfl)))
  all_goals rw [HT.out]
  all_goals exact k49_mkM W2 _ _ ⟨T,⟨#[]⟩,[]⟩ (Kd.R_nil _ _ _ _ _)
end
end Go.Proofs.YtipnlgmeonepfaaGreatDoor.PFa

set_option linter.unusedVariables false
set_option linter.unusedSimpArgs false
namespace Go.Proofs.YtipnlgmeonepfaaGreatDoor.PFa
open Go.RowKit Go.Proofs.YtipnlgmeonepfaaGreatDoorW.PrintWords Go.Proofs.YtipnlgmeonepfaaGreatDoorW.PrintLast Go.Proofs.YtipnlgmeonepfaaGreatDoorW.PrintMore
open Go.Proofs.YtipnlgmeonepfaaGreatDoor.Lx (Kp)
attribute [local go_sem ↓ high] app_veil
theorem info_open:(Tryz.prog.info? 107).map (fun i=>(i.zero,i.size,i.bytes))=some (some (.agg #[.pointer none,.int .i64 0]),2,16):=by kernel_rfl
section
variable {w W W':World} {g:Nat} {A0:Option Addr} {c0:Nat} {l:List Tk} {A1:Option Addr} {c1:Nat} {ws:List ByteArray} {o:Nat→Nat} {at_:Nat} {tv:Value} {top:List Fg} {sv:Value} {fs:List Fr} {ps:List PF}
theorem Rd.push (h : Rd w g A0 c0 l A1 c1 ws o at_ tv top sv fs W) {T : Tk} {z : Obj} {w1 : World} {g9 cap : Nat}
    (hgrow:((W.alloc (.cells (frCells T (.slice none 0 0)) 49 (0,0))).alloc z).drew.grownBy w1 sv.ownBlock)
    (hown1:w1.ownsRow w.heap.size 107 2 (.slice (some ⟨g9,0,none⟩) (fs.length+1) cap) (fs.length+1) (stCells fs++[.pointer (some ⟨W.heap.size,0,none⟩),.int .i64 at_]))
    (hat9:sv.ownBlock=some g9∨g9=W.heap.size+2) {Z:Nat→Prop} (hZ: ∀k,Z k→k<W.heap.size∧o k=0∧k≠g∧ ∀f∈fs,k≠f.blk):
    RdZ w g A0 c0 l A1 c1 ws at_ top (⟨T,at_,[]⟩::fs.map Fr.pf) Z (w1.setCell ⟨g,4,none⟩ (.slice (some ⟨g9,0,none⟩) (fs.length+1) cap))∧ ∀k,Z k→(w1.setCell ⟨g,4,none⟩ (.slice (some ⟨g9,0,none⟩) (fs.length+1) cap)).heap[k]? =W.heap[k]? :=by
  obtain ⟨o',ho'⟩: ∃o':Nat→Nat,∀k,o' k=if k<W.heap.size then o k else if k=W.heap.size then 0 else 2:=⟨_,fun _=>rfl⟩
  have hold: ∀k,k<W.heap.size→o' k=o k:=fun k hk=>by rw [ho',if_pos hk]
  have hgl:=blk_lt h.blk
  have hk1:Kp (fun k=>some k=sv.ownBlock) W w1:=Lx.Kp.grown (Kp.drew (Kp.alloc (Kp.alloc (Kp.refl _ _) _) _)) hgrow (fun k e=>e.symm)
  have hk2:Kp (fun k=>k=g∨some k=sv.ownBlock) W (w1.setCell ⟨g,4,none⟩ (.slice (some ⟨g9,0,none⟩) (fs.length+1) cap)):=Kp.setCell (hk1.mono (fun k _ e=> .inr e)) (.inl (.inl rfl)) _
  have hS: ∀k z,o k=z→z≠0→z≠2→ ¬(k=g∨some k=sv.ownBlock):=by
    rintro k z hz h0 h2 (rfl|e)
    · exact h0 (hz.symm.trans h.og)
    · exact h2 (hz.symm.trans (h.so k e.symm))
  have hgs:some g≠sv.ownBlock:=fun e=>by
    have:=h.so g e.symm
    rw [h.og] at this
    exact absurd this (by decide)
  have hg9:g≠g9:=by
    rintro rfl
    rcases hat9 with e|e
    · exact hgs e.symm
    · omega
  have hb1:w1.heap[g]? =some (.cells #[.slice A0 l.length c0,.int .i64 at_,.slice A1 ws.length c1,tv,sv] 71 (0,0)):=hk1.blk h.blk hgs
  have hs9:g9=W.heap.size+2∨g9<W.heap.size:=by
    rcases hat9 with e|e
    · exact .inr (own_lt h.stk g9 e)
    · exact .inl e
  have hnew:w1.heap[W.heap.size]? =some (.cells (frCells T (.slice none 0 0)) 49 (0,0)):=by
    refine blk_grown (blk_drew (blk_alloc (blk_new W _) _)) hgrow (fun e=> ?_)
    have:=own_lt h.stk W.heap.size e.symm
    omega
  have hne:W.heap.size≠g:=by omega
  refine ⟨⟨o',tv,_,⟨W.heap.size,T,at_,.slice none 0 0,[]⟩::fs,⟨blk_put hb1 4 _ rfl,(hold g hgl).trans h.og, ?_, ?_, ?_, ?_, ?_, ?_,h.hg, ?_⟩,rfl,fun k hk=>⟨(hold k (hZ k hk).1).trans (hZ k hk).2.1,(hZ k hk).2.2.1,fun f hf=> ?_⟩⟩,fun k hk=>hk2.block k (hZ k hk).1 (fun e=> ?_)⟩
  · exact R_aside (ok:=fun _=>True) (okx:=fun _=>True) (z':=0) h.top hk2 (fun k _ hz=>hS k 1 hz (by decide) (by decide)) (fun k hlt hz=>(hold k hlt).trans hz)
  · exact own_setCell hown1 (by
      intro e
      have e:some g=some g9:=e
      injection e with e
      exact hg9 e) _
  · intro k hk
    have hk:some g9=some k:=hk
    injection hk with hk
    subst hk
    rcases hat9 with e|e
    · rw [hold _ (own_lt h.stk g9 e)]
      exact h.so g9 e
    · rw [ho',if_neg (by omega),if_neg (by omega)]
  · intro f hf
    rcases List.mem_cons.1 hf with rfl|hf
    · refine ⟨blk_far hnew hne _, ?_,Kd.R_nil _ _ _ _ _⟩
      show o' W.heap.size=0
      rw [ho',if_neg (by omega),if_pos rfl]
    · have hff:=h.frs f hf
      have hlt:=blk_lt hff.1
      refine ⟨hk2.blk hff.1 ?_,(hold _ hlt).trans hff.2.1, ?_⟩
      · rintro (e|e)
        · have h1:=h.blk
          rw [←e,hff.1] at h1
          injection h1 with h1
          injection h1 with _ h2 _
          exact absurd h2 (by decide)
        · have h1:=h.so _ e.symm
          rw [hff.2.1] at h1
          exact absurd h1 (by decide)
      · exact R_aside (ok := fun _ => True) (okx := fun _ => True) (z' := 0) hff.2.2 hk2 (fun k _ hz => hS k _ hz (by omega) (by
          intro e
          omega)) (fun k hlt hz=>(hold k hlt).trans hz)
  · refine List.pairwise_cons.2 ⟨fun f hf=> ?_,h.nd⟩
    have:=blk_lt (h.frs f hf).1
    show W.heap.size≠f.blk
    omega
  · refine Kp.below h.bel hk2 ?_ h.bel.size
    rintro k (rfl|e)
    · exact h.hg
    · exact own_base h.stk k e.symm
  · intro f hf
    rcases List.mem_cons.1 hf with rfl|hf
    · exact h.bel.size
    · exact h.fb f hf
  · rcases List.mem_cons.1 hf with rfl|hf
    · have:=(hZ k hk).1
      show k≠W.heap.size
      omega
    · exact (hZ k hk).2.2.2 f hf
  · rcases e with e|e
    · exact (hZ k hk).2.2.1 e
    · have h1:=h.so k e.symm
      rw [(hZ k hk).2.1] at h1
      exact absurd h1 (by decide)
set_option maxHeartbeats 3200000 in
set_option maxRecDepth 100000 in
theorem begin_full (h : Rd w g A0 c0 l A1 c1 ws o at_ tv top sv fs W) (hfs : fs.length = 100) :
    Calls Tryz.prog 104 #[.pointer (some ⟨g,0,none⟩)] W fun e W'=>e=endR at_ 6∧Below W.heap.size W W':=by
  have HREF:=Lib.hid (refuse_c h 6)
  obtain ⟨A,c,rfl⟩:=own_slice h.stk
  rw [hfs] at h
  have k4:W.cell? ⟨g,4,none⟩=some (.slice A 100 c):=by
    have:=blk_cell h.blk 4
    exact this
  clear h
  go_enter Tryz.func104,Tryz.ntmps104
  go_wp2_with fail
  refine HREF.out.mono ?_
  rintro e W2 ⟨rfl,⟨m,rfl⟩⟩
  exact ⟨rfl,rfl,pw_below_drewN (Below.refl _ _) _⟩
set_option maxHeartbeats 6400000 in
set_option maxRecDepth 100000 in
theorem begin_c (h : Rd w g A0 c0 l A1 c1 ws o at_ tv top sv fs W) (hC : Kd.C k39 w A0 l.length l) (hl : l.length ≤ 6000) (hat : at_ < l.length) (hfs : fs.length < 100) {Z : Nat → Prop} (hZ : ∀ k, Z k → k < W.heap.size ∧ o k = 0 ∧ k ≠ g ∧ ∀ f ∈ fs, k ≠ f.blk) :
    Calls Tryz.prog 104 #[.pointer (some ⟨g,0,none⟩)] W fun e W'=>e=.returned (.tuple #[])∧RdZ w g A0 c0 l A1 c1 ws at_ top (⟨tkAt l at_,at_,[]⟩::fs.map Fr.pf) Z W'∧ ∀k,Z k→W'.heap[k]? =W.heap[k]? :=by
  obtain ⟨i0,hi0,hz0,hz1,hz2⟩:=info_parts info_open
  have HI0:=Lib.hid hi0
  have HZ0:=Lib.hid hz0
  have HZ1:=Lib.hid hz1
  have HZ2:=Lib.hid hz2
  clear hi0 hz0 hz1 hz2
  obtain ⟨A,c,rfl⟩:=own_slice h.stk
  have H0:=Lib.hid h
  obtain ⟨ad,had,t0,t1,t2,t3,t4⟩:=at_T39 (Kd.C_below hC h.bel) (at_:Int) (by omega) (by omega)
  subst had
  obtain ⟨T,hT⟩: ∃T,rd_T39 l (at_:Int)=T:=⟨_,rfl⟩
  have HT:Hid (tkAt l at_=T):=Lib.hid hT
  rw [hT] at t0 t1 t2 t3 t4
  simp only [Int.toNat_natCast] at t0 t1 t2 t3 t4
  obtain ⟨n,hn⟩: ∃n,fs.length=n:=⟨_,rfl⟩
  have k0:W.cell? ⟨g,0,none⟩=some (.slice (some ad) l.length c0):=blk_cell h.blk 0
  have k1:W.cell? ⟨g,1,none⟩=some (.int .i64 at_):=blk_cell h.blk 1
  have k4:W.cell? ⟨g,4,none⟩=some (.slice A fs.length c):=blk_cell h.blk 4
  rw [hn] at k4 hfs
  have HN:=Lib.hid hn
  have x1:((n:Int)==100)=false:=by rw [beq_eq_false_iff_ne];omega
  have x2:(0:Int)≤(at_:Int):=by omega
  have x3:(at_:Int)<(l.length:Int):=by omega
  have e0:=al k0
  have e1:=al k1
  have e2:=al t0
  have e3:=al t1
  have e4:=al t2
  have e5:=al t3
  have e6:=al t4
  clear hT hn h hC
  go_enter Tryz.func104,Tryz.ntmps104
  go_wp2_with fail
  go_region
  go_wp2_with fail
  go_name_world W2 hW2
  have HT2:Hid (W2.heap[W.heap.size]? =some (.cells #[.int .i64 T.f0,.int .i64 T.f1,.string T.f2,.int .i64 T.f3,.int .i64 T.f4] 39 (0,0))):=Lib.hid (hW2▸blk_drew (blk_new W _))
  have H2:Hid (Rd w g (some ad) c0 l A1 c1 ws o at_ tv top (.slice A fs.length c) fs W2):=Lib.hid (hW2▸H0.out.below (below_drew (below_alloc (Below.refl _ _) _)))
  have hb2:Below W.heap.size W W2:=hW2▸below_drew (below_alloc (Below.refl _ _) _)
  have HZZ:Hid (∀k,Z k→k<W2.heap.size∧o k=0∧k≠g∧ ∀f∈fs,k≠f.blk):=Lib.hid (fun k hk=>⟨Nat.lt_of_lt_of_le (hZ k hk).1 hb2.size,(hZ k hk).2⟩)
  have HZK:Hid (∀k,Z k→W2.heap[k]? =W.heap[k]?):=Lib.hid (fun k hk=>hb2.block k (hZ k hk).1)
  clear hb2 hZ
  clear hW2 e0 e1 e2 e3 e4 e5 e6 k0 k1 k4 t0 t1 t2 t3 t4 H0
  have hown0:W2.ownsRow w.heap.size 107 2 (.slice A n c) n (stCells fs):=by
    have:=H2.out.stk
    rw [HN.out] at this
    exact this
  have k1:W2.cell? ⟨g,1,none⟩=some (.int .i64 at_):=blk_cell H2.out.blk 1
  have k4:W2.cell? ⟨g,4,none⟩=some (.slice A n c):=by
    have:=blk_cell H2.out.blk 4
    rw [HN.out] at this
    exact this
  obtain ⟨v,hv⟩: ∃v,W.heap.size=v:=⟨_,rfl⟩
  rw [hv] at HT2⊢
  have HVV:=Lib.hid hv
  clear hv
  have t0:W2.cell? ⟨v,0,none⟩=some (.int .i64 T.f0):=blk_cell HT2.out 0
  have t1:W2.cell? ⟨v,1,none⟩=some (.int .i64 T.f1):=blk_cell HT2.out 1
  have t2:W2.cell? ⟨v,2,none⟩=some (.string T.f2):=blk_cell HT2.out 2
  have t3:W2.cell? ⟨v,3,none⟩=some (.int .i64 T.f3):=blk_cell HT2.out 3
  have t4:W2.cell? ⟨v,4,none⟩=some (.int .i64 T.f4):=blk_cell HT2.out 4
  have hsz:=H2.out.bel.size
  have hgl:g<W2.heap.size:=blk_lt H2.out.blk
  obtain ⟨X,hX⟩: ∃X,((W2.alloc (.cells (frCells T (.slice none 0 0)) 49 (0,0))).alloc (.cells #[.pointer (some ⟨W2.heap.size,0,none⟩),.int .i64 at_] 107 (0,0))).drew=X:=⟨_,rfl⟩
  have hXO:X.ownsRow w.heap.size 107 2 (.slice A n c) n (stCells fs):=hX▸own_drew ((hown0.alloc _).alloc _)
  have hXB:X.heap[W2.heap.size+1]? =some (.cells #[.pointer (some ⟨W2.heap.size,0,none⟩),.int .i64 at_] 107 (0,0)):=by
    rw [←hX]
    have:=blk_new (W2.alloc (.cells (frCells T (.slice none 0 0)) 49 (0,0))) (.cells #[.pointer (some ⟨W2.heap.size,0,none⟩),.int .i64 at_] 107 (0,0))
    rw [World.size_alloc] at this
    exact blk_drew this
  have hXs:X.heap.size=W2.heap.size+2:=by rw [←hX];simp
  obtain ⟨g9,cap,w1,happ,hown1,hgrow,hat9,hlt9⟩:=run_append_lies (P:=Tryz.prog) X 69 69 w.heap.size 107 i0 (.agg #[.pointer none,.int .i64 0]) 2 16 Tryz.underlying69 HI0.out HZ0.out HZ1.out HZ2.out rfl (by decide) (.slice A n c) n (stCells fs) hXO ⟨W2.heap.size+1,0,none⟩ 1 1 [.pointer (some ⟨W2.heap.size,0,none⟩),.int .i64 at_] rfl (World.news_of_block hXB) (by simp [Value.oneCell']) (by decide) (by simp only [maxLen];omega) (by omega) (by omega) (W2.heap.size+2) hXs
  replace happ:(appSem #[69,69] 69 #[.slice A n c,.slice (some ⟨W2.heap.size+1,0,none⟩) 1 1]).run Tryz.prog X=_:=happ
  have hgn:some g≠(Value.slice A n c).ownBlock:=fun e=>by
    have hso:=H2.out.so
    rw [HN.out] at hso
    have:=hso g e.symm
    rw [H2.out.og] at this
    exact absurd this (by decide)
  have hb1:w1.heap[g]? =some (.cells #[.slice (some ad) l.length c0,.int .i64 at_,.slice A1 ws.length c1,tv,.slice A fs.length c] 71 (0,0)):=blk_grown (hX▸blk_drew (blk_alloc (blk_alloc H2.out.blk _) _)) hgrow hgn
  have y4:w1.cell? ⟨g,4,none⟩=some (.slice A fs.length c):=blk_cell hb1 4
  have z4:w1.frozen? ⟨g,4,none⟩=false:=blk_frozen hb1 4
  have HB1:=Lib.hid hb1
  have HOWN:=Lib.hid hown1
  have HGROW:=Lib.hid hgrow
  have HAT:=Lib.hid hat9
  have HX:=Lib.hid hX
  rw [←hX] at happ
  clear hown1 hgrow hat9 HI0 HZ0 HZ1 HZ2 hX hb1 hXO hXB hXs hown0 hgn
  have e1:=al k1
  have e4:=al k4
  have f1:=fun o1 o2=>al (e1 o1) o2
  have f4:=fun o1 o2=>al (e4 o1) o2
  have f0:=al t0
  have h1:=al t1
  have h2:=al t2
  have h3:=al t3
  have h4:=al t4
  simp only [frCells] at happ
  go_region
  all_goals go_wp2
  all_goals go_end0
  all_goals refine ⟨rfl, ?_⟩
  have hgr:((W2.alloc (.cells (frCells T (.slice none 0 0)) 49 (0,0))).alloc (.cells #[.pointer (some ⟨W2.heap.size,0,none⟩),.int .i64 at_] 107 (0,0))).drew.grownBy w1 (Value.slice A fs.length c).ownBlock:=by
    rw [HX.out,HN.out]
    exact HGROW.out
  have hp:=Rd.push H2.out (T:=T) hgr (by rw [HN.out];exact HOWN.out) (by rw [HN.out];exact HAT.out) (Z:=Z) HZZ.out
  rw [HN.out] at hp
  rw [HT.out]
  exact ⟨hp.1,fun k hk=>(hp.2 k hk).trans (HZK.out k hk)⟩
end
end Go.Proofs.YtipnlgmeonepfaaGreatDoor.PFa
