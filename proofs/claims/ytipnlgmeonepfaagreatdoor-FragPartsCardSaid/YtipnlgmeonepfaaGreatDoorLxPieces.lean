/- Pieces: a loop over the iterator that appends; the deferred closure takes up what is thrown. -/
import Derived.Test.YtipnlgmeonepfaaGreatDoorLxCatch
import Derived.Test.YtipnlgmeonepfaaGreatDoorLxTable
import Derived.Maps.AppendAt
import Derived.RangeFuncBox
set_option linter.unusedVariables false
set_option linter.unusedSimpArgs false
namespace Go.Proofs.YtipnlgmeonepfaaGreatDoor.Lx
open Go.RowKit Go.Proofs.YtipnlgmeonepfaaGreatDoorW.PrintWords
attribute [local go_sem] Oper.semAt_some

def cellsOf (l:List Piece):List Value:=l.flatMap (fun p=>[.int .i64 p.kind,.int .i64 p.at_,.int .i64 p.len])
theorem cellsOf_snoc (l:List Piece) (p:Piece):cellsOf (l++[p])=cellsOf l++[.int .i64 p.kind,.int .i64 p.at_,.int .i64 p.len]:=by simp [cellsOf]

set_option maxHeartbeats 800000 in
theorem seq_walk (b:Nat) (w:World):
  Calls Tryz.prog 160 #[.pointer (some ⟨b,0,none⟩)] w fun e w'=>e=.returned (.func (.func 168) #[] #[.pointer (some ⟨w.heap.size,0,none⟩)])∧w'=w.alloc (.cells #[.pointer (some ⟨b,0,none⟩)] 188):=by
 go_enter Tryz.func160,Tryz.ntmps160
 go_wp2
 go_ret
 exact ⟨rfl,rfl⟩

theorem Kp.grown {S:Nat→Prop} {w W W2:World} {row:Option Nat} (h:Kp S w W) (hg:W.grownBy W2 row) (hr: ∀k,row=some k→S k):Kp S w W2:=
 h.trans ⟨hg.os,hg.tape,hg.output,hg.size,fun k hk hn=>hg.block k hk (fun e=>by
  exact hn (hr k e.symm))⟩
theorem Kp.own {S:Nat→Prop} {w W:World} {base e size n:Nat} {v:Value} {xs:List Value} (h:Kp S w W) (ho:w.ownsRow base e size v n xs) (hs: ∀k,base≤k→ ¬S k):W.ownsRow base e size v n xs:=
 own_move ho (fun k hk=>h.block k (own_lt ho k hk) (hs k (own_base ho k hk)))

/-- What lies in memory between two rounds: the result's three variables, the loop's record and its block. -/
structure LoopInv (n cb:Nat) (pre:List Piece) (W:World):Prop where
 row: ∃v,W.heap[n]? =some (.cells #[v] 124 (0,0))∧W.ownsRow (cb+5) 129 3 v pre.length (cellsOf pre)
 at0:W.heap[n+1]? =some (.cells #[.int .i64 0] 3 (0,0))
 er0:W.heap[n+2]? =some (.cells #[.int .i64 0] 26 (0,0))
 blk:W.heap[cb+2]? =some (.deferred (some []))
theorem LoopInv.kp {n cb:Nat} {pre:List Piece} {W W':World} {S:Nat→Prop} (h:LoopInv n cb pre W) (hk:Kp S W W') (h0: ¬S n) (h1: ¬S (n+1)) (h2: ¬S (n+2)) (h4: ¬S (cb+2)) (h5: ∀k,cb+5≤k→ ¬S k):LoopInv n cb pre W':=by
 obtain ⟨v,hv,ho⟩:=h.row
 exact ⟨⟨v,hk.blk hv h0,hk.own ho h5⟩,hk.blk h.at0 h1,hk.blk h.er0 h2,hk.blk h.blk h4⟩

theorem invoke_closure {P:Program} {gf:Nat} {lb:Array Value} (eg: ∀args w,(callFunc gf args).run P w=.ok (.enter gf args) w) (w:World):
  (invoke (.fn (.func gf) lb) #[]).run P w=.ok (.enter gf (#[]++lb)) w:=by simp [invoke,go_sem,eg]
theorem cells_new (w:World) (cs:List Value) (t:TypeId): ∀j u,cs[j]? =some u→(w.alloc (.cells cs.toArray t)).cell? ((⟨w.heap.size,0,none⟩:Addr).add j)=some u:=by
 intro j u hj
 rw [add_plain]
 exact (blk_cell (blk_new w _) j).trans (by simpa using hj)
theorem resolve_range {P:Program} {a:Act} {g:Operand} {l gf:Nat} {lb:Array Value} (hg:a.eval g=.func (.func gf) #[] lb) (w:World):
  (resolve a.eval (rangeCall g l) 0).run P w=.ok {target:=.fn (.func gf) lb,args:= #[.func (.yield l) #[] #[]]} w:=by
 simp only [resolve,hg]
 simp [go_sem]
theorem invoke_range {P:Program} {gf:Nat} {lb:Array Value} {y:Value} (eg: ∀args w,(callFunc gf args).run P w=.ok (.enter gf args) w) (w:World):
  (invoke (.fn (.func gf) lb) #[y]).run P w=.ok (.enter gf (#[y]++lb)) w:=by simp [invoke,go_sem,eg]

theorem info_piece:(Tryz.prog.info? 129).map (fun i=>(i.zero,i.size,i.bytes))=some (some (.agg #[.int .i64 0,.int .i64 0,.int .i64 0]),3,24):=by kernel_rfl

set_option maxHeartbeats 1600000 in
/-- The loop over the iterator, out of one round's walk. -/
theorem range_pieces {text:ByteArray} (hs:text.size≤20000) {w w2:World} (HE:Env w) {cb tb:Nat} {g:Operand} {assign body:Code} {Q:Exit→Act→World→Prop} {a:Act}
  (hg:a.eval g=.func (.func 168) #[] #[.pointer (some ⟨cb+1,0,none⟩)]) (hsz:w2.heap.size=cb+2) (htb:w.heap.size+2<tb∧tb<cb)
  (B2:Below w.heap.size w w2) (C2:CutB w2 cb tb text 0 0 0 0) (P2:w2.cell? ⟨cb+1,0,none⟩=some (.pointer (some ⟨cb,0,none⟩)))
  (r0:w2.heap[w.heap.size]? =some (Obj.cells #[.slice none 0 0] 124 (0,0))) (r1:w2.heap[w.heap.size+1]? =some (Obj.cells #[.int .i64 0] 3 (0,0))) (r2:w2.heap[w.heap.size+2]? =some (Obj.cells #[.int .i64 0] 26 (0,0)))
  (hround: ∀(pre:List Piece) (x:Piece) (Y:World),pre.length<20000→assign.wpIn (Fence.wide.inRound (cb+3)) 1 Tryz.prog (Exit.then (fun a1 w1=>
    w1=Y.alloc (Obj.cells #[.int .i64 x.kind,.int .i64 x.at_,.int .i64 x.len] 129 (0,0))∧ ∀(Z:World) (v:Value),Z.heap[w.heap.size]? =some (.cells #[v] 124 (0,0))→Z.ownsRow (cb+5) 129 3 v pre.length (cellsOf pre)→
     Z.heap[Y.heap.size]? =some (.cells #[.int .i64 x.kind,.int .i64 x.at_,.int .i64 x.len] 129 (0,0))→cb+5≤Z.heap.size→w.heap.size+3≤cb→
     body.wpIn (Fence.wide.inRound (cb+3)) 1 Tryz.prog (fun e _ W3=>e=.normal∧ ∃v',W3.heap[w.heap.size]? =some (.cells #[v'] 124 (0,0))∧W3.ownsRow (cb+5) 129 3 v' (pre.length+1) (cellsOf (pre++[x]))∧Kp (fun k=>k=w.heap.size∨v.ownBlock=some k) Z W3) a1 Z) (fun _ _ _=>False))
   {tmps:=(#[16].zip #[pieceV x]).foldl (fun tmps (t,a)=>tmps.setIfInBounds t a) a.tmps,defers:=[]} Y)
  (hdone: ∀xs W,piecesGo text.size text.data.toList 0 0 false=.ok xs→LoopInv w.heap.size cb xs W→Below w.heap.size w W→Q .normal {a with defers:={target:=.collected w2.heap.size,args:= #[]}::a.defers} W)
  (hpanic: ∀er pre W,piecesGo text.size text.data.toList 0 0 false=.error er→LoopInv w.heap.size cb pre W→Below w.heap.size w W→Q (.panic [{v:=wrongV er.1 er.2,recovered:=false}]) {a with defers:={target:=.collected w2.heap.size,args:= #[]}::a.defers} W):
  (Code.rangeFunc g #[16] assign body).wpIn Fence.wide 3 Tryz.prog Q a w2:=by
 refine wpIn_rangeFunc ?_
 intro fn hfn
 obtain ⟨rec,hrec⟩: ∃rec:LoopState→Option Code→Loop,rec=fun st pe=>{state:=st,pending:=pe,fn,tmps:=a.tmps,params:= #[16],assign,body,defers:=w2.heap.size}:=⟨_,rfl⟩
 obtain ⟨W1,hW1⟩: ∃W1,(w2.alloc (.deferred (some []))).alloc (.loop (rec .ready none))=W1:=⟨_,rfl⟩
 have hL1:W1.heap[cb+3]? =some (.loop (rec .ready none)):=by
  rw [←hW1];have:=World.alloc_heap_new (w2.alloc (.deferred (some []))) (.loop (rec .ready none));rwa [World.size_alloc,hsz] at this
 have hK1:W1.heap[cb+2]? =some (.deferred (some [])):=by
  rw [←hW1,←hsz];exact (Below.heap_alloc _ _ _ (by simp)).trans (World.alloc_heap_new w2 _)
 have hb1:Below w2.heap.size w2 W1:=by rw [←hW1];repeat (first|(with_reducible exact Below.refl _ _)|(with_reducible apply below_alloc))
 have hs1:W1.heap.size=cb+4:=by rw [←hW1];simp [hsz]
 have hI1:LoopInv w.heap.size cb [] W1:=⟨⟨_,blk_below r0 hb1,World.ownsRow_nil _ _ _ _⟩,blk_below r1 hb1,blk_below r2 hb1,hK1⟩
 refine ⟨w2.heap.size+1,[{target:=.collected w2.heap.size,args:= #[]}],W1,_,W1,_,_,W1, ?_,resolve_range hg _,fun _ _=>trivial,invoke_range (enters_of Tryz.func168 (by kernel_rfl) rfl) _,fun _=>by omega, ?_⟩
 ·rw [←hW1,hrec];exact run_enterLoop_outer _ _ _ _ _
 rw [show w2.heap.size+1=cb+3 from by omega]
 refine (iter_walk hs HE (r:=cb+2) (g:=cb+4) (cb:=cb) (tb:=tb) (pb:=cb+1) (l:=cb+3) (m:=1) (by omega) (by omega) (fun pre W=>LoopInv w.heap.size cb pre W∧W.heap[cb+3]? =some (.loop (rec .ready none))) ?_ ?_ (by omega) (by omega) (by omega) hs1 (by omega) (B2.trans (hb1.mono (by omega))) ⟨hI1,hL1⟩ (pw_cell_below hb1 P2) (C2.below hb1)).mono ?_
 ·rintro pre W W' ⟨hi,hl⟩ hk
  exact ⟨hi.kp hk (by show¬w.heap.size=cb;omega) (by show¬w.heap.size+1=cb;omega) (by show¬w.heap.size+2=cb;omega) (by show¬cb+2=cb;omega) (fun k h=>by show¬k=cb;omega),hk.blk hl (by show¬cb+3=cb;omega)⟩
 ·rintro pre x W0 Y ⟨hi,hl⟩ hk hB hgW hlen
  obtain ⟨v,hv,ho⟩:=hi.row
  have hsY:W0.heap.size≤Y.heap.size:=hk.size
  have hvY:=hk.blk hv (by show¬w.heap.size=cb;omega)
  have hoY:=hk.own ho (fun k h=>by show¬k=cb;omega)
  have hlY:=hk.blk hl (by show¬cb+3=cb;omega)
  have h1Y:=hk.blk hi.at0 (by show¬w.heap.size+1=cb;omega)
  have h2Y:=hk.blk hi.er0 (by show¬w.heap.size+2=cb;omega)
  have hkY:=hk.blk hi.blk (by show¬cb+2=cb;omega)
  have hy:=run_yield (P:=Tryz.prog) (args:= #[pieceV x]) hlY (by rw [hrec];rfl)
  rw [hrec] at hy
  refine ⟨fn,_,assign,body,hy,roundIn_of_wpIn hfn (wpIn_mono (hround pre x Y (by omega)) ?_)⟩
  rintro e a1 w1 h
  cases e with
  |normal=>
   obtain ⟨rfl,hb⟩:=h
   refine ⟨_,run_beginRound (blk_alloc hlY _) (by rw [hrec]), ?_⟩
   obtain ⟨PB,hPB⟩: ∃PB,Obj.cells #[.int .i64 x.kind,.int .i64 x.at_,.int .i64 x.len] 129 (0,0)=PB:=⟨_,rfl⟩
   rw [hPB] at hb⊢
   have KZ:Kp (fun k=>k=cb+3) Y ((Y.alloc PB).putObj (cb+3) (.loop {rec .ready none with state:=.busy})):=Kp.putObj (S:=fun k=>k=cb+3) (Kp.alloc (Kp.refl _ _) _) (.inl rfl) _
   have hZp:((Y.alloc PB).putObj (cb+3) (.loop {rec .ready none with state:=.busy})).heap[Y.heap.size]? =some PB:=(World.putObj_heap_other (by omega)).trans (blk_new Y PB)
   have hZl:((Y.alloc PB).putObj (cb+3) (.loop {rec .ready none with state:=.busy})).heap[cb+3]? =some (.loop {rec .ready none with state:=.busy}):=World.putObj_heap_same (by simp;omega)
   have hZs:cb+5≤((Y.alloc PB).putObj (cb+3) (.loop {rec .ready none with state:=.busy})).heap.size:=by simp;omega
   obtain ⟨Z,hZ⟩: ∃Z,(Y.alloc PB).putObj (cb+3) (.loop {rec .ready none with state:=.busy})=Z:=⟨_,rfl⟩
   rw [hZ] at KZ hZp hZl hZs⊢
   refine wpIn_mono (hb Z v (KZ.blk hvY (by show¬w.heap.size=cb+3;omega)) (KZ.own hoY (fun k h=>by show¬k=cb+3;omega)) hZp hZs (by omega)) ?_
   rintro e a3 W3 ⟨rfl,v',g1,g2,KW⟩
   have hown: ∀k,v.ownBlock=some k→cb+5≤k:=fun k h=>own_base ho k h
   have hownlt: ∀k,v.ownBlock=some k→k<W0.heap.size:=fun k h=>own_lt ho k h
   have nn: ∀k,k≠w.heap.size→k<cb+5→ ¬(k=w.heap.size∨v.ownBlock=some k):=fun k h1 h2 h=>by
    rcases h with h|h
    ·exact h1 h
    ·have:=hown k h;omega
   have K4:Kp (fun k=>k=cb+3) W3 (W3.putObj (cb+3) (.loop {rec .ready none with state:=.ready,pending:=none})):=Kp.putObj (S:=fun k=>k=cb+3) (Kp.refl _ _) (.inl rfl) _
   have hl3:=KW.blk hZl (nn _ (by omega) (by omega))
   have hend:=run_endRound (P:=Tryz.prog) none hl3
   have hrr:({rec .ready none with state:=.ready,pending:=none}:Loop)=rec .ready none:=by rw [hrec]
   refine ⟨_,_,hend,rfl,⟨⟨⟨v',K4.blk g1 (by show¬w.heap.size=cb+3;omega), ?_⟩, ?_, ?_, ?_⟩, ?_⟩, ?_⟩
   ·rw [List.length_append,List.length_singleton]
    exact K4.own g2 (fun k h=>by show¬k=cb+3;omega)
   ·exact K4.blk (KW.blk (KZ.blk h1Y (by show¬w.heap.size+1=cb+3;omega)) (nn _ (by omega) (by omega))) (by show¬w.heap.size+1=cb+3;omega)
   ·exact K4.blk (KW.blk (KZ.blk h2Y (by show¬w.heap.size+2=cb+3;omega)) (nn _ (by omega) (by omega))) (by show¬w.heap.size+2=cb+3;omega)
   ·exact K4.blk (KW.blk (KZ.blk hkY (by show¬cb+2=cb+3;omega)) (nn _ (by omega) (by omega))) (by show¬cb+2=cb+3;omega)
   ·rw [←hrr]
    exact World.putObj_heap_same (blk_lt hl3)
   ·refine ((KZ.mono ?_).trans (KW.mono ?_)).trans (K4.mono ?_)
    ·rintro k _ rfl;exact .inr (.inl rfl)
    ·rintro k _ (rfl|h)
     ·exact .inl rfl
     ·exact .inr (.inr ⟨by have:=hown k h;omega,hownlt k h⟩)
    ·rintro k _ rfl;exact .inr (.inl rfl)
  |_=>exact h.elim
 ·rintro e W3 ⟨hend,hB3⟩
  cases hres:piecesGo text.size text.data.toList 0 0 false with
  |ok xs=>
   rw [hres] at hend
   obtain ⟨rfl,hi,hl⟩:=hend
   have hs3:=blk_lt hl
   have K4: ∀o:Obj,Kp (fun k=>k=cb+3) W3 (W3.putObj (cb+3) o):=fun o=>Kp.putObj (S:=fun k=>k=cb+3) (Kp.refl _ _) (.inl rfl) _
   have h:=run_endLoop (P:=Tryz.prog) hl (by rw [hrec];simp)
   rw [show (rec .ready none).pending=none from by rw [hrec]] at h
   exact ⟨none,_,h,hdone xs _ hres (hi.kp (K4 _) (by show¬w.heap.size=cb+3;omega) (by show¬w.heap.size+1=cb+3;omega) (by show¬w.heap.size+2=cb+3;omega) (by show¬cb+2=cb+3;omega) (fun k h=>by show¬k=cb+3;omega)) (Kp.below hB3 (K4 _) (by rintro k rfl;omega) hB3.size)⟩
  |error er=>
   rw [hres] at hend
   obtain ⟨rfl,pre,hi,hl⟩:=hend
   exact hpanic er pre W3 hres hi hB3

/-- What Pieces hands back: the pieces, where it is wrong, and how. -/
def Out (r:Except (Nat×Int) (List Piece)) (base:Nat) (e:Ending) (W:World):Prop:=
 match r with
 | .ok l=> ∃v,e=.returned (.tuple #[v,.int .i64 0,.int .i64 0])∧W.ownsRow base 129 3 v l.length (cellsOf l)
 | .error er=>e=.returned (.tuple #[.slice none 0 0,.int .i64 er.1,.int .i64 er.2])

set_option maxHeartbeats 12800000 in
set_option maxRecDepth 100000 in
theorem pieces_walk (text:ByteArray) {w:World} (hE:Env w):
  Calls Tryz.prog 143 #[.string text] w fun e w'=>Out (pieces text.data.toList) w.heap.size e w'∧Below w.heap.size w w':=by
 obtain ⟨Res,hRes⟩: ∃R,pieces text.data.toList=R:=⟨_,rfl⟩
 have HR:=Lib.hid hRes
 have HE:=Lib.hid hE
 rw [hRes]
 clear hRes hE
 refine (callsIn_wide (n:=3)).1 ?_
 refine callsIn_of_wp_marks Tryz.func143 rfl trivial ?_ rfl
 simp only [Tryz.ntmps143,List.size_toArray,List.length_cons,List.length_nil,Nat.reduceAdd,Nat.reduceSub,Array.replicate_succ,Array.replicate_zero,List.push_toArray,List.append_toArray,List.nil_append,List.cons_append]
 by_cases hbig:20000<text.size
 ·have hd:decide ((20000:Int)<text.size)=true:=decide_eq_true (by omega)
  have HRE:Hid (Res=.error (0,2)):=Lib.hid (by rw [←HR.out];unfold pieces;rw [if_pos (by rw [data_length];exact hbig)])
  gi_wp2_with fail
  refine (show LeavesInM _ _ _ _ _ _ _ _ _ from ?_)
  refine ⟨.tuple #[.slice none 0 0,.int .i64 0,.int .i64 2],by simp [results,Tryz.results143,go_sem], ?_,by repeat (first|(with_reducible exact Below.refl _ _)|(with_reducible apply below_alloc))⟩
  rw [HRE.out]
  rfl
 ·have hd:decide ((20000:Int)<text.size)=false:=decide_eq_false (by omega)
  gi_wp2_with fail
  refine ⟨trivial,(callsIn_wide.2 (table_walk _)).mono ?_⟩
  rintro e w1 ⟨rfl,hT1,hb1⟩
  have hs1:=hb1.size
  simp only [World.size_alloc] at hT1 hb1 hs1⊢
  gi_wp2_with fail
  refine ⟨trivial,(callsIn_wide.2 (seq_walk _ _)).mono ?_⟩
  rintro e w2 ⟨rfl,hw2⟩
  have htb:w.heap.size+1+1+1<w1.heap.size:=World.block_lt_of_cell? w1 ⟨_,0,none⟩ (hT1 0 0 (by omega) (by omega))
  have hs2:w2.heap.size=w1.heap.size+2:=by rw [hw2];simp
  obtain ⟨cb,hcb⟩: ∃cb,w1.heap.size=cb:=⟨_,rfl⟩
  rw [hcb] at hs2 htb
  have B1:Below w.heap.size w w1:=(by repeat (first|(with_reducible exact Below.refl _ _)|(with_reducible apply below_alloc)):Below w.heap.size w _).trans (hb1.mono (by omega))
  have hb2:Below w1.heap.size w1 w2:=by rw [hw2];repeat (first|(with_reducible exact Below.refl _ _)|(with_reducible apply below_alloc))
  have B2:=Lib.hid (B1.trans (hb2.mono B1.size))
  have C2:Hid (CutB w2 cb (w.heap.size+1+1+1) text 0 0 0 0):=Lib.hid ⟨by rw [hw2,←hcb];exact blk_alloc (blk_new w1 _) _,hT1.below hb2⟩
  have P2:Hid (w2.cell? ⟨cb+1,0,none⟩=some (.pointer (some ⟨cb,0,none⟩))):=Lib.hid (by rw [hw2,←hcb];exact blk_cell (by have h:=blk_new (w1.alloc (Obj.cells #[.string text,.int .i64 0,.pointer (some ⟨w.heap.size+1+1+1,0,none⟩),.int .i64 0,.int .i64 0,.int .i64 0] 194 (0,0))) (Obj.cells #[.pointer (some ⟨w1.heap.size,0,none⟩)] 188 (0,0));rwa [World.size_alloc] at h) 0)
  have r0:Hid (w2.heap[w.heap.size]? =some (Obj.cells #[.slice none 0 0] 124 (0,0))):=Lib.hid (blk_below (w:=w1) (blk_below (blk_alloc (blk_alloc (blk_new w _) _) _) (by simpa using hb1)) hb2)
  have r1:Hid (w2.heap[w.heap.size+1]? =some (Obj.cells #[.int .i64 0] 3 (0,0))):=Lib.hid (blk_below (w:=w1) (blk_below (blk_alloc (by have h:=blk_new (w.alloc (Obj.cells #[.slice none 0 0] 124 (0,0))) (Obj.cells #[.int .i64 0] 3 (0,0));rwa [World.size_alloc] at h) _) (by simpa using hb1)) hb2)
  have r2:Hid (w2.heap[w.heap.size+2]? =some (Obj.cells #[.int .i64 0] 26 (0,0))):=Lib.hid (blk_below (w:=w1) (blk_below (by have h:=blk_new ((w.alloc (Obj.cells #[.slice none 0 0] 124 (0,0))).alloc (Obj.cells #[.int .i64 0] 3 (0,0))) (Obj.cells #[.int .i64 0] 26 (0,0));rwa [World.size_alloc,World.size_alloc] at h) (by simpa using hb1)) hb2)
  rw [hcb]
  clear hb1 hb2 hT1 hw2 B1
  gi_wp2_with fail
  refine range_pieces (by omega) HE.out (cb:=cb) (tb:=w.heap.size+1+1+1) rfl hs2 (by omega) B2.out C2.out P2.out r0.out r1.out r2.out ?round ?done ?panic
  case round=>
   intro pre x Y hlen
   dsimp only [pieceV]
   gi_wp2_with fail
   refine ⟨trivial, ?_⟩
   intro Z v hv ho hp hz hcb3
   have k0:Z.cell? ⟨w.heap.size,0,none⟩=some v:=blk_cell hv 0
   have p0:Z.cell? ⟨Y.heap.size,0,none⟩=some (.int .i64 x.kind):=blk_cell hp 0
   have p1:Z.cell? ⟨Y.heap.size,1,none⟩=some (.int .i64 x.at_):=blk_cell hp 1
   have p2:Z.cell? ⟨Y.heap.size,2,none⟩=some (.int .i64 x.len):=blk_cell hp 2
   have HV:=Lib.hid hv
   have HO:=Lib.hid ho
   clear hv ho hp
   have hu40:=Tryz.underlying129
   obtain ⟨i0,hi0,hz0,hz1,hz2⟩:=info_parts info_piece
   gi_wp2_with (gi_at_builtin;refine wpListIn_append_own _ rfl _ _ 124 rfl (cb+5) 129 i0 (.agg #[.int .i64 0,.int .i64 0,.int .i64 0]) 3 24 Tryz.underlying124 hi0 hz0 hz1 hz2 rfl (by decide) _ _ _ rfl (HO.out.alloc _) ⟨Z.heap.size,0,none⟩ 1 1 [.int .i64 x.kind,.int .i64 x.at_,.int .i64 x.len] rfl rfl (cells_new _ _ _) (by simp [Value.oneCell']) (by simp only [maxLen];omega) (by omega) (by simp;omega) ?_;intro v' W4 hown' hgrow _;obtain ⟨g',cap',rfl⟩:=ownsRow_succ hown';have k4:=blk_grown (blk_alloc HV.out _) hgrow (fun e=>by have:=own_base HO.out _ e.symm;omega);have k5:=blk_cell k4 0;have f5:=blk_frozen k4 0;have K4:=Lib.hid k4;have HG:=Lib.hid hgrow;have HW:=Lib.hid hown';clear k4 hgrow hown')
   refine ⟨_,blk_put K4.out 0 _ rfl, ?_, ?_⟩
   ·rw [cellsOf_snoc]
    exact own_move HW.out (fun k hk=>Below.heap_setCell _ _ _ k (by have:=own_base HW.out k hk;show k≠w.heap.size;omega))
   ·exact Kp.setCell (S:=fun k=>k=w.heap.size∨v.ownBlock=some k) (Kp.grown (Kp.alloc (Kp.refl _ _) _) HG.out (fun k h=> .inr h)) (.inl (.inl rfl)) _
  case done=>
   intro xs W hres hi hB
   obtain ⟨v,hv,ho⟩:=hi.row
   obtain ⟨A,nx,cx,rfl⟩: ∃A nx cx,v=.slice A nx cx:=by
    rcases ho.2 with ⟨rfl,_⟩|⟨g,cap,cur,rfl,_⟩
    ·exact ⟨_,_,_,rfl⟩
    ·exact ⟨_,_,_,rfl⟩
   have k0:W.cell? ⟨w.heap.size,0,none⟩=some (.slice A nx cx):=blk_cell hv 0
   have k1:W.cell? ⟨w.heap.size+1,0,none⟩=some (.int .i64 0):=blk_cell hi.at0 0
   have k2:W.cell? ⟨w.heap.size+1+1,0,none⟩=some (.int .i64 0):=blk_cell hi.er0 0
   have f0:W.frozen? ⟨w.heap.size,0,none⟩=false:=blk_frozen hv 0
   have f1:W.frozen? ⟨w.heap.size+1,0,none⟩=false:=blk_frozen hi.at0 0
   have f2:W.frozen? ⟨w.heap.size+1+1,0,none⟩=false:=blk_frozen hi.er0 0
   have HI:=Lib.hid hi
   have HV:=Lib.hid hv
   have HO:=Lib.hid ho
   have HB:=Lib.hid hB
   have HRE:Hid (Res=.ok xs):=Lib.hid (by rw [←HR.out];unfold pieces;rw [if_neg (by rw [data_length];exact hbig),data_length];exact hres)
   clear hi hv ho hB hres
   dsimp only
   gi_wp2_with fail
   obtain ⟨WD,hWD⟩: ∃WD,((W.setCell ⟨w.heap.size,0,none⟩ (.slice A nx cx)).setCell ⟨w.heap.size+1,0,none⟩ (.int .i64 0)).setCell ⟨w.heap.size+1+1,0,none⟩ (.int .i64 0)=WD:=⟨_,rfl⟩
   rw [hWD]
   have u0:WD.heap[w.heap.size]? =some (.cells #[.slice A nx cx] 124 (0,0)):=hWD▸blk_far (blk_far (blk_put HV.out 0 _ rfl) (by simp) _) (by simp;omega) _
   have u1:WD.heap[w.heap.size+1]? =some (.cells #[.int .i64 0] 3 (0,0)):=hWD▸blk_far (blk_put (blk_far HI.out.at0 (by simp) _) 0 _ rfl) (by simp) _
   have u2:WD.heap[w.heap.size+2]? =some (.cells #[.int .i64 0] 26 (0,0)):=hWD▸blk_put (blk_far (blk_far HI.out.er0 (by simp) _) (by simp) _) 0 _ rfl
   have KD:Kp (fun k=>k=w.heap.size∨k=w.heap.size+1∨k=w.heap.size+2) W WD:=hWD▸Kp.setCell (Kp.setCell (Kp.setCell (S:=fun k=>k=w.heap.size∨k=w.heap.size+1∨k=w.heap.size+2) (Kp.refl _ _) (.inl (.inl rfl)) _) (.inl (.inr (.inl rfl))) _) (.inl (.inr (.inr rfl))) _
   have u3:=KD.blk HI.out.blk (by show¬(cb+2=w.heap.size∨cb+2=w.heap.size+1∨cb+2=w.heap.size+2);omega)
   have uo:=KD.own HO.out (fun k h=>by show¬(k=w.heap.size∨k=w.heap.size+1∨k=w.heap.size+2);omega)
   have uB:=Kp.below HB.out KD (by rintro k (rfl|rfl|rfl)<;>omega) HB.out.size
   have K1:Kp (fun k=>k=cb+2) WD (WD.putObj (cb+2) (.deferred none)):=Kp.putObj (S:=fun k=>k=cb+2) (Kp.refl _ _) (.inl rfl) _
   have v0:=K1.blk u0 (by show¬w.heap.size=cb+2;omega)
   have v1:=K1.blk u1 (by show¬w.heap.size+1=cb+2;omega)
   have v2:=K1.blk u2 (by show¬w.heap.size+2=cb+2;omega)
   have vo:=K1.own uo (fun k h=>by show¬k=cb+2;omega)
   have vB:=Kp.below uB K1 (by rintro k rfl;omega) uB.size
   refine (show LeavesInM _ _ _ _ _ _ _ _ _ from ?_)
   refine ⟨by simp,.inl ⟨_,_,rfl,run_takeDeferred (by rw [hs2];exact u3), ?_⟩⟩
   rw [hs2]
   refine ⟨by simp,.inr ⟨fun _=>by omega,_,_,_,_,rfl,invoke_closure (enters_of Tryz.func158 (by kernel_rfl) rfl) _,fun _ _=>trivial, ?_⟩⟩
   refine (catch_idle _ _ _ _ _).mono ?_
   rintro e u' w'' ⟨rfl,rfl,rfl⟩
   have e0:=blk_cell v0 0
   have e1:=blk_cell v1 0
   have e2:(WD.putObj (cb+2) (.deferred none)).cell? ⟨w.heap.size+1+1,0,none⟩=some (.int .i64 0):=blk_cell v2 0
   refine ⟨.tuple #[.slice A nx cx,.int .i64 0,.int .i64 0],by simp [results,Tryz.results143,go_sem,e0,e1,e2], ?_,vB⟩
   rw [HRE.out]
   exact ⟨_,rfl,own_weaken vo (by omega)⟩
  case panic=>
   intro er pre W hres hi hB
   obtain ⟨v,hv,ho⟩:=hi.row
   have HRE:Hid (Res=.error er):=Lib.hid (by rw [←HR.out];unfold pieces;rw [if_neg (by rw [data_length];exact hbig),data_length];exact hres)
   dsimp only
   gi_wp2_with fail
   refine (show LeavesInM _ _ _ _ _ _ _ _ _ from ?_)
   refine ⟨by simp,.inl ⟨_,_,rfl,run_takeDeferred (by rw [hs2];exact hi.blk), ?_⟩⟩
   rw [hs2]
   have K1:Kp (fun k=>k=cb+2) W (W.putObj (cb+2) (.deferred none)):=Kp.putObj (S:=fun k=>k=cb+2) (Kp.refl _ _) (.inl rfl) _
   have v0:=K1.blk hv (by show¬w.heap.size=cb+2;omega)
   have v1:=K1.blk hi.at0 (by show¬w.heap.size+1=cb+2;omega)
   have v2:=K1.blk hi.er0 (by show¬w.heap.size+2=cb+2;omega)
   refine ⟨by simp,.inr ⟨fun _=>by omega,_,_,_,_,rfl,invoke_closure (enters_of Tryz.func158 (by kernel_rfl) rfl) _,fun _ _=>trivial, ?_⟩⟩
   refine (catch_wrong _ w.heap.size (w.heap.size+1) (w.heap.size+2) er.1 er.2 _ (blk_cell v0 0) (blk_cell v1 0) (blk_cell v2 0) (blk_frozen v0 0) (blk_frozen v1 0) (blk_frozen v2 0) (blk_lt v0) (blk_lt v1) (blk_lt v2) (by omega) (by omega) (by omega)).mono ?_
   rintro e u' w'' ⟨rfl,rfl,c0,c1,c2,hk⟩
   refine ⟨.tuple #[.slice none 0 0,.int .i64 er.1,.int .i64 er.2],by simp [results,Tryz.results143,go_sem,c0,c1,c2], ?_,Kp.below (Kp.below hB K1 (by rintro k rfl;omega) hB.size) hk (by rintro k (rfl|rfl|rfl)<;>omega) (Kp.below hB K1 (by rintro k rfl;omega) hB.size).size⟩
   rw [HRE.out]
   rfl
end Go.Proofs.YtipnlgmeonepfaaGreatDoor.Lx
