/- The cutter's rules, and the longest match, return what their plain forms say. -/
import Derived.Test.YtipnlgmeonepfaaGreatDoorLxLongest
import Derived.Laws.EntriesVeiled
set_option linter.unusedVariables false
set_option linter.unusedSimpArgs false
namespace Go.Proofs.YtipnlgmeonepfaaGreatDoor.Lx
open Go.RowKit Go.Proofs.YtipnlgmeonepfaaGreatDoorW.PrintWords

/-- The rules' row in memory. -/
def ruleCells:Array Value:= #[.int .i64 1,.func (.func 175) #[] #[],.int .i64 2,.func (.func 176) #[] #[],.int .i64 3,.func (.func 177) #[] #[],
 .int .i64 4,.func (.func 178) #[] #[],.int .i64 5,.func (.func 179) #[] #[],.int .i64 6,.func (.func 180) #[] #[]]
def RL (w:World) (g:Nat):Prop:= ∀(j:Nat) (v:Value),ruleCells[j]? =some v→w.cell? ⟨g,j,none⟩=some v
theorem RL.below {w w':World} {g:Nat} (h:RL w g) (hb:Below w.heap.size w w'):RL w' g:=fun j v hj=>pw_cell_below hb (h j v hj)
set_option maxHeartbeats 1600000 in
theorem rules_walk (w:World):
  Calls Tryz.prog 169 #[] w fun e w'=>e=.returned (.slice (some ⟨w.heap.size,0,none⟩) 6 6)∧RL w' w.heap.size∧Below w.heap.size w w':=by
 go_enter Tryz.func169,Tryz.ntmps169
 go_wp2
 go_ret
 refine ⟨rfl, ?_,by repeat (first|exact below_alloc (Below.refl _ _) _|apply pw_below_drewN)⟩
 intro j v hj
 show (w.alloc (.cells ruleCells 212)).cell? ⟨w.heap.size,j,none⟩=some v
 unfold World.cell?
 rw [heap_alloc_new]
 exact hj

theorem window_list (text:ByteArray) (at_:Nat) (hl:at_≤text.size):(text.extract at_ (min text.size (at_+100))).data.toList=(text.data.toList.drop at_).take 100:=by
 rw [Lib.extract_data]
 by_cases h:at_+100≤text.size
 ·rw [show min text.size (at_+100)-at_=100 from by omega]
 ·rw [show min text.size (at_+100)=text.size from by omega,List.take_of_length_le (by rw [List.length_drop,data_length];omega),List.take_of_length_le (by rw [List.length_drop,data_length];omega)]

theorem drawnB {P:Program} {f:FuncId} {args:Array Value} {W:World} {v:Value} (h:Calls P f args W fun e w'=>e=.returned v∧Drawn0 W w'):Calls P f args W fun e w'=>e=.returned v∧Below W.heap.size W w':=
 h.mono fun _ _ h=>⟨h.1,h.2.below⟩
def six:List Nat:=[1,2,3,4,5,6]
set_option maxHeartbeats 12800000 in
theorem longest_walk {b tb:Nat} {text:ByteArray} {at_ lk la ll:Nat} {op:Bool} (hv:Hid (operand lk ((text.data.toList.drop la).take ll)=op)) (hs:text.size≤20000) (hll:la+ll≤text.size) (hl:at_≤text.size)
  {w:World} (hc:Cut w b tb text at_ lk la ll) {g:Nat} (hr:RL w g):
  Calls Tryz.prog 183 #[.pointer (some ⟨b,0,none⟩),.slice (some ⟨g,0,none⟩) 6 6] w
   fun e w'=>e=.returned (.tuple #[.int .i64 (longest op ((text.data.toList.drop at_).take 100)).1,.int .i64 (longest op ((text.data.toList.drop at_).take 100)).2])∧Below w.heap.size w w':=by
 have HC:=Lib.hid hc
 have HR:=Lib.hid hr
 clear hc hr
 obtain ⟨s,hsd⟩: ∃s,text.extract at_ (min text.size (at_+100))=s:=⟨_,rfl⟩
 have hsl:s.data.toList=(text.data.toList.drop at_).take 100:=by rw [←hsd];exact window_list text at_ hl
 have hss:s.size≤20000:=by rw [←data_length s,hsl,List.length_take];omega
 obtain ⟨L,hL⟩: ∃L,s.data.toList=L:=⟨_,rfl⟩
 rw [hL] at hsl
 have HAH:=Lib.hid (hsd▸ahead_walk hs hl HC.out)
 obtain ⟨p,hp⟩: ∃p,plain s.data.toList=p:=⟨_,rfl⟩
 have HP:=Lib.hid hp
 obtain ⟨t1,h1⟩: ∃t,name L=t:=⟨_,rfl⟩
 obtain ⟨t2,h2⟩: ∃t,integer op L=t:=⟨_,rfl⟩
 obtain ⟨t3,h3⟩: ∃t,keyword L=t:=⟨_,rfl⟩
 obtain ⟨t4,h4⟩: ∃t,hash L=t:=⟨_,rfl⟩
 obtain ⟨t5,h5⟩: ∃t,sign L=t:=⟨_,rfl⟩
 obtain ⟨t6,h6⟩: ∃t,pattern L=t:=⟨_,rfl⟩
 have H1:=Lib.hid (fun (W:World) (hb:Below w.heap.size w W)=>drawnB (name_walk b tb s hss W (HC.out.below hb).ct))
 have H2:=Lib.hid (fun (W:World) (hb:Below w.heap.size w W)=>drawnB (integer_walk hv hs hll (HC.out.below hb) s hss))
 have H3:=Lib.hid (fun (W:World) (hb:Below w.heap.size w W)=>drawnB (keyword_walk b tb s hss W (HC.out.below hb).ct))
 have H4:=Lib.hid (fun (W:World) (hb:Below w.heap.size w W)=>drawnB (hash_walk b s W))
 have H5:=Lib.hid (fun (W:World) (hb:Below w.heap.size w W)=>sign_walk b s hss W)
 have H6:=Lib.hid (fun (W:World) (hb:Below w.heap.size w W)=>drawnB (pattern_walk b tb s hss W (HC.out.below hb).ct))
 rw [hL,h1] at H1
 rw [hL,h2] at H2
 rw [hL,h3] at H3
 rw [hL,h4] at H4
 rw [hL,h5] at H5
 rw [hL,h6] at H6
 have hpl:plain L=p:=by rw [←hL];exact hp
 obtain ⟨nm,hnm⟩: ∃nm,decide (0<p)=nm:=⟨_,rfl⟩
 have hnmi:(decide ((p:Int)>0))=nm:=by rw [←hnm];simp
 have HT:Hid (∀(a:Nat×Nat) (j:Nat),turn op L a j=if (nm&&(j !=1&&j !=3))=true then a else if a.2<pick6 t1 t2 t3 t4 t5 t6 j then (j,pick6 t1 t2 t3 t4 t5 t6 j) else a):=Lib.hid (by
  intro a j
  unfold turn takes
  rw [hpl,hnm,h1,h2,h3,h4,h5,h6])
 have HLs:=Lib.hid hsl
 clear hsd hsl hL hp h1 h2 h3 h4 h5 h6 hpl hv
 go_enter Tryz.func183,Tryz.ntmps183
 go_wp2_with fail
 refine (HAH.out).mono ?_
 rintro e w' ⟨rfl,⟨m1,rfl⟩⟩
 go_wp2_with fail
 refine (plain_at HP hss (HC.out.ct.drewN _)).mono ?_
 rintro e w' ⟨rfl,⟨m2,rfl⟩⟩
 go_wp2_with fail
 go_loopw [4,5,9,10,21] (fun v4 v5 _ _ v21 wr=> ∃(k kk n:Nat),v4=.int .i64 kk∧v5=.int .i64 n∧v21=.int .i64 k∧k≤6∧Hid ((kk,n)=(six.take k).foldl (turn op L) (0,0))∧Hid (Below w.heap.size w wr)) (fun _ _ _ _ v21 _=>6-(intOf v21).toNat)
 case atStart=>exact ⟨0,0,0,rfl,rfl,rfl,by omega,Lib.hid rfl,Lib.hid (by repeat (first|exact Below.refl _ _|apply below_alloc|apply pw_below_drewN))⟩
 case round=>
  clear hnm hnmi
  obtain ⟨k,kk,n,rfl,rfl,rfl,hk,HF,HB⟩:=hrel
  have hcase:k=0∨k=1∨k=2∨k=3∨k=4∨k=5∨k=6:=by omega
  clear hk
  rcases hcase with rfl|rfl|rfl|rfl|rfl|rfl|rfl
  ·have hca:wr.cell? ⟨g,0,none⟩=some (.int .i64 1):=(HR.out.below HB.out) 0 _ rfl
   have hcb:wr.cell? ⟨g,1,none⟩=some (.func (.func 175) #[] #[]):=(HR.out.below HB.out) 1 _ rfl
   cases nm
   ·go_wp2_with fail
    refine (H1.out _ (by repeat (first|(with_reducible exact HB.out)|apply below_alloc|apply pw_below_drewN))).mono ?_
    rintro e w2 ⟨rfl,hb2⟩
    have hk0:w2.cell? ⟨wr.heap.size,0,none⟩=some (.int .i64 1):=(hb2.cell (p:=⟨wr.heap.size,0,none⟩) (by simp)).trans (by unfold World.cell?;rw [heap_alloc_new];rfl)
    have HB2:=Lib.hid (below_then (B:=w.heap.size) (by repeat (first|(with_reducible exact HB.out)|apply below_alloc|apply pw_below_drewN)) (by have:=HB.out.size;simp;omega) hb2)
    clear hb2
    by_cases hlt:n<t1
    ·have hli:(n:Int)<t1:=by omega
     go_wp2_with fail
     go_roundw
     case rel=>exact ⟨1,1,t1,rfl,rfl,rfl,by omega,Lib.hid (by have e:=HF.out;simp only [six,List.take_succ_cons,List.take_zero] at e⊢;simp only [List.foldl_cons,List.foldl_nil] at e⊢;rw [←e,HT.out];simp [pick6,hlt]),Lib.hid (by repeat (first|(with_reducible exact HB2.out)|apply below_alloc|apply pw_below_drewN))⟩
     case measure=>simp [intOf]
    ·have hli: ¬(n:Int)<t1:=by omega
     go_wp2_with fail
     go_roundw
     case rel=>exact ⟨1,kk,n,rfl,rfl,rfl,by omega,Lib.hid (by have e:=HF.out;simp only [six,List.take_succ_cons,List.take_zero] at e⊢;simp only [List.foldl_cons,List.foldl_nil] at e⊢;rw [←e,HT.out];simp [pick6,hlt]),Lib.hid (by repeat (first|(with_reducible exact HB2.out)|apply below_alloc|apply pw_below_drewN))⟩
     case measure=>simp [intOf]
   ·go_wp2_with fail
    refine (H1.out _ (by repeat (first|(with_reducible exact HB.out)|apply below_alloc|apply pw_below_drewN))).mono ?_
    rintro e w2 ⟨rfl,hb2⟩
    have hk0:w2.cell? ⟨wr.heap.size,0,none⟩=some (.int .i64 1):=(hb2.cell (p:=⟨wr.heap.size,0,none⟩) (by simp)).trans (by unfold World.cell?;rw [heap_alloc_new];rfl)
    have HB2:=Lib.hid (below_then (B:=w.heap.size) (by repeat (first|(with_reducible exact HB.out)|apply below_alloc|apply pw_below_drewN)) (by have:=HB.out.size;simp;omega) hb2)
    clear hb2
    by_cases hlt:n<t1
    ·have hli:(n:Int)<t1:=by omega
     go_wp2_with fail
     go_roundw
     case rel=>exact ⟨1,1,t1,rfl,rfl,rfl,by omega,Lib.hid (by have e:=HF.out;simp only [six,List.take_succ_cons,List.take_zero] at e⊢;simp only [List.foldl_cons,List.foldl_nil] at e⊢;rw [←e,HT.out];simp [pick6,hlt]),Lib.hid (by repeat (first|(with_reducible exact HB2.out)|apply below_alloc|apply pw_below_drewN))⟩
     case measure=>simp [intOf]
    ·have hli: ¬(n:Int)<t1:=by omega
     go_wp2_with fail
     go_roundw
     case rel=>exact ⟨1,kk,n,rfl,rfl,rfl,by omega,Lib.hid (by have e:=HF.out;simp only [six,List.take_succ_cons,List.take_zero] at e⊢;simp only [List.foldl_cons,List.foldl_nil] at e⊢;rw [←e,HT.out];simp [pick6,hlt]),Lib.hid (by repeat (first|(with_reducible exact HB2.out)|apply below_alloc|apply pw_below_drewN))⟩
     case measure=>simp [intOf]
  ·have hca:wr.cell? ⟨g,2,none⟩=some (.int .i64 2):=(HR.out.below HB.out) 2 _ rfl
   have hcb:wr.cell? ⟨g,3,none⟩=some (.func (.func 176) #[] #[]):=(HR.out.below HB.out) 3 _ rfl
   cases nm
   ·go_wp2_with fail
    refine (H2.out _ (by repeat (first|(with_reducible exact HB.out)|apply below_alloc|apply pw_below_drewN))).mono ?_
    rintro e w2 ⟨rfl,hb2⟩
    have hk0:w2.cell? ⟨wr.heap.size,0,none⟩=some (.int .i64 2):=(hb2.cell (p:=⟨wr.heap.size,0,none⟩) (by simp)).trans (by unfold World.cell?;rw [heap_alloc_new];rfl)
    have HB2:=Lib.hid (below_then (B:=w.heap.size) (by repeat (first|(with_reducible exact HB.out)|apply below_alloc|apply pw_below_drewN)) (by have:=HB.out.size;simp;omega) hb2)
    clear hb2
    by_cases hlt:n<t2
    ·have hli:(n:Int)<t2:=by omega
     go_wp2_with fail
     go_roundw
     case rel=>exact ⟨2,2,t2,rfl,rfl,rfl,by omega,Lib.hid (by have e:=HF.out;simp only [six,List.take_succ_cons,List.take_zero] at e⊢;simp only [List.foldl_cons,List.foldl_nil] at e⊢;rw [←e,HT.out];simp [pick6,hlt]),Lib.hid (by repeat (first|(with_reducible exact HB2.out)|apply below_alloc|apply pw_below_drewN))⟩
     case measure=>simp [intOf]
    ·have hli: ¬(n:Int)<t2:=by omega
     go_wp2_with fail
     go_roundw
     case rel=>exact ⟨2,kk,n,rfl,rfl,rfl,by omega,Lib.hid (by have e:=HF.out;simp only [six,List.take_succ_cons,List.take_zero] at e⊢;simp only [List.foldl_cons,List.foldl_nil] at e⊢;rw [←e,HT.out];simp [pick6,hlt]),Lib.hid (by repeat (first|(with_reducible exact HB2.out)|apply below_alloc|apply pw_below_drewN))⟩
     case measure=>simp [intOf]
   ·go_wp2_with fail
    go_roundw
    case rel=>exact ⟨2,kk,n,rfl,rfl,rfl,by omega,Lib.hid (by have e:=HF.out;simp only [six,List.take_succ_cons,List.take_zero] at e⊢;simp only [List.foldl_cons,List.foldl_nil] at e⊢;rw [←e,HT.out];simp),Lib.hid (by repeat (first|(with_reducible exact HB.out)|apply below_alloc|apply pw_below_drewN))⟩
    case measure=>simp [intOf]
  ·have hca:wr.cell? ⟨g,4,none⟩=some (.int .i64 3):=(HR.out.below HB.out) 4 _ rfl
   have hcb:wr.cell? ⟨g,5,none⟩=some (.func (.func 177) #[] #[]):=(HR.out.below HB.out) 5 _ rfl
   cases nm
   ·go_wp2_with fail
    refine (H3.out _ (by repeat (first|(with_reducible exact HB.out)|apply below_alloc|apply pw_below_drewN))).mono ?_
    rintro e w2 ⟨rfl,hb2⟩
    have hk0:w2.cell? ⟨wr.heap.size,0,none⟩=some (.int .i64 3):=(hb2.cell (p:=⟨wr.heap.size,0,none⟩) (by simp)).trans (by unfold World.cell?;rw [heap_alloc_new];rfl)
    have HB2:=Lib.hid (below_then (B:=w.heap.size) (by repeat (first|(with_reducible exact HB.out)|apply below_alloc|apply pw_below_drewN)) (by have:=HB.out.size;simp;omega) hb2)
    clear hb2
    by_cases hlt:n<t3
    ·have hli:(n:Int)<t3:=by omega
     go_wp2_with fail
     go_roundw
     case rel=>exact ⟨3,3,t3,rfl,rfl,rfl,by omega,Lib.hid (by have e:=HF.out;simp only [six,List.take_succ_cons,List.take_zero] at e⊢;simp only [List.foldl_cons,List.foldl_nil] at e⊢;rw [←e,HT.out];simp [pick6,hlt]),Lib.hid (by repeat (first|(with_reducible exact HB2.out)|apply below_alloc|apply pw_below_drewN))⟩
     case measure=>simp [intOf]
    ·have hli: ¬(n:Int)<t3:=by omega
     go_wp2_with fail
     go_roundw
     case rel=>exact ⟨3,kk,n,rfl,rfl,rfl,by omega,Lib.hid (by have e:=HF.out;simp only [six,List.take_succ_cons,List.take_zero] at e⊢;simp only [List.foldl_cons,List.foldl_nil] at e⊢;rw [←e,HT.out];simp [pick6,hlt]),Lib.hid (by repeat (first|(with_reducible exact HB2.out)|apply below_alloc|apply pw_below_drewN))⟩
     case measure=>simp [intOf]
   ·go_wp2_with fail
    refine (H3.out _ (by repeat (first|(with_reducible exact HB.out)|apply below_alloc|apply pw_below_drewN))).mono ?_
    rintro e w2 ⟨rfl,hb2⟩
    have hk0:w2.cell? ⟨wr.heap.size,0,none⟩=some (.int .i64 3):=(hb2.cell (p:=⟨wr.heap.size,0,none⟩) (by simp)).trans (by unfold World.cell?;rw [heap_alloc_new];rfl)
    have HB2:=Lib.hid (below_then (B:=w.heap.size) (by repeat (first|(with_reducible exact HB.out)|apply below_alloc|apply pw_below_drewN)) (by have:=HB.out.size;simp;omega) hb2)
    clear hb2
    by_cases hlt:n<t3
    ·have hli:(n:Int)<t3:=by omega
     go_wp2_with fail
     go_roundw
     case rel=>exact ⟨3,3,t3,rfl,rfl,rfl,by omega,Lib.hid (by have e:=HF.out;simp only [six,List.take_succ_cons,List.take_zero] at e⊢;simp only [List.foldl_cons,List.foldl_nil] at e⊢;rw [←e,HT.out];simp [pick6,hlt]),Lib.hid (by repeat (first|(with_reducible exact HB2.out)|apply below_alloc|apply pw_below_drewN))⟩
     case measure=>simp [intOf]
    ·have hli: ¬(n:Int)<t3:=by omega
     go_wp2_with fail
     go_roundw
     case rel=>exact ⟨3,kk,n,rfl,rfl,rfl,by omega,Lib.hid (by have e:=HF.out;simp only [six,List.take_succ_cons,List.take_zero] at e⊢;simp only [List.foldl_cons,List.foldl_nil] at e⊢;rw [←e,HT.out];simp [pick6,hlt]),Lib.hid (by repeat (first|(with_reducible exact HB2.out)|apply below_alloc|apply pw_below_drewN))⟩
     case measure=>simp [intOf]
  ·have hca:wr.cell? ⟨g,6,none⟩=some (.int .i64 4):=(HR.out.below HB.out) 6 _ rfl
   have hcb:wr.cell? ⟨g,7,none⟩=some (.func (.func 178) #[] #[]):=(HR.out.below HB.out) 7 _ rfl
   cases nm
   ·go_wp2_with fail
    refine (H4.out _ (by repeat (first|(with_reducible exact HB.out)|apply below_alloc|apply pw_below_drewN))).mono ?_
    rintro e w2 ⟨rfl,hb2⟩
    have hk0:w2.cell? ⟨wr.heap.size,0,none⟩=some (.int .i64 4):=(hb2.cell (p:=⟨wr.heap.size,0,none⟩) (by simp)).trans (by unfold World.cell?;rw [heap_alloc_new];rfl)
    have HB2:=Lib.hid (below_then (B:=w.heap.size) (by repeat (first|(with_reducible exact HB.out)|apply below_alloc|apply pw_below_drewN)) (by have:=HB.out.size;simp;omega) hb2)
    clear hb2
    by_cases hlt:n<t4
    ·have hli:(n:Int)<t4:=by omega
     go_wp2_with fail
     go_roundw
     case rel=>exact ⟨4,4,t4,rfl,rfl,rfl,by omega,Lib.hid (by have e:=HF.out;simp only [six,List.take_succ_cons,List.take_zero] at e⊢;simp only [List.foldl_cons,List.foldl_nil] at e⊢;rw [←e,HT.out];simp [pick6,hlt]),Lib.hid (by repeat (first|(with_reducible exact HB2.out)|apply below_alloc|apply pw_below_drewN))⟩
     case measure=>simp [intOf]
    ·have hli: ¬(n:Int)<t4:=by omega
     go_wp2_with fail
     go_roundw
     case rel=>exact ⟨4,kk,n,rfl,rfl,rfl,by omega,Lib.hid (by have e:=HF.out;simp only [six,List.take_succ_cons,List.take_zero] at e⊢;simp only [List.foldl_cons,List.foldl_nil] at e⊢;rw [←e,HT.out];simp [pick6,hlt]),Lib.hid (by repeat (first|(with_reducible exact HB2.out)|apply below_alloc|apply pw_below_drewN))⟩
     case measure=>simp [intOf]
   ·go_wp2_with fail
    go_roundw
    case rel=>exact ⟨4,kk,n,rfl,rfl,rfl,by omega,Lib.hid (by have e:=HF.out;simp only [six,List.take_succ_cons,List.take_zero] at e⊢;simp only [List.foldl_cons,List.foldl_nil] at e⊢;rw [←e,HT.out];simp),Lib.hid (by repeat (first|(with_reducible exact HB.out)|apply below_alloc|apply pw_below_drewN))⟩
    case measure=>simp [intOf]
  ·have hca:wr.cell? ⟨g,8,none⟩=some (.int .i64 5):=(HR.out.below HB.out) 8 _ rfl
   have hcb:wr.cell? ⟨g,9,none⟩=some (.func (.func 179) #[] #[]):=(HR.out.below HB.out) 9 _ rfl
   cases nm
   ·go_wp2_with fail
    refine (H5.out _ (by repeat (first|(with_reducible exact HB.out)|apply below_alloc|apply pw_below_drewN))).mono ?_
    rintro e w2 ⟨rfl,hb2⟩
    have hk0:w2.cell? ⟨wr.heap.size,0,none⟩=some (.int .i64 5):=(hb2.cell (p:=⟨wr.heap.size,0,none⟩) (by simp)).trans (by unfold World.cell?;rw [heap_alloc_new];rfl)
    have HB2:=Lib.hid (below_then (B:=w.heap.size) (by repeat (first|(with_reducible exact HB.out)|apply below_alloc|apply pw_below_drewN)) (by have:=HB.out.size;simp;omega) hb2)
    clear hb2
    by_cases hlt:n<t5
    ·have hli:(n:Int)<t5:=by omega
     go_wp2_with fail
     go_roundw
     case rel=>exact ⟨5,5,t5,rfl,rfl,rfl,by omega,Lib.hid (by have e:=HF.out;simp only [six,List.take_succ_cons,List.take_zero] at e⊢;simp only [List.foldl_cons,List.foldl_nil] at e⊢;rw [←e,HT.out];simp [pick6,hlt]),Lib.hid (by repeat (first|(with_reducible exact HB2.out)|apply below_alloc|apply pw_below_drewN))⟩
     case measure=>simp [intOf]
    ·have hli: ¬(n:Int)<t5:=by omega
     go_wp2_with fail
     go_roundw
     case rel=>exact ⟨5,kk,n,rfl,rfl,rfl,by omega,Lib.hid (by have e:=HF.out;simp only [six,List.take_succ_cons,List.take_zero] at e⊢;simp only [List.foldl_cons,List.foldl_nil] at e⊢;rw [←e,HT.out];simp [pick6,hlt]),Lib.hid (by repeat (first|(with_reducible exact HB2.out)|apply below_alloc|apply pw_below_drewN))⟩
     case measure=>simp [intOf]
   ·go_wp2_with fail
    go_roundw
    case rel=>exact ⟨5,kk,n,rfl,rfl,rfl,by omega,Lib.hid (by have e:=HF.out;simp only [six,List.take_succ_cons,List.take_zero] at e⊢;simp only [List.foldl_cons,List.foldl_nil] at e⊢;rw [←e,HT.out];simp),Lib.hid (by repeat (first|(with_reducible exact HB.out)|apply below_alloc|apply pw_below_drewN))⟩
    case measure=>simp [intOf]
  ·have hca:wr.cell? ⟨g,10,none⟩=some (.int .i64 6):=(HR.out.below HB.out) 10 _ rfl
   have hcb:wr.cell? ⟨g,11,none⟩=some (.func (.func 180) #[] #[]):=(HR.out.below HB.out) 11 _ rfl
   cases nm
   ·go_wp2_with fail
    refine (H6.out _ (by repeat (first|(with_reducible exact HB.out)|apply below_alloc|apply pw_below_drewN))).mono ?_
    rintro e w2 ⟨rfl,hb2⟩
    have hk0:w2.cell? ⟨wr.heap.size,0,none⟩=some (.int .i64 6):=(hb2.cell (p:=⟨wr.heap.size,0,none⟩) (by simp)).trans (by unfold World.cell?;rw [heap_alloc_new];rfl)
    have HB2:=Lib.hid (below_then (B:=w.heap.size) (by repeat (first|(with_reducible exact HB.out)|apply below_alloc|apply pw_below_drewN)) (by have:=HB.out.size;simp;omega) hb2)
    clear hb2
    by_cases hlt:n<t6
    ·have hli:(n:Int)<t6:=by omega
     go_wp2_with fail
     go_roundw
     case rel=>exact ⟨6,6,t6,rfl,rfl,rfl,by omega,Lib.hid (by have e:=HF.out;simp only [six,List.take_succ_cons,List.take_zero] at e⊢;simp only [List.foldl_cons,List.foldl_nil] at e⊢;rw [←e,HT.out];simp [pick6,hlt]),Lib.hid (by repeat (first|(with_reducible exact HB2.out)|apply below_alloc|apply pw_below_drewN))⟩
     case measure=>simp [intOf]
    ·have hli: ¬(n:Int)<t6:=by omega
     go_wp2_with fail
     go_roundw
     case rel=>exact ⟨6,kk,n,rfl,rfl,rfl,by omega,Lib.hid (by have e:=HF.out;simp only [six,List.take_succ_cons,List.take_zero] at e⊢;simp only [List.foldl_cons,List.foldl_nil] at e⊢;rw [←e,HT.out];simp [pick6,hlt]),Lib.hid (by repeat (first|(with_reducible exact HB2.out)|apply below_alloc|apply pw_below_drewN))⟩
     case measure=>simp [intOf]
   ·go_wp2_with fail
    go_roundw
    case rel=>exact ⟨6,kk,n,rfl,rfl,rfl,by omega,Lib.hid (by have e:=HF.out;simp only [six,List.take_succ_cons,List.take_zero] at e⊢;simp only [List.foldl_cons,List.foldl_nil] at e⊢;rw [←e,HT.out];simp),Lib.hid (by repeat (first|(with_reducible exact HB.out)|apply below_alloc|apply pw_below_drewN))⟩
    case measure=>simp [intOf]
  ·go_wp2_with fail
   go_ret2
   refine ⟨?_,HB.out⟩
   have e:=HF.out
   rw [←HLs.out]
   have e':longest op L=(kk,n):=e.symm
   rw [e']
   rfl
end Go.Proofs.YtipnlgmeonepfaaGreatDoor.Lx
