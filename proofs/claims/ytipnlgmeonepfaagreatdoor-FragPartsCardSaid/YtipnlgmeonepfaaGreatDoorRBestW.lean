/- The reference's best token, walked: it is bestP. -/
import Derived.Test.YtipnlgmeonepfaaGreatDoorRAllowed
import Derived.Deep.RegionWith
set_option linter.unusedVariables false
set_option linter.unusedSimpArgs false
namespace Go.Proofs.YtipnlgmeonepfaaGreatDoor.Ref
open Go.RowKit Go.Proofs.YtipnlgmeonepfaaGreatDoorW.PrintWords Go.Proofs.YtipnlgmeonepfaaGreatDoorW.PrintMore
attribute [local go_sem] max2_int min2_int max_two min_two max_three min_three max_four min_four

/-- What lies in memory while the best token is looked for. -/
structure BF (w W:World) (R:Nat) (cur:Array Value) (k n:Nat):Prop where
 below:Below w.heap.size w W
 b6:W.heap[w.heap.size]? =some (.cells #[.int .i64 0,.int .i64 0] 165 (0,0))
 b7:W.heap[w.heap.size+1]? =some (.cells #[.int .i64 k,.int .i64 n] 165 (0,0))
 row:W.heap[R]? =some (.cells cur 180 (0,0))
theorem BF.step {w W W':World} {R:Nat} {cur:Array Value} {k n:Nat} (h:BF w W R cur k n) (hb:Below W.heap.size W W'):BF w W' R cur k n:=
 ⟨h.below.trans (hb.mono h.below.size),blk_below h.b6 hb,blk_below h.b7 hb,blk_below h.row hb⟩
theorem BF.drewN {w W:World} {R:Nat} {cur:Array Value} {k n:Nat} (h:BF w W R cur k n) (m:Nat):BF w (W.drewN m) R cur k n:=h.step (pw_below_drewN (Below.refl _ _) m)
theorem BF.alloc {w W:World} {R:Nat} {cur:Array Value} {k n:Nat} (h:BF w W R cur k n) (o:Obj):BF w (W.alloc o) R cur k n:=h.step (below_alloc (Below.refl _ _) o)
def rowOf (cur:Array Value):Prop:=cur.toList.take 72=ruleCells Lx.rulesP
theorem BF.drew {w W:World} {R:Nat} {cur:Array Value} {k n:Nat} (h:BF w W R cur k n):BF w W.drew R cur k n:=h.step (below_drew1 (Below.refl _ _))
theorem nm_all (v:List UInt8):(Lx.plainPats.take 4).any (fun p=>decide (0<Lx.lng p (Lx.win v)))=decide (0<Lx.plain (Lx.win v)):=by
 have h:=Lx.plain_cover (Lx.win v)
 rw [List.take_of_length_le (Nat.le_refl 4),Bool.eq_iff_iff,List.any_eq_true,decide_eq_true_eq]
 constructor
 ·rintro ⟨p,hp,hq⟩
  have:=h.1 p hp
  have:=of_decide_eq_true hq
  omega
 ·intro hp
  obtain ⟨p,hpp,he⟩:=h.2 hp
  exact ⟨p,hpp,decide_eq_true (by omega)⟩
theorem row_get {cur:Array Value} (h:rowOf cur) (i:Nat) (r:Nat×List (Nat×Bool)) (hr:Lx.rulesP[i]? =some r):cur[i*2]? =some (.int .i64 (r.1:Int))∧cur[i*2+1]? =some (.string (patB r.2)):=by
 have key: ∀(l:List (Nat×List (Nat×Bool))) (i:Nat),l[i]? =some r→(ruleCells l)[i*2]? =some (.int .i64 (r.1:Int))∧(ruleCells l)[i*2+1]? =some (.string (patB r.2)):=by
  intro l
  induction l with
  |nil=>intro i h;simp at h
  |cons x l ih=>
   intro i h
   cases i with
   |zero=>
    simp at h
    subst h
    exact ⟨rfl,rfl⟩
   |succ i=>
    have:=ih i (by simpa using h)
    rw [show (i+1)*2=i*2+2 from by omega]
    exact this
 have hi:i<36:=by
  have:=(List.getElem?_eq_some_iff.1 hr).1
  exact this
 obtain ⟨k1,k2⟩:=key Lx.rulesP i hr
 unfold rowOf at h
 rw [←h,List.getElem?_take,if_pos (by omega)] at k1 k2
 exact ⟨by simpa using k1,by simpa using k2⟩
def stepR (v:List UInt8) (op:Bool) (a:Nat×Nat) (r:Nat×List (Nat×Bool)):Nat×Nat:=if Lx.active v op r=true then Lx.pick a (r.1,Lx.lng r.2 (Lx.win v)) else a
theorem fold_filter (v:List UInt8) (op:Bool): ∀(L:List (Nat×List (Nat×Bool))) (a:Nat×Nat),((L.filter (Lx.active v op)).map (fun r=>(r.1,Lx.lng r.2 (Lx.win v)))).foldl Lx.pick a=L.foldl (stepR v op) a
 |[],a=>rfl
 |r::L,a=>by
  by_cases h:Lx.active v op r=true
  ·rw [List.filter_cons_of_pos h,List.map_cons,List.foldl_cons,List.foldl_cons,fold_filter v op L]
   unfold stepR
   rw [if_pos h]
  ·rw [List.filter_cons_of_neg h,List.foldl_cons,fold_filter v op L]
   unfold stepR
   rw [if_neg h]
theorem fold_snoc {α β:Type} (f:β→α→β) (L:List α) (i:Nat) (r:α) (a:β) (h:L[i]? =some r):(L.take (i+1)).foldl f a=f ((L.take i).foldl f a) r:=by
 rw [List.take_add_one,h,List.foldl_append]
 rfl
theorem rules_some (i:Nat) (hi:i<36): ∃k p,Lx.rulesP[i]? =some (k,p)∧good p=true∧k≤6:=by
 have hl:i<Lx.rulesP.length:=hi
 have hk: ∀r∈Lx.rulesP,r.1≤6:=by decide+kernel
 exact ⟨(Lx.rulesP[i]).1,(Lx.rulesP[i]).2,List.getElem?_eq_getElem hl,rules_good _ (List.getElem_mem hl),hk _ (List.getElem_mem hl)⟩
theorem patB_pos {p:List (Nat×Bool)} (h:good p=true):0<(patB p).size:=by
 unfold good at h
 rw [Bool.and_eq_true,Bool.and_eq_true] at h
 have e:(patB p).size=(text p.reverse).length:=by simp [patB,ByteArray.size]
 rw [e]
 cases hp:p.reverse with
 |nil=>rw [hp] at h;exact absurd h.1.1 (by simp)
 |cons x q=>
  obtain ⟨c,b⟩:=x
  cases b<;>simp [text]
theorem patB_get {p:List (Nat×Bool)} (h:0<(patB p).size):(patB p)[0]=(text p.reverse).getD 0 0:=by
 have:(patB p).data.toList[0]? =(text p.reverse)[0]? :=by rw [patB_list]
 rw [List.getElem?_eq_getElem (by rw [data_length];exact h),get_list _ 0 h] at this
 rw [List.getD_eq_getElem?_getD,←this]
 rfl
theorem first_minus: ∀r∈Lx.rulesP,((text r.2.reverse).getD 0 0).toNat=45↔r.2=Lx.ndigs:=by decide+kernel
theorem BF.apart {w W:World} {R:Nat} {cur:Array Value} {k n:Nat} (h:BF w W R cur k n):R≠w.heap.size+1:=by
 intro e
 have h1:=h.row
 rw [e,h.b7] at h1
 injection h1 with h1
 injection h1 with _ h2 _
 exact absurd h2 (by decide)
theorem BF.put {w W:World} {R:Nat} {cur:Array Value} {k n:Nat} (h:BF w W R cur k n) (k2 n2:Nat):BF w ((W.setCell ⟨w.heap.size+1,0,none⟩ (.int .i64 k2)).setCell ⟨w.heap.size+1,1,none⟩ (.int .i64 n2)) R cur k2 n2:=by
 refine ⟨(h.below.setCell (by simp) _).setCell (by simp) _,blk_far (blk_far h.b6 (by simp) _) (by simp) _, ?_,blk_far (blk_far h.row h.apart _) h.apart _⟩
 exact blk_put (blk_put h.b7 0 _ rfl) 1 _ rfl
theorem signs_some (i:Nat) (hi:i<26): ∃wi,Lx.signsP[i]? =some wi∧1≤wi.length∧wi.length≤2:=by
 have hl:i<Lx.signsP.length:=hi
 have hk: ∀r∈Lx.signsP,1≤r.length∧r.length≤2:=by decide+kernel
 exact ⟨Lx.signsP[i],List.getElem?_eq_getElem hl,hk _ (List.getElem_mem hl)⟩
theorem plain_new (w:World) (i:Nat) (hi:i<4) (p:List (Nat×Bool)) (hp:Lx.plainPats[i]? =some p):
  Calls Tryz.prog 149 #[] w fun e w'=> ∃g,e=.returned (.slice (some ⟨g,0,none⟩) 4 4)∧w'.cell? ⟨g,i,none⟩=some (.string (patB p))∧Below w.heap.size w w':=by
 refine (plain_walk w).mono ?_
 rintro e w' ⟨rfl,rfl⟩
 refine ⟨_,rfl, ?_,below_alloc (Below.refl _ _) _⟩
 rw [blk_cell (blk_new w _) i,plain_cells,List.getElem?_toArray,List.getElem?_map,hp]
 rfl
theorem nm_step (L:List (List (Nat×Bool))) (i:Nat) (p:List (Nat×Bool)) (hp:L[i]? =some p) (f:List (Nat×Bool)→Bool):(L.take (i+1)).any f=((L.take i).any f||f p):=by
 rw [List.take_add_one,hp,List.any_append]
 simp
theorem plain_some (i:Nat) (hi:i<4): ∃p,Lx.plainPats[i]? =some p∧good p=true:=by
 have hl:i<Lx.plainPats.length:=hi
 exact ⟨Lx.plainPats[i],List.getElem?_eq_getElem hl,plain_good _ (List.getElem_mem hl)⟩
set_option maxHeartbeats 12800000 in
set_option maxRecDepth 100000 in
theorem best_walk (text:ByteArray) (at_:Nat) (op:Bool) (hs:text.size≤20000) (hl:at_≤text.size) (w:World):
  Calls Tryz.prog 140 #[.string text,.int .i64 at_,.bool op] w (One (.agg #[.int .i64 ((Lx.bestP (text.data.toList.drop at_) op).1:Nat),.int .i64 ((Lx.bestP (text.data.toList.drop at_) op).2:Nat)]) w):=by
 obtain ⟨v,hv⟩: ∃v,text.data.toList.drop at_=v:=⟨_,rfl⟩
 rw [hv]
 have HV:=Lib.hid hv
 obtain ⟨bk,hbk⟩: ∃n,(Lx.bestP v op).1=n:=⟨_,rfl⟩
 obtain ⟨bn,hbn⟩: ∃n,(Lx.bestP v op).2=n:=⟨_,rfl⟩
 rw [hbk,hbn]
 have HBK:=Lib.hid hbk
 have HBN:=Lib.hid hbn
 clear hv hbk hbn
 go_enter Tryz.func140,Tryz.ntmps140
 go_wp2_with (go_at_call 148;refine (rules_walk _).mono ?_;rintro e w1 ⟨vr,rfl,hown,hb⟩)
 have hbs:(beginN text at_).size≤1000:=by
  have:=congrArg List.length (begin_list text at_ hl)
  rw [data_length] at this
  unfold Lx.win at this
  rw [List.length_take] at this
  omega
 have hlong:Hid (∀(p:List (Nat×Bool)),good p=true→ ∀w:World,Calls Tryz.prog 150 #[.string (patB p),.string (beginN text at_)] w fun e w'=>e=.returned (.int .i64 (Lx.lng p (Lx.win v):Nat))∧Below w.heap.size w w'):=Lib.hid fun p hg w=>by
  have:=longest_at hg (beginN text at_) hbs w
  rw [begin_list text at_ hl,HV.out] at this
  exact this
 obtain ⟨R,cap,hvr,hRb,hRlt⟩:=hown.form (by decide)
 subst hvr
 obtain ⟨cur,hrow,hcur⟩: ∃cur,w1.heap[R]? =some (.cells cur 180 (0,0))∧Hid (rowOf cur):=by
  rcases hown.2 with ⟨h,_⟩|⟨g,c2,cur,h,_,h2,_,_,_,h3⟩
  ·cases h
  ·injection h with h4
   injection h4 with h4
   injection h4 with h4
   subst h4
   exact ⟨cur,h2,Lib.hid (by unfold rowOf;rw [←rules_cells];exact h3)⟩
 have HF:Hid (BF w w1 R cur 0 0):=Lib.hid (by
  refine ⟨(below_alloc (below_alloc (Below.refl _ _) _) _).trans (hb.mono (by simp;omega)),blk_below (blk_alloc (blk_new w _) _) hb, ?_,hrow⟩
  have:=blk_new (w.alloc (.cells #[.int .i64 0,.int .i64 0] 165)) (.cells #[.int .i64 0,.int .i64 0] 165)
  have e:(w.alloc (.cells #[.int .i64 0,.int .i64 0] 165)).heap.size=w.heap.size+1:=by simp
  rw [e] at this
  exact blk_below this hb)
 have HR:=Lib.hid hRb
 clear hown hb hrow hbs hRb hRlt
 go_loopg [9,10] 4 (fun kq v9 v10 wr=> ∃(i:Nat) (nm:Bool),v10=.int .i64 i∧v9=.bool nm∧kq+i=4∧Hid (nm=(Lx.plainPats.take i).any (fun p=>decide (0<Lx.lng p (Lx.win v))))∧Hid (BF w wr R cur 0 0))
 case atStart=>exact ⟨0,false,rfl,rfl,rfl,Lib.hid rfl,HF⟩
 case round=>
  obtain ⟨i,nm,rfl,rfl,hki,HN,HFr⟩:=hrel
  clear HF
  have hile:i≤4:=by omega
  have HKI:=Lib.hid hki
  clear hki
  by_cases hi:i<4
  ·have hd1:decide ((i:Int)<4)=true:=decide_eq_true (by omega)
   have hi1:(0:Int)≤i:=by omega
   have hi2:(i:Int)<4:=by omega
   have hw5:IntKind.i64.wrap ((i:Int)+1)=(i:Int)+1:=IntWalk.i64_in _ (by omega)
   obtain ⟨p,hp,hgp⟩:=plain_some i hi
   have HS:=Lib.hid (nm_step Lx.plainPats i p hp (fun p=>decide (0<Lx.lng p (Lx.win v))))
   have HP:=Lib.hid hp
   have HG:=Lib.hid hgp
   clear hp hgp
   obtain ⟨n,hn⟩: ∃n,Lx.lng p (Lx.win v)=n:=⟨_,rfl⟩
   have HL:Hid (∀w:World,Calls Tryz.prog 150 #[.string (patB p),.string (beginN text at_)] w fun e w'=>e=.returned (.int .i64 n)∧Below w.heap.size w w'):=Lib.hid fun w=>by
    have:=hlong.out p HG.out w
    rw [hn] at this
    exact this
   have HNN:=Lib.hid hn
   clear hn
   go_upto_region 7 with (go_at_call 149;refine (plain_new _ i hi p HP.out).mono ?_;rintro e w2 ⟨g2,rfl,_,hb2⟩;have HF2:=Lib.hid (HFr.out.step hb2);clear hb2)
   cases nm with
   |true=>
    go_quiet (fail)
    go_wp2
    go_roundg (gk-1)
    case measure=>have:=HKI.out;omega
    case rel=>exact ⟨i+1,true,by go_num,rfl,by have:=HKI.out;omega,Lib.hid (by rw [HS.out,←HN.out,Bool.true_or]),Lib.hid (HF2.out.drewN _)⟩
   |false=>
    have hHp:=begins_walk text at_ hs hl
    go_region_with (first
     |(go_at_call 149;refine (plain_new _ i hi p HP.out).mono ?_;rintro e w3 ⟨g3,rfl,hc3,hb3⟩)
     |(go_at_call 151;refine (hHp _).mono ?_;rintro e w4 ⟨rfl,rfl⟩)
     |(go_at_call 150;refine (HL.out _).mono ?_;rintro e w5 ⟨rfl,hb5⟩))
    all_goals
     go_wp2
     go_roundg (gk-1)
     case measure=>have:=HKI.out;omega
     case rel=>exact ⟨i+1,decide (0<n),by go_num,rfl,by have:=HKI.out;omega,Lib.hid (by rw [HS.out,←HN.out,Bool.false_or,HNN.out]),Lib.hid (by first|exact (HF2.out.drew.step hb3).step hb5|exact (HF2.out.step hb3).step hb5)⟩
  ·have hd1:decide ((i:Int)<4)=false:=decide_eq_false (by omega)
   have HNM:Hid (nm=decide (0<Lx.plain (Lx.win v))):=Lib.hid (by rw [HN.out,show i=4 from by omega,nm_all])
   clear HN hi hile HKI
   obtain ⟨p0,hp0,_⟩:=plain_some 0 (by omega)
   have HP0:=Lib.hid hp0
   clear hp0
   go_upto_region 8 with (go_at_call 149;refine (plain_new _ 0 (by decide) p0 HP0.out).mono ?_;rintro e w2 ⟨g2,rfl,_,hb2⟩;have HF2:=Lib.hid (HFr.out.step hb2);clear hb2)
   go_wp2
   clear HFr
   go_loopg [11] 36 (fun kq v11 wr=> ∃(i k n:Nat),v11=.int .i64 i∧kq+i=36∧k≤6∧n≤100∧Hid ((Lx.rulesP.take i).foldl (stepR v op) (0,0)=(k,n))∧Hid (BF w wr R cur k n))
   case atStart=>exact ⟨0,0,0,rfl,rfl,by omega,by omega,Lib.hid rfl,HF2⟩
   case round=>
    obtain ⟨i,k,n,rfl,hki,hk6,hn100,HFO,HFr⟩:=hrel
    clear HF2
    have hile:i≤36:=by omega
    have HKI:=Lib.hid hki
    clear hki
    by_cases hi:i<36
    ·have hd1:decide ((i:Int)<36)=true:=decide_eq_true (by omega)
     have hi1:(0:Int)≤i:=by omega
     have hi2:(i:Int)<36:=by omega
     have hw5:IntKind.i64.wrap ((i:Int)+1)=(i:Int)+1:=IntWalk.i64_in _ (by omega)
     obtain ⟨k',p,hp,hgp,hk'⟩:=rules_some i hi
     have HS:=Lib.hid (fold_snoc (stepR v op) Lx.rulesP i (k',p) (0,0) hp)
     obtain ⟨g0,g1⟩:=row_get hcur.out i _ hp
     have c0:wr.cell? ⟨R,i*2,none⟩=some (.int .i64 k'):=(blk_cell HFr.out.row _).trans g0
     have c1:wr.cell? ⟨R,i*2+1,none⟩=some (.string (patB p)):=(blk_cell HFr.out.row _).trans g1
     have HP:=Lib.hid hp
     have HG:=Lib.hid hgp
     clear hp hgp g0 g1
     have hsz0:0<(patB p).size:=patB_pos HG.out
     have hsz1:(0:Int)<(patB p).size:=by omega
     obtain ⟨al,hal⟩: ∃al,Lx.allowedP v (k',p)=al:=⟨_,rfl⟩
     have HA:Hid (∀w:World,Calls Tryz.prog 152 #[.agg #[.int .i64 k',.string (patB p)],.string text,.int .i64 at_] w fun e w'=>e=.returned (.bool al)∧Below w.heap.size w w'):=Lib.hid fun w=>by
      have:=allowed_walk k' p HG.out text at_ hs hl w
      rw [HV.out,hal] at this
      exact this
     obtain ⟨q1,hq1⟩: ∃q,((k':Int) !=1)=q:=⟨_,rfl⟩
     obtain ⟨q3,hq3⟩: ∃q,((k':Int) !=3)=q:=⟨_,rfl⟩
     obtain ⟨z,hz⟩: ∃q,((((patB p)[0]'hsz0).toNat:Int)==45)=q:=⟨_,rfl⟩
     obtain ⟨X,hX⟩: ∃X,Lx.active v op (k',p)=X:=⟨_,rfl⟩
     have HX:Hid ((!X)=((nm&&(q1&&q3))||((op&&z)|| !al))):=Lib.hid (by
      have ez:z=decide (p=Lx.ndigs):=by
       rw [←hz,patB_get,Bool.eq_iff_iff,beq_iff_eq,decide_eq_true_eq,←first_minus (k',p) (List.mem_of_getElem? HP.out)]
       dsimp only
       omega
      have e1:q1=(k' !=1):=by rw [←hq1,Bool.eq_iff_iff,bne_iff_ne,bne_iff_ne];omega
      have e3:q3=(k' !=3):=by rw [←hq3,Bool.eq_iff_iff,bne_iff_ne,bne_iff_ne];omega
      rw [←hX,←hal,ez,e1,e3,HNM.out]
      unfold Lx.active Lx.ask
      dsimp only
      cases (decide (0<Lx.plain (Lx.win v))&&((k' !=1)&&(k' !=3)))<;>cases (op&&decide (p=Lx.ndigs))<;>cases Lx.allowedP v (k',p)<;>rfl)
     have HXX:=Lib.hid hX
     clear hal hX
     go_upto_region 11 with (fail)
     go_cut [78] (fun v78 wc=>v78=.bool (!X)∧Hid (BF w wc R cur k n))
     case first=>
      cases nm<;>cases op
      all_goals
       go_wp2_with (go_at_call 152;refine (HA.out _).mono ?_;rintro e w2 ⟨rfl,hb2⟩;have HB2:=Lib.hid (HFr.out.step hb2);clear hb2)
       all_goals
        go_meet
        case rel=>
         refine ⟨?_,by first|exact HB2|exact HFr⟩
         rw [HX.out]
         clear hq1 hq3 hz
         cases q1<;>cases q3<;>cases z<;>cases al<;>first|rfl|contradiction
     case rest=>
      obtain ⟨rfl,HFc⟩:=hcut
      have hpick:=Lib.hid (show stepR v op (k,n) (k',p)=if X=true then Lx.pick (k,n) (k',Lx.lng p (Lx.win v)) else (k,n) by unfold stepR;rw [HXX.out])
      have c0:wc.cell? ⟨R,i*2,none⟩=some (.int .i64 k'):=by have:=(row_get hcur.out i _ HP.out).1;exact (blk_cell HFc.out.row _).trans this
      have c1:wc.cell? ⟨R,i*2+1,none⟩=some (.string (patB p)):=by have:=(row_get hcur.out i _ HP.out).2;exact (blk_cell HFc.out.row _).trans this
      clear HFr hq1 hq3 hz hsz1
      cases X with
      |false=>
       go_wp2
       go_roundg (gk-1)
       case measure=>have:=HKI.out;omega
       case rel=>exact ⟨i+1,k,n,by go_num,by have:=HKI.out;omega,hk6,hn100,Lib.hid (by rw [HS.out,HFO.out,hpick.out,if_neg (by decide)]),HFc⟩
      |true=>
       obtain ⟨m,hm⟩: ∃m,Lx.lng p (Lx.win v)=m:=⟨_,rfl⟩
       have hm100:m≤100:=by
        have:=Lx.lng_le p (Lx.win v)
        rw [hm] at this
        unfold Lx.win at this
        rw [List.length_take] at this
        omega
       have HL:Hid (∀w:World,Calls Tryz.prog 150 #[.string (patB p),.string (beginN text at_)] w fun e w'=>e=.returned (.int .i64 m)∧Below w.heap.size w w'):=Lib.hid fun w=>by
        have:=hlong.out p HG.out w
        rw [hm] at this
        exact this
       have HM:=Lib.hid hm
       clear hm
       go_upto_region 12 with (fail)
       go_cut [12] (fun v12 wc=>v12=.int .i64 m∧Hid (BF w wc R cur k n))
       case first=>
        refine wp_region_still_tail 8 (by kernel_rfl) (by kernel_rfl) ?_
        simp only [List.take_succ_cons,List.take_zero,List.drop_succ_cons,List.drop_zero]
        still_step
        still_step
        still_step
        still_step
        still_step
        still_step
        still_step
        still_call (same' (begins_walk text at_ hs hl _))
        repeat still_step
        try refine wpStill_nil ?_
        go_wp2_with (go_at_call 150;refine (HL.out _).mono ?_;rintro e w3 ⟨rfl,hb3⟩;have HB3:=Lib.hid (HFc.out.drew.step hb3);clear hb3)
        go_meet
        case rel=>exact ⟨rfl,HB3⟩
       case rest=>
        obtain ⟨rfl,HFd⟩:=hcut
        clear HFc c0 c1
        have HPK:Hid (stepR v op (k,n) (k',p)=Lx.pick (k,n) (k',m)):=Lib.hid (by rw [hpick.out,if_pos rfl,HM.out])
        have c0:wc.cell? ⟨R,i*2,none⟩=some (.int .i64 k'):=by have:=(row_get hcur.out i _ HP.out).1;exact (blk_cell HFd.out.row _).trans this
        have d0:wc.cell? ⟨w.heap.size+1,0,none⟩=some (.int .i64 k):=blk_cell HFd.out.b7 0
        have d1:wc.cell? ⟨w.heap.size+1,1,none⟩=some (.int .i64 n):=blk_cell HFd.out.b7 1
        obtain ⟨Y,hY⟩: ∃Y,decide (n<m∨(m=n∧k'<k))=Y:=⟨_,rfl⟩
        have HY:=Lib.hid hY
        clear hY
        go_upto_region 13 with (fail)
        go_cut [107] (fun v107 wc=>v107=.bool Y∧Hid (BF w wc R cur k n))
        case first=>
         by_cases hlt:n<m
         ·have q1:decide (n<m)=true:=decide_eq_true hlt
          have HYt:Hid (Y=true):=Lib.hid (by rw [←HY.out];exact decide_eq_true (.inl hlt))
          clear hlt
          go_quiet (fail)
          go_wp2
          go_meet
          case rel=>exact ⟨by rw [HYt.out],Lib.hid (HFd.out.drewN _)⟩
         ·have q1:decide (n<m)=false:=decide_eq_false hlt
          by_cases heq:m=n
          ·by_cases hk:k'<k
           ·have q2:decide (k'<k)=true:=decide_eq_true hk
            have HYt:Hid (Y=true):=Lib.hid (by rw [←HY.out];exact decide_eq_true (.inr ⟨heq,hk⟩))
            have q3:((m:Int)==(n:Int))=true:=by rw [beq_iff_eq];omega
            have q4:(m==n)=true:=by rw [beq_iff_eq];omega
            clear hlt hk heq
            go_quiet (fail)
            go_wp2
            go_meet
            case rel=>exact ⟨by rw [HYt.out],Lib.hid (HFd.out.drewN _)⟩
           ·have q2:decide (k'<k)=false:=decide_eq_false hk
            have HYt:Hid (Y=false):=Lib.hid (by rw [←HY.out];exact decide_eq_false (by omega))
            have q3:((m:Int)==(n:Int))=true:=by rw [beq_iff_eq];omega
            have q4:(m==n)=true:=by rw [beq_iff_eq];omega
            clear hlt hk heq
            go_quiet (fail)
            go_wp2
            go_meet
            case rel=>exact ⟨by rw [HYt.out],Lib.hid (HFd.out.drewN _)⟩
          ·have HYt:Hid (Y=false):=Lib.hid (by rw [←HY.out];exact decide_eq_false (by omega))
           have q3:((m:Int)==(n:Int))=false:=by rw [beq_eq_false_iff_ne];omega
           have q4:(m==n)=false:=by rw [beq_eq_false_iff_ne];omega
           clear hlt heq
           go_quiet (fail)
           go_wp2
           go_meet
           case rel=>exact ⟨by rw [HYt.out],Lib.hid (HFd.out.drewN _)⟩
        case rest=>
         obtain ⟨rfl,HFe⟩:=hcut
         clear HFd c0 d0 d1
         cases Y with
         |false=>
          go_wp2
          go_roundg (gk-1)
          case measure=>have:=HKI.out;omega
          case rel=>exact ⟨i+1,k,n,by go_num,by have:=HKI.out;omega,hk6,hn100,Lib.hid (by rw [HS.out,HFO.out,HPK.out];unfold Lx.pick;rw [if_neg (of_decide_eq_false HY.out)]),HFe⟩
         |true=>
          have c0:wc.cell? ⟨R,i*2,none⟩=some (.int .i64 k'):=by have:=(row_get hcur.out i _ HP.out).1;exact (blk_cell HFe.out.row _).trans this
          have d0:wc.cell? ⟨w.heap.size+1,0,none⟩=some (.int .i64 k):=blk_cell HFe.out.b7 0
          have d1:wc.cell? ⟨w.heap.size+1,1,none⟩=some (.int .i64 n):=blk_cell HFe.out.b7 1
          have e0:=blk_frozen HFe.out.b7 0
          have e1:=blk_frozen HFe.out.b7 1
          go_wp2
          go_roundg (gk-1)
          case measure=>have:=HKI.out;omega
          case rel=>exact ⟨i+1,k',m,by go_num,by have:=HKI.out;omega,hk',hm100,Lib.hid (by rw [HS.out,HFO.out,HPK.out];unfold Lx.pick;rw [if_pos (of_decide_eq_true HY.out)]),Lib.hid (HFe.out.put k' m)⟩
    ·have hd1:decide ((i:Int)<36)=false:=decide_eq_false (by omega)
     have HFF:Hid (Lx.rulesP.foldl (stepR v op) (0,0)=(k,n)):=Lib.hid (by
      have:=HFO.out
      rw [List.take_of_length_le (show Lx.rulesP.length≤i from by show 36≤i;omega)] at this
      exact this)
     clear hi hile HKI HFO
     have HCD:Hid ((Lx.cands v op).foldl Lx.pick (0,0)=(k,n)):=Lib.hid (by unfold Lx.cands;rw [fold_filter];exact HFF.out)
     clear HFF
     go_upto_region 16 with (go_at_call 153;refine (signs_walk _).mono ?_;rintro e w2 ⟨rfl,hw2⟩;have HW2:=Lib.hid hw2;clear hw2)
     obtain ⟨SB,hSB⟩: ∃SB,SB=wr.heap.size:=⟨_,rfl⟩
     rw [←hSB]
     have HSG:Hid (w2.heap[SB]? =some (.cells signCells 9 (0,0))):=Lib.hid (by rw [HW2.out,hSB];exact blk_new _ _)
     have HF2:Hid (BF w w2 R cur k n):=Lib.hid (by rw [HW2.out];exact HFr.out.alloc _)
     clear HW2 hSB HFr
     go_wp2
     cases nm with
     |true=>
      have HEK:Hid (bk=k):=Lib.hid (by
       rw [←HBK.out];unfold Lx.bestP;rw [if_pos (of_decide_eq_true HNM.out.symm),HCD.out])
      have HEN:Hid (bn=n):=Lib.hid (by
       rw [←HBN.out];unfold Lx.bestP;rw [if_pos (of_decide_eq_true HNM.out.symm),HCD.out])
      go_loopg [14] 1 (fun kq v14 wr=>v14=.int .i64 0∧Hid (BF w wr R cur k n))
      case atStart=>exact ⟨rfl,HF2⟩
      case round=>
       obtain ⟨rfl,HFr⟩:=hrel
       have d0:wr.cell? ⟨w.heap.size+1,0,none⟩=some (.int .i64 k):=blk_cell HFr.out.b7 0
       have d1:wr.cell? ⟨w.heap.size+1,1,none⟩=some (.int .i64 n):=blk_cell HFr.out.b7 1
       have d2:wr.cell? ⟨w.heap.size,0,none⟩=some (.int .i64 0):=blk_cell HFr.out.b6 0
       have d3:wr.cell? ⟨w.heap.size,1,none⟩=some (.int .i64 0):=blk_cell HFr.out.b6 1
       have e0:=blk_frozen HFr.out.b6 0
       have e1:=blk_frozen HFr.out.b6 1
       go_wp2
       obtain ⟨WF,hWF⟩: ∃WF,(wr.setCell ⟨w.heap.size,0,none⟩ (.int .i64 k)).setCell ⟨w.heap.size,1,none⟩ (.int .i64 n)=WF:=⟨_,rfl⟩
       rw [hWF]
       have hb6:WF.heap[w.heap.size]? =some (.cells #[.int .i64 k,.int .i64 n] 165 (0,0)):=hWF▸blk_put (blk_put HFr.out.b6 0 _ rfl) 1 _ rfl
       have hbw:Below w.heap.size w WF:=hWF▸(HFr.out.below.setCell (by simp) _).setCell (by simp) _
       have r0:WF.cell? ⟨w.heap.size,0,none⟩=some (.int .i64 k):=blk_cell hb6 0
       have r1:WF.cell? ⟨w.heap.size,1,none⟩=some (.int .i64 n):=blk_cell hb6 1
       exact bodyPost_ret (v:=.agg #[.int .i64 k,.int .i64 n]) (by simp [results,Tryz.results140,go_sem,r0,r1]) rfl ⟨by rw [HEK.out,HEN.out],hbw⟩
     |false=>
      go_loopg [14] 26 (fun kq v14 wr=> ∃(i k n:Nat),v14=.int .i64 i∧kq+i=26∧k≤6∧n≤100∧Hid ((Lx.signsP.take i).foldl (Lx.signStep v) ((Lx.cands v op).foldl Lx.pick (0,0))=(k,n))∧Hid (BF w wr R cur k n)∧Hid (wr.heap[SB]? =some (.cells signCells 9 (0,0))))
      case atStart=>exact ⟨0,k,n,rfl,rfl,hk6,hn100,Lib.hid HCD.out,HF2,HSG⟩
      case round=>
       clear HF2 HSG HCD hk6 hn100
       obtain ⟨i,k,n,rfl,hki,hk6,hn100,HFO,HFr,HSr⟩:=hrel
       have hile:i≤26:=by omega
       have HKI:=Lib.hid hki
       clear hki
       by_cases hi:i<26
       ·have hd1:decide ((i:Int)<26)=true:=decide_eq_true (by omega)
        have hi1:(0:Int)≤i:=by omega
        have hi2:(i:Int)<26:=by omega
        have hw5:IntKind.i64.wrap ((i:Int)+1)=(i:Int)+1:=IntWalk.i64_in _ (by omega)
        obtain ⟨wi,hwi,hl1,hl2⟩:=signs_some i hi
        obtain ⟨SW,hSW⟩: ∃SW:ByteArray,SW=⟨wi.toArray⟩:=⟨_,rfl⟩
        have hSWs:SW.size=wi.length:=by rw [hSW];simp [ByteArray.size]
        have HSW:Hid (SW.data.toList=wi):=Lib.hid (by rw [hSW])
        have HGT:Hid (signCells[i]? =some (.string SW)):=Lib.hid (by
         rw [sign_cells,List.getElem?_toArray,List.getElem?_map,hwi,hSW]
         rfl)
        have c0:wr.cell? ⟨SB,i,none⟩=some (.string SW):=(blk_cell HSr.out i).trans HGT.out
        have hSBne:Hid (SB≠w.heap.size+1):=Lib.hid (by
         intro e
         have h1:=HSr.out
         rw [e,HFr.out.b7] at h1
         injection h1 with h1
         injection h1 with _ h2 _
         exact absurd h2 (by decide))
        obtain ⟨l,hlw⟩: ∃l,wi.length=l:=⟨_,rfl⟩
        rw [hlw] at hSWs hl1 hl2
        have HSS:=Lib.hid (fold_snoc (Lx.signStep v) Lx.signsP i wi ((Lx.cands v op).foldl Lx.pick (0,0)) hwi)
        have HLW:=Lib.hid hlw
        have HSZ:=Lib.hid hSWs
        have hvl:v.length=text.size-at_:=by rw [←HV.out,List.length_drop,data_length]
        have HVL:=Lib.hid hvl
        clear hwi hSW hlw hvl
        have d1:wr.cell? ⟨w.heap.size+1,1,none⟩=some (.int .i64 n):=blk_cell HFr.out.b7 1
        have hwd:IntKind.i64.wrap ((text.size:Int)-at_)=(text.size:Int)-at_:=IntWalk.i64_in _ (by omega)
        have hwl:IntKind.i64.wrap ((at_:Int)+l)=(at_:Int)+l:=IntWalk.i64_in _ (by omega)
        obtain ⟨Y,hY⟩: ∃Y,decide (n<l∧l≤v.length∧v.take l=wi)=Y:=⟨_,rfl⟩
        have HY:=Lib.hid hY
        clear hY
        go_upto_region 19 with (fail)
        go_cut [162] (fun v162 wc=>v162=.bool Y∧Hid (BF w wc R cur k n)∧Hid (wc.heap[SB]? =some (.cells signCells 9 (0,0))))
        case first=>
         by_cases hlt:n<l
         ·have q1:decide (n<l)=true:=decide_eq_true hlt
          by_cases hle:l≤v.length
          ·have q2:decide ((l:Int)≤(text.size:Int)-at_)=true:=decide_eq_true (by have:=HVL.out;omega)
           obtain ⟨T,hT⟩: ∃T,text.extract at_ (at_+l)=T:=⟨_,rfl⟩
           have hx1:(0:Int)≤at_:=by omega
           have hx2:(at_:Int)≤(at_:Int)+l:=by omega
           have hx3:(at_:Int)+l≤text.size:=by have:=HVL.out;omega
           have ht1:((at_:Int)+l).toNat=at_+l:=by omega
           have HT:Hid ((T.toList==SW.toList)=Y):=Lib.hid (by
            rw [←HY.out,Lib.toList_data,Lib.toList_data,HSW.out,←hT,Lib.extract_data,show at_+l-at_=l from by omega,HV.out,Bool.eq_iff_iff,beq_iff_eq,decide_eq_true_eq]
            constructor
            ·intro h;exact ⟨hlt,hle,h⟩
            ·intro h;exact h.2.2)
           have HTY:=HT.out
           clear hlt hle
           go_quiet (fail)
           go_wp2
           go_meet
           case rel=>exact ⟨by first|rfl|rw [HT.out],Lib.hid (HFr.out.drewN _),Lib.hid (blk_drewN HSr.out _)⟩
          ·have q2:decide ((l:Int)≤(text.size:Int)-at_)=false:=decide_eq_false (by have:=HVL.out;omega)
           have HYt:Hid (Y=false):=Lib.hid (by rw [←HY.out];exact decide_eq_false (fun h=>hle h.2.1))
           clear hlt hle
           go_quiet (fail)
           go_wp2
           go_meet
           case rel=>exact ⟨by rw [HYt.out],Lib.hid (HFr.out.drewN _),Lib.hid (blk_drewN HSr.out _)⟩
         ·have q1:decide (n<l)=false:=decide_eq_false hlt
          have HYt:Hid (Y=false):=Lib.hid (by rw [←HY.out];exact decide_eq_false (fun h=>hlt h.1))
          clear hlt
          go_quiet (fail)
          go_wp2
          go_meet
          case rel=>exact ⟨by rw [HYt.out],Lib.hid (HFr.out.drewN _),Lib.hid (blk_drewN HSr.out _)⟩
        case rest=>
         obtain ⟨rfl,HFe,HSe⟩:=hcut
         clear HFr HSr c0 d1
         have HST:Hid (Lx.signStep v (k,n) wi=if Y=true then (5,l) else (k,n)):=Lib.hid (by
          unfold Lx.signStep
          rw [HLW.out]
          by_cases h:n<l∧l≤v.length∧v.take l=wi
          ·rw [if_pos h,if_pos (by rw [←HY.out];exact decide_eq_true h)]
          ·rw [if_neg h,if_neg (by rw [←HY.out];simpa using h)])
         cases Y with
         |false=>
          go_wp2
          go_roundg (gk-1)
          case measure=>have:=HKI.out;omega
          case rel=>exact ⟨i+1,k,n,by go_num,by have:=HKI.out;omega,hk6,hn100,Lib.hid (by rw [HSS.out,HFO.out,HST.out,if_neg (by decide)]),HFe,HSe⟩
         |true=>
          have c0:wc.cell? ⟨SB,i,none⟩=some (.string SW):=(blk_cell HSe.out i).trans HGT.out
          have d0:wc.cell? ⟨w.heap.size+1,0,none⟩=some (.int .i64 k):=blk_cell HFe.out.b7 0
          have d1:wc.cell? ⟨w.heap.size+1,1,none⟩=some (.int .i64 n):=blk_cell HFe.out.b7 1
          have e0:=blk_frozen HFe.out.b7 0
          have e1:=blk_frozen HFe.out.b7 1
          go_wp2
          go_roundg (gk-1)
          case measure=>have:=HKI.out;omega
          case rel=>exact ⟨i+1,5,l,by go_num,by have:=HKI.out;omega,by omega,by omega,Lib.hid (by rw [HSS.out,HFO.out,HST.out];simp),Lib.hid (HFe.out.put 5 l),Lib.hid (blk_far (blk_far HSe.out (hSBne.out) _) (hSBne.out) _)⟩
       ·have hd1:decide ((i:Int)<26)=false:=decide_eq_false (by omega)
        have hpr:Hid (Lx.bestP v op=(k,n)):=Lib.hid (by
         have h1:=HFO.out
         rw [List.take_of_length_le (show Lx.signsP.length≤i from by show 26≤i;omega)] at h1
         unfold Lx.bestP
         rw [if_neg (of_decide_eq_false HNM.out.symm)]
         exact h1)
        have HEK:Hid (bk=k):=Lib.hid (by rw [←HBK.out,hpr.out])
        have HEN:Hid (bn=n):=Lib.hid (by rw [←HBN.out,hpr.out])
        clear hi hile HKI HFO hpr
        have d0:wr.cell? ⟨w.heap.size+1,0,none⟩=some (.int .i64 k):=blk_cell HFr.out.b7 0
        have d1:wr.cell? ⟨w.heap.size+1,1,none⟩=some (.int .i64 n):=blk_cell HFr.out.b7 1
        have d2:wr.cell? ⟨w.heap.size,0,none⟩=some (.int .i64 0):=blk_cell HFr.out.b6 0
        have d3:wr.cell? ⟨w.heap.size,1,none⟩=some (.int .i64 0):=blk_cell HFr.out.b6 1
        have e0:=blk_frozen HFr.out.b6 0
        have e1:=blk_frozen HFr.out.b6 1
        go_wp2
        obtain ⟨WF,hWF⟩: ∃WF,(wr.setCell ⟨w.heap.size,0,none⟩ (.int .i64 k)).setCell ⟨w.heap.size,1,none⟩ (.int .i64 n)=WF:=⟨_,rfl⟩
        rw [hWF]
        have hb6:WF.heap[w.heap.size]? =some (.cells #[.int .i64 k,.int .i64 n] 165 (0,0)):=hWF▸blk_put (blk_put HFr.out.b6 0 _ rfl) 1 _ rfl
        have hbw:Below w.heap.size w WF:=hWF▸(HFr.out.below.setCell (by simp) _).setCell (by simp) _
        have r0:WF.cell? ⟨w.heap.size,0,none⟩=some (.int .i64 k):=blk_cell hb6 0
        have r1:WF.cell? ⟨w.heap.size,1,none⟩=some (.int .i64 n):=blk_cell hb6 1
        exact bodyPost_ret (v:=.agg #[.int .i64 k,.int .i64 n]) (by simp [results,Tryz.results140,go_sem,r0,r1]) rfl ⟨by rw [HEK.out,HEN.out],hbw⟩
end Go.Proofs.YtipnlgmeonepfaaGreatDoor.Ref
