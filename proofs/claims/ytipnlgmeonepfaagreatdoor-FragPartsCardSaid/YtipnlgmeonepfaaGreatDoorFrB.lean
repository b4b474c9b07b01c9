/- The reader's valid, named, stops and drop, walked. -/
import Derived.Test.YtipnlgmeonepfaaGreatDoorFrA
import Derived.StillTailTactics
import Derived.Deep.RegionHeld3
set_option linter.unusedVariables false
set_option linter.unusedSimpArgs false
namespace Go.Proofs.YtipnlgmeonepfaaGreatDoor.PFa
open Go.RowKit Go.Proofs.YtipnlgmeonepfaaGreatDoorW.PrintWords Go.Proofs.YtipnlgmeonepfaaGreatDoorW.PrintLast Go.Proofs.YtipnlgmeonepfaaGreatDoorW.PrintMore
open Go.Proofs.YtipnlgmeonepfaaGreatDoor.Lx (Kp)
section
variable {w W W':World} {g:Nat} {A0:Option Addr} {c0:Nat} {l:List Tk} {A1:Option Addr} {c1:Nat} {ws:List ByteArray} {o:Nat→Nat} {at_:Nat} {tv:Value} {top:List Fg} {sv:Value} {fs:List Fr} {ps:List PF}
/-- What valid comes to. -/
def ValPost (at_:Nat) (T:Tk) (W:World) (e:Ending) (W':World):Prop:=(if Pure.good T=true then e=.returned (.tuple #[]) else e=endR at_ 14)∧Below W.heap.size W W'
set_option maxHeartbeats 6400000 in
set_option maxRecDepth 100000 in
theorem valid_c (h:Rd w g A0 c0 l A1 c1 ws o at_ tv top sv fs W) (hC:Kd.C k39 w A0 l.length l) (hl:l.length≤6000) (hat:at_<l.length) (hE:Lx.Env w):
  Calls Tryz.prog 75 #[.pointer (some ⟨g,0,none⟩)] W (ValPost at_ (tkAt l at_) W):=by
 have HREF:=Lib.hid (fun (W':World) (hb:Below W.heap.size W W')=>refuse_c (h.below hb) 14)
 obtain ⟨ad,had,t0,t1,t2,t3,t4⟩:=at_T39 (Kd.C_below hC h.bel) (at_:Int) (by omega) (by omega)
 subst had
 obtain ⟨T,hT⟩: ∃T,rd_T39 l (at_:Int)=T:=⟨_,rfl⟩
 rw [show tkAt l at_=T from hT]
 rw [hT] at t0 t1 t2 t3 t4
 simp only [Int.toNat_natCast] at t0 t1 t2 t3 t4
 have k0:W.cell? ⟨g,0,none⟩=some (.slice (some ad) l.length c0):=blk_cell h.blk 0
 have k1:W.cell? ⟨g,1,none⟩=some (.int .i64 at_):=blk_cell h.blk 1
 have x2:(0:Int)≤(at_:Int):=by omega
 have x3:(at_:Int)<(l.length:Int):=by omega
 have HCH:=Lib.hid (fun (W':World) (hb:Below w.heap.size w W')=>check_c T W' (hE.below hb))
 have HB:=Lib.hid h.bel
 obtain ⟨r,hr⟩: ∃r,Pure.chk T=r:=⟨_,rfl⟩
 rw [hr] at HCH
 have HR:=Lib.hid hr
 clear hT h hC hE hr
 by_cases hg:Pure.good T=true
 ·obtain rfl:r=0:=by rw [←HR.out];exact (Pure.chk_zero T).2 hg
  have HP:Hid (∀W',Below W.heap.size W W'→ValPost at_ T W (.returned (.tuple #[])) W'):=Lib.hid (fun W' hb=>by unfold ValPost;rw [if_pos hg];exact ⟨rfl,hb⟩)
  clear hg
  go_enter Tryz.func75,Tryz.ntmps75
  go_wp2_with fail
  refine wp_region_still_tail 10 (by kernel_rfl) (by kernel_rfl) ?_
  simp only [List.take_succ_cons,List.take_zero,List.drop_succ_cons,List.drop_zero]
  repeat still_step
  try refine wpStill_nil ?_
  go_wp2_with fail
  refine (HCH.out _ (HB.out.drew)).mono ?_
  rintro e w1 ⟨rfl,hb1⟩
  have HB1:Hid (Below W.heap.size W w1):=Lib.hid (((Below.refl _ W).drew).trans hb1)
  clear hb1
  go_wp2_with fail
  go_end0
  exact HP.out _ HB1.out
 ·have x1:(r !=0)=true:=by
   rw [bne_iff_ne,←HR.out]
   intro e
   exact hg ((Pure.chk_zero T).1 e)
  have HP:Hid (∀W',Below W.heap.size W W'→ValPost at_ T W (endR at_ 14) W'):=Lib.hid (fun W' hb=>by unfold ValPost;rw [if_neg hg];exact ⟨rfl,hb⟩)
  clear hg
  go_enter Tryz.func75,Tryz.ntmps75
  go_wp2_with fail
  refine wp_region_still_tail 10 (by kernel_rfl) (by kernel_rfl) ?_
  simp only [List.take_succ_cons,List.take_zero,List.drop_succ_cons,List.drop_zero]
  repeat still_step
  try refine wpStill_nil ?_
  go_wp2_with fail
  refine (HCH.out _ (HB.out.drew)).mono ?_
  rintro e w1 ⟨rfl,hb1⟩
  have HB1:Hid (Below W.heap.size W w1):=Lib.hid (((Below.refl _ W).drew).trans hb1)
  clear hb1
  go_wp2_with fail
  refine (HREF.out _ HB1.out).mono ?_
  rintro e W3 ⟨rfl,⟨q,rfl⟩⟩
  exact ⟨rfl,HP.out _ (pw_below_drewN HB1.out _)⟩
end
end Go.Proofs.YtipnlgmeonepfaaGreatDoor.PFa

set_option linter.unusedVariables false
set_option linter.unusedSimpArgs false
namespace Go.Proofs.YtipnlgmeonepfaaGreatDoor.PFa
open Go.RowKit Go.Proofs.YtipnlgmeonepfaaGreatDoorW.PrintWords Go.Proofs.YtipnlgmeonepfaaGreatDoorW.PrintLast Go.Proofs.YtipnlgmeonepfaaGreatDoorW.PrintMore
open Go.Proofs.YtipnlgmeonepfaaGreatDoor.Lx (Kp)
def stopSigns:List ByteArray:=[⟨#[59]⟩,⟨#[44]⟩,⟨#[41]⟩,⟨#[93]⟩,⟨#[125]⟩]
/-- Is there a token before which names may be dropped, or none? -/
def stopsB (l:List Tk) (i:Nat):Bool:=if l.length≤i then true else if isNm l i ⟨#[101,110,100]⟩=true then true else ((tkAt l i).f0==5)&&memB (tkAt l i).f2 stopSigns
section
variable {w W W':World} {g:Nat} {A0:Option Addr} {c0:Nat} {l:List Tk} {A1:Option Addr} {c1:Nat} {ws:List ByteArray} {o:Nat→Nat} {at_:Nat} {tv:Value} {top:List Fg} {sv:Value} {fs:List Fr} {ps:List PF}
set_option maxHeartbeats 6400000 in
set_option maxRecDepth 100000 in
theorem named_c (h:Rd w g A0 c0 l A1 c1 ws o at_ tv top sv fs W) (hfs:fs.length≤100) (hat:at_≤6000) (hats: ∀f∈fs,f.at_≤6000):Calls Tryz.prog 77 #[.pointer (some ⟨g,0,none⟩)] W fun e W'=>e=.returned (.bool (nmd at_ (fs.map Fr.pf)))∧Drawn0 W W':=by
 have k1:W.cell? ⟨g,1,none⟩=some (.int .i64 at_):=blk_cell h.blk 1
 cases fs with
 |nil=>
  obtain ⟨A,c,rfl⟩:=own_slice h.stk
  have k4:W.cell? ⟨g,4,none⟩=some (.slice A 0 c):=blk_cell h.blk 4
  clear h
  go_enter Tryz.func77,Tryz.ntmps77
  go_wp2
  go_quiet (fail)
  go_wp2
  go_ret
  exact ⟨rfl,⟨_,rfl⟩⟩
 |cons f r=>
  have hff:=h.frs f List.mem_cons_self
  obtain ⟨P,cap,rfl,p0,p1,hcap⟩:=h.stack
  have hn1:r.length+1≤100:=hfs
  have hfa:f.at_≤6000:=hats f List.mem_cons_self
  have k4:W.cell? ⟨g,4,none⟩=some (.slice (some ⟨P,0,none⟩) (r.length+1) cap):=blk_cell h.blk 4
  have v5:W.cell? ⟨f.blk,5,none⟩=some (.string f.tok.f2):=blk_cell hff.1 5
  obtain ⟨k,hk⟩: ∃k,r.length=k:=⟨_,rfl⟩
  rw [hk] at p0 p1 k4 hn1
  obtain ⟨m,hm⟩: ∃m,k+1=m:=⟨_,rfl⟩
  rw [hm] at k4
  obtain ⟨b,hb⟩: ∃b,f.blk=b:=⟨_,rfl⟩
  rw [hb] at p0 v5
  obtain ⟨fa,hfa'⟩: ∃b,f.at_=b:=⟨_,rfl⟩
  obtain ⟨S,hS⟩: ∃S,f.tok.f2=S:=⟨_,rfl⟩
  have HR:Hid (nmd at_ ((f::r).map Fr.pf)=((S.toList==(⟨#[109,97,99,114,111]⟩:ByteArray).toList)&&((fa:Int)==(at_:Int)-1))):=Lib.hid (by rw [←hS,←hfa'];rfl)
  rw [hfa'] at p1 hfa
  rw [hS] at v5
  have x0:decide ((0:Int)<(m:Int))=true:=decide_eq_true (by omega)
  have x0':decide (0<m)=true:=decide_eq_true (by omega)
  have x2:IntKind.i64.wrap ((m:Int)-1)=(k:Int):=by rw [IntWalk.i64_in _ (by omega)];omega
  have x3:(0:Int)≤(k:Int):=by omega
  have x4:(k:Int)<(m:Int):=by omega
  have x5:IntKind.i64.wrap ((at_:Int)-1)=(at_:Int)-1:=IntWalk.i64_in _ (by omega)
  have hml:(⟨#[109,97,99,114,111]⟩:ByteArray).toList=[109,97,99,114,111]:=by decide+kernel
  rw [hml] at HR
  clear h hff hk hm hfs hats hb hfa' hS
  by_cases he:S.toList=[109,97,99,114,111]
  ·have x6:(S.toList==[109,97,99,114,111])=true:=beq_iff_eq.2 he
   rw [HR.out,x6,Bool.true_and]
   clear he HR hml
   go_enter Tryz.func77,Tryz.ntmps77
   go_wp2
   go_quiet (fail)
   go_wp2
   go_ret
   exact ⟨rfl,⟨_,rfl⟩⟩
  ·have x6:(S.toList==[109,97,99,114,111])=false:=beq_eq_false_iff_ne.2 he
   rw [HR.out,x6,Bool.false_and]
   clear he HR hml
   go_enter Tryz.func77,Tryz.ntmps77
   go_wp2
   go_quiet (fail)
   go_wp2
   go_ret
   exact ⟨rfl,⟨_,rfl⟩⟩
set_option maxHeartbeats 6400000 in
set_option maxRecDepth 100000 in
theorem stops_c (h:Rd w g A0 c0 l A1 c1 ws o at_ tv top sv fs W) (hC:Kd.C k39 w A0 l.length l) (hl:l.length≤6000) (i:Nat):Calls Tryz.prog 130 #[.pointer (some ⟨g,0,none⟩),.int .i64 i] W fun e W'=>e=.returned (.bool (stopsB l i))∧Below W.heap.size W W':=by
 have k0:W.cell? ⟨g,0,none⟩=some (.slice A0 l.length c0):=blk_cell h.blk 0
 by_cases hi:l.length≤i
 ·have HR:stopsB l i=true:=by unfold stopsB;rw [if_pos hi]
  rw [HR]
  have x1:decide (l.length≤i)=true:=decide_eq_true hi
  clear HR h hC hi hl
  go_enter Tryz.func130,Tryz.ntmps130
  go_wp2
  go_ret
  exact ⟨rfl,Below.refl _ _⟩
 ·have hlt:i<l.length:=by omega
  have x1:decide (l.length≤i)=false:=decide_eq_false hi
  have HN:=Lib.hid (isName_c h hC hl i ⟨#[101,110,100]⟩)
  cases hb:isNm l i ⟨#[101,110,100]⟩ with
  |true=>
   have HR:stopsB l i=true:=by unfold stopsB;rw [if_neg hi,if_pos hb]
   rw [HR]
   rw [hb] at HN
   clear HR h hC hi hl hb
   go_enter Tryz.func130,Tryz.ntmps130
   go_wp2_with fail
   refine HN.out.mono ?_
   rintro e W2 ⟨rfl,⟨m,rfl⟩⟩
   go_wp2
   go_ret
   exact ⟨rfl,pw_below_drewN (Below.refl _ _) _⟩
  |false=>
   rw [hb] at HN
   have HR:stopsB l i=(((tkAt l i).f0==5)&&memB (tkAt l i).f2 stopSigns):=by unfold stopsB;rw [if_neg hi,hb,if_neg (by decide)]
   rw [HR]
   obtain ⟨ad,had,t0,t1,t2,t3,t4⟩:=at_T39 (Kd.C_below hC h.bel) (i:Int) (by omega) (by omega)
   subst had
   obtain ⟨T,hT⟩: ∃T,rd_T39 l (i:Int)=T:=⟨_,rfl⟩
   rw [show tkAt l i=T from hT]
   rw [hT] at t0 t1 t2 t3 t4
   simp only [Int.toNat_natCast] at t0 t1 t2 t3 t4
   have x2:(0:Int)≤(i:Int):=by omega
   have x3:(i:Int)<(l.length:Int):=by omega
   have HCO:=Lib.hid (fun (W':World) (b:Nat) (hb:W'.heap[b]? =some (.cells #[.string ⟨#[59]⟩,.string ⟨#[44]⟩,.string ⟨#[41]⟩,.string ⟨#[93]⟩,.string ⟨#[125]⟩] 9 (0,0)))=>contains_c (c:=5) (w:=W') (A:=some ⟨b,0,none⟩) (l:=stopSigns) T.f2 (strs_lit (t:=9) hb (by decide)) (by decide) (by decide))
   obtain ⟨mb,hmb⟩: ∃mb,memB T.f2 stopSigns=mb:=⟨_,rfl⟩
   rw [hmb] at HCO⊢
   clear HR h hC hi hl hb hT hmb
   by_cases h5:T.f0=5
   ·have x5:(T.f0==5)=true:=beq_iff_eq.2 h5
    rw [x5,Bool.true_and]
    clear h5
    go_enter Tryz.func130,Tryz.ntmps130
    go_wp2_with fail
    refine HN.out.mono ?_
    rintro e W2 ⟨rfl,hd⟩
    have HB2:Hid (Below W.heap.size W W2):=Lib.hid (by obtain ⟨m,rfl⟩:=hd;exact pw_below_drewN (Below.refl _ _) _)
    clear hd
    have k0:=pw_cell_below HB2.out k0
    have t0:=pw_cell_below HB2.out t0
    have t1:=pw_cell_below HB2.out t1
    have t2:=pw_cell_below HB2.out t2
    have t3:=pw_cell_below HB2.out t3
    have t4:=pw_cell_below HB2.out t4
    go_wp2_with fail
    have hn:=blk_new (W2.alloc (.cells #[.int .i64 T.f0,.int .i64 T.f1,.string T.f2,.int .i64 T.f3,.int .i64 T.f4] 39 (0,0))) (.cells #[.string ⟨#[59]⟩,.string ⟨#[44]⟩,.string ⟨#[41]⟩,.string ⟨#[93]⟩,.string ⟨#[125]⟩] 9 (0,0))
    rw [World.size_alloc] at hn
    refine (HCO.out _ _ hn).mono ?_
    clear hn
    rintro e W3 ⟨rfl,⟨q,rfl⟩⟩
    go_wp2
    go_ret
    exact ⟨rfl,pw_below_drewN (below_alloc (below_alloc HB2.out _) _) _⟩
   ·have x5:(T.f0==5)=false:=beq_eq_false_iff_ne.2 h5
    rw [x5,Bool.false_and]
    clear h5
    go_enter Tryz.func130,Tryz.ntmps130
    go_wp2_with fail
    refine HN.out.mono ?_
    rintro e W2 ⟨rfl,hd⟩
    have HB2:Hid (Below W.heap.size W W2):=Lib.hid (by obtain ⟨m,rfl⟩:=hd;exact pw_below_drewN (Below.refl _ _) _)
    clear hd
    have k0:=pw_cell_below HB2.out k0
    have t0:=pw_cell_below HB2.out t0
    have t1:=pw_cell_below HB2.out t1
    have t2:=pw_cell_below HB2.out t2
    have t3:=pw_cell_below HB2.out t3
    have t4:=pw_cell_below HB2.out t4
    go_wp2
    go_ret
    exact ⟨rfl,below_alloc HB2.out _⟩
theorem Rd.setAt (h:Rd w g A0 c0 l A1 c1 ws o at_ tv top sv fs W) (n:Nat):Rd w g A0 c0 l A1 c1 ws o n tv top sv fs (W.setCell ⟨g,1,none⟩ (.int .i64 n)):=by
 have hne: ∀k z,o k=z→z≠0→k≠g:=by
  rintro k z hk hz rfl
  exact hz (hk.symm.trans h.og)
 have hblk: ∀f'∈fs,f'.blk≠g:=by
  intro f' hf' e
  have h1:=h.blk
  rw [←e,(h.frs f' hf').1] at h1
  injection h1 with h1
  injection h1 with _ h2 _
  exact absurd h2 (by decide)
 exact ⟨blk_put h.blk 1 _ rfl,h.og,Kd.R_far h.top (fun k hk=>hne k _ hk (by decide)) _,own_setCell h.stk (fun e=>hne g 2 (h.so g e.symm) (by decide) rfl) _,h.so,fun f' hf'=>⟨blk_far (h.frs f' hf').1 (hblk f' hf') _,(h.frs f' hf').2.1,Kd.R_far (h.frs f' hf').2.2 (fun k hk=>hne k _ hk (by omega)) _⟩,h.nd,h.bel.setCell h.hg _,h.hg,h.fb⟩
/-- What drop comes to. -/
def DropPost (w:World) (g:Nat) (A0:Option Addr) (c0:Nat) (l:List Tk) (A1:Option Addr) (c1:Nat) (ws:List ByteArray) (at_:Nat) (top:List Fg) (ps:List PF) (n:Nat) (e:Ending) (W':World):Prop:=
 (e=.returned (.tuple #[])∧(∀j,j<n→Pure.good (tkAt l (at_+1+j))=true)∧RdAt w g A0 c0 l A1 c1 ws (at_+n) top ps W')∨
 (∃j,j<n∧(∀i,i<j→Pure.good (tkAt l (at_+1+i))=true)∧Pure.good (tkAt l (at_+1+j))=false∧e=endR (at_+1+j) 14∧Below w.heap.size w W')
/-- What drop comes to, where blocks are nobody's. -/
def DropZ (w:World) (g:Nat) (A0:Option Addr) (c0:Nat) (l:List Tk) (A1:Option Addr) (c1:Nat) (ws:List ByteArray) (at_:Nat) (top:List Fg) (ps:List PF) (n:Nat) (Z:Nat→Prop) (W:World) (e:Ending) (W':World):Prop:=
 (e=.returned (.tuple #[])∧(∀j,j<n→Pure.good (tkAt l (at_+1+j))=true)∧RdZ w g A0 c0 l A1 c1 ws (at_+n) top ps Z W'∧ ∀k,Z k→W'.heap[k]? =W.heap[k]?)∨
 (∃j,j<n∧(∀i,i<j→Pure.good (tkAt l (at_+1+i))=true)∧Pure.good (tkAt l (at_+1+j))=false∧e=endR (at_+1+j) 14∧Below w.heap.size w W')
set_option maxHeartbeats 6400000 in
set_option maxRecDepth 100000 in
theorem drop_z {Z:Nat→Prop} (h:RdZ w g A0 c0 l A1 c1 ws at_ top ps Z W) (hZ: ∀k,Z k→k<W.heap.size) (hC:Kd.C k39 w A0 l.length l) (hl:l.length≤6000) (n:Nat) (hn:at_+n<l.length) (hE:Lx.Env w):
  Calls Tryz.prog 131 #[.pointer (some ⟨g,0,none⟩),.int .i64 n] W (DropZ w g A0 c0 l A1 c1 ws at_ top ps n Z W):=by
 have HE:=Lib.hid hE
 have HC:=Lib.hid hC
 have H0:=Lib.hid h
 have HZL:=Lib.hid hZ
 clear hE hC h hZ
 go_enter Tryz.func131,Tryz.ntmps131
 go_wp2
 go_loopg [5] n (fun kq v5 wr=> ∃i:Nat,v5=.int .i64 i∧i≤n∧kq=n-i∧Hid (RdZ w g A0 c0 l A1 c1 ws (at_+i) top ps Z wr∧W.heap.size≤wr.heap.size∧ ∀k,Z k→wr.heap[k]? =W.heap[k]?)∧Hid (∀j,j<i→Pure.good (tkAt l (at_+1+j))=true))
 case atStart=>exact ⟨0,rfl,Nat.zero_le _,rfl,Lib.hid ⟨H0.out,Nat.le_refl _,fun _ _=>rfl⟩,Lib.hid (fun j hj=>absurd hj (by omega))⟩
 case round=>
  obtain ⟨i,rfl,hin,hkq,HI,HG⟩:=hrel
  have HKQ:=Lib.hid hkq
  clear hkq H0
  by_cases hlt:i<n
  ·have x1:decide (i<n)=true:=decide_eq_true hlt
   obtain ⟨⟨o,tv,sv,fs,hrd,hps,hzo⟩,hzs,hzk⟩:=HI.out
   have HPS:=Lib.hid hps
   have HZO:=Lib.hid hzo
   have HZS:=Lib.hid hzs
   have HZK:=Lib.hid hzk
   clear hzo hzs hzk
   have HRD:=Lib.hid hrd
   obtain ⟨a1,ha1⟩: ∃a,at_+i=a:=⟨_,rfl⟩
   rw [ha1] at HRD
   have k1:wr.cell? ⟨g,1,none⟩=some (.int .i64 a1):=blk_cell HRD.out.blk 1
   have f1:wr.frozen? ⟨g,1,none⟩=false:=blk_frozen HRD.out.blk 1
   have HA1:=Lib.hid ha1
   have x2:wrap64 ((a1:Int)+1)=((a1+1:Nat):Int):=by unfold wrap64;omega
   have x3:wrap64 ((i:Int)+1)=((i+1:Nat):Int):=by unfold wrap64;omega
   obtain ⟨a2,ha2⟩: ∃a,a1+1=a:=⟨_,rfl⟩
   have HX:=Lib.hid (HRD.out.setAt (a1+1))
   rw [ha2] at HX x2
   have HA2:=Lib.hid ha2
   have hlt2:a2<l.length:=by omega
   have HV:=Lib.hid (valid_c HX.out HC.out hl hlt2 HE.out)
   clear hrd hps ha1 ha2
   go_wp2_with fail
   refine HV.out.mono ?_
   rintro e W3 ⟨hp,hb3⟩
   have HB3:=Lib.hid hb3
   clear hb3
   by_cases hg:Pure.good (tkAt l a2)=true
   ·rw [if_pos hg] at hp
    subst hp
    have HGG:=Lib.hid hg
    clear hg
    go_wp2_with fail
    go_roundg (gk-1)
    case measure=>have:=HKQ.out;omega
    case rel=>
     refine ⟨i+1,by go_num,by omega,by have:=HKQ.out;omega,Lib.hid ?_,Lib.hid ?_⟩
     ·refine ⟨⟨o,tv,sv,fs, ?_,HPS.out,HZO.out⟩,Nat.le_trans HZS.out (Nat.le_trans (by simp) HB3.out.size),fun k hk=> ?_⟩
      ·have:=HX.out.below HB3.out
       rw [show at_+(i+1)=a2 from by have:=HA1.out;have:=HA2.out;omega]
       exact this
      ·have hk1:=HZL.out k hk
       refine (HB3.out.block k (by simp;have:=HZS.out;omega)).trans ((Below.heap_setCell _ _ _ k (HZO.out k hk).2.1).trans (HZK.out k hk))
     ·intro j hj
      by_cases hji:j<i
      ·exact HG.out j hji
      ·obtain rfl:j=i:=by omega
       rw [show at_+1+j=a2 from by have:=HA1.out;have:=HA2.out;omega]
       exact HGG.out
   ·rw [if_neg hg] at hp
    subst hp
    refine ⟨rfl,.inr ⟨i,hlt,HG.out, ?_, ?_, ?_⟩⟩
    ·rw [show at_+1+i=a2 from by have:=HA1.out;have:=HA2.out;omega]
     simpa using hg
    ·rw [show at_+1+i=a2 from by have:=HA1.out;have:=HA2.out;omega]
     rfl
    ·exact (HX.out.below HB3.out).bel
  ·obtain rfl:i=n:=by omega
   have x1:decide (i<i)=false:=decide_eq_false hlt
   have HP:Hid (∀W',(RdZ w g A0 c0 l A1 c1 ws (at_+i) top ps Z W'∧W.heap.size≤W'.heap.size∧ ∀k,Z k→W'.heap[k]? =W.heap[k]?)→DropZ w g A0 c0 l A1 c1 ws at_ top ps i Z W (.returned (.tuple #[])) W'):=Lib.hid (fun W' h=> .inl ⟨rfl,HG.out,h.1,h.2.2⟩)
   clear HG hlt
   go_wp2
   go_end0
   exact HP.out _ HI.out
end
end Go.Proofs.YtipnlgmeonepfaaGreatDoor.PFa

set_option linter.unusedVariables false
set_option linter.unusedSimpArgs false
namespace Go.Proofs.YtipnlgmeonepfaaGreatDoor.PFa
open Go.RowKit Go.Proofs.YtipnlgmeonepfaaGreatDoorW.PrintWords Go.Proofs.YtipnlgmeonepfaaGreatDoorW.PrintLast Go.Proofs.YtipnlgmeonepfaaGreatDoorW.PrintMore
open Go.Proofs.YtipnlgmeonepfaaGreatDoor.Lx (Kp)
attribute [local go_sem ↓ high] app_veil
/-- The text and the kind of the token that closes a group. -/
def closeTx (op:ByteArray):ByteArray:=if op.toList=([40]:List UInt8) then ⟨#[41]⟩ else if op.toList=([91]:List UInt8) then ⟨#[93]⟩ else if op.toList=([123]:List UInt8) then ⟨#[125]⟩ else ⟨#[101,110,100]⟩
def closeKd (op:ByteArray):Int:=if op.toList=([40]:List UInt8) then 5 else if op.toList=([91]:List UInt8) then 5 else if op.toList=([123]:List UInt8) then 5 else 1
theorem field_tok (w:World) (a b d e:Int) (c:ByteArray):(Instr.field 39 (.agg #[.int .i64 a,.int .i64 b,.string c,.int .i64 d,.int .i64 e]) 2).run Tryz.prog w=.ok (.string c) w:=by kernel_rfl
section
set_option maxHeartbeats 6400000 in
set_option maxRecDepth 100000 in
theorem closer_c (T:Tk) (op:ByteArray) (kv:Value) (W:World) (hkv: ∃A n c,kv=.slice A n c):
  Calls Tryz.prog 113 #[.agg #[.int .i64 T.f0,.int .i64 T.f1,.string T.f2,.int .i64 T.f3,.int .i64 T.f4,.string op,kv]] W fun e W'=>e=.returned (.agg #[.int .i64 (closeKd op),.int .i64 0,.string (closeTx op),.int .i64 T.f3,.int .i64 T.f4])∧Below W.heap.size W W':=by
 obtain ⟨A,n,c,rfl⟩:=hkv
 have hend: ∀(tx:ByteArray) (kd:Int) (X:World),X=(((W.alloc (.cells #[.int .i64 T.f0,.int .i64 T.f1,.string T.f2,.int .i64 T.f3,.int .i64 T.f4,.string op,.slice A n c] 49)).alloc (.cells #[.int .i64 kd,.int .i64 0,.string tx,.int .i64 T.f3,.int .i64 T.f4] 39)).alloc (.cells #[.int .i64 kd,.int .i64 0,.string tx,.int .i64 T.f3,.int .i64 T.f4] 39))→Below W.heap.size W X:=by
  rintro tx kd X rfl
  exact below_alloc (below_alloc (below_alloc (Below.refl _ _) _) _) _
 by_cases h1:op.toList=([40]:List UInt8)
 ·have e1:closeTx op=⟨#[41]⟩:=by unfold closeTx;rw [if_pos h1]
  have e2:closeKd op=5:=by unfold closeKd;rw [if_pos h1]
  rw [e1,e2]
  have b1:(op.toList==([40]:List UInt8))=true:=beq_iff_eq.2 h1
  clear e1 e2 h1
  go_enter Tryz.func113,Tryz.ntmps113
  go_wp2
  exact bodyPost_ret (v:=.agg #[.int .i64 5,.int .i64 0,.string ⟨#[41]⟩,.int .i64 T.f3,.int .i64 T.f4]) (by simp [results,Tryz.results113,go_sem]) rfl ⟨rfl,hend _ _ _ rfl⟩
 ·by_cases h2:op.toList=([91]:List UInt8)
  ·have e1:closeTx op=⟨#[93]⟩:=by unfold closeTx;rw [if_neg h1,if_pos h2]
   have e2:closeKd op=5:=by unfold closeKd;rw [if_neg h1,if_pos h2]
   rw [e1,e2]
   have b1:(op.toList==([40]:List UInt8))=false:=beq_eq_false_iff_ne.2 h1
   have b2:(op.toList==([91]:List UInt8))=true:=beq_iff_eq.2 h2
   clear e1 e2 h1 h2
   go_enter Tryz.func113,Tryz.ntmps113
   go_wp2
   exact bodyPost_ret (v:=.agg #[.int .i64 5,.int .i64 0,.string ⟨#[93]⟩,.int .i64 T.f3,.int .i64 T.f4]) (by simp [results,Tryz.results113,go_sem]) rfl ⟨rfl,hend _ _ _ rfl⟩
  ·by_cases h3:op.toList=([123]:List UInt8)
   ·have e1:closeTx op=⟨#[125]⟩:=by unfold closeTx;rw [if_neg h1,if_neg h2,if_pos h3]
    have e2:closeKd op=5:=by unfold closeKd;rw [if_neg h1,if_neg h2,if_pos h3]
    rw [e1,e2]
    have b1:(op.toList==([40]:List UInt8))=false:=beq_eq_false_iff_ne.2 h1
    have b2:(op.toList==([91]:List UInt8))=false:=beq_eq_false_iff_ne.2 h2
    have b3:(op.toList==([123]:List UInt8))=true:=beq_iff_eq.2 h3
    clear e1 e2 h1 h2 h3
    go_enter Tryz.func113,Tryz.ntmps113
    go_wp2
    exact bodyPost_ret (v:=.agg #[.int .i64 5,.int .i64 0,.string ⟨#[125]⟩,.int .i64 T.f3,.int .i64 T.f4]) (by simp [results,Tryz.results113,go_sem]) rfl ⟨rfl,hend _ _ _ rfl⟩
   ·have e1:closeTx op=⟨#[101,110,100]⟩:=by unfold closeTx;rw [if_neg h1,if_neg h2,if_neg h3]
    have e2:closeKd op=1:=by unfold closeKd;rw [if_neg h1,if_neg h2,if_neg h3]
    rw [e1,e2]
    have b1:(op.toList==([40]:List UInt8))=false:=beq_eq_false_iff_ne.2 h1
    have b2:(op.toList==([91]:List UInt8))=false:=beq_eq_false_iff_ne.2 h2
    have b3:(op.toList==([123]:List UInt8))=false:=beq_eq_false_iff_ne.2 h3
    clear e1 e2 h1 h2 h3
    go_enter Tryz.func113,Tryz.ntmps113
    go_wp2
    exact bodyPost_ret (v:=.agg #[.int .i64 1,.int .i64 0,.string ⟨#[101,110,100]⟩,.int .i64 T.f3,.int .i64 T.f4]) (by simp [results,Tryz.results113,go_sem]) rfl ⟨rfl,hend _ _ _ rfl⟩
end
end Go.Proofs.YtipnlgmeonepfaaGreatDoor.PFa

set_option linter.unusedVariables false
set_option linter.unusedSimpArgs false
namespace Go.Proofs.YtipnlgmeonepfaaGreatDoor.PFa
open Go.RowKit Go.Proofs.YtipnlgmeonepfaaGreatDoorW.PrintWords Go.Proofs.YtipnlgmeonepfaaGreatDoorW.PrintLast Go.Proofs.YtipnlgmeonepfaaGreatDoorW.PrintMore
open Go.Proofs.YtipnlgmeonepfaaGreatDoor.Lx (Kp)
attribute [local go_sem ↓ high] app_veil
section
variable {w W W':World} {g:Nat} {A0:Option Addr} {c0:Nat} {l:List Tk} {A1:Option Addr} {c1:Nat} {ws:List ByteArray} {o:Nat→Nat} {at_:Nat} {tv:Value} {top:List Fg} {sv:Value} {fs:List Fr} {ps:List PF}
theorem Rd.pop {f:Fr} {r:List Fr} {P cap:Nat} (h:Rd w g A0 c0 l A1 c1 ws o at_ tv top (.slice (some ⟨P,0,none⟩) (r.length+1) cap) (f::r) W):
  Rd w g A0 c0 l A1 c1 ws o at_ tv top (.slice (some ⟨P,0,none⟩) r.length cap) r (W.setCell ⟨g,4,none⟩ (.slice (some ⟨P,0,none⟩) r.length cap))∧
   k49.R 49 (W.setCell ⟨g,4,none⟩ (.slice (some ⟨P,0,none⟩) r.length cap)) w.heap.size (fun k=>o k=f.blk+3) f.kv f.kids:=by
 have hne: ∀k z,o k=z→z≠0→k≠g:=by
  rintro k z hk hz rfl
  exact hz (hk.symm.trans h.og)
 have hPo:o P=2:=h.so P rfl
 have hPg:some g≠(Value.slice (some ⟨P,0,none⟩) r.length cap).ownBlock:=fun e=>by
  have e:some g=some P:=e
  injection e with e
  exact hne P 2 hPo (by decide) e.symm
 have hs:W.ownsRow w.heap.size 107 2 (.slice (some ⟨P,0,none⟩) r.length cap) r.length (stCells r):=by
  have h0:=h.stk
  rw [List.length_cons] at h0
  rcases h0.2 with ⟨e,_⟩|⟨g',cap',cur,e,hb,hh,hc,hm,hz,ht⟩
  ·cases e
  ·injection e with e1 e2 e3
   injection e1 with e1
   injection e1 with e1
   subst e1 e3
   refine ⟨stCells_len r,.inr ⟨P,cap,cur,rfl,hb,hh,by omega,hm,hz, ?_⟩⟩
   have:=congrArg (fun z=>z.take (r.length*2)) ht
   simp only [List.take_take,stCells] at this
   rw [show min (r.length*2) ((r.length+1)*2)=r.length*2 from by omega,List.take_append_of_le_length (by rw [stCells_len];exact Nat.le_refl _),List.take_of_length_le (l:=stCells r) (by rw [stCells_len];exact Nat.le_refl _)] at this
   exact this
 have hfar: ∀{z:Nat} {v:Value} {xs:List Fg},z≠0→k49.R 49 W w.heap.size (fun k=>o k=z) v xs→k49.R 49 (W.setCell ⟨g,4,none⟩ (.slice (some ⟨P,0,none⟩) r.length cap)) w.heap.size (fun k=>o k=z) v xs:=fun hz h=>Kd.R_far h (fun k hk=>hne k _ hk hz) _
 have hblk: ∀f'∈f::r,f'.blk≠g:=by
  intro f' hf' e
  have h1:=h.blk
  rw [←e,(h.frs f' hf').1] at h1
  injection h1 with h1
  injection h1 with _ h2 _
  exact absurd h2 (by decide)
 refine ⟨⟨blk_put h.blk 4 _ rfl,h.og,hfar (by decide) h.top,own_setCell hs hPg _,fun k hk=>h.so k hk,fun f' hf'=>⟨blk_far (h.frs f' (List.mem_cons_of_mem _ hf')).1 (hblk f' (List.mem_cons_of_mem _ hf')) _,(h.frs f' (List.mem_cons_of_mem _ hf')).2.1,hfar (by omega) (h.frs f' (List.mem_cons_of_mem _ hf')).2.2⟩,(List.pairwise_cons.1 h.nd).2,h.bel.setCell h.hg _,h.hg,fun f' hf'=>h.fb f' (List.mem_cons_of_mem _ hf')⟩,hfar (by omega) (h.frs f List.mem_cons_self).2.2⟩
set_option maxHeartbeats 3200000 in
set_option maxRecDepth 100000 in
/-- Nothing is open: a closing token is stray. -/
theorem finish_none (h:Rd w g A0 c0 l A1 c1 ws o at_ tv top sv [] W) (tx:ByteArray):
  Calls Tryz.prog 128 #[.pointer (some ⟨g,0,none⟩),.string tx] W fun e W'=>e=endR at_ 20∧Below W.heap.size W W':=by
 obtain ⟨A,c,rfl⟩:=own_slice h.stk
 have k4:W.cell? ⟨g,4,none⟩=some (.slice A 0 c):=blk_cell h.blk 4
 have HREF:=Lib.hid (fun (W':World) (hb:Below W.heap.size W W')=>refuse_c (h.below hb) 20)
 have e4:=al k4
 clear h
 have hfd:=fun (w:World) (a b d e:Int) (c:ByteArray)=>field_tok w a b d e c
 go_enter Tryz.func128,Tryz.ntmps128
 go_wp2_with fail
 refine (HREF.out _ (by repeat (first|(with_reducible exact Below.refl _ _)|(with_reducible apply below_alloc)))).mono ?_
 rintro e W2 ⟨rfl,⟨m,rfl⟩⟩
 exact ⟨rfl,rfl,pw_below_drewN (below_alloc (Below.refl _ _) _) _⟩
set_option maxHeartbeats 3200000 in
set_option maxRecDepth 100000 in
/-- What is open is not closed by this. -/
theorem finish_bad {f:Fr} {r:List Fr} (h:Rd w g A0 c0 l A1 c1 ws o at_ tv top sv (f::r) W) (hfs:r.length+1≤100) (tx:ByteArray) (htx:(closeTx f.tok.f2).toList≠tx.toList):
  Calls Tryz.prog 128 #[.pointer (some ⟨g,0,none⟩),.string tx] W fun e W'=>e=endR at_ 20∧Below W.heap.size W W':=by
 have hff:=h.frs f List.mem_cons_self
 obtain ⟨A6,c6,hkv,_⟩:=Kd.R_reads hff.2.2
 have HCL:=Lib.hid (fun (W':World)=>closer_c f.tok f.tok.f2 f.kv W' ⟨_,_,_,hkv⟩)
 obtain ⟨P,cap,rfl,p0,_,hcap⟩:=h.stack
 have HREF:=Lib.hid (fun (W':World) (hb:Below W.heap.size W W')=>refuse_c (h.below hb) 20)
 obtain ⟨k,hk⟩: ∃k,r.length=k:=⟨_,rfl⟩
 obtain ⟨m,hm⟩: ∃m,k+1=m:=⟨_,rfl⟩
 have k4:W.cell? ⟨g,4,none⟩=some (.slice (some ⟨P,0,none⟩) m cap):=by
  have:=blk_cell h.blk 4
  rw [hk,hm] at this
  exact this
 rw [hk] at p0
 have hb:=hff.1
 obtain ⟨n6,hn6⟩: ∃n,f.kids.length=n:=⟨_,rfl⟩
 rw [hkv,hn6] at hb
 rw [hkv,hn6] at HCL
 obtain ⟨b,hbb⟩: ∃b,f.blk=b:=⟨_,rfl⟩
 rw [hbb] at hb p0
 obtain ⟨T,hT⟩: ∃T,f.tok=T:=⟨_,rfl⟩
 rw [hT] at hb HCL htx
 obtain ⟨ct,hct⟩: ∃ct,closeTx T.f2=ct:=⟨_,rfl⟩
 obtain ⟨kd,hkd⟩: ∃kd,closeKd T.f2=kd:=⟨_,rfl⟩
 rw [hct,hkd] at HCL
 rw [hct] at htx
 have v0:W.cell? ⟨b,0,none⟩=some (.int .i64 T.f0):=blk_cell hb 0
 have v1:W.cell? ⟨b,1,none⟩=some (.int .i64 T.f1):=blk_cell hb 1
 have v2:W.cell? ⟨b,2,none⟩=some (.string T.f2):=blk_cell hb 2
 have v3:W.cell? ⟨b,3,none⟩=some (.int .i64 T.f3):=blk_cell hb 3
 have v4:W.cell? ⟨b,4,none⟩=some (.int .i64 T.f4):=blk_cell hb 4
 have v5:W.cell? ⟨b,5,none⟩=some (.string T.f2):=blk_cell hb 5
 have v6:W.cell? ⟨b,6,none⟩=some (.slice A6 n6 c6):=blk_cell hb 6
 have e4:=al k4
 have e0:=al p0
 have d0:=al v0
 have d1:=al v1
 have d2:=al v2
 have d3:=al v3
 have d4:=al v4
 have d5:=al v5
 have d6:=al v6
 have x1:decide ((k:Int)<0)=false:=decide_eq_false (by omega)
 have x2:IntKind.i64.wrap ((m:Int)-1)=(k:Int):=by rw [IntWalk.i64_in _ (by omega)];omega
 have x3:(0:Int)≤(k:Int):=by omega
 have x4:(k:Int)<(m:Int):=by omega
 have x6:wrap64 ((m:Int)-1)=(k:Int):=by unfold wrap64;omega
 have x5:(ct.toList==tx.toList)=false:=beq_eq_false_iff_ne.2 htx
 clear h hff hkv hk hm hb hn6 hT hct hkd hbb htx k4 p0 v0 v1 v2 v3 v4 v5 v6
 have hfd:=fun (w:World) (a b d e:Int) (c:ByteArray)=>field_tok w a b d e c
 go_enter Tryz.func128,Tryz.ntmps128
 go_wp2_with fail
 refine (HCL.out _).mono ?_
 rintro e W2 ⟨rfl,hb2⟩
 have HB2:Hid (Below W.heap.size W W2):=Lib.hid ((below_alloc (Below.refl _ _) _).trans (hb2.mono (by simp)))
 clear hb2
 go_wp2_with fail
 refine (HREF.out _ HB2.out).mono ?_
 rintro e W3 ⟨rfl,⟨q,rfl⟩⟩
 exact ⟨rfl,rfl,pw_below_drewN HB2.out _⟩
end
end Go.Proofs.YtipnlgmeonepfaaGreatDoor.PFa

set_option linter.unusedVariables false
set_option linter.unusedSimpArgs false
namespace Go.Proofs.YtipnlgmeonepfaaGreatDoor.PFa
open Go.RowKit Go.Proofs.YtipnlgmeonepfaaGreatDoorW.PrintWords Go.Proofs.YtipnlgmeonepfaaGreatDoorW.PrintLast Go.Proofs.YtipnlgmeonepfaaGreatDoorW.PrintMore
open Go.Proofs.YtipnlgmeonepfaaGreatDoor.Lx (Kp)
attribute [local go_sem ↓ high] app_veil
/-- What finish hands back: the group, and it lies where it belongs. -/
def FinPost (w:World) (g:Nat) (A0:Option Addr) (c0:Nat) (l:List Tk) (A1:Option Addr) (c1:Nat) (ws:List ByteArray) (at_:Nat) (top:List Fg) (ps:List PF) (Z:Nat→Prop) (W:World) (T:Tk) (kids:List Fg) (e:Ending) (W':World):Prop:=
 ∃A c,e=.returned (.agg #[.int .i64 T.f0,.int .i64 T.f1,.string T.f2,.int .i64 T.f3,.int .i64 T.f4,.string T.f2,.slice A kids.length c])∧kids.length≤c∧(∀W2:World,(∀k,¬Z k→W2.heap[k]? =W'.heap[k]?)→Kd.C k49 W2 A kids.length kids)∧RdZ w g A0 c0 l A1 c1 ws at_ (addT top ⟨T,T.f2,kids⟩ ps) (addP ⟨T,T.f2,kids⟩ ps) Z W'∧ ∀k,Z k→W'.heap[k]? =W.heap[k]?
theorem addT_map (top:List Fg) (x:Fg) (fs:List Fr):addT top x (fs.map Fr.pf)=addT top x fs:=by cases fs<;>rfl
section
variable {w W W':World} {g:Nat} {A0:Option Addr} {c0:Nat} {l:List Tk} {A1:Option Addr} {c1:Nat} {ws:List ByteArray} {o:Nat→Nat} {at_:Nat} {tv:Value} {top:List Fg} {sv:Value} {fs:List Fr} {ps:List PF}
set_option maxHeartbeats 12800000 in
set_option maxRecDepth 100000 in
theorem finish_c {f:Fr} {r:List Fr} (h0:Rd w g A0 c0 l A1 c1 ws o at_ tv top sv (f::r) W) (hfs:r.length+1≤100) (hcl:(curL top r).length≤6000) (tx:ByteArray) (htx:closeTx f.tok.f2=tx) {Z:Nat→Prop} (hZ0: ∀k,Z k→k<W.heap.size∧o k=0∧k≠g∧ ∀f'∈r,k≠f'.blk):
  Calls Tryz.prog 128 #[.pointer (some ⟨g,0,none⟩),.string tx] W (FinPost w g A0 c0 l A1 c1 ws at_ top (r.map Fr.pf) Z W f.tok f.kids):=by
 obtain ⟨o,h,hclip,hco⟩:=h0.clip
 replace hZ0: ∀k,Z k→k<W.heap.size∧o k=0∧k≠g∧ ∀f'∈r,k≠f'.blk:=fun k hk=>⟨(hZ0 k hk).1,(hco k (hZ0 k hk).1).trans (hZ0 k hk).2.1,(hZ0 k hk).2.2⟩
 clear h0 hco
 have HZ0':=Lib.hid hZ0
 clear hZ0
 obtain ⟨i0,hi0,hz0,hz1,hz2⟩:=info_parts info_frag
 have HI0:=Lib.hid hi0
 have HZ0:=Lib.hid hz0
 have HZ1:=Lib.hid hz1
 have HZ2:=Lib.hid hz2
 clear hi0 hz0 hz1 hz2
 have hff:=h.frs f List.mem_cons_self
 obtain ⟨A6,c6,hkv,hle6,_⟩:=Kd.R_reads hff.2.2
 have HLE:=Lib.hid hle6
 clear hle6
 have HCL:=Lib.hid (fun (W':World)=>closer_c f.tok f.tok.f2 f.kv W' ⟨_,_,_,hkv⟩)
 obtain ⟨P,cap,rfl,p0,_,hcap⟩:=h.stack
 have H0:=Lib.hid h
 have HCLIP:=Lib.hid hclip
 have HKV:=Lib.hid hkv
 obtain ⟨k,hk⟩: ∃k,r.length=k:=⟨_,rfl⟩
 obtain ⟨m,hm⟩: ∃m,k+1=m:=⟨_,rfl⟩
 have k4:W.cell? ⟨g,4,none⟩=some (.slice (some ⟨P,0,none⟩) m cap):=by
  have:=blk_cell h.blk 4
  rw [hk,hm] at this
  exact this
 have fg:W.frozen? ⟨g,4,none⟩=false:=blk_frozen h.blk 4
 rw [hk] at p0
 have hb:=hff.1
 obtain ⟨n6,hn6⟩: ∃n,f.kids.length=n:=⟨_,rfl⟩
 rw [hkv,hn6] at hb
 rw [hkv,hn6] at HCL
 obtain ⟨b,hbb⟩: ∃b,f.blk=b:=⟨_,rfl⟩
 rw [hbb] at hb p0
 obtain ⟨T,hT⟩: ∃T,f.tok=T:=⟨_,rfl⟩
 rw [hT] at hb HCL htx⊢
 obtain ⟨kd,hkd⟩: ∃kd,closeKd T.f2=kd:=⟨_,rfl⟩
 rw [htx,hkd] at HCL
 have HK:=Lib.hid hk
 have HM:=Lib.hid hm
 have HN6:=Lib.hid hn6
 have HT:=Lib.hid hT
 have HBB:=Lib.hid hbb
 have HBL:=Lib.hid hb
 have hgl:=blk_lt h.blk
 have hbl:=blk_lt hb
 have v0:W.cell? ⟨b,0,none⟩=some (.int .i64 T.f0):=blk_cell hb 0
 have v1:W.cell? ⟨b,1,none⟩=some (.int .i64 T.f1):=blk_cell hb 1
 have v2:W.cell? ⟨b,2,none⟩=some (.string T.f2):=blk_cell hb 2
 have v3:W.cell? ⟨b,3,none⟩=some (.int .i64 T.f3):=blk_cell hb 3
 have v4:W.cell? ⟨b,4,none⟩=some (.int .i64 T.f4):=blk_cell hb 4
 have v5:W.cell? ⟨b,5,none⟩=some (.string T.f2):=blk_cell hb 5
 have v6:W.cell? ⟨b,6,none⟩=some (.slice A6 n6 c6):=blk_cell hb 6
 have e4:=al k4
 have e0:=al p0
 have d0:=al v0
 have d1:=al v1
 have d2:=al v2
 have d3:=al v3
 have d4:=al v4
 have d5:=al v5
 have d6:=al v6
 have x1:decide ((k:Int)<0)=false:=decide_eq_false (by omega)
 have x2:IntKind.i64.wrap ((m:Int)-1)=(k:Int):=by rw [IntWalk.i64_in _ (by omega)];omega
 have x3:(0:Int)≤(k:Int):=by omega
 have x4:(k:Int)<(m:Int):=by omega
 have x6:wrap64 ((m:Int)-1)=(k:Int):=by unfold wrap64;omega
 have x7:(k:Int)≤(cap:Int):=by omega
 have HP0:=Lib.hid p0
 have HK4:=Lib.hid k4
 clear h hff hkv hk hm hb hn6 hT hkd hbb htx k4 p0 hclip
 have hfd:=fun (w:World) (a b d e:Int) (c:ByteArray)=>field_tok w a b d e c
 go_enter Tryz.func128,Tryz.ntmps128
 go_wp2_with fail
 refine (HCL.out _).mono ?_
 rintro e W2 ⟨rfl,hb2⟩
 have hr2:W2.heap[W.heap.size]? =some (.cells #[.int .i64 0,.int .i64 0,.string ⟨#[]⟩,.int .i64 0,.int .i64 0,.string ⟨#[]⟩,.slice none 0 0] 49 (0,0)):=blk_below (blk_new W _) hb2
 have HR2:=Lib.hid hr2
 have HB2:Hid (Below W.heap.size W W2):=Lib.hid ((below_alloc (Below.refl _ _) _).trans (hb2.mono (by simp)))
 have hs2:W.heap.size<W2.heap.size:=blk_lt hr2
 clear hb2 e4 e0 d0 d1 d2 d3 d4 d5 d6 HCL hr2
 have k4:W2.cell? ⟨g,4,none⟩=some (.slice (some ⟨P,0,none⟩) m cap):=pw_cell_below HB2.out HK4.out
 have p0:W2.cell? ⟨P,k*2,none⟩=some (.pointer (some ⟨b,0,none⟩)):=pw_cell_below HB2.out HP0.out
 have v0:=pw_cell_below HB2.out v0
 have v1:=pw_cell_below HB2.out v1
 have v2:=pw_cell_below HB2.out v2
 have v3:=pw_cell_below HB2.out v3
 have v4:=pw_cell_below HB2.out v4
 have v5:=pw_cell_below HB2.out v5
 have v6:=pw_cell_below HB2.out v6
 have H2:=Lib.hid (H0.out.below HB2.out)
 have k4a:=al k4
 have fga: ∀o,(W2.alloc o).frozen? ⟨g,4,none⟩=false:=fun o=>blk_frozen (blk_alloc H2.out.blk o) 4
 go_wp2_with fail
 obtain ⟨W4,hW4⟩: ∃W4,(W2.alloc (.cells #[.int .i64 T.f0,.int .i64 T.f1,.string T.f2,.int .i64 T.f3,.int .i64 T.f4,.string T.f2,.slice A6 n6 c6] 49 (0,0))).setCell ⟨g,4,none⟩ (.slice (some ⟨P,0,none⟩) k cap)=W4:=⟨_,rfl⟩
 rw [hW4]
 have hpop:=((H2.out.below (below_alloc (Below.refl _ _) (.cells #[.int .i64 T.f0,.int .i64 T.f1,.string T.f2,.int .i64 T.f3,.int .i64 T.f4,.string T.f2,.slice A6 n6 c6] 49 (0,0)))).pop)
 rw [HK.out] at hpop
 rw [hW4] at hpop
 have H4:=Lib.hid hpop.1
 have HR4:=Lib.hid hpop.2
 have hs4:W4.heap.size=W2.heap.size+1:=by rw [←hW4];simp
 have hv4:W4.heap[W2.heap.size]? =some (.cells #[.int .i64 T.f0,.int .i64 T.f1,.string T.f2,.int .i64 T.f3,.int .i64 T.f4,.string T.f2,.slice A6 n6 c6] 49 (0,0)):=hW4▸blk_far (blk_new W2 _) (by simp;omega) _
 have hr4:W4.heap[W.heap.size]? =some (.cells #[.int .i64 0,.int .i64 0,.string ⟨#[]⟩,.int .i64 0,.int .i64 0,.string ⟨#[]⟩,.slice none 0 0] 49 (0,0)):=hW4▸blk_far (blk_alloc HR2.out _) (by simp;omega) _
 have HZ4:Hid (∀k,Z k→W4.heap[k]? =W.heap[k]?):=Lib.hid (fun k hk=>by
  have hkl:=(HZ0'.out k hk).1
  rw [←hW4]
  exact (Below.heap_setCell _ _ _ k (HZ0'.out k hk).2.2.1).trans ((Below.heap_alloc W2 _ k (by omega)).trans (HB2.out.block k hkl)))
 clear hpop hW4 k4a fga k4 p0 v0 v1 v2 v3 v4 v5 v6 HR2
 obtain ⟨cb,co,_,_,hca,_⟩:=H4.out.cur
 have HKC:=Lib.hid (kids_c H4.out (by omega))
 rw [hca] at HKC
 have HCA:=Lib.hid hca
 have HV4:=Lib.hid hv4
 have HR4b:=Lib.hid hr4
 obtain ⟨vb,hvb⟩: ∃vb,W2.heap.size=vb:=⟨_,rfl⟩
 obtain ⟨rb,hrb⟩: ∃rb,W.heap.size=rb:=⟨_,rfl⟩
 rw [hvb] at HV4 hs4⊢
 rw [hrb] at HR4b⊢
 have hvr:rb<vb:=by omega
 have HVB:=Lib.hid hvb
 have HRB:=Lib.hid hrb
 clear hca hv4 hr4 hvb hrb
 refine HKC.out.mono ?_
 rintro e W5 ⟨rfl,hd⟩
 have hb5:Below W4.heap.size W4 W5:=by
  obtain ⟨m,rfl⟩:=hd
  exact pw_below_drewN (Below.refl _ _) _
 have hs5:W5.heap.size=W4.heap.size:=by
  obtain ⟨m,rfl⟩:=hd
  rfl
 have HZ5:Hid (∀k,Z k→W5.heap[k]? =W.heap[k]?):=Lib.hid (fun k hk=>(hb5.block k (by have:=(HZ0'.out k hk).1;have:=HRB.out;omega)).trans (HZ4.out k hk))
 clear hd HKC HZ4
 have H5:=Lib.hid (H4.out.below hb5)
 have HR5:=Lib.hid (Kd.R_below HR4.out hb5)
 have HV5:=Lib.hid (blk_below HV4.out hb5)
 have HRR5:=Lib.hid (blk_below HR4b.out hb5)
 clear hb5 H4 HR4 HV4 HR4b
 have hR:=H5.out.curR
 obtain ⟨A,c,hv,hcc,_⟩:=Kd.R_reads hR
 obtain ⟨_,inner,hown,hin⟩:=hR
 have HIN:=Lib.hid hin
 clear hin
 obtain ⟨cb',co',cells',ty',hca',hcb,hco,hcn,hcw,hgn,hcg⟩:=H5.out.cur
 have hown0:W5.ownsRow w.heap.size 49 7 (curV tv r) (curL top r).length inner:=hown
 rw [HCA.out] at hca'
 obtain ⟨rfl,rfl⟩:cb=cb'∧co=co':=by injection hca' with a b;exact ⟨a,b⟩
 rw [hv] at hown0 hcn hco hgn
 obtain ⟨n,hn⟩: ∃n,(curL top r).length=n:=⟨_,rfl⟩
 rw [hn] at hown0 hcn hco hgn hcl hcc
 have kc:W5.cell? ⟨cb,co,none⟩=some (.slice A n c):=(blk_cell hcb co).trans hco
 have v0:W5.cell? ⟨vb,0,none⟩=some (.int .i64 T.f0):=blk_cell HV5.out 0
 have v1:W5.cell? ⟨vb,1,none⟩=some (.int .i64 T.f1):=blk_cell HV5.out 1
 have v2:W5.cell? ⟨vb,2,none⟩=some (.string T.f2):=blk_cell HV5.out 2
 have v3:W5.cell? ⟨vb,3,none⟩=some (.int .i64 T.f3):=blk_cell HV5.out 3
 have v4:W5.cell? ⟨vb,4,none⟩=some (.int .i64 T.f4):=blk_cell HV5.out 4
 have v5:W5.cell? ⟨vb,5,none⟩=some (.string T.f2):=blk_cell HV5.out 5
 have v6:W5.cell? ⟨vb,6,none⟩=some (.slice A6 n6 c6):=blk_cell HV5.out 6
 -- what is not ours: the result, and the variable
 have hZ:Hid (∀k,(k=vb∨k=rb∨Z k)→k<W5.heap.size∧o k=0∧k≠g∧ ∀f'∈r,k≠f'.blk):=Lib.hid (by
  intro k hk
  rcases hk with hk|hk|hk
  ·subst hk
   have h9:=HRB.out
   refine ⟨by omega,HCLIP.out _ (by omega),by omega,fun f' hf'=> ?_⟩
   have:=blk_lt (H0.out.frs f' (List.mem_cons_of_mem _ hf')).1
   omega
  ·subst hk
   have h9:=HRB.out
   refine ⟨by omega,HCLIP.out _ (by omega),by omega,fun f' hf'=> ?_⟩
   have:=blk_lt (H0.out.frs f' (List.mem_cons_of_mem _ hf')).1
   omega
  ·exact ⟨by have:=(HZ0'.out k hk).1;have:=HRB.out;omega,(HZ0'.out k hk).2⟩)
 have hvn:some vb≠(Value.slice A n c).ownBlock:=fun e=>by
  have h1:=H5.out.curR.1 vb (by rw [hv,hn];exact e.symm)
  have h1:o vb=curO r:=h1
  rw [(hZ.out vb (.inl rfl)).2.1] at h1
  cases r<;>simp [curO] at h1
 have hvc:vb≠cb:=by
  rintro rfl
  have h1:=HCA.out
  cases r with
  |nil=>
   injection h1 with h1
   exact (hZ.out vb (.inl rfl)).2.2.1 h1.symm
  |cons f' r'=>
   injection h1 with h1
   exact (hZ.out vb (.inl rfl)).2.2.2 f' List.mem_cons_self h1.symm
 have hrn:some rb≠(Value.slice A n c).ownBlock:=fun e=>by
  have h1:=H5.out.curR.1 rb (by rw [hv,hn];exact e.symm)
  have h1:o rb=curO r:=h1
  rw [(hZ.out rb (.inr (.inl rfl))).2.1] at h1
  cases r<;>simp [curO] at h1
 have hrc:rb≠cb:=by
  rintro rfl
  have h1:=HCA.out
  cases r with
  |nil=>
   injection h1 with h1
   exact (hZ.out rb (.inr (.inl rfl))).2.2.1 h1.symm
  |cons f' r'=>
   injection h1 with h1
   exact (hZ.out rb (.inr (.inl rfl))).2.2.2 f' List.mem_cons_self h1.symm
 have hS: ∀w',Kc W5 (.slice A n c) cb co w'→(w'.cell? ⟨vb,0,none⟩=some (.int .i64 T.f0)∧w'.cell? ⟨vb,1,none⟩=some (.int .i64 T.f1)∧w'.cell? ⟨vb,2,none⟩=some (.string T.f2)∧w'.cell? ⟨vb,3,none⟩=some (.int .i64 T.f3)∧w'.cell? ⟨vb,4,none⟩=some (.int .i64 T.f4)∧w'.cell? ⟨vb,5,none⟩=some (.string T.f2)∧w'.cell? ⟨vb,6,none⟩=some (.slice A6 n6 c6)):=by
  intro w' hk
  have hq: ∀i,¬(vb=cb∧i=co):=fun i h=>hvc h.1
  have hvl:vb<W5.heap.size:=(hZ.out vb (.inl rfl)).1
  exact ⟨(hk.2 _ hvl hvn (hq _)).trans v0,(hk.2 _ hvl hvn (hq _)).trans v1,(hk.2 _ hvl hvn (hq _)).trans v2,(hk.2 _ hvl hvn (hq _)).trans v3,(hk.2 _ hvl hvn (hq _)).trans v4,(hk.2 _ hvl hvn (hq _)).trans v5,(hk.2 _ hvl hvn (hq _)).trans v6⟩
 have hlt0:w.heap.size≤W5.heap.size:=H5.out.bel.size
 have x5:(0:Int)≤(n:Int):=by omega
 have x6:(n:Int)<(n:Int)+1:=by omega
 have HO:=Lib.hid hown0
 have HCB:=Lib.hid hcb
 have HCO:=Lib.hid hco
 have HN:=Lib.hid hn
 have HV:=Lib.hid hv
 clear hown0 hcb hco hn hv hown
 obtain ⟨g9,cap9,w1,happ,hown1,hgrow,hat9,hlt9⟩:=run_append_lies (P:=Tryz.prog) (W5.alloc (.cells #[.int .i64 0,.int .i64 0,.string ⟨#[]⟩,.int .i64 0,.int .i64 0,.string ⟨#[]⟩,.slice none 0 0] 49 (0,0))).drew 25 25 w.heap.size 49 i0 (.agg #[.int .i64 0,.int .i64 0,.string ⟨#[]⟩,.int .i64 0,.int .i64 0,.string ⟨#[]⟩,.slice none 0 0]) 7 88 Tryz.underlying25 HI0.out HZ0.out HZ1.out HZ2.out rfl (by decide) (.slice A n c) n inner (own_drew (HO.out.alloc _)) ⟨W5.heap.size,0,none⟩ 1 1 zFrag rfl (World.news_of_block (blk_drew (blk_new _ _))) (by simp [zFrag,Value.oneCell']) (by decide) (by simp only [maxLen];omega) (by omega) (by simp;omega) (W5.heap.size+1) (by simp)
 replace happ:(appSem #[25,25] 25 #[.slice A n c,.slice (some ⟨W5.heap.size,0,none⟩) 1 1]).run Tryz.prog _=_:=happ
 obtain ⟨⟨y0,y1,y2,y3,y4,y5,y6⟩,⟨z0,z1,z2,z3,z4,z5,z6⟩⟩:=last_cells hown1
 have kc1:w1.cell? ⟨cb,co,none⟩=some (.slice A n c):=(blk_cell (blk_grown (blk_drew (blk_alloc HCB.out _)) hgrow hcn) co).trans HCO.out
 have fc0:W5.frozen? ⟨cb,co,none⟩=false:=blk_frozen HCB.out co
 have fc1:w1.frozen? ⟨cb,co,none⟩=false:=blk_frozen (blk_grown (blk_drew (blk_alloc HCB.out _)) hgrow hcn) co
 have hne9:cb≠g9:=by
  rintro rfl
  rcases hat9 with e|e
  ·exact hcn e.symm
  ·have:=blk_lt HCB.out
   omega
 have hne9':g9≠cb:=fun e=>hne9 e.symm
 have HKA:Kc W5 (.slice A n c) cb co w1:=Kc.grown (Kc.drew (Kc.alloc (Kc.refl _ _ _ _) _)) hgrow
 have kca:(W5.alloc (.cells #[.int .i64 0,.int .i64 0,.string ⟨#[]⟩,.int .i64 0,.int .i64 0,.string ⟨#[]⟩,.slice none 0 0] 49 (0,0))).cell? ⟨cb,co,none⟩=some (.slice A n c):=(blk_cell (blk_alloc HCB.out _) co).trans HCO.out
 obtain ⟨a0,a1,a2,a3,a4,a5,a6⟩:=hS (W5.alloc (.cells #[.int .i64 0,.int .i64 0,.string ⟨#[]⟩,.int .i64 0,.int .i64 0,.string ⟨#[]⟩,.slice none 0 0] 49 (0,0))) (Kc.alloc (Kc.refl _ _ _ _) _)
 obtain ⟨b0,b1,b2,b3,b4,b5,b6⟩:=hS w1 HKA
 obtain ⟨d0,d1,d2,d3,d4,d5,d6⟩:=hS (w1.setCell ⟨cb,co,none⟩ (.slice (some ⟨g9,0,none⟩) (n+1) cap9)) (Kc.setCur HKA _)
 clear hS
 have HV1:=Lib.hid (blk_grown (blk_drew (blk_alloc HV5.out (.cells #[.int .i64 0,.int .i64 0,.string ⟨#[]⟩,.int .i64 0,.int .i64 0,.string ⟨#[]⟩,.slice none 0 0] 49 (0,0)))) hgrow hvn)
 have HR1:=Lib.hid (blk_grown (blk_drew (blk_alloc HRR5.out (.cells #[.int .i64 0,.int .i64 0,.string ⟨#[]⟩,.int .i64 0,.int .i64 0,.string ⟨#[]⟩,.slice none 0 0] 49 (0,0)))) hgrow hrn)
 have hv9:vb≠g9:=by
  rintro rfl
  rcases hat9 with e|e
  ·exact hvn e.symm
  ·have:=blk_lt HV5.out
   omega
 have hr9:rb≠g9:=by
  rintro rfl
  rcases hat9 with e|e
  ·exact hrn e.symm
  ·have:=blk_lt HRR5.out
   omega
 have HOWN:=Lib.hid hown1
 have HGROW:=Lib.hid hgrow
 have HAT:=Lib.hid hat9
 have HVN:=Lib.hid hvn
 have HRN:=Lib.hid hrn
 have HHC:=Lib.hid hcn
 have KEY:Hid (∀wc:World,(wc=(((((((w1.setCell ⟨g9,n*7,none⟩ (.int .i64 T.f0)).setCell ⟨g9,n*7+1,none⟩ (.int .i64 T.f1)).setCell ⟨g9,n*7+2,none⟩ (.string T.f2)).setCell ⟨g9,n*7+3,none⟩ (.int .i64 T.f3)).setCell ⟨g9,n*7+4,none⟩ (.int .i64 T.f4)).setCell ⟨g9,n*7+5,none⟩ (.string T.f2)).setCell ⟨g9,n*7+6,none⟩ (.slice A6 n6 c6)).setCell ⟨cb,co,none⟩ (.slice (some ⟨g9,0,none⟩) (n+1) cap9)∨wc=((((((((w1.setCell ⟨cb,co,none⟩ (.slice (some ⟨g9,0,none⟩) (n+1) cap9)).setCell ⟨g9,n*7,none⟩ (.int .i64 T.f0)).setCell ⟨g9,n*7+1,none⟩ (.int .i64 T.f1)).setCell ⟨g9,n*7+2,none⟩ (.string T.f2)).setCell ⟨g9,n*7+3,none⟩ (.int .i64 T.f3)).setCell ⟨g9,n*7+4,none⟩ (.int .i64 T.f4)).setCell ⟨g9,n*7+5,none⟩ (.string T.f2)).setCell ⟨g9,n*7+6,none⟩ (.slice A6 n6 c6)))→(Hid (RdZ w g A0 c0 l A1 c1 ws at_ (addT top ⟨T,T.f2,f.kids⟩ r) (addP ⟨T,T.f2,f.kids⟩ (r.map Fr.pf)) (fun k=>k=vb∨k=rb∨Z k) wc)∧Hid (wc.heap[vb]? =some (.cells #[.int .i64 T.f0,.int .i64 T.f1,.string T.f2,.int .i64 T.f3,.int .i64 T.f4,.string T.f2,.slice A6 n6 c6] 49 (0,0)))∧Hid (wc.heap[rb]? =some (.cells #[.int .i64 0,.int .i64 0,.string ⟨#[]⟩,.int .i64 0,.int .i64 0,.string ⟨#[]⟩,.slice none 0 0] 49 (0,0)))∧Hid (∀W',(∀k,k≠rb→ ¬Z k→W'.heap[k]? =wc.heap[k]?)→Kd.C k49 W' A6 f.kids.length f.kids)∧Hid (∀k,Z k→wc.heap[k]? =W.heap[k]?))):=Lib.hid (by
  intro wc hwc
  obtain ⟨e1,e2⟩:=Rd.ended H5.out HCA.out (by rw [HV.out,HN.out]) HN.out HIN.out (z:=.cells #[.int .i64 0,.int .i64 0,.string ⟨#[]⟩,.int .i64 0,.int .i64 0,.string ⟨#[]⟩,.slice none 0 0] 49 (0,0)) HGROW.out HOWN.out HAT.out (x:=⟨T,T.f2,f.kids⟩) (okx:=fun k=>o k=f.blk+3) (y0:=.int .i64 T.f0) (y1:=.int .i64 T.f1) (y2:=.string T.f2) (y3:=.int .i64 T.f3) (y4:=.int .i64 T.f4) (y5:=.string T.f2) (y6:=.slice A6 n6 c6) (by
    have h6:=k49_mkM W5 w.heap.size (fun k=>o k=f.blk+3) ⟨T,T.f2,f.kids⟩ HR5.out
    rw [HKV.out,HN6.out] at h6
    exact h6) (fun k hk=>by
    refine ⟨by omega,by omega,by omega,fun f' hf' e=> ?_⟩
    have:=(List.pairwise_cons.1 H0.out.nd).1 f' hf'
    omega) hZ.out hwc
  refine ⟨Lib.hid e1,Lib.hid ?_,Lib.hid ?_,Lib.hid ?_,Lib.hid ?_⟩
  ·exact e2.blk HV5.out (by rw [HCA.out,HV.out,HN.out];rintro (h|h);exact hvc h;exact HVN.out h)
  ·exact e2.blk HRR5.out (by rw [HCA.out,HV.out,HN.out];rintro (h|h);exact hrc h;exact HRN.out h)
  ·have h7:=Kd.R_move (Kd.R_bound HR5.out) (fun k hk=>e2.block k hk.2.2.1 (by
    have h1:o k=f.blk+3:=hk.1
    rintro (h|h)
    ·have h2:o (curA g r).block=0:=by
      cases r with
      |nil=>exact H5.out.og
      |cons f' r'=>exact (H5.out.frs f' List.mem_cons_self).2.1
     rw [←h,h1] at h2
     omega
    ·have h2:o k=curO r:=H5.out.curR.1 k h.symm
     rw [h1] at h2
     cases r with
     |nil=>simp [curO] at h2
     |cons f' r'=>
      have:=(List.pairwise_cons.1 H0.out.nd).1 f' List.mem_cons_self
      simp only [curO] at h2
      omega))
   intro W' hw
   have h8:=Kd.R_move h7 (fun k hk=>hw k (by
    rintro rfl
    have h1:o k=f.blk+3:=hk.1
    rw [(hZ.out k (.inr (.inl rfl))).2.1] at h1
    omega) (by
    intro hz
    have h1:o k=f.blk+3:=hk.1
    rw [(hZ.out k (.inr (.inr hz))).2.1] at h1
    omega))
   rw [HKV.out] at h8
   exact (Kd.R_reads' h8).2.2
  ·intro k hk
   have hz:=hZ.out k (.inr (.inr hk))
   refine (e2.block k hz.1 ?_).trans (HZ5.out k hk)
   rintro (h|h)
   ·cases r with
    |nil=>exact hz.2.2.1 h
    |cons f' r'=>exact hz.2.2.2 f' List.mem_cons_self h
   ·have h2:o k=curO r:=H5.out.curR.1 k h.symm
    rw [hz.2.1] at h2
    cases r<;>simp [curO] at h2)
 have HS5:=Lib.hid hs5
 have HS4:=Lib.hid hs4
 clear hown1 hgrow hat9 HI0 HZ0 HZ1 HZ2 HKA hcn hs5 hs4
 go_upto_region 7 with (fail)
 go_cut [] (fun wc=>Hid (RdZ w g A0 c0 l A1 c1 ws at_ (addT top ⟨T,T.f2,f.kids⟩ r) (addP ⟨T,T.f2,f.kids⟩ (r.map Fr.pf)) (fun k=>k=vb∨k=rb∨Z k) wc)∧Hid (wc.heap[vb]? =some (.cells #[.int .i64 T.f0,.int .i64 T.f1,.string T.f2,.int .i64 T.f3,.int .i64 T.f4,.string T.f2,.slice A6 n6 c6] 49 (0,0)))∧Hid (wc.heap[rb]? =some (.cells #[.int .i64 0,.int .i64 0,.string ⟨#[]⟩,.int .i64 0,.int .i64 0,.string ⟨#[]⟩,.slice none 0 0] 49 (0,0)))∧Hid (∀W',(∀k,k≠rb→ ¬Z k→W'.heap[k]? =wc.heap[k]?)→Kd.C k49 W' A6 f.kids.length f.kids)∧Hid (∀k,Z k→wc.heap[k]? =W.heap[k]?))
 case first=>
  go_region
  all_goals go_wp2
  all_goals go_meet
  all_goals case rel=>
   exact KEY.out _ (by first|(left;with_reducible rfl)|(right;with_reducible rfl))
 case rest=>
  obtain ⟨HF,HVF,HRF,HCF,HZF⟩:=hcut
  clear HIN HO HCB HCO HN HV HV1 HR1 HGROW HAT HOWN HVN HHC HRN happ y0 y1 y2 y3 y4 y5 y6 z0 z1 z2 z3 z4 z5 z6 kc kc1 fc0 fc1 kca a0 a1 a2 a3 a4 a5 a6 b0 b1 b2 b3 b4 b5 b6 d0 d1 d2 d3 d4 d5 d6 v0 v1 v2 v3 v4 v5 v6 hgn hcg hvn hrn
  have v0:wc.cell? ⟨vb,0,none⟩=some (.int .i64 T.f0):=blk_cell HVF.out 0
  have v1:wc.cell? ⟨vb,1,none⟩=some (.int .i64 T.f1):=blk_cell HVF.out 1
  have v2:wc.cell? ⟨vb,2,none⟩=some (.string T.f2):=blk_cell HVF.out 2
  have v3:wc.cell? ⟨vb,3,none⟩=some (.int .i64 T.f3):=blk_cell HVF.out 3
  have v4:wc.cell? ⟨vb,4,none⟩=some (.int .i64 T.f4):=blk_cell HVF.out 4
  have v5:wc.cell? ⟨vb,5,none⟩=some (.string T.f2):=blk_cell HVF.out 5
  have v6:wc.cell? ⟨vb,6,none⟩=some (.slice A6 n6 c6):=blk_cell HVF.out 6
  have r0:wc.cell? ⟨rb,0,none⟩=some (.int .i64 0):=blk_cell HRF.out 0
  have r1:wc.cell? ⟨rb,1,none⟩=some (.int .i64 0):=blk_cell HRF.out 1
  have r2:wc.cell? ⟨rb,2,none⟩=some (.string ⟨#[]⟩):=blk_cell HRF.out 2
  have r3:wc.cell? ⟨rb,3,none⟩=some (.int .i64 0):=blk_cell HRF.out 3
  have r4:wc.cell? ⟨rb,4,none⟩=some (.int .i64 0):=blk_cell HRF.out 4
  have r5:wc.cell? ⟨rb,5,none⟩=some (.string ⟨#[]⟩):=blk_cell HRF.out 5
  have r6:wc.cell? ⟨rb,6,none⟩=some (.slice none 0 0):=blk_cell HRF.out 6
  have f0:wc.frozen? ⟨rb,0,none⟩=false:=blk_frozen HRF.out 0
  have f1:wc.frozen? ⟨rb,1,none⟩=false:=blk_frozen HRF.out 1
  have f2:wc.frozen? ⟨rb,2,none⟩=false:=blk_frozen HRF.out 2
  have f3:wc.frozen? ⟨rb,3,none⟩=false:=blk_frozen HRF.out 3
  have f4:wc.frozen? ⟨rb,4,none⟩=false:=blk_frozen HRF.out 4
  have f5:wc.frozen? ⟨rb,5,none⟩=false:=blk_frozen HRF.out 5
  have f6:wc.frozen? ⟨rb,6,none⟩=false:=blk_frozen HRF.out 6
  go_wp2
  obtain ⟨WF,hWF⟩: ∃WF,((((((wc.setCell ⟨rb,0,none⟩ (.int .i64 T.f0)).setCell ⟨rb,1,none⟩ (.int .i64 T.f1)).setCell ⟨rb,2,none⟩ (.string T.f2)).setCell ⟨rb,3,none⟩ (.int .i64 T.f3)).setCell ⟨rb,4,none⟩ (.int .i64 T.f4)).setCell ⟨rb,5,none⟩ (.string T.f2)).setCell ⟨rb,6,none⟩ (.slice A6 n6 c6)=WF:=⟨_,rfl⟩
  rw [hWF]
  have hrw:w.heap.size≤rb:=by
   have:=H0.out.bel.size
   have:=HRB.out
   omega
  have hZF:=hWF▸(((((((HF.out.far (.inr (.inl rfl)) hrw 0 _).far (.inr (.inl rfl)) hrw 1 _).far (.inr (.inl rfl)) hrw 2 _).far (.inr (.inl rfl)) hrw 3 _).far (.inr (.inl rfl)) hrw 4 _).far (.inr (.inl rfl)) hrw 5 _).far (.inr (.inl rfl)) hrw 6 _)
  have hbF:WF.heap[rb]? =some (.cells #[.int .i64 T.f0,.int .i64 T.f1,.string T.f2,.int .i64 T.f3,.int .i64 T.f4,.string T.f2,.slice A6 n6 c6] 49 (0,0)):=hWF▸blk_put (blk_put (blk_put (blk_put (blk_put (blk_put (blk_put HRF.out 0 _ rfl) 1 _ rfl) 2 _ rfl) 3 _ rfl) 4 _ rfl) 5 _ rfl) 6 _ rfl
  have hCF: ∀W2:World,(∀k,¬Z k→W2.heap[k]? =WF.heap[k]?)→Kd.C k49 W2 A6 f.kids.length f.kids:=fun W2 hw2=>HCF.out W2 (fun k hk hz=>by
   refine (hw2 k hz).trans ?_
   rw [←hWF]
   exact (Below.heap_setCell _ _ _ k hk).trans ((Below.heap_setCell _ _ _ k hk).trans ((Below.heap_setCell _ _ _ k hk).trans ((Below.heap_setCell _ _ _ k hk).trans ((Below.heap_setCell _ _ _ k hk).trans ((Below.heap_setCell _ _ _ k hk).trans (Below.heap_setCell _ _ _ k hk)))))))
  have z0:WF.cell? ⟨rb,0,none⟩=some (.int .i64 T.f0):=blk_cell hbF 0
  have z1:WF.cell? ⟨rb,1,none⟩=some (.int .i64 T.f1):=blk_cell hbF 1
  have z2:WF.cell? ⟨rb,2,none⟩=some (.string T.f2):=blk_cell hbF 2
  have z3:WF.cell? ⟨rb,3,none⟩=some (.int .i64 T.f3):=blk_cell hbF 3
  have z4:WF.cell? ⟨rb,4,none⟩=some (.int .i64 T.f4):=blk_cell hbF 4
  have z5:WF.cell? ⟨rb,5,none⟩=some (.string T.f2):=blk_cell hbF 5
  have z6:WF.cell? ⟨rb,6,none⟩=some (.slice A6 n6 c6):=blk_cell hbF 6
  refine bodyPost_ret (v:=.agg #[.int .i64 T.f0,.int .i64 T.f1,.string T.f2,.int .i64 T.f3,.int .i64 T.f4,.string T.f2,.slice A6 n6 c6]) (by simp [results,Tryz.results128,go_sem,z0,z1,z2,z3,z4,z5,z6]) rfl ?_
  refine ⟨A6,c6,by rw [HN6.out],HLE.out,hCF, ?_⟩
  rw [addT_map]
  obtain ⟨o2,tv2,sv2,fs2,hq1,hq2,hq3⟩:=hZF
  refine ⟨⟨o2,tv2,sv2,fs2,hq1,hq2,fun k hk=>hq3 k (.inr (.inr hk))⟩,fun k hk=> ?_⟩
  have hkr:k≠rb:=by
   have:=(HZ0'.out k hk).1
   have:=HRB.out
   omega
  rw [←hWF]
  exact ((Below.heap_setCell _ _ _ k hkr).trans ((Below.heap_setCell _ _ _ k hkr).trans ((Below.heap_setCell _ _ _ k hkr).trans ((Below.heap_setCell _ _ _ k hkr).trans ((Below.heap_setCell _ _ _ k hkr).trans ((Below.heap_setCell _ _ _ k hkr).trans (Below.heap_setCell _ _ _ k hkr))))))).trans (HZF.out k hk)
end
end Go.Proofs.YtipnlgmeonepfaaGreatDoor.PFa

set_option linter.unusedVariables false
set_option linter.unusedSimpArgs false
namespace Go.Proofs.YtipnlgmeonepfaaGreatDoor.PFa
open Go.RowKit Go.Proofs.YtipnlgmeonepfaaGreatDoorW.PrintWords Go.Proofs.YtipnlgmeonepfaaGreatDoorW.PrintLast Go.Proofs.YtipnlgmeonepfaaGreatDoorW.PrintMore
open Go.Proofs.YtipnlgmeonepfaaGreatDoor.Lx (Kp)
/-- Is the token so many behind the present one the name of what has been closed? -/
def nameAt (l:List Tk) (at_:Nat) (kids:List Fg) (n:Nat):Bool:=
 match kids with
 |[]=>false
 |k::_=>decide (k.f1=⟨#[]⟩)&&(k.f0.f0==1)&&isNm l (at_+n) k.f0.f2
section
variable {w W W':World} {g:Nat} {A0:Option Addr} {c0:Nat} {l:List Tk} {A1:Option Addr} {c1:Nat} {ws:List ByteArray} {o:Nat→Nat} {at_:Nat} {tv:Value} {top:List Fg} {sv:Value} {fs:List Fr} {ps:List PF}
set_option maxHeartbeats 6400000 in
set_option maxRecDepth 100000 in
/-- The closure named of close: f lies in block fb, the reader's pointer in block rb. -/
theorem namedAt_c (h:Rd w g A0 c0 l A1 c1 ws o at_ tv top sv fs W) (hC:Kd.C k39 w A0 l.length l) (hl:l.length≤6000) (hat:at_≤6000) {fb rb:Nat} {T:Tk} {op:ByteArray} {A:Option Addr} {c:Nat} {kids:List Fg} (hf:W.heap[fb]? =some (.cells #[.int .i64 T.f0,.int .i64 T.f1,.string T.f2,.int .i64 T.f3,.int .i64 T.f4,.string op,.slice A kids.length c] 49 (0,0))) (hr:W.heap[rb]? =some (.cells #[.pointer (some ⟨g,0,none⟩)] 68 (0,0))) (hk:Kd.C k49 W A kids.length kids) (n:Nat) (hn:n≤2):
  Calls Tryz.prog 129 #[.int .i64 n,.pointer (some ⟨fb,0,none⟩),.pointer (some ⟨rb,0,none⟩)] W fun e W'=>e=.returned (.bool (nameAt l at_ kids n))∧Drawn0 W W':=by
 have v6:W.cell? ⟨fb,6,none⟩=some (.slice A kids.length c):=blk_cell hf 6
 have r0:W.cell? ⟨rb,0,none⟩=some (.pointer (some ⟨g,0,none⟩)):=blk_cell hr 0
 have k1:W.cell? ⟨g,1,none⟩=some (.int .i64 at_):=blk_cell h.blk 1
 have x1:IntKind.i64.wrap ((at_:Int)+n)=(at_:Int)+n:=IntWalk.i64_in _ (by omega)
 cases kids with
 |nil=>
  have e0:nameAt l at_ [] n=false:=rfl
  rw [e0]
  rw [List.length_nil] at v6
  clear h hC hf hr hk e0
  go_enter Tryz.func129,Tryz.ntmps129
  go_wp2
  go_quiet (fail)
  go_wp2
  go_ret
  exact ⟨rfl,⟨_,rfl⟩⟩
 |cons k r=>
  have e0:nameAt l at_ (k::r) n=(decide (k.f1=⟨#[]⟩)&&(k.f0.f0==1)&&isNm l (at_+n) k.f0.f2):=rfl
  have HN:=Lib.hid (fun (W':World) (hb:Below W.heap.size W W')=>isName_c (h.below hb) hC hl (at_+n) k.f0.f2)
  simp only [Int.natCast_add] at HN
  obtain ⟨ad,A6,c6,had,t0,_,t2,_,_,t5,_⟩:=at_T49 hk 0 (by omega) (by simp)
  subst had
  have hrd:rd_T49 (k::r) 0=k:=rfl
  rw [hrd] at t0 t2 t5
  simp only [Int.toNat_zero,Nat.zero_mul] at t0 t2 t5
  have hz:ad.add 0=ad:=by simp [go_sem]
  rw [hz] at t0 t2 t5
  obtain ⟨m,hm⟩: ∃m,(k::r).length=m:=⟨_,rfl⟩
  rw [hm] at v6
  have hmp:0<m:=by rw [←hm];simp
  have y0:decide ((0:Int)<(m:Int))=true:=decide_eq_true (by omega)
  have y1:decide (0<m)=true:=decide_eq_true hmp
  have y2:(0:Int)<(m:Int):=by omega
  rw [e0]
  clear h hC hf hr hk e0 hrd hm hz
  obtain ⟨S,hS⟩: ∃S,k.f1=S:=⟨_,rfl⟩
  obtain ⟨K0,hK0⟩: ∃K,k.f0.f0=K:=⟨_,rfl⟩
  obtain ⟨U,hU⟩: ∃K,k.f0.f2=K:=⟨_,rfl⟩
  rw [hS,hK0,hU]
  rw [hS] at t5
  rw [hK0] at t0
  rw [hU] at t2 HN
  obtain ⟨b3,hb3⟩: ∃b,isNm l (at_+n) U=b:=⟨_,rfl⟩
  rw [hb3] at HN⊢
  clear hS hK0 hU hb3
  by_cases h1:S=⟨#[]⟩
  ·have z1:S.toList.isEmpty=true:=by rw [h1];decide+kernel
   have z2:(S.toList==[])=true:=by rw [h1];decide+kernel
   rw [decide_eq_true h1,Bool.true_and]
   clear h1
   by_cases h2:K0=1
   ·have z3:(K0==1)=true:=beq_iff_eq.2 h2
    rw [z3,Bool.true_and]
    clear h2
    go_enter Tryz.func129,Tryz.ntmps129
    go_wp2
    go_quiet ((go_at_call 76;exact Lx.quiet0 (HN.out _ (pw_below_drewN (Below.refl _ _) _))))
    go_wp2
    go_ret
    exact ⟨rfl,⟨_,rfl⟩⟩
   ·have z3:(K0==1)=false:=beq_eq_false_iff_ne.2 h2
    rw [z3,Bool.false_and]
    clear h2
    go_enter Tryz.func129,Tryz.ntmps129
    go_wp2
    go_quiet (fail)
    go_wp2
    go_ret
    exact ⟨rfl,⟨_,rfl⟩⟩
  ·have z1:S.toList.isEmpty=false:=by
    cases hq:S.toList.isEmpty with
    |false=>rfl
    |true=>exact absurd ((toList_eq S ⟨#[]⟩).1 ((List.isEmpty_iff.1 hq).trans (by decide+kernel))) h1
   have z2:(S.toList==[])=false:=by rw [←z1];cases S.toList<;>rfl
   rw [decide_eq_false h1,Bool.false_and,Bool.false_and]
   clear h1
   go_enter Tryz.func129,Tryz.ntmps129
   go_wp2
   go_quiet (fail)
   go_wp2
   go_ret
   exact ⟨rfl,⟨_,rfl⟩⟩
end
end Go.Proofs.YtipnlgmeonepfaaGreatDoor.PFa

set_option linter.unusedVariables false
set_option linter.unusedSimpArgs false
namespace Go.Proofs.YtipnlgmeonepfaaGreatDoor.PFa
open Go.RowKit Go.Proofs.YtipnlgmeonepfaaGreatDoorW.PrintWords Go.Proofs.YtipnlgmeonepfaaGreatDoorW.PrintLast Go.Proofs.YtipnlgmeonepfaaGreatDoorW.PrintMore
open Go.Proofs.YtipnlgmeonepfaaGreatDoor.Lx (Kp)
def cClass:List UInt8:=[99,108,97,115,115]
def cMethod:List UInt8:=[109,101,116,104,111,100]
def cMacro:List UInt8:=[109,97,99,114,111]
/-- How many names behind a group's end are dropped. -/
def dropN (l:List Tk) (at_:Nat) (T:Tk) (kids:List Fg):Nat:=
 if T.f2.toList=cClass∨T.f2.toList=cMethod∨T.f2.toList=cMacro then
  if isNm l (at_+1) T.f2=true∧nameAt l at_ kids 2=true∧stopsB l (at_+3)=true then 2
  else if (isNm l (at_+1) T.f2=true∨nameAt l at_ kids 1=true)∧stopsB l (at_+2)=true then 1 else 0
 else 0
section
variable {w W W':World} {g:Nat} {A0:Option Addr} {c0:Nat} {l:List Tk} {A1:Option Addr} {c1:Nat} {ws:List ByteArray} {o:Nat→Nat} {at_:Nat} {tv:Value} {top:List Fg} {sv:Value} {fs:List Fr} {ps:List PF}
/-- finish in whatever world behind W: what is new since W is not ours. -/
theorem finish_new {f:Fr} {r:List Fr} (h:Rd w g A0 c0 l A1 c1 ws o at_ tv top sv (f::r) W) (hfs:r.length+1≤100) (hcl:(curL top r).length≤6000) (tx:ByteArray) (htx:closeTx f.tok.f2=tx) (hb:Below W.heap.size W W') {Z:Nat→Prop} (hZ: ∀k,Z k→k<W.heap.size∧o k=0∧k≠g∧ ∀f'∈f::r,k≠f'.blk):
  Calls Tryz.prog 128 #[.pointer (some ⟨g,0,none⟩),.string tx] W' (FinPost w g A0 c0 l A1 c1 ws at_ top (r.map Fr.pf) (fun k=>Z k∨(W.heap.size≤k∧k<W'.heap.size)) W' f.tok f.kids):=by
 obtain ⟨o',h',hc,hco⟩:=h.clip
 refine finish_c (h'.below hb) hfs hcl tx htx ?_
 rintro k (hk|hk)
 ·exact ⟨Nat.lt_of_lt_of_le (hZ k hk).1 hb.size,(hco k (hZ k hk).1).trans (hZ k hk).2.1,(hZ k hk).2.2.1,fun f' hf'=>(hZ k hk).2.2.2 f' (List.mem_cons_of_mem _ hf')⟩
 ·refine ⟨hk.2,hc k hk.1, ?_,fun f' hf'=> ?_⟩
  ·have:=blk_lt h.blk
   omega
  ·have:=blk_lt (h.frs f' (List.mem_cons_of_mem _ hf')).1
   omega
/-- What lies in memory behind finish, in close: the group in a block of its own, the reader's pointer in another. -/
structure CloseMid (w:World) (g:Nat) (A0:Option Addr) (c0:Nat) (l:List Tk) (A1:Option Addr) (c1:Nat) (ws:List ByteArray) (at_:Nat) (top:List Fg) (ps:List PF) (rb fb:Nat) (T:Tk) (kids:List Fg) (A:Option Addr) (c:Nat) (Z:Nat→Prop) (W0:World) (W:World):Prop where
 rd:RdZ w g A0 c0 l A1 c1 ws at_ (addT top ⟨T,T.f2,kids⟩ ps) (addP ⟨T,T.f2,kids⟩ ps) Z W
 zk: ∀k,Z k→W.heap[k]? =W0.heap[k]?
 rp:W.heap[rb]? =some (.cells #[.pointer (some ⟨g,0,none⟩)] 68 (0,0))
 fp:W.heap[fb]? =some (.cells #[.int .i64 T.f0,.int .i64 T.f1,.string T.f2,.int .i64 T.f3,.int .i64 T.f4,.string T.f2,.slice A kids.length c] 49 (0,0))
 kc:Kd.C k49 W A kids.length kids
/-- But for one block, what lay in W lies as it lay. -/
def Kb (b:Nat) (W W':World):Prop:=W.heap.size≤W'.heap.size∧ ∀a:Addr,a.block<W.heap.size→a.block≠b→W'.cell? a=W.cell? a
theorem Kb.refl (b:Nat) (W:World):Kb b W W:=⟨Nat.le_refl _,fun _ _ _=>rfl⟩
theorem Kb.alloc {b:Nat} {W X:World} (h:Kb b W X) (o:Obj):Kb b W (X.alloc o):=⟨by simp;have:=h.1;omega,fun a ha hb=>(World.cell?_of_block (w:=X) (Below.heap_alloc X o a.block (by have:=h.1;omega))).trans (h.2 a ha hb)⟩
theorem Kb.set {b:Nat} {W X:World} (h:Kb b W X) (i:Nat) (u:Value):Kb b W (X.setCell ⟨b,i,none⟩ u):=⟨by simpa using h.1,fun a ha hb=>(World.cell?_setCell_far X ⟨b,i,none⟩ a u (fun e=>hb e.symm)).trans (h.2 a ha hb)⟩
theorem Kb.cell {b:Nat} {W X:World} (h:Kb b W X) {a:Addr} {v:Value} (hc:W.cell? a=some v) (hb:a.block≠b):X.cell? a=some v:=(h.2 a (World.block_lt_of_cell? W a hc) hb).trans hc
theorem seven_cells {W:World} {b:Nat} {t:TypeId} {a0 a1 a2 a3 a4 a5 a6:Value} (h:W.heap[b]? =some (.cells #[a0,a1,a2,a3,a4,a5,a6] t (0,0))):W.cell? ⟨b,0,none⟩=some a0∧W.cell? ⟨b,1,none⟩=some a1∧W.cell? ⟨b,2,none⟩=some a2∧W.cell? ⟨b,3,none⟩=some a3∧W.cell? ⟨b,4,none⟩=some a4∧W.cell? ⟨b,5,none⟩=some a5∧W.cell? ⟨b,6,none⟩=some a6∧
  W.frozen? ⟨b,0,none⟩=false∧W.frozen? ⟨b,1,none⟩=false∧W.frozen? ⟨b,2,none⟩=false∧W.frozen? ⟨b,3,none⟩=false∧W.frozen? ⟨b,4,none⟩=false∧W.frozen? ⟨b,5,none⟩=false∧W.frozen? ⟨b,6,none⟩=false:=
 ⟨blk_cell h 0,blk_cell h 1,blk_cell h 2,blk_cell h 3,blk_cell h 4,blk_cell h 5,blk_cell h 6,blk_frozen h 0,blk_frozen h 1,blk_frozen h 2,blk_frozen h 3,blk_frozen h 4,blk_frozen h 5,blk_frozen h 6⟩
/-- What close's second half needs of it. -/
structure CloseRest (w:World) (g:Nat) (A0:Option Addr) (c0:Nat) (l:List Tk) (A1:Option Addr) (c1:Nat) (ws:List ByteArray) (at_:Nat) (top:List Fg) (ps:List PF) (rb fb:Nat) (T:Tk) (kids:List Fg) (A:Option Addr) (c:Nat) (Z:Nat→Prop) (W:World):Prop where
 rd:RdZ w g A0 c0 l A1 c1 ws at_ top ps Z W
 rp:W.heap[rb]? =some (.cells #[.pointer (some ⟨g,0,none⟩)] 68 (0,0))
 fp:W.heap[fb]? =some (.cells #[.int .i64 T.f0,.int .i64 T.f1,.string T.f2,.int .i64 T.f3,.int .i64 T.f4,.string T.f2,.slice A kids.length c] 49 (0,0))
 kc:Kd.C k49 W A kids.length kids
section
variable {rb fb:Nat} {T:Tk} {kids:List Fg} {A:Option Addr} {c:Nat} {Z:Nat→Prop}
theorem CloseRest.below (h:CloseRest w g A0 c0 l A1 c1 ws at_ top ps rb fb T kids A c Z W) (hb:Below W.heap.size W W'):CloseRest w g A0 c0 l A1 c1 ws at_ top ps rb fb T kids A c Z W':=by
 obtain ⟨⟨o,tv,sv,fs,h1,h2⟩,h3,h4,h5⟩:=h
 exact ⟨⟨o,tv,sv,fs,h1.below hb,h2⟩,blk_below h3 hb,blk_below h4 hb,Kd.C_below h5 hb⟩
theorem CloseRest.isName (h:CloseRest w g A0 c0 l A1 c1 ws at_ top ps rb fb T kids A c Z W) (hC:Kd.C k39 w A0 l.length l) (hl:l.length≤6000) (i:Nat) (s:ByteArray):Calls Tryz.prog 76 #[.pointer (some ⟨g,0,none⟩),.int .i64 i,.string s] W fun e W'=>e=.returned (.bool (isNm l i s))∧Drawn0 W W':=by
 obtain ⟨⟨o,tv,sv,fs,h1,h2⟩,_⟩:=h
 exact isName_c h1 hC hl i s
theorem CloseRest.named (h:CloseRest w g A0 c0 l A1 c1 ws at_ top ps rb fb T kids A c Z W) (hC:Kd.C k39 w A0 l.length l) (hl:l.length≤6000) (hat:at_≤6000) (n:Nat) (hn:n≤2):Calls Tryz.prog 129 #[.int .i64 n,.pointer (some ⟨fb,0,none⟩),.pointer (some ⟨rb,0,none⟩)] W fun e W'=>e=.returned (.bool (nameAt l at_ kids n))∧Drawn0 W W':=by
 obtain ⟨⟨o,tv,sv,fs,h1,h2⟩,h3,h4,h5⟩:=h
 exact namedAt_c h1 hC hl hat h4 h3 h5 n hn
theorem CloseRest.stops (h:CloseRest w g A0 c0 l A1 c1 ws at_ top ps rb fb T kids A c Z W) (hC:Kd.C k39 w A0 l.length l) (hl:l.length≤6000) (i:Nat):Calls Tryz.prog 130 #[.pointer (some ⟨g,0,none⟩),.int .i64 i] W fun e W'=>e=.returned (.bool (stopsB l i))∧Below W.heap.size W W':=by
 obtain ⟨⟨o,tv,sv,fs,h1,h2⟩,_⟩:=h
 exact stops_c h1 hC hl i
theorem CloseRest.cells (h:CloseRest w g A0 c0 l A1 c1 ws at_ top ps rb fb T kids A c Z W):W.cell? ⟨rb,0,none⟩=some (.pointer (some ⟨g,0,none⟩))∧W.cell? ⟨g,1,none⟩=some (.int .i64 at_)∧W.cell? ⟨fb,5,none⟩=some (.string T.f2):=by
 obtain ⟨⟨o,tv,sv,fs,h1,h2⟩,h3,h4,h5⟩:=h
 exact ⟨blk_cell h3 0,blk_cell h1.blk 1,blk_cell h4 5⟩
end
theorem lt_of_kept {W W':World} {k:Nat} (h:W'.heap[k]? =W.heap[k]?) (hk:k<W.heap.size):k<W'.heap.size:=by
 rcases Nat.lt_or_ge k W'.heap.size with h1|h1
 ·exact h1
 ·rw [Array.getElem?_eq_none h1,Array.getElem?_eq_getElem hk] at h
  cases h
theorem isNm_lt {l:List Tk} {i:Nat} {s:ByteArray} (h:isNm l i s=true):i<l.length:=by
 unfold isNm at h
 by_cases hi:i<l.length
 ·exact hi
 ·rw [decide_eq_false hi] at h
  simp at h
theorem nameAt_lt {l:List Tk} {i n:Nat} {kids:List Fg} (h:nameAt l i kids n=true):i+n<l.length:=by
 cases kids with
 |nil=>exact absurd h (by simp [nameAt])
 |cons k r=>
  unfold nameAt at h
  simp only [Bool.and_eq_true] at h
  exact isNm_lt h.2
set_option maxHeartbeats 12800000 in
set_option maxRecDepth 100000 in
theorem close_c {f:Fr} {r:List Fr} (h:Rd w g A0 c0 l A1 c1 ws o at_ tv top sv (f::r) W) (hC:Kd.C k39 w A0 l.length l) (hl:l.length≤6000) (hat:at_<l.length) (hE:Lx.Env w) (hfs:r.length+1≤100) (hcl:(curL top r).length≤6000) (htx:closeTx f.tok.f2=(tkAt l at_).f2) {Z:Nat→Prop} (hZ: ∀k,Z k→k<W.heap.size∧o k=0∧k≠g∧ ∀f'∈f::r,k≠f'.blk):
  Calls Tryz.prog 105 #[.pointer (some ⟨g,0,none⟩)] W (DropZ w g A0 c0 l A1 c1 ws at_ (addT top ⟨f.tok,f.tok.f2,f.kids⟩ (r.map Fr.pf)) (addP ⟨f.tok,f.tok.f2,f.kids⟩ (r.map Fr.pf)) (dropN l at_ f.tok f.kids) Z W):=by
 have HFIN:=Lib.hid (fun (W':World) (hb:Below W.heap.size W W')=>finish_new h hfs hcl _ htx hb hZ)
 have HZL:Hid (∀k,Z k→k<W.heap.size):=Lib.hid (fun k hk=>(hZ k hk).1)
 clear hZ
 have HC:=Lib.hid hC
 have HE:=Lib.hid hE
 obtain ⟨ad,had,t0,t1,t2,t3,t4⟩:=at_T39 (Kd.C_below hC h.bel) (at_:Int) (by omega) (by omega)
 subst had
 obtain ⟨T,hT⟩: ∃T,rd_T39 l (at_:Int)=T:=⟨_,rfl⟩
 rw [show tkAt l at_=T from hT] at HFIN
 rw [hT] at t2
 simp only [Int.toNat_natCast] at t2
 have hto:=World.block_lt_of_cell? W _ t2
 have k0:W.cell? ⟨g,0,none⟩=some (.slice (some ad) l.length c0):=blk_cell h.blk 0
 have k1:W.cell? ⟨g,1,none⟩=some (.int .i64 at_):=blk_cell h.blk 1
 have x2:(0:Int)≤(at_:Int):=by omega
 have x3:(at_:Int)<(l.length:Int):=by omega
 have H0:=Lib.hid h
 obtain ⟨ad2,had2,_,_,s2,_⟩:=at_T39 hC (at_:Int) (by omega) (by omega)
 obtain rfl:ad=ad2:=by injection had2
 rw [hT] at s2
 simp only [Int.toNat_natCast] at s2
 have HTW:=Lib.hid s2
 have hto2:=Lib.hid (World.block_lt_of_cell? w _ s2)
 clear had2 s2
 clear hC hE h hT t0 t1 t3 t4
 go_enter Tryz.func105,Tryz.ntmps105
 go_upto_region 1 with (fail)
 go_name_world W1 hW1
 have hb1:Hid (Below W.heap.size W W1):=Lib.hid (hW1▸below_alloc (Below.refl _ _) _)
 have hrb:Hid (W1.heap[W.heap.size]? =some (.cells #[.pointer (some ⟨g,0,none⟩)] 68 (0,0))):=Lib.hid (hW1▸blk_new W _)
 have k0:=pw_cell_below hb1.out k0
 have k1:=pw_cell_below hb1.out k1
 have t2:=pw_cell_below hb1.out t2
 have r0:W1.cell? ⟨W.heap.size,0,none⟩=some (.pointer (some ⟨g,0,none⟩)):=blk_cell hrb.out 0
 clear hW1
 obtain ⟨rb,hrbe⟩: ∃rb,W.heap.size=rb:=⟨_,rfl⟩
 rw [hrbe] at hrb r0⊢
 have HRB:=Lib.hid hrbe
 have hgl:g<W.heap.size:=blk_lt H0.out.blk
 have hsz1:rb<W1.heap.size:=blk_lt hrb.out
 have HS:Hid (∀w':World,Below W1.heap.size W1 w'→(w'.cell? ⟨rb,0,none⟩=some (.pointer (some ⟨g,0,none⟩))∧w'.cell? ⟨g,0,none⟩=some (.slice (some ad) l.length c0)∧w'.cell? ⟨g,1,none⟩=some (.int .i64 at_)∧w'.cell? ⟨(ad.add (at_*5)).block,(ad.add (at_*5)).off+2,none⟩=some (.string T.f2))):=Lib.hid (fun w' hb=>⟨pw_cell_below hb r0,pw_cell_below hb k0,pw_cell_below hb k1,pw_cell_below hb t2⟩)
 have hn1:W1.heap.size≠rb:=by omega
 have hn2:W1.heap.size≠g:=by have:=hb1.out.size;omega
 have hn3:W1.heap.size≠(ad.add (at_*5)).block:=by have:=hb1.out.size;have hto:(ad.add (at_*5)).block<W.heap.size:=hto;omega
 have HSK:Hid (∀(W3:World),(∀w':World,w'=W3→(w'.cell? ⟨rb,0,none⟩=some (.pointer (some ⟨g,0,none⟩))∧w'.cell? ⟨g,0,none⟩=some (.slice (some ad) l.length c0)∧w'.cell? ⟨g,1,none⟩=some (.int .i64 at_)∧w'.cell? ⟨(ad.add (at_*5)).block,(ad.add (at_*5)).off+2,none⟩=some (.string T.f2)))→ ∀w':World,Kb W1.heap.size W3 w'→(w'.cell? ⟨rb,0,none⟩=some (.pointer (some ⟨g,0,none⟩))∧w'.cell? ⟨g,0,none⟩=some (.slice (some ad) l.length c0)∧w'.cell? ⟨g,1,none⟩=some (.int .i64 at_)∧w'.cell? ⟨(ad.add (at_*5)).block,(ad.add (at_*5)).off+2,none⟩=some (.string T.f2))):=Lib.hid (fun W3 h w' hk=>by
  obtain ⟨a1,a2,a3,a4⟩:=h W3 rfl
  exact ⟨hk.cell a1 (Ne.symm hn1),hk.cell a2 (Ne.symm hn2),hk.cell a3 (Ne.symm hn2),hk.cell a4 (Ne.symm hn3)⟩)
 have HS3:Hid (∀(X W3:World),Below W1.heap.size W1 X→RdZ w g (some ad) c0 l A1 c1 ws at_ (addT top ⟨f.tok,f.tok.f2,f.kids⟩ (r.map Fr.pf)) (addP ⟨f.tok,f.tok.f2,f.kids⟩ (r.map Fr.pf)) (fun k=>Z k∨(W.heap.size≤k∧k<X.heap.size)) W3→(∀k,(Z k∨(W.heap.size≤k∧k<X.heap.size))→W3.heap[k]? =X.heap[k]?)→ ∀w':World,w'=W3→(w'.cell? ⟨rb,0,none⟩=some (.pointer (some ⟨g,0,none⟩))∧w'.cell? ⟨g,0,none⟩=some (.slice (some ad) l.length c0)∧w'.cell? ⟨g,1,none⟩=some (.int .i64 at_)∧w'.cell? ⟨(ad.add (at_*5)).block,(ad.add (at_*5)).off+2,none⟩=some (.string T.f2))):=Lib.hid (fun X W3 hX hZ hP w' e=>by
  subst e
  obtain ⟨o2,tv2,sv2,fs2,hq1,hq2,hq3⟩:=hZ
  have e1:=hP rb (.inr ⟨by have:=HRB.out;omega,by have:=hX.size;omega⟩)
  exact ⟨blk_cell (e1.trans (blk_below hrb.out hX)) 0,blk_cell hq1.blk 0,blk_cell hq1.blk 1,(hq1.bel.cell hto2.out).trans HTW.out⟩)
 clear hrbe
 have HFA:=Lib.hid (HFIN.out (W1.alloc (.cells #[.int .i64 0,.int .i64 0,.string ⟨#[]⟩,.int .i64 0,.int .i64 0,.string ⟨#[]⟩,.slice none 0 0] 49 (0,0))).drew (hb1.out.trans (((below_alloc (Below.refl W1.heap.size W1) _).drew).mono hb1.out.size)))
 have HFB:=Lib.hid (HFIN.out W1.drew (hb1.out.trans ((Below.drew (Below.refl W1.heap.size W1)).mono hb1.out.size)))
 have HKA:Hid (∀k,Z k→(W1.alloc (.cells #[.int .i64 0,.int .i64 0,.string ⟨#[]⟩,.int .i64 0,.int .i64 0,.string ⟨#[]⟩,.slice none 0 0] 49 (0,0))).drew.heap[k]? =W.heap[k]?):=Lib.hid (fun k hk=>(hb1.out.trans (((below_alloc (Below.refl W1.heap.size W1) _).drew).mono hb1.out.size)).block k (HZL.out k hk))
 have HKB:Hid (∀k,Z k→W1.drew.heap[k]? =W.heap[k]?):=Lib.hid (fun k hk=>(hb1.out.trans ((Below.drew (Below.refl W1.heap.size W1)).mono hb1.out.size)).block k (HZL.out k hk))
 have HXA:Hid (Below W1.heap.size W1 (W1.alloc (.cells #[.int .i64 0,.int .i64 0,.string ⟨#[]⟩,.int .i64 0,.int .i64 0,.string ⟨#[]⟩,.slice none 0 0] 49 (0,0))).drew):=Lib.hid (below_alloc (Below.refl _ _) _).drew
 have HXB:Hid (Below W1.heap.size W1 W1.drew):=Lib.hid (Below.drew (Below.refl _ _))
 have HFZ:Hid (∀W3:World,(∀k,(Z k∨(W.heap.size≤k∧k<(W1.alloc (.cells #[.int .i64 0,.int .i64 0,.string ⟨#[]⟩,.int .i64 0,.int .i64 0,.string ⟨#[]⟩,.slice none 0 0] 49 (0,0))).drew.heap.size))→W3.heap[k]? =(W1.alloc (.cells #[.int .i64 0,.int .i64 0,.string ⟨#[]⟩,.int .i64 0,.int .i64 0,.string ⟨#[]⟩,.slice none 0 0] 49 (0,0))).drew.heap[k]?)→W3.heap[W1.heap.size]? =some (.cells #[.int .i64 0,.int .i64 0,.string ⟨#[]⟩,.int .i64 0,.int .i64 0,.string ⟨#[]⟩,.slice none 0 0] 49 (0,0))):=Lib.hid (fun W3 h=>(h W1.heap.size (.inr ⟨hb1.out.size,by simp⟩)).trans (blk_drew (blk_new W1 _)))
 go_cut [2] (fun v2 wc=> ∃fb A c,v2=.pointer (some ⟨fb,0,none⟩)∧f.kids.length≤c∧Hid (CloseMid w g (some ad) c0 l A1 c1 ws at_ top (r.map Fr.pf) rb fb f.tok f.kids A c Z W wc))
 case first=>
  go_region_held3 (fun w'=>w'.cell? ⟨rb,0,none⟩=some (.pointer (some ⟨g,0,none⟩))∧w'.cell? ⟨g,0,none⟩=some (.slice (some ad) l.length c0)∧w'.cell? ⟨g,1,none⟩=some (.int .i64 at_)∧w'.cell? ⟨(ad.add (at_*5)).block,(ad.add (at_*5)).off+2,none⟩=some (.string T.f2))
   (first|(refine HS.out _ ?_;(repeat (with_reducible first|exact Below.refl _ _|apply Below.drew|apply below_alloc));done)|(refine hK3 _ ?_;(repeat (with_reducible first|exact Kb.refl _ _|apply Kb.set|apply Kb.alloc));done))
   (first
    |(go_at_call 128;(with_reducible refine HFA.out.mono ?_);rintro e W3 ⟨A6,c6,rfl,hle6,hC6,hZ6,hP6⟩;have hK3:=HSK.out _ (HS3.out _ _ HXA.out hZ6 hP6);have hfb:W3.heap[W1.heap.size]? =some (.cells #[.int .i64 0,.int .i64 0,.string ⟨#[]⟩,.int .i64 0,.int .i64 0,.string ⟨#[]⟩,.slice none 0 0] 49 (0,0)):=HFZ.out W3 hP6;obtain ⟨q0,q1,q2,q3,q4,q5,q6,p0,p1,p2,p3,p4,p5,p6⟩:=seven_cells hfb;have HZ6:=Lib.hid hZ6;have HP6:=Lib.hid hP6;have HC6:=Lib.hid hC6;have HFB6:=Lib.hid hfb;have tokA:True:=trivial;clear hZ6 hP6 hC6 hfb)
    |(go_at_call 128;(with_reducible refine HFB.out.mono ?_);rintro e W3 ⟨A6,c6,rfl,hle6,hC6,hZ6,hP6⟩;have hK3:=HSK.out _ (HS3.out _ _ HXB.out hZ6 hP6);have HZ6:=Lib.hid hZ6;have HP6:=Lib.hid hP6;have HC6:=Lib.hid hC6;clear hZ6 hP6 hC6))
  all_goals go_wp2
  all_goals go_meet
  ·case rel=>
    have hr3:=(HP6.out rb (.inr ⟨by have:=HRB.out;omega,by simpa using hsz1⟩)).trans hrb.out
    refine ⟨_,_,_,rfl,hle6,Lib.hid ⟨?_,fun k hk=> ?_, ?_,blk_new W3 _, ?_⟩⟩
    ·exact RdZ.mono (RdZ.alloc (RdZ.mono HZ6.out (Z':=Z) (fun k hk=> .inl hk)) (fun k hk=>lt_of_kept ((HP6.out k (.inl hk)).trans (HKB.out k hk)) (HZL.out k hk)) _) (fun k hk=> .inl hk)
    ·have e1:=(HP6.out k (.inl hk)).trans (HKB.out k hk)
     exact (Below.heap_alloc W3 _ k (lt_of_kept e1 (HZL.out k hk))).trans e1
    ·exact blk_alloc hr3 _
    ·exact Kd.C_alloc (HC6.out W3 (fun _ _=>rfl)) _
  ·case rel=>
    have hz1:W.heap.size≤W1.heap.size∧W1.heap.size<((W1.alloc (.cells #[.int .i64 0,.int .i64 0,.string ⟨#[]⟩,.int .i64 0,.int .i64 0,.string ⟨#[]⟩,.slice none 0 0] 49 (0,0))).drew).heap.size:=⟨hb1.out.size,by simp⟩
    have hzr:W.heap.size≤rb∧rb<((W1.alloc (.cells #[.int .i64 0,.int .i64 0,.string ⟨#[]⟩,.int .i64 0,.int .i64 0,.string ⟨#[]⟩,.slice none 0 0] 49 (0,0))).drew).heap.size:=⟨by have:=HRB.out;omega,by simp;omega⟩
    have hr3:W3.heap[rb]? =some (.cells #[.pointer (some ⟨g,0,none⟩)] 68 (0,0)):=(HP6.out rb (.inr hzr)).trans (blk_drew (blk_alloc hrb.out _))
    have hw:w.heap.size≤W1.heap.size:=Nat.le_trans H0.out.bel.size hb1.out.size
    have hrn:rb≠W1.heap.size:=by omega
    have hfar: ∀k,k≠W1.heap.size→ ∀(a0 a1 a2 a3 a4 a5 a6:Value),(((((((W3.setCell ⟨W1.heap.size,0,none⟩ a0).setCell ⟨W1.heap.size,1,none⟩ a1).setCell ⟨W1.heap.size,2,none⟩ a2).setCell ⟨W1.heap.size,3,none⟩ a3).setCell ⟨W1.heap.size,4,none⟩ a4).setCell ⟨W1.heap.size,5,none⟩ a5).setCell ⟨W1.heap.size,6,none⟩ a6).heap[k]? =W3.heap[k]? :=fun k hk a0 a1 a2 a3 a4 a5 a6=>
     (Below.heap_setCell _ _ _ k hk).trans ((Below.heap_setCell _ _ _ k hk).trans ((Below.heap_setCell _ _ _ k hk).trans ((Below.heap_setCell _ _ _ k hk).trans ((Below.heap_setCell _ _ _ k hk).trans ((Below.heap_setCell _ _ _ k hk).trans (Below.heap_setCell _ _ _ k hk))))))
    refine ⟨W1.heap.size,A6,c6,rfl,hle6,Lib.hid ⟨?_,fun k hk=> ?_, ?_, ?_, ?_⟩⟩
    ·exact RdZ.mono (Z:=fun k=>Z k∨k=W1.heap.size) ((((((((RdZ.mono HZ6.out (Z':=fun k=>Z k∨k=W1.heap.size) (fun k hk=>hk.imp id (fun e=>by rw [e];exact hz1))).far (.inr rfl) hw 0 _).far (.inr rfl) hw 1 _).far (.inr rfl) hw 2 _).far (.inr rfl) hw 3 _).far (.inr rfl) hw 4 _).far (.inr rfl) hw 5 _).far (.inr rfl) hw 6 _) (fun k hk=> .inl hk)
    ·refine (hfar k ?_ _ _ _ _ _ _ _).trans ((HP6.out k (.inl hk)).trans (HKA.out k hk))
     have:=HZL.out k hk
     have:=hb1.out.size
     omega
    ·exact blk_far (blk_far (blk_far (blk_far (blk_far (blk_far (blk_far hr3 hrn _) hrn _) hrn _) hrn _) hrn _) hrn _) hrn _
    ·exact blk_put (blk_put (blk_put (blk_put (blk_put (blk_put (blk_put HFB6.out 0 _ rfl) 1 _ rfl) 2 _ rfl) 3 _ rfl) 4 _ rfl) 5 _ rfl) 6 _ rfl
    ·exact HC6.out _ (fun k hk=>hfar k (fun e=>hk (.inr (e▸hz1))) _ _ _ _ _ _ _)
 case rest=>
  obtain ⟨fb,A6,c6,rfl,hle6,HM⟩:=hcut
  clear HFIN HFA HFB HXA HXB HFZ HS HS3 HSK hn1 hn2 hn3 k0 k1 t2 r0 hb1 hrb
  obtain ⟨tp,htp⟩: ∃tp,addT top (⟨f.tok,f.tok.f2,f.kids⟩:Fg) (r.map Fr.pf)=tp:=⟨_,rfl⟩
  obtain ⟨pp,hpp⟩: ∃pp,addP (⟨f.tok,f.tok.f2,f.kids⟩:Fg) (r.map Fr.pf)=pp:=⟨_,rfl⟩
  have HR:Hid (CloseRest w g (some ad) c0 l A1 c1 ws at_ tp pp rb fb f.tok f.kids A6 c6 Z wc):=Lib.hid (by rw [←htp,←hpp];exact ⟨HM.out.rd,HM.out.rp,HM.out.fp,HM.out.kc⟩)
  have HZK:Hid (∀k,Z k→wc.heap[k]? =W.heap[k]?):=Lib.hid HM.out.zk
  clear HRB HTW HM HKA HKB
  obtain ⟨r0,g1,v5⟩:=HR.out.cells
  obtain ⟨S,hS⟩: ∃S,f.tok.f2=S:=⟨_,rfl⟩
  rw [hS] at v5
  have HSX:=Lib.hid hS
  clear hS
  by_cases hc:S.toList=cClass∨S.toList=cMethod∨S.toList=cMacro
  ·obtain ⟨bw,hbw⟩: ∃b,isNm l (at_+1) S=b:=⟨_,rfl⟩
   obtain ⟨n2,hn2⟩: ∃b,nameAt l at_ f.kids 2=b:=⟨_,rfl⟩
   obtain ⟨n1,hn1⟩: ∃b,nameAt l at_ f.kids 1=b:=⟨_,rfl⟩
   obtain ⟨s3,hs3⟩: ∃b,stopsB l (at_+3)=b:=⟨_,rfl⟩
   obtain ⟨s2,hs2⟩: ∃b,stopsB l (at_+2)=b:=⟨_,rfl⟩
   have HD:Hid (dropN l at_ f.tok f.kids=if (bw&&n2&&s3)=true then 2 else if ((bw||n1)&&s2)=true then 1 else 0):=Lib.hid (by
    unfold dropN
    rw [HSX.out,if_pos hc,hbw,hn2,hn1,hs3,hs2]
    cases bw<;>cases n2<;>cases n1<;>cases s3<;>cases s2<;>rfl)
   have HL2:Hid ((bw&&n2&&s3)=true→at_+2<l.length):=Lib.hid (fun h=>by
    simp only [Bool.and_eq_true] at h
    exact nameAt_lt (hn2.trans h.1.2))
   have HL1:Hid (((bw||n1)&&s2)=true→at_+1<l.length):=Lib.hid (fun h=>by
    simp only [Bool.and_eq_true,Bool.or_eq_true] at h
    rcases h.1 with h|h
    ·exact isNm_lt (hbw.trans h)
    ·exact nameAt_lt (hn1.trans h))
   obtain ⟨a1,ha1⟩: ∃a,at_+1=a:=⟨_,rfl⟩
   obtain ⟨a2,ha2⟩: ∃a,at_+2=a:=⟨_,rfl⟩
   obtain ⟨a3,ha3⟩: ∃a,at_+3=a:=⟨_,rfl⟩
   rw [ha1] at hbw
   rw [ha2] at hs2
   rw [ha3] at hs3
   have x1:IntKind.i64.wrap ((at_:Int)+1)=(a1:Int):=by rw [IntWalk.i64_in _ (by omega)];omega
   have x2:IntKind.i64.wrap ((at_:Int)+2)=(a2:Int):=by rw [IntWalk.i64_in _ (by omega)];omega
   have x3:IntKind.i64.wrap ((at_:Int)+3)=(a3:Int):=by rw [IntWalk.i64_in _ (by omega)];omega
   have HW:Hid (∀W':World,Below wc.heap.size wc W'→Calls Tryz.prog 76 #[.pointer (some ⟨g,0,none⟩),.int .i64 a1,.string S] W' fun e W''=>e=.returned (.bool bw)∧Drawn0 W' W''):=Lib.hid (fun W' hb=>hbw▸(HR.out.below hb).isName HC.out hl a1 S)
   have HN2:Hid (∀W':World,Below wc.heap.size wc W'→Calls Tryz.prog 129 #[.int .i64 2,.pointer (some ⟨fb,0,none⟩),.pointer (some ⟨rb,0,none⟩)] W' fun e W''=>e=.returned (.bool n2)∧Drawn0 W' W''):=Lib.hid (fun W' hb=>hn2▸(HR.out.below hb).named HC.out hl (by omega) 2 (by omega))
   have HN1:Hid (∀W':World,Below wc.heap.size wc W'→Calls Tryz.prog 129 #[.int .i64 1,.pointer (some ⟨fb,0,none⟩),.pointer (some ⟨rb,0,none⟩)] W' fun e W''=>e=.returned (.bool n1)∧Drawn0 W' W''):=Lib.hid (fun W' hb=>hn1▸(HR.out.below hb).named HC.out hl (by omega) 1 (by omega))
   have HS3:Hid (∀W':World,Below wc.heap.size wc W'→Calls Tryz.prog 130 #[.pointer (some ⟨g,0,none⟩),.int .i64 a3] W' fun e W''=>e=.returned (.bool s3)∧Below wc.heap.size wc W''):=Lib.hid (fun W' hb=>hs3▸((HR.out.below hb).stops HC.out hl a3).mono (fun _ _ h=>⟨h.1,hb.trans (h.2.mono hb.size)⟩))
   have HS2:Hid (∀W':World,Below wc.heap.size wc W'→Calls Tryz.prog 130 #[.pointer (some ⟨g,0,none⟩),.int .i64 a2] W' fun e W''=>e=.returned (.bool s2)∧Below wc.heap.size wc W''):=Lib.hid (fun W' hb=>hs2▸((HR.out.below hb).stops HC.out hl a2).mono (fun _ _ h=>⟨h.1,hb.trans (h.2.mono hb.size)⟩))
   have HDR:Hid (∀(n:Nat) (W':World),at_+n<l.length→Below wc.heap.size wc W'→Calls Tryz.prog 131 #[.pointer (some ⟨g,0,none⟩),.int .i64 n] W' (DropZ w g (some ad) c0 l A1 c1 ws at_ tp pp n Z W)):=Lib.hid (fun n W' hn hb=>(drop_z (HR.out.below hb).rd (fun k hk=>Nat.lt_of_lt_of_le (lt_of_kept (HZK.out k hk) (HZL.out k hk)) hb.size) HC.out hl n hn HE.out).mono (fun e W'' h=>h.imp (fun h=>⟨h.1,h.2.1,h.2.2.1,fun k hk=>(h.2.2.2 k hk).trans ((hb.block k (lt_of_kept (HZK.out k hk) (HZL.out k hk))).trans (HZK.out k hk))⟩) id))
   have HCL:Hid (∀W':World,Below wc.heap.size wc W'→W'.cell? ⟨rb,0,none⟩=some (.pointer (some ⟨g,0,none⟩))∧W'.cell? ⟨g,1,none⟩=some (.int .i64 at_)):=Lib.hid (fun W' hb=>⟨(HR.out.below hb).cells.1,(HR.out.below hb).cells.2.1⟩)
   clear hbw hn2 hn1 hs3 hs2 ha1 ha2 ha3
   have HCT:=Lib.hid hc
   clear hc
   go_upto_region 2 with (fail)
   go_cut [30] (fun v wd=>v=.bool false∧wd=wc)
   case first=>
    rcases HCT.out with h1|h1|h1
    ·have c1':(S.toList==[99,108,97,115,115])=true:=beq_iff_eq.2 h1
     clear h1
     go_wp2
     go_meet
     case rel=>exact ⟨rfl,rfl⟩
    ·have c1':(S.toList==[99,108,97,115,115])=false:=by rw [h1];decide
     have c2':(S.toList==[109,101,116,104,111,100])=true:=beq_iff_eq.2 h1
     clear h1
     go_wp2
     go_meet
     case rel=>exact ⟨rfl,rfl⟩
    ·have c1':(S.toList==[99,108,97,115,115])=false:=by rw [h1];decide
     have c2':(S.toList==[109,101,116,104,111,100])=false:=by rw [h1];decide
     have c3':(S.toList==[109,97,99,114,111])=true:=beq_iff_eq.2 h1
     clear h1
     go_wp2
     go_meet
     case rel=>exact ⟨rfl,rfl⟩
   case rest=>
    obtain ⟨rfl,rfl⟩:=hcut
    obtain ⟨wb,hwb⟩: ∃x,x=wc:=⟨_,rfl⟩
    subst hwb
    clear HCT t2 hto k0 k1 hto2 H0
    go_upto_region 3 with (fail)
    go_quiet ((go_at_call 76;exact Lx.quiet0 (HW.out _ (pw_below_drewN (Below.refl _ _) _))))
    go_upto_region 5 with (fail)
    go_name_world Wq hWq
    have HBQ:Hid (Below wb.heap.size wb Wq):=Lib.hid (hWq▸by repeat (with_reducible first|exact Below.refl _ _|apply pw_below_drewN|apply Below.drew))
    clear hWq
    have r0:=(HCL.out _ HBQ.out).1
    have g1:=(HCL.out _ HBQ.out).2
    obtain ⟨b5,hb5⟩: ∃b,(bw&&n2&&s3)=b:=⟨_,rfl⟩
    rw [hb5] at HD HL2
    have HB5:=Lib.hid hb5
    clear hb5
    go_cut [41] (fun v wd=>v=.bool b5∧Hid (Below wb.heap.size wb wd))
    case first=>
     cases bw with
     |false=>
      go_quiet (fail)
      go_wp2
      go_meet
      case rel=>exact ⟨congrArg Value.bool HB5.out,Lib.hid (by repeat (with_reducible first|exact HBQ.out|apply pw_below_drewN|apply Below.drew))⟩
     |true=>
      cases n2 with
      |false=>
       go_quiet ((go_at_call 129;exact Lx.quiet0 (HN2.out _ (pw_below_drewN HBQ.out _))))
       go_wp2
       go_meet
       case rel=>exact ⟨congrArg Value.bool HB5.out,Lib.hid (by repeat (with_reducible first|exact HBQ.out|apply pw_below_drewN|apply Below.drew))⟩
      |true=>
       go_region_held3 (fun w'=>w'.cell? ⟨rb,0,none⟩=some (.pointer (some ⟨g,0,none⟩))∧w'.cell? ⟨g,1,none⟩=some (.int .i64 at_))
        (first|(refine HCL.out _ ?_;(repeat (with_reducible first|exact HBQ.out|exact hb6|apply pw_below_drewN|apply Below.drew));done))
        (first
         |(go_at_call 129;(refine (HN2.out _ (by repeat (with_reducible first|exact HBQ.out|apply pw_below_drewN|apply Below.drew))).mono ?_);rintro e W3 ⟨rfl,⟨m,rfl⟩⟩)
         |(go_at_call 130;(refine (HS3.out _ (by repeat (with_reducible first|exact HBQ.out|apply pw_below_drewN|apply Below.drew))).mono ?_);rintro e W3 ⟨rfl,hb6⟩))
       all_goals go_wp2
       all_goals go_meet
       all_goals exact ⟨congrArg Value.bool HB5.out,Lib.hid (by repeat (with_reducible first|exact hb6|exact HBQ.out|apply pw_below_drewN|apply Below.drew))⟩
    case rest=>
     obtain ⟨rfl,HBD⟩:=hcut
     clear r0 g1 HBQ
     have r0:=(HCL.out _ HBD.out).1
     have g1:=(HCL.out _ HBD.out).2
     cases b5 with
     |true=>
      have HDD:Hid (dropN l at_ f.tok f.kids=2):=Lib.hid HD.out
      go_wp2_with fail
      refine (HDR.out 2 _ (HL2.out trivial) HBD.out).mono ?_
      rintro e W9 hd
      rcases hd with ⟨rfl,h1,h2,h2k⟩|⟨j,h1,h2,h3,rfl,h5⟩
      ·have HP:Hid (DropZ w g (some ad) c0 l A1 c1 ws at_ tp pp (dropN l at_ f.tok f.kids) Z W (.returned (.tuple #[])) W9):=Lib.hid (by rw [HDD.out];exact .inl ⟨rfl,h1,h2,h2k⟩)
       clear h1 h2 h2k
       go_wp2
       go_end0
       first|exact HP.out|(rw [htp,hpp];exact HP.out)
      ·refine ⟨rfl, ?_⟩
       rw [HDD.out]
       exact .inr ⟨j,h1,h2,h3,rfl,h5⟩
     |false=>
      go_upto_region 7 with (fail)
      have HBQ:=HBD
      rename World=>Wq
      obtain ⟨b7,hb7⟩: ∃b,((bw||n1)&&s2)=b:=⟨_,rfl⟩
      rw [hb7] at HD HL1
      have HB7:=Lib.hid hb7
      clear hb7 HBD
      go_cut [58] (fun v wd=>v=.bool b7∧Hid (Below wb.heap.size wb wd))
      case first=>
       cases bw with
       |true=>
        refine wp_region_still_tail 12 (by kernel_rfl) (by kernel_rfl) ?_
        simp only [List.take_succ_cons,List.take_zero,List.drop_succ_cons,List.drop_zero]
        repeat still_step
        try refine wpStill_nil ?_
        go_wp2_with fail
        refine (HS2.out _ (by repeat (with_reducible first|exact HBQ.out|apply pw_below_drewN|apply Below.drew))).mono ?_
        rintro e W3 ⟨rfl,hb6⟩
        go_wp2
        go_meet
        case rel=>exact ⟨congrArg Value.bool HB7.out,Lib.hid hb6⟩
       |false=>
        cases n1 with
        |false=>
         go_quiet ((go_at_call 129;exact Lx.quiet0 (HN1.out _ (pw_below_drewN HBQ.out _))))
         go_wp2
         go_meet
         case rel=>exact ⟨congrArg Value.bool HB7.out,Lib.hid (by repeat (with_reducible first|exact HBQ.out|apply pw_below_drewN|apply Below.drew))⟩
        |true=>
         go_region_held3 (fun w'=>w'.cell? ⟨rb,0,none⟩=some (.pointer (some ⟨g,0,none⟩))∧w'.cell? ⟨g,1,none⟩=some (.int .i64 at_))
          (first|(refine HCL.out _ ?_;(repeat (with_reducible first|exact HBQ.out|exact hb6|apply pw_below_drewN|apply Below.drew));done))
          (first
           |(go_at_call 129;(refine (HN1.out _ (by repeat (with_reducible first|exact HBQ.out|apply pw_below_drewN|apply Below.drew))).mono ?_);rintro e W3 ⟨rfl,⟨m,rfl⟩⟩)
           |(go_at_call 130;(refine (HS2.out _ (by repeat (with_reducible first|exact HBQ.out|apply pw_below_drewN|apply Below.drew))).mono ?_);rintro e W3 ⟨rfl,hb6⟩))
         all_goals go_wp2
         all_goals go_meet
         all_goals exact ⟨congrArg Value.bool HB7.out,Lib.hid (by repeat (with_reducible first|exact hb6|exact HBQ.out|apply pw_below_drewN|apply Below.drew))⟩
      case rest=>
       obtain ⟨rfl,HBD⟩:=hcut
       clear r0 g1 HBQ
       have r0:=(HCL.out _ HBD.out).1
       have g1:=(HCL.out _ HBD.out).2
       cases b7 with
       |true=>
        have HDD:Hid (dropN l at_ f.tok f.kids=1):=Lib.hid HD.out
        go_wp2_with fail
        refine (HDR.out 1 _ (HL1.out trivial) HBD.out).mono ?_
        rintro e W9 hd
        rcases hd with ⟨rfl,h1,h2,h2k⟩|⟨j,h1,h2,h3,rfl,h5⟩
        ·have HP:Hid (DropZ w g (some ad) c0 l A1 c1 ws at_ tp pp (dropN l at_ f.tok f.kids) Z W (.returned (.tuple #[])) W9):=Lib.hid (by rw [HDD.out];exact .inl ⟨rfl,h1,h2,h2k⟩)
         clear h1 h2 h2k
         go_wp2
         go_end0
         first|exact HP.out|(rw [htp,hpp];exact HP.out)
        ·refine ⟨rfl, ?_⟩
         first|rw [HDD.out]|(rw [htp,hpp,HDD.out])
         exact .inr ⟨j,h1,h2,h3,rfl,h5⟩
       |false=>
        have HP:Hid (DropZ w g (some ad) c0 l A1 c1 ws at_ tp pp (dropN l at_ f.tok f.kids) Z W (.returned (.tuple #[])) wc):=Lib.hid (by rw [HD.out];exact .inl ⟨rfl,fun j hj=>absurd hj (by simp),(HR.out.below HBD.out).rd,fun k hk=>(HBD.out.block k (lt_of_kept (HZK.out k hk) (HZL.out k hk))).trans (HZK.out k hk)⟩)
        go_wp2
        go_end0
        first|exact HP.out|(rw [htp,hpp];exact HP.out)
  ·have c1':(S.toList==[99,108,97,115,115])=false:=beq_eq_false_iff_ne.2 (fun e=>hc (.inl e))
   have c2':(S.toList==[109,101,116,104,111,100])=false:=beq_eq_false_iff_ne.2 (fun e=>hc (.inr (.inl e)))
   have c3':(S.toList==[109,97,99,114,111])=false:=beq_eq_false_iff_ne.2 (fun e=>hc (.inr (.inr e)))
   have HD:Hid (dropN l at_ f.tok f.kids=0):=Lib.hid (by unfold dropN;rw [HSX.out,if_neg hc])
   clear hc
   go_wp2
   go_end0
   rw [HD.out]
   exact .inl ⟨rfl,fun j hj=>absurd hj (by omega),HR.out.rd,HZK.out⟩
end
end Go.Proofs.YtipnlgmeonepfaaGreatDoor.PFa

set_option linter.unusedVariables false
set_option linter.unusedSimpArgs false
namespace Go.Proofs.YtipnlgmeonepfaaGreatDoor.PFa
open Go.RowKit Go.Proofs.YtipnlgmeonepfaaGreatDoorW.PrintWords Go.Proofs.YtipnlgmeonepfaaGreatDoorW.PrintLast Go.Proofs.YtipnlgmeonepfaaGreatDoorW.PrintMore
open Go.Proofs.YtipnlgmeonepfaaGreatDoor.Lx (Kp)
section
variable {w W W':World} {g:Nat} {A0:Option Addr} {c0:Nat} {l:List Tk} {A1:Option Addr} {c1:Nat} {ws:List ByteArray} {o:Nat→Nat} {at_:Nat} {tv:Value} {top:List Fg} {sv:Value} {fs:List Fr} {ps:List PF}
set_option maxHeartbeats 6400000 in
set_option maxRecDepth 100000 in
theorem close_ends (h:Rd w g A0 c0 l A1 c1 ws o at_ tv top sv fs W) (hC:Kd.C k39 w A0 l.length l) (hl:l.length≤6000) (hat:at_<l.length)
  (hf: ∀W',Below W.heap.size W W'→Calls Tryz.prog 128 #[.pointer (some ⟨g,0,none⟩),.string (tkAt l at_).f2] W' fun e W''=>e=endR at_ 20∧Below W'.heap.size W' W''):
  Calls Tryz.prog 105 #[.pointer (some ⟨g,0,none⟩)] W fun e W'=>e=endR at_ 20∧Below W.heap.size W W':=by
 have HF:Hid (∀W',Below W.heap.size W W'→Calls Tryz.prog 128 #[.pointer (some ⟨g,0,none⟩),.string (tkAt l at_).f2] W' fun e W''=>e=endR at_ 20∧Below W.heap.size W W''):=Lib.hid (fun W' hb=>(hf W' hb).mono (fun _ _ h=>⟨h.1,hb.trans (h.2.mono hb.size)⟩))
 clear hf
 obtain ⟨ad,had,t0,t1,t2,t3,t4⟩:=at_T39 (Kd.C_below hC h.bel) (at_:Int) (by omega) (by omega)
 subst had
 obtain ⟨T,hT⟩: ∃T,rd_T39 l (at_:Int)=T:=⟨_,rfl⟩
 rw [show tkAt l at_=T from hT] at HF
 rw [hT] at t2
 simp only [Int.toNat_natCast] at t2
 have k0:W.cell? ⟨g,0,none⟩=some (.slice (some ad) l.length c0):=blk_cell h.blk 0
 have k1:W.cell? ⟨g,1,none⟩=some (.int .i64 at_):=blk_cell h.blk 1
 have x2:(0:Int)≤(at_:Int):=by omega
 have x3:(at_:Int)<(l.length:Int):=by omega
 clear h hC hT t0 t1 t3 t4 hl hat
 go_enter Tryz.func105,Tryz.ntmps105
 go_upto_region 1 with (fail)
 go_name_world W1 hW1
 have hb1:Hid (Below W.heap.size W W1):=Lib.hid (hW1▸below_alloc (Below.refl _ _) _)
 have hrb:Hid (W1.heap[W.heap.size]? =some (.cells #[.pointer (some ⟨g,0,none⟩)] 68 (0,0))):=Lib.hid (hW1▸blk_new W _)
 have k0:=pw_cell_below hb1.out k0
 have k1:=pw_cell_below hb1.out k1
 have t2:=pw_cell_below hb1.out t2
 have r0:W1.cell? ⟨W.heap.size,0,none⟩=some (.pointer (some ⟨g,0,none⟩)):=blk_cell hrb.out 0
 clear hW1
 have HS:Hid (∀w':World,Below W1.heap.size W1 w'→(w'.cell? ⟨W.heap.size,0,none⟩=some (.pointer (some ⟨g,0,none⟩))∧w'.cell? ⟨g,0,none⟩=some (.slice (some ad) l.length c0)∧w'.cell? ⟨g,1,none⟩=some (.int .i64 at_)∧w'.cell? ⟨(ad.add (at_*5)).block,(ad.add (at_*5)).off+2,none⟩=some (.string T.f2))):=Lib.hid (fun w' hb=>⟨pw_cell_below hb r0,pw_cell_below hb k0,pw_cell_below hb k1,pw_cell_below hb t2⟩)
 have HFA:=Lib.hid (HF.out (W1.alloc (.cells #[.int .i64 0,.int .i64 0,.string ⟨#[]⟩,.int .i64 0,.int .i64 0,.string ⟨#[]⟩,.slice none 0 0] 49 (0,0))).drew (hb1.out.trans (((below_alloc (Below.refl W1.heap.size W1) _).drew).mono hb1.out.size)))
 have HFB:=Lib.hid (HF.out W1.drew (hb1.out.trans ((Below.drew (Below.refl W1.heap.size W1)).mono hb1.out.size)))
 clear HF k0 k1 t2 r0 hb1 hrb
 refine wp_region_held_drew (S:=fun w'=>w'.cell? ⟨W.heap.size,0,none⟩=some (.pointer (some ⟨g,0,none⟩))∧w'.cell? ⟨g,0,none⟩=some (.slice (some ad) l.length c0)∧w'.cell? ⟨g,1,none⟩=some (.int .i64 at_)∧w'.cell? ⟨(ad.add (at_*5)).block,(ad.add (at_*5)).off+2,none⟩=some (.string T.f2)) (by kernel_rfl) ?_ (fun hHeld=> ?_)
 ·exact HS.out _ (Below.drew (Below.refl _ _))
 refine wpAnyH_take (i:=0) (v:= ?_) rfl (by kernel_rfl) (by kernel_rfl) (by kernel_rfl) (fun _ _ _ h=>h) (Or.inl ⟨by rfl, ?hy⟩) (by assumption) ?_
 case hy=>
  intro w hSw
  try dsimp only at hSw
  simp only [List.getElem_toArray,List.getElem_cons_zero,List.getElem_cons_succ]
  go_simp
  try with_reducible rfl
 simp only [List.getElem_toArray,List.getElem_cons_zero,List.getElem_cons_succ,Act.put,List.setIfInBounds_toArray,List.set_cons_zero,List.set_cons_succ]
 refine wpAnyH_take (i:=1) (v:= ?_) rfl (by kernel_rfl) (by kernel_rfl) (by kernel_rfl) (fun _ _ _ h=>h) (Or.inl ⟨by rfl, ?hy⟩) (by assumption) ?_
 case hy=>
  intro w hSw
  try dsimp only at hSw
  simp only [List.getElem_toArray,List.getElem_cons_zero,List.getElem_cons_succ]
  go_simp
  try with_reducible rfl
 simp only [List.getElem_toArray,List.getElem_cons_zero,List.getElem_cons_succ,Act.put,List.setIfInBounds_toArray,List.set_cons_zero,List.set_cons_succ]
 refine wpAnyH_take (i:=2) (v:= ?_) rfl (by kernel_rfl) (by kernel_rfl) (by kernel_rfl) (fun _ _ _ h=>h) (Or.inl ⟨by rfl, ?hy⟩) (by assumption) ?_
 case hy=>
  intro w hSw
  try dsimp only at hSw
  simp only [List.getElem_toArray,List.getElem_cons_zero,List.getElem_cons_succ]
  go_simp
  try with_reducible rfl
 simp only [List.getElem_toArray,List.getElem_cons_zero,List.getElem_cons_succ,Act.put,List.setIfInBounds_toArray,List.set_cons_zero,List.set_cons_succ]
 refine wpAnyH_take (i:=3) (v:= ?_) rfl (by kernel_rfl) (by kernel_rfl) (by kernel_rfl) (fun _ _ _ h=>h) (Or.inl ⟨by rfl, ?hy⟩) (by assumption) ?_
 case hy=>
  intro w hSw
  try dsimp only at hSw
  simp only [List.getElem_toArray,List.getElem_cons_zero,List.getElem_cons_succ]
  go_simp
  try with_reducible rfl
 simp only [List.getElem_toArray,List.getElem_cons_zero,List.getElem_cons_succ,Act.put,List.setIfInBounds_toArray,List.set_cons_zero,List.set_cons_succ]
 refine wpAnyH_take (i:=4) (v:= ?_) rfl (by kernel_rfl) (by kernel_rfl) (by kernel_rfl) (fun _ _ _ h=>h) (Or.inl ⟨by rfl, ?hy⟩) (by assumption) ?_
 case hy=>
  intro w hSw
  try dsimp only at hSw
  simp only [List.getElem_toArray,List.getElem_cons_zero,List.getElem_cons_succ]
  go_simp
  try with_reducible rfl
 simp only [List.getElem_toArray,List.getElem_cons_zero,List.getElem_cons_succ,Act.put,List.setIfInBounds_toArray,List.set_cons_zero,List.set_cons_succ]
 refine wpAnyH_take (i:=5) (v:= ?_) rfl (by kernel_rfl) (by kernel_rfl) (by kernel_rfl) (fun _ _ _ h=>h) (Or.inl ⟨by rfl, ?hy⟩) (by assumption) ?_
 case hy=>
  intro w hSw
  try dsimp only at hSw
  simp only [List.getElem_toArray,List.getElem_cons_zero,List.getElem_cons_succ]
  go_simp
  try with_reducible rfl
 simp only [List.getElem_toArray,List.getElem_cons_zero,List.getElem_cons_succ,Act.put,List.setIfInBounds_toArray,List.set_cons_zero,List.set_cons_succ]
 refine wpAnyH_take (i:=6) (v:= ?_) rfl (by kernel_rfl) (by kernel_rfl) (by kernel_rfl) (fun _ _ _ h=>h) (Or.inl ⟨by rfl, ?hy⟩) (by assumption) ?_
 case hy=>
  intro w hSw
  try dsimp only at hSw
  simp only [List.getElem_toArray,List.getElem_cons_zero,List.getElem_cons_succ]
  go_simp
  try with_reducible rfl
 simp only [List.getElem_toArray,List.getElem_cons_zero,List.getElem_cons_succ,Act.put,List.setIfInBounds_toArray,List.set_cons_zero,List.set_cons_succ]
 refine wpAnyH_take (i:=7) (v:= ?_) rfl (by kernel_rfl) (by kernel_rfl) (by kernel_rfl) (fun _ _ _ h=>h) (Or.inl ⟨by rfl, ?hy⟩) (by assumption) ?_
 case hy=>
  intro w hSw
  try dsimp only at hSw
  simp only [List.getElem_toArray,List.getElem_cons_zero,List.getElem_cons_succ]
  go_simp
  try with_reducible rfl
 simp only [List.getElem_toArray,List.getElem_cons_zero,List.getElem_cons_succ,Act.put,List.setIfInBounds_toArray,List.set_cons_zero,List.set_cons_succ]
 refine wpAnyH_take (i:=8) (v:= ?_) rfl (by kernel_rfl) (by kernel_rfl) (by kernel_rfl) (fun _ _ _ h=>h) (Or.inl ⟨by rfl, ?hy⟩) (by assumption) ?_
 case hy=>
  intro w hSw
  try dsimp only at hSw
  simp only [List.getElem_toArray,List.getElem_cons_zero,List.getElem_cons_succ]
  go_simp
  try with_reducible rfl
 simp only [List.getElem_toArray,List.getElem_cons_zero,List.getElem_cons_succ,Act.put,List.setIfInBounds_toArray,List.set_cons_zero,List.set_cons_succ]
 refine wpAnyH_take (i:=9) (v:= ?_) rfl (by kernel_rfl) (by kernel_rfl) (by kernel_rfl) (fun _ _ _ h=>h) (Or.inl ⟨by rfl, ?hy⟩) (by assumption) ?_
 case hy=>
  intro w hSw
  try dsimp only at hSw
  simp only [List.getElem_toArray,List.getElem_cons_zero,List.getElem_cons_succ]
  go_simp
  try with_reducible rfl
 simp only [List.getElem_toArray,List.getElem_cons_zero,List.getElem_cons_succ,Act.put,List.setIfInBounds_toArray,List.set_cons_zero,List.set_cons_succ]
 refine wpAnyH_take (i:=10) (v:= ?_) rfl (by kernel_rfl) (by kernel_rfl) (by kernel_rfl) (fun _ _ _ h=>h) (Or.inl ⟨by rfl, ?hy⟩) (by assumption) ?_
 case hy=>
  intro w hSw
  try dsimp only at hSw
  simp only [List.getElem_toArray,List.getElem_cons_zero,List.getElem_cons_succ]
  go_simp
  try with_reducible rfl
 simp only [List.getElem_toArray,List.getElem_cons_zero,List.getElem_cons_succ,Act.put,List.setIfInBounds_toArray,List.set_cons_zero,List.set_cons_succ]
 refine wpAnyH_take (i:=11) (v:= ?_) rfl (by kernel_rfl) (by kernel_rfl) (by kernel_rfl) (fun _ _ _ h=>h) (Or.inl ⟨by rfl, ?hy⟩) (by assumption) ?_
 case hy=>
  intro w hSw
  try dsimp only at hSw
  simp only [List.getElem_toArray,List.getElem_cons_zero,List.getElem_cons_succ]
  go_simp
  try with_reducible rfl
 simp only [List.getElem_toArray,List.getElem_cons_zero,List.getElem_cons_succ,Act.put,List.setIfInBounds_toArray,List.set_cons_zero,List.set_cons_succ]
 refine wpAnyH_ready (rs:=[12,13]) (by kernel_rfl) (by simp) ?_
 refine AllReadyH.cons rfl (fun K hK=> ?_) ?_
 ·simp only [List.getElem_toArray,List.getElem_cons_zero,List.getElem_cons_succ]
  go_simp
  go_at_call 128
  (with_reducible refine HFB.out.mono ?_)
  rintro e W3 ⟨rfl,hb3⟩
  exact ⟨rfl,rfl,hb3⟩
 refine AllReadyH.cons rfl (fun K hK=> ?_) ?_
 ·simp only [List.getElem_toArray,List.getElem_cons_zero,List.getElem_cons_succ]
  go_simp
  refine hK.out _ _ ?_ (fun hHeld=> ?_)
  ·exact HS.out _ (below_alloc (Below.refl _ _) _).drew
  clear hK K
  try simp only [List.getElem_toArray,List.getElem_cons_zero,List.getElem_cons_succ,Act.put,List.setIfInBounds_toArray,List.set_cons_zero,List.set_cons_succ]
  refine wpAnyH_ready (rs:=[12]) (by kernel_rfl) (by simp) ?_
  refine AllReadyH.cons rfl (fun K hK=> ?_) ?_
  ·simp only [List.getElem_toArray,List.getElem_cons_zero,List.getElem_cons_succ]
   go_simp
   go_at_call 128
   (with_reducible refine HFA.out.mono ?_)
   rintro e W3 ⟨rfl,hb3⟩
   exact ⟨rfl,rfl,hb3⟩
  exact AllReadyH.nil
 exact AllReadyH.nil
theorem close_none (h:Rd w g A0 c0 l A1 c1 ws o at_ tv top sv [] W) (hC:Kd.C k39 w A0 l.length l) (hl:l.length≤6000) (hat:at_<l.length):
  Calls Tryz.prog 105 #[.pointer (some ⟨g,0,none⟩)] W fun e W'=>e=endR at_ 20∧Below W.heap.size W W':=
 close_ends h hC hl hat (fun W' hb=>finish_none (h.below hb) _)
theorem close_bad {f:Fr} {r:List Fr} (h:Rd w g A0 c0 l A1 c1 ws o at_ tv top sv (f::r) W) (hfs:r.length+1≤100) (hC:Kd.C k39 w A0 l.length l) (hl:l.length≤6000) (hat:at_<l.length) (htx:(closeTx f.tok.f2).toList≠(tkAt l at_).f2.toList):
  Calls Tryz.prog 105 #[.pointer (some ⟨g,0,none⟩)] W fun e W'=>e=endR at_ 20∧Below W.heap.size W W':=
 close_ends h hC hl hat (fun W' hb=>finish_bad (h.below hb) hfs _ htx)
end
end Go.Proofs.YtipnlgmeonepfaaGreatDoor.PFa
