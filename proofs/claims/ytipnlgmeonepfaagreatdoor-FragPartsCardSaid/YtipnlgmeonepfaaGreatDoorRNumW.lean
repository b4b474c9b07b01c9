/- The reference's numbers: what Number hands back is what the program's value does. -/
import Derived.Test.YtipnlgmeonepfaaGreatDoorRMem
import Derived.Test.YtipnlgmeonepfaaGreatDoorRComment
import Derived.Test.YtipnlgmeonepfaaGreatDoorRNumP
set_option linter.unusedVariables false
set_option linter.unusedSimpArgs false
namespace Go.Proofs.YtipnlgmeonepfaaGreatDoor.Ref
open Go.RowKit Go.Proofs.YtipnlgmeonepfaaGreatDoorW.PrintWords Go.Proofs.YtipnlgmeonepfaaGreatDoorW.PrintMore
attribute [local go_sem] max2_int min2_int max_two min_two max_three min_three max_four min_four

def numV (s:List UInt8):Int:=if Lx.valB s=true then Lx.valN s else 0
def numE (s:List UInt8):Int:=if Lx.valB s=true then 0 else 11
def Num (s:ByteArray) (w:World) (e:Ending) (w':World):Prop:=e=.returned (.tuple #[.int .i64 (numV s.data.toList),.int .i64 (numE s.data.toList)])∧w=w'
theorem num_no {s:ByteArray} (h:Lx.valB s.data.toList=false):numV s.data.toList=0∧numE s.data.toList=11:=by
 unfold numV numE
 rw [h]
 exact ⟨rfl,rfl⟩
theorem head_at (D:ByteArray) (h:0<D.size):D.data.toList.head? =some (D[0]'h):=by
 rw [List.head?_eq_getElem?,List.getElem?_eq_getElem (by rw [data_length];exact h)]
 rfl
theorem head_is (D:ByteArray) (h:0<D.size) (c:UInt8):D.data.toList.head? =some c↔(D[0]'h).toNat=c.toNat:=by
 rw [head_at D h]
 constructor
 ·intro e;injection e with e;rw [e]
 ·intro e;rw [UInt8.toNat_inj.1 e]
theorem head_none (D:ByteArray) (h: ¬0<D.size) (c:UInt8):D.data.toList.head? ≠some c:=by
 have:D.data.toList=[]:=by
  apply List.length_eq_zero_iff.1
  rw [data_length];omega
 rw [this]
 simp
theorem take_dig (l:List UInt8) (i:Nat) (h:i<l.length):l.take (i+1)=l.take i++[l[i]]:=by
 rw [List.take_succ_eq_append_getElem h]
theorem spell_take_le (l:List UInt8) (i:Nat):Lx.spell 0 (l.take i)≤Lx.spell 0 l:=by
 have key: ∀(a b:List UInt8) (p:Nat),Lx.spell p (a++b)=Lx.spell (Lx.spell p a) b:=by
  intro a
  induction a with
  |nil=>intro b p;rw [List.nil_append,Lx.spell_nil]
  |cons c a ih=>intro b p;rw [List.cons_append,Lx.spell_cons,Lx.spell_cons,ih]
 have:=key (l.take i) (l.drop i) 0
 rw [List.take_append_drop] at this
 rw [this]
 exact Lx.spell_mono _ _
theorem first_bad: ∀(l:List UInt8),(¬ ∀c∈l,Lx.isDig c=true)→ ∃(j:Nat) (hj:j<l.length),(∀t,t<j→ ∀h:t<l.length,Lx.isDig l[t]=true)∧Lx.isDig l[j]=false
 |[],h=>absurd (fun c hc=>by simp at hc) h
 |c::l,h=>by
  by_cases hc:Lx.isDig c=true
  ·have h2: ¬ ∀c∈l,Lx.isDig c=true:=fun h3=>h (fun x hx=>by
    rcases List.mem_cons.1 hx with rfl|hx
    ·exact hc
    ·exact h3 x hx)
   obtain ⟨j,hj,h4,h5⟩:=first_bad l h2
   refine ⟨j+1,by simpa using hj,fun t ht h6=> ?_,by simpa using h5⟩
   cases t with
   |zero=>exact hc
   |succ t=>simpa using h4 t (by omega) (by simpa using h6)
  ·exact ⟨0,by simp,fun t ht=>by omega,by simpa using hc⟩
set_option maxHeartbeats 12800000 in
set_option maxRecDepth 100000 in
theorem number_pos (D:ByteArray) (hs:D.size≤9223372036854775807) (h45: ∀h0:0<D.size,(D[0]'h0).toNat≠45) (w:World):
  Calls Tryz.prog 100 #[.string D] w (Num D w):=by
 have hDs:=hs
 obtain ⟨dl,hdl⟩: ∃l,D.data.toList=l:=⟨_,rfl⟩
 have HDL:=Lib.hid hdl
 have hh:dl.head? ≠some 45:=by
  rw [←hdl]
  by_cases h0:0<D.size
  ·intro e
   exact h45 h0 ((head_is D h0 45).1 e)
  ·exact head_none D h0 45
 have hno:Hid (Lx.tooMuch dl Lx.big7 (dl≠[48])∨(¬ ∀c∈dl,Lx.isDig c=true)→numV D.data.toList=0∧numE D.data.toList=11):=Lib.hid (fun h=>num_no (by rw [HDL.out];exact Lx.pos_no hh h))
 have hok:Hid (¬Lx.tooMuch dl Lx.big7 (dl≠[48])→(∀c∈dl,Lx.isDig c=true)→numV D.data.toList=(Lx.spell 0 dl:Int)∧numE D.data.toList=0∧Lx.spell 0 dl≤9223372036854775807):=Lib.hid (fun h1 h2=>by
  obtain ⟨a,b,c⟩:=Lx.pos_ok h1 h2
  unfold numV numE
  rw [HDL.out,a]
  exact ⟨b,rfl,c⟩)
 obtain ⟨nv,hnv⟩: ∃x,numV D.data.toList=x:=⟨_,rfl⟩
 obtain ⟨ne,hne⟩: ∃x,numE D.data.toList=x:=⟨_,rfl⟩
 unfold Num
 rw [hnv,hne]
 rw [hnv,hne] at hno hok
 clear hdl hnv hne hh
 obtain ⟨Y,hY⟩: ∃Y:Bool,Y=true↔Lx.tooMuch dl Lx.big7 (dl≠[48]):=⟨@decide (Lx.tooMuch dl Lx.big7 (dl≠[48])) (Classical.propDecidable _),by simp⟩
 have HY:=Lib.hid hY
 clear hY
 have HLEN:Hid (dl.length=D.size):=Lib.hid (by rw [←HDL.out,data_length])
 go_enter Tryz.func100,Tryz.ntmps100
 go_upto_region 4 with (fail)
 go_cut [17] (fun v17 wc=>v17=.bool false∧w=wc)
 case first=>
  by_cases h0:0<D.size
  ·have q1:decide (0<D.size)=true:=decide_eq_true h0
   have q2:(((D[0]'h0).toNat:Int)==45)=false:=by rw [beq_eq_false_iff_ne];have:=h45 h0;omega
   have hi0:(0:Int)<D.size:=by omega
   have H45:=Lib.hid h45
   clear h45
   go_wp2
   go_meet
   case rel=>exact ⟨rfl,rfl⟩
  ·have q1:decide (0<D.size)=false:=decide_eq_false h0
   have H45:=Lib.hid h45
   clear h45
   go_wp2
   go_meet
   case rel=>exact ⟨rfl,rfl⟩
 case rest=>
 obtain ⟨rfl,rfl⟩:=hcut
 clear h45
 go_upto_region 8 with (fail)
 go_cut [50] (fun v50 wc=>v50=.bool Y∧w=wc)
 case first=>
  by_cases m0:D.size=0
  ·have g1:((D.size:Int)==0)=true:=by rw [beq_iff_eq];omega
   have HYv:Hid (Y=true):=Lib.hid (by rw [HY.out];exact .inl (by have:=HLEN.out;omega))
   clear m0
   go_wp2
   go_meet
   case rel=>exact ⟨by rw [HYv.out],rfl⟩
  have hm0:0<D.size:=by omega
  have g1:((D.size:Int)==0)=false:=by rw [beq_eq_false_iff_ne];omega
  have gi:(0:Int)<D.size:=by omega
  by_cases m19:19<D.size
  ·have g2:decide ((19:Int)<D.size)=true:=decide_eq_true (by omega)
   have HYv:Hid (Y=true):=Lib.hid (by rw [HY.out];exact .inr (.inl (by have:=HLEN.out;omega)))
   clear m0 m19
   go_wp2
   go_meet
   case rel=>exact ⟨by rw [HYv.out],rfl⟩
  have g2:decide ((19:Int)<D.size)=false:=decide_eq_false (by omega)
  obtain ⟨x1,hx1⟩: ∃x,Op.bytesLess D.toList [57,50,50,51,51,55,50,48,51,54,56,53,52,55,55,53,56,48,55]=x:=⟨_,rfl⟩
  obtain ⟨x2,hx2⟩: ∃x,(D.toList==[57,50,50,51,51,55,50,48,51,54,56,53,52,55,55,53,56,48,55])=x:=⟨_,rfl⟩
  have HX1:Hid (Op.bytesLess dl Lx.big7=x1):=Lib.hid (by rw [←hx1,Lib.toList_data,HDL.out];rfl)
  have HX2:Hid (decide (dl=Lx.big7)=x2):=Lib.hid (by
   rw [←hx2,Lib.toList_data,HDL.out,Bool.eq_iff_iff,beq_iff_eq,decide_eq_true_eq]
   rfl)
  by_cases h3:D.size=19∧x1=false∧x2=false
  ·obtain ⟨k1,k2,k3⟩:=h3
   have HYv:Hid (Y=true):=Lib.hid (by rw [HY.out];exact .inr (.inr (.inl ⟨by have:=HLEN.out;omega,by rw [HX1.out,k2],of_decide_eq_false (by rw [HX2.out,k3])⟩)))
   have g3:((D.size:Int)==19)=true:=by rw [beq_iff_eq];omega
   subst k2 k3
   clear m0 m19 k1
   go_wp2
   go_meet
   case rel=>exact ⟨by rw [HYv.out],rfl⟩
  have HN:Hid (¬(dl.length=19∧Op.bytesLess dl Lx.big7=false∧dl≠Lx.big7)):=Lib.hid (by
   rintro ⟨k1,k2,k3⟩
   exact h3 ⟨by have:=HLEN.out;omega,by rw [←HX1.out];exact k2,by rw [←HX2.out];exact decide_eq_false k3⟩)
  have HH:=Lib.hid (head_is D hm0 48)
  have HYI:Hid (Y=true↔(dl.head? =some 48∧(dl≠[48]))):=Lib.hid (by
   rw [HY.out]
   have l1:=HLEN.out
   unfold Lx.tooMuch
   constructor
   ·rintro (h|h|h|h)
    ·omega
    ·omega
    ·exact absurd h HN.out
    ·exact h
   ·intro h;exact .inr (.inr (.inr h)))
  have hw3:((D.size:Int)==19)=false∨(((D.size:Int)==19)=true∧x1=true)∨(((D.size:Int)==19)=true∧x1=false∧x2=true):=by
   by_cases k1:D.size=19
   ·have e:((D.size:Int)==19)=true:=by rw [beq_iff_eq];omega
    cases x1 with
    |true=>exact .inr (.inl ⟨e,rfl⟩)
    |false=>
     cases x2 with
     |true=>exact .inr (.inr ⟨e,rfl,rfl⟩)
     |false=>exact absurd ⟨k1,rfl,rfl⟩ h3
   ·exact .inl (by rw [beq_eq_false_iff_ne];omega)
  clear m0 m19 h3 HX1 HX2 HN
  by_cases h48:(D[0]'hm0).toNat=48
  ·have g4:(((D[0]'hm0).toNat:Int)==48)=true:=by rw [beq_iff_eq];omega
   have hd48:Hid (dl.head? =some 48):=Lib.hid (by rw [←HDL.out];exact HH.out.2 h48)
   clear h48
   by_cases hz:(D.toList==[48])=true
   ·have HYv:Hid (Y=false):=Lib.hid (by
     rw [←Bool.not_eq_true,HYI.out]
     rintro ⟨_,h⟩
     have h2:D.toList=[48]:=beq_iff_eq.1 hz
     rw [Lib.toList_data,HDL.out] at h2
     exact h h2)
    rcases hw3 with g3|⟨g3,hx⟩|⟨g3,hx,hy⟩
    all_goals
     try subst hx
     try subst hy
     go_wp2
     go_meet
     case rel=>exact ⟨by rw [HYv.out],rfl⟩
   ·have hz1:(D.toList==[48])=false:=by simpa using hz
    have HYv:Hid (Y=true):=Lib.hid (HYI.out.2 ⟨hd48.out,fun h=>hz (by rw [Lib.toList_data,HDL.out,h];rfl)⟩)
    clear hz
    rcases hw3 with g3|⟨g3,hx⟩|⟨g3,hx,hy⟩
    all_goals
     try subst hx
     try subst hy
     go_wp2
     go_meet
     case rel=>exact ⟨by rw [HYv.out],rfl⟩
  ·have g4:(((D[0]'hm0).toNat:Int)==48)=false:=by rw [beq_eq_false_iff_ne];omega
   have HYv:Hid (Y=false):=Lib.hid (by
    rw [←Bool.not_eq_true,HYI.out]
    rintro ⟨h,_⟩
    rw [←HDL.out] at h
    exact h48 (HH.out.1 h))
   clear h48
   rcases hw3 with g3|⟨g3,hx⟩|⟨g3,hx,hy⟩
   all_goals
    try subst hx
    try subst hy
    go_wp2
    go_meet
    case rel=>exact ⟨by rw [HYv.out],rfl⟩

 case rest=>
  obtain ⟨rfl,rfl⟩:=hcut
  cases Y with
  |true=>
   obtain ⟨e1,e2⟩:=hno.out (.inl (HY.out.1 rfl))
   have E1:=Lib.hid e1
   have E2:=Lib.hid e2
   clear e1 e2
   go_wp2
   go_ret2
   exact ⟨by rw [E1.out,E2.out];rfl,rfl⟩
  |false=>
   have hT: ¬Lx.tooMuch dl Lx.big7 (dl≠[48]):=fun h=>absurd (HY.out.2 h) (by decide)
   have HT:=Lib.hid hT
   clear hT
   go_wp2
   by_cases hall: ∀c∈dl,Lx.isDig c=true
   ·obtain ⟨e1,e2,e3⟩:=hok.out HT.out hall
    have E1:=Lib.hid e1
    have E2:=Lib.hid e2
    have E3:=Lib.hid e3
    have HA:=Lib.hid hall
    clear e1 e2 e3 hall
    go_loopg [7,8] D.size (fun kq v7 v8 wr=> ∃i:Nat,v8=.int .i64 i∧kq+i=D.size∧v7=.int .i64 ((Lx.spell 0 (dl.take i):Int))∧wr=w)
    case atStart=>exact ⟨0,rfl,rfl,by rw [List.take_zero,Lx.spell_nil];rfl,rfl⟩
    case round=>
     obtain ⟨i,rfl,hki,rfl,rfl⟩:=hrel
     have hile:i≤D.size:=by omega
     have HKI:=Lib.hid hki
     clear hki
     by_cases hi:i<D.size
     ·have hd1:decide (i<D.size)=true:=decide_eq_true hi
      have hi1:(0:Int)≤i:=by omega
      have hi2:(i:Int)<D.size:=by omega
      have hw5:IntKind.i64.wrap ((i:Int)+1)=(i:Int)+1:=IntWalk.i64_in _ (by omega)
      have hil:i<dl.length:=by have:=HLEN.out;omega
      have hget:dl[i]=D[i]:=by
       have:=get_list D i hi
       simp only [HDL.out] at this
       exact this
      have hdig:=(Lx.isDig_iff _).1 (HA.out (dl[i]) (List.getElem_mem hil))
      rw [hget] at hdig
      have hnext:Lx.spell 0 (dl.take (i+1))=Lx.spell 0 (dl.take i)*10+((D[i]'hi).toNat-48):=by
       rw [take_dig dl i hil,Lx.spell_snoc,hget]
      have hle:=spell_take_le dl (i+1)
      have hle3:=E3.out
      have hM:Hid (∀w:World,Calls Tryz.prog 125 #[.int .u8 68,.int .u8 (D[i]'hi).toNat] w fun e w'=>e=.returned (.bool true)∧w=w'):=Lib.hid fun w=>by
       have:=member_walk 68 (D[i]'hi).toNat (D[i]'hi).toNat_lt w
       rw [show Lx.mem 68 (D[i]'hi).toNat=true from by rw [(mem_tab _ (D[i]'hi).toNat_lt).2.1];exact (Lx.isDig_iff _).2 hdig] at this
       exact this
      obtain ⟨a,ha⟩: ∃a,Lx.spell 0 (dl.take i)=a:=⟨_,rfl⟩
      obtain ⟨x,hx⟩: ∃x,(D[i]'hi).toNat=x:=⟨_,rfl⟩
      rw [ha,hx] at hnext
      rw [hx] at hdig hM
      have wA:IntKind.i64.wrap ((a:Int)*10)=(a:Int)*10:=IntWalk.i64_in _ (by omega)
      have wB:IntKind.u8.wrap ((x:Int)-48)=(x:Int)-48:=IntWalk.u8_in _ (by omega)
      have wC:IntKind.i64.wrap ((x:Int)-48)=(x:Int)-48:=IntWalk.i64_in _ (by omega)
      have wD:IntKind.i64.wrap (-((x:Int)-48))= -((x:Int)-48):=IntWalk.i64_in _ (by omega)
      have wE:IntKind.i64.wrap ((a:Int)*10+((x:Int)-48))=(Lx.spell 0 (dl.take (i+1)):Int):=by
       rw [IntWalk.i64_in _ (by omega),hnext]
       omega
      have HX:=Lib.hid hx
      rw [ha]
      clear hdig hnext hle hle3 hget ha
      go_wp2_with (go_at_call 125;refine (hM.out _).mono ?_;rintro e w' ⟨rfl,rfl⟩)
      go_roundg (gk-1)
      case measure=>have:=HKI.out;omega
      case rel=>exact ⟨i+1,by go_num,by have:=HKI.out;omega,rfl,rfl⟩
     ·have hd1:decide (i<D.size)=false:=decide_eq_false hi
      have HF:Hid (dl.take i=dl):=Lib.hid (List.take_of_length_le (by have:=HLEN.out;omega))
      clear hi
      go_wp2
      go_ret2
      exact ⟨by rw [E1.out,E2.out,HF.out];rfl,rfl⟩
   ·obtain ⟨e1,e2⟩:=hno.out (.inr hall)
    have E1:=Lib.hid e1
    have E2:=Lib.hid e2
    clear e1 e2
    obtain ⟨j,hj,hjn,hjb⟩:=first_bad dl hall
    have HJN:=Lib.hid hjn
    have HJB:=Lib.hid hjb
    clear hall hjn hjb
    go_loopg [7,8] D.size (fun kq v7 v8 wr=> ∃(i:Nat) (n:Int),v8=.int .i64 i∧kq+i=D.size∧i≤j∧v7=.int .i64 n∧wr=w)
    case atStart=>exact ⟨0,0,rfl,rfl,Nat.zero_le _,rfl,rfl⟩
    case round=>
     obtain ⟨i,n,rfl,hki,hij,rfl,rfl⟩:=hrel
     have HKI:=Lib.hid hki
     clear hki
     have hjs:j<D.size:=by have:=HLEN.out;omega
     have hi:i<D.size:=by omega
     have hd1:decide (i<D.size)=true:=decide_eq_true hi
     have hi1:(0:Int)≤i:=by omega
     have hi2:(i:Int)<D.size:=by omega
     have hw5:IntKind.i64.wrap ((i:Int)+1)=(i:Int)+1:=IntWalk.i64_in _ (by omega)
     have hil:i<dl.length:=by have:=HLEN.out;omega
     have hget:dl[i]=D[i]:=by
      have:=get_list D i hi
      simp only [HDL.out] at this
      exact this
     have hmd:Hid (Lx.mem 68 (D[i]'hi).toNat=Lx.isDig dl[i]):=Lib.hid (by rw [(mem_tab _ (D[i]'hi).toNat_lt).2.1,hget];rfl)
     by_cases hlt:i<j
     ·have hM:Hid (∀w:World,Calls Tryz.prog 125 #[.int .u8 68,.int .u8 (D[i]'hi).toNat] w fun e w'=>e=.returned (.bool true)∧w=w'):=Lib.hid fun w=>by
       have:=member_walk 68 (D[i]'hi).toNat (D[i]'hi).toNat_lt w
       rw [hmd.out,HJN.out i hlt hil] at this
       exact this
      clear hget
      go_wp2_with (go_at_call 125;refine (hM.out _).mono ?_;rintro e w' ⟨rfl,rfl⟩)
      go_roundg (gk-1)
      case measure=>have:=HKI.out;omega
      case rel=>exact ⟨i+1,_,by go_num,by have:=HKI.out;omega,hlt,rfl,rfl⟩
     ·have hM:Hid (∀w:World,Calls Tryz.prog 125 #[.int .u8 68,.int .u8 (D[i]'hi).toNat] w fun e w'=>e=.returned (.bool false)∧w=w'):=Lib.hid fun w=>by
       have:=member_walk 68 (D[i]'hi).toNat (D[i]'hi).toNat_lt w
       have e:i=j:=by omega
       subst e
       rw [hmd.out,HJB.out] at this
       exact this
      clear hget
      go_wp2_with (go_at_call 125;refine (hM.out _).mono ?_;rintro e w' ⟨rfl,rfl⟩)
      go_ret2
      exact ⟨by rw [E1.out,E2.out];rfl,rfl⟩

set_option maxHeartbeats 12800000 in
set_option maxRecDepth 100000 in
theorem number_neg (s:ByteArray) (hs:s.size≤9223372036854775807) (h0:0<s.size) (h45:(s[0]'h0).toNat=45) (w:World):
  Calls Tryz.prog 100 #[.string s] w (Num s w):=by
 obtain ⟨D,hD⟩: ∃D,s.extract 1 s.size=D:=⟨_,rfl⟩
 have hsl:s.data.toList=45::D.data.toList:=by
  have h1:=cons_at s 0 h0
  rw [List.drop_zero] at h1
  rw [h1,←hD,Lib.extract_data,List.take_of_length_le (by rw [List.length_drop,data_length];omega)]
  congr 1
  exact UInt8.toNat_inj.1 h45
 have hDs:D.size≤9223372036854775807:=by
  have:=congrArg List.length hsl
  rw [data_length,List.length_cons,data_length] at this
  omega
 obtain ⟨dl,hdl⟩: ∃l,D.data.toList=l:=⟨_,rfl⟩
 have HDL:=Lib.hid hdl
 have HSL:Hid (s.data.toList=45::dl):=Lib.hid (by rw [hsl,hdl])
 have hno:Hid (Lx.tooMuch dl Lx.big8 True∨(¬ ∀c∈dl,Lx.isDig c=true)→numV s.data.toList=0∧numE s.data.toList=11):=Lib.hid (fun h=>num_no (by rw [HSL.out];exact Lx.neg_no h))
 have hok:Hid (¬Lx.tooMuch dl Lx.big8 True→(∀c∈dl,Lx.isDig c=true)→numV s.data.toList= -(Lx.spell 0 dl:Int)∧numE s.data.toList=0∧Lx.spell 0 dl≤9223372036854775808):=Lib.hid (fun h1 h2=>by
  obtain ⟨a,b,c⟩:=Lx.neg_ok h1 h2
  unfold numV numE
  rw [HSL.out,a]
  exact ⟨b,rfl,c⟩)
 obtain ⟨nv,hnv⟩: ∃x,numV s.data.toList=x:=⟨_,rfl⟩
 obtain ⟨ne,hne⟩: ∃x,numE s.data.toList=x:=⟨_,rfl⟩
 unfold Num
 rw [hnv,hne]
 rw [hnv,hne] at hno hok
 have q1:decide (0<s.size)=true:=decide_eq_true h0
 have q2:(((s[0]'h0).toNat:Int)==45)=true:=by rw [beq_iff_eq];omega
 have hi0:(0:Int)<s.size:=by omega
 have hi1:(1:Int)≤s.size:=by omega
 have hDn: ¬(s.toList==[48])=true:=by
  intro h
  have h1:=of_decide_eq_true ((beq_iff_eq.1 h)▸rfl:decide (s.toList=s.toList)=true)
  have h2:s.toList=[48]:=beq_iff_eq.1 h
  rw [Lib.toList_data,HSL.out] at h2
  injection h2 with h3 _
  exact absurd h3 (by decide)
 have hz1:(s.toList==[48])=false:=by simpa using hDn
 clear hdl hsl hnv hne h45 hDn
 obtain ⟨Y,hY⟩: ∃Y:Bool,Y=true↔Lx.tooMuch dl Lx.big8 True:=⟨@decide (Lx.tooMuch dl Lx.big8 True) (Classical.propDecidable _),by simp⟩
 have HY:=Lib.hid hY
 clear hY
 have HLEN:Hid (dl.length=D.size):=Lib.hid (by rw [←HDL.out,data_length])
 go_enter Tryz.func100,Tryz.ntmps100
 go_upto_region 8 with (fail)
 go_cut [50] (fun v50 wc=>v50=.bool Y∧w=wc)
 case first=>
  by_cases m0:D.size=0
  ·have g1:((D.size:Int)==0)=true:=by rw [beq_iff_eq];omega
   have HYv:Hid (Y=true):=Lib.hid (by rw [HY.out];exact .inl (by have:=HLEN.out;omega))
   clear m0
   go_wp2
   go_meet
   case rel=>exact ⟨by rw [HYv.out],rfl⟩
  have hm0:0<D.size:=by omega
  have g1:((D.size:Int)==0)=false:=by rw [beq_eq_false_iff_ne];omega
  have gi:(0:Int)<D.size:=by omega
  by_cases m19:19<D.size
  ·have g2:decide ((19:Int)<D.size)=true:=decide_eq_true (by omega)
   have HYv:Hid (Y=true):=Lib.hid (by rw [HY.out];exact .inr (.inl (by have:=HLEN.out;omega)))
   clear m0 m19
   go_wp2
   go_meet
   case rel=>exact ⟨by rw [HYv.out],rfl⟩
  have g2:decide ((19:Int)<D.size)=false:=decide_eq_false (by omega)
  obtain ⟨x1,hx1⟩: ∃x,Op.bytesLess D.toList [57,50,50,51,51,55,50,48,51,54,56,53,52,55,55,53,56,48,56]=x:=⟨_,rfl⟩
  obtain ⟨x2,hx2⟩: ∃x,(D.toList==[57,50,50,51,51,55,50,48,51,54,56,53,52,55,55,53,56,48,56])=x:=⟨_,rfl⟩
  have HX1:Hid (Op.bytesLess dl Lx.big8=x1):=Lib.hid (by rw [←hx1,Lib.toList_data,HDL.out];rfl)
  have HX2:Hid (decide (dl=Lx.big8)=x2):=Lib.hid (by
   rw [←hx2,Lib.toList_data,HDL.out,Bool.eq_iff_iff,beq_iff_eq,decide_eq_true_eq]
   rfl)
  by_cases h3:D.size=19∧x1=false∧x2=false
  ·obtain ⟨k1,k2,k3⟩:=h3
   have HYv:Hid (Y=true):=Lib.hid (by rw [HY.out];exact .inr (.inr (.inl ⟨by have:=HLEN.out;omega,by rw [HX1.out,k2],of_decide_eq_false (by rw [HX2.out,k3])⟩)))
   have g3:((D.size:Int)==19)=true:=by rw [beq_iff_eq];omega
   subst k2 k3
   clear m0 m19 k1
   go_wp2
   go_meet
   case rel=>exact ⟨by rw [HYv.out],rfl⟩
  have HN:Hid (¬(dl.length=19∧Op.bytesLess dl Lx.big8=false∧dl≠Lx.big8)):=Lib.hid (by
   rintro ⟨k1,k2,k3⟩
   exact h3 ⟨by have:=HLEN.out;omega,by rw [←HX1.out];exact k2,by rw [←HX2.out];exact decide_eq_false k3⟩)
  have HH:=Lib.hid (head_is D hm0 48)
  have HYI:Hid (Y=true↔(dl.head? =some 48∧True)):=Lib.hid (by
   rw [HY.out]
   have l1:=HLEN.out
   unfold Lx.tooMuch
   constructor
   ·rintro (h|h|h|h)
    ·omega
    ·omega
    ·exact absurd h HN.out
    ·exact h
   ·intro h;exact .inr (.inr (.inr h)))
  have hw3:((D.size:Int)==19)=false∨(((D.size:Int)==19)=true∧x1=true)∨(((D.size:Int)==19)=true∧x1=false∧x2=true):=by
   by_cases k1:D.size=19
   ·have e:((D.size:Int)==19)=true:=by rw [beq_iff_eq];omega
    cases x1 with
    |true=>exact .inr (.inl ⟨e,rfl⟩)
    |false=>
     cases x2 with
     |true=>exact .inr (.inr ⟨e,rfl,rfl⟩)
     |false=>exact absurd ⟨k1,rfl,rfl⟩ h3
   ·exact .inl (by rw [beq_eq_false_iff_ne];omega)
  clear m0 m19 h3 HX1 HX2 HN
  by_cases h48:(D[0]'hm0).toNat=48
  ·have g4:(((D[0]'hm0).toNat:Int)==48)=true:=by rw [beq_iff_eq];omega
   have hd48:Hid (dl.head? =some 48):=Lib.hid (by rw [←HDL.out];exact HH.out.2 h48)
   clear h48
   have HYv:Hid (Y=true):=Lib.hid (HYI.out.2 ⟨hd48.out,trivial⟩)
   rcases hw3 with g3|⟨g3,hx⟩|⟨g3,hx,hy⟩
   all_goals
    try subst hx
    try subst hy
    go_wp2
    go_meet
    case rel=>exact ⟨by rw [HYv.out],rfl⟩
  ·have g4:(((D[0]'hm0).toNat:Int)==48)=false:=by rw [beq_eq_false_iff_ne];omega
   have HYv:Hid (Y=false):=Lib.hid (by
    rw [←Bool.not_eq_true,HYI.out]
    rintro ⟨h,_⟩
    rw [←HDL.out] at h
    exact h48 (HH.out.1 h))
   clear h48
   rcases hw3 with g3|⟨g3,hx⟩|⟨g3,hx,hy⟩
   all_goals
    try subst hx
    try subst hy
    go_wp2
    go_meet
    case rel=>exact ⟨by rw [HYv.out],rfl⟩

 case rest=>
  obtain ⟨rfl,rfl⟩:=hcut
  cases Y with
  |true=>
   obtain ⟨e1,e2⟩:=hno.out (.inl (HY.out.1 rfl))
   have E1:=Lib.hid e1
   have E2:=Lib.hid e2
   clear e1 e2
   go_wp2
   go_ret2
   exact ⟨by rw [E1.out,E2.out];rfl,rfl⟩
  |false=>
   have hT: ¬Lx.tooMuch dl Lx.big8 True:=fun h=>absurd (HY.out.2 h) (by decide)
   have HT:=Lib.hid hT
   clear hT
   go_wp2
   by_cases hall: ∀c∈dl,Lx.isDig c=true
   ·obtain ⟨e1,e2,e3⟩:=hok.out HT.out hall
    have E1:=Lib.hid e1
    have E2:=Lib.hid e2
    have E3:=Lib.hid e3
    have HA:=Lib.hid hall
    clear e1 e2 e3 hall
    go_loopg [7,8] D.size (fun kq v7 v8 wr=> ∃i:Nat,v8=.int .i64 i∧kq+i=D.size∧v7=.int .i64 (-(Lx.spell 0 (dl.take i):Int))∧wr=w)
    case atStart=>exact ⟨0,rfl,rfl,by rw [List.take_zero,Lx.spell_nil];rfl,rfl⟩
    case round=>
     obtain ⟨i,rfl,hki,rfl,rfl⟩:=hrel
     have hile:i≤D.size:=by omega
     have HKI:=Lib.hid hki
     clear hki
     by_cases hi:i<D.size
     ·have hd1:decide (i<D.size)=true:=decide_eq_true hi
      have hi1:(0:Int)≤i:=by omega
      have hi2:(i:Int)<D.size:=by omega
      have hw5:IntKind.i64.wrap ((i:Int)+1)=(i:Int)+1:=IntWalk.i64_in _ (by omega)
      have hil:i<dl.length:=by have:=HLEN.out;omega
      have hget:dl[i]=D[i]:=by
       have:=get_list D i hi
       simp only [HDL.out] at this
       exact this
      have hdig:=(Lx.isDig_iff _).1 (HA.out (dl[i]) (List.getElem_mem hil))
      rw [hget] at hdig
      have hnext:Lx.spell 0 (dl.take (i+1))=Lx.spell 0 (dl.take i)*10+((D[i]'hi).toNat-48):=by
       rw [take_dig dl i hil,Lx.spell_snoc,hget]
      have hle:=spell_take_le dl (i+1)
      have hle3:=E3.out
      have hM:Hid (∀w:World,Calls Tryz.prog 125 #[.int .u8 68,.int .u8 (D[i]'hi).toNat] w fun e w'=>e=.returned (.bool true)∧w=w'):=Lib.hid fun w=>by
       have:=member_walk 68 (D[i]'hi).toNat (D[i]'hi).toNat_lt w
       rw [show Lx.mem 68 (D[i]'hi).toNat=true from by rw [(mem_tab _ (D[i]'hi).toNat_lt).2.1];exact (Lx.isDig_iff _).2 hdig] at this
       exact this
      obtain ⟨a,ha⟩: ∃a,Lx.spell 0 (dl.take i)=a:=⟨_,rfl⟩
      obtain ⟨x,hx⟩: ∃x,(D[i]'hi).toNat=x:=⟨_,rfl⟩
      rw [ha,hx] at hnext
      rw [hx] at hdig hM
      have wA:IntKind.i64.wrap (-(a:Int)*10)= -(a:Int)*10:=IntWalk.i64_in _ (by omega)
      have wB:IntKind.u8.wrap ((x:Int)-48)=(x:Int)-48:=IntWalk.u8_in _ (by omega)
      have wC:IntKind.i64.wrap ((x:Int)-48)=(x:Int)-48:=IntWalk.i64_in _ (by omega)
      have wD:IntKind.i64.wrap (-((x:Int)-48))= -((x:Int)-48):=IntWalk.i64_in _ (by omega)
      have wE:IntKind.i64.wrap (-(a:Int)*10+ -((x:Int)-48))= -(Lx.spell 0 (dl.take (i+1)):Int):=by
       rw [IntWalk.i64_in _ (by omega),hnext]
       omega
      have HX:=Lib.hid hx
      rw [ha]
      clear hdig hnext hle hle3 hget ha
      go_wp2_with (go_at_call 125;refine (hM.out _).mono ?_;rintro e w' ⟨rfl,rfl⟩)
      go_roundg (gk-1)
      case measure=>have:=HKI.out;omega
      case rel=>exact ⟨i+1,by go_num,by have:=HKI.out;omega,rfl,rfl⟩
     ·have hd1:decide (i<D.size)=false:=decide_eq_false hi
      have HF:Hid (dl.take i=dl):=Lib.hid (List.take_of_length_le (by have:=HLEN.out;omega))
      clear hi
      go_wp2
      go_ret2
      exact ⟨by rw [E1.out,E2.out,HF.out];rfl,rfl⟩
   ·obtain ⟨e1,e2⟩:=hno.out (.inr hall)
    have E1:=Lib.hid e1
    have E2:=Lib.hid e2
    clear e1 e2
    obtain ⟨j,hj,hjn,hjb⟩:=first_bad dl hall
    have HJN:=Lib.hid hjn
    have HJB:=Lib.hid hjb
    clear hall hjn hjb
    go_loopg [7,8] D.size (fun kq v7 v8 wr=> ∃(i:Nat) (n:Int),v8=.int .i64 i∧kq+i=D.size∧i≤j∧v7=.int .i64 n∧wr=w)
    case atStart=>exact ⟨0,0,rfl,rfl,Nat.zero_le _,rfl,rfl⟩
    case round=>
     obtain ⟨i,n,rfl,hki,hij,rfl,rfl⟩:=hrel
     have HKI:=Lib.hid hki
     clear hki
     have hjs:j<D.size:=by have:=HLEN.out;omega
     have hi:i<D.size:=by omega
     have hd1:decide (i<D.size)=true:=decide_eq_true hi
     have hi1:(0:Int)≤i:=by omega
     have hi2:(i:Int)<D.size:=by omega
     have hw5:IntKind.i64.wrap ((i:Int)+1)=(i:Int)+1:=IntWalk.i64_in _ (by omega)
     have hil:i<dl.length:=by have:=HLEN.out;omega
     have hget:dl[i]=D[i]:=by
      have:=get_list D i hi
      simp only [HDL.out] at this
      exact this
     have hmd:Hid (Lx.mem 68 (D[i]'hi).toNat=Lx.isDig dl[i]):=Lib.hid (by rw [(mem_tab _ (D[i]'hi).toNat_lt).2.1,hget];rfl)
     by_cases hlt:i<j
     ·have hM:Hid (∀w:World,Calls Tryz.prog 125 #[.int .u8 68,.int .u8 (D[i]'hi).toNat] w fun e w'=>e=.returned (.bool true)∧w=w'):=Lib.hid fun w=>by
       have:=member_walk 68 (D[i]'hi).toNat (D[i]'hi).toNat_lt w
       rw [hmd.out,HJN.out i hlt hil] at this
       exact this
      clear hget
      go_wp2_with (go_at_call 125;refine (hM.out _).mono ?_;rintro e w' ⟨rfl,rfl⟩)
      go_roundg (gk-1)
      case measure=>have:=HKI.out;omega
      case rel=>exact ⟨i+1,_,by go_num,by have:=HKI.out;omega,hlt,rfl,rfl⟩
     ·have hM:Hid (∀w:World,Calls Tryz.prog 125 #[.int .u8 68,.int .u8 (D[i]'hi).toNat] w fun e w'=>e=.returned (.bool false)∧w=w'):=Lib.hid fun w=>by
       have:=member_walk 68 (D[i]'hi).toNat (D[i]'hi).toNat_lt w
       have e:i=j:=by omega
       subst e
       rw [hmd.out,HJB.out] at this
       exact this
      clear hget
      go_wp2_with (go_at_call 125;refine (hM.out _).mono ?_;rintro e w' ⟨rfl,rfl⟩)
      go_ret2
      exact ⟨by rw [E1.out,E2.out];rfl,rfl⟩
theorem number_walk (s:ByteArray) (hs:s.size≤9223372036854775807) (w:World):
  Calls Tryz.prog 100 #[.string s] w (Num s w):=by
 by_cases h0:0<s.size
 ·by_cases h45:(s[0]'h0).toNat=45
  ·exact number_neg s hs h0 h45 w
  ·exact number_pos s hs (fun _=>h45) w
 ·exact number_pos s hs (fun h=>absurd h h0) w
end Go.Proofs.YtipnlgmeonepfaaGreatDoor.Ref
