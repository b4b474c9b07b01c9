/- The machine is the reference's recursion. -/
import Derived.Test.YtipnlgmeonepfaaGreatDoorFrC
import Derived.Test.YtipnlgmeonepfaaGreatDoorFrD
import Derived.Test.YtipnlgmeonepfaaGreatDoorFrB
import Derived.Deep.RegionHeld3
import Derived.Test.YtipnlgmeonepfaaGreatDoorFrA
set_option linter.unusedVariables false
namespace Go.Proofs.YtipnlgmeonepfaaGreatDoor.PFa
open Go.RowKit Go.Proofs.YtipnlgmeonepfaaGreatDoorW.PrintWords Go.Proofs.YtipnlgmeonepfaaGreatDoorW.PrintLast Go.Proofs.YtipnlgmeonepfaaGreatDoorW.PrintMore
/-- What a reading of one list comes to: closed at c, the end of all tokens, or an error at j. -/
inductive LR where
  |shut (c:Nat) (out:List Fg)
  |fin (out:List Fg)
  |bad (j:Nat) (e:Int)
def bracketR (s:ByteArray):ByteArray:=if s.toList=[40] then ⟨#[41]⟩ else if s.toList=[91] then ⟨#[93]⟩ else if s.toList=[123] then ⟨#[125]⟩ else ⟨#[]⟩
def closesR (t:Tk):Bool:=(t.f0==1&&t.f2.toList==endText)||(t.f0==5&&(t.f2.toList==[41]||t.f2.toList==[93]||t.f2.toList==[125]))
def fitsR (t:Tk) (op:ByteArray):Bool:=((bracketR op).toList==[]&&(t.f0==1&&t.f2.toList==endText))||((bracketR op).toList !=[]&&(t.f0==5&&t.f2.toList==(bracketR op).toList))
def opensR (ws:List ByteArray) (l:List Tk) (i:Nat) (plain:Bool):Bool:=
  if (tkAt l i).f0=5 then (bracketR (tkAt l i).f2).toList !=[]
  else if (tkAt l i).f0=1∧plain=false∧memB (tkAt l i).f2 (openers++ws)=true then !(((tkAt l i).f2.toList==cClass)&&isNm l (i+1) slotName) else false
def wordR (l:List Tk) (j:Nat) (s:ByteArray):Bool:=(s.toList !=[])&&isNm l j s
def nameR (kids:List Fg):ByteArray:=match kids with
  |[]=>⟨#[]⟩
  |k::_=>if k.f1=⟨#[]⟩∧k.f0.f0=1 then k.f0.f2 else ⟨#[]⟩
def dropR (l:List Tk) (c:Nat) (op:ByteArray) (kids:List Fg):Nat:=
  if op.toList=cClass∨op.toList=cMethod∨op.toList=cMacro then
    if wordR l (c+1) op=true∧wordR l (c+2) (nameR kids)=true∧stopsB l (c+3)=true then 2
    else if (wordR l (c+1) op=true∨wordR l (c+1) (nameR kids)=true)∧stopsB l (c+2)=true then 1 else 0
  else 0
def plainR (fr:Option (ByteArray×Nat)) (out:List Fg):Bool:=match fr,out with
  |some (op,_),[]=>op.toList==cMacro
  |_,_=>false
/-- The reference's list: it reads what lies in a group (fr: what opened it, and where) up to its end. -/
def rlist (ws:List ByteArray) (l:List Tk):Nat→Nat→Option (ByteArray×Nat)→Nat→List Fg→LR
  |0,_,fr,_,out=>match fr with
    |none=> .fin out
    |some (_,at_)=> .bad at_ 21
  |k+1,d,fr,i,out=>
    if i<l.length then
      if Pure.good (tkAt l i)=true then
        if closesR (tkAt l i)=true then
          match fr with
          |none=> .bad i 20
          |some (op,_)=>if fitsR (tkAt l i) op=true then .shut i out else .bad i 20
        else if opensR ws l i (plainR fr out)=true then
          if 100≤d then .bad i 6
          else match rlist ws l k (d+1) (some ((tkAt l i).f2,i)) (i+1) [] with
            | .bad j e=> .bad j e
            | .fin _=> .fin []
            | .shut c kids=>match badIn l c (dropR l c (tkAt l i).f2 kids) with
              |some q=> .bad (c+1+q) 14
              |none=>rlist ws l k d fr (c+dropR l c (tkAt l i).f2 kids+1) (out++[⟨tkAt l i,(tkAt l i).f2,kids⟩])
        else rlist ws l k d fr (i+1) (out++[⟨tkAt l i,⟨#[]⟩,[]⟩])
      else .bad i 14
    else match fr with
      |none=> .fin out
      |some (_,at_)=> .bad at_ 21
/-- What Read hands back: the fragments, or where it is wrong and how. -/
inductive RO where
  |ok (out:List Fg)
  |bad (j:Nat) (e:Int)
def ended:St→RO
  | .bad i e=> .bad i e
  | .go _ top []=> .ok top
  | .go _ _ (p::_)=> .bad p.at_ 21
section
variable {l:List Tk} {ws:List ByteArray}
/-- The words that a reader is given: plain names, none of its own. -/
structure Plainly (ws:List ByteArray):Prop where
  kind: ∀x∈ws,Pure.kindOf x=1
  free: ∀x∈ws,memB x takenWords=false
  own: ∀x∈openers,Pure.kindOf x=1
  ends:Pure.kindOf ⟨#[101,110,100]⟩=1
  s40:Pure.kindOf ⟨#[40]⟩=5
  s41:Pure.kindOf ⟨#[41]⟩=5
  s91:Pure.kindOf ⟨#[91]⟩=5
  s93:Pure.kindOf ⟨#[93]⟩=5
  s123:Pure.kindOf ⟨#[123]⟩=5
  s125:Pure.kindOf ⟨#[125]⟩=5
  s0:Pure.kindOf ⟨#[]⟩=0
theorem memB_iff (x:ByteArray) (l:List ByteArray):memB x l=true↔x∈l:=by
  unfold memB
  rw [List.any_eq_true]
  constructor
  · rintro ⟨y,hy,e⟩
    rw [←of_decide_eq_true e]
    exact hy
  · exact fun h=>⟨x,h,decide_eq_true rfl⟩
theorem memB_cons (s x:ByteArray) (r:List ByteArray):memB s (x::r)=(decide (x=s)||memB s r):=rfl
theorem actIn_words (tab:List (ByteArray×Bool)) (s:ByteArray): ∀xs:List ByteArray,actIn (xs.map (fun x=>(x,true))++tab) s=if memB s xs=true then some true else actIn tab s
  |[]=>by rw [if_neg (by intro h;cases h)];rfl
  |x::r=>by
    show (if s.data.toList=x.data.toList then some true else actIn (r.map (fun x=>(x,true))++tab) s)=_
    rw [actIn_words tab s r,memB_cons]
    by_cases h:x=s
    · subst h
      rw [if_pos rfl,if_pos (by rw [decide_eq_true rfl];rfl)]
    · rw [if_neg (fun e=>h (Pure.bytes_ext e.symm)),decide_eq_false h,Bool.false_or]
theorem actIn_tab (xs:List ByteArray) (s:ByteArray):actIn (actTab xs) s=if memB s xs=true then some true else actIn signActs s:=by
  have e:memB s xs.reverse=memB s xs:=by
    rw [Bool.eq_iff_iff,memB_iff,memB_iff,List.mem_reverse]
  unfold actTab
  rw [←List.map_reverse,actIn_words,e]
/-- What a text does, by the reference's words. -/
inductive Does (ws:List ByteArray) (s:ByteArray):Prop where
  |word (h:memB s (openers++ws)=true) (ha:actIn (actTab (openers++ws)) s=some true)
  |opn (h:s=⟨#[40]⟩∨s=⟨#[91]⟩∨s=⟨#[123]⟩) (ha:actIn (actTab (openers++ws)) s=some true)
  |cls (h:s=⟨#[41]⟩∨s=⟨#[93]⟩∨s=⟨#[125]⟩) (ha:actIn (actTab (openers++ws)) s=some false)
  |fin (h:s=⟨#[101,110,100]⟩) (ha:actIn (actTab (openers++ws)) s=some false)
  |no (h:memB s (openers++ws)=false) (h1:s≠⟨#[40]⟩) (h2:s≠⟨#[91]⟩) (h3:s≠⟨#[123]⟩) (h4:s≠⟨#[41]⟩) (h5:s≠⟨#[93]⟩) (h6:s≠⟨#[125]⟩) (h7:s≠⟨#[101,110,100]⟩) (ha:actIn (actTab (openers++ws)) s=none)
theorem does (ws:List ByteArray) (s:ByteArray):Does ws s:=by
  by_cases h:memB s (openers++ws)=true
  · exact .word h (by rw [actIn_tab,if_pos h])
  · have ha:=actIn_tab (openers++ws) s
    rw [if_neg h] at ha
    by_cases h7:s=⟨#[101,110,100]⟩
    · exact .fin h7 (ha.trans (by rw [h7];rfl))
    by_cases h6:s=⟨#[125]⟩
    · exact .cls (.inr (.inr h6)) (ha.trans (by rw [h6];rfl))
    by_cases h5:s=⟨#[93]⟩
    · exact .cls (.inr (.inl h5)) (ha.trans (by rw [h5];rfl))
    by_cases h4:s=⟨#[41]⟩
    · exact .cls (.inl h4) (ha.trans (by rw [h4];rfl))
    by_cases h3:s=⟨#[123]⟩
    · exact .opn (.inr (.inr h3)) (ha.trans (by rw [h3];rfl))
    by_cases h2:s=⟨#[91]⟩
    · exact .opn (.inr (.inl h2)) (ha.trans (by rw [h2];rfl))
    by_cases h1:s=⟨#[40]⟩
    · exact .opn (.inl h1) (ha.trans (by rw [h1];rfl))
    refine .no (Bool.eq_false_iff.2 h) h1 h2 h3 h4 h5 h6 h7 (ha.trans ?_)
    have hn: ∀{b:ByteArray},s≠b→s.data.toList≠b.data.toList:=fun hb e=>hb (Pure.bytes_ext e)
    unfold signActs
    simp only [actIn,if_neg (hn h1),if_neg (hn h2),if_neg (hn h3),if_neg (hn h4),if_neg (hn h5),if_neg (hn h6),if_neg (hn h7)]
theorem good_kind {t:Tk} (h:Pure.good t=true):Pure.kindOf t.f2=t.f0∧t.f0≠0:=by
  have:=of_decide_eq_true h
  exact ⟨this.1.2,this.1.1⟩
theorem mem_open {x:ByteArray} (hP:Plainly ws) (h:memB x (openers++ws)=true):Pure.kindOf x=1∧x≠⟨#[101,110,100]⟩:=by
  rw [memB_iff,List.mem_append] at h
  rcases h with h|h
  · refine ⟨hP.own x h, ?_⟩
    rintro rfl
    exact absurd ((memB_iff _ _).2 h) (by decide)
  · refine ⟨hP.kind x h, ?_⟩
    rintro rfl
    exact absurd (hP.free _ h) (by decide)
theorem list_beq (a b:ByteArray):(a.toList==b.data.toList)=decide (a=b):=by
  rw [Bool.eq_iff_iff,beq_iff_eq,decide_eq_true_iff,Lib.toList_data]
  exact ⟨Pure.bytes_ext,fun e=>by rw [e]⟩
theorem list_eq (a b:ByteArray):a.toList=b.data.toList↔a=b:=by
  rw [Lib.toList_data]
  exact ⟨Pure.bytes_ext,fun e=>by rw [e]⟩
/-- The machine's decision is the reference's. -/
theorem decision {i : Nat} {ps : List PF} (hP : Plainly ws) (hg : Pure.good (tkAt l i) = true) :
    (closesR (tkAt l i)=true∧leafB l i ps (actIn (actTab (openers++ws)) (tkAt l i).f2)=false∧actIn (actTab (openers++ws)) (tkAt l i).f2=some false)∨
    (closesR (tkAt l i)=false∧opensR ws l i (nmd i ps)=false∧leafB l i ps (actIn (actTab (openers++ws)) (tkAt l i).f2)=true)∨
    (closesR (tkAt l i)=false∧opensR ws l i (nmd i ps)=true∧leafB l i ps (actIn (actTab (openers++ws)) (tkAt l i).f2)=false∧actIn (actTab (openers++ws)) (tkAt l i).f2=some true):=by
  obtain ⟨hk,h0⟩:=good_kind hg
  have e1: ∀b:ByteArray,((tkAt l i).f2.toList==b.data.toList)=decide ((tkAt l i).f2=b):=fun b=>list_beq _ b
  have c1:closesR (tkAt l i)=(((tkAt l i).f0==1&&decide ((tkAt l i).f2=⟨#[101,110,100]⟩))||((tkAt l i).f0==5&&(decide ((tkAt l i).f2=⟨#[41]⟩)||decide ((tkAt l i).f2=⟨#[93]⟩)||decide ((tkAt l i).f2=⟨#[125]⟩)))):=by
    rw [←e1,←e1,←e1,←e1]
    rfl
  have c2: ∀a,leafB l i ps a=((!a.isSome||(!((tkAt l i).f0==1)&& !((tkAt l i).f0==5)))||(((tkAt l i).f2.toList==cClass)&&isNm l (i+1) slotName)||(((tkAt l i).f0==1)&& !(decide ((tkAt l i).f2=⟨#[101,110,100]⟩))&&nmd i ps)):=fun a=>by
    rw [←e1]
    rfl
  have c3:(bracketR (tkAt l i).f2)=if (tkAt l i).f2=⟨#[40]⟩ then ⟨#[41]⟩ else if (tkAt l i).f2=⟨#[91]⟩ then ⟨#[93]⟩ else if (tkAt l i).f2=⟨#[123]⟩ then ⟨#[125]⟩ else ⟨#[]⟩:=by
    have e2: ∀c:UInt8,((tkAt l i).f2.toList=[c])↔((tkAt l i).f2=⟨#[c]⟩):=fun c=>list_eq _ ⟨#[c]⟩
    unfold bracketR
    simp only [e2]
  have c4: ∀b:ByteArray,(b.toList !=[])= !decide (b=⟨#[]⟩):=fun b=>by
    rw [←list_beq]
    rfl
  obtain ⟨t,ht⟩: ∃t,tkAt l i=t:=⟨_,rfl⟩
  unfold opensR
  rw [c1,c2,c3,c4]
  rw [ht] at hk h0⊢
  cases does ws t.f2 with
  |word h ha=>
    obtain ⟨hk1,hne⟩:=mem_open hP h
    have hf:t.f0=1:=hk.symm.trans hk1
    rw [ha,hf,decide_eq_false hne]
    have h5: ¬(1:Int)=5:=by decide
    rw [if_neg h5]
    by_cases hn:nmd i ps=true
    · refine .inr (.inl ⟨rfl, ?_, ?_⟩)
      · rw [if_neg (by rw [hn];rintro ⟨_,h,_⟩;cases h)]
      · rw [hn]
        cases ((t.f2.toList==cClass)&&isNm l (i+1) slotName)<;>rfl
    · rw [Bool.eq_false_iff.2 hn,if_pos ⟨rfl,rfl,h⟩]
      cases ((t.f2.toList==cClass)&&isNm l (i+1) slotName) with
      |true=>exact .inr (.inl ⟨rfl,rfl,rfl⟩)
      |false=>exact .inr (.inr ⟨rfl,rfl,rfl,rfl⟩)
  |opn h ha=>
    have hf:t.f0=5:=by
      rcases h with h|h|h<;>rw [h] at hk
      · exact hk.symm.trans hP.s40
      · exact hk.symm.trans hP.s91
      · exact hk.symm.trans hP.s123
    rw [ha,hf]
    have hc:(t.f2.toList==cClass)=false:=by
      rw [show cClass=(⟨#[99,108,97,115,115]⟩:ByteArray).data.toList from rfl,list_beq]
      rcases h with h|h|h<;>rw [h]<;>decide
    rw [hc]
    refine .inr (.inr ⟨?_, ?_,rfl,rfl⟩)
    · rcases h with h|h|h<;>rw [h]<;>decide
    · rw [if_pos rfl]
      rcases h with h|h|h<;>rw [h]<;>decide
  |cls h ha=>
    have hf:t.f0=5:=by
      rcases h with h|h|h<;>rw [h] at hk
      · exact hk.symm.trans hP.s41
      · exact hk.symm.trans hP.s93
      · exact hk.symm.trans hP.s125
    rw [ha,hf]
    have hc:(t.f2.toList==cClass)=false:=by
      rw [show cClass=(⟨#[99,108,97,115,115]⟩:ByteArray).data.toList from rfl,list_beq]
      rcases h with h|h|h<;>rw [h]<;>decide
    rw [hc]
    refine .inl ⟨?_,rfl,rfl⟩
    rcases h with h|h|h<;>rw [h]<;>decide
  |fin h ha=>
    have hf:t.f0=1:=by
      rw [h] at hk
      exact hk.symm.trans hP.ends
    rw [ha,hf]
    have hc:(t.f2.toList==cClass)=false:=by
      rw [show cClass=(⟨#[99,108,97,115,115]⟩:ByteArray).data.toList from rfl,list_beq]
      rw [h]
      decide
    rw [hc,h]
    exact .inl ⟨by decide,by cases isNm l (i+1) slotName<;>cases nmd i ps<;>decide,rfl⟩
  |no h h1 h2 h3 h4 h5 h6 h7 ha=>
    rw [ha,decide_eq_false h7,decide_eq_false h4,decide_eq_false h5,decide_eq_false h6,if_neg h1,if_neg h2,if_neg h3]
    refine .inr (.inl ⟨?_, ?_,rfl⟩)
    · cases t.f0==1<;>cases t.f0==5<;>rfl
    · by_cases e5:t.f0=5
      · rw [if_pos e5]
        decide
      · rw [if_neg e5,if_neg (by rw [h];rintro ⟨_,_,h⟩;cases h)]
end
section
variable {l:List Tk} {ws:List ByteArray}
theorem fits_iff {t:Tk} (hP:Plainly ws) (hg:Pure.good t=true) (hc:closesR t=true) (op:ByteArray):fitsR t op=true↔(closeTx op).toList=t.f2.toList:=by
  obtain ⟨hk,h0⟩:=good_kind hg
  have e2: ∀c:UInt8,(op.toList=[c])↔(op=⟨#[c]⟩):=fun c=>list_eq _ ⟨#[c]⟩
  have hx: ∀x:ByteArray,Pure.kindOf x=5→((t.f0==5&&t.f2.toList==x.toList)=true↔x.toList=t.f2.toList):=by
    intro x hx
    rw [Bool.and_eq_true,beq_iff_eq,beq_iff_eq]
    constructor
    · exact fun h=>h.2.symm
    · intro h
      have e:t.f2=x:=(toList_eq _ _).1 h.symm
      exact ⟨by rw [←hk,e];exact hx,h.symm⟩
  have hb: ∀x:ByteArray,x.toList=[]↔x=⟨#[]⟩:=fun x=>list_eq x ⟨#[]⟩
  unfold fitsR bracketR closeTx
  simp only [e2]
  by_cases h1:op=⟨#[40]⟩
  · simp only [if_pos h1]
    rw [show ((⟨#[41]⟩:ByteArray).toList==[])=false from by rw [Lib.toList_data];rfl,show ((⟨#[41]⟩:ByteArray).toList !=[])=true from by rw [Lib.toList_data];rfl,Bool.false_and,Bool.false_or,Bool.true_and]
    exact hx _ hP.s41
  simp only [if_neg h1]
  by_cases h2:op=⟨#[91]⟩
  · simp only [if_pos h2]
    rw [show ((⟨#[93]⟩:ByteArray).toList==[])=false from by rw [Lib.toList_data];rfl,show ((⟨#[93]⟩:ByteArray).toList !=[])=true from by rw [Lib.toList_data];rfl,Bool.false_and,Bool.false_or,Bool.true_and]
    exact hx _ hP.s93
  simp only [if_neg h2]
  by_cases h3:op=⟨#[123]⟩
  · simp only [if_pos h3]
    rw [show ((⟨#[125]⟩:ByteArray).toList==[])=false from by rw [Lib.toList_data];rfl,show ((⟨#[125]⟩:ByteArray).toList !=[])=true from by rw [Lib.toList_data];rfl,Bool.false_and,Bool.false_or,Bool.true_and]
    exact hx _ hP.s125
  simp only [if_neg h3]
  rw [show ((⟨#[]⟩:ByteArray).toList==[])=true from by rw [Lib.toList_data];rfl,show ((⟨#[]⟩:ByteArray).toList !=[])=false from by rw [Lib.toList_data];rfl,Bool.true_and,Bool.false_and,Bool.or_false,Bool.and_eq_true,beq_iff_eq,beq_iff_eq]
  have he:(⟨#[101,110,100]⟩:ByteArray).toList=endText:=Lib.toList_data _
  rw [he]
  constructor
  · exact fun h=>h.2.symm
  · intro h
    refine ⟨?_,h.symm⟩
    have e:t.f2=⟨#[101,110,100]⟩:=(list_eq _ _).1 h.symm
    rw [←hk,e]
    exact hP.ends
theorem wordR_eq {s:ByteArray} (hs:s≠⟨#[]⟩) (j:Nat):wordR l j s=isNm l j s:=by
  unfold wordR
  rw [show (s.toList !=[])=true from ?_,Bool.true_and]
  have:(s.toList==[])=decide (s=⟨#[]⟩):=list_beq s ⟨#[]⟩
  show (!(s.toList==[]))=true
  rw [this,decide_eq_false hs]
  rfl
theorem wordR_none (j:Nat):wordR l j ⟨#[]⟩=false:=by
  unfold wordR
  rw [show ((⟨#[]⟩:ByteArray).toList !=[])=false from by rw [Lib.toList_data];rfl]
  rfl
theorem name_at {kids:List Fg} (hP:Plainly ws) (hk: ∀x∈kids,Pure.good x.f0=true) (c n:Nat):wordR l (c+n) (nameR kids)=nameAt l c kids n:=by
  unfold nameR nameAt
  cases kids with
  |nil=>exact wordR_none _
  |cons k r=>
    dsimp only
    by_cases h1:k.f1=⟨#[]⟩
    · by_cases h2:k.f0.f0=1
      · rw [if_pos ⟨h1,h2⟩,decide_eq_true h1,h2,wordR_eq]
        · rfl
        · intro e
          obtain ⟨h3,h4⟩:=good_kind (hk k List.mem_cons_self)
          rw [e,hP.s0] at h3
          exact h4 h3.symm
      · rw [if_neg (fun h=>h2 h.2),wordR_none,beq_false_of_ne h2]
        simp
    · rw [if_neg (fun h=>h1 h.1),wordR_none,decide_eq_false h1]
      rfl
theorem drop_eq {T:Tk} {kids:List Fg} (hP:Plainly ws) (hk: ∀x∈kids,Pure.good x.f0=true) (c:Nat):dropR l c T.f2 kids=dropN l c T kids:=by
  unfold dropR dropN
  rw [name_at hP hk,name_at hP hk]
  split
  · rename_i h
    rw [wordR_eq]
    intro e
    rw [e,show (⟨#[]⟩:ByteArray).toList=[] from Lib.toList_data _] at h
    exact absurd h (by decide)
  · rfl
theorem mach_fuel {tab:List (ByteArray×Bool)}: ∀(K K' i:Nat) (top:List Fg) (ps:List PF),l.length<K+i→l.length<K'+i→mach tab l K i top ps=mach tab l K' i top ps
  |0,0,i,top,ps,_,_=>rfl
  |0,K'+1,i,top,ps,h,_=>by
    unfold mach
    rw [if_neg (by omega)]
  |K+1,0,i,top,ps,_,h=>by
    unfold mach
    rw [if_neg (by omega)]
  |K+1,K'+1,i,top,ps,h,h'=>by
    unfold mach
    split
    · split
      · rfl
      · rename_i j t p hs
        have:=step_on hs
        exact mach_fuel K K' j t p (by omega) (by omega)
    · rfl
/-- What a group's end comes to. -/
def shutAt (tab:List (ByteArray×Bool)) (l:List Tk) (K c:Nat) (T:Tk) (kids:List Fg) (top:List Fg) (r:List PF):RO:=
  match badIn l c (dropN l c T kids) with
  |some q=> .bad (c+1+q) 14
  |none=>ended (mach tab l K (c+dropN l c T kids+1) (addT top ⟨T,T.f2,kids⟩ r) (addP ⟨T,T.f2,kids⟩ r))
theorem simulate (hP : Plainly ws) : ∀ (k K i : Nat) (top : List Fg), l.length < k + i → l.length < K + i →
    (∀out,ended (mach (actTab (openers++ws)) l K i out [])=match rlist ws l k 0 none i out with
      | .bad j e=> .bad j e
      | .fin o=> .ok o
      | .shut _ _=> .bad 0 0)∧
    (∀(p:PF) (r:List PF),r.length+1≤100→(p.kids=[]↔p.at_+1=i)→p.at_<i→(∀x∈p.kids,Pure.good x.f0=true)→Pure.good p.tok=true→
      match rlist ws l k (r.length+1) (some (p.tok.f2,p.at_)) i p.kids with
      | .bad j e=>ended (mach (actTab (openers++ws)) l K i top (p::r))=.bad j e
      | .fin _=>False
      | .shut c kids=>i≤c∧c<l.length∧(∀x∈kids,Pure.good x.f0=true)∧ended (mach (actTab (openers++ws)) l K i top (p::r))=shutAt (actTab (openers++ws)) l K c p.tok kids top r)
  |0,K,i,top,hk,hK=>by
    constructor
    · intro out
      unfold rlist
      dsimp only
      cases K with
      |zero=>rfl
      |succ K=>
        unfold mach
        rw [if_neg (by omega)]
        rfl
    · intro p r h1 h2 h3 h4 h5
      unfold rlist
      cases K with
      |zero=>rfl
      |succ K=>
        dsimp only
        unfold mach
        rw [if_neg (by omega)]
        rfl
  |k+1,K,i,top,hk,hK=>by
    by_cases hi:i<l.length
    · obtain ⟨K,rfl⟩: ∃q,K=q+1:=⟨K-1,by omega⟩
      by_cases hg:Pure.good (tkAt l i)=true
      · constructor
        · intro out
          unfold rlist mach
          rw [if_pos hi,if_pos hi,if_pos hg]
          unfold step
          rw [if_pos hg]
          have hpl:nmd i []=plainR none out:=rfl
          rw [←hpl]
          rcases decision (ps:=[]) hP hg with ⟨hc,hl,ha⟩|⟨hc,ho,hl⟩|⟨hc,ho,hl,ha⟩
          · rw [hc,hl,ha,if_pos rfl,if_neg (by decide),if_neg (by decide)]
            rfl
          · rw [hc,hl,ho,if_pos rfl,if_neg Bool.false_ne_true,if_neg Bool.false_ne_true]
            exact (simulate hP k K (i+1) top (by omega) (by omega)).1 _
          · rw [hc,hl,ho,ha,if_neg Bool.false_ne_true,if_pos rfl,if_neg (show¬([]:List PF).length=100 by decide),if_neg Bool.false_ne_true,if_pos rfl,if_neg (show¬100≤0 by omega)]
            dsimp only
            have hB:=(simulate hP k K (i+1) out (by omega) (by omega)).2 ⟨tkAt l i,i,[]⟩ [] (by decide) ⟨fun _=>rfl,fun _=>rfl⟩ (Nat.lt_succ_self i) (fun x hx=>absurd hx (by simp)) hg
            dsimp only [List.length_nil] at hB
            revert hB
            cases rlist ws l k (0+1) (some ((tkAt l i).f2,i)) (i+1) [] with
            |bad j e=>exact fun hB=>hB
            |fin o=>exact fun hB=>hB.elim
            |shut c kids=>
              rintro ⟨h1,h2,h3,h4⟩
              rw [h4]
              unfold shutAt
              dsimp only
              rw [drop_eq hP h3]
              cases badIn l c (dropN l c (tkAt l i) kids) with
              |some q=>rfl
              |none=>exact (simulate hP k K (c+dropN l c (tkAt l i) kids+1) top (by omega) (by omega)).1 _
        · intro p r h1 h2 h3 h4 h5
          unfold rlist mach
          rw [if_pos hi,if_pos hi,if_pos hg]
          unfold step
          rw [if_pos hg]
          have hpl:nmd i (p::r)=plainR (some (p.tok.f2,p.at_)) p.kids:=by
            unfold nmd plainR
            have hm:(⟨#[109,97,99,114,111]⟩:ByteArray).toList=cMacro:=Lib.toList_data _
            rw [hm]
            cases hk0:p.kids with
            |nil=>
              have:=h2.1 hk0
              dsimp only
              rw [show ((p.at_:Int)==(i:Int)-1)=true from by rw [beq_iff_eq];omega,Bool.and_true]
            |cons x xs=>
              have: ¬p.at_+1=i:=fun e=>absurd (h2.2 e) (by rw [hk0];simp)
              dsimp only
              rw [show ((p.at_:Int)==(i:Int)-1)=false from by rw [beq_eq_false_iff_ne];omega,Bool.and_false]
          rw [←hpl]
          have again : ∀ (x : Fg) (j : Nat), i < j → Pure.good x.f0 = true → ∀ K', l.length < K' + j → match rlist ws l k (r.length + 1) (some (p.tok.f2, p.at_)) j (p.kids ++ [x]) with
              | .bad j' e=>ended (mach (actTab (openers++ws)) l K' j top (addP x (p::r)))=.bad j' e
              | .fin _=>False
              | .shut c kids=>i≤c∧c<l.length∧(∀x∈kids,Pure.good x.f0=true)∧ended (mach (actTab (openers++ws)) l K' j top (addP x (p::r)))=shutAt (actTab (openers++ws)) l (K+1) c p.tok kids top r:=by
            intro x j hj hx K' hK'
            have hB:=(simulate hP k K' j top (by omega) hK').2 {p with kids:=p.kids++[x]} r h1 ⟨fun h=>absurd h (by simp),fun h=>by have:p.at_+1=j:=h;omega⟩ (Nat.lt_trans h3 hj) (fun y hy=>by
              rcases List.mem_append.1 hy with hy|hy
              · exact h4 y hy
              · rw [List.mem_singleton.1 hy]
                exact hx) h5
            dsimp only at hB
            revert hB
            cases rlist ws l k (r.length+1) (some (p.tok.f2,p.at_)) j (p.kids++[x]) with
            |bad j' e=>exact fun hB=>hB
            |fin o=>exact fun hB=>hB
            |shut c kids=>
              rintro ⟨g1,g2,g3,g4⟩
              refine ⟨by omega,g2,g3, ?_⟩
              refine Eq.trans g4 ?_
              unfold shutAt
              cases badIn l c (dropN l c p.tok kids) with
              |some q=>rfl
              |none=>exact congrArg ended (mach_fuel _ _ _ _ _ (by omega) (by omega))
          rcases decision (ps:=p::r) hP hg with ⟨hc,hl,ha⟩|⟨hc,ho,hl⟩|⟨hc,ho,hl,ha⟩
          · rw [hc,hl,ha,if_pos rfl,if_neg (by decide),if_neg (by decide)]
            dsimp only
            by_cases hf:fitsR (tkAt l i) p.tok.f2=true
            · rw [if_pos hf,if_pos ((fits_iff hP hg hc _).1 hf)]
              refine ⟨Nat.le_refl _,hi,h4, ?_⟩
              unfold shutAt
              cases badIn l i (dropN l i p.tok p.kids) with
              |some q=>rfl
              |none=>exact congrArg ended (mach_fuel _ _ _ _ _ (by omega) (by omega))
            · rw [if_neg hf,if_neg (fun h=>hf ((fits_iff hP hg hc _).2 h))]
              rfl
          · rw [hc,hl,ho,if_pos rfl,if_neg Bool.false_ne_true,if_neg Bool.false_ne_true]
            exact again ⟨tkAt l i,⟨#[]⟩,[]⟩ (i+1) (Nat.lt_succ_self i) hg K (by omega)
          · rw [hc,hl,ho,ha,if_neg Bool.false_ne_true,if_pos rfl,if_neg Bool.false_ne_true,if_pos rfl]
            by_cases hd:100≤r.length+1
            · rw [if_pos hd,if_pos (show (p::r).length=100 by simp;omega)]
              rfl
            · rw [if_neg hd,if_neg (show¬(p::r).length=100 by simp;omega)]
              dsimp only
              have hB:=(simulate hP k K (i+1) top (by omega) (by omega)).2 ⟨tkAt l i,i,[]⟩ (p::r) (by simp;omega) ⟨fun _=>rfl,fun _=>rfl⟩ (Nat.lt_succ_self i) (fun x hx=>absurd hx (by simp)) hg
              dsimp only [List.length_cons] at hB
              revert hB
              cases rlist ws l k (r.length+1+1) (some ((tkAt l i).f2,i)) (i+1) [] with
              |bad j e=>exact fun hB=>hB
              |fin o=>exact fun hB=>hB.elim
              |shut c kids=>
                rintro ⟨g1,g2,g3,g4⟩
                dsimp only
                rw [drop_eq hP g3]
                unfold shutAt at g4
                revert g4
                cases badIn l c (dropN l c (tkAt l i) kids) with
                |some q=>exact fun g4=>g4
                |none=>
                  intro g4
                  dsimp only at g4⊢
                  have hA:=again ⟨tkAt l i,(tkAt l i).f2,kids⟩ (c+dropN l c (tkAt l i) kids+1) (by omega) hg K (by omega)
                  revert hA
                  cases rlist ws l k (r.length+1) (some (p.tok.f2,p.at_)) (c+dropN l c (tkAt l i) kids+1) (p.kids++[⟨tkAt l i,(tkAt l i).f2,kids⟩]) with
                  |bad j e=>exact fun hA=>g4.trans hA
                  |fin o=>exact fun hA=>hA
                  |shut c' kids'=>exact fun hA=>⟨hA.1,hA.2.1,hA.2.2.1,g4.trans hA.2.2.2⟩
      · constructor
        · intro out
          unfold rlist mach
          rw [if_pos hi,if_pos hi,if_neg hg]
          unfold step
          rw [if_neg hg]
          rfl
        · intro p r h1 h2 h3 h4 h5
          unfold rlist mach
          rw [if_pos hi,if_pos hi,if_neg hg]
          unfold step
          rw [if_neg hg]
          rfl
    · constructor
      · intro out
        unfold rlist
        rw [if_neg hi]
        cases K with
        |zero=>rfl
        |succ K=>
          unfold mach
          rw [if_neg hi]
          rfl
      · intro p r h1 h2 h3 h4 h5
        unfold rlist
        rw [if_neg hi]
        cases K with
        |zero=>rfl
        |succ K=>
          dsimp only
          unfold mach
          rw [if_neg hi]
          rfl
end
end Go.Proofs.YtipnlgmeonepfaaGreatDoor.PFa

set_option linter.unusedVariables false
namespace Go.Proofs.YtipnlgmeonepfaaGreatDoor.PFa
open Go.RowKit Go.Proofs.YtipnlgmeonepfaaGreatDoorW.PrintWords Go.Proofs.YtipnlgmeonepfaaGreatDoorW.PrintLast Go.Proofs.YtipnlgmeonepfaaGreatDoorW.PrintMore
theorem plainly_of {ws:List ByteArray} (h:wordsB ws=true):Plainly ws:=by
  have hw: ∀x∈ws,plainB x=true∧memB x takenWords=false:=by
    intro x hx
    unfold wordsB at h
    rw [Bool.and_eq_true,List.all_eq_true] at h
    obtain ⟨i,hi,rfl⟩:=List.getElem_of_mem hx
    have h2:=h.2 i (List.mem_range.2 hi)
    have e:rdOf ByteArray.empty ws (i:Int)=ws[i]:=by
      unfold rdOf
      simp [hi]
    unfold wordOk at h2
    rw [e] at h2
    simp only [Bool.and_eq_true,Bool.not_eq_true'] at h2
    exact ⟨h2.1.1,h2.1.2⟩
  refine ⟨fun x hx=> ?_,fun x hx=>(hw x hx).2,by decide+kernel,by decide+kernel,by decide+kernel,by decide+kernel,by decide+kernel,by decide+kernel,by decide+kernel,by decide+kernel,by decide+kernel⟩
  have:=(hw x hx).1
  unfold plainB at this
  rw [Bool.and_eq_true,beq_iff_eq] at this
  exact this.1
end Go.Proofs.YtipnlgmeonepfaaGreatDoor.PFa

set_option linter.unusedVariables false
set_option linter.unusedSimpArgs false
namespace Go.Proofs.YtipnlgmeonepfaaGreatDoor.PFa
open Go.RowKit Go.Proofs.YtipnlgmeonepfaaGreatDoorW.PrintWords Go.Proofs.YtipnlgmeonepfaaGreatDoorW.PrintLast Go.Proofs.YtipnlgmeonepfaaGreatDoorW.PrintMore
open Go.Proofs.YtipnlgmeonepfaaGreatDoor.Lx (Kp)
def isN (t:Tk) (s:ByteArray):Bool:=t.f0==1&&(t.f2.toList==s.toList)
set_option maxHeartbeats 1600000 in
theorem isN_c (t:Tk) (s:ByteArray) (W:World):Calls Tryz.prog 109 #[tokV t,.string s] W fun e W'=>e=.returned (.bool (isN t s))∧Below W.heap.size W W':=by
  unfold tokV isN
  cases h:(t.f0==1) with
  |false=>
    go_enter Tryz.func109,Tryz.ntmps109
    go_wp2
    go_ret
    exact ⟨rfl,by repeat (with_reducible first|exact Below.refl _ _|apply Below.drew|apply below_alloc)⟩
  |true=>
    go_enter Tryz.func109,Tryz.ntmps109
    go_wp2
    go_ret
    exact ⟨rfl,by repeat (with_reducible first|exact Below.refl _ _|apply Below.drew|apply below_alloc)⟩
set_option maxHeartbeats 1600000 in
theorem bracket_c (s:ByteArray) (W:World):Calls Tryz.prog 110 #[.string s] W fun e W'=>e=.returned (.string (bracketR s))∧Below W.heap.size W W':=by
  by_cases h1:s.toList=[40]
  · have e:bracketR s=⟨#[41]⟩:=by unfold bracketR;rw [if_pos h1]
    rw [e]
    have b1:(s.toList==([40]:List UInt8))=true:=beq_iff_eq.2 h1
    clear e h1
    go_enter Tryz.func110,Tryz.ntmps110
    go_wp2
    go_ret
    exact ⟨rfl,Below.refl _ _⟩
  · have b1:(s.toList==([40]:List UInt8))=false:=beq_eq_false_iff_ne.2 h1
    by_cases h2:s.toList=[91]
    · have e:bracketR s=⟨#[93]⟩:=by unfold bracketR;rw [if_neg h1,if_pos h2]
      rw [e]
      have b2:(s.toList==([91]:List UInt8))=true:=beq_iff_eq.2 h2
      clear e h1 h2
      go_enter Tryz.func110,Tryz.ntmps110
      go_wp2
      go_ret
      exact ⟨rfl,Below.refl _ _⟩
    · have b2:(s.toList==([91]:List UInt8))=false:=beq_eq_false_iff_ne.2 h2
      by_cases h3:s.toList=[123]
      · have e:bracketR s=⟨#[125]⟩:=by unfold bracketR;rw [if_neg h1,if_neg h2,if_pos h3]
        rw [e]
        have b3:(s.toList==([123]:List UInt8))=true:=beq_iff_eq.2 h3
        clear e h1 h2 h3
        go_enter Tryz.func110,Tryz.ntmps110
        go_wp2
        go_ret
        exact ⟨rfl,Below.refl _ _⟩
      · have e:bracketR s=⟨#[]⟩:=by unfold bracketR;rw [if_neg h1,if_neg h2,if_neg h3]
        rw [e]
        have b3:(s.toList==([123]:List UInt8))=false:=beq_eq_false_iff_ne.2 h3
        clear e h1 h2 h3
        go_enter Tryz.func110,Tryz.ntmps110
        go_wp2
        go_ret
        exact ⟨rfl,Below.refl _ _⟩
theorem closesR_eq (t:Tk):closesR t=(isN t ⟨#[101,110,100]⟩||(t.f0==5&&(t.f2.toList==[41]||t.f2.toList==[93]||t.f2.toList==[125]))):=by
  unfold closesR isN
  rw [show (⟨#[101,110,100]⟩:ByteArray).toList=endText from Lib.toList_data _]
set_option maxHeartbeats 3200000 in
theorem closes_c (t:Tk) (W:World):Calls Tryz.prog 83 #[tokV t] W fun e W'=>e=.returned (.bool (closesR t))∧Below W.heap.size W W':=by
  have HN:=Lib.hid (fun (X:World)=>isN_c t ⟨#[101,110,100]⟩ X)
  rw [closesR_eq]
  obtain ⟨b0,hb0⟩: ∃b,isN t ⟨#[101,110,100]⟩=b:=⟨_,rfl⟩
  rw [hb0] at HN⊢
  clear hb0
  obtain ⟨q5,h5⟩: ∃b,(t.f0==5)=b:=⟨_,rfl⟩
  obtain ⟨q1,h1⟩: ∃b,(t.f2.toList==[41])=b:=⟨_,rfl⟩
  obtain ⟨q2,h2⟩: ∃b,(t.f2.toList==[93])=b:=⟨_,rfl⟩
  obtain ⟨q3,h3⟩: ∃b,(t.f2.toList==[125])=b:=⟨_,rfl⟩
  have HP:Hid (∀b,b=(b0||(q5&&(q1||q2||q3)))→(b0||(t.f0==5&&(t.f2.toList==[41]||t.f2.toList==[93]||t.f2.toList==[125])))=b):=Lib.hid (fun b hb=>by rw [hb,h5,h1,h2,h3])
  have HB:Hid ((b0||(t.f0==5&&(t.f2.toList==[41]||t.f2.toList==[93]||t.f2.toList==[125])))=(b0||(q5&&(q1||q2||q3)))):=Lib.hid (by rw [h5,h1,h2,h3])
  rw [HB.out]
  clear HP HB
  unfold tokV at HN⊢
  have HBL:Hid (Below W.heap.size W (W.alloc (.cells #[.int .i64 t.f0,.int .i64 t.f1,.string t.f2,.int .i64 t.f3,.int .i64 t.f4] 39 (0,0)))):=Lib.hid (below_alloc (Below.refl _ _) _)
  have HBK:=Lib.hid (blk_new W (.cells #[.int .i64 t.f0,.int .i64 t.f1,.string t.f2,.int .i64 t.f3,.int .i64 t.f4] 39 (0,0)))
  go_enter Tryz.func83,Tryz.ntmps83
  go_wp2_with fail
  refine (HN.out _).mono ?_
  rintro e W3 ⟨rfl,hb3⟩
  have hk:=blk_below HBK.out hb3
  have t0:W3.cell? ⟨W.heap.size,0,none⟩=some (.int .i64 t.f0):=blk_cell hk 0
  have t2:W3.cell? ⟨W.heap.size,2,none⟩=some (.string t.f2):=blk_cell hk 2
  have HW:=Lib.hid (HBL.out.trans (hb3.mono HBL.out.size))
  clear hk hb3
  cases b0 with
  |true=>
    go_wp2
    go_ret
    exact ⟨rfl,HW.out⟩
  |false=>
    cases q5 with
    |false=>
      go_wp2
      go_ret
      exact ⟨rfl,HW.out⟩
    |true=>
      cases q1<;>cases q2<;>cases q3
      all_goals go_wp2
      all_goals go_ret
      all_goals exact ⟨rfl,HW.out⟩
set_option maxHeartbeats 3200000 in
theorem fits_c (t:Tk) (op:ByteArray) (W:World):Calls Tryz.prog 84 #[tokV t,.string op] W fun e W'=>e=.returned (.bool (fitsR t op))∧Below W.heap.size W W':=by
  have HN:=Lib.hid (fun (X:World)=>isN_c t ⟨#[101,110,100]⟩ X)
  have HR:=Lib.hid (fun (X:World)=>bracket_c op X)
  have e0:fitsR t op=(((bracketR op).toList==[]&&isN t ⟨#[101,110,100]⟩)||((bracketR op).toList !=[]&&(t.f0==5&&t.f2.toList==(bracketR op).toList))):=by
    unfold fitsR isN
    rw [show (⟨#[101,110,100]⟩:ByteArray).toList=endText from Lib.toList_data _]
  rw [e0]
  clear e0
  obtain ⟨br,hbr⟩: ∃b,bracketR op=b:=⟨_,rfl⟩
  rw [hbr] at HR⊢
  clear hbr
  obtain ⟨b0,hb0⟩: ∃b,isN t ⟨#[101,110,100]⟩=b:=⟨_,rfl⟩
  rw [hb0] at HN⊢
  clear hb0
  obtain ⟨q5,h5⟩: ∃b,(t.f0==5)=b:=⟨_,rfl⟩
  obtain ⟨q1,h1⟩: ∃b,(t.f2.toList==br.toList)=b:=⟨_,rfl⟩
  obtain ⟨q2,h2⟩: ∃b,br.toList.isEmpty=b:=⟨_,rfl⟩
  have h2':(br.toList==([]:List UInt8))=q2:=by rw [←h2];cases br.toList<;>rfl
  have h2n:(br.toList !=([]:List UInt8))= !q2:=by rw [bne,h2']
  have HB:Hid (((br.toList==[]&&b0)||(br.toList !=[]&&(t.f0==5&&t.f2.toList==br.toList)))=((q2&&b0)||(!q2&&(q5&&q1)))):=Lib.hid (by rw [h2n,h2',h5,h1])
  rw [HB.out]
  clear HB
  unfold tokV at HN⊢
  have HBL:Hid (Below W.heap.size W (W.alloc (.cells #[.int .i64 t.f0,.int .i64 t.f1,.string t.f2,.int .i64 t.f3,.int .i64 t.f4] 39 (0,0)))):=Lib.hid (below_alloc (Below.refl _ _) _)
  have HBK:=Lib.hid (blk_new W (.cells #[.int .i64 t.f0,.int .i64 t.f1,.string t.f2,.int .i64 t.f3,.int .i64 t.f4] 39 (0,0)))
  go_enter Tryz.func84,Tryz.ntmps84
  go_wp2_with fail
  refine (HR.out _).mono ?_
  rintro e W3 ⟨rfl,hb3⟩
  have hk:=blk_below HBK.out hb3
  have t0:W3.cell? ⟨W.heap.size,0,none⟩=some (.int .i64 t.f0):=blk_cell hk 0
  have t1:W3.cell? ⟨W.heap.size,1,none⟩=some (.int .i64 t.f1):=blk_cell hk 1
  have t2:W3.cell? ⟨W.heap.size,2,none⟩=some (.string t.f2):=blk_cell hk 2
  have t3:W3.cell? ⟨W.heap.size,3,none⟩=some (.int .i64 t.f3):=blk_cell hk 3
  have t4:W3.cell? ⟨W.heap.size,4,none⟩=some (.int .i64 t.f4):=blk_cell hk 4
  have HW:=Lib.hid (HBL.out.trans (hb3.mono HBL.out.size))
  clear hk hb3
  cases q2 with
  |true=>
    go_wp2_with fail
    refine (HN.out _).mono ?_
    rintro e W4 ⟨rfl,hb4⟩
    have HW4:=Lib.hid (HW.out.trans (hb4.mono HW.out.size))
    clear hb4
    cases b0
    all_goals go_wp2
    all_goals go_ret
    all_goals exact ⟨rfl,HW4.out⟩
  |false=>
    cases q5<;>cases q1
    all_goals go_wp2
    all_goals go_ret
    all_goals exact ⟨by cases b0<;>rfl,HW.out⟩
/-- The reference's reader in memory. -/
structure RG (w:World) (g:Nat) (A0:Option Addr) (c0:Nat) (l:List Tk) (A1:Option Addr) (c1:Nat) (ws:List ByteArray) (at_ op:Nat) (er wh:Int) (W:World):Prop where
  blk:W.heap[g]? =some (.cells #[.slice A0 l.length c0,.slice A1 ws.length c1,.int .i64 at_,.int .i64 op,.int .i64 er,.int .i64 wh] 76 (0,0))
  hg:w.heap.size≤g
  bel:Below w.heap.size w W
section
variable {w W W':World} {g:Nat} {A0:Option Addr} {c0:Nat} {l:List Tk} {A1:Option Addr} {c1:Nat} {ws:List ByteArray} {at_ op:Nat} {er wh:Int}
theorem RG.below (h:RG w g A0 c0 l A1 c1 ws at_ op er wh W) (hb:Below W.heap.size W W'):RG w g A0 c0 l A1 c1 ws at_ op er wh W':=
  ⟨blk_below h.blk hb,h.hg,h.bel.trans (hb.mono h.bel.size)⟩
/-- What a method of the reader leaves: the reader as told, all else that lay as it lay. -/
def RP (w:World) (g:Nat) (A0:Option Addr) (c0:Nat) (l:List Tk) (A1:Option Addr) (c1:Nat) (ws:List ByteArray) (at_ op:Nat) (er wh:Int) (W W':World):Prop:=
  RG w g A0 c0 l A1 c1 ws at_ op er wh W'∧Kp (fun k=>k=g) W W'
theorem fail_r (h : RG w g A0 c0 l A1 c1 ws at_ op er wh W) (e i : Int) : Calls Tryz.prog 85 #[.pointer (some ⟨g, 0, none⟩), .int .i64 e, .int .i64 i] W fun x W' =>
    x=.returned (.tuple #[])∧RP w g A0 c0 l A1 c1 ws at_ op (if er=0 then e else er) (if er=0 then i else wh) W W':=by
  have k4:W.cell? ⟨g,4,none⟩=some (.int .i64 er):=blk_cell h.blk 4
  have k5:W.cell? ⟨g,5,none⟩=some (.int .i64 wh):=blk_cell h.blk 5
  have f4:W.frozen? ⟨g,4,none⟩=false:=blk_frozen h.blk 4
  have f5:W.frozen? ⟨g,5,none⟩=false:=blk_frozen h.blk 5
  have H:=Lib.hid h
  clear h
  by_cases he:er=0
  · subst he
    rw [if_pos rfl,if_pos rfl]
    go_enter Tryz.func85,Tryz.ntmps85
    go_wp2
    go_end0
    exact ⟨rfl,⟨blk_put (blk_put H.out.blk 4 _ rfl) 5 _ rfl,H.out.hg,(H.out.bel.setCell H.out.hg _).setCell H.out.hg _⟩,Kp.setCell (S:=fun k=>k=g) (Kp.setCell (S:=fun k=>k=g) (Kp.refl _ W) (p:=⟨g,4,none⟩) (.inl rfl) (.int .i64 e)) (p:=⟨g,5,none⟩) (.inl rfl) (.int .i64 i)⟩
  · rw [if_neg he,if_neg he]
    have x1:(er==0)=false:=beq_false_of_ne he
    clear he
    go_enter Tryz.func85,Tryz.ntmps85
    go_wp2
    go_end0
    exact ⟨rfl,H.out,Kp.refl _ _⟩
end
end Go.Proofs.YtipnlgmeonepfaaGreatDoor.PFa

set_option linter.unusedVariables false
set_option linter.unusedSimpArgs false
namespace Go.Proofs.YtipnlgmeonepfaaGreatDoor.PFa
open Go.RowKit Go.Proofs.YtipnlgmeonepfaaGreatDoorW.PrintWords Go.Proofs.YtipnlgmeonepfaaGreatDoorW.PrintLast Go.Proofs.YtipnlgmeonepfaaGreatDoorW.PrintMore
open Go.Proofs.YtipnlgmeonepfaaGreatDoor.Lx (Kp)
/-- What the reference's Check of a token says (R01). -/
def ChecksAll:Prop:= ∀(T:Tk) (X:World),T.f2.size≤140737488351232→Calls Tryz.prog 96 #[tokV T] X fun e X'=>e=.returned (.int .i64 (Pure.chk T))∧Below X.heap.size X X'
section
variable {w W W':World} {g:Nat} {A0:Option Addr} {c0:Nat} {l:List Tk} {A1:Option Addr} {c1:Nat} {ws:List ByteArray} {at_ op:Nat} {er wh:Int}
theorem RP.of_below (h:RG w g A0 c0 l A1 c1 ws at_ op er wh W) (hb:Below W.heap.size W W'):RP w g A0 c0 l A1 c1 ws at_ op er wh W W':=⟨h.below hb,Kp.of_below hb _⟩
set_option maxHeartbeats 3200000 in
theorem check_r (HCK : ChecksAll) (hsz : ∀ t ∈ l, t.f2.size ≤ 140737488351232) (h : RG w g A0 c0 l A1 c1 ws at_ op 0 wh W) (hC : Kd.C k39 w A0 l.length l) (hl : l.length ≤ 6000) (i : Nat) (hi : i < l.length) :
    Calls Tryz.prog 82 #[.pointer (some ⟨g,0,none⟩),.int .i64 i] W fun x W'=>x=.returned (.tuple #[])∧(if Pure.good (tkAt l i)=true then RP w g A0 c0 l A1 c1 ws at_ op 0 wh W W' else RP w g A0 c0 l A1 c1 ws at_ op 14 i W W'):=by
  obtain ⟨ad,had,t0,t1,t2,t3,t4⟩:=at_T39 (Kd.C_below hC h.bel) (i:Int) (by omega) (by omega)
  subst had
  have hT0:tkAt l i∈l:=by
    unfold tkAt rd_T39
    rw [Int.toNat_natCast,List.getD_eq_getElem?_getD,List.getElem?_eq_getElem hi]
    exact List.getElem_mem hi
  have hsT:=hsz _ hT0
  obtain ⟨T,hT⟩: ∃T,rd_T39 l (i:Int)=T:=⟨_,rfl⟩
  rw [show tkAt l i=T from hT] at hsT⊢
  rw [hT] at t0 t1 t2 t3 t4
  simp only [Int.toNat_natCast] at t0 t1 t2 t3 t4
  have k0:W.cell? ⟨g,0,none⟩=some (.slice (some ad) l.length c0):=blk_cell h.blk 0
  have HC:=Lib.hid (fun (X:World)=>HCK T X hsT)
  have HF:=Lib.hid (fun (X:World) (hb:Below W.heap.size W X)=>fail_r (h.below hb) 14 i)
  have H:=Lib.hid h
  have x2:(0:Int)≤(i:Int):=by omega
  have x3:(i:Int)<(l.length:Int):=by omega
  clear h hC hT hT0 hsz HCK hsT hl
  unfold tokV at HC
  by_cases hg:Pure.good T=true
  · have hc:Pure.chk T=0:=(Pure.chk_zero T).2 hg
    rw [hc] at HC
    suffices HH:Calls Tryz.prog 82 #[.pointer (some ⟨g,0,none⟩),.int .i64 i] W fun x W'=>x=.returned (.tuple #[])∧RP w g (some ad) c0 l A1 c1 ws at_ op 0 wh W W' from HH.mono (fun x W' h=>⟨h.1,by rw [if_pos hg];exact h.2⟩)
    clear hg hc
    go_enter Tryz.func82,Tryz.ntmps82
    go_wp2_with fail
    refine (HC.out _).mono ?_
    rintro e W3 ⟨rfl,hb3⟩
    have HB3:=Lib.hid hb3
    clear hb3
    go_wp2
    go_end0
    exact ⟨rfl,RP.of_below H.out HB3.out⟩
  · have hc:Pure.chk T=14:=by unfold Pure.chk;rw [if_neg hg]
    rw [hc] at HC
    suffices HH:Calls Tryz.prog 82 #[.pointer (some ⟨g,0,none⟩),.int .i64 i] W fun x W'=>x=.returned (.tuple #[])∧RP w g (some ad) c0 l A1 c1 ws at_ op 14 i W W' from HH.mono (fun x W' h=>⟨h.1,by rw [if_neg hg];exact h.2⟩)
    clear hg hc
    go_enter Tryz.func82,Tryz.ntmps82
    go_wp2_with fail
    refine (HC.out _).mono ?_
    rintro e W3 ⟨rfl,hb3⟩
    have HB3:=Lib.hid hb3
    clear hb3
    go_wp2_with fail
    refine (HF.out _ HB3.out).mono ?_
    rintro e W4 ⟨rfl,hr,hk⟩
    simp only [↓reduceIte] at hr
    have HR:=Lib.hid hr
    have HK:=Lib.hid hk
    clear hr hk
    go_wp2
    go_end0
    exact ⟨rfl,HR.out,(Kp.of_below HB3.out _).trans HK.out⟩
set_option maxHeartbeats 3200000 in
theorem word_r (h : RG w g A0 c0 l A1 c1 ws at_ op er wh W) (hC : Kd.C k39 w A0 l.length l) (hl : l.length ≤ 6000) (hat : at_ ≤ 7000) (n : Nat) (hn : n ≤ 2) (s : ByteArray) :
    Calls Tryz.prog 132 #[.pointer (some ⟨g,0,none⟩),.int .i64 n,.string s] W fun x W'=>x=.returned (.bool (wordR l (at_+n) s))∧Below W.heap.size W W':=by
  have k0:W.cell? ⟨g,0,none⟩=some (.slice A0 l.length c0):=blk_cell h.blk 0
  have k2:W.cell? ⟨g,2,none⟩=some (.int .i64 at_):=blk_cell h.blk 2
  have hge:(s.toList !=[])= !(s.toList.isEmpty):=by cases s.toList<;>rfl
  cases hs:s.toList.isEmpty with
  |true=>
    have e:wordR l (at_+n) s=false:=by unfold wordR;rw [hge,hs];rfl
    rw [e]
    clear h hC e hge
    go_enter Tryz.func132,Tryz.ntmps132
    go_wp2_with fail
    go_quiet (fail)
    go_wp2
    go_ret
    exact ⟨rfl,by repeat (with_reducible first|exact Below.refl _ _|apply pw_below_drewN|apply Below.drew)⟩
  |false=>
    have e:wordR l (at_+n) s=isNm l (at_+n) s:=by unfold wordR;rw [hge,hs];rfl
    rw [e]
    clear e hge
    obtain ⟨j,hj⟩: ∃j,at_+n=j:=⟨_,rfl⟩
    have y1:IntKind.i64.wrap ((at_:Int)+(n:Int))=(j:Int):=by rw [IntWalk.i64_in _ (by omega)];omega
    rw [hj]
    by_cases hlt:j<l.length
    · obtain ⟨ad,had,t0,t1,t2,t3,t4⟩:=at_T39 (Kd.C_below hC h.bel) (j:Int) (by omega) (by omega)
      subst had
      obtain ⟨T,hT⟩: ∃T,rd_T39 l (j:Int)=T:=⟨_,rfl⟩
      have e:isNm l j s=isN T s:=by unfold isNm isN;rw [decide_eq_true hlt,show tkAt l j=T from hT];rfl
      rw [e]
      rw [hT] at t0 t1 t2 t3 t4
      simp only [Int.toNat_natCast] at t0 t1 t2 t3 t4
      have x1:decide ((j:Int)<(l.length:Int))=true:=decide_eq_true (by omega)
      have x2:decide (j<l.length)=true:=decide_eq_true hlt
      have x3:(0:Int)≤(j:Int):=by omega
      have x4:(j:Int)<(l.length:Int):=by omega
      have HN:=Lib.hid (fun (X:World)=>isN_c T s X)
      unfold tokV at HN
      have HS:Hid (∀X,Below W.heap.size W X→X.cell? ⟨g,0,none⟩=some (.slice (some ad) l.length c0)∧X.cell? ⟨g,2,none⟩=some (.int .i64 at_)∧X.cell? (ad.add (j*5))=some (.int .i64 T.f0)∧X.cell? ⟨(ad.add (j*5)).block,(ad.add (j*5)).off+1,none⟩=some (.int .i64 T.f1)∧X.cell? ⟨(ad.add (j*5)).block,(ad.add (j*5)).off+2,none⟩=some (.string T.f2)∧X.cell? ⟨(ad.add (j*5)).block,(ad.add (j*5)).off+3,none⟩=some (.int .i64 T.f3)∧X.cell? ⟨(ad.add (j*5)).block,(ad.add (j*5)).off+4,none⟩=some (.int .i64 T.f4)):=Lib.hid (fun X hb=>⟨pw_cell_below hb k0,pw_cell_below hb k2,pw_cell_below hb t0,pw_cell_below hb t1,pw_cell_below hb t2,pw_cell_below hb t3,pw_cell_below hb t4⟩)
      have HBB:Hid (∀X Y:World,Below W.heap.size W X→Below X.heap.size X Y→Below W.heap.size W Y):=Lib.hid (fun X Y h1 h2=>h1.trans (h2.mono h1.size))
      clear h hC hT e hj hlt hat hn hl
      go_enter Tryz.func132,Tryz.ntmps132
      go_upto_region 1 with (fail)
      go_region_held3 (fun X=>X.cell? ⟨g,0,none⟩=some (.slice (some ad) l.length c0)∧X.cell? ⟨g,2,none⟩=some (.int .i64 at_)∧X.cell? (ad.add (j*5))=some (.int .i64 T.f0)∧X.cell? ⟨(ad.add (j*5)).block,(ad.add (j*5)).off+1,none⟩=some (.int .i64 T.f1)∧X.cell? ⟨(ad.add (j*5)).block,(ad.add (j*5)).off+2,none⟩=some (.string T.f2)∧X.cell? ⟨(ad.add (j*5)).block,(ad.add (j*5)).off+3,none⟩=some (.int .i64 T.f3)∧X.cell? ⟨(ad.add (j*5)).block,(ad.add (j*5)).off+4,none⟩=some (.int .i64 T.f4))
        (first|(refine HS.out _ ?_;(repeat (with_reducible first|exact Below.refl _ _|exact hb5|apply pw_below_drewN|apply Below.drew));done))
        (first|(go_at_call 109;(refine (HN.out _).mono ?_);rintro e W4 ⟨rfl,hb4⟩;have hb5:=HBB.out _ _ (by repeat (with_reducible first|exact Below.refl _ _|apply pw_below_drewN|apply Below.drew)) hb4))
      all_goals go_wp2
      all_goals go_ret
      all_goals exact ⟨rfl,by repeat (with_reducible first|exact hb5|apply pw_below_drewN|apply Below.drew)⟩
    · have e:isNm l j s=false:=by unfold isNm;rw [decide_eq_false hlt];rfl
      have x1:decide ((j:Int)<(l.length:Int))=false:=decide_eq_false (by omega)
      have x2:decide (j<l.length)=false:=decide_eq_false hlt
      rw [e]
      clear h hC e hlt
      go_enter Tryz.func132,Tryz.ntmps132
      go_wp2_with fail
      go_quiet (fail)
      go_wp2
      go_ret
      exact ⟨rfl,by repeat (with_reducible first|exact Below.refl _ _|apply pw_below_drewN|apply Below.drew)⟩
def stopsR (l:List Tk) (j:Nat):Bool:=if l.length≤j then true else closesR (tkAt l j)||((tkAt l j).f0==5&&((tkAt l j).f2.toList==[59]||(tkAt l j).f2.toList==[44]))
theorem stopsR_eq (l:List Tk) (j:Nat):stopsR l j=stopsB l j:=by
  unfold stopsR stopsB
  by_cases h:l.length≤j
  · rw [if_pos h,if_pos h]
  · rw [if_neg h,if_neg h]
    rw [closesR_eq]
    have hd:decide (j<l.length)=true:=decide_eq_true (by omega)
    have e1:isNm l j ⟨#[101,110,100]⟩=isN (tkAt l j) ⟨#[101,110,100]⟩:=by unfold isNm isN;rw [hd];rfl
    rw [e1]
    have hs: ∀c:UInt8,((tkAt l j).f2.toList==[c])=decide ((⟨#[c]⟩:ByteArray)=(tkAt l j).f2):=fun c=>by
      rw [show ([c]:List UInt8)=(⟨#[c]⟩:ByteArray).data.toList from rfl,list_beq]
      exact decide_eq_decide.2 ⟨fun e=>e.symm,fun e=>e.symm⟩
    rw [hs,hs,hs,hs,hs]
    unfold memB stopSigns
    simp only [List.any_cons,List.any_nil,Bool.or_false]
    cases isN (tkAt l j) ⟨#[101,110,100]⟩ with
    |true=>rfl
    |false=>
      rw [if_neg Bool.false_ne_true,Bool.false_or]
      cases (tkAt l j).f0==5 with
      |false=>rfl
      |true=>
        simp only [Bool.true_and]
        cases decide ((⟨#[41]⟩:ByteArray)=(tkAt l j).f2)<;>cases decide ((⟨#[93]⟩:ByteArray)=(tkAt l j).f2)<;>cases decide ((⟨#[125]⟩:ByteArray)=(tkAt l j).f2)<;>cases decide ((⟨#[59]⟩:ByteArray)=(tkAt l j).f2)<;>cases decide ((⟨#[44]⟩:ByteArray)=(tkAt l j).f2)<;>rfl
set_option maxHeartbeats 3200000 in
theorem stop_r (h : RG w g A0 c0 l A1 c1 ws at_ op er wh W) (hC : Kd.C k39 w A0 l.length l) (hl : l.length ≤ 6000) (hat : at_ ≤ 7000) (n : Nat) (hn : n ≤ 2) :
    Calls Tryz.prog 133 #[.pointer (some ⟨g,0,none⟩),.int .i64 n] W fun x W'=>x=.returned (.bool (stopsB l (at_+n)))∧Below W.heap.size W W':=by
  rw [←stopsR_eq]
  have k0:W.cell? ⟨g,0,none⟩=some (.slice A0 l.length c0):=blk_cell h.blk 0
  have k2:W.cell? ⟨g,2,none⟩=some (.int .i64 at_):=blk_cell h.blk 2
  obtain ⟨j,hj⟩: ∃j,at_+n=j:=⟨_,rfl⟩
  have y1:IntKind.i64.wrap ((at_:Int)+(n:Int))=(j:Int):=by rw [IntWalk.i64_in _ (by omega)];omega
  rw [hj]
  by_cases hlt:j<l.length
  · obtain ⟨ad,had,t0,t1,t2,t3,t4⟩:=at_T39 (Kd.C_below hC h.bel) (j:Int) (by omega) (by omega)
    subst had
    obtain ⟨T,hT⟩: ∃T,rd_T39 l (j:Int)=T:=⟨_,rfl⟩
    have e:stopsR l j=(closesR T||(T.f0==5&&(T.f2.toList==[59]||T.f2.toList==[44]))):=by
      unfold stopsR
      rw [if_neg (by omega),show tkAt l j=T from hT]
    rw [e]
    rw [hT] at t0 t1 t2 t3 t4
    simp only [Int.toNat_natCast] at t0 t1 t2 t3 t4
    have x1:decide ((l.length:Int)≤(j:Int))=false:=decide_eq_false (by omega)
    have x2:decide (l.length≤j)=false:=decide_eq_false (by omega)
    have x3:(0:Int)≤(j:Int):=by omega
    have x4:(j:Int)<(l.length:Int):=by omega
    have HN:=Lib.hid (fun (X:World)=>closes_c T X)
    unfold tokV at HN
    obtain ⟨b0,hb0⟩: ∃b,closesR T=b:=⟨_,rfl⟩
    rw [hb0] at HN⊢
    obtain ⟨q5,h5⟩: ∃b,(T.f0==5)=b:=⟨_,rfl⟩
    obtain ⟨q1,h1⟩: ∃b,(T.f2.toList==[59])=b:=⟨_,rfl⟩
    obtain ⟨q2,h2⟩: ∃b,(T.f2.toList==[44])=b:=⟨_,rfl⟩
    rw [h5,h1,h2]
    clear h hC hT e hj hlt hat hn hl hb0
    go_enter Tryz.func133,Tryz.ntmps133
    go_upto_region 1 with (fail)
    go_quiet (fail)
    go_upto_region 3 with (fail)
    go_name_world W1 hW1
    have hb1:Below W.heap.size W W1:=hW1▸by repeat (with_reducible first|exact Below.refl _ _|apply pw_below_drewN|apply Below.drew)
    have HB1:=Lib.hid hb1
    clear hW1
    replace k0:=pw_cell_below hb1 k0
    replace k2:=pw_cell_below hb1 k2
    replace t0:=pw_cell_below hb1 t0
    replace t1:=pw_cell_below hb1 t1
    replace t2:=pw_cell_below hb1 t2
    replace t3:=pw_cell_below hb1 t3
    replace t4:=pw_cell_below hb1 t4
    have e0:=al k0
    have e2:=al k2
    have z0:=al t0
    have z1:=al t1
    have z2:=al t2
    have z3:=al t3
    have z4:=al t4
    clear hb1
    go_region
    go_upto_region 4 with (fail)
    go_name_world W2 hW2
    have HT2:Hid (W2.heap[W1.heap.size]? =some (.cells #[.int .i64 T.f0,.int .i64 T.f1,.string T.f2,.int .i64 T.f3,.int .i64 T.f4] 39 (0,0))):=Lib.hid (hW2▸blk_drew (blk_new W1 _))
    have HB2:Hid (Below W.heap.size W W2):=Lib.hid (HB1.out.trans ((hW2▸below_drew (below_alloc (Below.refl W1.heap.size W1) _):Below W1.heap.size W1 W2).mono HB1.out.size))
    clear hW2 e0 e2 z0 z1 z2 z3 z4 k0 k2 t0 t1 t2 t3 t4
    obtain ⟨v,hv⟩: ∃v,W1.heap.size=v:=⟨_,rfl⟩
    rw [hv] at HT2⊢
    clear hv
    have t0:W2.cell? ⟨v,0,none⟩=some (.int .i64 T.f0):=blk_cell HT2.out 0
    have t1:W2.cell? ⟨v,1,none⟩=some (.int .i64 T.f1):=blk_cell HT2.out 1
    have t2:W2.cell? ⟨v,2,none⟩=some (.string T.f2):=blk_cell HT2.out 2
    have t3:W2.cell? ⟨v,3,none⟩=some (.int .i64 T.f3):=blk_cell HT2.out 3
    have t4:W2.cell? ⟨v,4,none⟩=some (.int .i64 T.f4):=blk_cell HT2.out 4
    go_wp2_with fail
    refine (HN.out _).mono ?_
    rintro e W3 ⟨rfl,hb3⟩
    replace t0:=pw_cell_below hb3 t0
    replace t2:=pw_cell_below hb3 t2
    have HB3:=Lib.hid (HB2.out.trans (hb3.mono HB2.out.size))
    clear hb3 t1 t3 t4
    cases b0 with
    |true=>
      go_wp2
      go_ret
      exact ⟨rfl,HB3.out⟩
    |false=>
      cases q5 with
      |false=>
        go_wp2
        go_ret
        exact ⟨rfl,HB3.out⟩
      |true=>
        cases q1<;>cases q2
        all_goals go_wp2
        all_goals go_ret
        all_goals exact ⟨rfl,HB3.out⟩
  · have e:stopsR l j=true:=by unfold stopsR;rw [if_pos (by omega)]
    have x1:decide ((l.length:Int)≤(j:Int))=true:=decide_eq_true (by omega)
    have x2:decide (l.length≤j)=true:=decide_eq_true (by omega)
    rw [e]
    clear h hC e hlt
    go_enter Tryz.func133,Tryz.ntmps133
    go_wp2_with fail
    go_quiet (fail)
    go_wp2
    go_ret
    exact ⟨rfl,by repeat (with_reducible first|exact Below.refl _ _|apply pw_below_drewN|apply Below.drew)⟩
end
end Go.Proofs.YtipnlgmeonepfaaGreatDoor.PFa

set_option linter.unusedVariables false
set_option linter.unusedSimpArgs false
namespace Go.Proofs.YtipnlgmeonepfaaGreatDoor.PFa
open Go.RowKit Go.Proofs.YtipnlgmeonepfaaGreatDoorW.PrintWords Go.Proofs.YtipnlgmeonepfaaGreatDoorW.PrintLast Go.Proofs.YtipnlgmeonepfaaGreatDoorW.PrintMore
open Go.Proofs.YtipnlgmeonepfaaGreatDoor.Lx (Kp)
/-- What the reference's Index says (R01). -/
def IndexAll:Prop:= ∀(A:Option Addr) (c:Nat) (ls:List ByteArray) (s:ByteArray) (X:World),Kd.C Kd.string X A ls.length ls→ls.length≤c→ls.length≤1000→
  Calls Tryz.prog 58 #[.slice A ls.length c,.string s] X fun e X'=> ∃r:Int,e=.returned (.int .i64 r)∧decide (r<0)= !memB s ls∧Drawn0 X X'
def dropWords:List ByteArray:=[⟨#[99,108,97,115,115]⟩,⟨#[109,101,116,104,111,100]⟩,⟨#[109,97,99,114,111]⟩]
theorem dropWords_iff (s:ByteArray):memB s dropWords=true↔(s.toList=cClass∨s.toList=cMethod∨s.toList=cMacro):=by
  rw [memB_iff]
  unfold dropWords
  simp only [List.mem_cons,List.not_mem_nil,or_false]
  rw [show cClass=(⟨#[99,108,97,115,115]⟩:ByteArray).data.toList from rfl,show cMethod=(⟨#[109,101,116,104,111,100]⟩:ByteArray).data.toList from rfl,show cMacro=(⟨#[109,97,99,114,111]⟩:ByteArray).data.toList from rfl,list_eq,list_eq,list_eq]
section
variable {w W W':World} {g:Nat} {A0:Option Addr} {c0:Nat} {l:List Tk} {A1:Option Addr} {c1:Nat} {ws:List ByteArray} {at_ op:Nat} {er wh:Int}
theorem wordR_lt {l:List Tk} {j:Nat} {s:ByteArray} (h:wordR l j s=true):j<l.length:=by
  unfold wordR at h
  rw [Bool.and_eq_true] at h
  exact isNm_lt h.2
theorem dropR_lt {l:List Tk} {c:Nat} (hc:c<l.length) (o:ByteArray) (kids:List Fg):c+dropR l c o kids<l.length:=by
  unfold dropR
  split
  · split
    · rename_i h
      have:=wordR_lt h.2.1
      omega
    · split
      · rename_i h
        rcases h.1 with h|h<;>exact wordR_lt h
      · exact hc
  · exact hc
/-- The end of drop: the names behind a group's end are checked and passed. -/
def DropEnd (w:World) (g:Nat) (A0:Option Addr) (c0:Nat) (l:List Tk) (A1:Option Addr) (c1:Nat) (ws:List ByteArray) (c op:Nat) (wh:Int) (n:Nat) (W W':World):Prop:=
  match badIn l c n with
  |none=>RP w g A0 c0 l A1 c1 ws (c+1+n) op 0 wh W W'
  |some q=> ∃a,RP w g A0 c0 l A1 c1 ws a op 14 ((c+1+q:Nat):Int) W W'
set_option maxHeartbeats 6400000 in
set_option maxRecDepth 100000 in
theorem drop_r (HCK : ChecksAll) (HIX : IndexAll) (hsz : ∀ t ∈ l, t.f2.size ≤ 140737488351232) {c : Nat} (h : RG w g A0 c0 l A1 c1 ws (c + 1) op 0 wh W) (hC : Kd.C k39 w A0 l.length l) (hl : l.length ≤ 6000) (hc : c < l.length) (o : ByteArray) {Ak : Option Addr} {ck : Nat} {kids : List Fg} (hk : Kd.C k49 W Ak kids.length kids) :
    Calls Tryz.prog 111 #[.pointer (some ⟨g,0,none⟩),.string o,.slice Ak kids.length ck] W fun x W'=>x=.returned (.tuple #[])∧DropEnd w g A0 c0 l A1 c1 ws c op wh (dropR l c o kids) W W':=by
  have H:=Lib.hid h
  have HC:=Lib.hid hC
  have HK:=Lib.hid hk
  have HIXX:=Lib.hid HIX
  have HCKK:=Lib.hid HCK
  have HSZ:=Lib.hid hsz
  clear hC hk HIX HCK hsz
  obtain ⟨mb,hmb⟩: ∃b,memB o dropWords=b:=⟨_,rfl⟩
  have HMB:=Lib.hid hmb
  have HLIT:Hid (∀(X:World) (b:Nat) (t:TypeId),X.heap[b]? =some (.cells #[.string ⟨#[99,108,97,115,115]⟩,.string ⟨#[109,101,116,104,111,100]⟩,.string ⟨#[109,97,99,114,111]⟩] t (0,0))→Calls Tryz.prog 58 #[.slice (some ⟨b,0,none⟩) 3 3,.string o] X fun e X'=> ∃r:Int,e=.returned (.int .i64 r)∧decide (r<0)= !mb∧Drawn0 X X'):=Lib.hid (fun X b t hb=>by
    have:=HIXX.out (some ⟨b,0,none⟩) 3 dropWords o X (strs_lit (l:=dropWords) hb (by decide)) (by decide) (by decide)
    rw [hmb] at this
    exact this)
  clear hmb h
  obtain ⟨N,hN⟩: ∃N,dropR l c o kids=N:=⟨_,rfl⟩
  rw [hN]
  have HNQ:=Lib.hid hN
  clear hN
  go_enter Tryz.func111,Tryz.ntmps111
  go_wp2_with fail
  refine (HLIT.out _ _ _ (blk_new W _)).mono ?_
  rintro e W1 ⟨r,rfl,hr,hd1⟩
  have hb1:Below W.heap.size W W1:=by
    obtain ⟨m,rfl⟩:=hd1
    exact pw_below_drewN (below_alloc (Below.refl _ _) _) _
  have HB1:=Lib.hid hb1
  clear hb1 hd1
  cases mb with
  |false=>
    have HD:Hid (N=0):=Lib.hid (by
      rw [←HNQ.out]
      unfold dropR
      rw [if_neg (fun h=>by have:=(dropWords_iff o).2 h;rw [HMB.out] at this;cases this)])
    have hr':decide (r<0)=true:=hr
    clear hr
    go_wp2
    refine bodyPost_ret (results_none rfl _ _ _) rfl ?_
    refine ⟨rfl, ?_⟩
    rw [HD.out]
    exact RP.of_below H.out HB1.out
  |true=>
    have hr':decide (r<0)=false:=hr
    clear hr
    go_upto_region 2 with (fail)
    obtain ⟨nm,hnm⟩: ∃x,nameR kids=x:=⟨_,rfl⟩
    have HNM:=Lib.hid hnm
    have HNN:Hid (kids.length=0→nm=⟨#[]⟩):=Lib.hid (fun e=>by rw [←hnm,List.eq_nil_of_length_eq_zero e];rfl)
    have HNK:Hid (0<kids.length→nm=if (rd_T49 kids 0).f1=⟨#[]⟩∧(rd_T49 kids 0).f0.f0=1 then (rd_T49 kids 0).f0.f2 else ⟨#[]⟩):=Lib.hid (fun e=>by
      cases kids with
      |nil=>exact absurd e (by simp)
      |cons k r=>rw [←hnm];rfl)
    clear hnm
    have HKW:=Lib.hid (fun (hne:0<kids.length)=>at_T49 (Kd.C_below HK.out HB1.out) 0 (by decide) (by omega))
    obtain ⟨n,hn⟩: ∃n,kids.length=n:=⟨_,rfl⟩
    rw [hn] at HNN HNK HKW
    have HLN:=Lib.hid hn
    simp only [hn]
    clear hn
    go_cut [30,6] (fun v30 v6 wd=>v6=.string ⟨#[]⟩∧wd=W1∧ ∃q:Bool,v30=.bool q∧(q=false→nm=⟨#[]⟩)∧(q=true→ ∃ad,Ak=some ad∧W1.cell? ⟨ad.block,ad.off+2,none⟩=some (.string nm)∧0<n))
    case first=>
      by_cases hn0:n=0
      · subst hn0
        have HN0:=Lib.hid (HNN.out rfl)
        go_wp2
        go_meet
        case rel=>exact ⟨rfl,rfl,false,rfl,fun _=>HN0.out,fun h=>by cases h⟩
      · have hpos:0<n:=by omega
        obtain ⟨ad,A6,c6,had,t0,t1,t2,t3,t4,t5,t6,_,_⟩:=HKW.out hpos
        have hnm:=HNK.out hpos
        subst had
        revert t0 t2 t5 hnm
        generalize rd_T49 kids 0=x
        intro t0 t2 t5 hnm
        simp only [show (0:Int).toNat=0 from rfl,Nat.zero_mul,Go.Addr.add,↓reduceIte] at t0 t2 t5
        clear t1 t3 t4 t6
        have x1:decide ((0:Int)<(n:Int))=true:=decide_eq_true (by omega)
        have x2:decide (0<n)=true:=decide_eq_true hpos
        have HNM2:=Lib.hid hnm
        have hee:x.f1.toList.isEmpty=decide (x.f1=⟨#[]⟩):=by
          rw [Bool.eq_iff_iff,decide_eq_true_iff,List.isEmpty_iff]
          exact list_eq x.f1 ⟨#[]⟩
        clear hnm
        by_cases h1:x.f1=⟨#[]⟩
        · rw [decide_eq_true h1] at hee
          by_cases h2:x.f0.f0=1
          · have hq:(x.f0.f0==1)=true:=beq_iff_eq.2 h2
            have HT:Hid (nm=x.f0.f2):=Lib.hid (by rw [HNM2.out,if_pos ⟨h1,h2⟩])
            clear h1 h2
            go_wp2
            go_meet
            case rel=>exact ⟨rfl,rfl,true,rfl,(fun h=>by cases h),fun _=>⟨ad,rfl,by rw [HT.out];exact t2,hpos⟩⟩
          · have hq:(x.f0.f0==1)=false:=beq_false_of_ne h2
            have HT:Hid (nm=⟨#[]⟩):=Lib.hid (by rw [HNM2.out,if_neg (fun h=>h2 h.2)])
            clear h1 h2
            go_wp2
            go_meet
            case rel=>exact ⟨rfl,rfl,false,rfl,fun _=>HT.out,fun h=>by cases h⟩
        · rw [decide_eq_false h1] at hee
          have HT:Hid (nm=⟨#[]⟩):=Lib.hid (by rw [HNM2.out,if_neg (fun h=>h1 h.1)])
          clear h1
          go_wp2
          go_meet
          case rel=>exact ⟨rfl,rfl,false,rfl,fun _=>HT.out,fun h=>by cases h⟩
    case rest=>
      obtain ⟨rfl,hwc,q,rfl,hq0,hq1⟩:=hcut
      subst hwc
      rename World=>W2
      have HQ0:=Lib.hid hq0
      have HQ1:=Lib.hid hq1
      clear hq0 hq1
      go_upto_if 30 with (fail)
      go_cut [6] (fun v6 wd=>v6=.string nm∧wd=W2)
      case first=>
        cases q with
        |false=>
          have HE:=Lib.hid (HQ0.out rfl)
          go_wp2
          go_meet
          case rel=>exact ⟨by rw [HE.out],rfl⟩
        |true=>
          obtain ⟨ad,had,t2,hpos⟩:=HQ1.out rfl
          subst had
          have x2:(0:Int)<(n:Int):=by omega
          go_wp2
          go_meet
          case rel=>exact ⟨rfl,rfl⟩
      case rest=>
        obtain ⟨rfl,hwc⟩:=hcut
        subst hwc
        rename World=>W3
        clear HQ0 HQ1 HKW HNN HNK HLIT hr'
        have HR1:Hid (RG w g A0 c0 l A1 c1 ws (c+1) op 0 wh W3):=Lib.hid (H.out.below HB1.out)
        obtain ⟨b1,hb1⟩: ∃b,wordR l (c+1) o=b:=⟨_,rfl⟩
        obtain ⟨b2,hb2⟩: ∃b,wordR l (c+2) nm=b:=⟨_,rfl⟩
        obtain ⟨b3,hb3⟩: ∃b,stopsB l (c+3)=b:=⟨_,rfl⟩
        obtain ⟨b4,hb4⟩: ∃b,wordR l (c+1) nm=b:=⟨_,rfl⟩
        obtain ⟨b5,hb5⟩: ∃b,stopsB l (c+2)=b:=⟨_,rfl⟩
        have HDN:Hid (N=if (b1&&b2&&b3)=true then 2 else if ((b1||b4)&&b5)=true then 1 else 0):=Lib.hid (by
          rw [←HNQ.out]
          unfold dropR
          rw [if_pos ((dropWords_iff o).1 HMB.out),HNM.out,hb1,hb2,hb3,hb4,hb5]
          cases b1<;>cases b2<;>cases b3<;>cases b4<;>cases b5<;>rfl)
        have HW1:Hid (∀X,Below W3.heap.size W3 X→Calls Tryz.prog 132 #[.pointer (some ⟨g,0,none⟩),.int .i64 0,.string o] X fun x X'=>x=.returned (.bool b1)∧Below W3.heap.size W3 X'):=Lib.hid (fun X hb=>by
          have:=word_r (HR1.out.below hb) HC.out hl (by omega) 0 (by omega) o
          rw [Nat.add_zero,hb1] at this
          exact this.mono (fun x X' h=>⟨h.1,hb.trans (h.2.mono hb.size)⟩))
        have HW2:Hid (∀X,Below W3.heap.size W3 X→Calls Tryz.prog 132 #[.pointer (some ⟨g,0,none⟩),.int .i64 1,.string nm] X fun x X'=>x=.returned (.bool b2)∧Below W3.heap.size W3 X'):=Lib.hid (fun X hb=>by
          have:=word_r (HR1.out.below hb) HC.out hl (by omega) 1 (by omega) nm
          rw [show c+1+1=c+2 from rfl,hb2] at this
          exact this.mono (fun x X' h=>⟨h.1,hb.trans (h.2.mono hb.size)⟩))
        have HW3:Hid (∀X,Below W3.heap.size W3 X→Calls Tryz.prog 133 #[.pointer (some ⟨g,0,none⟩),.int .i64 2] X fun x X'=>x=.returned (.bool b3)∧Below W3.heap.size W3 X'):=Lib.hid (fun X hb=>by
          have:=stop_r (HR1.out.below hb) HC.out hl (by omega) 2 (by omega)
          rw [show c+1+2=c+3 from rfl,hb3] at this
          exact this.mono (fun x X' h=>⟨h.1,hb.trans (h.2.mono hb.size)⟩))
        have HW4:Hid (∀X,Below W3.heap.size W3 X→Calls Tryz.prog 132 #[.pointer (some ⟨g,0,none⟩),.int .i64 0,.string nm] X fun x X'=>x=.returned (.bool b4)∧Below W3.heap.size W3 X'):=Lib.hid (fun X hb=>by
          have:=word_r (HR1.out.below hb) HC.out hl (by omega) 0 (by omega) nm
          rw [Nat.add_zero,hb4] at this
          exact this.mono (fun x X' h=>⟨h.1,hb.trans (h.2.mono hb.size)⟩))
        have HW5:Hid (∀X,Below W3.heap.size W3 X→Calls Tryz.prog 133 #[.pointer (some ⟨g,0,none⟩),.int .i64 1] X fun x X'=>x=.returned (.bool b5)∧Below W3.heap.size W3 X'):=Lib.hid (fun X hb=>by
          have:=stop_r (HR1.out.below hb) HC.out hl (by omega) 1 (by omega)
          rw [show c+1+1=c+2 from rfl,hb5] at this
          exact this.mono (fun x X' h=>⟨h.1,hb.trans (h.2.mono hb.size)⟩))
        clear hb1 hb2 hb3 hb4 hb5
        go_upto_region 5 with (fail)
        go_cut [47] (fun v47 wd=>v47=.bool (b1&&b2&&b3)∧Hid (Below W3.heap.size W3 wd))
        case first=>
          cases b1 with
          |false=>
            go_wp2_with fail
            refine (HW1.out _ (Below.refl _ _)).mono ?_
            rintro e W4 ⟨rfl,hx⟩
            go_wp2
            go_meet
            case rel=>exact ⟨rfl,Lib.hid hx⟩
          |true=>
            cases b2 with
            |false=>
              go_wp2_with fail
              refine (HW1.out _ (Below.refl _ _)).mono ?_
              rintro e W4 ⟨rfl,hx⟩
              go_wp2_with fail
              refine (HW2.out _ hx).mono ?_
              rintro e W5 ⟨rfl,hy⟩
              go_wp2
              go_meet
              case rel=>exact ⟨rfl,Lib.hid hy⟩
            |true=>
              go_wp2_with fail
              refine (HW1.out _ (Below.refl _ _)).mono ?_
              rintro e W4 ⟨rfl,hx⟩
              go_wp2_with fail
              refine (HW2.out _ hx).mono ?_
              rintro e W5 ⟨rfl,hy⟩
              go_wp2_with fail
              refine (HW3.out _ hy).mono ?_
              rintro e W6 ⟨rfl,hz⟩
              go_wp2
              go_meet
              case rel=>exact ⟨rfl,Lib.hid hz⟩
        case rest=>
          obtain ⟨rfl,HX⟩:=hcut
          rename World=>W7
          go_upto_if 47 with (fail)
          go_cut [7] (fun v7 wd=>v7=.int .i64 (N:Nat)∧Hid (Below W3.heap.size W3 wd))
          case first=>
            obtain ⟨q,hq⟩: ∃q,(b1&&b2&&b3)=q:=⟨_,rfl⟩
            rw [hq] at HDN⊢
            cases q with
            |true=>
              have HE:Hid (N=2):=Lib.hid HDN.out
              clear hq
              go_wp2
              go_meet
              case rel=>exact ⟨by rw [HE.out];rfl,HX⟩
            |false=>
              have HE:Hid (N=if ((b1||b4)&&b5)=true then 1 else 0):=Lib.hid HDN.out
              clear hq
              cases b1 with
              |true=>
                go_wp2_with fail
                refine (HW1.out _ HX.out).mono ?_
                rintro e W9 ⟨rfl,hx⟩
                go_wp2_with fail
                refine (HW5.out _ hx).mono ?_
                rintro e W10 ⟨rfl,hy⟩
                cases b5
                all_goals go_wp2
                all_goals go_meet
                all_goals (case rel=>exact ⟨by rw [HE.out];rfl,Lib.hid hy⟩)
              |false=>
                cases b4 with
                |true=>
                  go_wp2_with fail
                  refine (HW1.out _ HX.out).mono ?_
                  rintro e W9 ⟨rfl,hx⟩
                  go_wp2_with fail
                  refine (HW4.out _ hx).mono ?_
                  rintro e W11 ⟨rfl,hx2⟩
                  go_wp2_with fail
                  refine (HW5.out _ hx2).mono ?_
                  rintro e W10 ⟨rfl,hy⟩
                  cases b5
                  all_goals go_wp2
                  all_goals go_meet
                  all_goals (case rel=>exact ⟨by rw [HE.out];rfl,Lib.hid hy⟩)
                |false=>
                  go_wp2_with fail
                  refine (HW1.out _ HX.out).mono ?_
                  rintro e W9 ⟨rfl,hx⟩
                  go_wp2_with fail
                  refine (HW4.out _ hx).mono ?_
                  rintro e W11 ⟨rfl,hx2⟩
                  go_wp2
                  go_meet
                  case rel=>exact ⟨by rw [HE.out];rfl,Lib.hid hx2⟩
          case rest=>
            obtain ⟨rfl,HY⟩:=hcut
            rename World=>W8
            have HRB:Hid (RG w g A0 c0 l A1 c1 ws (c+1) op 0 wh W8):=Lib.hid (HR1.out.below HY.out)
            have HKP:Hid (Kp (fun k=>k=g) W W8):=Lib.hid (Kp.of_below (HB1.out.trans (HY.out.mono HB1.out.size)) _)
            have HNL:Hid (c+N<l.length):=Lib.hid (by rw [←HNQ.out];exact dropR_lt hc o kids)
            have HN2:N≤2:=by
              have:=HDN.out
              rw [this]
              split
              · exact Nat.le_refl _
              · split<;>omega
            clear HW1 HW2 HW3 HW4 HW5 HX HY HR1 HB1 HDN HK HNM
            go_wp2_with fail
            go_loopg [8] (N+1) (fun kq v8 wr=> ∃i:Nat,v8=.int .i64 i∧N+1-i≤kq∧i≤N∧Hid (Kp (fun k=>k=g) W wr)∧ ∃e2 wh2:Int,Hid (RG w g A0 c0 l A1 c1 ws (c+1+i) op e2 wh2 wr)∧Hid ((e2=0∧wh2=wh∧ ∀j,j<i→Pure.good (tkAt l (c+1+j))=true)∨(e2=14∧ ∃q,q<N∧wh2=((c+1+q:Nat):Int)∧(∀j,j<q→Pure.good (tkAt l (c+1+j))=true)∧Pure.good (tkAt l (c+1+q))=false)))
            case atStart=>exact ⟨0,rfl,by omega,Nat.zero_le _,HKP,0,wh,HRB,Lib.hid (.inl ⟨rfl,rfl,fun j hj=>absurd hj (by omega)⟩)⟩
            case round=>
              obtain ⟨i,rfl,hkq,hiN,HKi,e2,wh2,HRi,HOR⟩:=hrel
              have HKQ:=Lib.hid hkq
              clear hkq HKP HRB
              have hNl:=HNL.out
              obtain ⟨a,ha⟩: ∃a,c+1+i=a:=⟨_,rfl⟩
              have HA:=Lib.hid ha
              rw [ha] at HRi
              have k2:wr.cell? ⟨g,2,none⟩=some (.int .i64 a):=blk_cell HRi.out.blk 2
              have k4:wr.cell? ⟨g,4,none⟩=some (.int .i64 e2):=blk_cell HRi.out.blk 4
              rcases HOR.out with ⟨rfl,rfl,hall⟩|⟨rfl,q,hqN,rfl,hall,hbad⟩
              · have HALL:=Lib.hid hall
                clear hall HOR
                by_cases hlt:i<N
                · have x1:decide ((i:Int)<(N:Int))=true:=decide_eq_true (by omega)
                  have x2:decide (i<N)=true:=decide_eq_true hlt
                  have hal:a<l.length:=by omega
                  have y2:wrap64 ((a:Int)+1)=((a+1:Nat):Int):=by unfold wrap64;omega
                  have y3:wrap64 ((i:Int)+1)=((i+1:Nat):Int):=by unfold wrap64;omega
                  have HCC:=Lib.hid (check_r HCKK.out HSZ.out HRi.out HC.out hl a hal)
                  by_cases hg:Pure.good (tkAt l a)=true
                  · have HGG:=Lib.hid hg
                    go_wp2_with fail
                    refine HCC.out.mono ?_
                    rintro e W9 ⟨rfl,hp⟩
                    rw [if_pos HGG.out] at hp
                    have HP:=Lib.hid hp
                    have k2':W9.cell? ⟨g,2,none⟩=some (.int .i64 a):=blk_cell hp.1.blk 2
                    have f2':W9.frozen? ⟨g,2,none⟩=false:=blk_frozen hp.1.blk 2
                    clear hp k2 k4 hg
                    go_wp2
                    go_roundg (gk-1)
                    case measure=>have:=HKQ.out;omega
                    case rel=>
                      refine ⟨i+1,by go_num,by have:=HKQ.out;omega,by omega,Lib.hid ?_,0,wh2,Lib.hid ?_,Lib.hid (.inl ⟨rfl,rfl,fun j hj=> ?_⟩)⟩
                      · exact Kp.setCell (S:=fun k=>k=g) (HKi.out.trans HP.out.2) (p:=⟨g,2,none⟩) (.inl rfl) _
                      · rw [show c+1+(i+1)=a+1 from by have:=HA.out;omega]
                        exact ⟨blk_put HP.out.1.blk 2 _ rfl,HP.out.1.hg,HP.out.1.bel.setCell HP.out.1.hg _⟩
                      · by_cases e:j=i
                        · rw [e,HA.out]
                          exact HGG.out
                        · exact HALL.out j (by omega)
                  · have HGG:Hid (Pure.good (tkAt l a)=false):=Lib.hid (Bool.eq_false_iff.2 hg)
                    go_wp2_with fail
                    refine HCC.out.mono ?_
                    rintro e W9 ⟨rfl,hp⟩
                    rw [if_neg (by rw [HGG.out];decide)] at hp
                    have HP:=Lib.hid hp
                    have k2':W9.cell? ⟨g,2,none⟩=some (.int .i64 a):=blk_cell hp.1.blk 2
                    have f2':W9.frozen? ⟨g,2,none⟩=false:=blk_frozen hp.1.blk 2
                    clear hp k2 k4 hg
                    go_wp2
                    go_roundg (gk-1)
                    case measure=>have:=HKQ.out;omega
                    case rel=>
                      refine ⟨i+1,by go_num,by have:=HKQ.out;omega,by omega,Lib.hid ?_,14,(a:Nat),Lib.hid ?_,Lib.hid (.inr ⟨rfl,i,hlt,by rw [HA.out],HALL.out,by rw [HA.out];exact HGG.out⟩)⟩
                      · exact Kp.setCell (S:=fun k=>k=g) (HKi.out.trans HP.out.2) (p:=⟨g,2,none⟩) (.inl rfl) _
                      · rw [show c+1+(i+1)=a+1 from by have:=HA.out;omega]
                        exact ⟨blk_put HP.out.1.blk 2 _ rfl,HP.out.1.hg,HP.out.1.bel.setCell HP.out.1.hg _⟩
                · obtain rfl:i=N:=by omega
                  have x1:decide ((i:Int)<(i:Int))=false:=decide_eq_false (by omega)
                  have x2:decide (i<i)=false:=decide_eq_false (by omega)
                  go_wp2
                  go_end0
                  refine ⟨rfl, ?_⟩
                  unfold DropEnd
                  rw [badIn_none HALL.out]
                  dsimp only
                  rw [HA.out]
                  exact ⟨HRi.out,HKi.out⟩
              · have HALL:=Lib.hid hall
                have HBAD:=Lib.hid hbad
                clear hall hbad HOR
                by_cases hlt:i<N
                · have x1:decide ((i:Int)<(N:Int))=true:=decide_eq_true (by omega)
                  have x2:decide (i<N)=true:=decide_eq_true hlt
                  go_wp2
                  go_end0
                  refine ⟨rfl, ?_⟩
                  unfold DropEnd
                  rw [badIn_some hqN HALL.out HBAD.out]
                  exact ⟨a,HRi.out,HKi.out⟩
                · have x1:decide ((i:Int)<(N:Int))=false:=decide_eq_false (by omega)
                  have x2:decide (i<N)=false:=decide_eq_false hlt
                  go_wp2
                  go_end0
                  refine ⟨rfl, ?_⟩
                  unfold DropEnd
                  rw [badIn_some hqN HALL.out HBAD.out]
                  exact ⟨a,HRi.out,HKi.out⟩
end
end Go.Proofs.YtipnlgmeonepfaaGreatDoor.PFa

set_option linter.unusedVariables false
set_option linter.unusedSimpArgs false
namespace Go.Proofs.YtipnlgmeonepfaaGreatDoor.PFa
open Go.RowKit Go.Proofs.YtipnlgmeonepfaaGreatDoorW.PrintWords Go.Proofs.YtipnlgmeonepfaaGreatDoorW.PrintLast Go.Proofs.YtipnlgmeonepfaaGreatDoorW.PrintMore
open Go.Proofs.YtipnlgmeonepfaaGreatDoor.Lx (Kp)
theorem rwords_c (w:World):Calls Tryz.prog 19 #[] w fun e w'=> ∃v:Value,e=.returned v∧Kd.R Kd.string 9 w' w.heap.size (fun _=>True) v openers∧Below w.heap.size w w':=by
  have HO:=Lib.hid (World.ownsRow_lit (base:=w.heap.size) (e:=9) (size:=1) w (openers.map Value.string).toArray 6 (Nat.le_refl _) (by decide) (by decide))
  have HB:=Lib.hid (below_alloc (Below.refl w.heap.size w) (.cells (openers.map Value.string).toArray 9 (0,0)))
  go_enter Tryz.func19,Tryz.ntmps19
  go_wp2
  go_ret
  exact ⟨_,rfl,strs_R HO.out (fun _ _=>trivial),HB.out⟩
attribute [local go_sem ↓ high] app_veil
section
variable {w W W':World} {g:Nat} {A0:Option Addr} {c0:Nat} {l:List Tk} {A1:Option Addr} {c1:Nat} {ws:List ByteArray} {at_ op:Nat} {er wh:Int}
set_option maxHeartbeats 6400000 in
set_option maxRecDepth 100000 in
theorem opens_r (HIX : IndexAll) (h : RG w g A0 c0 l A1 c1 ws at_ op er wh W) (hC : Kd.C k39 w A0 l.length l) (hW : Kd.C Kd.string w A1 ws.length ws) (hws : ws.length ≤ 40) (hl : l.length ≤ 6000) (i : Nat) (hi : i < l.length) (p : Bool) :
    Calls Tryz.prog 86 #[.pointer (some ⟨g,0,none⟩),.int .i64 i,.bool p] W fun x W'=>x=.returned (.bool (opensR ws l i p))∧Below W.heap.size W W':=by
  have HIXX:=Lib.hid HIX
  have HWW:=Lib.hid hW
  have HR0:=Lib.hid h
  have hT: ∀(j:Nat),j<l.length→ ∃ad,A0=some ad∧W.cell? (ad.add (j*5))=some (.int .i64 (tkAt l j).f0)∧W.cell? ⟨(ad.add (j*5)).block,(ad.add (j*5)).off+1,none⟩=some (.int .i64 (tkAt l j).f1)∧W.cell? ⟨(ad.add (j*5)).block,(ad.add (j*5)).off+2,none⟩=some (.string (tkAt l j).f2)∧W.cell? ⟨(ad.add (j*5)).block,(ad.add (j*5)).off+3,none⟩=some (.int .i64 (tkAt l j).f3)∧W.cell? ⟨(ad.add (j*5)).block,(ad.add (j*5)).off+4,none⟩=some (.int .i64 (tkAt l j).f4):=by
    intro j hj
    obtain ⟨ad,had,t0,t1,t2,t3,t4⟩:=at_T39 (Kd.C_below hC h.bel) (j:Int) (by omega) (by omega)
    simp only [Int.toNat_natCast] at t0 t1 t2 t3 t4
    exact ⟨ad,had,t0,t1,t2,t3,t4⟩
  have HT:=Lib.hid hT
  obtain ⟨ad,had,t0,t1,t2,t3,t4⟩:=hT i hi
  subst had
  clear hT
  obtain ⟨T,hTT⟩: ∃T,tkAt l i=T:=⟨_,rfl⟩
  have e0:opensR ws l i p=if T.f0=5 then (bracketR T.f2).toList !=[] else if T.f0=1∧p=false∧memB T.f2 (openers++ws)=true then !((T.f2.toList==cClass)&&isNm l (i+1) slotName) else false:=by unfold opensR;rw [hTT]
  obtain ⟨V,hVV⟩: ∃V,opensR ws l i p=V:=⟨_,rfl⟩
  rw [hVV]
  rw [hVV] at e0
  have HE:=Lib.hid e0
  rw [hTT] at t0 t1 t2 t3 t4
  clear e0 hVV hTT h hC hW HIX
  have k0:W.cell? ⟨g,0,none⟩=some (.slice (some ad) l.length c0):=blk_cell HR0.out.blk 0
  have x2:(0:Int)≤(i:Int):=by omega
  have x3:(i:Int)<(l.length:Int):=by omega
  have z0:=al k0
  have y0:=al t0
  have y1:=al t1
  have y2:=al t2
  have y3:=al t3
  have y4:=al t4
  have HBR:=Lib.hid (fun (X:World)=>bracket_c T.f2 X)
  have HWS:Hid (Below W.heap.size W (W.alloc (.cells #[.int .i64 T.f0,.int .i64 T.f1,.string T.f2,.int .i64 T.f3,.int .i64 T.f4] 39 (0,0)))):=Lib.hid (below_alloc (Below.refl _ _) _)
  have HBK:=Lib.hid (blk_new W (.cells #[.int .i64 T.f0,.int .i64 T.f1,.string T.f2,.int .i64 T.f3,.int .i64 T.f4] 39 (0,0)))
  go_enter Tryz.func86,Tryz.ntmps86
  go_upto_region 2 with (fail)
  go_name_world W1 hW1
  have HB1:Hid (Below W.heap.size W W1):=Lib.hid (hW1▸HWS.out)
  have HT1:W1.heap[W.heap.size]? =some (.cells #[.int .i64 T.f0,.int .i64 T.f1,.string T.f2,.int .i64 T.f3,.int .i64 T.f4] 39 (0,0)):=hW1▸HBK.out
  clear hW1 z0 y0 y1 y2 y3 y4 k0 t0 t1 t2 t3 t4 HWS HBK
  have t0:W1.cell? ⟨W.heap.size,0,none⟩=some (.int .i64 T.f0):=blk_cell HT1 0
  have t2:W1.cell? ⟨W.heap.size,2,none⟩=some (.string T.f2):=blk_cell HT1 2
  clear HT1
  by_cases h5:T.f0=5
  · have x5:(T.f0==5)=true:=beq_iff_eq.2 h5
    obtain ⟨br,hbr⟩: ∃b,bracketR T.f2=b:=⟨_,rfl⟩
    obtain ⟨q2,h2⟩: ∃b,br.toList.isEmpty=b:=⟨_,rfl⟩
    have HQ:Hid (V= !q2):=Lib.hid (by rw [HE.out,if_pos h5,hbr,←h2];cases br.toList<;>rfl)
    rw [hbr] at HBR
    clear hbr h5 HE
    go_wp2_with fail
    refine (HBR.out _).mono ?_
    rintro e W3 ⟨rfl,hb3⟩
    have HB3:=Lib.hid (HB1.out.trans (hb3.mono HB1.out.size))
    clear hb3
    cases q2
    all_goals go_wp2
    all_goals go_ret
    all_goals exact ⟨by rw [HQ.out];rfl,HB3.out⟩
  · have HE2:=Lib.hid (HE.out.trans (if_neg h5))
    have x5:(T.f0==5)=false:=beq_false_of_ne h5
    clear h5 HBR HE
    by_cases hq:T.f0=1∧p=false
    · obtain ⟨h1,rfl⟩:=hq
      rw [h1] at t0
      obtain ⟨mb,hmb⟩: ∃b,memB T.f2 (openers++ws)=b:=⟨_,rfl⟩
      have HMB:=Lib.hid hmb
      have HE3:Hid (V=if mb=true then !((T.f2.toList==cClass)&&isNm l (i+1) slotName) else false):=Lib.hid (by rw [HE2.out,hmb];cases mb<;>simp [h1])
      have HWD:=Lib.hid (fun (X:World)=>rwords_c X)
      have HS:Hid (∀X:World,Below W1.heap.size W1 X→X.cell? ⟨W.heap.size,0,none⟩=some (.int .i64 1)∧X.cell? ⟨W.heap.size,2,none⟩=some (.string T.f2)∧X.cell? ⟨g,1,none⟩=some (.slice A1 ws.length c1)):=Lib.hid (fun X hb=>
        ⟨pw_cell_below hb t0,pw_cell_below hb t2,pw_cell_below hb (pw_cell_below HB1.out (blk_cell HR0.out.blk 1))⟩)
      have HW:Hid (∀X:World,Below W1.heap.size W1 X→Kd.C Kd.string X A1 ws.length ws):=Lib.hid (fun X hb=>Kd.C_below (Kd.C_below (Kd.C_below HWW.out HR0.out.bel) HB1.out) hb)
      clear hmb h1 HE2
      go_upto_region 4 with (fail)
      go_name_world W2 hW2
      have hb2:Below W1.heap.size W1 W2:=hW2▸by repeat (with_reducible first|exact Below.refl _ _|apply pw_below_drewN|apply Below.drew)
      have HB2:=Lib.hid hb2
      clear hb2 hW2 t0 t2
      go_cut [39] (fun v39 wd=>v39=.bool (!mb)∧Hid (Below W1.heap.size W1 wd))
      case first=>
        go_region_held3 (fun X=>X.cell? ⟨W.heap.size,0,none⟩=some (.int .i64 1)∧X.cell? ⟨W.heap.size,2,none⟩=some (.string T.f2)∧X.cell? ⟨g,1,none⟩=some (.slice A1 ws.length c1))
          (first|exact HS.out _ HB2.out|exact HS.out _ (Below.drew HB2.out)|exact H3|exact H9|exact H10)
          (first
            | (go_at_call 58
               have HI:=HIXX.out A9 c9 (openers++ws) T.f2 w9 HC9.out (by rw [List.length_append] at*;exact hle9) (by rw [List.length_append,show openers.length=6 from rfl];omega)
               rw [List.length_append] at HI
               refine HI.mono ?_
               rintro e W10 ⟨r,rfl,hr,hd⟩
               rw [HMB.out] at hr
               have HB10:Hid (Below W1.heap.size W1 W10):=Lib.hid (HB9.out.trans (hd.below.mono HB9.out.size))
               have H10:=HS.out _ HB10.out
               clear hd)
            | (go_at_call 19
               refine (HWD.out _).mono ?_
               rintro e W3 ⟨v0,rfl,hR,hb3⟩
               have HB3:Hid (Below W1.heap.size W1 W3):=Lib.hid ((Below.drew HB2.out).trans (hb3.mono HB2.out.size))
               obtain ⟨v1,w9,hrun,hR9,hB9⟩:=app_strs (P:=Tryz.prog) (t:=23) (ty:=23) (c:=c1) Tryz.underlying23 (by kernel_rfl) hR (HW.out _ HB3.out) (fun _ _=>trivial) hb3.size (by rw [show openers.length=6 from rfl];omega)
               have HB9:Hid (Below W1.heap.size W1 w9):=Lib.hid (HB3.out.trans (hB9.mono HB2.out.size))
               have H3:=HS.out _ HB3.out
               have H9:=HS.out _ HB9.out
               obtain ⟨A9,c9,rfl,hle9,hC9⟩:=Kd.R_reads hR9
               have HC9:=Lib.hid hC9
               clear hR hb3 hR9 hB9 hC9))
        all_goals go_wp2
        all_goals go_meet
        case rel=>exact ⟨rfl,HB10⟩
      case rest=>
        obtain ⟨rfl,HB⟩:=hcut
        rename World=>W3
        clear HWD HW HMB HIXX HWW
        have HBW:Hid (Below W.heap.size W W3):=Lib.hid (HB1.out.trans (HB.out.mono HB1.out.size))
        cases mb with
        |false=>
          go_wp2
          go_ret
          exact ⟨by rw [HE3.out];rfl,HBW.out⟩
        |true=>
          obtain ⟨t0,t2,k1⟩:=HS.out _ HB.out
          clear k1 t0 HS HB HB2 HB1
          have k0:W3.cell? ⟨g,0,none⟩=some (.slice (some ad) l.length c0):=pw_cell_below HBW.out (blk_cell HR0.out.blk 0)
          have HE4:Hid (V= !((T.f2.toList==[99,108,97,115,115])&&isNm l (i+1) slotName)):=Lib.hid HE3.out
          clear HE3
          obtain ⟨q,hq⟩: ∃q,(T.f2.toList==[99,108,97,115,115])=q:=⟨_,rfl⟩
          rw [hq] at HE4
          cases q with
          |false=>
            clear HT
            go_wp2
            go_ret
            exact ⟨by rw [HE4.out];rfl,by repeat (with_reducible first|exact HBW.out|apply pw_below_drewN|apply Below.drew)⟩
          |true=>
            obtain ⟨j,hj⟩: ∃j,i+1=j:=⟨_,rfl⟩
            have y1:IntKind.i64.wrap ((i:Int)+1)=(j:Int):=by rw [IntWalk.i64_in _ (by omega)];omega
            rw [hj] at HE4
            by_cases hlt:j<l.length
            · obtain ⟨ad',had,s0,s1,s2,s3,s4⟩:=HT.out j hlt
              injection had with had
              subst had
              obtain ⟨U,hU⟩: ∃U,tkAt l j=U:=⟨_,rfl⟩
              rw [hU] at s0 s1 s2 s3 s4
              have HE5:Hid (V= !(isN U slotName)):=Lib.hid (by
                rw [HE4.out]
                have e:isNm l j slotName=isN U slotName:=by unfold isNm isN;rw [decide_eq_true hlt,hU];rfl
                rw [e];rfl)
              have HN:=Lib.hid (fun (X:World)=>isN_c U slotName X)
              obtain ⟨z,hz⟩: ∃z,isN U slotName=z:=⟨_,rfl⟩
              rw [hz] at HE5 HN
              have x1:decide ((l.length:Int)≤(j:Int))=false:=decide_eq_false (by omega)
              have x2:decide (l.length≤j)=false:=decide_eq_false (by omega)
              have x4:(0:Int)≤(j:Int):=by omega
              have x5:(j:Int)<(l.length:Int):=by omega
              unfold tokV slotName at HN
              have HS:Hid (∀X,Below W.heap.size W X→X.cell? (ad.add (j*5))=some (.int .i64 U.f0)∧X.cell? ⟨(ad.add (j*5)).block,(ad.add (j*5)).off+1,none⟩=some (.int .i64 U.f1)∧X.cell? ⟨(ad.add (j*5)).block,(ad.add (j*5)).off+2,none⟩=some (.string U.f2)∧X.cell? ⟨(ad.add (j*5)).block,(ad.add (j*5)).off+3,none⟩=some (.int .i64 U.f3)∧X.cell? ⟨(ad.add (j*5)).block,(ad.add (j*5)).off+4,none⟩=some (.int .i64 U.f4)):=Lib.hid (fun X hb=>⟨pw_cell_below hb s0,pw_cell_below hb s1,pw_cell_below hb s2,pw_cell_below hb s3,pw_cell_below hb s4⟩)
              have HC0:=Lib.hid (HS.out _ HBW.out)
              have u0:=HC0.out.1
              have u1:=HC0.out.2.1
              have u2:=HC0.out.2.2.1
              have u3:=HC0.out.2.2.2.1
              have u4:=HC0.out.2.2.2.2
              clear HC0 HS HE4 HT hlt
              go_wp2_with fail
              refine (HN.out _).mono ?_
              rintro e W4 ⟨rfl,hb4⟩
              have HBW4:=Lib.hid (HBW.out.trans (hb4.mono HBW.out.size))
              clear hb4
              go_wp2
              go_ret
              exact ⟨by rw [HE5.out];rfl,HBW4.out⟩
            · have HE5:Hid (V=true):=Lib.hid (by rw [HE4.out];unfold isNm;rw [decide_eq_false hlt];rfl)
              have x1:decide ((l.length:Int)≤(j:Int))=true:=decide_eq_true (by omega)
              have x2:decide (l.length≤j)=true:=decide_eq_true (by omega)
              clear HT HE4 hlt
              go_wp2
              go_ret
              exact ⟨by rw [HE5.out];rfl,by repeat (with_reducible first|exact HBW.out|apply pw_below_drewN|apply Below.drew)⟩
    · have HV:Hid (V=false):=Lib.hid (by rw [HE2.out];exact if_neg (fun h=>hq ⟨h.1,h.2.1⟩))
      have hpq:(T.f0 !=1)=true∨(T.f0=1∧p=true):=by
        by_cases h1:T.f0=1
        · refine .inr ⟨h1, ?_⟩
          cases p
          · exact absurd ⟨h1,rfl⟩ hq
          · rfl
        · exact .inl (bne_iff_ne.2 h1)
      clear hq HE2 HIXX HWW HT
      rcases hpq with x1|⟨x1,rfl⟩
      · go_upto_region 4 with (fail)
        go_wp2_with fail
        go_quiet (fail)
        go_wp2
        go_ret
        exact ⟨by rw [HV.out];rfl,by repeat (with_reducible first|exact HB1.out|apply pw_below_drewN|apply Below.drew)⟩
      · rw [x1] at t0
        go_upto_region 4 with (fail)
        go_wp2_with fail
        go_quiet (fail)
        go_wp2
        go_ret
        exact ⟨by rw [HV.out];rfl,by repeat (with_reducible first|exact HB1.out|apply pw_below_drewN|apply Below.drew)⟩
end
end Go.Proofs.YtipnlgmeonepfaaGreatDoor.PFa

set_option linter.unusedVariables false
set_option linter.unusedSimpArgs false
namespace Go.Proofs.YtipnlgmeonepfaaGreatDoor.PFa
open Go.RowKit Go.Proofs.YtipnlgmeonepfaaGreatDoorW.PrintWords Go.Proofs.YtipnlgmeonepfaaGreatDoorW.PrintLast Go.Proofs.YtipnlgmeonepfaaGreatDoorW.PrintMore
open Go.Proofs.YtipnlgmeonepfaaGreatDoor.Lx (Kp)
/-- What a group comes to. -/
inductive GR where
  |fine (c:Nat) (x:Fg)
  |bad (j:Nat) (e:Int)
def groupR (ws:List ByteArray) (l:List Tk) (k d i:Nat):GR:=
  if 100≤d then .bad i 6 else match rlist ws l k (d+1) (some ((tkAt l i).f2,i)) (i+1) [] with
    | .bad j e=> .bad j e
    | .fin _=> .bad 0 1
    | .shut c kids=>match badIn l c (dropR l c (tkAt l i).f2 kids) with
      |some q=> .bad (c+1+q) 14
      |none=> .fine (c+dropR l c (tkAt l i).f2 kids+1) ⟨tkAt l i,(tkAt l i).f2,kids⟩
def fgV (x:Fg) (v:Value):Value:=.agg #[.int .i64 x.f0.f0,.int .i64 x.f0.f1,.string x.f0.f2,.int .i64 x.f0.f3,.int .i64 x.f0.f4,.string x.f1,v]
theorem fg_put {W : World} {g : Nat} {t : TypeId} {a b c d e f h a' b' c' d' e' f' h' : Value} (hb : W.heap[g]? = some (.cells #[a, b, c, d, e, f, h] t (0, 0))) :
    (((((((W.setCell ⟨g,0,none⟩ a').setCell ⟨g,1,none⟩ b').setCell ⟨g,2,none⟩ c').setCell ⟨g,3,none⟩ d').setCell ⟨g,4,none⟩ e').setCell ⟨g,5,none⟩ f').setCell ⟨g,6,none⟩ h').heap[g]? =some (.cells #[a',b',c',d',e',f',h'] t (0,0)):=by
  have h7:=blk_set (blk_set (blk_set (blk_set (blk_set (blk_set (blk_set hb 0 a') 1 b') 2 c') 3 d') 4 e') 5 f') 6 h'
  simpa only [List.setIfInBounds_toArray,List.set_cons_zero,List.set_cons_succ] using h7
theorem fg_kp {S : Nat → Prop} {w W : World} {g : Nat} {a' b' c' d' e' f' h' : Value} (hk : Kp S w W) (hg : S g ∨ w.heap.size ≤ g) :
    Kp S w (((((((W.setCell ⟨g,0,none⟩ a').setCell ⟨g,1,none⟩ b').setCell ⟨g,2,none⟩ c').setCell ⟨g,3,none⟩ d').setCell ⟨g,4,none⟩ e').setCell ⟨g,5,none⟩ f').setCell ⟨g,6,none⟩ h'):=
  Kp.setCell (Kp.setCell (Kp.setCell (Kp.setCell (Kp.setCell (Kp.setCell (Kp.setCell hk hg _) hg _) hg _) hg _) hg _) hg _) hg _
theorem fg_cells {w : World} {g : Nat} {a b c d e f h : Value} {t : TypeId} (hb : w.heap[g]? = some (.cells #[a, b, c, d, e, f, h] t (0, 0))) :
    w.cell? ⟨g,0,none⟩=some a∧w.cell? ⟨g,1,none⟩=some b∧w.cell? ⟨g,2,none⟩=some c∧w.cell? ⟨g,3,none⟩=some d∧w.cell? ⟨g,4,none⟩=some e∧w.cell? ⟨g,5,none⟩=some f∧w.cell? ⟨g,6,none⟩=some h:=
  ⟨blk_cell hb 0,blk_cell hb 1,blk_cell hb 2,blk_cell hb 3,blk_cell hb 4,blk_cell hb 5,blk_cell hb 6⟩
theorem fg_frozen {w : World} {g : Nat} {cs : Array Value} {t : TypeId} (hb : w.heap[g]? = some (.cells cs t (0, 0))) :
    w.frozen? ⟨g,0,none⟩=false∧w.frozen? ⟨g,1,none⟩=false∧w.frozen? ⟨g,2,none⟩=false∧w.frozen? ⟨g,3,none⟩=false∧w.frozen? ⟨g,4,none⟩=false∧w.frozen? ⟨g,5,none⟩=false∧w.frozen? ⟨g,6,none⟩=false:=
  ⟨blk_frozen hb 0,blk_frozen hb 1,blk_frozen hb 2,blk_frozen hb 3,blk_frozen hb 4,blk_frozen hb 5,blk_frozen hb 6⟩
section
variable (w:World) (g:Nat) (A0:Option Addr) (c0:Nat) (l:List Tk) (A1:Option Addr) (c1:Nat) (ws:List ByteArray)
/-- The end of list. -/
def ListEnd (d:Nat) (wh:Int) (fr:Option (ByteArray×Nat)) (r:LR) (W:World) (v:Value) (W':World):Prop:=
  ∃out,Kd.R k49 49 W' W.heap.size (fun k=>k≠g) v out∧match r with
    | .shut c o=>out=o∧c<l.length∧RP w g A0 c0 l A1 c1 ws (c+1) d 0 wh W W'
    | .fin o=>out=o∧fr=none∧ ∃a,RP w g A0 c0 l A1 c1 ws a d 0 wh W W'
    | .bad j e=>e≠0∧ ∃a,RP w g A0 c0 l A1 c1 ws a d e (j:Int) W W'
def GroupEnd (d:Nat) (wh:Int) (r:GR) (W:World) (x:Fg) (v:Value) (W':World):Prop:=
  Kd.R k49 49 W' W.heap.size (fun k=>k≠g) v x.f2∧match r with
    | .fine c x0=>x=x0∧c≤l.length∧RP w g A0 c0 l A1 c1 ws c d 0 wh W W'
    | .bad j e=>e≠0∧ ∃a,RP w g A0 c0 l A1 c1 ws a d e (j:Int) W W'
def frO:Option (ByteArray×Nat)→ByteArray
  |none=>⟨#[]⟩
  |some (o,_)=>o
def frI:Option (ByteArray×Nat)→Int
  |none=> -1
  |some (_,a)=>(a:Nat)
def ListOk (k:Nat):Prop:= ∀(d i:Nat) (fr:Option (ByteArray×Nat)) (wh:Int) (W:World),RG w g A0 c0 l A1 c1 ws i d 0 wh W→d≤100→i≤l.length→l.length<k+i→
  Calls Tryz.prog 51 #[.pointer (some ⟨g,0,none⟩),.string (frO fr),.int .i64 (frI fr)] W fun x W'=> ∃v,x=.returned v∧ListEnd w g A0 c0 l A1 c1 ws d wh fr (rlist ws l k d fr i []) W v W'
end
section
variable {w W W':World} {g:Nat} {A0:Option Addr} {c0:Nat} {l:List Tk} {A1:Option Addr} {c1:Nat} {ws:List ByteArray} {at_ op:Nat} {er wh:Int}
theorem RG.kp {S:Nat→Prop} (h:RG w g A0 c0 l A1 c1 ws at_ op er wh W) (hk:Kp S W W') (hg: ¬S g) (hS: ∀k,S k→w.heap.size≤k):RG w g A0 c0 l A1 c1 ws at_ op er wh W':=
  ⟨hk.blk h.blk hg,h.hg,Kp.below h.bel hk hS h.bel.size⟩
theorem kp_wide {S S2:Nat→Prop} {w W W2:World} (h:Kp S w W) (h2:Kp S2 W W2) (hS: ∀k,S2 k→S k∨w.heap.size≤k):Kp S w W2:=
  ⟨h2.os.trans h.os,h2.tape.trans h.tape,h2.output.trans h.output,Nat.le_trans h.size h2.size,fun k hk hn=>(h2.block k (Nat.lt_of_lt_of_le hk h.size) (fun h'=>(hS k h').elim hn (fun hle=>absurd hk (by omega)))).trans (h.block k hk hn)⟩
theorem group_fin {k d i : Nat} {T : Tk} {out : List Fg} {v : Value} {a : Nat} {er wx : Int} (hR : Kd.R k49 49 W' W.heap.size (fun k => k ≠ g) v out) (hrg : RG w g A0 c0 l A1 c1 ws a d er wx W') (hk : Kp (fun k => k = g) W W')
    (ho:(er=0∧wx=wh∧groupR ws l k d i=.fine a ⟨T,T.f2,out⟩∧a≤l.length)∨(er≠0∧ ∃j:Nat,groupR ws l k d i=.bad j er∧wx=(j:Int))):GroupEnd w g A0 c0 l A1 c1 ws d wh (groupR ws l k d i) W ⟨T,T.f2,out⟩ v W':=by
  unfold GroupEnd
  rcases ho with ⟨rfl,rfl,e,hle⟩|⟨he,j,e,rfl⟩
  · rw [e]
    exact ⟨hR,rfl,hle,hrg,hk⟩
  · rw [e]
    exact ⟨hR,he,a,hrg,hk⟩
theorem R_kept {W3 W6 WF:World} {v4 v5:Nat} {v:Value} {out:List Fg} (hR:Kd.R k49 49 W6 W3.heap.size (fun k=>k≠g) v out) (hk:Kp (fun k=>k=g∨k=v4∨k=v5) W6 WF) (h4:v4<W3.heap.size) (h5:v5<W3.heap.size) (hW:W.heap.size≤W3.heap.size):Kd.R k49 49 WF W.heap.size (fun k=>k≠g) v out:=
  Kd.R_lower (Kd.R_mono (Kd.R_move (Kd.R_bound hR) (fun k h=>hk.block k h.2.2.1 (by
    rintro (e|e|e)
    · exact h.1 e
    · have:=h.2.1;omega
    · have:=h.2.1;omega))) (fun _ h=>h.1)) hW
set_option maxHeartbeats 6400000 in
set_option maxRecDepth 100000 in
theorem group_r (HCK : ChecksAll) (HIX : IndexAll) (hsz : ∀ t ∈ l, t.f2.size ≤ 140737488351232) (hC : Kd.C k39 w A0 l.length l) (hl : l.length ≤ 6000) {k : Nat} (HL : ListOk w g A0 c0 l A1 c1 ws k) {d i : Nat} (h : RG w g A0 c0 l A1 c1 ws (i + 1) d 0 wh W) (hd : d ≤ 100) (hi : i < l.length) (hk : l.length < k + (i + 1)) :
    Calls Tryz.prog 87 #[.pointer (some ⟨g,0,none⟩),.int .i64 i] W fun e W'=> ∃x v,e=.returned (fgV x v)∧GroupEnd w g A0 c0 l A1 c1 ws d wh (groupR ws l k d i) W x v W':=by
  have HR:=Lib.hid h
  have HCC:=Lib.hid hC
  have k3:W.cell? ⟨g,3,none⟩=some (.int .i64 d):=blk_cell h.blk 3
  have y3:=al k3
  by_cases hdd:100≤d
  · have x1:decide ((100:Int)≤(d:Int))=true:=decide_eq_true (by omega)
    have x2:decide (100≤d)=true:=decide_eq_true hdd
    have HG:Hid (groupR ws l k d i=.bad i 6):=Lib.hid (by unfold groupR;rw [if_pos hdd])
    have HF:=Lib.hid (fun (X:World) (hb:Below W.heap.size W X)=>fail_r (h.below hb) 6 i)
    have HBL:Hid (Below W.heap.size W (W.alloc (.cells #[.int .i64 0,.int .i64 0,.string ⟨#[]⟩,.int .i64 0,.int .i64 0,.string ⟨#[]⟩,.slice none 0 0] 49 (0,0)))):=Lib.hid (below_alloc (Below.refl _ _) _)
    have HBK:=Lib.hid (blk_new W (.cells #[.int .i64 0,.int .i64 0,.string ⟨#[]⟩,.int .i64 0,.int .i64 0,.string ⟨#[]⟩,.slice none 0 0] 49 (0,0)))
    clear h hC HL HCK HIX hsz
    go_enter Tryz.func87,Tryz.ntmps87
    go_wp2_with fail
    refine (HF.out _ HBL.out).mono ?_
    rintro e W3 ⟨rfl,hr,hkp⟩
    simp only [↓reduceIte] at hr
    have HR3:=Lib.hid hr
    have HK3:=Lib.hid hkp
    have HV3:=Lib.hid (hkp.blk HBK.out (fun e=>absurd (blk_lt HR.out.blk) (by rw [←e];exact Nat.lt_irrefl _)))
    obtain ⟨p0,p1,p2,p3,p4,p5,p6⟩:=fg_cells HV3.out
    obtain ⟨q0,q1,q2,q3,q4,q5,q6⟩:=fg_frozen HV3.out
    clear hr hkp
    go_wp2
    obtain ⟨WF,hWF⟩: ∃WF,(((((((W3.setCell ⟨W.heap.size,0,none⟩ (.int .i64 0)).setCell ⟨W.heap.size,1,none⟩ (.int .i64 0)).setCell ⟨W.heap.size,2,none⟩ (.string ⟨#[]⟩)).setCell ⟨W.heap.size,3,none⟩ (.int .i64 0)).setCell ⟨W.heap.size,4,none⟩ (.int .i64 0)).setCell ⟨W.heap.size,5,none⟩ (.string ⟨#[]⟩)).setCell ⟨W.heap.size,6,none⟩ (.slice none 0 0))=WF:=⟨_,rfl⟩
    rw [hWF]
    have HVF:=Lib.hid (hWF▸fg_put HV3.out:WF.heap[W.heap.size]? =_)
    have HKF:Hid (Kp (fun k=>k=W.heap.size) W3 WF):=Lib.hid (hWF▸fg_kp (Kp.refl _ _) (.inl rfl))
    have HKW:Hid (Kp (fun k=>k=g) W WF):=Lib.hid (hWF▸fg_kp ((Kp.of_below HBL.out _).trans HK3.out) (.inr (Nat.le_refl _)))
    clear hWF p0 p1 p2 p3 p4 p5 p6 q0 q1 q2 q3 q4 q5 q6
    obtain ⟨p0,p1,p2,p3,p4,p5,p6⟩:=fg_cells HVF.out
    refine bodyPost_ret (v:=fgV z49 (.slice none 0 0)) (by simp [results,Tryz.results87,go_sem,p0,p1,p2,p3,p4,p5,p6,fgV,z49,z39]) rfl ⟨z49,.slice none 0 0,rfl, ?_⟩
    unfold GroupEnd
    rw [HG.out]
    have hgne: ¬(g=W.heap.size):=fun e=>absurd (blk_lt HR.out.blk) (by rw [←e];exact Nat.lt_irrefl _)
    refine ⟨Kd.R_nil _ _ _ _ _,by decide,i+1,HR3.out.kp HKF.out hgne (fun k e=> ?_),HKW.out⟩
    rw [show k=W.heap.size from e]
    exact HR.out.bel.size
  · have x1:decide ((100:Int)≤(d:Int))=false:=decide_eq_false (by omega)
    have x2:decide (100≤d)=false:=decide_eq_false hdd
    obtain ⟨ad,had,t0,t1,t2,t3,t4⟩:=at_T39 (Kd.C_below hC h.bel) (i:Int) (by omega) (by omega)
    subst had
    obtain ⟨T,hT⟩: ∃T,rd_T39 l (i:Int)=T:=⟨_,rfl⟩
    have HT:Hid (tkAt l i=T):=Lib.hid hT
    rw [hT] at t0 t1 t2 t3 t4
    simp only [Int.toNat_natCast] at t0 t1 t2 t3 t4
    clear hT
    have k0:W.cell? ⟨g,0,none⟩=some (.slice (some ad) l.length c0):=blk_cell h.blk 0
    have z3:(0:Int)≤(i:Int):=by omega
    have z4:(i:Int)<(l.length:Int):=by omega
    have HBL:Hid (Below W.heap.size W (W.alloc (.cells #[.int .i64 0,.int .i64 0,.string ⟨#[]⟩,.int .i64 0,.int .i64 0,.string ⟨#[]⟩,.slice none 0 0] 49 (0,0)))):=Lib.hid (below_alloc (Below.refl _ _) _)
    have HBK:=Lib.hid (blk_new W (.cells #[.int .i64 0,.int .i64 0,.string ⟨#[]⟩,.int .i64 0,.int .i64 0,.string ⟨#[]⟩,.slice none 0 0] 49 (0,0)))
    have HLL:=Lib.hid HL
    have HDR:Hid (∀(c:Nat) (X:World),RG w g (some ad) c0 l A1 c1 ws (c+1) d 0 wh X→c<l.length→ ∀(o:ByteArray) (Ak:Option Addr) (ck:Nat) (kids:List Fg),Kd.C k49 X Ak kids.length kids→Calls Tryz.prog 111 #[.pointer (some ⟨g,0,none⟩),.string o,.slice Ak kids.length ck] X fun x W'=>x=.returned (.tuple #[])∧DropEnd w g (some ad) c0 l A1 c1 ws c d wh (dropR l c o kids) X W'):=
      Lib.hid (fun c X h hc o Ak ck kids hk=>drop_r HCK HIX hsz h hC hl hc o hk)
    clear h hC HL HCK HIX hsz
    go_enter Tryz.func87,Tryz.ntmps87
    go_upto_region 4 with (fail)
    go_name_world W1 hW1
    have hb1:Below W.heap.size W W1:=hW1▸by repeat (with_reducible first|exact HBL.out|apply pw_below_drewN|apply Below.drew)
    have HV1:Hid (W1.heap[W.heap.size]? =some (.cells #[.int .i64 0,.int .i64 0,.string ⟨#[]⟩,.int .i64 0,.int .i64 0,.string ⟨#[]⟩,.slice none 0 0] 49 (0,0))):=Lib.hid (hW1▸by repeat (with_reducible first|exact HBK.out|apply blk_drewN|apply blk_drew))
    have HB1:=Lib.hid hb1
    replace k0:=pw_cell_below hb1 k0
    replace t0:=pw_cell_below hb1 t0
    replace t1:=pw_cell_below hb1 t1
    replace t2:=pw_cell_below hb1 t2
    replace t3:=pw_cell_below hb1 t3
    replace t4:=pw_cell_below hb1 t4
    have y0:=al k0
    have s0:=al t0
    have s1:=al t1
    have s2:=al t2
    have s3:=al t3
    have s4:=al t4
    clear hb1 hW1 y3 k3
    go_region
    go_upto_region 5 with (fail)
    go_name_world W2 hW2
    have HB2:Hid (Below W.heap.size W W2):=Lib.hid (HB1.out.trans ((hW2▸below_drew (below_alloc (Below.refl W1.heap.size W1) _):Below W1.heap.size W1 W2).mono HB1.out.size))
    have HV4:Hid (W2.heap[W.heap.size]? =some (.cells #[.int .i64 0,.int .i64 0,.string ⟨#[]⟩,.int .i64 0,.int .i64 0,.string ⟨#[]⟩,.slice none 0 0] 49 (0,0))):=Lib.hid (hW2▸blk_drew (blk_alloc HV1.out _))
    have HV5:Hid (W2.heap[W1.heap.size]? =some (.cells #[.int .i64 T.f0,.int .i64 T.f1,.string T.f2,.int .i64 T.f3,.int .i64 T.f4,.string T.f2,.slice none 0 0] 49 (0,0))):=Lib.hid (hW2▸blk_drew (blk_new W1 _))
    have H45:Hid (W.heap.size<W1.heap.size):=Lib.hid (blk_lt HV1.out)
    clear hW2 y0 s0 s1 s2 s3 s4 k0 t0 t1 t2 t3 t4 HBL HBK HV1 HB1
    obtain ⟨v4,hv4⟩: ∃v,W.heap.size=v:=⟨_,rfl⟩
    obtain ⟨v5,hv5⟩: ∃v,W1.heap.size=v:=⟨_,rfl⟩
    have HS4:=Lib.hid hv4
    rw [hv5] at HV5 H45
    rw [hv4] at HV4 H45
    simp only [hv4,hv5]
    clear hv4 hv5
    have HR2:Hid (RG w g (some ad) c0 l A1 c1 ws (i+1) d 0 wh W2):=Lib.hid (HR.out.below HB2.out)
    have hg4:Hid (g<v4):=Lib.hid (by rw [←HS4.out];exact blk_lt HR.out.blk)
    have HN4:Hid (v4≠g):=Lib.hid (by have:=hg4.out;omega)
    have HN5:Hid (v5≠g):=Lib.hid (by have:=hg4.out;have:=H45.out;omega)
    have k3:W2.cell? ⟨g,3,none⟩=some (.int .i64 d):=blk_cell HR2.out.blk 3
    have f3:W2.frozen? ⟨g,3,none⟩=false:=blk_frozen HR2.out.blk 3
    have yd:IntKind.i64.wrap ((d:Int)+1)=((d+1:Nat):Int):=by rw [IntWalk.i64_in _ (by omega)];omega
    go_upto_region 6 with (fail)
    go_name_world W3 hW3
    have HR3:Hid (RG w g (some ad) c0 l A1 c1 ws (i+1) (d+1) 0 wh W3):=Lib.hid (hW3▸⟨blk_put HR2.out.blk 3 _ rfl,HR2.out.hg,HR2.out.bel.setCell HR2.out.hg _⟩)
    have HK23:Hid (Kp (fun k=>k=g) W2 W3):=Lib.hid (hW3▸Kp.one W2 g 3 _)
    have HC3:=HLL.out (d+1) (i+1) (some (T.f2,i)) wh W3 HR3.out (by omega) (by omega) hk
    have HCL:=Lib.hid HC3
    simp only [frO,frI] at HCL
    have q5:W3.cell? ⟨v5,5,none⟩=some (.string T.f2):=HK23.out.cell (blk_cell HV5.out 5) HN5.out
    clear hW3 HC3 k3 f3 HLL
    go_wp2_with fail
    refine HCL.out.mono ?_
    rintro e W6 ⟨v,rfl,out,hR6,hE⟩
    have HR6:=Lib.hid hR6
    obtain ⟨Ak,ck,rfl⟩:=Kd.R_slice hR6
    obtain ⟨r,hr⟩: ∃r,rlist ws l k (d+1) (some (T.f2,i)) (i+1) []=r:=⟨_,rfl⟩
    rw [hr] at hE
    have HRR:=Lib.hid hr
    have HX: ∃(a:Nat) (er wx:Int),RP w g (some ad) c0 l A1 c1 ws a (d+1) er wx W3 W6∧((er=0∧wx=wh∧ ∃c,r=.shut c out∧a=c+1∧c<l.length)∨(er≠0∧ ∃j:Nat,r=.bad j er∧wx=(j:Int))):=by
      cases r with
      |shut c o=>exact ⟨c+1,0,wh,hE.2.2,.inl ⟨rfl,rfl,c,by rw [hE.1],rfl,hE.2.1⟩⟩
      |fin o=>exact absurd hE.2.1 (by simp)
      |bad j e=>exact ⟨_,e,_,hE.2.choose_spec,.inr ⟨hE.1,j,rfl,rfl⟩⟩
    clear hE hr hR6 HCL
    obtain ⟨a,er,wx,⟨hrg,hkp⟩,HOR⟩:=HX
    have HRG6:=Lib.hid hrg
    have HK26:=Lib.hid (HK23.out.trans hkp)
    have HORR:=Lib.hid HOR
    have HV56:=Lib.hid (HK26.out.blk HV5.out HN5.out)
    have HV46:=Lib.hid (HK26.out.blk HV4.out HN4.out)
    have q6:W6.cell? ⟨v5,6,none⟩=some (.slice none 0 0):=blk_cell HV56.out 6
    have q6':W6.frozen? ⟨v5,6,none⟩=false:=blk_frozen HV56.out 6
    clear hrg hkp HOR q5
    go_upto_region 7 with (fail)
    go_name_world W7 hW7
    have HV57:Hid (W7.heap[v5]? =some (.cells #[.int .i64 T.f0,.int .i64 T.f1,.string T.f2,.int .i64 T.f3,.int .i64 T.f4,.string T.f2,.slice Ak out.length ck] 49 (0,0))):=Lib.hid (hW7▸blk_put HV56.out 6 _ rfl)
    have HK67:Hid (Kp (fun k=>k=v5) W6 W7):=Lib.hid (hW7▸Kp.one W6 v5 6 _)
    have HB45:Hid (w.heap.size≤v4):=Lib.hid (HS4.out▸HR.out.bel.size)
    have HRG7:=Lib.hid (HRG6.out.kp HK67.out (fun e=>HN5.out e.symm) (fun k (e:k=v5)=>by have:=HB45.out;have:=H45.out;omega))
    have k3:W7.cell? ⟨g,3,none⟩=some (.int .i64 (d+1:Nat)):=blk_cell HRG7.out.blk 3
    have f3:W7.frozen? ⟨g,3,none⟩=false:=blk_frozen HRG7.out.blk 3
    have yd2:IntKind.i64.wrap (((d+1:Nat):Int)-1)=(d:Int):=by rw [IntWalk.i64_in _ (by omega)];omega
    clear hW7 q6 q6' yd
    go_upto_region 8 with (fail)
    go_name_world W8 hW8
    have HK78:Hid (Kp (fun k=>k=g) W7 W8):=Lib.hid (hW8▸Kp.one W7 g 3 _)
    have HRG8:Hid (RG w g (some ad) c0 l A1 c1 ws a d er wx W8):=Lib.hid (hW8▸⟨blk_put HRG7.out.blk 3 _ rfl,HRG7.out.hg,HRG7.out.bel.setCell HRG7.out.hg _⟩)
    have HV58:=Lib.hid (HK78.out.blk HV57.out HN5.out)
    have k4:W8.cell? ⟨g,4,none⟩=some (.int .i64 er):=blk_cell HRG8.out.blk 4
    clear hW8 k3 f3 yd2
    have HL5:Hid (v5<W3.heap.size):=Lib.hid (blk_lt (HK23.out.blk HV5.out HN5.out))
    have HL4:Hid (v4<W3.heap.size):=Lib.hid (blk_lt (HK23.out.blk HV4.out HN4.out))
    have HLW:Hid (W.heap.size≤W3.heap.size):=Lib.hid (Nat.le_trans HB2.out.size HK23.out.size)
    have HK68:Hid (Kp (fun k=>k=g∨k=v4∨k=v5) W6 W8):=Lib.hid (kp_wide (kp_wide (Kp.refl _ _) HK67.out (fun k e=> .inl (.inr (.inr e)))) HK78.out (fun k e=> .inl (.inl e)))
    have HKW8:Hid (Kp (fun k=>k=g) W W8):=Lib.hid (kp_wide (kp_wide (kp_wide (Kp.of_below HB2.out _) HK26.out (fun k e=> .inl e)) HK67.out (fun k (e:k=v5)=> .inr (by rw [e,HS4.out];exact Nat.le_of_lt H45.out))) HK78.out (fun k e=> .inl e))
    have HV48:=Lib.hid (HK78.out.blk (HK67.out.blk HV46.out (fun e=>absurd H45.out (by rw [show v4=v5 from e];exact Nat.lt_irrefl _))) HN4.out)
    have HGR:Hid (∀r',r=r'→groupR ws l k d i=match r' with
      | .bad j e=> .bad j e
      | .fin _=> .bad 0 1
      | .shut c kids=>match badIn l c (dropR l c T.f2 kids) with
        |some q=> .bad (c+1+q) 14
        |none=> .fine (c+dropR l c T.f2 kids+1) ⟨T,T.f2,kids⟩):=Lib.hid (by
      intro r' e
      unfold groupR
      rw [if_neg hdd,HT.out,HRR.out,e])
    rcases HORR.out with ⟨rfl,hwx,c,hrc,rfl,hc⟩|⟨her,j,hrj,rfl⟩
    · have hwx':=hwx.symm
      subst hwx'
      clear hwx
      have HGC:=Lib.hid (HGR.out _ hrc)
      have HCC8:Hid (Kd.C k49 W8 Ak out.length out):=Lib.hid (by
        obtain ⟨A',c',e,_,h⟩:=Kd.R_reads (R_kept (W:=W3) HR6.out HK68.out HL4.out HL5.out (Nat.le_refl _))
        injection e with e1 e2 e3
        rw [e1]
        exact h)
      have HDC:=Lib.hid (HDR.out c W8 HRG8.out hc T.f2 Ak ck out HCC8.out)
      have HLC:=Lib.hid (dropR_lt hc T.f2 out)
      obtain ⟨p0,p1,p2,p3,p4,p5,p6⟩:=fg_cells HV58.out
      clear HGR HDR HORR HRR hrc
      go_wp2_with fail
      refine HDC.out.mono ?_
      rintro e W9 ⟨rfl,hD⟩
      have HX: ∃(a:Nat) (er wx:Int),RP w g (some ad) c0 l A1 c1 ws a d er wx W8 W9∧((er=0∧wx=wh∧groupR ws l k d i=.fine a ⟨T,T.f2,out⟩∧a≤l.length)∨(er≠0∧ ∃j:Nat,groupR ws l k d i=.bad j er∧wx=(j:Int))):=by
        unfold DropEnd at hD
        have hG:=HGC.out
        have hlc:=HLC.out
        cases hb:badIn l c (dropR l c T.f2 out) with
        |none=>
          rw [hb] at hD
          simp only [hb] at hG
          refine ⟨_,0,wh,hD,.inl ⟨rfl,rfl, ?_,by omega⟩⟩
          rw [hG,show c+dropR l c T.f2 out+1=c+1+dropR l c T.f2 out from by omega]
        |some q=>
          rw [hb] at hD
          simp only [hb] at hG
          exact ⟨_,14,_,hD.choose_spec,.inr ⟨by decide,c+1+q,hG,rfl⟩⟩
      clear hD HGC HDC HLC
      obtain ⟨a9,er9,wx9,⟨hrg,hkp⟩,ho9⟩:=HX
      have HRG9:=Lib.hid hrg
      have HK69:Hid (Kp (fun k=>k=g∨k=v4∨k=v5) W6 W9):=Lib.hid (kp_wide HK68.out hkp (fun k e=> .inl (.inl e)))
      have HKW9:Hid (Kp (fun k=>k=g) W W9):=Lib.hid (HKW8.out.trans hkp)
      have HO9:=Lib.hid ho9
      have HV59:=Lib.hid (hkp.blk HV58.out HN5.out)
      have HV49:=Lib.hid (hkp.blk HV48.out HN4.out)
      clear hrg hkp ho9 p0 p1 p2 p3 p4 p5 p6 k4
      obtain ⟨p0,p1,p2,p3,p4,p5,p6⟩:=fg_cells HV59.out
      obtain ⟨r0,r1,r2,r3,r4,r5,r6⟩:=fg_cells HV49.out
      obtain ⟨q0,q1,q2,q3,q4,q5,q6⟩:=fg_frozen HV49.out
      go_wp2
      obtain ⟨WF,hWF⟩: ∃WF,(((((((W9.setCell ⟨v4,0,none⟩ (.int .i64 T.f0)).setCell ⟨v4,1,none⟩ (.int .i64 T.f1)).setCell ⟨v4,2,none⟩ (.string T.f2)).setCell ⟨v4,3,none⟩ (.int .i64 T.f3)).setCell ⟨v4,4,none⟩ (.int .i64 T.f4)).setCell ⟨v4,5,none⟩ (.string T.f2)).setCell ⟨v4,6,none⟩ (.slice Ak out.length ck))=WF:=⟨_,rfl⟩
      rw [hWF]
      have HVF:=Lib.hid (hWF▸fg_put HV49.out:WF.heap[v4]? =_)
      have HKF:Hid (Kp (fun k=>k=v4) W9 WF):=Lib.hid (hWF▸fg_kp (Kp.refl _ _) (.inl rfl))
      clear hWF p0 p1 p2 p3 p4 p5 p6 q0 q1 q2 q3 q4 q5 q6 r0 r1 r2 r3 r4 r5 r6
      obtain ⟨p0,p1,p2,p3,p4,p5,p6⟩:=fg_cells HVF.out
      refine bodyPost_ret (v:=fgV ⟨T,T.f2,out⟩ (.slice Ak out.length ck)) (by simp [results,Tryz.results87,go_sem,p0,p1,p2,p3,p4,p5,p6,fgV]) rfl ⟨⟨T,T.f2,out⟩,.slice Ak out.length ck,rfl, ?_⟩
      refine group_fin (R_kept HR6.out (kp_wide (S:=fun k=>k=g∨k=v4∨k=v5) HK69.out HKF.out (fun k e=> .inl (.inr (.inl e)))) HL4.out HL5.out HLW.out) (HRG9.out.kp HKF.out (fun e=>HN4.out e.symm) (fun k (e:k=v4)=>by rw [e];exact HB45.out)) (kp_wide HKW9.out HKF.out (fun k (e:k=v4)=> .inr (by rw [e,←HS4.out];exact Nat.le_refl _))) HO9.out
    · have HO9:Hid ((er=0∧(j:Int)=wh∧groupR ws l k d i=.fine a ⟨T,T.f2,out⟩∧a≤l.length)∨(er≠0∧ ∃j':Nat,groupR ws l k d i=.bad j' er∧(j:Int)=(j':Int))):=Lib.hid (.inr ⟨her,j,HGR.out _ hrj,rfl⟩)
      have x5:(er==0)=false:=beq_false_of_ne her
      have HRG9:=HRG8
      have HK69:=HK68
      have HKW9:=HKW8
      have HV49:=HV48
      clear HGR HDR HORR HRR hrj her
      obtain ⟨p0,p1,p2,p3,p4,p5,p6⟩:=fg_cells HV58.out
      obtain ⟨r0,r1,r2,r3,r4,r5,r6⟩:=fg_cells HV48.out
      obtain ⟨q0,q1,q2,q3,q4,q5,q6⟩:=fg_frozen HV48.out
      go_wp2
      obtain ⟨WF,hWF⟩: ∃WF,(((((((W8.setCell ⟨v4,0,none⟩ (.int .i64 T.f0)).setCell ⟨v4,1,none⟩ (.int .i64 T.f1)).setCell ⟨v4,2,none⟩ (.string T.f2)).setCell ⟨v4,3,none⟩ (.int .i64 T.f3)).setCell ⟨v4,4,none⟩ (.int .i64 T.f4)).setCell ⟨v4,5,none⟩ (.string T.f2)).setCell ⟨v4,6,none⟩ (.slice Ak out.length ck))=WF:=⟨_,rfl⟩
      rw [hWF]
      have HVF:=Lib.hid (hWF▸fg_put HV49.out:WF.heap[v4]? =_)
      have HKF:Hid (Kp (fun k=>k=v4) W8 WF):=Lib.hid (hWF▸fg_kp (Kp.refl _ _) (.inl rfl))
      clear hWF p0 p1 p2 p3 p4 p5 p6 q0 q1 q2 q3 q4 q5 q6 r0 r1 r2 r3 r4 r5 r6
      obtain ⟨p0,p1,p2,p3,p4,p5,p6⟩:=fg_cells HVF.out
      refine bodyPost_ret (v:=fgV ⟨T,T.f2,out⟩ (.slice Ak out.length ck)) (by simp [results,Tryz.results87,go_sem,p0,p1,p2,p3,p4,p5,p6,fgV]) rfl ⟨⟨T,T.f2,out⟩,.slice Ak out.length ck,rfl, ?_⟩
      refine group_fin (R_kept HR6.out (kp_wide (S:=fun k=>k=g∨k=v4∨k=v5) HK69.out HKF.out (fun k e=> .inl (.inr (.inl e)))) HL4.out HL5.out HLW.out) (HRG9.out.kp HKF.out (fun e=>HN4.out e.symm) (fun k (e:k=v4)=>by rw [e];exact HB45.out)) (kp_wide HKW9.out HKF.out (fun k (e:k=v4)=> .inr (by rw [e,←HS4.out];exact Nat.le_refl _))) HO9.out
end
end Go.Proofs.YtipnlgmeonepfaaGreatDoor.PFa

set_option linter.unusedVariables false
set_option linter.unusedSimpArgs false
namespace Go.Proofs.YtipnlgmeonepfaaGreatDoor.PFa
open Go.RowKit Go.Proofs.YtipnlgmeonepfaaGreatDoorW.PrintWords Go.Proofs.YtipnlgmeonepfaaGreatDoorW.PrintLast Go.Proofs.YtipnlgmeonepfaaGreatDoorW.PrintMore
open Go.Proofs.YtipnlgmeonepfaaGreatDoor.Lx (Kp)
section
variable {w W W':World} {g:Nat} {A0:Option Addr} {c0:Nat} {l:List Tk} {A1:Option Addr} {c1:Nat} {ws:List ByteArray} {at_ op:Nat} {er wh:Int}
theorem rlist_some: ∀(k d i:Nat) (out:List Fg) {p:ByteArray×Nat} {o:List Fg},rlist ws l k d (some p) i out≠ .fin o:=by
  intro k
  induction k with
  |zero=>intro d i out p o;unfold rlist;simp
  |succ k ih=>
    intro d i out p o
    rw [rlist.eq_def]
    dsimp only
    split
    · split
      · split
        · split<;>simp
        · split
          · split
            · simp
            · split
              · simp
              · rename_i h
                exact absurd h (ih _ _ _)
              · split
                · simp
                · exact ih _ _ _
          · exact ih _ _ _
      · simp
    · simp
theorem rlist_ge: ∀(k d i:Nat) (out:List Fg) {fr:Option (ByteArray×Nat)} {c:Nat} {o:List Fg},rlist ws l k d fr i out=.shut c o→i≤c:=by
  intro k
  induction k with
  |zero=>intro d i out fr c o h;unfold rlist at h;cases fr<;>simp at h
  |succ k ih=>
    intro d i out fr c o h
    rw [rlist.eq_def] at h
    dsimp only at h
    split at h
    · split at h
      · split at h
        · cases fr with
          |none=>simp at h
          |some p=>
            dsimp only at h
            split at h
            · injection h with h
              omega
            · simp at h
        · split at h
          · split at h
            · simp at h
            · split at h
              · simp at h
              · simp at h
              · rename_i hq
                have h1:=ih _ _ _ hq
                split at h
                · simp at h
                · have:=ih _ _ _ h
                  omega
          · have:=ih _ _ _ h
            omega
      · simp at h
    · cases fr<;>simp at h
theorem groupR_gt {k d i a:Nat} {x:Fg} (h:groupR ws l k d i=.fine a x):i+1≤a:=by
  unfold groupR at h
  split at h
  · simp at h
  · split at h
    · simp at h
    · simp at h
    · rename_i hq
      have h1:=rlist_ge _ _ _ _ hq
      split at h
      · simp at h
      · injection h with h
        omega
def shutR (fr:Option (ByteArray×Nat)) (t:Tk) (i:Nat) (out:List Fg):LR:=match fr with
  |none=> .bad i 20
  |some (op,_)=>if fitsR t op=true then .shut i out else .bad i 20
def contR (ws:List ByteArray) (l:List Tk) (k d:Nat) (fr:Option (ByteArray×Nat)) (out:List Fg):GR→LR
  | .bad j e=> .bad j e
  | .fine c x=>rlist ws l k d fr c (out++[x])
/-- One round of the reference's list. -/
theorem rlist_step {k d i : Nat} {fr : Option (ByteArray × Nat)} {out : List Fg} (hi : i < l.length) (hg : Pure.good (tkAt l i) = true) :
    rlist ws l (k+1) d fr i out=if closesR (tkAt l i)=true then shutR fr (tkAt l i) i out
    else if opensR ws l i (plainR fr out)=true then contR ws l k d fr out (groupR ws l k d i)
    else rlist ws l k d fr (i+1) (out++[⟨tkAt l i,⟨#[]⟩,[]⟩]):=by
  rw [rlist.eq_def]
  dsimp only
  rw [if_pos hi,if_pos hg]
  by_cases hc:closesR (tkAt l i)=true
  · rw [if_pos hc,if_pos hc]
    cases fr<;>rfl
  · rw [if_neg hc,if_neg hc]
    by_cases ho:opensR ws l i (plainR fr out)=true
    · rw [if_pos ho,if_pos ho]
      unfold groupR
      by_cases hd:100≤d
      · rw [if_pos hd,if_pos hd]
        rfl
      · rw [if_neg hd,if_neg hd]
        cases hr:rlist ws l k (d+1) (some ((tkAt l i).f2,i)) (i+1) [] with
        |shut c kids=>
          dsimp only
          cases badIn l c (dropR l c (tkAt l i).f2 kids)<;>rfl
        |fin o=>exact (rlist_some _ _ _ _ hr).elim
        |bad j e=>rfl
    · rw [if_neg ho,if_neg ho]
theorem rlist_bad {k d i:Nat} {fr:Option (ByteArray×Nat)} {out:List Fg} (hi:i<l.length) (hg:Pure.good (tkAt l i)=false):rlist ws l (k+1) d fr i out=.bad i 14:=by
  unfold rlist
  rw [if_pos hi,if_neg (by rw [hg];decide)]
theorem rlist_end {k d i : Nat} {fr : Option (ByteArray × Nat)} {out : List Fg} (hi : ¬ i < l.length) : rlist ws l k d fr i out = match fr with
    |none=> .fin out
    |some (_,a)=> .bad a 21:=by
  cases k with
  |zero=>unfold rlist;cases fr<;>rfl
  |succ k=>unfold rlist;rw [if_neg hi]<;>cases fr<;>rfl
theorem R_kp1 {X:World} {v:Value} {out:List Fg} (hR:Kd.R k49 49 W' W.heap.size (fun k=>k≠g) v out) (hk:Kp (fun k=>k=g) W' X):Kd.R k49 49 X W.heap.size (fun k=>k≠g) v out:=
  Kd.R_mono (Kd.R_move (Kd.R_bound hR) (fun k h=>hk.block k h.2.2.1 h.1)) (fun _ h=>h.1)
/-- What a row's growth leaves. -/
theorem grown_kp {X w1:World} {v:Value} {out:List Fg} (hk:Kp (fun k=>k=g) W X) (hR:Kd.R k49 49 X W.heap.size (fun k=>k≠g) v out) (hg:X.grownBy w1 v.ownBlock):Kp (fun k=>k=g) W w1:=
  kp_wide hk (Kp.grown (S:=fun k=>v.ownBlock=some k) (Kp.refl _ _) hg (fun k e=>e)) (fun k e=> .inr (Kd.R_base hR k e))
theorem RG.grown {X w1:World} {v:Value} {out:List Fg} (h:RG w g A0 c0 l A1 c1 ws at_ op er wh X) (hw:w.heap.size≤W.heap.size) (hR:Kd.R k49 49 X W.heap.size (fun k=>k≠g) v out) (hg:X.grownBy w1 v.ownBlock):RG w g A0 c0 l A1 c1 ws at_ op er wh w1:=
  h.kp (Kp.grown (S:=fun k=>v.ownBlock=some k) (Kp.refl _ _) hg (fun k e=>e)) (fun e=>hR.1 g e rfl) (fun k e=>Nat.le_trans hw (Kd.R_base hR k e))
set_option maxHeartbeats 12800000 in
set_option maxRecDepth 100000 in
theorem list_r (HCK:ChecksAll) (HIX:IndexAll) (hsz: ∀t∈l,t.f2.size≤140737488351232) (hC:Kd.C k39 w A0 l.length l) (hW:Kd.C Kd.string w A1 ws.length ws) (hws:ws.length≤40) (hl:l.length≤6000): ∀k,ListOk w g A0 c0 l A1 c1 ws k:=by
  intro K
  induction K using Nat.strongRecOn with
  |ind K ih=>
  intro d i0 fr wh W h hd hi0 hK
  have HR:=Lib.hid h
  have HGRP:Hid (∀(k':Nat),k'<K→ ∀(i:Nat) (X:World),RG w g A0 c0 l A1 c1 ws (i+1) d 0 wh X→i<l.length→l.length<k'+(i+1)→Calls Tryz.prog 87 #[.pointer (some ⟨g,0,none⟩),.int .i64 i] X fun e W'=> ∃x v,e=.returned (fgV x v)∧GroupEnd w g A0 c0 l A1 c1 ws d wh (groupR ws l k' d i) X x v W'):=
    Lib.hid (fun k' hk' i X h hi hk=>group_r HCK HIX hsz hC hl (ih k' hk') h hd hi hk)
  have HCHK:Hid (∀(i:Nat) (X:World),RG w g A0 c0 l A1 c1 ws i d 0 wh X→i<l.length→Calls Tryz.prog 82 #[.pointer (some ⟨g,0,none⟩),.int .i64 i] X fun x W'=>x=.returned (.tuple #[])∧(if Pure.good (tkAt l i)=true then RP w g A0 c0 l A1 c1 ws i d 0 wh X W' else RP w g A0 c0 l A1 c1 ws i d 14 i X W')):=
    Lib.hid (fun i X h hi=>check_r HCK hsz h hC hl i hi)
  have HOPN:Hid (∀(i:Nat) (X:World),RG w g A0 c0 l A1 c1 ws (i+1) d 0 wh X→i<l.length→ ∀p:Bool,Calls Tryz.prog 86 #[.pointer (some ⟨g,0,none⟩),.int .i64 i,.bool p] X fun x W'=>x=.returned (.bool (opensR ws l i p))∧Below X.heap.size X W'):=
    Lib.hid (fun i X h hi p=>opens_r HIX h hC hW hws hl i hi p)
  have HTK:Hid (∀(i:Nat) (X:World),Below w.heap.size w X→i<l.length→ ∃ad,A0=some ad∧X.cell? (ad.add (i*5))=some (.int .i64 (tkAt l i).f0)∧X.cell? ⟨(ad.add (i*5)).block,(ad.add (i*5)).off+1,none⟩=some (.int .i64 (tkAt l i).f1)∧X.cell? ⟨(ad.add (i*5)).block,(ad.add (i*5)).off+2,none⟩=some (.string (tkAt l i).f2)∧X.cell? ⟨(ad.add (i*5)).block,(ad.add (i*5)).off+3,none⟩=some (.int .i64 (tkAt l i).f3)∧X.cell? ⟨(ad.add (i*5)).block,(ad.add (i*5)).off+4,none⟩=some (.int .i64 (tkAt l i).f4)):=Lib.hid (fun i X hb hi=>by
    obtain ⟨ad,had,t0,t1,t2,t3,t4⟩:=at_T39 (Kd.C_below hC hb) (i:Int) (by omega) (by omega)
    simp only [Int.toNat_natCast] at t0 t1 t2 t3 t4
    exact ⟨ad,had,t0,t1,t2,t3,t4⟩)
  obtain ⟨o,ho⟩: ∃o,frO fr=o:=⟨_,rfl⟩
  obtain ⟨fm,hfm⟩: ∃m,frI fr=m:=⟨_,rfl⟩
  obtain ⟨fb,hfb⟩: ∃b,decide (fm<0)=b:=⟨_,rfl⟩
  have hfr:(fb=true∧fr=none)∨(fb=false∧ ∃a:Nat,fr=some (o,a)∧fm=(a:Int)):=by
    cases fr with
    |none=>exact .inl ⟨by rw [←hfb,←hfm];rfl,rfl⟩
    |some q=>exact .inr ⟨by rw [←hfb,←hfm];exact decide_eq_false (by show¬((q.2:Nat):Int)<0;omega),q.2,by rw [←ho];rfl,by rw [←hfm];rfl⟩
  have HFR:=Lib.hid hfr
  have hfg:decide ((0:Int)≤fm)= !fb:=by rw [←hfb];by_cases h:fm<0<;>simp [h]<;>omega
  have HFLM:Hid (∀(a:Nat) (er wx:Int) (X:World),RG w g A0 c0 l A1 c1 ws a d er wx X→ ∀(e i:Int),Calls Tryz.prog 85 #[.pointer (some ⟨g,0,none⟩),.int .i64 e,.int .i64 i] X fun x W'=>x=.returned (.tuple #[])∧RP w g A0 c0 l A1 c1 ws a d (if er=0 then e else er) (if er=0 then i else wx) X W'):=
    Lib.hid (fun a er wx X h e i=>fail_r h e i)
  rw [ho,hfm]
  obtain ⟨LR0,hLR0⟩: ∃r,rlist ws l K d fr i0 []=r:=⟨_,rfl⟩
  rw [hLR0]
  have HLR:=Lib.hid hLR0
  have HK:=Lib.hid hK
  have HI0:=Lib.hid hi0
  have hww:w.heap.size≤W.heap.size:=h.bel.size
  clear h ih HCK HIX hsz hC hW hws ho hfm hfr hLR0 hK hi0
  go_enter Tryz.func51,Tryz.ntmps51
  go_wp2_with fail
  go_loopg [7] (K+1) (fun kq v7 wr=> ∃out,Hid (Kd.R k49 49 wr W.heap.size (fun k=>k≠g) v7 out)∧ ∃(i:Nat) (er wx:Int),Hid (RG w g A0 c0 l A1 c1 ws i d er wx wr)∧Hid (Kp (fun k=>k=g) W wr)∧Hid ((er=0∧wx=wh∧ ∃k',k'+1≤kq∧i≤l.length∧l.length<k'+i∧k'≤K∧out.length≤i∧LR0=rlist ws l k' d fr i out)∨(er≠0∧ ∃j:Nat,LR0=.bad j er∧wx=(j:Int))))
  case atStart=>
    exact ⟨[],Lib.hid (Kd.R_nil _ _ _ _ _),i0,0,wh,HR,Lib.hid (Kp.refl _ _),Lib.hid (.inl ⟨rfl,rfl,K,Nat.le_refl _,HI0.out,HK.out,Nat.le_refl _,Nat.zero_le _,HLR.out.symm⟩)⟩
  case round=>
    obtain ⟨out,HO,i,er,wx,HRi,HKi,HOR⟩:=hrel
    clear HI0 HK HLR HR
    obtain ⟨Av,cv,rfl⟩:=Kd.R_slice HO.out
    have k4:wr.cell? ⟨g,4,none⟩=some (.int .i64 er):=blk_cell HRi.out.blk 4
    have k2:wr.cell? ⟨g,2,none⟩=some (.int .i64 i):=blk_cell HRi.out.blk 2
    have k0:wr.cell? ⟨g,0,none⟩=some (.slice A0 l.length c0):=blk_cell HRi.out.blk 0
    rcases HOR.out with ⟨rfl,hwx,k',hkq,hil,hk',hkK,hol,heq⟩|⟨her,j,heq,rfl⟩
    · have hwx':=hwx.symm
      subst hwx'
      have HEQ:=Lib.hid heq
      have HKQ:=Lib.hid hkq
      have HKK:=Lib.hid hkK
      clear hwx HOR heq hkq hkK
      by_cases hlt:i<l.length
      · have x1:decide ((i:Int)<(l.length:Int))=true:=decide_eq_true (by omega)
        have x2:decide (i<l.length)=true:=decide_eq_true hlt
        obtain ⟨k,rfl⟩: ∃k,k'=k+1:=⟨k'-1,by omega⟩
        obtain ⟨ad,had,t0,t1,t2,t3,t4⟩:=HTK.out i wr HRi.out.bel hlt
        subst had
        have z3:(0:Int)≤(i:Int):=by omega
        have z4:(i:Int)<(l.length:Int):=by omega
        obtain ⟨T,hT⟩: ∃T,tkAt l i=T:=⟨_,rfl⟩
        have HT:=Lib.hid hT
        rw [hT] at t0 t1 t2 t3 t4
        clear hT
        go_upto_region 2 with (fail)
        go_quiet (fail)
        go_upto_region 4 with (fail)
        go_name_world W0 hW0
        have hb0:Below wr.heap.size wr W0:=hW0▸by repeat (with_reducible first|exact Below.refl _ _|apply pw_below_drewN|apply Below.drew)
        have HB0:=Lib.hid hb0
        replace k0:=pw_cell_below hb0 k0
        replace t0:=pw_cell_below hb0 t0
        replace t1:=pw_cell_below hb0 t1
        replace t2:=pw_cell_below hb0 t2
        replace t3:=pw_cell_below hb0 t3
        replace t4:=pw_cell_below hb0 t4
        clear hW0 hb0 k2 k4
        have y0:=al k0
        have s0:=al t0
        have s1:=al t1
        have s2:=al t2
        have s3:=al t3
        have s4:=al t4
        go_upto_region 5 with (fail)
        go_name_world W1 hW1
        have HV1:Hid (W1.heap[W0.heap.size]? =some (.cells #[.int .i64 T.f0,.int .i64 T.f1,.string T.f2,.int .i64 T.f3,.int .i64 T.f4] 39 (0,0))):=Lib.hid (hW1▸blk_new W0 _)
        have HB1:Hid (Below wr.heap.size wr W1):=Lib.hid (HB0.out.trans ((hW1▸below_alloc (Below.refl W0.heap.size W0) _:Below W0.heap.size W0 W1).mono HB0.out.size))
        have HN9:Hid (W0.heap.size≠g):=Lib.hid (by have:=blk_lt HRi.out.blk;have:=HB0.out.size;omega)
        obtain ⟨v9,hv9⟩: ∃v,W0.heap.size=v:=⟨_,rfl⟩
        rw [hv9] at HV1 HN9
        simp only [hv9]
        have HRG1:=Lib.hid (HRi.out.below HB1.out)
        have HKW1:=Lib.hid (HKi.out.below_ HB1.out)
        have HO1:=Lib.hid (Kd.R_below HO.out HB1.out)
        have HC:=Lib.hid (HCHK.out i W1 HRG1.out hlt)
        have HST:Hid (∀gb,Pure.good T=gb→LR0=if gb=true then (if closesR T=true then shutR fr T i out
          else if opensR ws l i (plainR fr out)=true then contR ws l k d fr out (groupR ws l k d i)
          else rlist ws l k d fr (i+1) (out++[⟨T,⟨#[]⟩,[]⟩])) else .bad i 14):=Lib.hid (by
          intro gb hgb
          cases gb with
          |true=>rw [HEQ.out,rlist_step hlt (by rw [HT.out];exact hgb),HT.out,if_pos rfl]
          |false=>rw [HEQ.out,rlist_bad hlt (by rw [HT.out];exact hgb),if_neg Bool.false_ne_true])
        clear hv9 hW1 HB0 y0 s0 s1 s2 s3 s4 t0 t1 t2 t3 t4 k0 HRi HKi HO HEQ HTK HCHK HB1
        go_wp2_with fail
        refine HC.out.mono ?_
        rintro e W2 ⟨rfl,hp⟩
        rw [HT.out] at hp
        cases hg:Pure.good T with
        |false=>
          rw [hg,if_neg Bool.false_ne_true] at hp
          have HE:=Lib.hid (HST.out _ hg)
          have HP:=Lib.hid hp
          have k4:W2.cell? ⟨g,4,none⟩=some (.int .i64 14):=blk_cell hp.1.blk 4
          clear hg hp HST
          go_wp2
          go_ret
          refine ⟨_,rfl, ?_⟩
          rw [HE.out]
          exact ⟨out,R_kp1 HO1.out HP.out.2,by decide,i,HP.out.1,HKW1.out.trans HP.out.2⟩
        |true=>
          rw [hg,if_pos rfl] at hp
          have HS2:=Lib.hid ((HST.out _ hg).trans (if_pos rfl))
          have HRG2:=Lib.hid hp.1
          have HK12:=Lib.hid hp.2
          have k4:W2.cell? ⟨g,4,none⟩=some (.int .i64 0):=blk_cell hp.1.blk 4
          have k2:W2.cell? ⟨g,2,none⟩=some (.int .i64 i):=blk_cell hp.1.blk 2
          have f2:W2.frozen? ⟨g,2,none⟩=false:=blk_frozen hp.1.blk 2
          have yi:IntKind.i64.wrap ((i:Int)+1)=((i+1:Nat):Int):=by rw [IntWalk.i64_in _ (by omega)];omega
          clear hg hp HST HC
          go_upto_region 9 with (fail)
          go_name_world W3 hW3
          have HK23:Hid (Kp (fun k=>k=g) W2 W3):=Lib.hid (hW3▸Kp.one W2 g 2 _)
          have HRG3:Hid (RG w g (some ad) c0 l A1 c1 ws (i+1) d 0 wh W3):=Lib.hid (hW3▸⟨blk_put HRG2.out.blk 2 _ rfl,HRG2.out.hg,HRG2.out.bel.setCell HRG2.out.hg _⟩)
          have HK13:=Lib.hid (HK12.out.trans HK23.out)
          have HV3:=Lib.hid (HK13.out.blk HV1.out HN9.out)
          have t0:W3.cell? ⟨v9,0,none⟩=some (.int .i64 T.f0):=blk_cell HV3.out 0
          have t1:W3.cell? ⟨v9,1,none⟩=some (.int .i64 T.f1):=blk_cell HV3.out 1
          have t2:W3.cell? ⟨v9,2,none⟩=some (.string T.f2):=blk_cell HV3.out 2
          have t3:W3.cell? ⟨v9,3,none⟩=some (.int .i64 T.f3):=blk_cell HV3.out 3
          have t4:W3.cell? ⟨v9,4,none⟩=some (.int .i64 T.f4):=blk_cell HV3.out 4
          have HCL:=Lib.hid (fun (X:World)=>closes_c T X)
          unfold tokV at HCL
          clear hW3 k4 k2 f2 yi HRG2 HK12 HK23
          go_wp2_with fail
          refine (HCL.out _).mono ?_
          rintro e W4 ⟨rfl,hb4⟩
          have HRG4:=Lib.hid (HRG3.out.below hb4)
          have HV4:=Lib.hid (blk_below HV3.out hb4)
          have HKW4:=Lib.hid ((HKW1.out.trans HK13.out).below_ hb4)
          have HO4:=Lib.hid (Kd.R_below (R_kp1 HO1.out HK13.out) hb4)
          clear t0 t1 t2 t3 t4 hb4 HRG3 HV3 HK13 HKW1 HO1 HRG1 HV1 HCL
          have t0:W4.cell? ⟨v9,0,none⟩=some (.int .i64 T.f0):=blk_cell HV4.out 0
          have t1:W4.cell? ⟨v9,1,none⟩=some (.int .i64 T.f1):=blk_cell HV4.out 1
          have t2:W4.cell? ⟨v9,2,none⟩=some (.string T.f2):=blk_cell HV4.out 2
          have t3:W4.cell? ⟨v9,3,none⟩=some (.int .i64 T.f3):=blk_cell HV4.out 3
          have t4:W4.cell? ⟨v9,4,none⟩=some (.int .i64 T.f4):=blk_cell HV4.out 4
          cases hcq:closesR T with
          |true=>
            have HS3:=Lib.hid (HS2.out.trans (if_pos hcq))
            clear HS2 hcq HGRP HOPN HV4
            rcases HFR.out with ⟨rfl,rfl⟩|⟨rfl,a,rfl,rfl⟩
            · have HF:=Lib.hid (HFLM.out (i+1) 0 wh _ HRG4.out 20 i)
              go_wp2_with fail
              refine HF.out.mono ?_
              rintro e W9 ⟨rfl,hrg,hkp⟩
              simp only [↓reduceIte] at hrg
              have HRG9:=Lib.hid hrg
              have HKP9:=Lib.hid hkp
              clear hrg hkp
              go_wp2
              go_ret
              refine ⟨_,rfl, ?_⟩
              rw [HS3.out]
              exact ⟨out,R_kp1 HO4.out HKP9.out,by decide,_,HRG9.out,HKW4.out.trans HKP9.out⟩
            · have HFT:=Lib.hid (fun (X:World)=>fits_c T o X)
              unfold tokV at HFT
              go_wp2_with fail
              refine (HFT.out _).mono ?_
              rintro e W5 ⟨rfl,hb5⟩
              have HRG5:=Lib.hid (HRG4.out.below hb5)
              have HKW5:=Lib.hid (HKW4.out.below_ hb5)
              have HO5:=Lib.hid (Kd.R_below HO4.out hb5)
              clear hb5 t0 t1 t2 t3 t4 HFT
              cases hfq:fitsR T o with
              |true=>
                have HS4:Hid (LR0=.shut i out):=Lib.hid (HS3.out.trans (if_pos hfq))
                clear hfq
                go_wp2
                go_ret
                refine ⟨_,rfl, ?_⟩
                rw [HS4.out]
                exact ⟨out,HO5.out,rfl,hlt,HRG5.out,HKW5.out⟩
              |false=>
                have HS4:Hid (LR0=.bad i 20):=Lib.hid (HS3.out.trans (if_neg (by rw [hfq];decide)))
                clear hfq
                have HF:=Lib.hid (HFLM.out (i+1) 0 wh _ HRG5.out 20 i)
                go_wp2_with fail
                refine HF.out.mono ?_
                rintro e W9 ⟨rfl,hrg,hkp⟩
                simp only [↓reduceIte] at hrg
                have HRG9:=Lib.hid hrg
                have HKP9:=Lib.hid hkp
                clear hrg hkp
                go_wp2
                go_ret
                refine ⟨_,rfl, ?_⟩
                rw [HS4.out]
                exact ⟨out,R_kp1 HO5.out HKP9.out,by decide,_,HRG9.out,HKW5.out.trans HKP9.out⟩
          |false=>
            have HS3:=Lib.hid (HS2.out.trans (if_neg (by rw [hcq];decide)))
            clear HS2 hcq t0 t1 t2 t3 t4
            obtain ⟨mq,hmq⟩: ∃b,(o.toList==[109,97,99,114,111])=b:=⟨_,rfl⟩
            obtain ⟨zq,hzq⟩: ∃b,((out.length:Int)==0)=b:=⟨_,rfl⟩
            have HPL:Hid (plainR fr out=(mq&& !fb&&zq)):=Lib.hid (by
              rcases HFR.out with ⟨rfl,rfl⟩|⟨rfl,a,rfl,rfl⟩
              · cases out<;>simp [plainR]
              · rw [←hmq,←hzq]
                cases out with
                |nil=>simp [plainR,cMacro]
                |cons x r=>simp [plainR];omega)
            have HOP:=Lib.hid (HOPN.out i W4 HRG4.out hlt)
            obtain ⟨oq,hoq⟩: ∃b,opensR ws l i (plainR fr out)=b:=⟨_,rfl⟩
            have HOQ:=Lib.hid hoq
            rw [hoq] at HS3
            clear hoq
            go_upto_region 13 with (fail)
            go_cut [81] (fun v81 wd=>v81=.bool oq∧Hid (Below W4.heap.size W4 wd))
            case first=>
              have HOP2:Hid (Calls Tryz.prog 86 #[.pointer (some ⟨g,0,none⟩),.int .i64 i,.bool (mq&& !fb&&zq)] W4 fun x W'=>x=.returned (.bool oq)∧Below W4.heap.size W4 W'):=Lib.hid (by rw [←HOQ.out,HPL.out];exact HOP.out _)
              clear HOP HOQ HPL HS3
              cases mq<;>cases fb<;>cases zq
              all_goals go_wp2_with fail
              all_goals refine HOP2.out.mono ?_
              all_goals rintro e W5 ⟨rfl,hb5⟩
              all_goals go_wp2
              all_goals go_meet
              all_goals (case rel=>exact ⟨rfl,Lib.hid hb5⟩)
            case rest=>
              obtain ⟨rfl,HB5⟩:=hcut
              rename World=>W5
              have HRG5:=Lib.hid (HRG4.out.below HB5.out)
              have HKW5:=Lib.hid (HKW4.out.below_ HB5.out)
              have HV5:=Lib.hid (blk_below HV4.out HB5.out)
              have HO5:=Lib.hid (Kd.R_below HO4.out HB5.out)
              have HLN:Hid ((out.length+1)*88≤140737488355328):=Lib.hid (by omega)
              clear HRG4 HKW4 HV4 HO4 HB5 HOP HOQ HPL hmq hzq HOPN
              cases oq with
              |true=>
                have HSG:Hid (LR0=contR ws l k d fr out (groupR ws l k d i)):=Lib.hid (HS3.out.trans (if_pos rfl))
                have HG:=Lib.hid (HGRP.out k (by have:=HKK.out;omega) i W5 HRG5.out hlt (by omega))
                clear HS3
                go_wp2_with fail
                refine HG.out.mono ?_
                rintro e W6 ⟨x,v,rfl,hge⟩
                unfold GroupEnd at hge
                obtain ⟨hRx,hge⟩:=hge
                have HX: ∃(a:Nat) (er wx:Int),RP w g (some ad) c0 l A1 c1 ws a d er wx W5 W6∧((er=0∧wx=wh∧groupR ws l k d i=.fine a x∧a≤l.length)∨(er≠0∧ ∃j:Nat,groupR ws l k d i=.bad j er∧wx=(j:Int))):=by
                  cases hG:groupR ws l k d i with
                  |fine c x0=>
                    rw [hG] at hge
                    exact ⟨c,0,wh,hge.2.2,.inl ⟨rfl,rfl,by rw [hge.1],hge.2.1⟩⟩
                  |bad j e=>
                    rw [hG] at hge
                    exact ⟨_,e,_,hge.2.choose_spec,.inr ⟨hge.1,j,rfl,rfl⟩⟩
                clear hge HG
                obtain ⟨a6,er6,wx6,⟨hrg,hkp⟩,ho6⟩:=HX
                obtain ⟨Ax,cx,rfl⟩:=Kd.R_slice hRx
                have HRG6:=Lib.hid hrg
                have HKW6:=Lib.hid (HKW5.out.trans hkp)
                have HO6:=Lib.hid (R_kp1 HO5.out hkp)
                have HOR6:=Lib.hid ho6
                have HM:Hid (Kd.M k49 W6 W.heap.size (fun k=>k≠g∧W5.heap.size≤k) x [.int .i64 x.f0.f0,.int .i64 x.f0.f1,.string x.f0.f2,.int .i64 x.f0.f3,.int .i64 x.f0.f4,.string x.f1,.slice Ax x.f2.length cx]):=
                  Lib.hid (k49_mkM _ _ _ x (Kd.R_lower (Kd.R_mono (Kd.R_bound hRx) (fun k h=>⟨h.1,h.2.1⟩)) (HKW5.out.size)))
                have HOKP:Hid (∀k,(k≠g∧W5.heap.size≤k)→k≠g∧some k≠(Value.slice Av out.length cv).ownBlock):=Lib.hid (fun k hk=>⟨hk.1,fun e=>by
                  have:=Kd.R_lt HO5.out k e.symm
                  omega⟩)
                have HFRSH:Hid (∀k,W6.heap.size≤k→k≠g):=Lib.hid (fun k hk e=>by have:=blk_lt hrg.blk;omega)
                have HS6:Hid (W.heap.size≤W6.heap.size):=Lib.hid HKW6.out.size
                clear hRx hrg hkp ho6
                unfold fgV
                clear HO5
                go_wp2_with (first|((with_reducible refine gate_builtin (b:=.append) (xs:= #[.tmp 82,.tmp 86]) rfl ?_);at_builtin;refine Kd.R_append k49 (w0:=W6) W.heap.size rfl (.tmp 82) (.tmp 86) 25 49 (.agg #[.int .i64 0,.int .i64 0,.string ⟨#[]⟩,.int .i64 0,.int .i64 0,.string ⟨#[]⟩,.slice none 0 0]) 88 rfl Tryz.underlying25 info_frag rfl (by decide) (by omega) (.slice Av out.length cv) out x [.int .i64 x.f0.f0,.int .i64 x.f0.f1,.string x.f0.f2,.int .i64 x.f0.f3,.int .i64 x.f0.f4,.string x.f1,.slice Ax x.f2.length cx] (fun k=>k≠g) (fun k=>k≠g∧W5.heap.size≤k) rfl (by first|(go_simp;done)|(go_simp;rfl)) HM.out HOKP.out HFRSH.out HO6.out (Below.refl _ _) HS6.out HLN.out ?_;intro v1 w1 hR1 hb1 hg1 hat1;have HR1:=Lib.hid hR1;have HG1:=Lib.hid hg1;clear hR1 hb1 hg1 hat1))
                have HRG7:=Lib.hid (HRG6.out.grown hww HO6.out HG1.out)
                have HKW7:=Lib.hid (grown_kp HKW6.out HO6.out HG1.out)
                clear HG1 HO6 HM HOKP HFRSH HS6 HRG6 HKW6 HGRP
                go_roundg (gk-1)
                case measure=>have:=HKQ.out;omega
                case rel=>
                  refine ⟨out++[x],HR1,a6,er6,wx6,HRG7,HKW7,Lib.hid ?_⟩
                  rcases HOR6.out with ⟨e0,e1,e2,e3⟩|⟨e0,j,e2,e3⟩
                  · have hgt:=groupR_gt e2
                    refine .inl ⟨e0,e1,k,by have:=HKQ.out;omega,e3,by omega,by have:=HKK.out;omega,by rw [List.length_append,List.length_singleton];omega, ?_⟩
                    rw [HSG.out,e2]
                    rfl
                  · refine .inr ⟨e0,j, ?_,e3⟩
                    rw [HSG.out,e2]
                    rfl
              |false=>
                have HSG:Hid (LR0=rlist ws l k d fr (i+1) (out++[⟨T,⟨#[]⟩,[]⟩])):=Lib.hid (HS3.out.trans (if_neg Bool.false_ne_true))
                have t0:W5.cell? ⟨v9,0,none⟩=some (.int .i64 T.f0):=blk_cell HV5.out 0
                have t1:W5.cell? ⟨v9,1,none⟩=some (.int .i64 T.f1):=blk_cell HV5.out 1
                have t2:W5.cell? ⟨v9,2,none⟩=some (.string T.f2):=blk_cell HV5.out 2
                have t3:W5.cell? ⟨v9,3,none⟩=some (.int .i64 T.f3):=blk_cell HV5.out 3
                have t4:W5.cell? ⟨v9,4,none⟩=some (.int .i64 T.f4):=blk_cell HV5.out 4
                have HO6:=HO5
                have HM:Hid (Kd.M k49 W5 W.heap.size (fun _=>False) (⟨T,⟨#[]⟩,[]⟩:Fg) [.int .i64 T.f0,.int .i64 T.f1,.string T.f2,.int .i64 T.f3,.int .i64 T.f4,.string ⟨#[]⟩,.slice none 0 0]):=
                  Lib.hid (k49_mkM _ _ _ (⟨T,⟨#[]⟩,[]⟩:Fg) (Kd.R_nil _ _ _ _ _))
                have HFRSH:Hid (∀k,W5.heap.size≤k→k≠g):=Lib.hid (fun k hk e=>by have:=blk_lt HRG5.out.blk;omega)
                have HS6:Hid (W.heap.size≤W5.heap.size):=Lib.hid HKW5.out.size
                clear HS3 HGRP
                clear HO5
                go_wp2_with (first|((with_reducible refine gate_builtin (b:=.append) (xs:= #[.tmp 88,.tmp 91]) rfl ?_);at_builtin;refine Kd.R_append k49 (w0:=W5) W.heap.size rfl (.tmp 88) (.tmp 91) 25 49 (.agg #[.int .i64 0,.int .i64 0,.string ⟨#[]⟩,.int .i64 0,.int .i64 0,.string ⟨#[]⟩,.slice none 0 0]) 88 rfl Tryz.underlying25 info_frag rfl (by decide) (by omega) (.slice Av out.length cv) out (⟨T,⟨#[]⟩,[]⟩:Fg) [.int .i64 T.f0,.int .i64 T.f1,.string T.f2,.int .i64 T.f3,.int .i64 T.f4,.string ⟨#[]⟩,.slice none 0 0] (fun k=>k≠g) (fun _=>False) rfl (by first|(go_simp;done)|(go_simp;rfl)) HM.out (fun _ hk=>hk.elim) HFRSH.out HO6.out (Below.refl _ _) HS6.out HLN.out ?_;intro v1 w1 hR1 hb1 hg1 hat1;have HR1:=Lib.hid hR1;have HG1:=Lib.hid hg1;clear hR1 hb1 hg1 hat1))
                have HRG7:=Lib.hid (HRG5.out.grown hww HO6.out HG1.out)
                have HKW7:=Lib.hid (grown_kp HKW5.out HO6.out HG1.out)
                clear HG1 HO6 HM HFRSH HS6 HRG5 HKW5
                go_roundg (gk-1)
                case measure=>have:=HKQ.out;omega
                case rel=>
                  refine ⟨_,HR1,i+1,0,wh,HRG7,HKW7,Lib.hid (.inl ⟨rfl,rfl,k,by have:=HKQ.out;omega,by omega,by omega,by have:=HKK.out;omega,by rw [List.length_append,List.length_singleton];omega,HSG.out⟩)⟩
      · have x1:decide ((i:Int)<(l.length:Int))=false:=decide_eq_false (by omega)
        have x2:decide (i<l.length)=false:=decide_eq_false hlt
        have HE:=Lib.hid (HEQ.out.trans (rlist_end hlt))
        clear HGRP HCHK HOPN HTK HEQ
        go_upto_region 2 with (fail)
        go_quiet (fail)
        have HB:=Lib.hid (pw_below_drewN (Below.refl wr.heap.size wr) nq)
        have HRG:=Lib.hid (HRi.out.below HB.out)
        have HKX:=Lib.hid (HKi.out.below_ HB.out)
        have HOX:=Lib.hid (Kd.R_below HO.out HB.out)
        clear HB HRi HKi HO k0 k2 k4
        rcases HFR.out with ⟨rfl,rfl⟩|⟨rfl,a,rfl,rfl⟩
        · go_wp2
          go_ret
          refine ⟨_,rfl, ?_⟩
          rw [HE.out]
          exact ⟨out,HOX.out,rfl,rfl,i,HRG.out,HKX.out⟩
        · have HF:=Lib.hid (HFLM.out i 0 wh _ HRG.out 21 a)
          go_wp2_with fail
          refine HF.out.mono ?_
          rintro e W9 ⟨rfl,hrg,hkp⟩
          simp only [↓reduceIte] at hrg
          have HRG9:=Lib.hid hrg
          have HKP9:=Lib.hid hkp
          clear hrg hkp
          go_wp2
          go_ret
          refine ⟨_,rfl, ?_⟩
          rw [HE.out]
          exact ⟨out,R_kp1 HOX.out HKP9.out,by decide,i,HRG9.out,HKX.out.trans HKP9.out⟩
    · have x1:(er==0)=false:=beq_false_of_ne her
      have HER:=Lib.hid her
      have HEQ:=Lib.hid heq
      clear HGRP HCHK HOPN HTK HOR her heq
      go_upto_region 2 with (fail)
      go_quiet (fail)
      have HB:=Lib.hid (pw_below_drewN (Below.refl wr.heap.size wr) nq)
      have HRG:=Lib.hid (HRi.out.below HB.out)
      have HKX:=Lib.hid (HKi.out.below_ HB.out)
      have HOX:=Lib.hid (Kd.R_below HO.out HB.out)
      clear HB HRi HKi HO k0 k2 k4
      cases fb with
      |true=>
        go_wp2
        go_ret
        refine ⟨_,rfl, ?_⟩
        rw [HEQ.out]
        exact ⟨out,HOX.out,HER.out,i,HRG.out,HKX.out⟩
      |false=>
        have HF:=Lib.hid (HFLM.out i er j _ HRG.out 21 fm)
        go_wp2_with fail
        refine HF.out.mono ?_
        rintro e W9 ⟨rfl,hrg,hkp⟩
        rw [if_neg HER.out,if_neg HER.out] at hrg
        have HRG9:=Lib.hid hrg
        have HKP9:=Lib.hid hkp
        clear hrg hkp
        go_wp2
        go_ret
        refine ⟨_,rfl, ?_⟩
        rw [HEQ.out]
        exact ⟨out,R_kp1 HOX.out HKP9.out,HER.out,i,HRG9.out,HKX.out.trans HKP9.out⟩
end
end Go.Proofs.YtipnlgmeonepfaaGreatDoor.PFa
