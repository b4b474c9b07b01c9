/- The machine is the reference's recursion. -/
import Derived.Test.YtipnlgmeonepfaaGreatDoorFrC
import Derived.Test.YtipnlgmeonepfaaGreatDoorFrD
import Derived.Test.YtipnlgmeonepfaaGreatDoorFrE
set_option linter.unusedVariables false
namespace Go.Proofs.YtipnlgmeonepfaaGreatDoor.PFa
open Go.RowKit Go.Proofs.YtipnlgmeonepfaaGreatDoorW.PrintWords Go.Proofs.YtipnlgmeonepfaaGreatDoorW.PrintLast Go.Proofs.YtipnlgmeonepfaaGreatDoorW.PrintMore
/-- What a reading of one list comes to: closed at c, the end of all tokens, or an error at j. -/
inductive LR where
  |shut (c:Nat) (out:List Fg)
  |fin (out:List Fg)
  |bad (j:Nat) (e:Int)
def bracketR (s:ByteArray):ByteArray:=if s.toList=[40] then ⟨#[41]⟩ else if s.toList=[91] then ⟨#[93]⟩ else if s.toList=[123] then ⟨#[125]⟩ else ⟨#[]⟩
def closesR (t:Tk):Bool:=(t.f0==1&&t.f2.toList==endText)||(t.f0==5&&(t.f2.toList==[41]||t.f2.toList==[93]||t.f2.toList==[125]))
def fitsR (t:Tk) (op:ByteArray):Bool:=((bracketR op).toList==[]&&(t.f0==1&&t.f2.toList==endText))||((bracketR op).toList !=[]&&(t.f0==5&&t.f2.toList==(bracketR op).toList))
def opensR (ws:List ByteArray) (l:List Tk) (i:Nat) (plain:Bool):Bool:=
  if (tkAt l i).f0=5 then (bracketR (tkAt l i).f2).toList !=[]
  else if (tkAt l i).f0=1∧plain=false∧memB (tkAt l i).f2 (openers++ws)=true then !(((tkAt l i).f2.toList==cClass)&&isNm l (i+1) slotName) else false
def wordR (l:List Tk) (j:Nat) (s:ByteArray):Bool:=(s.toList !=[])&&isNm l j s
def nameR (kids:List Fg):ByteArray:=match kids with
  |[]=>⟨#[]⟩
  |k::_=>if k.f1=⟨#[]⟩∧k.f0.f0=1 then k.f0.f2 else ⟨#[]⟩
def dropR (l:List Tk) (c:Nat) (op:ByteArray) (kids:List Fg):Nat:=
  if op.toList=cClass∨op.toList=cMethod∨op.toList=cMacro then
    if wordR l (c+1) op=true∧wordR l (c+2) (nameR kids)=true∧stopsB l (c+3)=true then 2
    else if (wordR l (c+1) op=true∨wordR l (c+1) (nameR kids)=true)∧stopsB l (c+2)=true then 1 else 0
  else 0
def plainR (fr:Option (ByteArray×Nat)) (out:List Fg):Bool:=match fr,out with
  |some (op,_),[]=>op.toList==cMacro
  |_,_=>false
/-- The reference's list: it reads what lies in a group (fr: what opened it, and where) up to its end. -/
def rlist (ws:List ByteArray) (l:List Tk):Nat→Nat→Option (ByteArray×Nat)→Nat→List Fg→LR
  |0,_,fr,_,out=>match fr with
    |none=> .fin out
    |some (_,at_)=> .bad at_ 21
  |k+1,d,fr,i,out=>
    if i<l.length then
      if Pure.good (tkAt l i)=true then
        if closesR (tkAt l i)=true then
          match fr with
          |none=> .bad i 20
          |some (op,_)=>if fitsR (tkAt l i) op=true then .shut i out else .bad i 20
        else if opensR ws l i (plainR fr out)=true then
          if 100≤d then .bad i 6
          else match rlist ws l k (d+1) (some ((tkAt l i).f2,i)) (i+1) [] with
            | .bad j e=> .bad j e
            | .fin _=> .fin []
            | .shut c kids=>match badIn l c (dropR l c (tkAt l i).f2 kids) with
              |some q=> .bad (c+1+q) 14
              |none=>rlist ws l k d fr (c+dropR l c (tkAt l i).f2 kids+1) (out++[⟨tkAt l i,(tkAt l i).f2,kids⟩])
        else rlist ws l k d fr (i+1) (out++[⟨tkAt l i,⟨#[]⟩,[]⟩])
      else .bad i 14
    else match fr with
      |none=> .fin out
      |some (_,at_)=> .bad at_ 21
/-- What Read hands back: the fragments, or where it is wrong and how. -/
inductive RO where
  |ok (out:List Fg)
  |bad (j:Nat) (e:Int)
def ended:St→RO
  | .bad i e=> .bad i e
  | .go _ top []=> .ok top
  | .go _ _ (p::_)=> .bad p.at_ 21
section
variable {l:List Tk} {ws:List ByteArray}
/-- The words that a reader is given: plain names, none of its own. -/
structure Plainly (ws:List ByteArray):Prop where
  kind: ∀x∈ws,Pure.kindOf x=1
  free: ∀x∈ws,memB x takenWords=false
  own: ∀x∈openers,Pure.kindOf x=1
  ends:Pure.kindOf ⟨#[101,110,100]⟩=1
  s40:Pure.kindOf ⟨#[40]⟩=5
  s41:Pure.kindOf ⟨#[41]⟩=5
  s91:Pure.kindOf ⟨#[91]⟩=5
  s93:Pure.kindOf ⟨#[93]⟩=5
  s123:Pure.kindOf ⟨#[123]⟩=5
  s125:Pure.kindOf ⟨#[125]⟩=5
  s0:Pure.kindOf ⟨#[]⟩=0
theorem memB_iff (x:ByteArray) (l:List ByteArray):memB x l=true↔x∈l:=by
  unfold memB
  rw [List.any_eq_true]
  constructor
  · rintro ⟨y,hy,e⟩
    rw [←of_decide_eq_true e]
    exact hy
  · exact fun h=>⟨x,h,decide_eq_true rfl⟩
theorem memB_cons (s x:ByteArray) (r:List ByteArray):memB s (x::r)=(decide (x=s)||memB s r):=rfl
theorem actIn_words (tab:List (ByteArray×Bool)) (s:ByteArray): ∀xs:List ByteArray,actIn (xs.map (fun x=>(x,true))++tab) s=if memB s xs=true then some true else actIn tab s
  |[]=>by rw [if_neg (by intro h;cases h)];rfl
  |x::r=>by
    show (if s.data.toList=x.data.toList then some true else actIn (r.map (fun x=>(x,true))++tab) s)=_
    rw [actIn_words tab s r,memB_cons]
    by_cases h:x=s
    · subst h
      rw [if_pos rfl,if_pos (by rw [decide_eq_true rfl];rfl)]
    · rw [if_neg (fun e=>h (Pure.bytes_ext e.symm)),decide_eq_false h,Bool.false_or]
theorem actIn_tab (xs:List ByteArray) (s:ByteArray):actIn (actTab xs) s=if memB s xs=true then some true else actIn signActs s:=by
  have e:memB s xs.reverse=memB s xs:=by
    rw [Bool.eq_iff_iff,memB_iff,memB_iff,List.mem_reverse]
  unfold actTab
  rw [←List.map_reverse,actIn_words,e]
/-- What a text does, by the reference's words. -/
inductive Does (ws:List ByteArray) (s:ByteArray):Prop where
  |word (h:memB s (openers++ws)=true) (ha:actIn (actTab (openers++ws)) s=some true)
  |opn (h:s=⟨#[40]⟩∨s=⟨#[91]⟩∨s=⟨#[123]⟩) (ha:actIn (actTab (openers++ws)) s=some true)
  |cls (h:s=⟨#[41]⟩∨s=⟨#[93]⟩∨s=⟨#[125]⟩) (ha:actIn (actTab (openers++ws)) s=some false)
  |fin (h:s=⟨#[101,110,100]⟩) (ha:actIn (actTab (openers++ws)) s=some false)
  |no (h:memB s (openers++ws)=false) (h1:s≠⟨#[40]⟩) (h2:s≠⟨#[91]⟩) (h3:s≠⟨#[123]⟩) (h4:s≠⟨#[41]⟩) (h5:s≠⟨#[93]⟩) (h6:s≠⟨#[125]⟩) (h7:s≠⟨#[101,110,100]⟩) (ha:actIn (actTab (openers++ws)) s=none)
theorem does (ws:List ByteArray) (s:ByteArray):Does ws s:=by
  by_cases h:memB s (openers++ws)=true
  · exact .word h (by rw [actIn_tab,if_pos h])
  · have ha:=actIn_tab (openers++ws) s
    rw [if_neg h] at ha
    by_cases h7:s=⟨#[101,110,100]⟩
    · exact .fin h7 (ha.trans (by rw [h7];rfl))
    by_cases h6:s=⟨#[125]⟩
    · exact .cls (.inr (.inr h6)) (ha.trans (by rw [h6];rfl))
    by_cases h5:s=⟨#[93]⟩
    · exact .cls (.inr (.inl h5)) (ha.trans (by rw [h5];rfl))
    by_cases h4:s=⟨#[41]⟩
    · exact .cls (.inl h4) (ha.trans (by rw [h4];rfl))
    by_cases h3:s=⟨#[123]⟩
    · exact .opn (.inr (.inr h3)) (ha.trans (by rw [h3];rfl))
    by_cases h2:s=⟨#[91]⟩
    · exact .opn (.inr (.inl h2)) (ha.trans (by rw [h2];rfl))
    by_cases h1:s=⟨#[40]⟩
    · exact .opn (.inl h1) (ha.trans (by rw [h1];rfl))
    refine .no (Bool.eq_false_iff.2 h) h1 h2 h3 h4 h5 h6 h7 (ha.trans ?_)
    have hn: ∀{b:ByteArray},s≠b→s.data.toList≠b.data.toList:=fun hb e=>hb (Pure.bytes_ext e)
    unfold signActs
    simp only [actIn,if_neg (hn h1),if_neg (hn h2),if_neg (hn h3),if_neg (hn h4),if_neg (hn h5),if_neg (hn h6),if_neg (hn h7)]
theorem good_kind {t:Tk} (h:Pure.good t=true):Pure.kindOf t.f2=t.f0∧t.f0≠0:=by
  have:=of_decide_eq_true h
  exact ⟨this.1.2,this.1.1⟩
theorem mem_open {x:ByteArray} (hP:Plainly ws) (h:memB x (openers++ws)=true):Pure.kindOf x=1∧x≠⟨#[101,110,100]⟩:=by
  rw [memB_iff,List.mem_append] at h
  rcases h with h|h
  · refine ⟨hP.own x h, ?_⟩
    rintro rfl
    exact absurd ((memB_iff _ _).2 h) (by decide)
  · refine ⟨hP.kind x h, ?_⟩
    rintro rfl
    exact absurd (hP.free _ h) (by decide)
theorem list_beq (a b:ByteArray):(a.toList==b.data.toList)=decide (a=b):=by
  rw [Bool.eq_iff_iff,beq_iff_eq,decide_eq_true_iff,Lib.toList_data]
  exact ⟨Pure.bytes_ext,fun e=>by rw [e]⟩
theorem list_eq (a b:ByteArray):a.toList=b.data.toList↔a=b:=by
  rw [Lib.toList_data]
  exact ⟨Pure.bytes_ext,fun e=>by rw [e]⟩
/-- The machine's decision is the reference's. -/
theorem decision {i : Nat} {ps : List PF} (hP : Plainly ws) (hg : Pure.good (tkAt l i) = true) :
    (closesR (tkAt l i)=true∧leafB l i ps (actIn (actTab (openers++ws)) (tkAt l i).f2)=false∧actIn (actTab (openers++ws)) (tkAt l i).f2=some false)∨
    (closesR (tkAt l i)=false∧opensR ws l i (nmd i ps)=false∧leafB l i ps (actIn (actTab (openers++ws)) (tkAt l i).f2)=true)∨
    (closesR (tkAt l i)=false∧opensR ws l i (nmd i ps)=true∧leafB l i ps (actIn (actTab (openers++ws)) (tkAt l i).f2)=false∧actIn (actTab (openers++ws)) (tkAt l i).f2=some true):=by
  obtain ⟨hk,h0⟩:=good_kind hg
  have e1: ∀b:ByteArray,((tkAt l i).f2.toList==b.data.toList)=decide ((tkAt l i).f2=b):=fun b=>list_beq _ b
  have c1:closesR (tkAt l i)=(((tkAt l i).f0==1&&decide ((tkAt l i).f2=⟨#[101,110,100]⟩))||((tkAt l i).f0==5&&(decide ((tkAt l i).f2=⟨#[41]⟩)||decide ((tkAt l i).f2=⟨#[93]⟩)||decide ((tkAt l i).f2=⟨#[125]⟩)))):=by
    rw [←e1,←e1,←e1,←e1]
    rfl
  have c2: ∀a,leafB l i ps a=((!a.isSome||(!((tkAt l i).f0==1)&& !((tkAt l i).f0==5)))||(((tkAt l i).f2.toList==cClass)&&isNm l (i+1) slotName)||(((tkAt l i).f0==1)&& !(decide ((tkAt l i).f2=⟨#[101,110,100]⟩))&&nmd i ps)):=fun a=>by
    rw [←e1]
    rfl
  have c3:(bracketR (tkAt l i).f2)=if (tkAt l i).f2=⟨#[40]⟩ then ⟨#[41]⟩ else if (tkAt l i).f2=⟨#[91]⟩ then ⟨#[93]⟩ else if (tkAt l i).f2=⟨#[123]⟩ then ⟨#[125]⟩ else ⟨#[]⟩:=by
    have e2: ∀c:UInt8,((tkAt l i).f2.toList=[c])↔((tkAt l i).f2=⟨#[c]⟩):=fun c=>list_eq _ ⟨#[c]⟩
    unfold bracketR
    simp only [e2]
  have c4: ∀b:ByteArray,(b.toList !=[])= !decide (b=⟨#[]⟩):=fun b=>by
    rw [←list_beq]
    rfl
  obtain ⟨t,ht⟩: ∃t,tkAt l i=t:=⟨_,rfl⟩
  unfold opensR
  rw [c1,c2,c3,c4]
  rw [ht] at hk h0⊢
  cases does ws t.f2 with
  |word h ha=>
    obtain ⟨hk1,hne⟩:=mem_open hP h
    have hf:t.f0=1:=hk.symm.trans hk1
    rw [ha,hf,decide_eq_false hne]
    have h5: ¬(1:Int)=5:=by decide
    rw [if_neg h5]
    by_cases hn:nmd i ps=true
    · refine .inr (.inl ⟨rfl, ?_, ?_⟩)
      · rw [if_neg (by rw [hn];rintro ⟨_,h,_⟩;cases h)]
      · rw [hn]
        cases ((t.f2.toList==cClass)&&isNm l (i+1) slotName)<;>rfl
    · rw [Bool.eq_false_iff.2 hn,if_pos ⟨rfl,rfl,h⟩]
      cases ((t.f2.toList==cClass)&&isNm l (i+1) slotName) with
      |true=>exact .inr (.inl ⟨rfl,rfl,rfl⟩)
      |false=>exact .inr (.inr ⟨rfl,rfl,rfl,rfl⟩)
  |opn h ha=>
    have hf:t.f0=5:=by
      rcases h with h|h|h<;>rw [h] at hk
      · exact hk.symm.trans hP.s40
      · exact hk.symm.trans hP.s91
      · exact hk.symm.trans hP.s123
    rw [ha,hf]
    have hc:(t.f2.toList==cClass)=false:=by
      rw [show cClass=(⟨#[99,108,97,115,115]⟩:ByteArray).data.toList from rfl,list_beq]
      rcases h with h|h|h<;>rw [h]<;>decide
    rw [hc]
    refine .inr (.inr ⟨?_, ?_,rfl,rfl⟩)
    · rcases h with h|h|h<;>rw [h]<;>decide
    · rw [if_pos rfl]
      rcases h with h|h|h<;>rw [h]<;>decide
  |cls h ha=>
    have hf:t.f0=5:=by
      rcases h with h|h|h<;>rw [h] at hk
      · exact hk.symm.trans hP.s41
      · exact hk.symm.trans hP.s93
      · exact hk.symm.trans hP.s125
    rw [ha,hf]
    have hc:(t.f2.toList==cClass)=false:=by
      rw [show cClass=(⟨#[99,108,97,115,115]⟩:ByteArray).data.toList from rfl,list_beq]
      rcases h with h|h|h<;>rw [h]<;>decide
    rw [hc]
    refine .inl ⟨?_,rfl,rfl⟩
    rcases h with h|h|h<;>rw [h]<;>decide
  |fin h ha=>
    have hf:t.f0=1:=by
      rw [h] at hk
      exact hk.symm.trans hP.ends
    rw [ha,hf]
    have hc:(t.f2.toList==cClass)=false:=by
      rw [show cClass=(⟨#[99,108,97,115,115]⟩:ByteArray).data.toList from rfl,list_beq]
      rw [h]
      decide
    rw [hc,h]
    exact .inl ⟨by decide,by cases isNm l (i+1) slotName<;>cases nmd i ps<;>decide,rfl⟩
  |no h h1 h2 h3 h4 h5 h6 h7 ha=>
    rw [ha,decide_eq_false h7,decide_eq_false h4,decide_eq_false h5,decide_eq_false h6,if_neg h1,if_neg h2,if_neg h3]
    refine .inr (.inl ⟨?_, ?_,rfl⟩)
    · cases t.f0==1<;>cases t.f0==5<;>rfl
    · by_cases e5:t.f0=5
      · rw [if_pos e5]
        decide
      · rw [if_neg e5,if_neg (by rw [h];rintro ⟨_,_,h⟩;cases h)]
end
section
variable {l:List Tk} {ws:List ByteArray}
theorem fits_iff {t:Tk} (hP:Plainly ws) (hg:Pure.good t=true) (hc:closesR t=true) (op:ByteArray):fitsR t op=true↔(closeTx op).toList=t.f2.toList:=by
  obtain ⟨hk,h0⟩:=good_kind hg
  have e2: ∀c:UInt8,(op.toList=[c])↔(op=⟨#[c]⟩):=fun c=>list_eq _ ⟨#[c]⟩
  have hx: ∀x:ByteArray,Pure.kindOf x=5→((t.f0==5&&t.f2.toList==x.toList)=true↔x.toList=t.f2.toList):=by
    intro x hx
    rw [Bool.and_eq_true,beq_iff_eq,beq_iff_eq]
    constructor
    · exact fun h=>h.2.symm
    · intro h
      have e:t.f2=x:=(toList_eq _ _).1 h.symm
      exact ⟨by rw [←hk,e];exact hx,h.symm⟩
  have hb: ∀x:ByteArray,x.toList=[]↔x=⟨#[]⟩:=fun x=>list_eq x ⟨#[]⟩
  unfold fitsR bracketR closeTx
  simp only [e2]
  by_cases h1:op=⟨#[40]⟩
  · simp only [if_pos h1]
    rw [show ((⟨#[41]⟩:ByteArray).toList==[])=false from by rw [Lib.toList_data];rfl,show ((⟨#[41]⟩:ByteArray).toList !=[])=true from by rw [Lib.toList_data];rfl,Bool.false_and,Bool.false_or,Bool.true_and]
    exact hx _ hP.s41
  simp only [if_neg h1]
  by_cases h2:op=⟨#[91]⟩
  · simp only [if_pos h2]
    rw [show ((⟨#[93]⟩:ByteArray).toList==[])=false from by rw [Lib.toList_data];rfl,show ((⟨#[93]⟩:ByteArray).toList !=[])=true from by rw [Lib.toList_data];rfl,Bool.false_and,Bool.false_or,Bool.true_and]
    exact hx _ hP.s93
  simp only [if_neg h2]
  by_cases h3:op=⟨#[123]⟩
  · simp only [if_pos h3]
    rw [show ((⟨#[125]⟩:ByteArray).toList==[])=false from by rw [Lib.toList_data];rfl,show ((⟨#[125]⟩:ByteArray).toList !=[])=true from by rw [Lib.toList_data];rfl,Bool.false_and,Bool.false_or,Bool.true_and]
    exact hx _ hP.s125
  simp only [if_neg h3]
  rw [show ((⟨#[]⟩:ByteArray).toList==[])=true from by rw [Lib.toList_data];rfl,show ((⟨#[]⟩:ByteArray).toList !=[])=false from by rw [Lib.toList_data];rfl,Bool.true_and,Bool.false_and,Bool.or_false,Bool.and_eq_true,beq_iff_eq,beq_iff_eq]
  have he:(⟨#[101,110,100]⟩:ByteArray).toList=endText:=Lib.toList_data _
  rw [he]
  constructor
  · exact fun h=>h.2.symm
  · intro h
    refine ⟨?_,h.symm⟩
    have e:t.f2=⟨#[101,110,100]⟩:=(list_eq _ _).1 h.symm
    rw [←hk,e]
    exact hP.ends
theorem wordR_eq {s:ByteArray} (hs:s≠⟨#[]⟩) (j:Nat):wordR l j s=isNm l j s:=by
  unfold wordR
  rw [show (s.toList !=[])=true from ?_,Bool.true_and]
  have:(s.toList==[])=decide (s=⟨#[]⟩):=list_beq s ⟨#[]⟩
  show (!(s.toList==[]))=true
  rw [this,decide_eq_false hs]
  rfl
theorem wordR_none (j:Nat):wordR l j ⟨#[]⟩=false:=by
  unfold wordR
  rw [show ((⟨#[]⟩:ByteArray).toList !=[])=false from by rw [Lib.toList_data];rfl]
  rfl
theorem name_at {kids:List Fg} (hP:Plainly ws) (hk: ∀x∈kids,Pure.good x.f0=true) (c n:Nat):wordR l (c+n) (nameR kids)=nameAt l c kids n:=by
  unfold nameR nameAt
  cases kids with
  |nil=>exact wordR_none _
  |cons k r=>
    dsimp only
    by_cases h1:k.f1=⟨#[]⟩
    · by_cases h2:k.f0.f0=1
      · rw [if_pos ⟨h1,h2⟩,decide_eq_true h1,h2,wordR_eq]
        · rfl
        · intro e
          obtain ⟨h3,h4⟩:=good_kind (hk k List.mem_cons_self)
          rw [e,hP.s0] at h3
          exact h4 h3.symm
      · rw [if_neg (fun h=>h2 h.2),wordR_none,beq_false_of_ne h2]
        simp
    · rw [if_neg (fun h=>h1 h.1),wordR_none,decide_eq_false h1]
      rfl
theorem drop_eq {T:Tk} {kids:List Fg} (hP:Plainly ws) (hk: ∀x∈kids,Pure.good x.f0=true) (c:Nat):dropR l c T.f2 kids=dropN l c T kids:=by
  unfold dropR dropN
  rw [name_at hP hk,name_at hP hk]
  split
  · rename_i h
    rw [wordR_eq]
    intro e
    rw [e,show (⟨#[]⟩:ByteArray).toList=[] from Lib.toList_data _] at h
    exact absurd h (by decide)
  · rfl
theorem mach_fuel {tab:List (ByteArray×Bool)}: ∀(K K' i:Nat) (top:List Fg) (ps:List PF),l.length<K+i→l.length<K'+i→mach tab l K i top ps=mach tab l K' i top ps
  |0,0,i,top,ps,_,_=>rfl
  |0,K'+1,i,top,ps,h,_=>by
    unfold mach
    rw [if_neg (by omega)]
  |K+1,0,i,top,ps,_,h=>by
    unfold mach
    rw [if_neg (by omega)]
  |K+1,K'+1,i,top,ps,h,h'=>by
    unfold mach
    split
    · split
      · rfl
      · rename_i j t p hs
        have:=step_on hs
        exact mach_fuel K K' j t p (by omega) (by omega)
    · rfl
/-- What a group's end comes to. -/
def shutAt (tab:List (ByteArray×Bool)) (l:List Tk) (K c:Nat) (T:Tk) (kids:List Fg) (top:List Fg) (r:List PF):RO:=
  match badIn l c (dropN l c T kids) with
  |some q=> .bad (c+1+q) 14
  |none=>ended (mach tab l K (c+dropN l c T kids+1) (addT top ⟨T,T.f2,kids⟩ r) (addP ⟨T,T.f2,kids⟩ r))
theorem simulate (hP : Plainly ws) : ∀ (k K i : Nat) (top : List Fg), l.length < k + i → l.length < K + i →
    (∀out,ended (mach (actTab (openers++ws)) l K i out [])=match rlist ws l k 0 none i out with
      | .bad j e=> .bad j e
      | .fin o=> .ok o
      | .shut _ _=> .bad 0 0)∧
    (∀(p:PF) (r:List PF),r.length+1≤100→(p.kids=[]↔p.at_+1=i)→p.at_<i→(∀x∈p.kids,Pure.good x.f0=true)→Pure.good p.tok=true→
      match rlist ws l k (r.length+1) (some (p.tok.f2,p.at_)) i p.kids with
      | .bad j e=>ended (mach (actTab (openers++ws)) l K i top (p::r))=.bad j e
      | .fin _=>False
      | .shut c kids=>i≤c∧c<l.length∧(∀x∈kids,Pure.good x.f0=true)∧ended (mach (actTab (openers++ws)) l K i top (p::r))=shutAt (actTab (openers++ws)) l K c p.tok kids top r)
  |0,K,i,top,hk,hK=>by
    constructor
    · intro out
      unfold rlist
      dsimp only
      cases K with
      |zero=>rfl
      |succ K=>
        unfold mach
        rw [if_neg (by omega)]
        rfl
    · intro p r h1 h2 h3 h4 h5
      unfold rlist
      cases K with
      |zero=>rfl
      |succ K=>
        dsimp only
        unfold mach
        rw [if_neg (by omega)]
        rfl
  |k+1,K,i,top,hk,hK=>by
    by_cases hi:i<l.length
    · obtain ⟨K,rfl⟩: ∃q,K=q+1:=⟨K-1,by omega⟩
      by_cases hg:Pure.good (tkAt l i)=true
      · constructor
        · intro out
          unfold rlist mach
          rw [if_pos hi,if_pos hi,if_pos hg]
          unfold step
          rw [if_pos hg]
          have hpl:nmd i []=plainR none out:=rfl
          rw [←hpl]
          rcases decision (ps:=[]) hP hg with ⟨hc,hl,ha⟩|⟨hc,ho,hl⟩|⟨hc,ho,hl,ha⟩
          · rw [hc,hl,ha,if_pos rfl,if_neg (by decide),if_neg (by decide)]
            rfl
          · rw [hc,hl,ho,if_pos rfl,if_neg Bool.false_ne_true,if_neg Bool.false_ne_true]
            exact (simulate hP k K (i+1) top (by omega) (by omega)).1 _
          · rw [hc,hl,ho,ha,if_neg Bool.false_ne_true,if_pos rfl,if_neg (show¬([]:List PF).length=100 by decide),if_neg Bool.false_ne_true,if_pos rfl,if_neg (show¬100≤0 by omega)]
            dsimp only
            have hB:=(simulate hP k K (i+1) out (by omega) (by omega)).2 ⟨tkAt l i,i,[]⟩ [] (by decide) ⟨fun _=>rfl,fun _=>rfl⟩ (Nat.lt_succ_self i) (fun x hx=>absurd hx (by simp)) hg
            dsimp only [List.length_nil] at hB
            revert hB
            cases rlist ws l k (0+1) (some ((tkAt l i).f2,i)) (i+1) [] with
            |bad j e=>exact fun hB=>hB
            |fin o=>exact fun hB=>hB.elim
            |shut c kids=>
              rintro ⟨h1,h2,h3,h4⟩
              rw [h4]
              unfold shutAt
              dsimp only
              rw [drop_eq hP h3]
              cases badIn l c (dropN l c (tkAt l i) kids) with
              |some q=>rfl
              |none=>exact (simulate hP k K (c+dropN l c (tkAt l i) kids+1) top (by omega) (by omega)).1 _
        · intro p r h1 h2 h3 h4 h5
          unfold rlist mach
          rw [if_pos hi,if_pos hi,if_pos hg]
          unfold step
          rw [if_pos hg]
          have hpl:nmd i (p::r)=plainR (some (p.tok.f2,p.at_)) p.kids:=by
            unfold nmd plainR
            have hm:(⟨#[109,97,99,114,111]⟩:ByteArray).toList=cMacro:=Lib.toList_data _
            rw [hm]
            cases hk0:p.kids with
            |nil=>
              have:=h2.1 hk0
              dsimp only
              rw [show ((p.at_:Int)==(i:Int)-1)=true from by rw [beq_iff_eq];omega,Bool.and_true]
            |cons x xs=>
              have: ¬p.at_+1=i:=fun e=>absurd (h2.2 e) (by rw [hk0];simp)
              dsimp only
              rw [show ((p.at_:Int)==(i:Int)-1)=false from by rw [beq_eq_false_iff_ne];omega,Bool.and_false]
          rw [←hpl]
          have again : ∀ (x : Fg) (j : Nat), i < j → Pure.good x.f0 = true → ∀ K', l.length < K' + j → match rlist ws l k (r.length + 1) (some (p.tok.f2, p.at_)) j (p.kids ++ [x]) with
              | .bad j' e=>ended (mach (actTab (openers++ws)) l K' j top (addP x (p::r)))=.bad j' e
              | .fin _=>False
              | .shut c kids=>i≤c∧c<l.length∧(∀x∈kids,Pure.good x.f0=true)∧ended (mach (actTab (openers++ws)) l K' j top (addP x (p::r)))=shutAt (actTab (openers++ws)) l (K+1) c p.tok kids top r:=by
            intro x j hj hx K' hK'
            have hB:=(simulate hP k K' j top (by omega) hK').2 {p with kids:=p.kids++[x]} r h1 ⟨fun h=>absurd h (by simp),fun h=>by have:p.at_+1=j:=h;omega⟩ (Nat.lt_trans h3 hj) (fun y hy=>by
              rcases List.mem_append.1 hy with hy|hy
              · exact h4 y hy
              · rw [List.mem_singleton.1 hy]
                exact hx) h5
            dsimp only at hB
            revert hB
            cases rlist ws l k (r.length+1) (some (p.tok.f2,p.at_)) j (p.kids++[x]) with
            |bad j' e=>exact fun hB=>hB
            |fin o=>exact fun hB=>hB
            |shut c kids=>
              rintro ⟨g1,g2,g3,g4⟩
              refine ⟨by omega,g2,g3, ?_⟩
              refine Eq.trans g4 ?_
              unfold shutAt
              cases badIn l c (dropN l c p.tok kids) with
              |some q=>rfl
              |none=>exact congrArg ended (mach_fuel _ _ _ _ _ (by omega) (by omega))
          rcases decision (ps:=p::r) hP hg with ⟨hc,hl,ha⟩|⟨hc,ho,hl⟩|⟨hc,ho,hl,ha⟩
          · rw [hc,hl,ha,if_pos rfl,if_neg (by decide),if_neg (by decide)]
            dsimp only
            by_cases hf:fitsR (tkAt l i) p.tok.f2=true
            · rw [if_pos hf,if_pos ((fits_iff hP hg hc _).1 hf)]
              refine ⟨Nat.le_refl _,hi,h4, ?_⟩
              unfold shutAt
              cases badIn l i (dropN l i p.tok p.kids) with
              |some q=>rfl
              |none=>exact congrArg ended (mach_fuel _ _ _ _ _ (by omega) (by omega))
            · rw [if_neg hf,if_neg (fun h=>hf ((fits_iff hP hg hc _).2 h))]
              rfl
          · rw [hc,hl,ho,if_pos rfl,if_neg Bool.false_ne_true,if_neg Bool.false_ne_true]
            exact again ⟨tkAt l i,⟨#[]⟩,[]⟩ (i+1) (Nat.lt_succ_self i) hg K (by omega)
          · rw [hc,hl,ho,ha,if_neg Bool.false_ne_true,if_pos rfl,if_neg Bool.false_ne_true,if_pos rfl]
            by_cases hd:100≤r.length+1
            · rw [if_pos hd,if_pos (show (p::r).length=100 by simp;omega)]
              rfl
            · rw [if_neg hd,if_neg (show¬(p::r).length=100 by simp;omega)]
              dsimp only
              have hB:=(simulate hP k K (i+1) top (by omega) (by omega)).2 ⟨tkAt l i,i,[]⟩ (p::r) (by simp;omega) ⟨fun _=>rfl,fun _=>rfl⟩ (Nat.lt_succ_self i) (fun x hx=>absurd hx (by simp)) hg
              dsimp only [List.length_cons] at hB
              revert hB
              cases rlist ws l k (r.length+1+1) (some ((tkAt l i).f2,i)) (i+1) [] with
              |bad j e=>exact fun hB=>hB
              |fin o=>exact fun hB=>hB.elim
              |shut c kids=>
                rintro ⟨g1,g2,g3,g4⟩
                dsimp only
                rw [drop_eq hP g3]
                unfold shutAt at g4
                revert g4
                cases badIn l c (dropN l c (tkAt l i) kids) with
                |some q=>exact fun g4=>g4
                |none=>
                  intro g4
                  dsimp only at g4⊢
                  have hA:=again ⟨tkAt l i,(tkAt l i).f2,kids⟩ (c+dropN l c (tkAt l i) kids+1) (by omega) hg K (by omega)
                  revert hA
                  cases rlist ws l k (r.length+1) (some (p.tok.f2,p.at_)) (c+dropN l c (tkAt l i) kids+1) (p.kids++[⟨tkAt l i,(tkAt l i).f2,kids⟩]) with
                  |bad j e=>exact fun hA=>g4.trans hA
                  |fin o=>exact fun hA=>hA
                  |shut c' kids'=>exact fun hA=>⟨hA.1,hA.2.1,hA.2.2.1,g4.trans hA.2.2.2⟩
      · constructor
        · intro out
          unfold rlist mach
          rw [if_pos hi,if_pos hi,if_neg hg]
          unfold step
          rw [if_neg hg]
          rfl
        · intro p r h1 h2 h3 h4 h5
          unfold rlist mach
          rw [if_pos hi,if_pos hi,if_neg hg]
          unfold step
          rw [if_neg hg]
          rfl
    · constructor
      · intro out
        unfold rlist
        rw [if_neg hi]
        cases K with
        |zero=>rfl
        |succ K=>
          unfold mach
          rw [if_neg hi]
          rfl
      · intro p r h1 h2 h3 h4 h5
        unfold rlist
        rw [if_neg hi]
        cases K with
        |zero=>rfl
        |succ K=>
          dsimp only
          unfold mach
          rw [if_neg hi]
          rfl
end
end Go.Proofs.YtipnlgmeonepfaaGreatDoor.PFa

set_option linter.unusedVariables false
namespace Go.Proofs.YtipnlgmeonepfaaGreatDoor.PFa
open Go.RowKit Go.Proofs.YtipnlgmeonepfaaGreatDoorW.PrintWords Go.Proofs.YtipnlgmeonepfaaGreatDoorW.PrintLast Go.Proofs.YtipnlgmeonepfaaGreatDoorW.PrintMore
mutual
/-- All tokens of fragments. -/
def flF:Fg→List Tk
  |⟨t,o,ks⟩=>if o.toList.isEmpty=true then [t] else t::(flL ks++[clos ⟨t,o,ks⟩])
def flL:List Fg→List Tk
  |[]=>[]
  |x::r=>flF x++flL r
end
def hdN (F:List Tk) (s:ByteArray):Bool:=match F with
  |[]=>false
  |t::_=>(t.f0==1)&&(t.f2.toList==s.toList)
def stopT (t:Tk):Bool:=closesR t||((t.f0==5)&&memB t.f2 stopSigns)
def hdS (F:List Tk):Bool:=match F with
  |[]=>true
  |t::_=>stopT t
def wordL (F:List Tk) (s:ByteArray):Bool:=(s.toList !=[])&&hdN F s
def dropL (F:List Tk) (op:ByteArray) (kids:List Fg):Nat:=
  if op.toList=cClass∨op.toList=cMethod∨op.toList=cMacro then
    if wordL F op=true∧wordL F.tail (nameR kids)=true∧hdS F.tail.tail=true then 2
    else if (wordL F op=true∨wordL F (nameR kids)=true)∧hdS F.tail=true then 1 else 0
  else 0
def opensL (ws:List ByteArray) (t:Tk) (F:List Tk) (plain:Bool):Bool:=
  if t.f0=5 then (bracketR t.f2).toList !=[]
  else if t.f0=1∧plain=false∧memB t.f2 (openers++ws)=true then !((t.f2.toList==cClass)&&hdN F slotName) else false
mutual
/-- Can a fragment be read back where these tokens follow? -/
def okF (ws:List ByteArray) (d:Nat) (pl:Bool):Fg→List Tk→Prop
  |⟨t,o,ks⟩,F=>Pure.good t=true∧closesR t=false∧
    (if o.toList.isEmpty=true then o=⟨#[]⟩∧ks=[]∧opensL ws t F pl=false
     else o=t.f2∧opensL ws t (flL ks++clos ⟨t,o,ks⟩::F) pl=true∧d<100∧okL ws (d+1) (t.f2.toList==cMacro) ks (clos ⟨t,o,ks⟩::F)∧dropL F o ks=0)
def okL (ws:List ByteArray) (d:Nat) (pl:Bool):List Fg→List Tk→Prop
  |[],_=>True
  |x::r,F=>okF ws d pl x (flL r++F)∧okL ws d false r F
end
/-- Behind index i the list l has these tokens, but for closing tokens' marks and the names that are dropped behind them. -/
inductive Flt (l:List Tk):Nat→List Tk→Prop
  |done {i:Nat} (h:l.length≤i):Flt l i []
  |step {i:Nat} {F:List Tk} (h:i<l.length) (hc:closesR (tkAt l i)=false) (hF:Flt l (i+1) F):Flt l i (tkAt l i::F)
  | shut {i n : Nat} {F : List Tk} {u : Tk} (h : i < l.length) (hc : closesR (tkAt l i) = true) (h0 : u.f0 = (tkAt l i).f0) (h2 : u.f2 = (tkAt l i).f2) (hs : n ≠ 0 → stopsB l (i + 1 + n) = true)
      (hd: ∀j,j<n→i+1+j<l.length∧(tkAt l (i+1+j)).f0=1∧closesR (tkAt l (i+1+j))=false) (hF:Flt l (i+1+n) F):Flt l i (u::F)
section
variable {l:List Tk} {ws:List ByteArray} {F:List Tk}
theorem stopT_at {i:Nat} (h:i<l.length):stopT (tkAt l i)=stopsB l i:=by
  unfold stopsB stopT closesR
  rw [if_neg (by omega)]
  unfold isNm
  rw [decide_eq_true h,Bool.true_and,show (⟨#[101,110,100]⟩:ByteArray).toList=endText from Lib.toList_data _]
  have hs: ∀c:UInt8,((tkAt l i).f2.toList==[c])=decide ((⟨#[c]⟩:ByteArray)=(tkAt l i).f2):=fun c=>by
    rw [show ([c]:List UInt8)=(⟨#[c]⟩:ByteArray).data.toList from rfl,list_beq]
    exact decide_eq_decide.2 ⟨fun e=>e.symm,fun e=>e.symm⟩
  rw [hs,hs,hs]
  unfold memB stopSigns
  simp only [List.any_cons,List.any_nil,Bool.or_false]
  cases (tkAt l i).f0==1&&(tkAt l i).f2.toList==endText with
  |true=>rfl
  |false=>
    rw [if_neg Bool.false_ne_true,Bool.false_or]
    cases (tkAt l i).f0==5 with
    |false=>rfl
    |true=>
      simp only [Bool.true_and]
      cases decide ((⟨#[41]⟩:ByteArray)=(tkAt l i).f2)<;>cases decide ((⟨#[93]⟩:ByteArray)=(tkAt l i).f2)<;>cases decide ((⟨#[125]⟩:ByteArray)=(tkAt l i).f2)<;>cases decide ((⟨#[59]⟩:ByteArray)=(tkAt l i).f2)<;>cases decide ((⟨#[44]⟩:ByteArray)=(tkAt l i).f2)<;>rfl
theorem Flt.nm {i:Nat} (h:Flt l i F) (s:ByteArray):hdN F s=isNm l i s:=by
  unfold isNm
  cases h with
  |done h=>rw [decide_eq_false (by omega)];rfl
  |step h hc hF=>rw [decide_eq_true h];rfl
  |shut h hc h0 h2 hs hd hF=>rw [decide_eq_true h,←h0,←h2];rfl
theorem stopT_congr {t u:Tk} (h0:u.f0=t.f0) (h2:u.f2=t.f2):stopT u=stopT t:=by
  unfold stopT closesR
  rw [h0,h2]
theorem closesR_congr {t u:Tk} (h0:u.f0=t.f0) (h2:u.f2=t.f2):closesR u=closesR t:=by
  unfold closesR
  rw [h0,h2]
theorem Flt.stop {i:Nat} (h:Flt l i F):hdS F=stopsB l i:=by
  cases h with
  |done h=>unfold stopsB;rw [if_pos h];rfl
  |step h hc hF=>exact stopT_at h
  |shut h hc h0 h2 hs hd hF=>exact (stopT_congr h0 h2).trans (stopT_at h)
theorem Flt.next {i:Nat} (h:Flt l i F) (hi:i<l.length) (hc:closesR (tkAt l i)=false):Flt l (i+1) F.tail:=by
  cases h with
  |done h=>omega
  |step h hc hF=>exact hF
  |shut h hc' h0 h2 hs hd hF=>rw [hc] at hc';cases hc'
theorem Flt.word {i:Nat} (h:Flt l i F) (s:ByteArray):wordL F s=wordR l i s:=by
  unfold wordL wordR
  rw [h.nm]
theorem word_open {i:Nat} {s:ByteArray} (h:wordR l i s=true) (hs:s.toList≠endText):i<l.length∧(tkAt l i).f0=1∧closesR (tkAt l i)=false:=by
  unfold wordR isNm at h
  simp only [Bool.and_eq_true,decide_eq_true_eq,beq_iff_eq] at h
  obtain ⟨_,⟨h1,h2⟩,h3⟩:=h
  refine ⟨h1,h2, ?_⟩
  unfold closesR
  rw [h2,h3,beq_false_of_ne hs]
  rfl
theorem drop_word {op:ByteArray} (h:op.toList=cClass∨op.toList=cMethod∨op.toList=cMacro):op.toList≠endText:=by
  rcases h with h|h|h<;>rw [h]<;>decide
/-- What is dropped behind a closing token. -/
theorem dropR_spec {c : Nat} {op : ByteArray} {kids : List Fg} (hn : (nameR kids).toList ≠ endText) {n : Nat} (h : dropR l c op kids = n) :
    (n≠0→stopsB l (c+1+n)=true)∧ ∀j,j<n→c+1+j<l.length∧(tkAt l (c+1+j)).f0=1∧closesR (tkAt l (c+1+j))=false:=by
  unfold dropR at h
  split at h
  · rename_i ho
    split at h
    · rename_i hc
      subst h
      refine ⟨fun _=>hc.2.2,fun j hj=> ?_⟩
      rcases (by omega:j=0∨j=1) with rfl|rfl
      · exact word_open hc.1 (drop_word ho)
      · exact word_open hc.2.1 hn
    · split at h
      · rename_i hc
        subst h
        refine ⟨fun _=>hc.2,fun j hj=> ?_⟩
        obtain rfl:j=0:=by omega
        rcases hc.1 with hw|hw
        · exact word_open hw (drop_word ho)
        · exact word_open hw hn
      · subst h
        exact ⟨fun h=>absurd rfl h,fun j hj=>absurd hj (by omega)⟩
  · subst h
    exact ⟨fun h=>absurd rfl h,fun j hj=>absurd hj (by omega)⟩
theorem stop_noword {s:ByteArray} (hs:s.toList≠endText) (h:hdS F=true):wordL F s=false:=by
  cases F with
  |nil=>unfold wordL;exact Bool.and_false _
  |cons t r=>
    have h':stopT t=true:=h
    have e:hdN (t::r) s=false:=by
      show ((t.f0==1)&&(t.f2.toList==s.toList))=false
      cases h1:t.f0==1 with
      |false=>rfl
      |true=>
        rw [Bool.true_and]
        refine beq_false_of_ne fun h2=> ?_
        unfold stopT closesR at h'
        have h5:(t.f0==5)=false:=by rw [beq_iff_eq.1 h1];rfl
        rw [h1,h5,h2,beq_false_of_ne hs] at h'
        cases h'
    unfold wordL
    rw [e,Bool.and_false]
theorem drop_flat {c:Nat} {op:ByteArray} {kids:List Fg} (hn:(nameR kids).toList≠endText) (hF:Flt l (c+1+dropR l c op kids) F):dropL F op kids=0:=by
  by_cases hz:dropR l c op kids=0
  · rw [hz] at hF
    have hF':Flt l (c+1) F:=hF
    clear hF
    unfold dropR at hz
    unfold dropL
    split at hz
    · rename_i ho
      have w0:=hF'.word op
      have n0:=hF'.word (nameR kids)
      have hn0: ∀{s},wordL F s=true→s.toList≠endText→Flt l (c+2) F.tail:=by
        intro s hw hs
        rw [hF'.word] at hw
        obtain ⟨h1,_,h3⟩:=word_open hw hs
        exact hF'.next h1 h3
      rw [if_pos ho]
      split at hz
      · cases hz
      · rename_i g1
        split at hz
        · cases hz
        · rename_i g2
          rw [if_neg,if_neg]
          · rintro ⟨h1,h2⟩
            have hG:Flt l (c+2) F.tail:=by
              rcases h1 with h1|h1
              · exact hn0 h1 (drop_word ho)
              · exact hn0 h1 hn
            refine g2 ⟨?_,by rw [←hG.stop];exact h2⟩
            rw [←w0,←n0]
            exact h1
          · rintro ⟨h1,h2,h3⟩
            have hG:=hn0 h1 (drop_word ho)
            have w1:=hG.word (nameR kids)
            have hH:Flt l (c+3) F.tail.tail:=by
              rw [w1] at h2
              obtain ⟨k1,_,k3⟩:=word_open h2 hn
              exact hG.next k1 k3
            exact g1 ⟨by rw [←w0];exact h1,by rw [←w1];exact h2,by rw [←hH.stop];exact h3⟩
    · rename_i ho
      rw [if_neg ho]
  · have hs:=(dropR_spec hn rfl).1 hz
    have hS:hdS F=true:=hF.stop.trans hs
    unfold dropL
    split
    · rename_i ho
      rw [if_neg,if_neg]
      · rintro ⟨h1,_⟩
        rw [stop_noword (drop_word ho) hS,stop_noword hn hS] at h1
        rcases h1 with h1|h1<;>cases h1
      · rintro ⟨h1,_⟩
        rw [stop_noword (drop_word ho) hS] at h1
        cases h1
    · rfl
theorem opens_flat {i:Nat} {pl:Bool} (hF:Flt l (i+1) F):opensL ws (tkAt l i) F pl=opensR ws l i pl:=by
  unfold opensL opensR
  rw [hF.nm]
theorem opens_ne {t:Tk} {pl:Bool} (hP:Plainly ws) (hg:Pure.good t=true) (h:opensL ws t F pl=true):t.f2.toList.isEmpty=false:=by
  cases he:t.f2.toList.isEmpty with
  |false=>rfl
  |true=>
    exfalso
    have e:t.f2=⟨#[]⟩:=(list_eq t.f2 ⟨#[]⟩).1 (List.isEmpty_iff.1 he)
    obtain ⟨h3,h4⟩:=good_kind hg
    rw [e,hP.s0] at h3
    exact h4 h3.symm
theorem okL_name {d:Nat} {pl:Bool} {kids:List Fg} (h:okL ws d pl kids F):(nameR kids).toList≠endText:=by
  have e0:(⟨#[]⟩:ByteArray).toList≠endText:=by rw [Lib.toList_data];decide
  cases kids with
  |nil=>exact e0
  |cons x r=>
    obtain ⟨t,o,ks⟩:=x
    rw [okL,okF] at h
    unfold nameR
    dsimp only
    split
    · rename_i hx
      intro he
      have hc:=h.1.2.1
      unfold closesR at hc
      rw [hx.2,he] at hc
      cases hc
    · exact e0
theorem fits_clos {t u:Tk} {op:ByteArray} {ks:List Fg} (h:fitsR t op=true):(clos ⟨u,op,ks⟩).f0=t.f0∧(clos ⟨u,op,ks⟩).f2=t.f2:=by
  have e2: ∀c:UInt8,(op.toList=[c])↔(op=⟨#[c]⟩):=fun c=>list_eq _ ⟨#[c]⟩
  have tl: ∀{b:ByteArray},t.f2.toList=b.toList→b=t.f2:=fun h=>((toList_eq _ _).1 h).symm
  unfold fitsR bracketR at h
  show closeKd op=t.f0∧closeTx op=t.f2
  unfold closeKd closeTx
  by_cases h1:op.toList=[40]
  · rw [if_pos h1] at h
    rw [if_pos h1,if_pos h1]
    simp only [Lib.toList_data (⟨#[41]⟩:ByteArray)] at h
    simp at h
    exact ⟨h.1.symm,tl (by rw [Lib.toList_data ⟨#[41]⟩];exact h.2)⟩
  rw [if_neg h1] at h
  rw [if_neg h1,if_neg h1]
  by_cases h2:op.toList=[91]
  · rw [if_pos h2] at h
    rw [if_pos h2,if_pos h2]
    simp only [Lib.toList_data (⟨#[93]⟩:ByteArray)] at h
    simp at h
    exact ⟨h.1.symm,tl (by rw [Lib.toList_data ⟨#[93]⟩];exact h.2)⟩
  rw [if_neg h2] at h
  rw [if_neg h2,if_neg h2]
  by_cases h3:op.toList=[123]
  · rw [if_pos h3] at h
    rw [if_pos h3,if_pos h3]
    simp only [Lib.toList_data (⟨#[125]⟩:ByteArray)] at h
    simp at h
    exact ⟨h.1.symm,tl (by rw [Lib.toList_data ⟨#[125]⟩];exact h.2)⟩
  rw [if_neg h3] at h
  rw [if_neg h3,if_neg h3]
  simp only [Lib.toList_data (⟨#[]⟩:ByteArray)] at h
  simp [endText] at h
  exact ⟨h.1.symm,tl (by rw [Lib.toList_data ⟨#[101,110,100]⟩];exact h.2)⟩
theorem flF_leaf (t:Tk):flF ⟨t,⟨#[]⟩,[]⟩=[t]:=by
  rw [flF,if_pos (by rw [Lib.toList_data];rfl)]
theorem flF_group {t:Tk} {o:ByteArray} {ks:List Fg} (h:o.toList.isEmpty=false):flF ⟨t,o,ks⟩=t::(flL ks++[clos ⟨t,o,ks⟩]):=by
  rw [flF,if_neg (by rw [h];decide)]
theorem flL_append: ∀a b:List Fg,flL (a++b)=flL a++flL b
  |[],b=>by rw [flL];rfl
  |x::r,b=>by rw [List.cons_append,flL,flL,flL_append r b,List.append_assoc]
theorem name_of {kids:List Fg} (h: ∀x∈kids,closesR x.f0=false):(nameR kids).toList≠endText:=by
  have e0:(⟨#[]⟩:ByteArray).toList≠endText:=by rw [Lib.toList_data];decide
  cases kids with
  |nil=>exact e0
  |cons x r=>
    unfold nameR
    dsimp only
    split
    · rename_i hx
      intro he
      have hc:=h x List.mem_cons_self
      unfold closesR at hc
      rw [hx.2,he] at hc
      cases hc
    · exact e0
theorem plainR_snoc (fr:Option (ByteArray×Nat)) (acc:List Fg) (x:Fg):plainR fr (acc++[x])=false:=by
  unfold plainR
  rcases fr with _|⟨op,q⟩
  · rfl
  · cases acc<;>rfl
/-- What the reference's list reads can be read back. -/
theorem rl_ok (hP : Plainly ws) : ∀ (k d i : Nat) (fr : Option (ByteArray × Nat)) (acc : List Fg),
    match rlist ws l k d fr i acc with
    | .bad _ _=>True
    | .fin out=>fr=none∧(l.length<k+i→ ∃r,out=acc++r∧Flt l i (flL r)∧okL ws d (plainR fr acc) r [])
    | .shut c out=>i≤c∧c<l.length∧closesR (tkAt l c)=true∧(∃op q,fr=some (op,q)∧fitsR (tkAt l c) op=true)∧
      ∃r,out=acc++r∧(∀x∈r,closesR x.f0=false)∧ ∀F,Flt l c F→Flt l i (flL r++F)∧okL ws d (plainR fr acc) r F
  |0,d,i,fr,acc=>by
    unfold rlist
    rcases fr with _|⟨op,q⟩
    · exact ⟨rfl,fun h=>⟨[],by simp,.done (by omega),trivial⟩⟩
    · trivial
  |k+1,d,i,fr,acc=>by
    by_cases hi:i<l.length
    · by_cases hg:Pure.good (tkAt l i)=true
      · unfold rlist
        rw [if_pos hi,if_pos hg]
        by_cases hc:closesR (tkAt l i)=true
        · rw [if_pos hc]
          rcases fr with _|⟨op,q⟩
          · trivial
          · dsimp only
            by_cases hf:fitsR (tkAt l i) op=true
            · rw [if_pos hf]
              exact ⟨Nat.le_refl _,hi,hc,⟨op,q,rfl,hf⟩,[],by simp,by simp,fun F hF=>⟨hF,trivial⟩⟩
            · rw [if_neg hf]
              trivial
        · rw [if_neg hc]
          rw [Bool.not_eq_true] at hc
          by_cases ho:opensR ws l i (plainR fr acc)=true
          · rw [if_pos ho]
            by_cases hd:100≤d
            · rw [if_pos hd]
              trivial
            · rw [if_neg hd]
              have hA:=rl_ok hP k (d+1) (i+1) (some ((tkAt l i).f2,i)) []
              revert hA
              cases rlist ws l k (d+1) (some ((tkAt l i).f2,i)) (i+1) [] with
              |bad j e=>intro _;trivial
              |fin out=>intro hA;cases hA.1
              |shut c kids=>
                rintro ⟨hic,hcl,hcc,⟨op,q,hop,hfit⟩,r,hkr,hcls,hall⟩
                rw [List.nil_append] at hkr
                subst hkr
                injection hop with hop
                injection hop with hop1 hop2
                subst hop1
                dsimp only
                have hpl: ∀o q,plainR (some (o,q)) []=(o.toList==cMacro):=fun _ _=>rfl
                rw [hpl] at hall
                cases hbad:badIn l c (dropR l c (tkAt l i).f2 kids) with
                |some q'=>trivial
                |none=>
                  dsimp only
                  have hcn: ∀ks,(clos ⟨tkAt l i,(tkAt l i).f2,ks⟩).f0=(tkAt l c).f0∧(clos ⟨tkAt l i,(tkAt l i).f2,ks⟩).f2=(tkAt l c).f2:=fun ks=>fits_clos hfit
                  have hpn:=plainR_snoc fr acc ⟨tkAt l i,(tkAt l i).f2,kids⟩
                  have hnm:=name_of hcls
                  -- what follows, put behind the group
                  have main: ∀F,Flt l (c+dropR l c (tkAt l i).f2 kids+1) F→Flt l i (flF ⟨tkAt l i,(tkAt l i).f2,kids⟩++F)∧okF ws d (plainR fr acc) ⟨tkAt l i,(tkAt l i).f2,kids⟩ F:=by
                    intro F hF
                    have hF2:Flt l (c+1+dropR l c (tkAt l i).f2 kids) F:=by
                      rw [show c+1+dropR l c (tkAt l i).f2 kids=c+dropR l c (tkAt l i).f2 kids+1 by omega]
                      exact hF
                    obtain ⟨hs1,hs2⟩:=dropR_spec hnm (l:=l) (c:=c) (op:=(tkAt l i).f2) rfl
                    have hsh:=Flt.shut hcl hcc (hcn kids).1 (hcn kids).2 hs1 hs2 hF2
                    obtain ⟨g1,g2⟩:=hall _ hsh
                    have hopen:opensL ws (tkAt l i) (flL kids++clos ⟨tkAt l i,(tkAt l i).f2,kids⟩::F) (plainR fr acc)=true:=(opens_flat g1).trans ho
                    have hne:=opens_ne hP hg hopen
                    refine ⟨?_, ?_⟩
                    · rw [flF_group hne]
                      have:=Flt.step hi hc g1
                      simpa using this
                    · rw [okF,if_neg (by rw [hne];decide)]
                      exact ⟨hg,hc,rfl,hopen,by omega,g2,drop_flat hnm hF2⟩
                  have hB:=rl_ok hP k d (c+dropR l c (tkAt l i).f2 kids+1) fr (acc++[⟨tkAt l i,(tkAt l i).f2,kids⟩])
                  revert hB
                  cases rlist ws l k d fr (c+dropR l c (tkAt l i).f2 kids+1) (acc++[⟨tkAt l i,(tkAt l i).f2,kids⟩]) with
                  |bad j e=>intro _;trivial
                  |fin out=>
                    rintro ⟨h1,h2⟩
                    refine ⟨h1,fun hk=> ?_⟩
                    obtain ⟨r',rfl,g1,g2⟩:=h2 (by omega)
                    rw [hpn] at g2
                    obtain ⟨m1,m2⟩:=main _ g1
                    refine ⟨⟨tkAt l i,(tkAt l i).f2,kids⟩::r',by simp,by rw [flL];exact m1, ?_⟩
                    rw [okL,List.append_nil]
                    exact ⟨m2,g2⟩
                  |shut c' out=>
                    rintro ⟨h0,h1,h2,h3,r',rfl,h5,h4⟩
                    refine ⟨by omega,h1,h2,h3,⟨tkAt l i,(tkAt l i).f2,kids⟩::r',by simp, ?_,fun F hF=> ?_⟩
                    · intro x hx
                      rcases List.mem_cons.1 hx with rfl|hx
                      · exact hc
                      · exact h5 x hx
                    · obtain ⟨g1,g2⟩:=h4 F hF
                      rw [hpn] at g2
                      obtain ⟨m1,m2⟩:=main _ g1
                      rw [flL,okL,List.append_assoc]
                      exact ⟨m1,m2,g2⟩
          · rw [if_neg ho]
            rw [Bool.not_eq_true] at ho
            have hpn:=plainR_snoc fr acc ⟨tkAt l i,⟨#[]⟩,[]⟩
            have main: ∀F,Flt l (i+1) F→Flt l i (flF ⟨tkAt l i,⟨#[]⟩,[]⟩++F)∧okF ws d (plainR fr acc) ⟨tkAt l i,⟨#[]⟩,[]⟩ F:=by
              intro F hF
              refine ⟨?_, ?_⟩
              · rw [flF_leaf]
                exact Flt.step hi hc hF
              · rw [okF,if_pos (by rw [Lib.toList_data];rfl)]
                exact ⟨hg,hc,rfl,rfl,(opens_flat hF).trans ho⟩
            have hB:=rl_ok hP k d (i+1) fr (acc++[⟨tkAt l i,⟨#[]⟩,[]⟩])
            revert hB
            cases rlist ws l k d fr (i+1) (acc++[⟨tkAt l i,⟨#[]⟩,[]⟩]) with
            |bad j e=>intro _;trivial
            |fin out=>
              rintro ⟨h1,h2⟩
              refine ⟨h1,fun hk=> ?_⟩
              obtain ⟨r',rfl,g1,g2⟩:=h2 (by omega)
              rw [hpn] at g2
              obtain ⟨m1,m2⟩:=main _ g1
              refine ⟨⟨tkAt l i,⟨#[]⟩,[]⟩::r',by simp,by rw [flL];exact m1, ?_⟩
              rw [okL,List.append_nil]
              exact ⟨m2,g2⟩
            |shut c' out=>
              rintro ⟨h0,h1,h2,h3,r',rfl,h5,h4⟩
              refine ⟨by omega,h1,h2,h3,⟨tkAt l i,⟨#[]⟩,[]⟩::r',by simp, ?_,fun F hF=> ?_⟩
              · intro x hx
                rcases List.mem_cons.1 hx with rfl|hx
                · exact hc
                · exact h5 x hx
              · obtain ⟨g1,g2⟩:=h4 F hF
                rw [hpn] at g2
                obtain ⟨m1,m2⟩:=main _ g1
                rw [flL,okL,List.append_assoc]
                exact ⟨m1,m2,g2⟩
      · unfold rlist
        rw [if_pos hi,if_neg hg]
        trivial
    · unfold rlist
      rw [if_neg hi]
      rcases fr with _|⟨op,q⟩
      · exact ⟨rfl,fun h=>⟨[],by simp,.done (by omega),trivial⟩⟩
      · trivial
end
end Go.Proofs.YtipnlgmeonepfaaGreatDoor.PFa

set_option linter.unusedVariables false
namespace Go.Proofs.YtipnlgmeonepfaaGreatDoor.PFa
open Go.RowKit Go.Proofs.YtipnlgmeonepfaaGreatDoorW.PrintWords Go.Proofs.YtipnlgmeonepfaaGreatDoorW.PrintLast Go.Proofs.YtipnlgmeonepfaaGreatDoorW.PrintMore
section
variable {l m:List Tk} {ws:List ByteArray} {F:List Tk}
theorem rl_fuel : ∀ (K K' d i : Nat) (fr : Option (ByteArray × Nat)) (acc : List Fg), l.length < K + i → l.length < K' + i →
    rlist ws l K d fr i acc=rlist ws l K' d fr i acc∧ ∀c o,rlist ws l K d fr i acc=.shut c o→i≤c
  |0,K',d,i,fr,acc,h,h'=>by
    have e:rlist ws l 0 d fr i acc=rlist ws l K' d fr i acc:=by
      cases K' with
      |zero=>rfl
      |succ K'=>
        have hn: ¬i<l.length:=by omega
        unfold rlist
        rw [if_neg hn]
    refine ⟨e,fun c o ho=> ?_⟩
    unfold rlist at ho
    rcases fr with _|⟨op,q⟩<;>cases ho
  |K+1,0,d,i,fr,acc,h,h'=>by
    have e:rlist ws l (K+1) d fr i acc=rlist ws l 0 d fr i acc:=by
      have hn: ¬i<l.length:=by omega
      unfold rlist
      rw [if_neg hn]
    refine ⟨e,fun c o ho=> ?_⟩
    rw [e] at ho
    unfold rlist at ho
    rcases fr with _|⟨op,q⟩<;>cases ho
  |K+1,K'+1,d,i,fr,acc,h,h'=>by
    unfold rlist
    by_cases hi:i<l.length
    · rw [if_pos hi,if_pos hi]
      by_cases hg:Pure.good (tkAt l i)=true
      · rw [if_pos hg,if_pos hg]
        by_cases hc:closesR (tkAt l i)=true
        · rw [if_pos hc,if_pos hc]
          refine ⟨rfl,fun c o ho=> ?_⟩
          rcases fr with _|⟨op,q⟩
          · cases ho
          · dsimp only at ho
            split at ho
            · injection ho with ho _
              omega
            · cases ho
        · rw [if_neg hc,if_neg hc]
          by_cases ho:opensR ws l i (plainR fr acc)=true
          · rw [if_pos ho,if_pos ho]
            by_cases hd:100≤d
            · rw [if_pos hd,if_pos hd]
              exact ⟨rfl,fun c o ho=>by cases ho⟩
            · rw [if_neg hd,if_neg hd]
              obtain ⟨e1,e2⟩:=rl_fuel K K' (d+1) (i+1) (some ((tkAt l i).f2,i)) [] (by omega) (by omega)
              rw [←e1]
              revert e2
              cases rlist ws l K (d+1) (some ((tkAt l i).f2,i)) (i+1) [] with
              |bad j e=>exact fun _=>⟨rfl,fun c o ho=>by cases ho⟩
              |fin out=>exact fun _=>⟨rfl,fun c o ho=>by cases ho⟩
              |shut c kids=>
                intro e2
                have hic:=e2 c kids rfl
                dsimp only
                cases badIn l c (dropR l c (tkAt l i).f2 kids) with
                |some q=>exact ⟨rfl,fun c o ho=>by cases ho⟩
                |none=>
                  obtain ⟨g1,g2⟩:=rl_fuel K K' d (c+dropR l c (tkAt l i).f2 kids+1) fr (acc++[⟨tkAt l i,(tkAt l i).f2,kids⟩]) (by omega) (by omega)
                  exact ⟨g1,fun c o ho=>by have:=g2 c o ho;omega⟩
          · rw [if_neg ho,if_neg ho]
            obtain ⟨g1,g2⟩:=rl_fuel K K' d (i+1) fr (acc++[⟨tkAt l i,⟨#[]⟩,[]⟩]) (by omega) (by omega)
            exact ⟨g1,fun c o ho=>by have:=g2 c o ho;omega⟩
      · rw [if_neg hg,if_neg hg]
        exact ⟨rfl,fun c o ho=>by cases ho⟩
    · rw [if_neg hi,if_neg hi]
      refine ⟨rfl,fun c o ho=> ?_⟩
      rcases fr with _|⟨op,q⟩<;>cases ho
/-- The list m has these tokens from i on. -/
def At (m:List Tk) (i:Nat) (F:List Tk):Prop:=m.drop i=F
theorem At.head {i:Nat} {t:Tk} (h:At m i (t::F)):i<m.length∧tkAt m i=t∧At m (i+1) F:=by
  unfold At at h⊢
  have hi:i<m.length:=by
    rcases Nat.lt_or_ge i m.length with hi|hi
    · exact hi
    · rw [List.drop_of_length_le hi] at h
      cases h
  rw [List.drop_eq_getElem_cons hi] at h
  injection h with h1 h2
  refine ⟨hi, ?_,h2⟩
  unfold tkAt rd_T39
  rw [Int.toNat_natCast,List.getD_eq_getElem?_getD,List.getElem?_eq_getElem hi]
  exact h1
theorem At.nil {i:Nat} (h:At m i []):m.length≤i:=List.drop_eq_nil_iff.1 h
theorem At.tail {i:Nat} (h:At m i F):At m (i+1) F.tail:=by
  unfold At at h⊢
  rw [←h,List.tail_drop]
theorem At.skip {a:List Tk}: ∀{i:Nat},At m i (a++F)→At m (i+a.length) F:=by
  intro i h
  unfold At at h⊢
  rw [←List.drop_drop,h,List.drop_left]
theorem At.nm {i:Nat} (h:At m i F) (s:ByteArray):hdN F s=isNm m i s:=by
  unfold isNm
  cases F with
  |nil=>rw [decide_eq_false (by have:=h.nil;omega)];rfl
  |cons t r=>
    obtain ⟨h1,h2,_⟩:=h.head
    rw [decide_eq_true h1,h2]
    rfl
theorem At.stop {i:Nat} (h:At m i F):hdS F=stopsB m i:=by
  cases F with
  |nil=>unfold stopsB;rw [if_pos h.nil];rfl
  |cons t r=>
    obtain ⟨h1,h2,_⟩:=h.head
    rw [←stopT_at h1,h2]
    rfl
theorem At.drop {c:Nat} (h:At m (c+1) F) (op:ByteArray) (kids:List Fg):dropL F op kids=dropR m c op kids:=by
  have w: ∀{i:Nat} {G:List Tk},At m i G→ ∀s,wordL G s=wordR m i s:=fun hG s=>by
    unfold wordL wordR
    rw [hG.nm]
  unfold dropL dropR
  rw [w h,w h.tail,w h,h.tail.stop,h.tail.tail.stop]
theorem At.opens {i:Nat} (h:At m (i+1) F) (pl:Bool):opensL ws (tkAt m i) F pl=opensR ws m i pl:=by
  unfold opensL opensR
  rw [h.nm]
theorem clos_good {t:Tk} {o:ByteArray} {ks:List Fg} (hP:Plainly ws) (hg:Pure.good t=true):Pure.good (clos ⟨t,o,ks⟩)=true∧closesR (clos ⟨t,o,ks⟩)=true∧fitsR (clos ⟨t,o,ks⟩) o=true:=by
  have hg2:=of_decide_eq_true hg
  have ck:closeKd o=5∨closeKd o=1:=by
    unfold closeKd
    split
    · exact .inl rfl
    · split
      · exact .inl rfl
      · split
        · exact .inl rfl
        · exact .inr rfl
  have ck2:closeKd o≠2:=by omega
  have ck0:closeKd o≠0:=by omega
  have kd:Pure.kindOf (closeTx o)=closeKd o∧closesR (clos ⟨t,o,ks⟩)=true∧fitsR (clos ⟨t,o,ks⟩) o=true:=by
    unfold fitsR bracketR closesR
    show Pure.kindOf (closeTx o)=closeKd o∧((closeKd o==1&&(closeTx o).toList==endText)||(closeKd o==5&&((closeTx o).toList==[41]||(closeTx o).toList==[93]||(closeTx o).toList==[125])))=true∧_
    have e2:(clos ⟨t,o,ks⟩).f0=closeKd o:=rfl
    have e3:(clos ⟨t,o,ks⟩).f2=closeTx o:=rfl
    rw [e2,e3]
    unfold closeKd closeTx
    by_cases h1:o.toList=[40]
    · simp only [if_pos h1]
      simp only [Lib.toList_data]
      exact ⟨hP.s41,by decide,by decide⟩
    simp only [if_neg h1]
    by_cases h2:o.toList=[91]
    · simp only [if_pos h2]
      simp only [Lib.toList_data]
      exact ⟨hP.s93,by decide,by decide⟩
    simp only [if_neg h2]
    by_cases h3:o.toList=[123]
    · simp only [if_pos h3]
      simp only [Lib.toList_data]
      exact ⟨hP.s125,by decide,by decide⟩
    simp only [if_neg h3]
    simp only [Lib.toList_data]
    exact ⟨hP.ends,by decide,by decide⟩
  refine ⟨?_,kd.2⟩
  unfold Pure.good
  have e1:(clos ⟨t,o,ks⟩).f1=0:=rfl
  have e2:(clos ⟨t,o,ks⟩).f0=closeKd o:=rfl
  have e3:(clos ⟨t,o,ks⟩).f2=closeTx o:=rfl
  refine decide_eq_true ⟨⟨by rw [e2];exact ck0,by rw [e2,e3];exact kd.1⟩, ?_,hg2.2.2.1,hg2.2.2.2⟩
  rw [e1,e2,if_neg ck2]
theorem flF_pos (x:Fg):0<(flF x).length:=by
  obtain ⟨t,o,ks⟩:=x
  rw [flF]
  split
  · exact Nat.one_pos
  · simp
theorem rl_back (hP : Plainly ws) : ∀ (n : Nat) (r : List Fg), (flL r).length ≤ n → ∀ (d i : Nat) (fr : Option (ByteArray × Nat)) (acc : List Fg) (F : List Tk) (K K' : Nat),
    At m i (flL r++F)→okL ws d (plainR fr acc) r F→m.length<K+i→m.length<K'+(i+(flL r).length)→
    rlist ws m K d fr i acc=rlist ws m K' d fr (i+(flL r).length) (acc++r):=by
  intro n
  induction n with
  |zero=>
    intro r hr d i fr acc F K K' hA hok hK hK'
    cases r with
    |nil=>
      rw [List.append_nil]
      exact (rl_fuel K K' d i fr acc hK hK').1
    |cons x r=>
      exfalso
      rw [flL,List.length_append] at hr
      have:=flF_pos x
      omega
  |succ n ih=>
    intro r hr d i fr acc F K K' hA hok hK hK'
    cases r with
    |nil=>
      rw [List.append_nil]
      exact (rl_fuel K K' d i fr acc hK hK').1
    |cons x r=>
      obtain ⟨t,o,ks⟩:=x
      rw [okL,okF] at hok
      obtain ⟨⟨hg,hc,hx⟩,hr2⟩:=hok
      rw [flL,List.length_append] at hr hK'⊢
      have hpos:=flF_pos ⟨t,o,ks⟩
      rw [flL,List.append_assoc] at hA
      have hA0:=hA
      by_cases he:o.toList.isEmpty=true
      · rw [if_pos he] at hx
        obtain ⟨rfl,rfl,hopen⟩:=hx
        rw [flF_leaf] at hA hr hK'⊢
        obtain ⟨hi,ht,hA1⟩:=hA.head
        obtain ⟨K,rfl⟩: ∃q,K=q+1:=⟨K-1,by omega⟩
        have hopen':opensR ws m i (plainR fr acc)=false:=by
          rw [←At.opens (ws:=ws) hA1,ht]
          exact hopen
        have e:rlist ws m (K+1) d fr i acc=rlist ws m K d fr (i+1) (acc++[⟨t,⟨#[]⟩,[]⟩]):=by
          conv=>lhs;unfold rlist
          rw [if_pos hi,ht,if_pos hg,hc,if_neg Bool.false_ne_true,hopen',if_neg Bool.false_ne_true]
        rw [e,ih r (by simp at hr;omega) d (i+1) fr (acc++([⟨t,⟨#[]⟩,[]⟩]:List Fg)) F K K' hA1 (by rw [plainR_snoc];exact hr2) (by omega) (by simp at hK';omega)]
        congr 1
        · simp;omega
        · simp
      · rw [if_neg he] at hx
        rw [Bool.not_eq_true] at he
        obtain ⟨rfl,hopen,hd,hks,hdr⟩:=hx
        have hf:=flF_group (ks:=ks) (t:=t) he
        rw [hf] at hA hr hK'⊢
        rw [List.cons_append] at hA
        obtain ⟨hi,ht,hA1⟩:=hA.head
        obtain ⟨K,rfl⟩: ∃q,K=q+1:=⟨K-1,by omega⟩
        have hA2:At m (i+1) (flL ks++(clos ⟨t,t.f2,ks⟩::(flL r++F))):=by
          have:(flL ks++[clos ⟨t,t.f2,ks⟩])++(flL r++F)=flL ks++(clos ⟨t,t.f2,ks⟩::(flL r++F)):=by simp
          rw [←this]
          exact hA1
        have hlen:(flL ks).length+(flL r).length+2≤n+1:=by simp at hr;omega
        have hlenK:m.length<K'+(i+((flL ks).length+2+(flL r).length)):=by simp at hK';omega
        have hopen':opensR ws m i (plainR fr acc)=true:=by
          rw [←At.opens (ws:=ws) hA2,ht]
          exact hopen
        have hpl:plainR (some (t.f2,i)) []=(t.f2.toList==cMacro):=rfl
        have hA3:=hA2.skip
        obtain ⟨hcl,hct,hA4⟩:=hA3.head
        obtain ⟨cg,cc,cf⟩:=clos_good (ws:=ws) (o:=t.f2) (ks:=ks) hP hg
        -- the kids, up to the closing token
        have hin:rlist ws m K (d+1) (some (t.f2,i)) (i+1) []=.shut (i+1+(flL ks).length) ks:=by
          rw [ih ks (by omega) (d+1) (i+1) (some (t.f2,i)) [] (clos ⟨t,t.f2,ks⟩::(flL r++F)) K (m.length+1) hA2 (by rw [hpl];exact hks) (by omega) (by omega)]
          unfold rlist
          rw [if_pos hcl,hct,if_pos cg,if_pos cc]
          dsimp only
          rw [if_pos cf]
          rfl
        have hdz:dropR m (i+1+(flL ks).length) t.f2 ks=0:=by
          rw [←hA4.drop]
          exact hdr
        have e:rlist ws m (K+1) d fr i acc=rlist ws m K d fr (i+1+(flL ks).length+1) (acc++[⟨t,t.f2,ks⟩]):=by
          conv=>lhs;unfold rlist
          rw [if_pos hi,ht,if_pos hg,hc,if_neg Bool.false_ne_true,hopen',if_pos rfl,if_neg (by omega),hin]
          dsimp only
          rw [hdz]
          rfl
        rw [e,ih r (by omega) d (i+1+(flL ks).length+1) fr (acc++([⟨t,t.f2,ks⟩]:List Fg)) F K K' hA4 (by rw [plainR_snoc];exact hr2) (by omega) (by omega)]
        congr 1
        · simp;omega
        · simp
/-- The reference's list over fragments' own tokens. -/
theorem rl_flat (hP:Plainly ws) {r:List Fg} (h:okL ws 0 false r []) (K:Nat) (hK:(flL r).length<K):rlist ws (flL r) K 0 none 0 []=.fin r:=by
  rw [rl_back (m:=flL r) hP (flL r).length r (Nat.le_refl _) 0 0 none [] [] K (1+(flL r).length) (by unfold At;simp) h (by omega) (by omega)]
  have hn: ¬(0+(flL r).length<(flL r).length):=by omega
  rw [Nat.add_comm 1]
  unfold rlist
  rw [if_neg hn]
  rfl
end
end Go.Proofs.YtipnlgmeonepfaaGreatDoor.PFa

set_option linter.unusedVariables false
namespace Go.Proofs.YtipnlgmeonepfaaGreatDoor.PFa
open Go.RowKit Go.Proofs.YtipnlgmeonepfaaGreatDoorW.PrintWords Go.Proofs.YtipnlgmeonepfaaGreatDoorW.PrintLast Go.Proofs.YtipnlgmeonepfaaGreatDoorW.PrintMore
section
variable {l:List Tk} {ws:List ByteArray} {F:List Tk}
theorem deep_toks: ∀(d:Nat) (r:List Fg),deepB d r=false→toksOf d r=flL r
  |d,[],_=>by rw [toksOf_eq,flL];rfl
  |0,x::r,h=>by
    obtain ⟨t,o,ks⟩:=x
    unfold deepB at h
    rw [List.any_cons,Bool.or_eq_false_iff,Bool.not_eq_false'] at h
    have e:=deep_toks 0 r (by unfold deepB;exact h.2)
    rw [toksOf_eq] at e⊢
    rw [List.flatMap_cons,e,flL]
    congr 1
    rw [flF,if_pos h.1]
    unfold elemT
    rw [if_pos h.1]
  |d+1,x::r,h=>by
    obtain ⟨t,o,ks⟩:=x
    unfold deepB at h
    rw [List.any_cons,Bool.or_eq_false_iff] at h
    have e:=deep_toks (d+1) r (by unfold deepB;exact h.2)
    rw [toksOf_eq] at e⊢
    rw [List.flatMap_cons,e,flL]
    congr 1
    rw [flF]
    unfold elemT
    cases he:o.toList.isEmpty with
    |true=>rw [if_pos rfl,if_pos rfl]
    |false=>
      have h1:=h.1
      dsimp only at h1
      rw [he,Bool.not_false,Bool.true_and] at h1
      rw [if_neg Bool.false_ne_true,if_neg Bool.false_ne_true]
      dsimp only
      rw [deep_toks d ks h1]
theorem ok_deep: ∀(r:List Fg) (d:Nat) (pl:Bool) (F:List Tk),d≤100→okL ws d pl r F→deepB (100-d) r=false
  |[],d,pl,F,_,_=>by cases 100-d<;>rfl
  |⟨t,o,ks⟩::r,d,pl,F,hd,h=>by
    rw [okL,okF] at h
    obtain ⟨⟨_,_,hx⟩,h2⟩:=h
    have e:=ok_deep r d false F hd h2
    obtain ⟨n,hn⟩: ∃n,100-d=n:=⟨_,rfl⟩
    rw [hn] at e⊢
    cases n with
    |zero=>
      unfold deepB at e⊢
      rw [List.any_cons,e,Bool.or_false]
      cases he:o.toList.isEmpty with
      |true=>rfl
      |false=>
        rw [if_neg (by rw [he];decide)] at hx
        omega
    |succ n=>
      unfold deepB at e⊢
      rw [List.any_cons,e,Bool.or_false]
      cases he:o.toList.isEmpty with
      |true=>rfl
      |false=>
        rw [if_neg (by rw [he];decide)] at hx
        have e2:=ok_deep ks (d+1) _ _ (by omega) hx.2.2.2.1
        rw [show 100-(d+1)=n by omega] at e2
        rw [e2]
        rfl
theorem Flt.len {i:Nat} (h:Flt l i F):F.length+i≤l.length∨F=[]:=by
  induction h with
  |done h=>exact .inr rfl
  |step h hc hF ih=>
    left
    rcases ih with ih|rfl
    · simp;omega
    · simp;omega
  |shut h hc h0 h2 hs hd hF ih=>
    left
    rcases ih with ih|rfl
    · simp;omega
    · simp;omega
/-- Two texts look the same to what lies ahead of them. -/
def Look:Nat→List Tk→List Tk→Prop
  |0,_,_=>True
  |n+1,F,G=>(∀s:ByteArray,s.toList≠endText→hdN F s=hdN G s)∧hdS F=hdS G∧(hdS F=false→Look n F.tail G.tail)
theorem Look.refl: ∀(n:Nat) (F:List Tk),Look n F F
  |0,_=>trivial
  |n+1,F=>⟨fun _ _=>rfl,rfl,fun _=>Look.refl n _⟩
theorem Look.less: ∀{n:Nat} {F G:List Tk},Look (n+1) F G→Look n F G
  |0,_,_,_=>trivial
  |n+1,F,G,h=>⟨h.1,h.2.1,fun hs=>Look.less (h.2.2 hs)⟩
theorem Look.cons {n:Nat} {F G:List Tk} (t:Tk) (h:Look n F G):Look (n+1) (t::F) (t::G):=⟨fun _ _=>rfl,rfl,fun _=>h⟩
theorem Look.app {n:Nat} {F G:List Tk} (h:Look n F G): ∀a:List Tk,Look n (a++F) (a++G)
  |[]=>h
  |t::r=>Look.less (Look.cons t (Look.app h r))
theorem stop_nohd {s:ByteArray} (hs:s.toList≠endText) (h:hdS F=true):hdN F s=false:=by
  cases F with
  |nil=>rfl
  |cons t r=>
    have h':stopT t=true:=h
    show ((t.f0==1)&&(t.f2.toList==s.toList))=false
    cases h1:t.f0==1 with
    |false=>rfl
    |true=>
      rw [Bool.true_and]
      refine beq_false_of_ne fun h2=> ?_
      unfold stopT closesR at h'
      have h5:(t.f0==5)=false:=by rw [beq_iff_eq.1 h1];rfl
      rw [h1,h5,h2,beq_false_of_ne hs] at h'
      cases h'
theorem Look.stops {G:List Tk} (h:hdS F=true) (hG:hdS G=true) (n:Nat):Look n F G:=by
  cases n with
  |zero=>trivial
  |succ n=>exact ⟨fun s hs=>by rw [stop_nohd hs h,stop_nohd hs hG],by rw [h,hG],fun e=>by rw [h] at e;cases e⟩
theorem Look.drop {G:List Tk} (h:Look 3 F G) {op:ByteArray} {kids:List Fg} (hn:(nameR kids).toList≠endText):dropL F op kids=dropL G op kids:=by
  unfold dropL
  by_cases ho:op.toList=cClass∨op.toList=cMethod∨op.toList=cMacro
  · rw [if_pos ho,if_pos ho]
    have w: ∀s:ByteArray,s.toList≠endText→wordL F s=wordL G s:=fun s hs=>by unfold wordL;rw [h.1 s hs]
    cases hS:hdS F with
    |true=>
      rw [stop_noword (drop_word ho) hS,stop_noword hn hS,←w _ (drop_word ho),←w _ hn,stop_noword (drop_word ho) hS,stop_noword hn hS]
      simp
    |false=>
      have h2:=h.2.2 hS
      have w2: ∀s:ByteArray,s.toList≠endText→wordL F.tail s=wordL G.tail s:=fun s hs=>by unfold wordL;rw [h2.1 s hs]
      rw [w _ (drop_word ho),w _ hn,w2 _ hn,h2.2.1]
      cases hS2:hdS F.tail with
      |true=>
        rw [←w2 _ hn,stop_noword hn hS2]
        simp
      |false=>rw [(h2.2.2 hS2).2.1]
  · rw [if_neg ho,if_neg ho]
theorem slot_end:slotName.toList≠endText:=by unfold slotName;rw [Lib.toList_data];decide
theorem Look.opens {G:List Tk} {n:Nat} (h:Look (n+1) F G) (t:Tk) (pl:Bool):opensL ws t F pl=opensL ws t G pl:=by
  unfold opensL
  rw [h.1 _ slot_end]
theorem ok_look: ∀(r:List Fg) (d:Nat) (pl:Bool) (F G:List Tk),Look 3 F G→okL ws d pl r F→okL ws d pl r G
  |[],d,pl,F,G,_,_=>trivial
  |⟨t,o,ks⟩::r,d,pl,F,G,hL,h=>by
    rw [okL,okF] at h⊢
    obtain ⟨⟨h1,h2,hx⟩,hr⟩:=h
    have hA:=hL.app (flL r)
    refine ⟨⟨h1,h2, ?_⟩,ok_look r d false F G hL hr⟩
    cases he:o.toList.isEmpty with
    |true=>
      rw [if_pos rfl]
      rw [if_pos he] at hx
      exact ⟨hx.1,hx.2.1,by rw [←hA.opens];exact hx.2.2⟩
    |false=>
      rw [if_neg (by decide)]
      rw [if_neg (by rw [he];decide)] at hx
      obtain ⟨g1,g2,g3,g4,g5⟩:=hx
      have hC:=Look.less (Look.cons (clos ⟨t,o,ks⟩) hA)
      exact ⟨g1,by rw [←(hC.app (flL ks)).opens];exact g2,g3,ok_look ks (d+1) _ _ _ hC g4,by rw [←hA.drop (okL_name g4)];exact g5⟩
/-- Does a list end with a group behind whose end a name may be dropped? -/
def endsB (a:List Fg):Bool:=match a.getLast? with
  |none=>false
  |some x=>(x.f1.toList==cClass)||(x.f1.toList==cMethod)||(x.f1.toList==cMacro)
theorem flL_ne {a:List Fg} (h:a≠[]):flL a≠[]:=by
  cases a with
  |nil=>exact absurd rfl h
  |cons x r=>
    intro e
    have:=congrArg List.length e
    rw [flL,List.length_append,List.length_nil] at this
    have:=flF_pos x
    omega
theorem clos_stop {t:Tk} {o:ByteArray} {ks:List Fg} (hP:Plainly ws) (hg:Pure.good t=true) (F:List Tk):hdS (clos ⟨t,o,ks⟩::F)=true:=by
  show stopT _=true
  unfold stopT
  rw [(clos_good hP hg).2.1]
  rfl
theorem ok_more (hP:Plainly ws): ∀(a:List Fg) (d:Nat) (pl:Bool) (G:List Tk),endsB a=false→okL ws d pl a []→okL ws d pl a G
  |[],d,pl,G,_,_=>trivial
  |⟨t,o,ks⟩::r,d,pl,G,hE,h=>by
    rw [okL,okF,List.append_nil] at h
    rw [okL,okF]
    obtain ⟨⟨h1,h2,hx⟩,hr⟩:=h
    have hE':endsB r=false∨r=[]:=by
      cases r with
      |nil=>exact .inr rfl
      |cons y s=>
        left
        unfold endsB at hE⊢
        rw [List.getLast?_cons_cons] at hE
        exact hE
    have hr':okL ws d false r G:=by
      rcases hE' with hE'|rfl
      · exact ok_more hP r d false G hE' hr
      · trivial
    refine ⟨⟨h1,h2, ?_⟩,hr'⟩
    cases he:o.toList.isEmpty with
    |true=>
      rw [if_pos rfl]
      rw [if_pos he] at hx
      refine ⟨hx.1,hx.2.1, ?_⟩
      have ho:=hx.2.2
      unfold opensL at ho⊢
      cases hf:flL r with
      |nil=>
        rw [hf] at ho
        split at ho
        · rename_i h5
          rw [if_pos h5]
          exact ho
        · rename_i h5
          rw [if_neg h5]
          split at ho
          · simp [hdN] at ho
          · rename_i h6
            rw [if_neg h6]
      |cons u s=>
        rw [hf] at ho
        exact ho
    |false=>
      rw [if_neg (by decide)]
      rw [if_neg (by rw [he];decide)] at hx
      obtain ⟨g1,g2,g3,g4,g5⟩:=hx
      have hC:Look 3 (clos ⟨t,o,ks⟩::flL r) (clos ⟨t,o,ks⟩::(flL r++G)):=Look.stops (clos_stop hP h1 _) (clos_stop hP h1 _) 3
      have hnm:=okL_name g4
      refine ⟨g1,by rw [←(hC.app (flL ks)).opens];exact g2,g3,ok_look ks (d+1) _ _ _ hC g4, ?_⟩
      by_cases ho:o.toList=cClass∨o.toList=cMethod∨o.toList=cMacro
      · cases hf:flL r with
        |nil=>
          exfalso
          have hrn:r=[]:=by
            cases r with
            |nil=>rfl
            |cons y s=>exact absurd hf (flL_ne (by simp))
          subst hrn
          unfold endsB at hE
          have e2:[(⟨t,o,ks⟩:Fg)].getLast? =some ⟨t,o,ks⟩:=rfl
          rw [e2] at hE
          dsimp only at hE
          rw [Bool.or_eq_false_iff,Bool.or_eq_false_iff,beq_eq_false_iff_ne,beq_eq_false_iff_ne,beq_eq_false_iff_ne] at hE
          rcases ho with h|h|h
          · exact hE.1.1 h
          · exact hE.1.2 h
          · exact hE.2 h
        |cons u s=>
          rw [hf] at g5
          unfold dropL at g5⊢
          rw [if_pos ho] at g5⊢
          have w: ∀x,wordL ((u::s)++G) x=wordL (u::s) x:=fun _=>rfl
          rw [w,w]
          split at g5
          · cases g5
          · rename_i q1
            split at g5
            · cases g5
            · rename_i q2
              have e1:((u::s)++G).tail=s++G:=rfl
              have e2:(u::s).tail=s:=rfl
              rw [e1]
              rw [e2] at q1 q2
              cases s with
              |nil=>
                have q3: ¬(wordL [u] o=true∨wordL [u] (nameR ks)=true):=fun h=>q2 ⟨h,rfl⟩
                rw [if_neg (fun h=>q3 (.inl h.1)),if_neg (fun h=>q3 h.1)]
              |cons v s2=>
                have w2: ∀x,wordL ((v::s2)++G) x=wordL (v::s2) x:=fun _=>rfl
                have w3:hdS ((v::s2)++G)=hdS (v::s2):=rfl
                rw [w2,w3,if_neg q2]
                cases s2 with
                |nil=>rw [if_neg (fun h=>q1 ⟨h.1,h.2.1,rfl⟩)]
                |cons x s3=>
                  have w4:hdS ((v::x::s3)++G).tail=hdS (v::x::s3).tail:=rfl
                  rw [w4,if_neg q1]
      · unfold dropL
        rw [if_neg ho]
theorem ok_app (hP:Plainly ws): ∀(a b:List Fg) (d:Nat) (pl:Bool) (F:List Tk),okL ws d pl a (flL b++F)→okL ws d false b F→(a=[]→pl=false)→okL ws d pl (a++b) F
  |[],b,d,pl,F,_,hb,hpl=>by rw [hpl rfl];exact hb
  |x::r,b,d,pl,F,ha,hb,_=>by
    rw [okL] at ha
    rw [List.cons_append,okL,flL_append,List.append_assoc]
    exact ⟨ha.1,ok_app hP r b d false F ha.2 hb (fun _=>rfl)⟩
/-- Two lists, one behind the other. -/
theorem parts_ok (hP:Plainly ws) {a b:List Fg} (ha:okL ws 0 false a []) (hb:okL ws 0 false b []) (hE:endsB a=false):okL ws 0 false (a++b) []:=
  ok_app hP a b 0 false [] (ok_more hP a 0 false _ hE ha) hb (fun _=>rfl)
theorem ok_less: ∀(r:List Fg) (d d':Nat) (pl:Bool) (F:List Tk),d'≤d→okL ws d pl r F→okL ws d' pl r F
  |[],_,_,_,_,_,_=>trivial
  |⟨t,o,ks⟩::r,d,d',pl,F,hd,h=>by
    rw [okL,okF] at h⊢
    obtain ⟨⟨h1,h2,hx⟩,hr⟩:=h
    refine ⟨⟨h1,h2, ?_⟩,ok_less r d d' false F hd hr⟩
    cases he:o.toList.isEmpty with
    |true=>
      rw [if_pos rfl]
      rw [if_pos he] at hx
      exact hx
    |false=>
      rw [if_neg (by decide)]
      rw [if_neg (by rw [he];decide)] at hx
      obtain ⟨g1,g2,g3,g4,g5⟩:=hx
      exact ⟨g1,g2,by omega,ok_less ks (d+1) (d'+1) _ _ (by omega) g4,g5⟩
/-- The fragments of a group. -/
theorem kids_ok (hP:Plainly ws) {a:List Fg} {x:Fg} {F:List Tk} {d:Nat} {pl:Bool} (h:okL ws d pl a F) (hx:x∈a) (ho:x.f1.toList.isEmpty=false) (hm:x.f1.toList≠cMacro):okL ws 0 false x.f2 []:=by
  induction a generalizing pl with
  |nil=>cases hx
  |cons y r ih=>
    rw [okL] at h
    rcases List.mem_cons.1 hx with rfl|hx
    · obtain ⟨t,o,ks⟩:=x
      have h:=h.1
      rw [okF] at h
      obtain ⟨h1,h2,h3⟩:=h
      rw [if_neg (by rw [ho];decide)] at h3
      obtain ⟨g1,g2,g3,g4,g5⟩:=h3
      have hpl:(t.f2.toList==cMacro)=false:=by
        rw [←g1]
        exact beq_false_of_ne hm
      rw [hpl] at g4
      exact ok_less ks (d+1) 0 false [] (Nat.zero_le _) (ok_look ks (d+1) false _ [] (Look.stops (clos_stop hP h1 _) rfl 3) g4)
    · exact ih h.2 hx
theorem openers_more (ws:List ByteArray) (w s:ByteArray) (h:s≠w):memB s (openers++(ws++[w]))=memB s (openers++ws):=by
  rw [Bool.eq_iff_iff,memB_iff,memB_iff]
  simp [h]
/-- A further word that stands nowhere. -/
theorem words_ok (w:ByteArray): ∀(r:List Fg) (d:Nat) (pl:Bool) (F:List Tk),(∀t∈flL r,t.f2≠w)→okL ws d pl r F→okL (ws++[w]) d pl r F
  |[],_,_,_,_,_=>trivial
  |⟨t,o,ks⟩::r,d,pl,F,hw,h=>by
    rw [okL,okF] at h⊢
    obtain ⟨⟨h1,h2,hx⟩,hr⟩:=h
    rw [flL] at hw
    have hop: ∀(F:List Tk) (p:Bool),opensL (ws++[w]) t F p=opensL ws t F p:=by
      intro F p
      unfold opensL
      rw [openers_more]
      refine hw t (List.mem_append_left _ ?_)
      rw [flF]
      split
      · exact List.mem_singleton.2 rfl
      · exact List.mem_cons_self
    refine ⟨⟨h1,h2, ?_⟩,words_ok w r d false F (fun x hx=>hw x (List.mem_append_right _ hx)) hr⟩
    cases he:o.toList.isEmpty with
    |true=>
      rw [if_pos rfl]
      rw [if_pos he] at hx
      rw [hop]
      exact hx
    |false=>
      rw [if_neg (by decide)]
      rw [if_neg (by rw [he];decide)] at hx
      obtain ⟨g1,g2,g3,g4,g5⟩:=hx
      rw [hop]
      refine ⟨g1,g2,g3,words_ok w ks (d+1) _ _ (fun x hx=>hw x (List.mem_append_left _ ?_)) g4,g5⟩
      rw [flF_group he]
      exact List.mem_cons_of_mem _ (List.mem_append_left _ hx)
end
end Go.Proofs.YtipnlgmeonepfaaGreatDoor.PFa

set_option linter.unusedVariables false
namespace Go.Proofs.YtipnlgmeonepfaaGreatDoor.PFa
open Go.RowKit Go.Proofs.YtipnlgmeonepfaaGreatDoorW.PrintWords Go.Proofs.YtipnlgmeonepfaaGreatDoorW.PrintLast Go.Proofs.YtipnlgmeonepfaaGreatDoorW.PrintMore
theorem tokAl_eq {t u:Tk} (h:tokAl false t u=true):t=u:=by
  obtain ⟨a,b,c,d,e⟩:=t
  obtain ⟨a',b',c',d',e'⟩:=u
  unfold tokAl at h
  simp only [Bool.and_eq_true,beq_iff_eq,Bool.false_or] at h
  obtain ⟨⟨⟨rfl,rfl⟩,h3⟩,rfl,rfl⟩:=h
  rw [(toList_eq _ _).1 h3]
theorem tokAl_refl (t:Tk):tokAl false t t=true:=by
  unfold tokAl
  simp only [beq_self_eq_true,Bool.and_true,Bool.or_true]
theorem alL_eq: ∀(a b:List Fg),alL false a b=true→a=b
  |[],b,h=>by
    rw [alL] at h
    exact (List.isEmpty_iff.1 h).symm
  |⟨t,o,ks⟩::r,[],h=>by
    unfold alL at h
    cases h
  |⟨t,o,ks⟩::r,⟨t',o',ks'⟩::s,h=>by
    unfold alL at h
    dsimp only at h
    rw [alF_eq] at h
    simp only [Bool.and_eq_true,beq_iff_eq] at h
    obtain ⟨⟨⟨h1,h2⟩,h3⟩,h4⟩:=h
    rw [tokAl_eq h1,(toList_eq _ _).1 h2,alL_eq ks ks' h3,alL_eq r s h4]
theorem alL_self: ∀(a:List Fg),alL false a a=true
  |[]=>by rw [alL];rfl
  |⟨t,o,ks⟩::r=>by
    unfold alL
    dsimp only
    rw [alF_eq,tokAl_refl,alL_self ks,alL_self r]
    simp
section
variable {l:List Tk} {ws:List ByteArray} {F:List Tk} {a b:List Fg}
theorem step_err {tab:List (ByteArray×Bool)} {i:Nat} {top:List Fg} {ps:List PF} {j:Nat} {e:Int} (h:step tab l i top ps=.bad j e):e≠0:=by
  unfold step at h
  split at h
  · split at h
    · cases h
    · split at h
      · split at h
        · injection h with _ h
          omega
        · cases h
      · cases ps with
        |nil=>injection h with _ h;omega
        |cons q r=>
          dsimp only at h
          split at h
          · split at h
            · injection h with _ h
              omega
            · cases h
          · injection h with _ h
            omega
  · injection h with _ h
    omega
theorem mach_err {tab:List (ByteArray×Bool)} {e:Int} {j:Nat}: ∀(k i:Nat) (top:List Fg) (ps:List PF),mach tab l k i top ps=.bad j e→e≠0
  |0,i,top,ps,h=>by cases h
  |k+1,i,top,ps,h=>by
    unfold mach at h
    split at h
    · split at h
      · rename_i a b hs
        injection h with h1 h2
        subst h2
        exact step_err hs
      · rename_i a b c hs
        exact mach_err k a b c h
    · cases h
theorem read_mach (hw : wordsB ws = true) (hl : l.length ≤ 6000) : readOut l ws = match ended (mach (actTab (openers ++ ws)) l (l.length + 1) 0 [] []) with
    | .ok out=>(out,0,0)
    | .bad i e=>([],i,e):=by
  unfold readOut
  rw [if_pos hw,if_pos hl]
  cases mach (actTab (openers++ws)) l (l.length+1) 0 [] [] with
  |bad i e=>rfl
  |go i top ps=>cases ps<;>rfl
/-- What is read can be read back. -/
theorem read_ok (hP:Plainly ws) {at_:Int} (h:readOut l ws=(a,at_,0)):wordsB ws=true∧l.length≤6000∧at_=0∧okL ws 0 false a []∧Flt l 0 (flL a):=by
  by_cases hw:wordsB ws=true
  · by_cases hl:l.length≤6000
    · refine ⟨hw,hl, ?_⟩
      rw [read_mach hw hl,(simulate hP (l.length+1) (l.length+1) 0 [] (by omega) (by omega)).1 []] at h
      have hR:=rl_ok (l:=l) hP (l.length+1) 0 0 none []
      revert hR h
      cases hr:rlist ws l (l.length+1) 0 none 0 [] with
      |bad j e=>
        intro h hR
        exfalso
        dsimp only at h
        injection h with h1 h2
        injection h2 with h2 h3
        have hs:=(simulate (l:=l) hP (l.length+1) (l.length+1) 0 [] (by omega) (by omega)).1 []
        rw [hr] at hs
        dsimp only at hs
        cases hm:mach (actTab (openers++ws)) l (l.length+1) 0 [] [] with
        |bad j' e'=>
          rw [hm] at hs
          unfold ended at hs
          injection hs with _ hs
          exact mach_err _ _ _ _ hm (hs.trans h3)
        |go i top ps=>
          rw [hm] at hs
          cases ps with
          |nil=>unfold ended at hs;cases hs
          |cons p r=>
            unfold ended at hs
            injection hs with _ hs
            omega
      |fin out=>
        intro h hR
        dsimp only at h
        injection h with h1 h2
        injection h2 with h2 h3
        obtain ⟨_,hx⟩:=hR
        obtain ⟨r,hr1,hr2,hr3⟩:=hx (by omega)
        rw [List.nil_append] at hr1
        subst hr1
        subst h1
        exact ⟨h2.symm,hr3,hr2⟩
      |shut c out=>
        intro h hR
        obtain ⟨_,_,_,⟨op,q,hf,_⟩,_⟩:=hR
        cases hf
    · unfold readOut at h
      rw [if_pos hw,if_neg hl] at h
      injection h with h1 h2
      injection h2 with h2 h3
      omega
  · unfold readOut at h
    rw [if_neg hw] at h
    injection h with h1 h2
    injection h2 with h2 h3
    omega
theorem ok_read (hP:Plainly ws) (hw:wordsB ws=true) (h:okL ws 0 false a []) (hl:(flL a).length≤6000):readOut (flL a) ws=(a,0,0):=by
  rw [read_mach hw hl,(simulate hP ((flL a).length+1) ((flL a).length+1) 0 [] (by omega) (by omega)).1 [],rl_flat hP h _ (by omega)]
theorem ok_toks {ws:List ByteArray} (h:okL ws 0 false a []):deepB 100 a=false∧toksOf 100 a=flL a:=by
  have hd:=ok_deep a 0 false [] (by omega) h
  exact ⟨hd,deep_toks 100 a hd⟩
theorem ok_flat (h:okL ws 0 false a []) (hl:(flL a).length≤6000):flatOut a=flL a:=by
  obtain ⟨h1,h2⟩:=ok_toks h
  unfold flatOut
  rw [h1,h2,if_neg (by decide),if_neg (by omega)]
theorem check_iff (hP:Plainly ws):checkOut a ws=0↔wordsB ws=true∧okL ws 0 false a []∧(flL a).length≤6000:=by
  constructor
  · intro h
    unfold checkOut at h
    split at h
    · rename_i hw
      split at h
      · omega
      · rename_i hd
        rw [Bool.not_eq_true] at hd
        have ht:=deep_toks 100 a hd
        split at h
        · omega
        · rename_i hl
          have hf:flatOut a=toksOf 100 a:=by
            unfold flatOut
            rw [hd,if_neg (by decide),if_neg hl]
          rw [hf] at h
          split at h
          · rename_i he
            split at h
            · rename_i hal
              obtain ⟨_,_,_,h1,_⟩:=read_ok hP (l:=toksOf 100 a) (a:=(readOut (toksOf 100 a) ws).1) (at_:=(readOut (toksOf 100 a) ws).2.1) (by rw [←he])
              rw [←alL_eq _ _ hal] at h1
              exact ⟨hw,h1,by rw [←ht];omega⟩
            · omega
          · omega
    · omega
  · rintro ⟨hw,h1,hl⟩
    obtain ⟨hd,ht⟩:=ok_toks h1
    unfold checkOut
    rw [if_pos hw,hd,if_neg (by decide),ht,if_neg (by omega),ok_flat h1 hl,ok_read hP hw h1 hl,if_pos rfl,if_pos (alL_self a)]
/-- From at_ on the list has these tokens, but for names that are dropped. -/
def Behind (l:List Tk) (i:Nat) (F:List Tk):Prop:= ∃n,(n≠0→stopsB l (i+n)=true)∧(∀j,j<n→i+j<l.length∧(tkAt l (i+j)).f0=1∧closesR (tkAt l (i+j))=false)∧Flt l (i+n) F
theorem Behind.lt {i:Nat} {u:Tk} (h:Behind l i (u::F)):i<l.length:=by
  obtain ⟨n,_,_,h⟩:=h
  cases h with
  |step h _ _=>omega
  |shut h _ _ _ _ _ _=>omega
theorem Behind.skip {i:Nat} {u:Tk} (h:Behind l i (u::F)) (hne: ¬((tkAt l i).f0=u.f0∧(tkAt l i).f2=u.f2)):(tkAt l i).f0=1∧Behind l (i+1) (u::F):=by
  obtain ⟨n,h1,h2,h3⟩:=h
  cases n with
  |zero=>
    exfalso
    rw [Nat.add_zero] at h3
    cases h3 with
    |step h _ _=>exact hne ⟨rfl,rfl⟩
    |shut h _ g0 g2 _ _ _=>exact hne ⟨g0.symm,g2.symm⟩
  |succ n=>
    refine ⟨(h2 0 (Nat.succ_pos n)).2.1,n,fun hn=> ?_,fun j hj=> ?_, ?_⟩
    · rw [Nat.add_right_comm]
      exact h1 (Nat.succ_ne_zero n)
    · rw [Nat.add_right_comm]
      exact h2 (j+1) (by omega)
    · rw [Nat.add_right_comm]
      exact h3
theorem Behind.take {i:Nat} {u:Tk} (h:Behind l i (u::F)) (h0:(tkAt l i).f0=u.f0) (h2:(tkAt l i).f2=u.f2):Behind l (i+1) F:=by
  obtain ⟨n,g1,g2,g3⟩:=h
  cases n with
  |zero=>
    rw [Nat.add_zero] at g3
    cases g3 with
    |step h _ hF=>exact ⟨0,fun h=>absurd rfl h,fun j hj=>absurd hj (by omega),hF⟩
    |shut h _ _ _ hs hd hF=>exact ⟨_,hs,hd,hF⟩
  |succ n=>
    exfalso
    have hs:=g1 (Nat.succ_ne_zero n)
    rw [←g3.stop] at hs
    obtain ⟨_,k1,k2⟩:=g2 0 (Nat.succ_pos n)
    rw [Nat.add_zero] at k1 k2
    have hs':stopT u=true:=hs
    unfold stopT at hs'
    rw [←closesR_congr h0 h2,k2,←h0,k1] at hs'
    cases hs'
end
end Go.Proofs.YtipnlgmeonepfaaGreatDoor.PFa

set_option linter.unusedVariables false
namespace Go.Proofs.YtipnlgmeonepfaaGreatDoor.PFa
open Go.RowKit Go.Proofs.YtipnlgmeonepfaaGreatDoorW.PrintWords Go.Proofs.YtipnlgmeonepfaaGreatDoorW.PrintLast Go.Proofs.YtipnlgmeonepfaaGreatDoorW.PrintMore
theorem plainly_of {ws:List ByteArray} (h:wordsB ws=true):Plainly ws:=by
  have hw: ∀x∈ws,plainB x=true∧memB x takenWords=false:=by
    intro x hx
    unfold wordsB at h
    rw [Bool.and_eq_true,List.all_eq_true] at h
    obtain ⟨i,hi,rfl⟩:=List.getElem_of_mem hx
    have h2:=h.2 i (List.mem_range.2 hi)
    have e:rdOf ByteArray.empty ws (i:Int)=ws[i]:=by
      unfold rdOf
      simp [hi]
    unfold wordOk at h2
    rw [e] at h2
    simp only [Bool.and_eq_true,Bool.not_eq_true'] at h2
    exact ⟨h2.1.1,h2.1.2⟩
  refine ⟨fun x hx=> ?_,fun x hx=>(hw x hx).2,by decide+kernel,by decide+kernel,by decide+kernel,by decide+kernel,by decide+kernel,by decide+kernel,by decide+kernel,by decide+kernel,by decide+kernel⟩
  have:=(hw x hx).1
  unfold plainB at this
  rw [Bool.and_eq_true,beq_iff_eq] at this
  exact this.1
end Go.Proofs.YtipnlgmeonepfaaGreatDoor.PFa
