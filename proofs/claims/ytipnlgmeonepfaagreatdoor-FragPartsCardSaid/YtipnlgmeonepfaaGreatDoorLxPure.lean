/- The lexer of the program as plain Lean functions over lists of bytes. No condition: these are definitions. -/
import Derived.Lib.AtoiAll
import Derived.Lib.ItoaNum
namespace Go.Proofs.YtipnlgmeonepfaaGreatDoor.Lx
open Go

/-! ### Classes of bytes -/
def cL (x:Nat):Bool:=decide (97≤x)&&decide (x≤122)
def cD (x:Nat):Bool:=decide (48≤x)&&decide (x≤57)
def cW (x:Nat):Bool:=cL x||cD x||[33,36,38,42,60,62,124,94,37,95,126,63,43,45,47,61].contains x
def cF (x:Nat):Bool:=cW x&& !([43,45,47,61].contains x)
def cB (x:Nat):Bool:=[60,36,37,42,95].contains x
def cQ (x:Nat):Bool:=cL x||cD x||x==45
def cls:Nat→Nat→Bool
 |0=>cL
 |1=>cD
 |2=>cW
 |3=>cF
 |4=>cB
 |_=>cQ
def cBlank (x:Nat):Bool:=[32,9,13,10].contains x
def cSign (x:Nat):Bool:=[40,41,91,93,123,125,44,59,46,61,60,62,43,45,42,47,38,124,126,63].contains x
def cTail (x:Nat):Bool:=[95,63,33,36].contains x

/-- How many bytes at the begin are of a class. -/
def allN (T:Nat→Bool):List UInt8→Nat
 |[]=>0
 |x::xs=>if T x.toNat then allN T xs+1 else 0

def pre (p s:List UInt8):Bool:=p.isPrefixOf s
/-- The byte at a place; 0 behind the end. -/
def byteAt (s:List UInt8) (i:Nat):Nat:=(s.getD i 0).toNat

def plainGo:List UInt8→Nat→Bool→Nat→Nat
 |[],_,_,n=>n
 |x::xs,i,l,n=>plainGo xs (i+1) (l||cL x.toNat) (if (l||cL x.toNat)&&cF x.toNat then i+1 else n)
def plain:List UInt8→Nat
 |[]=>0
 |x::xs=>if cL x.toNat||cB x.toNat then plainGo ((x::xs).take (allN cW (x::xs))) 0 false 0 else 0
/-- Does a colon that ends a keyword stand here? -/
def colonHere:List UInt8→Bool
 |[]=>false
 |c::[]=>c.toNat==58
 |c::d::_=>c.toNat==58&&(d.toNat !=58&&d.toNat !=61)
def colon (s:List UInt8) (n:Nat):Bool:=colonHere (s.drop n)
def name (s:List UInt8):Nat:=
 if 0<plain s then
  match s.drop (plain s) with
  |[]=>plain s
  |c::q=>if c.toNat=64∧0<allN cQ q∧byteAt q 0≠45 then plain s+1+allN cQ q else plain s
 else plain s
def minus (op:Bool) (s:List UInt8):Nat:=if pre [45] s=true∧op=false then 1 else 0
def integer (op:Bool) (s:List UInt8):Nat:=
 if 0<allN cD (s.drop (minus op s)) then minus op s+allN cD (s.drop (minus op s)) else 0
def keyword (s:List UInt8):Nat:=if 0<plain s∧colon s (plain s)=true then plain s+1 else 0
def hash (s:List UInt8):Nat:=if pre [35,116] s||pre [35,102] s then 2 else 0
def sign2:List (List UInt8):=[[58,61],[58,58],[61,62],[61,61],[60,61],[62,61]]
def sign (s:List UInt8):Nat:=
 if sign2.any (fun p=>pre p s) then 2 else match s with
  |[]=>0
  |c::_=>if cSign c.toNat then 1 else 0
def pattern:List UInt8→Nat
 |[]=>0
 |c::t=>
  if c.toNat=63 then
   if plain t=0 then 0
   else if colon (c::t) (plain t+1) then
    if 0<plain ((c::t).drop (plain t+1+1)) then plain t+1+1+plain ((c::t).drop (plain t+1+1)) else plain t+1
   else plain t+1
  else 0
def pick6 (t1 t2 t3 t4 t5 t6:Nat):Nat→Nat
 |1=>t1
 |2=>t2
 |3=>t3
 |4=>t4
 |5=>t5
 |_=>t6
def takes (op:Bool) (s:List UInt8) (k:Nat):Nat:=pick6 (name s) (integer op s) (keyword s) (hash s) (sign s) (pattern s) k
/-- One rule's turn. -/
def turn (op:Bool) (s:List UInt8) (a:Nat×Nat) (k:Nat):Nat×Nat:=
 if (decide (0<plain s)&&(k !=1&&k !=3))=true then a else if a.2<takes op s k then (k,takes op s k) else a
def longest (op:Bool) (s:List UInt8):Nat×Nat:=[1,2,3,4,5,6].foldl (turn op s) (0,0)

/-! ### Comments -/
def lineGo:List UInt8→Nat→Nat
 |[],i=>i
 |x::xs,i=>if x.toNat=10 then i else lineGo xs (i+1)
def blockGo:List UInt8→Nat→Int→Except Int Nat
 |[],_,_=> .error 13
 |[_],_,_=> .error 13
 |x::y::r,i,o=>
  if x.toNat=47∧y.toNat=42 then (if 100<o+1 then .error 6 else blockGo r (i+2) (o+1))
  else if x.toNat=42∧y.toNat=47 then (if o-1=0 then .ok (i+2) else blockGo r (i+2) (o-1))
  else blockGo (y::r) (i+1) o
def comment (s:List UInt8):Except Int Nat:=if pre [47,47] s then .ok (lineGo s 0) else blockGo s 0 0

/-! ### Numbers -/
/-- What strconv.Atoi hands back, and whether the text is that number's own. -/
def valN (l:List UInt8):Int:=match Lib.atoiAll l with
 | .ok v=>v
 | .range=>Lib.atoiSat l
 |_=>0
def valB (l:List UInt8):Bool:=match Lib.atoiAll l with
 | .ok v=>Lib.itoa v==l
 |_=>false

/-! ### Pieces -/
structure Piece where
 kind:Nat
 at_:Nat
 len:Nat
 deriving DecidableEq,Repr
/-- The error of a token that was taken; s: the text from the token on. -/
def check (s:List UInt8) (kind n:Nat):Int:=
 match kind with
 |2=>if valB (s.take n)=false∨100≤n∨cL (byteAt s n)=true∨(byteAt s n≠0∧cTail (byteAt s n)=true) then 11 else 0
 |4=>if cW (byteAt s n)=true then 12 else 0
 |5=>0
 |0=>if pre [35] s then 12 else 10
 |_=>if 40<n then 2 else 0
def tag8:Except Int Nat→Except Int (Nat×Nat)
 | .ok n=> .ok (8,n)
 | .error e=> .error e
/-- A token that was taken, checked. -/
def checked (s:List UInt8) (t:Nat×Nat):Except Int (Nat×Nat):=if check s t.1 t.2=0 then .ok t else .error (check s t.1 t.2)
/-- The next piece's kind and length, or an error; s: the text from here on, not empty. -/
def next (op:Bool) (s:List UInt8):Except Int (Nat×Nat):=
 if pre [47,47] s||pre [47,42] s then tag8 (comment s)
 else if cBlank (byteAt s 0) then .ok (7,allN cBlank s)
 else checked s (longest op (s.take 100))
/-- Is a - ahead of a digit an operator behind this token? -/
def operand (kind:Nat) (t:List UInt8):Bool:=kind==1||kind==2||kind==4||(kind==5&&(t==[41]||t==[93]))
/-- The pieces from here on: s the rest of the text, at its offset, toks the tokens so far. -/
def piecesGo:Nat→List UInt8→Nat→Nat→Bool→Except (Nat×Int) (List Piece)
 |_,[],_,_,_=> .ok []
 |0,_::_,at_,_,_=> .error (at_,0)
 |f+1,x::s,at_,toks,op=>
  match next op (x::s) with
  | .error e=> .error (at_,e)
  | .ok (k,n)=>
   if k≤6∧6000<toks+1 then .error (at_,2)
   else
    match piecesGo f ((x::s).drop n) (at_+n) (if k≤6 then toks+1 else toks) (if k≤6 then operand k ((x::s).take n) else op) with
    | .error e=> .error e
    | .ok l=> .ok (⟨k,at_,n⟩::l)
def pieces (s:List UInt8):Except (Nat×Int) (List Piece):=
 if 20000<s.length then .error (0,2) else piecesGo s.length s 0 0 false

end Go.Proofs.YtipnlgmeonepfaaGreatDoor.Lx
