/- What the printed functions call: the cutter, and the library's, in the print's form. -/
import Derived.Test.YtipnlgmeonepfaaGreatDoorLxPieces
set_option linter.unusedVariables false
set_option linter.unusedSimpArgs false
namespace Go.Proofs.YtipnlgmeonepfaaGreatDoor.Lx
open Go.RowKit Go.Proofs.YtipnlgmeonepfaaGreatDoorW.PrintWords

/-- The cutter's three results, plain. -/
def outL (s:ByteArray):List Piece:=match pieces s.data.toList with| .ok l=>l| .error _=>[]
def outAt (s:ByteArray):Int:=match pieces s.data.toList with| .ok _=>0| .error e=>e.1
def outE (s:ByteArray):Int:=match pieces s.data.toList with| .ok _=>0| .error e=>e.2
theorem pieces_out (text:ByteArray) {w:World} (hE:Env w):
  Calls Tryz.prog 143 #[.string text] w fun e w'=> ∃v,e=.returned (.tuple #[v,.int .i64 (outAt text),.int .i64 (outE text)])∧w'.ownsRow w.heap.size 129 3 v (outL text).length (cellsOf (outL text))∧Below w.heap.size w w':=by
 refine (pieces_walk text hE).mono ?_
 rintro e w' ⟨h,hb⟩
 unfold Out at h
 unfold outAt outE outL
 cases hp:pieces text.data.toList with
 |ok l=>
  rw [hp] at h
  obtain ⟨v,rfl,ho⟩:=h
  exact ⟨v,rfl,ho,hb⟩
 |error er=>
  rw [hp] at h
  subst h
  exact ⟨_,rfl,World.ownsRow_nil _ _ _ _,hb⟩
theorem cells_at: ∀(l:List Piece) (j:Nat) (p:Piece),l[j]? =some p→((cellsOf l).drop (j*3)).take 3=[.int .i64 p.kind,.int .i64 p.at_,.int .i64 p.len]
 |[],j,p,h=>by simp at h
 |q::l,0,p,h=>by
  simp at h
  subst h
  rfl
 |q::l,j+1,p,h=>by
  have h':l[j]? =some p:=by simpa using h
  have e:=cells_at l j p h'
  have e2:(cellsOf (q::l)).drop ((j+1)*3)=(cellsOf l).drop (j*3):=by
   rw [show (j+1)*3=3+j*3 from by omega,←List.drop_drop]
   rfl
  rw [e2]
  exact e
theorem contains_out (s:ByteArray) (c:UInt8) (w:World):Calls Tryz.prog 102 #[.string s,.string ⟨#[c]⟩] w fun e w'=>e=.returned (.bool (s.data.toList.contains c))∧Drawn0 w w':=by
 refine (Tryz.strings_Contains_one s c w).mono ?_
 rintro e w' ⟨rfl,rfl⟩
 exact ⟨by rw [in_index],Drawn0.refl _⟩
def cutA (s sep:ByteArray):ByteArray:=⟨(Lib.cut s.data.toList sep.data.toList).1.toArray⟩
def cutB (s sep:ByteArray):ByteArray:=⟨(Lib.cut s.data.toList sep.data.toList).2.1.toArray⟩
def cutC (s sep:ByteArray):Bool:=(Lib.cut s.data.toList sep.data.toList).2.2
end Go.Proofs.YtipnlgmeonepfaaGreatDoor.Lx
