/- numeral.InBase walked: the letters of a natural's digits; conditions: limbs, a base from 2 to 36, and its callees' contracts. -/
import Derived.Test.YtmbacdkpgfbclaaGreatDoorWWords
import Derived.Test.YtmbacdkpgfbclaaGreatDoorGW
import Derived.Maps.AppendAt
import Derived.Lib.FrozenHead
import Derived.Lib.OthersKept
import Derived.IntWalk
import Derived.Deep.DeepCutAuto
import Derived.Deep.CutBlock
import Derived.Deep.LoopGhost
import Derived.Lib.UnsafeStr
namespace Go.Proofs.YtmbacdkpgfbclaaGreatDoor.Num
set_option linter.unusedVariables false
set_option linter.unusedSimpArgs false
open Go.RowKit Go.Proofs.YtmbacdkpgfbclaaGreatDoorW.PrintWords

abbrev B : Nat := 18446744073709551616
/-- Limbs. -/
def Lm (l : List Int) : Prop := ∀ x ∈ l, 0 ≤ x ∧ x < 18446744073709551616
/-- What the limbs are worth. -/
def val : List Int → Nat
 | [] => 0
 | x :: l => x.toNat + B * val l

/-! ### how many limbs without the high zero ones -/
def szN (l : List Int) : Nat → Nat
 | 0 => 0
 | n + 1 => if rd l (n : Int) = 0 then szN l n else n + 1
def sz (l : List Int) : Nat := szN l l.length
end Go.Proofs.YtmbacdkpgfbclaaGreatDoor.Num
namespace Go.Proofs.YtmbacdkpgfbclaaGreatDoor.Num
set_option linter.unusedVariables false
set_option linter.unusedSimpArgs false

def digs (b : Nat) : Nat → Nat → List Nat
 | 0, _ => []
 | f + 1, v => if v = 0 then [] else (v % b) :: digs b f (v / b)
/-- The digits of v in base b, lowest first; none of nothing. -/
def dl (b v : Nat) : List Nat := digs b v v
end Go.Proofs.YtmbacdkpgfbclaaGreatDoor.Num
namespace Go.Proofs.YtmbacdkpgfbclaaGreatDoor.Num
set_option linter.unusedVariables false
set_option linter.unusedSimpArgs false
open Go.RowKit Go.Proofs.YtmbacdkpgfbclaaGreatDoorW.PrintWords

/-- The letters of a row of digits. -/
def lets (upper : Bool) : ByteArray := if upper then ⟨#[48, 49, 50, 51, 52, 53, 54, 55, 56, 57, 65, 66, 67, 68, 69, 70, 71, 72, 73, 74, 75, 76, 77, 78, 79, 80, 81, 82, 83, 84, 85, 86, 87, 88, 89, 90]⟩ else ⟨#[48, 49, 50, 51, 52, 53, 54, 55, 56, 57, 97, 98, 99, 100, 101, 102, 103, 104, 105, 106, 107, 108, 109, 110, 111, 112, 113, 114, 115, 116, 117, 118, 119, 120, 121, 122]⟩
def letter (u : Bool) (d : Nat) : UInt8 := (lets u).data.toList.getD d 0
def word (u : Bool) (ds : List Nat) : List UInt8 := ds.map (letter u)
/-- The bytes as cells. -/
def bcs (r : List UInt8) : List Value := r.map fun b => Value.int .u8 b.toNat
/-- The digits of a natural in a base, highest first; '0' of nothing. -/
def inBase (u : Bool) (b v : Nat) : List UInt8 := if v = 0 then [48] else (word u (dl b v)).reverse
end Go.Proofs.YtmbacdkpgfbclaaGreatDoor.Num
namespace Go.Proofs.YtmbacdkpgfbclaaGreatDoor
open Go.RowKit Go.Proofs.YtmbacdkpgfbclaaGreatDoorW.PrintWords Go.Proofs.YtmbacdkpgfbclaaGreatDoorW.PrintLast Num
set_option linter.unusedVariables false
set_option linter.unusedSimpArgs false
theorem own_cap {w : World} {Bs e g c n : Nat} {xs : List Value} (h : w.ownsRow Bs e 1 (.slice (some ⟨g, 0, none⟩) n c) n xs) : n ≤ c := by
 rcases h.2 with ⟨h0, _⟩ | ⟨g', cap, cur, hv, hb, hg, hnc, _⟩
 · cases h0
 cases hv
 exact hnc
section
variable {P : Program} {ops : Array Oper} {rest : List Oper} {o : Oper} {a : Act} {Q : Exit → Act → World → Prop}
end
end Go.Proofs.YtmbacdkpgfbclaaGreatDoor
