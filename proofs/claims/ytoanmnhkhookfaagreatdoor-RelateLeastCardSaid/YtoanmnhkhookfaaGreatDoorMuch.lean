/- abacuslaw18.much walked: what it lets through is short; conditions: the script is read, its texts and lists are of the reach's sizes. -/
import Derived.Test.YtoanmnhkhookfaaGreatDoorQueue
import Derived.Deep.QuietTactic
import Derived.BigQuiet
namespace Go.Proofs.YtoanmnhkhookfaaGreatDoor
open Go.RowKit Go.Proofs.YtoanmnhkhookfaaGreatDoorW.PrintWords Go.Proofs.YtoanmnhkhookfaaGreatDoorW.PrintLast Heap
set_option linter.unusedVariables false
set_option linter.unusedSimpArgs false

/-- One call of a script. -/
structure OpV where
  kind : Int
  n : Int
  a : Val
  b : Val
  c : ByteArray
  la : Option Addr
  ll : Nat
  lc : Nat
  w : Int
def zOp : OpV := ⟨0, 0, (0, 0, ⟨#[]⟩), (0, 0, ⟨#[]⟩), ⟨#[]⟩, none, 0, 0, 0⟩
def opAt (os : List OpV) (i : Nat) : OpV := os.getD i zOp
def opCells (o : OpV) : List Value := [.int .i64 o.kind, .int .i64 o.n, .int .i64 o.a.1, .int .u64 o.a.2.1, .string o.a.2.2, .int .i64 o.b.1, .int .u64 o.b.2.1, .string o.b.2.2, .string o.c, .slice o.la o.ll o.lc, .int .i64 o.w]
/-- A script that is read. -/
def OR (w : World) (A : Option Addr) (os : List OpV) : Prop := ∀ i, i < os.length → ∃ ad : Addr, A = some ad ∧ w.cell? (ad.add (i * 11)) = some (.int .i64 (opAt os i).kind) ∧ ∀ j u, (opCells (opAt os i))[j + 1]? = some u → w.cell? ⟨(ad.add (i * 11)).block, (ad.add (i * 11)).off + (j + 1), none⟩ = some u
theorem OR.below {w w' : World} {A : Option Addr} {os : List OpV} (h : OR w A os) (hb : Below w.heap.size w w') : OR w' A os := fun i hi => by
  obtain ⟨ad, h1, h0, h2⟩ := h i hi
  exact ⟨ad, h1, pw_cell_below hb h0, fun j u hu => pw_cell_below hb (h2 j u hu)⟩
/-- Its texts and lists are of the reach's sizes. -/
def OSz (os : List OpV) : Prop := ∀ i, i < os.length → (opAt os i).a.2.2.size ≤ 140737488355328 ∧ (opAt os i).b.2.2.size ≤ 140737488355328 ∧ (opAt os i).c.size ≤ 140737488355328 ∧ (opAt os i).ll ≤ 140737488355328
def Short (os : List OpV) (b : Bool) : Prop := b = false → os.length ≤ 524288 ∧ ∀ i, i < os.length → (opAt os i).a.2.2.size ≤ 16777216
def MuchPost (os : List OpV) (w : World) (e : Ending) (w' : World) : Prop := ∃ b : Bool, e = .returned (.bool b) ∧ Short os b ∧ ∃ n, w' = w.drewN n
set_option maxRecDepth 100000 in
set_option maxHeartbeats 4000000 in
theorem much_walk (A : Option Addr) (c : Nat) (os : List OpV) (w : World) (hv : OR w A os) (hs : OSz os) (hl : os.length < 140737488355328) :
    Calls Tryz.prog 26 #[.slice A os.length c] w (MuchPost os w) := by
  have HV := Lib.hid hv
  have HS := Lib.hid hs
  have hlb : (os.length : Int) < 140737488355328 := by omega
  clear hv hs
  go_enter Tryz.func26, Tryz.ntmps26
  go_wp2_with fail
  go_loopg [3, 4, 5] os.length (fun d s3 s4 s5 wx => ∃ (n b i : Nat) (q : Nat), s3 = .int .i64 (n : Int) ∧ s4 = .int .i64 (b : Int) ∧ s5 = .int .i64 (i : Int) ∧ Aside0 (wx = w.drewN q) ∧ Aside0 (d = os.length - i) ∧ Aside0 (∀ j, j < i → (opAt os j).a.2.2.size ≤ b) ∧ 2 * i ≤ n ∧ i ≤ os.length ∧ n ≤ 281474976710656 ∧ b ≤ 1125899906842624)
  case atStart => exact ⟨0, 0, 0, 0, rfl, rfl, rfl, ⟨rfl⟩, ⟨rfl⟩, ⟨fun j hj => absurd hj (Nat.not_lt_zero _)⟩, Nat.le_refl _, Nat.zero_le _, by decide, by decide⟩
  case round =>
    obtain ⟨n, b, i, q, rfl, rfl, rfl, R1, R2, R3, hn, hi, hnb, hbb⟩ := hrel
    have hw := R1.out
    subst hw
    have hn0 : (0 : Int) ≤ (n : Int) := by omega
    have hb0 : (0 : Int) ≤ (b : Int) := by omega
    have hi0 : (0 : Int) ≤ (i : Int) := by omega
    have hn1 : (n : Int) ≤ 281474976710656 := by omega
    have hb1 : (b : Int) ≤ 1125899906842624 := by omega
    have hi1 : (i : Int) ≤ 140737488355328 := by omega
    by_cases hgo : i < os.length ∧ n ≤ 1048576 ∧ b ≤ 16777216
    · obtain ⟨g1, g2, g3⟩ := hgo
      have d1 : decide ((i : Int) < (os.length : Int)) = true := decide_eq_true (by omega)
      have d2 : decide ((n : Int) ≤ 1048576) = true := decide_eq_true (by omega)
      have d3 : decide ((b : Int) ≤ 16777216) = true := decide_eq_true (by omega)
      obtain ⟨ad, hA, _, hc⟩ := HV.out i g1
      subst hA
      have x4 := hc 3 _ rfl
      have x7 := hc 6 _ rfl
      have x8 := hc 7 _ rfl
      have x9 := hc 8 _ rfl
      have hsz := HS.out i g1
      obtain ⟨X, hX⟩ : ∃ X, opAt os i = X := ⟨_, rfl⟩
      rw [hX] at x4 x7 x8 x9 hsz
      obtain ⟨k0, n0, ⟨a0, a1, a2⟩, ⟨b0, b1, b2⟩, c2, la, ll, lc, wv⟩ := X
      have x4' : w.cell? ⟨(ad.add (i * 11)).block, (ad.add (i * 11)).off + 4, none⟩ = some (.string a2) := x4
      have x7' : w.cell? ⟨(ad.add (i * 11)).block, (ad.add (i * 11)).off + 7, none⟩ = some (.string b2) := x7
      have x8' : w.cell? ⟨(ad.add (i * 11)).block, (ad.add (i * 11)).off + 8, none⟩ = some (.string c2) := x8
      have x9' : w.cell? ⟨(ad.add (i * 11)).block, (ad.add (i * 11)).off + 9, none⟩ = some (.slice la ll lc) := x9
      obtain ⟨z1, z2, z3, z4⟩ := hsz
      have z1' : a2.size ≤ 140737488355328 := z1
      have z2' : b2.size ≤ 140737488355328 := z2
      have z3' : c2.size ≤ 140737488355328 := z3
      have z4' : ll ≤ 140737488355328 := z4
      have HX := Lib.hid hX
      clear hX x4 x7 x8 x9 hc z1 z2 z3 z4
      have s1 : IntKind.i64.wrap ((b : Int) + (a2.size : Int)) = (b : Int) + (a2.size : Int) := IntWalk.i64_in _ (by omega)
      have s2 : IntKind.i64.wrap ((b : Int) + (a2.size : Int) + (b2.size : Int)) = (b : Int) + (a2.size : Int) + (b2.size : Int) := IntWalk.i64_in _ (by omega)
      have s3 : IntKind.i64.wrap ((b : Int) + (a2.size : Int) + (b2.size : Int) + (c2.size : Int)) = (b : Int) + (a2.size : Int) + (b2.size : Int) + (c2.size : Int) := IntWalk.i64_in _ (by omega)
      go_upto_region 7 with fail
      go_quiet (fail)
      go_wp2_with fail
      go_roundg (os.length - (i + 1))
      case measure => rw [R2.out]; omega
      case rel =>
        refine ⟨n + ll + 2, b + a2.size + b2.size + c2.size, i + 1, _, (by go_num), (by go_num), (by go_num), ⟨rfl⟩, ⟨rfl⟩, ⟨fun j hj => ?_⟩, by omega, by omega, by omega, by omega⟩
        by_cases e : j = i
        · rw [e, HX.out]
          show a2.size ≤ _
          omega
        · have := R3.out j (by omega)
          omega
    · by_cases g1 : i < os.length
      · have d1 : decide ((i : Int) < (os.length : Int)) = true := decide_eq_true (by omega)
        by_cases g2 : n ≤ 1048576
        · have g3 : ¬ b ≤ 16777216 := fun h => hgo ⟨g1, g2, h⟩
          have d2 : decide ((n : Int) ≤ 1048576) = true := decide_eq_true (by omega)
          have d3 : decide ((b : Int) ≤ 16777216) = false := decide_eq_false (by omega)
          have d4 : decide (1048576 < (n : Int)) = false := decide_eq_false (by omega)
          have d5 : decide (16777216 < (b : Int)) = true := decide_eq_true (by omega)
          go_wp2_with fail
          go_ret
          exact ⟨true, rfl, fun h => (by cases h), _, rfl⟩
        · have d2 : decide ((n : Int) ≤ 1048576) = false := decide_eq_false (by omega)
          have d4 : decide (1048576 < (n : Int)) = true := decide_eq_true (by omega)
          go_wp2_with fail
          go_ret
          exact ⟨true, rfl, fun h => (by cases h), _, rfl⟩
      · obtain rfl : i = os.length := by omega
        have d1 : decide ((os.length : Int) < (os.length : Int)) = false := decide_eq_false (by omega)
        by_cases g2 : n ≤ 1048576
        · have d4 : decide (1048576 < (n : Int)) = false := decide_eq_false (by omega)
          by_cases g3 : b ≤ 16777216
          · have d5 : decide (16777216 < (b : Int)) = false := decide_eq_false (by omega)
            go_wp2_with fail
            go_ret
            exact ⟨false, rfl, fun _ => ⟨by omega, fun j hj => Nat.le_trans (R3.out j hj) g3⟩, _, rfl⟩
          · have d5 : decide (16777216 < (b : Int)) = true := decide_eq_true (by omega)
            go_wp2_with fail
            go_ret
            exact ⟨true, rfl, fun h => (by cases h), _, rfl⟩
        · have d4 : decide (1048576 < (n : Int)) = true := decide_eq_true (by omega)
          go_wp2_with fail
          go_ret
          exact ⟨true, rfl, fun h => (by cases h), _, rfl⟩
end Go.Proofs.YtoanmnhkhookfaaGreatDoor
