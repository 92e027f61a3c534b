/- record.Fields: the contract at every separator; conditions: the text below 2^32 - 15 bytes, internal/bytealg.MaxLen holds some int. -/
import Derived.RangeFuncNested
import Derived.OrdersIn
import Derived.OwnWalk
import Derived.OwnWalkIn
import Derived.Deep.RegionLaw
import Derived.Laws.AppendOwn
import Derived.Test.YtmbacdkpgfbclaaGreatDoorProg
import Derived.Test.YtmbacdkpgfbclaaGreatDoorWWords
import Derived.Lib.SplitLaws
import Derived.RangeFuncBound
import Derived.RangeFuncCalls
import Derived.RangeFuncLeaves
import Derived.RangeFuncBox
import Derived.Shelf.Abstract
import Derived.Shelf.RegionOpen
import Derived.WalkKit
import Derived.TacticsInMore
import Derived.LoopNIn
import Derived.LoopIn
import Derived.Maps.AppendAt
import Derived.Lib.Hide
import Derived.Test.YtmbacdkpgfbclaaGreatDoorGW
import Derived.Deep.Onto
namespace Go.Proofs.YtmbacdkpgfbclaaGreatDoor
open Go.RowKit

theorem upon_in {P : Program} {o : Oper} {a : Act} {K : Act → World → Prop} {Q : Exit → Act → World → Prop} (l n : Nat) {r : Result Next} (h : o.upon P a K Q r) :
  o.uponIn (Fence.wide.inRound l) n P a K Q r := by
 cases r with
 | ok x w =>
  cases x with
  | value v => exact h
  | skip => exact h
  | defer d => exact h
  | enter f args => exact ⟨fun e => by simp [Fence.wide] at e, CallsIn.inRound l (callsIn_wide.2 h)⟩
  | row row args => exact ⟨fun e => by simp [Fence.wide] at e, fun c cs _ => let ⟨v, w', r, s⟩ := h c cs; ⟨v, w', r, stepsIn_wide.2 s⟩⟩
  | round l f t a b => exact h.elim
  | _ => exact h
 | halt e w =>
  cases e with
  | panic v => exact h
  | _ => exact h

theorem opIn_of_op {P : Program} {ops : Array Oper} {Q : Exit → Act → World → Prop} (l n : Nat) (hd : ∀ (i : Nat) (o : Oper), ops[i]? = some o → ∀ c, o.op ≠ .defer c) (hQ : ¬ LetsOut Q)
  {i : Nat} {K K' : Act → World → Prop} {a : Act} {w : World} (hK : ∀ a w, K a w → K' a w) (h : wpOp P ops Q i K a w) : wpOpIn (Fence.wide.inRound l) n P ops Q i K' a w := by
 unfold wpOp at h; unfold wpOpIn; split
 · rename_i e; rw [e] at h; exact hK _ _ h
 rename_i o e; rw [e] at h; simp only at h; split
 ·
  rename_i hw; rw [if_pos hw] at h; rcases h with h | h
  · refine Oper.wpIn_mono hK ⟨fun _ _ => trivial, ?_⟩; rw [Oper.semAt_plain _ _ _ (hd i o e)]; exact upon_in l n h
  exact absurd h.2 hQ
 rename_i hw; rw [if_neg hw] at h; exact ⟨fun _ _ => trivial, hK _ _ h⟩

theorem anyIn_of_any {P : Program} {md : Region.Mode} {ops : Array Oper} {Q : Exit → Act → World → Prop} (l n : Nat) (hd : ∀ (i : Nat) (o : Oper), ops[i]? = some o → ∀ c, o.op ≠ .defer c) (hQ : ¬ LetsOut Q) :
  ∀ (fuel : Nat) (listed : Array Bool) (a : Act) (w : World), wpAny P md ops Q fuel listed a w → wpAnyIn (Fence.wide.inRound l) n P md ops Q fuel listed a w
 | 0, _, _, _, h => h
 | fuel + 1, listed, _, _, h => ⟨h.1, fun i hi => opIn_of_op l n hd hQ (fun a w => anyIn_of_any l n hd hQ fuel (listed.setIfInBounds i true) a w) (h.2 i hi)⟩

/-- No operation of the region is a defer statement: as one Bool. -/
def noDefer (ops : Array Oper) : Bool := ops.toList.all fun o => match o.op with | .defer _ => false | _ => true
theorem noDefer_of {ops : Array Oper} (h : noDefer ops = true) : ∀ (i : Nat) (o : Oper), ops[i]? = some o → ∀ c, o.op ≠ .defer c := by
 intro i o ho c hc; have hm : o ∈ ops.toList := by
  have := Array.mem_of_getElem? ho; exact Array.mem_def.1 this
 have := (List.all_eq_true.1 h) o hm; rw [hc] at this; exact Bool.noConfusion this

/-- append onto a row of the call's own, as one step of a region that draws. -/
theorem step_append_owned {P : Program} {ops : Array Oper} {o : Oper} {a : Act} {w : World} {K : Act → World → Prop} {Q : Exit → Act → World → Prop} {E : Prop}
  (hg : o.guard = none) (s x : Operand) (t : TypeId) (hop : o.op = Op.call { callee := Callee.builtin Builtin.append, args := #[s, x], argTypes := #[t, t] })
  (base : Nat) (e : TypeId) (i : TypeInfo) (z : Value) (size bytes : Nat) (h1 : P.underlying t = some (.slice e)) (h2 : P.info? e = some i) (h3 : i.zero = some z) (h4 : i.size = size) (h5 : i.bytes = bytes) (h6 : z.cells.size = size) (h7 : 0 < size)
  (v : Value) (k : Nat) (xs : List Value) (hs : a.eval s = v) (hown : w.ownsRow base e size v k xs) (ad : Addr) (m c : Nat) (news : List Value) (hx : a.eval x = .slice (some ad) m c) (hn : news.length = m * size)
  (hc : ∀ j u, news[j]? = some u → w.cell? (ad.add j) = some u) (h1c : ∀ u ∈ news, u.oneCell' = true) (b1 : k + m ≤ maxLen) (b2 : (k + m) * bytes ≤ 140737488355328) (b3 : base ≤ w.heap.size)
  (hK : ∀ v' w', w'.ownsRow base e size v' (k + m) (xs ++ news) → w.grownBy w' v.ownBlock → (v' = .slice none 0 0 ↔ v = .slice none 0 0 ∧ m = 0) → K (a.put o.dst v') w') :
  if Region.wanted o (yielded ops a.tmps) = true then Oper.wp P o a w K Q else E := by
 have hw : Region.wanted o (yielded ops a.tmps) = true := by simp [Region.wanted, hg]
 rw [if_pos hw]; obtain ⟨v', w', hrun, r1, r2, r3⟩ := run_append_own (P := P) w base t o.type e i z size bytes h1 h2 h3 h4 h5 h6 h7 v k xs hown ad m c news hn hc h1c b1 b2 b3; unfold Oper.wp; simp [execOp, hop, resolve, invoke, builtin, hs, hx, hrun, Result.andThen]; exact hK v' w' r1 r2 r3
end Go.Proofs.YtmbacdkpgfbclaaGreatDoor
namespace Go.Proofs.YtmbacdkpgfbclaaGreatDoor
open Go.RowKit Go.Proofs.YtmbacdkpgfbclaaGreatDoorW.PrintWords

/-- A blank, as a Bool. -/
def blI (a : Int) : Bool := if a = 32 then true else if a ≥ 9 then decide (a ≤ 13) else false
/-- Is the byte at place i a blank? -/
def blAt (s : ByteArray) (i : Nat) : Bool := blI (bt s (i : Int))

/-- The place behind the run at i. -/
def runEnd (s : ByteArray) (i : Nat) : Nat :=
 if i < s.size ∧ blAt s i = false then runEnd s (i + 1) else i
 termination_by s.size - i

theorem runEnd_go {s : ByteArray} {i : Nat} (h : i < s.size) (hb : blAt s i = false) : runEnd s i = runEnd s (i + 1) := by
 rw [runEnd, if_pos ⟨h, hb⟩]
theorem runEnd_stop {s : ByteArray} {i : Nat} (h : ¬ (i < s.size ∧ blAt s i = false)) : runEnd s i = i := by
 rw [runEnd, if_neg h]
theorem runEnd_ge (s : ByteArray) (i : Nat) : i ≤ runEnd s i := by
 fun_induction runEnd s i with
 | case1 i h ih => omega
 | case2 i h => exact Nat.le_refl _
theorem runEnd_le (s : ByteArray) (i : Nat) (h : i ≤ s.size) : runEnd s i ≤ s.size := by
 fun_induction runEnd s i with
 | case1 i h ih => exact ih (by omega)
 | case2 i h => exact h
theorem runEnd_gt (s : ByteArray) (i : Nat) (hi : i < s.size) (hb : blAt s i = false) : i < runEnd s i := by
 rw [runEnd_go hi hb]; exact runEnd_ge s (i + 1)
/-- The runs from place i on. -/
def runsFrom (s : ByteArray) (i : Nat) : List (Nat × Nat) :=
 if h : i < s.size then (if hb : blAt s i = true then runsFrom s (i + 1) else (i, runEnd s i) :: runsFrom s (runEnd s i)) else []
 termination_by s.size - i
 decreasing_by
  ·
   omega
  ·
   have := runEnd_gt s i h (by simpa using hb); omega

theorem runsFrom_blank {s : ByteArray} {i : Nat} (h : i < s.size) (hb : blAt s i = true) : runsFrom s i = runsFrom s (i + 1) := by
 rw [runsFrom, dif_pos h, dif_pos hb]
theorem runsFrom_run {s : ByteArray} {i : Nat} (h : i < s.size) (hb : blAt s i = false) : runsFrom s i = (i, runEnd s i) :: runsFrom s (runEnd s i) := by
 rw [runsFrom, dif_pos h, dif_neg (by simp [hb])]
theorem runsFrom_end {s : ByteArray} {i : Nat} (h : s.size ≤ i) : runsFrom s i = [] := by
 rw [runsFrom, dif_neg (by omega)]

def runs (s : ByteArray) : List (Nat × Nat) := runsFrom s 0

/-- The end without the blanks behind it, from i down. -/
def endB (s : ByteArray) : Nat → Nat
 | 0 => 0
 | i + 1 => if blAt s i = true then endB s i else i + 1
theorem endB_le (s : ByteArray) : ∀ i, endB s i ≤ i
 | 0 => Nat.le_refl _
 | i + 1 => by
  unfold endB
  split
  ·
   exact Nat.le_succ_of_le (endB_le s i)
  ·
   exact Nat.le_refl _
theorem endB_gt (s : ByteArray) : ∀ i j, j < i → blAt s j = false → j < endB s i
 | 0, j, h, _ => by omega
 | i + 1, j, h, hb => by
  unfold endB
  split
  ·
   rename_i h2
   by_cases e : j = i
   ·
    subst e; simp [hb] at h2
   ·
    exact endB_gt s i j (by omega) hb
  ·
   exact h

/-- What a piece may be: its ends in order and in the text; it begins no later than E. -/
def okPc (s : ByteArray) (E : Nat) (p : Nat × Nat) : Prop := p.1 ≤ p.2 ∧ p.2 ≤ s.size ∧ p.1 ≤ E
theorem runsFrom_ok (s : ByteArray) (i : Nat) : ∀ p ∈ runsFrom s i, okPc s (endB s s.size) p := by
 fun_induction runsFrom s i with
 | case1 i h hb ih => exact ih
 | case2 i h hb ih =>
  intro p hp; rcases List.mem_cons.1 hp with rfl | hp
  · exact ⟨runEnd_ge s i, runEnd_le s i (by omega), Nat.le_of_lt (endB_gt s _ _ h (by simpa using hb))⟩
  exact ih p hp
 | case3 i h => intro p hp; simp at hp

/-- The single bytes' places, from i on. -/
def singlesFrom (s : ByteArray) (i : Nat) : List (Nat × Nat) :=
 if i < s.size then (i, i + 1) :: singlesFrom s (i + 1) else []
 termination_by s.size - i
theorem singlesFrom_ok (s : ByteArray) (i : Nat) : ∀ p ∈ singlesFrom s i, okPc s s.size p := by
 fun_induction singlesFrom s i with
 | case1 i h ih =>
  intro p hp; rcases List.mem_cons.1 hp with rfl | hp
  · exact ⟨Nat.le_succ _, Nat.succ_le_of_lt h, Nat.le_of_lt h⟩
  exact ih p hp
 | case2 i h => intro p hp; simp at hp
theorem singlesFrom_go {s : ByteArray} {i : Nat} (h : i < s.size) : singlesFrom s i = (i, i + 1) :: singlesFrom s (i + 1) := by
 rw [singlesFrom, if_pos h]
theorem singlesFrom_end {s : ByteArray} {i : Nat} (h : ¬ i < s.size) : singlesFrom s i = [] := by
 rw [singlesFrom, if_neg h]

/-- Where sep stands in the text from place i on, counted from i; -1: nowhere. -/
def ixAt (s sep : ByteArray) (i : Nat) : Int := Lib.indexB (s.extract i s.size) sep
theorem ixAt_cases (s sep : ByteArray) (i : Nat) (hi : i ≤ s.size) : ixAt s sep i = -1 ∨ ∃ x : Nat, ixAt s sep i = x ∧ i + x + sep.size ≤ s.size := by
 rcases Lib.indexB_cases (s.extract i s.size) sep with h | ⟨x, h1, h2⟩
 · exact .inl h
 refine .inr ⟨x, h1, ?_⟩; simp only [ByteArray.size_extract, Nat.min_self] at h2; omega
/-- The pieces' places between the instances of sep, from i on. -/
def cutsFrom (s sep : ByteArray) (i : Nat) : List (Nat × Nat) :=
 if 0 ≤ ixAt s sep i ∧ 1 ≤ sep.size ∧ i + (ixAt s sep i).toNat + sep.size ≤ s.size then (i, i + (ixAt s sep i).toNat) :: cutsFrom s sep (i + (ixAt s sep i).toNat + sep.size) else [(i, s.size)]
 termination_by s.size - i
 decreasing_by
  omega
theorem cutsFrom_hit {s sep : ByteArray} {i x : Nat} (h1 : 1 ≤ sep.size) (h : ixAt s sep i = x) (hx : i + x + sep.size ≤ s.size) : cutsFrom s sep i = (i, i + x) :: cutsFrom s sep (i + x + sep.size) := by
 have e : (ixAt s sep i).toNat = x := by omega
 rw [cutsFrom, e, if_pos ⟨by omega, h1, hx⟩]
theorem cutsFrom_miss {s sep : ByteArray} {i : Nat} (h : ixAt s sep i = -1) : cutsFrom s sep i = [(i, s.size)] := by
 rw [cutsFrom, if_neg (by omega)]
theorem cutsFrom_ok (s sep : ByteArray) (i : Nat) (hi : i ≤ s.size) : ∀ p ∈ cutsFrom s sep i, okPc s s.size p := by
 fun_induction cutsFrom s sep i with
 | case1 i h ih =>
  intro p hp; rcases List.mem_cons.1 hp with rfl | hp
  · exact ⟨by simp, by simp; omega, by simp; omega⟩
  exact ih (by omega) p hp
 | case2 i h =>
  intro p hp; obtain rfl := List.mem_singleton.1 hp; exact ⟨hi, Nat.le_refl _, hi⟩

/-- The pieces' type: places that a slice of the text may have. -/
abbrev Pc (s : ByteArray) (E : Nat) : Type := { p : Nat × Nat // okPc s E p }
def mkP (s : ByteArray) (E : Nat) (l : List (Nat × Nat)) (h : ∀ p ∈ l, okPc s E p) : List (Pc s E) := l.attachWith (okPc s E) h
theorem mkP_map (s : ByteArray) (E : Nat) (l : List (Nat × Nat)) (h : ∀ p ∈ l, okPc s E p) : (mkP s E l h).map (fun p => p.1) = l := by
 unfold mkP List.attachWith; rw [List.map_pmap]; simp [List.pmap_eq_map]

/-- The fields out of the pieces: the last of 32768 is all the rest, to E. -/
def fieldsG (s : ByteArray) (E : Nat) (l : List (Nat × Nat)) : List ByteArray :=
 if l.length ≤ 32767 then l.map fun p => s.extract p.1 p.2
 else (l.take 32767).map (fun p => s.extract p.1 p.2) ++ [s.extract (l.getD 32767 (0, 0)).1 E]
/-- record.Fields(s, fs). -/
def fieldsOf (s fs : ByteArray) : List ByteArray :=
 if s.size = 0 then [] else if fs = ⟨#[32]⟩ then fieldsG s (endB s s.size) (runs s) else if fs.size = 0 then fieldsG s s.size (singlesFrom s 0) else fieldsG s s.size (cutsFrom s fs 0)

end Go.Proofs.YtmbacdkpgfbclaaGreatDoor
namespace Go.Proofs.YtmbacdkpgfbclaaGreatDoor
open Go.RowKit Go.Shelf Go.Proofs.YtmbacdkpgfbclaaGreatDoorW.PrintWords
attribute [local go_sem] Oper.semAt_some

abbrev encP {s : ByteArray} {E : Nat} (p : Pc s E) : Array Value := #[.int .i64 (p.1.1 : Int), .int .i64 (p.1.2 : Int)]

theorem blank_same (a : Int) (w : World) : Calls Tryz.prog 82 #[.int .u8 a] w fun e w' => e = .returned (.bool (blI a)) ∧ w = w' := by
 unfold blI; by_cases c2 : a = 32
 · rw [if_pos c2]; have c2b0 : (a == 32) = true := beq_iff_eq.mpr c2; clear c2; go_enter Tryz.func82, Tryz.ntmps82; go_wp2; go_ret; exact ⟨rfl, rfl⟩
 rw [if_neg c2]; have c2b0 : (a == 32) = false := beq_eq_false_iff_ne.mpr c2; clear c2; by_cases c3 : a ≥ 9
 · rw [if_pos c3]; have c3b0 : decide (9 ≤ a) = true := decide_eq_true c3; clear c3; go_enter Tryz.func82, Tryz.ntmps82; go_wp2; go_ret; exact ⟨rfl, rfl⟩
 rw [if_neg c3]; have c3b0 : decide (9 ≤ a) = false := decide_eq_false c3; clear c3; go_enter Tryz.func82, Tryz.ntmps82; go_wp2; go_ret; exact ⟨rfl, rfl⟩
/-- What blank answers of the byte at place i. -/
theorem blank_at (s : ByteArray) (i : Nat) (hi : i < s.size) (b : Bool) (h : blAt s i = b) (n : Nat) (w : World) :
  CallsIn Fence.wide n Tryz.prog 82 #[.int .u8 (s[i].toNat : Int)] w fun e w' => e = .returned (.bool b) ∧ w = w' := by
 have e : bt s (i : Int) = (s[i].toNat : Int) := by
  unfold bt; simp [hi]
 refine callsIn_wide.2 ?_; rw [← e, ← h]; exact blank_same _ w

def InRun (s : ByteArray) {E : Nat} (xs pre : List (Pc s E)) (i j : Nat) : Prop := ∃ rest x, xs = pre ++ x :: rest ∧ x.1 = (i, runEnd s i) ∧ rest.map (fun p => p.1) = runsFrom s (runEnd s i) ∧ i ≤ j ∧ j ≤ s.size ∧ runEnd s j = runEnd s i
def AtRuns (s : ByteArray) {E : Nat} (xs pre : List (Pc s E)) (i : Nat) : Prop := ∃ rest, xs = pre ++ rest ∧ rest.map (fun p => p.1) = runsFrom s i ∧ i ≤ s.size

set_option maxRecDepth 100000 in
set_option maxHeartbeats 2000000 in
theorem runs1_in {E : Nat} (l Bn O : Nat) (s : ByteArray) (hs : s.size ≤ 140737488355392) (hBO : Bn < O) (xs : List (Pc s E)) (hxs : xs.map (fun p => p.1) = runs s) (J Jx : List (Pc s E) → World → Prop)
  (hY : ∀ pre x W, J pre W → pre.length < xs.length → YieldAt Fence.wide 4 Tryz.prog l (encP x) W fun e W' =>
   (e = .returned (.bool true) ∧ J (pre ++ [x]) W' ∧ Below O W W') ∨ (e = .returned (.bool false) ∧ Jx (pre ++ [x]) W'))
  (W : World) (hBn : W.cell? ⟨Bn, 0, none⟩ = some (.string s)) (h0 : J [] W) :
  CallsIn Fence.wide 5 Tryz.prog 108 #[.func (.yield l) #[] #[], .pointer (some ⟨Bn, 0, none⟩)] W fun e W' => (∃ v, e = .returned v) ∧
   ((∃ ys, ys = xs ∧ J ys W') ∨ (∃ pre, pre <+: xs ∧ Jx pre W')) := by
 refine callsIn_of_wp Tryz.func108 rfl trivial ?_ rfl; simp only [Tryz.ntmps108, List.size_toArray, List.length_cons, List.length_nil, Nat.reduceAdd, Nat.reduceSub, Array.replicate_succ, Array.replicate_zero, List.push_toArray, List.append_toArray, List.nil_append, List.cons_append]; gi_wp2
 gi_loopw [3, 4] (fun v _ wr => ∃ (pre : List (Pc s E)) (i : Nat), v = .int .i64 (i : Int) ∧ Hid (AtRuns s xs pre i) ∧ J pre wr ∧ wr.cell? ⟨Bn, 0, none⟩ = some (.string s))
  (fun v _ _ => s.size - (intOf v).toNat)
 case atStart => exact ⟨[], 0, rfl, ⟨xs, rfl, hxs, Nat.zero_le _⟩, h0, hBn⟩
 case round =>
  obtain ⟨pre, i, rfl, hA, hJs, hc⟩ := hrel; by_cases hi : i < s.size
  ·
   cases hb : blAt s i with
   | true =>
    have hcall := blank_at s i hi true hb; gi_wp2_with (refine ⟨trivial, ?_⟩; gi_at_call 82; refine (hcall _ _).mono ?_; rintro e w' ⟨rfl, rfl⟩)
    go_roundw
    case rel =>
     refine ⟨pre, i + 1, by go_num, ?_, hJs, hc⟩; obtain ⟨rest, h1, h2, h3⟩ := hA.out; exact ⟨rest, h1, by rw [h2, runsFrom_blank hi hb], by omega⟩
    case measure => simp [intOf]; omega
   | false =>
    have hcall := blank_at s i hi false hb; gi_wp2_with (refine ⟨trivial, ?_⟩; gi_at_call 82; refine (hcall _ _).mono ?_; rintro e w' ⟨rfl, rfl⟩)
    clear hcall; obtain ⟨wo, rfl⟩ : ∃ wo : World, wo = wr := ⟨_, rfl⟩; gi_loopw [3] (fun v w2 => ∃ (j : Nat), v = .int .i64 (j : Int) ∧ Hid (InRun s xs pre i j) ∧ w2 = wo)
     (fun v _ => s.size - (intOf v).toNat)
    case atStart =>
     refine ⟨i, rfl, ?_, rfl⟩; obtain ⟨rest, h1, h2, h3⟩ := hA.out; rw [runsFrom_run hi hb] at h2; cases rest with
     | nil => simp at h2
     | cons x rest =>
      simp only [List.map_cons, List.cons.injEq] at h2; exact ⟨rest, x, h1, h2.1, h2.2, Nat.le_refl _, by omega, rfl⟩
    case round =>
     obtain ⟨j, rfl, hR, rfl⟩ := hrel; by_cases hin : j < s.size ∧ blAt s j = false
     ·
      obtain ⟨hj, hbj⟩ := hin; have hcall := blank_at s j hj false hbj; gi_wp2_with (refine ⟨trivial, ?_⟩; gi_at_call 82; refine (hcall _ _).mono ?_; rintro e w' ⟨rfl, rfl⟩)
      go_roundw
      case rel =>
       obtain ⟨rest, x, h1, h2, h3, h4, h5, h6⟩ := hR.out; exact ⟨j + 1, by go_num, ⟨rest, x, h1, h2, h3, by omega, by omega, by rw [← h6, runEnd_go hj hbj]⟩, by first | rfl | trivial⟩
      case measure => simp [intOf]; omega
     obtain ⟨rest, x, h1, h2, h3, h4, h5, h6⟩ := hR.out; have ej := runEnd_stop hin; rw [ej] at h6; rw [← h6] at h2 h3; have hex : encP x = #[.int .i64 (i : Int), .int .i64 (j : Int)] := by simp [encP, h2]
     have hjl := h5; have hij : i < j := by have := runEnd_gt s i hi hb; omega
     have hYx := hY pre x _ hJs (by rw [h1]; simp); rw [hex] at hYx; have H1 := Lib.hid h1; have H2 := Lib.hid h2; have H3 := Lib.hid h3; have H6 := Lib.hid h6; clear h1 h2 h3 h4 h5 h6 ej hex hY hA hR hxs; obtain ⟨fn, tmps, assign, body, hy, hR⟩ := hYx; by_cases hj : j < s.size
     ·
      have hbj : blAt s j = true := by cases hb2 : blAt s j with | true => rfl | false => exact absurd ⟨hj, hb2⟩ hin
      have hcall := blank_at s j hj true hbj; clear hin; gi_wp2_with (refine ⟨trivial, ?_⟩; gi_at_call 82; refine (hcall _ _).mono ?_; rintro e w' ⟨rfl, rfl⟩)
      refine hR.mono ?_; rintro e W3 (⟨rfl, hJ3, hk3⟩ | ⟨rfl, hJx3⟩)
      ·
       have hc3 := (hk3.cell (p := ⟨Bn, 0, none⟩) hBO).trans hc; gi_wp2
       go_roundw
       case rel => exact ⟨pre ++ [x], j, by first | rfl | go_num, ⟨rest, by rw [H1.out]; simp, H3.out, hjl⟩, hJ3, hc3⟩
       case measure => simp [intOf]; omega
      gi_wp2
      refine bodyPost_ret (results_none rfl _ _ _) rfl ?_; exact ⟨⟨_, rfl⟩, .inr ⟨pre ++ [x], ⟨rest, by rw [H1.out]; simp⟩, hJx3⟩⟩
     clear hin; gi_wp2
     refine ⟨trivial, ?_⟩; gi_wp2
     refine hR.mono ?_; rintro e W3 (⟨rfl, hJ3, hk3⟩ | ⟨rfl, hJx3⟩)
     ·
      have hc3 := (hk3.cell (p := ⟨Bn, 0, none⟩) hBO).trans hc; gi_wp2
      go_roundw
      case rel => exact ⟨pre ++ [x], j, by first | rfl | go_num, ⟨rest, by rw [H1.out]; simp, H3.out, hjl⟩, hJ3, hc3⟩
      case measure => simp [intOf]; omega
     gi_wp2
     refine bodyPost_ret (results_none rfl _ _ _) rfl ?_; exact ⟨⟨_, rfl⟩, .inr ⟨pre ++ [x], ⟨rest, by rw [H1.out]; simp⟩, hJx3⟩⟩
  obtain ⟨rest, h1, h2, h3⟩ := hA.out; have e : i = s.size := by omega
  rw [runsFrom_end (by omega)] at h2; have e2 : rest = [] := List.map_eq_nil_iff.1 h2; have e3 : pre = xs := by rw [h1, e2, List.append_nil]
  clear h1 h2 h3 e e2; gi_wp2
  go_end0
  exact ⟨⟨_, rfl⟩, .inl ⟨pre, e3, hJs⟩⟩

/-! ### single -/
def AtSg (s : ByteArray) {E : Nat} (xs pre : List (Pc s E)) (i : Nat) : Prop := ∃ rest, xs = pre ++ rest ∧ rest.map (fun p => p.1) = singlesFrom s i ∧ i ≤ s.size
set_option maxRecDepth 100000 in
set_option maxHeartbeats 2000000 in
theorem single1_in {E : Nat} (l Bn O : Nat) (s : ByteArray) (hs : s.size ≤ 140737488355392) (_ : Bn < O) (xs : List (Pc s E)) (hxs : xs.map (fun p => p.1) = singlesFrom s 0) (J Jx : List (Pc s E) → World → Prop)
  (hY : ∀ pre x W, J pre W → pre.length < xs.length → YieldAt Fence.wide 4 Tryz.prog l (encP x) W fun e W' =>
   (e = .returned (.bool true) ∧ J (pre ++ [x]) W' ∧ Below O W W') ∨ (e = .returned (.bool false) ∧ Jx (pre ++ [x]) W'))
  (W : World) (hBn : W.cell? ⟨Bn, 0, none⟩ = some (.string s)) (h0 : J [] W) :
  CallsIn Fence.wide 5 Tryz.prog 109 #[.func (.yield l) #[] #[], .pointer (some ⟨Bn, 0, none⟩)] W fun e W' => (∃ v, e = .returned v) ∧
   ((∃ ys, ys = xs ∧ J ys W') ∨ (∃ pre, pre <+: xs ∧ Jx pre W')) := by
 refine callsIn_of_wp Tryz.func109 rfl trivial ?_ rfl; simp only [Tryz.ntmps109, List.size_toArray, List.length_cons, List.length_nil, Nat.reduceAdd, Nat.reduceSub, Array.replicate_succ, Array.replicate_zero, List.push_toArray, List.append_toArray, List.nil_append, List.cons_append]; gi_wp2
 gi_loopw [6] (fun v wr => ∃ (pre : List (Pc s E)) (i : Nat), v = .int .i64 (i : Int) ∧ Hid (AtSg s xs pre i) ∧ J pre wr)
  (fun v _ => s.size - (intOf v).toNat)
 case atStart => exact ⟨[], 0, rfl, ⟨xs, rfl, hxs, Nat.zero_le _⟩, h0⟩
 case round =>
  obtain ⟨pre, i, rfl, hA, hJs⟩ := hrel; by_cases hi : i < s.size
  ·
   obtain ⟨rest, h1, h2, h3⟩ := hA.out; rw [singlesFrom_go hi] at h2; cases rest with
   | nil => simp at h2
   | cons x rest =>
    simp only [List.map_cons, List.cons.injEq] at h2; obtain ⟨h2, h4⟩ := h2; have hex : encP x = #[.int .i64 (i : Int), .int .i64 ((i : Int) + 1)] := by simp [encP, h2]
    have hYx := hY pre x _ hJs (by rw [h1]; simp); rw [hex] at hYx; have H1 := Lib.hid h1; have H4 := Lib.hid h4; clear h1 h2 h3 h4 hex hY hA hxs; obtain ⟨fn, tmps, assign, body, hy, hR⟩ := hYx; gi_wp2
    refine hR.mono ?_; rintro e W3 (⟨rfl, hJ3, hk3⟩ | ⟨rfl, hJx3⟩)
    ·
     gi_wp2
     go_roundw
     case rel => exact ⟨pre ++ [x], i + 1, by first | rfl | go_num, ⟨rest, by rw [H1.out]; simp, H4.out, hi⟩, hJ3⟩
     case measure => simp [intOf]; omega
    gi_wp2
    refine bodyPost_ret (results_none rfl _ _ _) rfl ?_; exact ⟨⟨_, rfl⟩, .inr ⟨pre ++ [x], ⟨rest, by rw [H1.out]; simp⟩, hJx3⟩⟩
  obtain ⟨rest, h1, h2, h3⟩ := hA.out; rw [singlesFrom_end hi] at h2; have e2 : rest = [] := List.map_eq_nil_iff.1 h2; have e3 : pre = xs := by rw [h1, e2, List.append_nil]
  have e : i = s.size := by omega
  clear h1 h2 h3 e2 hi hY; gi_wp2
  go_end0
  exact ⟨⟨_, rfl⟩, .inl ⟨pre, e3, hJs⟩⟩

/-! ### cuts -/
def AtCt (s sep : ByteArray) {E : Nat} (xs pre : List (Pc s E)) (i : Nat) : Prop := ∃ rest, xs = pre ++ rest ∧ rest.map (fun p => p.1) = cutsFrom s sep i ∧ i ≤ s.size
set_option maxRecDepth 100000 in
set_option maxHeartbeats 2000000 in
theorem cuts1_in {E : Nat} (l Bn : Nat) (Kr : World → World → Prop) (hKr : ∀ A B b v, Kr A B → b = Bn ∨ b = Bn + 1 ∨ b = 0 → A.cell? ⟨b, 0, none⟩ = some v → B.cell? ⟨b, 0, none⟩ = some v) (m : Int) (s sep : ByteArray) (hs : s.size < 4294967281) (hp : 1 ≤ sep.size) (xs : List (Pc s E)) (hxs : xs.map (fun p => p.1) = cutsFrom s sep 0) (J Jx : List (Pc s E) → World → Prop)
  (hJd : ∀ pre W, J pre W → J pre W.drew)
  (hY : ∀ pre x W, J pre W → pre.length < xs.length → YieldAt Fence.wide 4 Tryz.prog l (encP x) W fun e W' =>
   (e = .returned (.bool true) ∧ J (pre ++ [x]) W' ∧ Kr W W') ∨ (e = .returned (.bool false) ∧ Jx (pre ++ [x]) W'))
  (W : World) (hBn : W.cell? ⟨Bn, 0, none⟩ = some (.string s)) (hBs : W.cell? ⟨Bn + 1, 0, none⟩ = some (.string sep)) (hm : W.cell? ⟨0, 0, none⟩ = some (.int .i64 m)) (h0 : J [] W) :
  CallsIn Fence.wide 5 Tryz.prog 107 #[.func (.yield l) #[] #[], .pointer (some ⟨Bn, 0, none⟩), .pointer (some ⟨Bn + 1, 0, none⟩)] W fun e W' => (∃ v, e = .returned v) ∧
   ((∃ ys, ys = xs ∧ J ys W') ∨ (∃ pre, pre <+: xs ∧ Jx pre W')) := by
 refine callsIn_of_wp Tryz.func107 rfl trivial ?_ rfl; simp only [Tryz.ntmps107, List.size_toArray, List.length_cons, List.length_nil, Nat.reduceAdd, Nat.reduceSub, Array.replicate_succ, Array.replicate_zero, List.push_toArray, List.append_toArray, List.nil_append, List.cons_append]; gi_wp2
 gi_loopw [4] (fun v wr => ∃ (pre : List (Pc s E)) (i : Nat), v = .int .i64 (i : Int) ∧ Hid (AtCt s sep xs pre i) ∧ J pre wr ∧ wr.cell? ⟨Bn, 0, none⟩ = some (.string s) ∧ wr.cell? ⟨Bn + 1, 0, none⟩ = some (.string sep) ∧ wr.cell? ⟨0, 0, none⟩ = some (.int .i64 m))
  (fun v _ => s.size - (intOf v).toNat)
 case atStart => exact ⟨[], 0, rfl, ⟨xs, rfl, hxs, Nat.zero_le _⟩, h0, hBn, hBs, hm⟩
 case round =>
  clear hBn hBs hm; obtain ⟨pre, i, rfl, hA, hJs, hc, hc2, hm⟩ := hrel; obtain ⟨rest, h1, h2, h3⟩ := hA.out; have hcall : Calls Tryz.prog 98 #[.string (s.extract i s.size), .string sep] wr.drew fun e w' => e = .returned (.int .i64 (ixAt s sep i)) ∧ wr.drew = w' := (Tryz.strings_Index (s.extract i s.size) sep m wr.drew (by simp; omega) hm).mono fun e w' h => ⟨h.1, h.2.symm⟩
  have hcall := fun n => callsIn_wide (n := n).2 hcall
  have hJd2 := hJd pre wr hJs; rcases ixAt_cases s sep i h3 with hx | ⟨x, hx, hroom⟩
  ·
   rw [hx] at hcall; rw [cutsFrom_miss hx] at h2; cases rest with
   | nil => simp at h2
   | cons y rest =>
    simp only [List.map_cons, List.cons.injEq, List.map_eq_nil_iff] at h2; obtain ⟨h2, rfl⟩ := h2; have hex : encP y = #[.int .i64 (i : Int), .int .i64 (s.size : Int)] := by simp [encP, h2]
    have hYx := hY pre y _ hJd2 (by rw [h1]; simp); rw [hex] at hYx; have H1 := Lib.hid h1; clear h1 h2 hex hY hA hxs; obtain ⟨fn, tmps, assign, body, hy, hR⟩ := hYx; gi_wp2
    gi_region_with (refine ⟨trivial, ?_⟩; gi_at_call 98; refine (hcall _).mono ?_; rintro e w' ⟨rfl, rfl⟩)
    all_goals
     gi_wp2
     refine hR.mono ?_; rintro e W3 (⟨rfl, hJ3, hk3⟩ | ⟨rfl, hJx3⟩)
     ·
      gi_wp2
      refine bodyPost_ret (results_none rfl _ _ _) rfl ?_; exact ⟨⟨_, rfl⟩, .inl ⟨pre ++ [y], by rw [H1.out], hJ3⟩⟩
     gi_wp2
     refine bodyPost_ret (results_none rfl _ _ _) rfl ?_; exact ⟨⟨_, rfl⟩, .inr ⟨pre ++ [y], ⟨[], by rw [H1.out]; simp⟩, hJx3⟩⟩
  rw [hx] at hcall; rw [cutsFrom_hit hp hx hroom] at h2; cases rest with
  | nil => simp at h2
  | cons y rest =>
   simp only [List.map_cons, List.cons.injEq] at h2; obtain ⟨h2, h4⟩ := h2; have hex : encP y = #[.int .i64 (i : Int), .int .i64 ((i : Int) + (x : Int))] := by simp [encP, h2]
   have hYx := hY pre y _ hJd2 (by rw [h1]; simp); rw [hex] at hYx; have H1 := Lib.hid h1; have H4 := Lib.hid h4; clear h1 h2 h4 hex hY hA hxs; obtain ⟨fn, tmps, assign, body, hy, hR⟩ := hYx; gi_wp2
   gi_region_with (refine ⟨trivial, ?_⟩; gi_at_call 98; refine (hcall _).mono ?_; rintro e w' ⟨rfl, rfl⟩)
   all_goals
    gi_wp2
    refine hR.mono ?_; rintro e W3 (⟨rfl, hJ3, hk3⟩ | ⟨rfl, hJx3⟩)
    ·
     have hc' := hKr _ _ Bn _ hk3 (.inl rfl) hc; have hc2' := hKr _ _ (Bn + 1) _ hk3 (.inr (.inl rfl)) hc2; have hm' := hKr _ _ 0 _ hk3 (.inr (.inr rfl)) hm; gi_wp2
     go_roundw
     case rel => exact ⟨pre ++ [y], i + x + sep.size, by first | rfl | go_num, ⟨rest, by rw [H1.out]; simp, H4.out, hroom⟩, hJ3, hc', hc2', hm'⟩
     case measure => simp [intOf]; omega
    gi_wp2
    refine bodyPost_ret (results_none rfl _ _ _) rfl ?_; exact ⟨⟨_, rfl⟩, .inr ⟨pre ++ [y], ⟨rest, by rw [H1.out]; simp⟩, hJx3⟩⟩
end Go.Proofs.YtmbacdkpgfbclaaGreatDoor
namespace Go.Proofs.YtmbacdkpgfbclaaGreatDoor
open Go.RowKit Go.Shelf Go.Proofs.YtmbacdkpgfbclaaGreatDoorW.PrintWords
attribute [local go_sem] Oper.semAt_some

set_option maxHeartbeats 1000000 in
theorem runs_in (s : ByteArray) (n : Nat) (w : World) :
  CallsIn Fence.wide n Tryz.prog 81 #[.string s] w fun e w' => e = .returned (.func (.func 108) #[] #[.pointer (some ⟨w.heap.size, 0, none⟩)]) ∧ w.alloc (.cells #[.string s] 9) = w' := by
 refine callsIn_of_wp Tryz.func81 rfl trivial ?_ rfl; simp only [Tryz.ntmps81, List.size_toArray, List.length_cons, List.length_nil, Nat.reduceAdd, Nat.reduceSub, Array.replicate_succ, Array.replicate_zero, List.push_toArray, List.append_toArray, List.nil_append, List.cons_append]; gi_wp2
 go_ret; exact ⟨rfl, rfl⟩
set_option maxHeartbeats 1000000 in
theorem single_in (s : ByteArray) (n : Nat) (w : World) :
  CallsIn Fence.wide n Tryz.prog 83 #[.string s] w fun e w' => e = .returned (.func (.func 109) #[] #[.pointer (some ⟨w.heap.size, 0, none⟩)]) ∧ w.alloc (.cells #[.string s] 9) = w' := by
 refine callsIn_of_wp Tryz.func83 rfl trivial ?_ rfl; simp only [Tryz.ntmps83, List.size_toArray, List.length_cons, List.length_nil, Nat.reduceAdd, Nat.reduceSub, Array.replicate_succ, Array.replicate_zero, List.push_toArray, List.append_toArray, List.nil_append, List.cons_append]; gi_wp2
 go_ret; exact ⟨rfl, rfl⟩
set_option maxHeartbeats 1000000 in
theorem cuts_in (s sep : ByteArray) (n : Nat) (w : World) :
  CallsIn Fence.wide n Tryz.prog 80 #[.string s, .string sep] w fun e w' => e = .returned (.func (.func 107) #[] #[.pointer (some ⟨w.heap.size, 0, none⟩), .pointer (some ⟨w.heap.size + 1, 0, none⟩)]) ∧ (w.alloc (.cells #[.string s] 9)).alloc (.cells #[.string sep] 9) = w' := by
 refine callsIn_of_wp Tryz.func80 rfl trivial ?_ rfl; simp only [Tryz.ntmps80, List.size_toArray, List.length_cons, List.length_nil, Nat.reduceAdd, Nat.reduceSub, Array.replicate_succ, Array.replicate_zero, List.push_toArray, List.append_toArray, List.nil_append, List.cons_append]; gi_wp2
 go_ret; exact ⟨by simp, rfl⟩

def runsP (s : ByteArray) : List (Pc s (endB s s.size)) := mkP s _ (runs s) (runsFrom_ok s 0)
def singlesP (s : ByteArray) : List (Pc s s.size) := mkP s _ (singlesFrom s 0) (singlesFrom_ok s 0)
def cutsP (s sep : ByteArray) : List (Pc s s.size) := mkP s _ (cutsFrom s sep 0) (cutsFrom_ok s sep 0 (Nat.zero_le _))

theorem runs_stops (Bn O : Nat) (s : ByteArray) (hs : s.size ≤ 140737488355392) (w : World) (hn : Bn < w.heap.size) (hO : Bn < O) (hc : w.cell? ⟨Bn, 0, none⟩ = some (.string s)) :
  SeqStopsK Fence.wide 5 Tryz.prog 108 #[.pointer (some ⟨Bn, 0, none⟩)] (encP (s := s) (E := endB s s.size)) (Below O) (fun ys => ys = runsP s) (fun pre => pre <+: runsP s) (runsP s).length w := fun l J Jx W hW _ _ hY h0 =>
 runs1_in l Bn O s hs hO (runsP s) (mkP_map s _ _ (runsFrom_ok s 0)) J Jx hY W ((hW.cell (p := ⟨Bn, 0, none⟩) hn).trans hc) h0
theorem single_stops (Bn O : Nat) (s : ByteArray) (hs : s.size ≤ 140737488355392) (w : World) (hn : Bn < w.heap.size) (hO : Bn < O) (hc : w.cell? ⟨Bn, 0, none⟩ = some (.string s)) :
  SeqStopsK Fence.wide 5 Tryz.prog 109 #[.pointer (some ⟨Bn, 0, none⟩)] (encP (s := s) (E := s.size)) (Below O) (fun ys => ys = singlesP s) (fun pre => pre <+: singlesP s) (singlesP s).length w := fun l J Jx W hW _ _ hY h0 =>
 single1_in l Bn O s hs hO (singlesP s) (mkP_map s _ _ (singlesFrom_ok s 0)) J Jx hY W ((hW.cell (p := ⟨Bn, 0, none⟩) hn).trans hc) h0
theorem cuts_stops (Bn O : Nat) (m : Int) (s sep : ByteArray) (hs : s.size < 4294967281) (hp : 1 ≤ sep.size) (w : World) (hn : Bn + 1 < w.heap.size) (hO : Bn + 1 < O) (hc : w.cell? ⟨Bn, 0, none⟩ = some (.string s)) (hc2 : w.cell? ⟨Bn + 1, 0, none⟩ = some (.string sep)) (hm : w.cell? ⟨0, 0, none⟩ = some (.int .i64 m)) :
  SeqStopsK Fence.wide 5 Tryz.prog 107 #[.pointer (some ⟨Bn, 0, none⟩), .pointer (some ⟨Bn + 1, 0, none⟩)] (encP (s := s) (E := s.size)) (Below O) (fun ys => ys = cutsP s sep) (fun pre => pre <+: cutsP s sep) (cutsP s sep).length w := fun l J Jx W hW hJ _ hY h0 =>
 cuts1_in l Bn (Below O) (fun A B b v h hb hc => (h.cell (p := ⟨b, 0, none⟩) (by show b < O; omega)).trans hc) m s sep hs hp (cutsP s sep) (mkP_map s _ _ (cutsFrom_ok s sep 0 (Nat.zero_le _))) J Jx (fun pre W1 h => hJ pre W1 W1.drew none h ⟨rfl, rfl, rfl, Nat.le_refl _, fun _ _ _ => rfl⟩ (fun r e => by cases e)) hY W
  ((hW.cell (p := ⟨Bn, 0, none⟩) (by show Bn < w.heap.size; omega)).trans hc) ((hW.cell (p := ⟨Bn + 1, 0, none⟩) hn).trans hc2) ((hW.cell (p := ⟨0, 0, none⟩) (by show 0 < w.heap.size; omega)).trans hm) h0

theorem info9 : (Tryz.prog.info? 9).map (fun i => (i.zero, i.size, i.bytes)) = some (some (.string ⟨#[]⟩), 1, 16) := by kernel_rfl

def cutP {s : ByteArray} {E : Nat} (p : Pc s E) : ByteArray := s.extract p.1.1 p.1.2
def lastP {s : ByteArray} {E : Nat} (p : Pc s E) : ByteArray := s.extract p.1.1 E
def outOf {s : ByteArray} {E : Nat} (pre : List (Pc s E)) : List Value := pre.map fun p => .string (cutP p)

/-- A number out of a cell. -/
def cellNat (W : World) (b : Nat) : Nat := match W.cell? ⟨b, 0, none⟩ with | some (.int _ e) => e.toNat | _ => 0
theorem cellNat_of {W : World} {b e : Nat} (h : W.cell? ⟨b, 0, none⟩ = some (.int .i64 (e : Int))) : cellNat W b = e := by
 unfold cellNat; rw [h]; exact Int.toNat_natCast e

theorem ownsRow_slice {W : World} {base : Nat} {e : TypeId} {size : Nat} {v : Value} {k : Nat} {xs : List Value} (h : W.ownsRow base e size v k xs) : ∃ A cap, v = .slice A k cap := by
 rcases h.2 with ⟨rfl, rfl⟩ | ⟨g, cap, cur, rfl, _⟩
 · exact ⟨_, _, rfl⟩
 exact ⟨_, _, rfl⟩

def outLast {s : ByteArray} {E : Nat} (pre : List (Pc s E)) : List Value := ((pre.take 32767).map fun p => .string (cutP p)) ++ ((pre.drop 32767).map fun p => .string (lastP p))

section grown
variable {W w1 : World} {n₁ : Nat} {v : Value} {k : Nat} {xs : List Value} {o : Obj}
theorem grown_box (hrow : W.ownsRow n₁ 9 1 v k xs) (hg : (W.drew.alloc o).grownBy w1 v.ownBlock) {b : Nat} {t : TypeId} {u : Value} (hb : Boxed W b t u) (hlt : b < n₁) : Boxed w1 b t u :=
 (Boxed.alloc (W := W.drew) hb o).kept hg (fun e => by have := hrow.lt b e.symm; omega)
theorem grown_keeps (hrow : W.ownsRow n₁ 9 1 v k xs) (hg : (W.drew.alloc o).grownBy w1 v.ownBlock) : KeepsOthers W w1 := by
 refine ((KeepsOthers.drew W).trans (KeepsOthers.alloc W.drew o)).trans (KeepsOthers.of_grownBy hg fun j oo ej hj => ?_); rcases (World.ownsRow.alloc (World.ownsRow.drew hrow) o).2 with ⟨rfl, _⟩ | ⟨g, cap, cur, rfl, _, hgb, _⟩
 · simp [Value.ownBlock] at ej
 obtain rfl : g = j := by simpa [Value.ownBlock] using ej
 rw [hgb] at hj; cases hj; rfl
theorem grown_below (hrow : W.ownsRow n₁ 9 1 v k xs) (hg : (W.drew.alloc o).grownBy w1 v.ownBlock) {n₀ : Nat} (h0 : n₀ ≤ W.heap.size) (h1 : n₀ ≤ n₁) : Below n₀ W w1 :=
 ((Below.refl n₀ W).drew.alloc h0 o).grown hg (by simp; omega) fun j ej => by have := hrow.lt j ej; omega
theorem grown_own {v' : Value} {m : Nat} {ys : List Value} (hown : w1.ownsRow n₁ 9 1 v' m ys) {b : Nat} (hb : b < n₁) (u : Value) : (w1.setCell ⟨b, 0, none⟩ u).ownsRow n₁ 9 1 v' m ys :=
 hown.kept (grownBy_setCell' w1 b u) (.inr fun e => by have := hown.lt b e; omega)
end grown

/-- Between two rounds: what the fields' variable holds, and what else lies. -/
def IFields (s : ByteArray) (E : Nat) (w : World) (O : Nat) (pre : List (Pc s E)) (W : World) : Prop :=
 ((∃ v, Boxed W O 57 v ∧ W.ownsRow (O + 1) 9 1 v pre.length (outOf pre) ∧ pre.length ≤ 32767) ∧
  Boxed W w.heap.size 9 (.string s) ∧ Boxed W (w.heap.size + 1 + 1) 3 (.int .i64 (E : Int)) ∧ Boxed W (w.heap.size + 1) 57 (.slice none 0 0)) ∧ Below w.heap.size w W
/-- Where a round has returned. -/
def XFields (s : ByteArray) (E : Nat) (w : World) (O : Nat) (c : Code) (pre : List (Pc s E)) (W : World) : Prop :=
 (∃ v, Boxed W (w.heap.size + 1) 57 v ∧ W.ownsRow (O + 1) 9 1 v pre.length (outLast pre) ∧ (c = .ret ∧ pre.length = 32768)) ∧ Below w.heap.size w W
theorem outOf_snoc {s : ByteArray} {E : Nat} (pre : List (Pc s E)) (x : Pc s E) : outOf (pre ++ [x]) = outOf pre ++ [.string (cutP x)] := by simp [outOf]
theorem outLast_snoc {s : ByteArray} {E : Nat} (pre : List (Pc s E)) (x : Pc s E) (h : pre.length = 32767) : outLast (pre ++ [x]) = outOf pre ++ [.string (lastP x)] := by
 unfold outLast outOf; rw [List.take_append_of_le_length (by omega), List.take_of_length_le (by omega), List.drop_append, List.drop_of_length_le (by omega), show 32767 - pre.length = 0 by omega]; simp
theorem close_normal {s : ByteArray} {E : Nat} {w W w1 : World} {Ob : Nat} (hO : w.heap.size + 1 + 1 < Ob) {pre : List (Pc s E)} {x : Pc s E} {v v' : Value} {o : Obj} (hv : Boxed W Ob 57 v) (hrow : W.ownsRow (Ob + 1) 9 1 v pre.length (outOf pre)) (hlen : pre.length + 1 ≤ 32767)
  (hb0 : Boxed W w.heap.size 9 (.string s)) (hb2 : Boxed W (w.heap.size + 1 + 1) 3 (.int .i64 (E : Int))) (hb1 : Boxed W (w.heap.size + 1) 57 (.slice none 0 0)) (hB2 : Below w.heap.size w W)
  (hown : w1.ownsRow (Ob + 1) 9 1 v' (pre.length + 1) (outOf pre ++ [.string (cutP x)])) (hg : (W.drew.alloc o).grownBy w1 v.ownBlock) (B : Nat) :
  KeepsFrom B W (w1.setCell ⟨Ob, 0, none⟩ v') ∧ Below Ob W (w1.setCell ⟨Ob, 0, none⟩ v') ∧ IFields s E w Ob (pre ++ [x]) (w1.setCell ⟨Ob, 0, none⟩ v') := by
 have hsW := hv.lt; have q1 := grown_box hrow hg hv (by omega); have q0 := grown_box hrow hg hb0 (by omega); have q2 := grown_box hrow hg hb2 (by omega); have q3 := grown_box hrow hg hb1 (by omega); refine ⟨((grown_keeps hrow hg).trans (KeepsOthers.setCell _ _ _)).from B, (grown_below (n₀ := Ob) hrow hg (by omega) (by omega)).setCell (p := ⟨Ob, 0, none⟩) (Nat.le_refl _) v', ⟨⟨v', q1.set v', ?_, by simp; omega⟩, q0.other (by omega) _, q2.other (by omega) _, q3.other (by omega) _⟩, (hB2.trans (grown_below hrow hg (by omega) (by omega))).setCell (p := ⟨Ob, 0, none⟩) (by show w.heap.size ≤ Ob; omega) v'⟩; rw [outOf_snoc, List.length_append, List.length_singleton]; exact grown_own hown (by omega) v'
theorem close_ret {s : ByteArray} {E : Nat} {w W w1 : World} {Ob : Nat} (hO : w.heap.size + 1 + 1 < Ob) {pre : List (Pc s E)} {x : Pc s E} {v v' : Value} {o : Obj} (hrow : W.ownsRow (Ob + 1) 9 1 v pre.length (outOf pre)) (hlen : pre.length = 32767) (hsW : Ob < W.heap.size)
  (hb1 : Boxed W (w.heap.size + 1) 57 (.slice none 0 0)) (hB2 : Below w.heap.size w W)
  (hown : w1.ownsRow (Ob + 1) 9 1 v' (pre.length + 1) (outOf pre ++ [.string (lastP x)])) (hg : (W.drew.alloc o).grownBy w1 v.ownBlock) (B : Nat) :
  KeepsFrom B W (w1.setCell ⟨w.heap.size + 1, 0, none⟩ v') ∧ XFields s E w Ob .ret (pre ++ [x]) (w1.setCell ⟨w.heap.size + 1, 0, none⟩ v') := by
 have q3 := grown_box hrow hg hb1 (by omega); refine ⟨((grown_keeps hrow hg).trans (KeepsOthers.setCell _ _ _)).from B, ⟨v', q3.set v', ?_, rfl, by simp; omega⟩, (hB2.trans (grown_below hrow hg (by omega) (by omega))).setCell (p := ⟨w.heap.size + 1, 0, none⟩) (by simp) v'⟩; rw [outLast_snoc pre x hlen, List.length_append, List.length_singleton]; exact grown_own hown (by omega) v'
theorem own_I (s : ByteArray) (E : Nat) (w : World) (O B : Nat) (hB : w.heap.size ≤ B) : OwnFrom B (IFields s E w O) :=
 OwnFrom.and (OwnFrom.and (Own.from (holdsRow_own (O + 1) O 57 9 1 (fun pre : List (Pc s E) => pre.length) outOf (fun pre _ => pre.length ≤ 32767)) _)
  (OwnFrom.and (Own.from (boxed_own _ _ _) _) (OwnFrom.and (Own.from (boxed_own _ _ _) _) (Own.from (boxed_own _ _ _) _)))) (ownFrom_below (Nat.le_refl _) hB)
theorem own_X (s : ByteArray) (E : Nat) (w : World) (O B : Nat) (hB : w.heap.size ≤ B) (c : Code) : OwnFrom B (XFields s E w O c) :=
 OwnFrom.and (Own.from (holdsRow_own (O + 1) (w.heap.size + 1) 57 9 1 (fun pre : List (Pc s E) => pre.length) outLast (fun pre _ => c = .ret ∧ pre.length = 32768)) _) (ownFrom_below (Nat.le_refl _) hB)

theorem done_row {s : ByteArray} {E : Nat} {ps : List (Pc s E)} {l : List (Nat × Nat)} (hm : ps.map (fun p => p.1) = l) (hlen : ps.length ≤ 32767) {W : World} {base base' : Nat} {v : Value} (h : W.ownsRow base 9 1 v ps.length (outOf ps)) (hb : base' ≤ base) :
  W.ownsRow base' 9 1 v (fieldsG s E l).length ((fieldsG s E l).map Value.string) := by
 have h1 : l.length = ps.length := by rw [← hm, List.length_map]
 have h2 : fieldsG s E l = ps.map cutP := by
  unfold fieldsG; rw [if_pos (by omega), ← hm, List.map_map]; rfl
 rw [h2, List.map_map, List.length_map]; exact h.mono hb
theorem fieldsG_gt {s : ByteArray} {E : Nat} {ps : List (Pc s E)} {l : List (Nat × Nat)} (hm : ps.map (fun p => p.1) = l) (pre : List (Pc s E)) (hp : pre <+: ps) (hl : pre.length = 32768) : (fieldsG s E l).length = pre.length ∧ (fieldsG s E l).map Value.string = outLast pre := by
 obtain ⟨r, hr⟩ := hp; rw [← hr] at hm; have hlen : l.length = pre.length + r.length := by rw [← hm]; simp
 have e1 : l.take 32767 = (pre.take 32767).map (fun p => p.1) := by
  rw [← hm, List.map_append, List.take_append_of_le_length (by simp; omega), List.map_take]
 obtain ⟨x, hx⟩ : ∃ x, pre.drop 32767 = [x] := by
  have : (pre.drop 32767).length = 1 := by simp; omega
  exact List.length_eq_one_iff.1 this
 have e2 : l.getD 32767 (0, 0) = x.1 := by
  rw [← hm, List.map_append, List.getD_eq_getElem?_getD, List.getElem?_append_left (by simp; omega)]; have : pre[32767]? = some x := by
   have := congrArg List.head? hx; rw [List.head?_drop] at this; simpa using this
  simp [this]
 have e3 : fieldsG s E l = (pre.take 32767).map cutP ++ [lastP x] := by
  unfold fieldsG; rw [if_neg (by omega), e1, e2, List.map_map]; rfl
 constructor
 · rw [e3]; simp; omega
 rw [e3]; unfold outLast; rw [hx, List.map_append, List.map_map]; rfl

set_option maxRecDepth 100000 in
set_option maxHeartbeats 4000000 in
theorem Fields_in (s fs : ByteArray) (m : Int) (hs4 : s.size < 4294967281) (w : World) (hm : w.cell? ⟨0, 0, none⟩ = some (.int .i64 m)) :
  CallsIn Fence.wide 6 Tryz.prog 40 #[.string s, .string fs] w fun e w' => ∃ v, e = .returned v ∧ w'.ownsRow w.heap.size 9 1 v (fieldsOf s fs).length ((fieldsOf s fs).map Value.string) ∧ Below w.heap.size w w' := by
 have hs : s.size ≤ 140737488355392 := by omega
 have h0w : 0 < w.heap.size := World.block_lt_of_cell? _ _ hm; obtain ⟨i0, hi, hz0, hz1, hz2⟩ := info_parts info9; refine callsIn_of_wp_marks Tryz.func40 rfl trivial ?_ rfl; simp only [Tryz.ntmps40, List.size_toArray, List.length_cons, List.length_nil, Nat.reduceAdd, Nat.reduceSub, Array.replicate_succ, Array.replicate_zero, List.push_toArray, List.append_toArray, List.nil_append, List.cons_append]; by_cases h0 : s.size = 0
 ·
  have hse : s = ⟨#[]⟩ := by
   cases s with
   | mk d => exact congrArg _ (Array.eq_empty_of_size_eq_zero h0)
  subst hse; have a1 := Boxed.new (w.alloc (.cells #[.string ⟨#[]⟩] 9)) 57 (.slice none 0 0); simp only [World.size_alloc] at a1; have c1 := a1.cell; have f1 := a1.frozen; gi_wp2
  refine ⟨.slice none 0 0, ?_, _, rfl, ?_, ((Below.refl _ w).alloc (Nat.le_refl _) _).alloc (by simp) _⟩
  · simp [results, Tryz.f40, go_sem, c1]
  have e1 : fieldsOf ⟨#[]⟩ fs = [] := if_pos rfl; rw [e1]; exact World.ownsRow_nil _ _ _ _
 have h1 : s.toList.isEmpty = false := by
  cases h2 : s.toList with
  | nil =>
   have h3 := congrArg List.length h2; rw [show s.toList = s.data.toList from ByteArray.toList_eq s] at h3; exact absurd (by simpa using h3) h0
  | cons a l => rfl
 by_cases hsp : fs = ⟨#[32]⟩
 ·
  subst hsp; have HFE : Hid (fieldsOf s ⟨#[32]⟩ = fieldsG s (endB s s.size) (runs s)) := Lib.hid ((if_neg h0).trans (if_pos rfl)); gi_wp2_with (refine ⟨trivial, ?_⟩; gi_at_call 81; refine (runs_in s _ _).mono ?_; rintro e w' ⟨rfl, rfl⟩)
  have a0 := Boxed.new w 9 (.string s); have a1 := Boxed.new (w.alloc (.cells #[.string s] 9)) 57 (.slice none 0 0); have a2 := Boxed.new ((w.alloc (.cells #[.string s] 9)).alloc (.cells #[.slice none 0 0] 57)) 3 (.int .i64 (s.size : Int)); have a3 := Boxed.new (((w.alloc (.cells #[.string s] 9)).alloc (.cells #[.slice none 0 0] 57)).alloc (.cells #[.int .i64 (s.size : Int)] 3)) 9 (.string s); have hB0 : Below w.heap.size w ((((w.alloc (.cells #[.string s] 9)).alloc (.cells #[.slice none 0 0] 57)).alloc (.cells #[.int .i64 (s.size : Int)] 3)).alloc (.cells #[.string s] 9)) :=
   ((((Below.refl _ w).alloc (Nat.le_refl _) _).alloc (by simp) _).alloc (by simp; omega) _).alloc (by simp; omega) _
  simp only [World.size_alloc] at a1 a2 a3; replace a0 := ((a0.alloc (.cells #[.slice none 0 0] 57)).alloc (.cells #[.int .i64 (s.size : Int)] 3)).alloc (.cells #[.string s] 9); replace a1 := (a1.alloc (.cells #[.int .i64 (s.size : Int)] 3)).alloc (.cells #[.string s] 9); replace a2 := a2.alloc (.cells #[.string s] 9); obtain ⟨W1, hW1⟩ : ∃ W1, ((((w.alloc (.cells #[.string s] 9)).alloc (.cells #[.slice none 0 0] 57)).alloc (.cells #[.int .i64 (s.size : Int)] 3)).alloc (.cells #[.string s] 9)) = W1 := ⟨_, rfl⟩; have hsz : W1.heap.size = w.heap.size + 1 + 1 + 1 + 1 := by rw [← hW1]; simp
  rw [hW1] at a0 a1 a2 a3 hB0 ⊢; have HW1 := Lib.hid hW1; have HSZ := Lib.hid hsz; clear hW1 hsz; gi_loopw [] (fun wr => ∃ e : Nat, e ≤ s.size ∧ Hid (endB s e = endB s s.size) ∧ Boxed wr (w.heap.size + 1 + 1) 3 (.int .i64 (e : Int)) ∧ Boxed wr w.heap.size 9 (.string s) ∧ Boxed wr (w.heap.size + 1) 57 (.slice none 0 0) ∧ Boxed wr (w.heap.size + 1 + 1 + 1) 9 (.string s) ∧ Hid (wr.heap.size = w.heap.size + 1 + 1 + 1 + 1) ∧ Below w.heap.size w wr)
   (fun wr => cellNat wr (w.heap.size + 1 + 1))
  case atStart => exact ⟨s.size, Nat.le_refl _, rfl, a2, a0, a1, a3, HSZ, hB0⟩
  case round =>
   clear a0 a1 a2 a3 HW1 HSZ hB0; obtain ⟨e, he, hE, a2, a0, a1, a3, hsz, hB⟩ := hrel; have c0 := a0.cell; have c2 := a2.cell; have f2 := a2.frozen; have hm := Lib.hid (cellNat_of c2); by_cases hin : 0 < e ∧ blAt s (e - 1) = true
   ·
    obtain ⟨h3, h4⟩ := hin; obtain ⟨k, rfl⟩ : ∃ k, e = k + 1 := ⟨e - 1, by omega⟩; have hcall := blank_at s k (by omega) true (by simpa using h4); have H4 := Lib.hid h4; clear h4; gi_wp2_with (refine ⟨trivial, ?_⟩; gi_at_call 82; refine (hcall _ _).mono ?_; rintro e w' ⟨rfl, rfl⟩)
    refine ⟨⟨k, by omega, ?_, a2.set _, a0.other (by omega) _, a1.other (by omega) _, a3.other (by omega) _, ?_, hB.setCell (p := ⟨w.heap.size + 1 + 1, 0, none⟩) (by simp; omega) _⟩, ?_⟩
    ·
     have h5 : endB s (k + 1) = endB s s.size := hE.out; have h6 : endB s (k + 1) = endB s k := by
      rw [endB]; exact if_pos (by simpa using H4.out)
     exact Lib.hid (h6.symm.trans h5)
    · have h5 : wr.heap.size = w.heap.size + 1 + 1 + 1 + 1 := hsz.out; exact Lib.hid (by simpa using h5)
    rw [cellNat_of (a2.set (.int .i64 (k : Int))).cell, hm.out]; omega
   have hend : endB s s.size = e := by
    have h5 : endB s e = endB s s.size := hE.out; rw [← h5]; cases e with
    | zero => rfl
    | succ k =>
     unfold endB; rw [if_neg (fun h => hin ⟨Nat.succ_pos k, by simpa using h⟩)]
   have HE := Lib.hid hend; clear hend hE; have hsz' : wr.heap.size = w.heap.size + 1 + 1 + 1 + 1 := hsz.out; clear hsz; rcases Nat.eq_zero_or_pos e with h3 | h3
   ·
    subst h3; clear hin; gi_wp2
    refine ⟨trivial, ?_⟩; gi_wp2
    clear hm c2 f2; have aO := Boxed.new wr 57 (.slice none 0 0); rw [hsz'] at aO; have HO := HE.out; rw [← HO] at a2; have hO9 : w.heap.size + 1 + 1 < (w.heap.size + 1 + 1 + 1 + 1) := by omega
    have g1 : w.heap.size ≤ (wr.alloc (.cells #[.slice none 0 0] 57)).heap.size := by simp; omega
    have g1O : (w.heap.size + 1 + 1 + 1 + 1) ≤ (wr.alloc (.cells #[.slice none 0 0] 57)).heap.size := by simp; omega
    have g2 : w.heap.size + 1 + 1 + 1 < (wr.alloc (.cells #[.slice none 0 0] 57)).heap.size := by simp; omega
    have g3 := hB.alloc hB.size (.cells #[.slice none 0 0] 57); clear hsz' HE HO; apply wpIn_rangeFunc_ownG (encs := encP (s := s) (E := (endB s s.size))) (Kp := Below (w.heap.size + 1 + 1 + 1 + 1)) (S := fun ys => ys = runsP s) (Sp := fun pre => pre <+: runsP s) (N := (runsP s).length) rfl (by omega) (gf := 108) (lb := #[.pointer (some ⟨w.heap.size + 1 + 1 + 1, 0, none⟩)]) rfl trivial (enters_of Tryz.func108 (by kernel_rfl) rfl)
     (runs_stops (w.heap.size + 1 + 1 + 1) _ s hs _ g2 (by omega) ((a3.alloc _).cell)) belowK_t (belowK_b g1O) (Below.refl _ _) (fun _ => rfl)
     (IFields s (endB s s.size) w (w.heap.size + 1 + 1 + 1 + 1)) (XFields s (endB s s.size) w (w.heap.size + 1 + 1 + 1 + 1)) (own_I s (endB s s.size) w (w.heap.size + 1 + 1 + 1 + 1) _ g1) (own_X s (endB s s.size) w (w.heap.size + 1 + 1 + 1 + 1) _ g1)
     ⟨⟨⟨_, aO, World.ownsRow_nil _ _ _ _, by simp⟩, a0.alloc _, a2.alloc _, a1.alloc _⟩, g3⟩
    case hassign =>
     intro l x W K hK; gi_wp2
     exact hK
    case hbody =>
     rintro l pre x W ⟨⟨⟨v, hv, hrow, hlen⟩, hb0, hb2, hb1⟩, hB2⟩ hlt; obtain ⟨A, cap, rfl⟩ := ownsRow_slice hrow; obtain ⟨p1, p2, p3⟩ := x.2; have p4 : (endB s s.size) ≤ s.size := endB_le s s.size; have hsW := hv.lt; have hrowD : ∀ o, (W.drew.alloc o).ownsRow ((w.heap.size + 1 + 1 + 1 + 1) + 1) 9 1 (.slice A pre.length cap) pre.length (outOf pre) := fun o => (World.ownsRow.drew hrow).alloc o
     have hc := hv.cell; have hc0 := hb0.cell; have hc2 := hb2.cell; clear g1 g1O g2 g3 aO a0 a1 a2 a3 hB; by_cases h67 : pre.length = 32767
     ·
      have ht : ((pre.length : Int) == 32767) = true := by rw [h67]; rfl
      have ht2 : (pre.length == 32767) = true := by rw [h67]; rfl
      have H67 := Lib.hid h67; clear h67; gi_wp2
      refine wpIn_region_any (by kernel_rfl) ?_; refine anyIn_of_any l _ (noDefer_of (by kernel_rfl)) (by rintro ⟨a9, w9, h9⟩; exact h9) _ _ _ _ ?_; change wpAny _ _ _ _ _ _ _ (World.drew _); refine wpAny_take (i := 2) (v := ?_) rfl (by kernel_rfl) (by kernel_rfl) (by kernel_rfl) (fun _ _ _ h => h) (Or.inl ⟨by rfl, ?_⟩) ?_; rotate_left
      · intro w9; go_simp; rfl
      refine wpAny_ready (rs := [0, 1, 3]) (by kernel_rfl) (by simp) ?_; refine AllReady.cons rfl (fun K hK => ?_) (AllReady.cons rfl (fun K hK => ?_) (AllReady.cons rfl (fun K hK => ?_) AllReady.nil))
      ·
       go_simp
       refine hK _ _ ?_; clear hK K; refine wpAny_ready (rs := [1, 3]) (by kernel_rfl) (by simp) ?_; refine AllReady.cons rfl (fun K hK => ?_) (AllReady.cons rfl (fun K hK => ?_) AllReady.nil)
       ·
        go_simp
        refine hK _ _ ?_; clear hK K; refine wpAny_ready (rs := [3]) (by kernel_rfl) (by simp) ?_; refine AllReady.cons rfl (fun K hK => ?_) AllReady.nil; go_simp
        refine hK _ _ ?_; clear hK K; refine wpAny_ready (rs := [4]) (by kernel_rfl) (by simp) ?_; refine AllReady.cons rfl (fun K hK => ?_) AllReady.nil; go_simp
        refine hK _ _ ?_; clear hK K; refine wpAny_ready (rs := [5]) (by kernel_rfl) (by simp) ?_; refine AllReady.cons rfl (fun K hK => ?_) AllReady.nil; go_simp
        refine hK _ _ ?_; clear hK K; refine wpAny_ready (rs := [6]) (by kernel_rfl) (by simp) ?_; refine AllReady.cons rfl (fun K hK => ?_) AllReady.nil; refine step_append_owned rfl _ _ 57 rfl ((w.heap.size + 1 + 1 + 1 + 1) + 1) 9 i0 (.string ⟨#[]⟩) 1 16 Tryz.underlying57 hi hz0 hz1 hz2 rfl (by decide) (.slice A pre.length cap) pre.length (outOf pre) rfl (hrowD _) ⟨W.heap.size, 0, none⟩ 1 1 [.string (lastP x)] rfl rfl (cell_one_new _ _ _) (by simp [Value.oneCell']) (by unfold maxLen; omega) (by omega) (by simp; omega) ?_; intro v' w1 hown' hgrow _; obtain ⟨g', cap', rfl⟩ := ownsRow_succ hown'; have q1 := grown_box hrow hgrow hv (by omega); have q3 := grown_box hrow hgrow hb1 (by omega); refine hK _ _ ?_; clear hK K; have cO := q1.cell; have fO := q1.frozen; have cR := q3.cell; have fR := q3.frozen; refine wpAny_ready (rs := [7]) (by kernel_rfl) (by simp) ?_; refine AllReady.cons rfl (fun K hK => ?_) AllReady.nil; go_simp
        refine hK _ _ ?_; clear hK K; clear cO fO cR fR; refine wpAny_done (by kernel_rfl) ?_ _; gi_wp2
        exact close_ret hO9 hrow H67.out (by omega) hb1 hB2 hown' hgrow _
       go_simp
       refine hK _ _ ?_; clear hK K; refine wpAny_ready (rs := [1]) (by kernel_rfl) (by simp) ?_; refine AllReady.cons rfl (fun K hK => ?_) AllReady.nil; go_simp
       refine hK _ _ ?_; clear hK K; refine wpAny_ready (rs := [4]) (by kernel_rfl) (by simp) ?_; refine AllReady.cons rfl (fun K hK => ?_) AllReady.nil; go_simp
       refine hK _ _ ?_; clear hK K; refine wpAny_ready (rs := [5]) (by kernel_rfl) (by simp) ?_; refine AllReady.cons rfl (fun K hK => ?_) AllReady.nil; go_simp
       refine hK _ _ ?_; clear hK K; refine wpAny_ready (rs := [6]) (by kernel_rfl) (by simp) ?_; refine AllReady.cons rfl (fun K hK => ?_) AllReady.nil; refine step_append_owned rfl _ _ 57 rfl ((w.heap.size + 1 + 1 + 1 + 1) + 1) 9 i0 (.string ⟨#[]⟩) 1 16 Tryz.underlying57 hi hz0 hz1 hz2 rfl (by decide) (.slice A pre.length cap) pre.length (outOf pre) rfl (hrowD _) ⟨W.heap.size, 0, none⟩ 1 1 [.string (lastP x)] rfl rfl (cell_one_new _ _ _) (by simp [Value.oneCell']) (by unfold maxLen; omega) (by omega) (by simp; omega) ?_; intro v' w1 hown' hgrow _; obtain ⟨g', cap', rfl⟩ := ownsRow_succ hown'; have q1 := grown_box hrow hgrow hv (by omega); have q3 := grown_box hrow hgrow hb1 (by omega); refine hK _ _ ?_; clear hK K; have cO := q1.cell; have fO := q1.frozen; have cR := q3.cell; have fR := q3.frozen; refine wpAny_ready (rs := [7]) (by kernel_rfl) (by simp) ?_; refine AllReady.cons rfl (fun K hK => ?_) AllReady.nil; go_simp
       refine hK _ _ ?_; clear hK K; clear cO fO cR fR; refine wpAny_done (by kernel_rfl) ?_ _; gi_wp2
       exact close_ret hO9 hrow H67.out (by omega) hb1 hB2 hown' hgrow _
      ·
       go_simp
       refine hK _ _ ?_; clear hK K; refine wpAny_ready (rs := [0, 3]) (by kernel_rfl) (by simp) ?_; refine AllReady.cons rfl (fun K hK => ?_) (AllReady.cons rfl (fun K hK => ?_) AllReady.nil)
       ·
        go_simp
        refine hK _ _ ?_; clear hK K; refine wpAny_ready (rs := [3]) (by kernel_rfl) (by simp) ?_; refine AllReady.cons rfl (fun K hK => ?_) AllReady.nil; go_simp
        refine hK _ _ ?_; clear hK K; refine wpAny_ready (rs := [4]) (by kernel_rfl) (by simp) ?_; refine AllReady.cons rfl (fun K hK => ?_) AllReady.nil; go_simp
        refine hK _ _ ?_; clear hK K; refine wpAny_ready (rs := [5]) (by kernel_rfl) (by simp) ?_; refine AllReady.cons rfl (fun K hK => ?_) AllReady.nil; go_simp
        refine hK _ _ ?_; clear hK K; refine wpAny_ready (rs := [6]) (by kernel_rfl) (by simp) ?_; refine AllReady.cons rfl (fun K hK => ?_) AllReady.nil; refine step_append_owned rfl _ _ 57 rfl ((w.heap.size + 1 + 1 + 1 + 1) + 1) 9 i0 (.string ⟨#[]⟩) 1 16 Tryz.underlying57 hi hz0 hz1 hz2 rfl (by decide) (.slice A pre.length cap) pre.length (outOf pre) rfl (hrowD _) ⟨W.heap.size, 0, none⟩ 1 1 [.string (lastP x)] rfl rfl (cell_one_new _ _ _) (by simp [Value.oneCell']) (by unfold maxLen; omega) (by omega) (by simp; omega) ?_; intro v' w1 hown' hgrow _; obtain ⟨g', cap', rfl⟩ := ownsRow_succ hown'; have q1 := grown_box hrow hgrow hv (by omega); have q3 := grown_box hrow hgrow hb1 (by omega); refine hK _ _ ?_; clear hK K; have cO := q1.cell; have fO := q1.frozen; have cR := q3.cell; have fR := q3.frozen; refine wpAny_ready (rs := [7]) (by kernel_rfl) (by simp) ?_; refine AllReady.cons rfl (fun K hK => ?_) AllReady.nil; go_simp
        refine hK _ _ ?_; clear hK K; clear cO fO cR fR; refine wpAny_done (by kernel_rfl) ?_ _; gi_wp2
        exact close_ret hO9 hrow H67.out (by omega) hb1 hB2 hown' hgrow _
       go_simp
       refine hK _ _ ?_; clear hK K; refine wpAny_ready (rs := [0, 4]) (by kernel_rfl) (by simp) ?_; refine AllReady.cons rfl (fun K hK => ?_) (AllReady.cons rfl (fun K hK => ?_) AllReady.nil)
       ·
        go_simp
        refine hK _ _ ?_; clear hK K; refine wpAny_ready (rs := [4]) (by kernel_rfl) (by simp) ?_; refine AllReady.cons rfl (fun K hK => ?_) AllReady.nil; go_simp
        refine hK _ _ ?_; clear hK K; refine wpAny_ready (rs := [5]) (by kernel_rfl) (by simp) ?_; refine AllReady.cons rfl (fun K hK => ?_) AllReady.nil; go_simp
        refine hK _ _ ?_; clear hK K; refine wpAny_ready (rs := [6]) (by kernel_rfl) (by simp) ?_; refine AllReady.cons rfl (fun K hK => ?_) AllReady.nil; refine step_append_owned rfl _ _ 57 rfl ((w.heap.size + 1 + 1 + 1 + 1) + 1) 9 i0 (.string ⟨#[]⟩) 1 16 Tryz.underlying57 hi hz0 hz1 hz2 rfl (by decide) (.slice A pre.length cap) pre.length (outOf pre) rfl (hrowD _) ⟨W.heap.size, 0, none⟩ 1 1 [.string (lastP x)] rfl rfl (cell_one_new _ _ _) (by simp [Value.oneCell']) (by unfold maxLen; omega) (by omega) (by simp; omega) ?_; intro v' w1 hown' hgrow _; obtain ⟨g', cap', rfl⟩ := ownsRow_succ hown'; have q1 := grown_box hrow hgrow hv (by omega); have q3 := grown_box hrow hgrow hb1 (by omega); refine hK _ _ ?_; clear hK K; have cO := q1.cell; have fO := q1.frozen; have cR := q3.cell; have fR := q3.frozen; refine wpAny_ready (rs := [7]) (by kernel_rfl) (by simp) ?_; refine AllReady.cons rfl (fun K hK => ?_) AllReady.nil; go_simp
        refine hK _ _ ?_; clear hK K; clear cO fO cR fR; refine wpAny_done (by kernel_rfl) ?_ _; gi_wp2
        exact close_ret hO9 hrow H67.out (by omega) hb1 hB2 hown' hgrow _
       go_simp
       refine hK _ _ ?_; clear hK K; refine wpAny_ready (rs := [0, 5]) (by kernel_rfl) (by simp) ?_; refine AllReady.cons rfl (fun K hK => ?_) (AllReady.cons rfl (fun K hK => ?_) AllReady.nil)
       ·
        go_simp
        refine hK _ _ ?_; clear hK K; refine wpAny_ready (rs := [5]) (by kernel_rfl) (by simp) ?_; refine AllReady.cons rfl (fun K hK => ?_) AllReady.nil; go_simp
        refine hK _ _ ?_; clear hK K; refine wpAny_ready (rs := [6]) (by kernel_rfl) (by simp) ?_; refine AllReady.cons rfl (fun K hK => ?_) AllReady.nil; refine step_append_owned rfl _ _ 57 rfl ((w.heap.size + 1 + 1 + 1 + 1) + 1) 9 i0 (.string ⟨#[]⟩) 1 16 Tryz.underlying57 hi hz0 hz1 hz2 rfl (by decide) (.slice A pre.length cap) pre.length (outOf pre) rfl (hrowD _) ⟨W.heap.size, 0, none⟩ 1 1 [.string (lastP x)] rfl rfl (cell_one_new _ _ _) (by simp [Value.oneCell']) (by unfold maxLen; omega) (by omega) (by simp; omega) ?_; intro v' w1 hown' hgrow _; obtain ⟨g', cap', rfl⟩ := ownsRow_succ hown'; have q1 := grown_box hrow hgrow hv (by omega); have q3 := grown_box hrow hgrow hb1 (by omega); refine hK _ _ ?_; clear hK K; have cO := q1.cell; have fO := q1.frozen; have cR := q3.cell; have fR := q3.frozen; refine wpAny_ready (rs := [7]) (by kernel_rfl) (by simp) ?_; refine AllReady.cons rfl (fun K hK => ?_) AllReady.nil; go_simp
        refine hK _ _ ?_; clear hK K; clear cO fO cR fR; refine wpAny_done (by kernel_rfl) ?_ _; gi_wp2
        exact close_ret hO9 hrow H67.out (by omega) hb1 hB2 hown' hgrow _
       go_simp
       refine hK _ _ ?_; clear hK K; refine wpAny_ready (rs := [0]) (by kernel_rfl) (by simp) ?_; refine AllReady.cons rfl (fun K hK => ?_) AllReady.nil; go_simp
       refine hK _ _ ?_; clear hK K; refine wpAny_ready (rs := [6]) (by kernel_rfl) (by simp) ?_; refine AllReady.cons rfl (fun K hK => ?_) AllReady.nil; refine step_append_owned rfl _ _ 57 rfl ((w.heap.size + 1 + 1 + 1 + 1) + 1) 9 i0 (.string ⟨#[]⟩) 1 16 Tryz.underlying57 hi hz0 hz1 hz2 rfl (by decide) (.slice A pre.length cap) pre.length (outOf pre) rfl (hrowD _) ⟨W.heap.size, 0, none⟩ 1 1 [.string (lastP x)] rfl rfl (cell_one_new _ _ _) (by simp [Value.oneCell']) (by unfold maxLen; omega) (by omega) (by simp; omega) ?_; intro v' w1 hown' hgrow _; obtain ⟨g', cap', rfl⟩ := ownsRow_succ hown'; have q1 := grown_box hrow hgrow hv (by omega); have q3 := grown_box hrow hgrow hb1 (by omega); refine hK _ _ ?_; clear hK K; have cO := q1.cell; have fO := q1.frozen; have cR := q3.cell; have fR := q3.frozen; refine wpAny_ready (rs := [7]) (by kernel_rfl) (by simp) ?_; refine AllReady.cons rfl (fun K hK => ?_) AllReady.nil; go_simp
       refine hK _ _ ?_; clear hK K; clear cO fO cR fR; refine wpAny_done (by kernel_rfl) ?_ _; gi_wp2
       exact close_ret hO9 hrow H67.out (by omega) hb1 hB2 hown' hgrow _
      go_simp
      refine hK _ _ ?_; clear hK K; refine wpAny_ready (rs := [0, 1]) (by kernel_rfl) (by simp) ?_; refine AllReady.cons rfl (fun K hK => ?_) (AllReady.cons rfl (fun K hK => ?_) AllReady.nil)
      ·
       go_simp
       refine hK _ _ ?_; clear hK K; refine wpAny_ready (rs := [1]) (by kernel_rfl) (by simp) ?_; refine AllReady.cons rfl (fun K hK => ?_) AllReady.nil; go_simp
       refine hK _ _ ?_; clear hK K; refine wpAny_ready (rs := [4]) (by kernel_rfl) (by simp) ?_; refine AllReady.cons rfl (fun K hK => ?_) AllReady.nil; go_simp
       refine hK _ _ ?_; clear hK K; refine wpAny_ready (rs := [5]) (by kernel_rfl) (by simp) ?_; refine AllReady.cons rfl (fun K hK => ?_) AllReady.nil; go_simp
       refine hK _ _ ?_; clear hK K; refine wpAny_ready (rs := [6]) (by kernel_rfl) (by simp) ?_; refine AllReady.cons rfl (fun K hK => ?_) AllReady.nil; refine step_append_owned rfl _ _ 57 rfl ((w.heap.size + 1 + 1 + 1 + 1) + 1) 9 i0 (.string ⟨#[]⟩) 1 16 Tryz.underlying57 hi hz0 hz1 hz2 rfl (by decide) (.slice A pre.length cap) pre.length (outOf pre) rfl (hrowD _) ⟨W.heap.size, 0, none⟩ 1 1 [.string (lastP x)] rfl rfl (cell_one_new _ _ _) (by simp [Value.oneCell']) (by unfold maxLen; omega) (by omega) (by simp; omega) ?_; intro v' w1 hown' hgrow _; obtain ⟨g', cap', rfl⟩ := ownsRow_succ hown'; have q1 := grown_box hrow hgrow hv (by omega); have q3 := grown_box hrow hgrow hb1 (by omega); refine hK _ _ ?_; clear hK K; have cO := q1.cell; have fO := q1.frozen; have cR := q3.cell; have fR := q3.frozen; refine wpAny_ready (rs := [7]) (by kernel_rfl) (by simp) ?_; refine AllReady.cons rfl (fun K hK => ?_) AllReady.nil; go_simp
       refine hK _ _ ?_; clear hK K; clear cO fO cR fR; refine wpAny_done (by kernel_rfl) ?_ _; gi_wp2
       exact close_ret hO9 hrow H67.out (by omega) hb1 hB2 hown' hgrow _
      go_simp
      refine hK _ _ ?_; clear hK K; refine wpAny_ready (rs := [0, 4]) (by kernel_rfl) (by simp) ?_; refine AllReady.cons rfl (fun K hK => ?_) (AllReady.cons rfl (fun K hK => ?_) AllReady.nil)
      ·
       go_simp
       refine hK _ _ ?_; clear hK K; refine wpAny_ready (rs := [4]) (by kernel_rfl) (by simp) ?_; refine AllReady.cons rfl (fun K hK => ?_) AllReady.nil; go_simp
       refine hK _ _ ?_; clear hK K; refine wpAny_ready (rs := [5]) (by kernel_rfl) (by simp) ?_; refine AllReady.cons rfl (fun K hK => ?_) AllReady.nil; go_simp
       refine hK _ _ ?_; clear hK K; refine wpAny_ready (rs := [6]) (by kernel_rfl) (by simp) ?_; refine AllReady.cons rfl (fun K hK => ?_) AllReady.nil; refine step_append_owned rfl _ _ 57 rfl ((w.heap.size + 1 + 1 + 1 + 1) + 1) 9 i0 (.string ⟨#[]⟩) 1 16 Tryz.underlying57 hi hz0 hz1 hz2 rfl (by decide) (.slice A pre.length cap) pre.length (outOf pre) rfl (hrowD _) ⟨W.heap.size, 0, none⟩ 1 1 [.string (lastP x)] rfl rfl (cell_one_new _ _ _) (by simp [Value.oneCell']) (by unfold maxLen; omega) (by omega) (by simp; omega) ?_; intro v' w1 hown' hgrow _; obtain ⟨g', cap', rfl⟩ := ownsRow_succ hown'; have q1 := grown_box hrow hgrow hv (by omega); have q3 := grown_box hrow hgrow hb1 (by omega); refine hK _ _ ?_; clear hK K; have cO := q1.cell; have fO := q1.frozen; have cR := q3.cell; have fR := q3.frozen; refine wpAny_ready (rs := [7]) (by kernel_rfl) (by simp) ?_; refine AllReady.cons rfl (fun K hK => ?_) AllReady.nil; go_simp
       refine hK _ _ ?_; clear hK K; clear cO fO cR fR; refine wpAny_done (by kernel_rfl) ?_ _; gi_wp2
       exact close_ret hO9 hrow H67.out (by omega) hb1 hB2 hown' hgrow _
      go_simp
      refine hK _ _ ?_; clear hK K; refine wpAny_ready (rs := [0, 5]) (by kernel_rfl) (by simp) ?_; refine AllReady.cons rfl (fun K hK => ?_) (AllReady.cons rfl (fun K hK => ?_) AllReady.nil)
      ·
       go_simp
       refine hK _ _ ?_; clear hK K; refine wpAny_ready (rs := [5]) (by kernel_rfl) (by simp) ?_; refine AllReady.cons rfl (fun K hK => ?_) AllReady.nil; go_simp
       refine hK _ _ ?_; clear hK K; refine wpAny_ready (rs := [6]) (by kernel_rfl) (by simp) ?_; refine AllReady.cons rfl (fun K hK => ?_) AllReady.nil; refine step_append_owned rfl _ _ 57 rfl ((w.heap.size + 1 + 1 + 1 + 1) + 1) 9 i0 (.string ⟨#[]⟩) 1 16 Tryz.underlying57 hi hz0 hz1 hz2 rfl (by decide) (.slice A pre.length cap) pre.length (outOf pre) rfl (hrowD _) ⟨W.heap.size, 0, none⟩ 1 1 [.string (lastP x)] rfl rfl (cell_one_new _ _ _) (by simp [Value.oneCell']) (by unfold maxLen; omega) (by omega) (by simp; omega) ?_; intro v' w1 hown' hgrow _; obtain ⟨g', cap', rfl⟩ := ownsRow_succ hown'; have q1 := grown_box hrow hgrow hv (by omega); have q3 := grown_box hrow hgrow hb1 (by omega); refine hK _ _ ?_; clear hK K; have cO := q1.cell; have fO := q1.frozen; have cR := q3.cell; have fR := q3.frozen; refine wpAny_ready (rs := [7]) (by kernel_rfl) (by simp) ?_; refine AllReady.cons rfl (fun K hK => ?_) AllReady.nil; go_simp
       refine hK _ _ ?_; clear hK K; clear cO fO cR fR; refine wpAny_done (by kernel_rfl) ?_ _; gi_wp2
       exact close_ret hO9 hrow H67.out (by omega) hb1 hB2 hown' hgrow _
      go_simp
      refine hK _ _ ?_; clear hK K; refine wpAny_ready (rs := [0]) (by kernel_rfl) (by simp) ?_; refine AllReady.cons rfl (fun K hK => ?_) AllReady.nil; go_simp
      refine hK _ _ ?_; clear hK K; refine wpAny_ready (rs := [6]) (by kernel_rfl) (by simp) ?_; refine AllReady.cons rfl (fun K hK => ?_) AllReady.nil; refine step_append_owned rfl _ _ 57 rfl ((w.heap.size + 1 + 1 + 1 + 1) + 1) 9 i0 (.string ⟨#[]⟩) 1 16 Tryz.underlying57 hi hz0 hz1 hz2 rfl (by decide) (.slice A pre.length cap) pre.length (outOf pre) rfl (hrowD _) ⟨W.heap.size, 0, none⟩ 1 1 [.string (lastP x)] rfl rfl (cell_one_new _ _ _) (by simp [Value.oneCell']) (by unfold maxLen; omega) (by omega) (by simp; omega) ?_; intro v' w1 hown' hgrow _; obtain ⟨g', cap', rfl⟩ := ownsRow_succ hown'; have q1 := grown_box hrow hgrow hv (by omega); have q3 := grown_box hrow hgrow hb1 (by omega); refine hK _ _ ?_; clear hK K; have cO := q1.cell; have fO := q1.frozen; have cR := q3.cell; have fR := q3.frozen; refine wpAny_ready (rs := [7]) (by kernel_rfl) (by simp) ?_; refine AllReady.cons rfl (fun K hK => ?_) AllReady.nil; go_simp
      refine hK _ _ ?_; clear hK K; clear cO fO cR fR; refine wpAny_done (by kernel_rfl) ?_ _; gi_wp2
      exact close_ret hO9 hrow H67.out (by omega) hb1 hB2 hown' hgrow _
     have ht : ((pre.length : Int) == 32767) = false := by simp; omega
     have ht2 : (pre.length == 32767) = false := by simp; omega
     gi_wp2
     refine wpIn_region_any (by kernel_rfl) ?_; refine anyIn_of_any l _ (noDefer_of (by kernel_rfl)) (by rintro ⟨a9, w9, h9⟩; exact h9) _ _ _ _ ?_; change wpAny _ _ _ _ _ _ _ (World.drew _); refine wpAny_take (i := 2) (v := ?_) rfl (by kernel_rfl) (by kernel_rfl) (by kernel_rfl) (fun _ _ _ h => h) (Or.inl ⟨by rfl, ?_⟩) ?_; rotate_left
     · intro w9; go_simp; rfl
     refine wpAny_take (i := 3) (v := ?_) rfl (by kernel_rfl) (by kernel_rfl) (by kernel_rfl) (fun _ _ _ h => h) (Or.inl ⟨by rfl, ?_⟩) ?_; rotate_left
     · intro w9; go_simp; rfl
     refine wpAny_ready (rs := [0, 1]) (by kernel_rfl) (by simp) ?_; refine AllReady.cons rfl (fun K hK => ?_) (AllReady.cons rfl (fun K hK => ?_) AllReady.nil)
     ·
      go_simp
      refine hK _ _ ?_; clear hK K; refine wpAny_ready (rs := [1]) (by kernel_rfl) (by simp) ?_; refine AllReady.cons rfl (fun K hK => ?_) AllReady.nil; go_simp
      refine hK _ _ ?_; clear hK K; refine wpAny_ready (rs := [4]) (by kernel_rfl) (by simp) ?_; refine AllReady.cons rfl (fun K hK => ?_) AllReady.nil; go_simp
      refine hK _ _ ?_; clear hK K; refine wpAny_ready (rs := [5]) (by kernel_rfl) (by simp) ?_; refine AllReady.cons rfl (fun K hK => ?_) AllReady.nil; go_simp
      refine hK _ _ ?_; clear hK K; refine wpAny_ready (rs := [6]) (by kernel_rfl) (by simp) ?_; refine AllReady.cons rfl (fun K hK => ?_) AllReady.nil; refine step_append_owned rfl _ _ 57 rfl ((w.heap.size + 1 + 1 + 1 + 1) + 1) 9 i0 (.string ⟨#[]⟩) 1 16 Tryz.underlying57 hi hz0 hz1 hz2 rfl (by decide) (.slice A pre.length cap) pre.length (outOf pre) rfl (hrowD _) ⟨W.heap.size, 0, none⟩ 1 1 [.string (cutP x)] rfl rfl (cell_one_new _ _ _) (by simp [Value.oneCell']) (by unfold maxLen; omega) (by omega) (by simp; omega) ?_; intro v' w1 hown' hgrow _; obtain ⟨g', cap', rfl⟩ := ownsRow_succ hown'; have q1 := grown_box hrow hgrow hv (by omega); have q3 := grown_box hrow hgrow hb1 (by omega); refine hK _ _ ?_; clear hK K; have cO := q1.cell; have fO := q1.frozen; have cR := q3.cell; have fR := q3.frozen; refine wpAny_ready (rs := [7]) (by kernel_rfl) (by simp) ?_; refine AllReady.cons rfl (fun K hK => ?_) AllReady.nil; go_simp
      refine hK _ _ ?_; clear hK K; clear cO fO cR fR; refine wpAny_done (by kernel_rfl) ?_ _; exact close_normal hO9 hv hrow (by omega) hb0 hb2 hb1 hB2 hown' hgrow _
     go_simp
     refine hK _ _ ?_; clear hK K; refine wpAny_ready (rs := [0, 4]) (by kernel_rfl) (by simp) ?_; refine AllReady.cons rfl (fun K hK => ?_) (AllReady.cons rfl (fun K hK => ?_) AllReady.nil)
     ·
      go_simp
      refine hK _ _ ?_; clear hK K; refine wpAny_ready (rs := [4]) (by kernel_rfl) (by simp) ?_; refine AllReady.cons rfl (fun K hK => ?_) AllReady.nil; go_simp
      refine hK _ _ ?_; clear hK K; refine wpAny_ready (rs := [5]) (by kernel_rfl) (by simp) ?_; refine AllReady.cons rfl (fun K hK => ?_) AllReady.nil; go_simp
      refine hK _ _ ?_; clear hK K; refine wpAny_ready (rs := [6]) (by kernel_rfl) (by simp) ?_; refine AllReady.cons rfl (fun K hK => ?_) AllReady.nil; refine step_append_owned rfl _ _ 57 rfl ((w.heap.size + 1 + 1 + 1 + 1) + 1) 9 i0 (.string ⟨#[]⟩) 1 16 Tryz.underlying57 hi hz0 hz1 hz2 rfl (by decide) (.slice A pre.length cap) pre.length (outOf pre) rfl (hrowD _) ⟨W.heap.size, 0, none⟩ 1 1 [.string (cutP x)] rfl rfl (cell_one_new _ _ _) (by simp [Value.oneCell']) (by unfold maxLen; omega) (by omega) (by simp; omega) ?_; intro v' w1 hown' hgrow _; obtain ⟨g', cap', rfl⟩ := ownsRow_succ hown'; have q1 := grown_box hrow hgrow hv (by omega); have q3 := grown_box hrow hgrow hb1 (by omega); refine hK _ _ ?_; clear hK K; have cO := q1.cell; have fO := q1.frozen; have cR := q3.cell; have fR := q3.frozen; refine wpAny_ready (rs := [7]) (by kernel_rfl) (by simp) ?_; refine AllReady.cons rfl (fun K hK => ?_) AllReady.nil; go_simp
      refine hK _ _ ?_; clear hK K; clear cO fO cR fR; refine wpAny_done (by kernel_rfl) ?_ _; exact close_normal hO9 hv hrow (by omega) hb0 hb2 hb1 hB2 hown' hgrow _
     go_simp
     refine hK _ _ ?_; clear hK K; refine wpAny_ready (rs := [0, 5]) (by kernel_rfl) (by simp) ?_; refine AllReady.cons rfl (fun K hK => ?_) (AllReady.cons rfl (fun K hK => ?_) AllReady.nil)
     ·
      go_simp
      refine hK _ _ ?_; clear hK K; refine wpAny_ready (rs := [5]) (by kernel_rfl) (by simp) ?_; refine AllReady.cons rfl (fun K hK => ?_) AllReady.nil; go_simp
      refine hK _ _ ?_; clear hK K; refine wpAny_ready (rs := [6]) (by kernel_rfl) (by simp) ?_; refine AllReady.cons rfl (fun K hK => ?_) AllReady.nil; refine step_append_owned rfl _ _ 57 rfl ((w.heap.size + 1 + 1 + 1 + 1) + 1) 9 i0 (.string ⟨#[]⟩) 1 16 Tryz.underlying57 hi hz0 hz1 hz2 rfl (by decide) (.slice A pre.length cap) pre.length (outOf pre) rfl (hrowD _) ⟨W.heap.size, 0, none⟩ 1 1 [.string (cutP x)] rfl rfl (cell_one_new _ _ _) (by simp [Value.oneCell']) (by unfold maxLen; omega) (by omega) (by simp; omega) ?_; intro v' w1 hown' hgrow _; obtain ⟨g', cap', rfl⟩ := ownsRow_succ hown'; have q1 := grown_box hrow hgrow hv (by omega); have q3 := grown_box hrow hgrow hb1 (by omega); refine hK _ _ ?_; clear hK K; have cO := q1.cell; have fO := q1.frozen; have cR := q3.cell; have fR := q3.frozen; refine wpAny_ready (rs := [7]) (by kernel_rfl) (by simp) ?_; refine AllReady.cons rfl (fun K hK => ?_) AllReady.nil; go_simp
      refine hK _ _ ?_; clear hK K; clear cO fO cR fR; refine wpAny_done (by kernel_rfl) ?_ _; exact close_normal hO9 hv hrow (by omega) hb0 hb2 hb1 hB2 hown' hgrow _
     go_simp
     refine hK _ _ ?_; clear hK K; refine wpAny_ready (rs := [0]) (by kernel_rfl) (by simp) ?_; refine AllReady.cons rfl (fun K hK => ?_) AllReady.nil; go_simp
     refine hK _ _ ?_; clear hK K; refine wpAny_ready (rs := [6]) (by kernel_rfl) (by simp) ?_; refine AllReady.cons rfl (fun K hK => ?_) AllReady.nil; refine step_append_owned rfl _ _ 57 rfl ((w.heap.size + 1 + 1 + 1 + 1) + 1) 9 i0 (.string ⟨#[]⟩) 1 16 Tryz.underlying57 hi hz0 hz1 hz2 rfl (by decide) (.slice A pre.length cap) pre.length (outOf pre) rfl (hrowD _) ⟨W.heap.size, 0, none⟩ 1 1 [.string (cutP x)] rfl rfl (cell_one_new _ _ _) (by simp [Value.oneCell']) (by unfold maxLen; omega) (by omega) (by simp; omega) ?_; intro v' w1 hown' hgrow _; obtain ⟨g', cap', rfl⟩ := ownsRow_succ hown'; have q1 := grown_box hrow hgrow hv (by omega); have q3 := grown_box hrow hgrow hb1 (by omega); refine hK _ _ ?_; clear hK K; have cO := q1.cell; have fO := q1.frozen; have cR := q3.cell; have fR := q3.frozen; refine wpAny_ready (rs := [7]) (by kernel_rfl) (by simp) ?_; refine AllReady.cons rfl (fun K hK => ?_) AllReady.nil; go_simp
     refine hK _ _ ?_; clear hK K; clear cO fO cR fR; refine wpAny_done (by kernel_rfl) ?_ _; exact close_normal hO9 hv hrow (by omega) hb0 hb2 hb1 hB2 hown' hgrow _
    case hdone =>
     rintro D ys W hD rfl ⟨⟨⟨v, hv, hrow, hlen⟩, hb0, hb2, hb1⟩, hB2⟩ hK; obtain ⟨A, cap, rfl⟩ := ownsRow_slice hrow; have hc := hv.cell; have hc1 := hb1.cell; have hf1 := hb1.frozen; have hBW := hB2; have hDw := Nat.le_trans g1 hD; clear g1 g1O g2 g3 aO a0 a1 a2 a3 hB hD; gi_wp2
     have hK' := (KeepsOthers.setCell W ⟨w.heap.size + 1, 0, none⟩ (.slice A (runsP s).length cap)).same D _ hK rfl; refine ⟨by simp, .inl ⟨_, _, rfl, run_takeDeferred hK', ?_⟩⟩; have hc5 := cell_kept (hb1.set _).cell (grownBy_putObj' _ D (.deferred none)) (fun r e => by cases e; exact ⟨_, hK', rfl⟩); refine ⟨.slice A (runsP s).length cap, ?_, _, rfl, ?_, (hBW.setCell (p := ⟨w.heap.size + 1, 0, none⟩) (by simp) _).trans (belowK_b (w := w) (Nat.le_refl _) _ D _ _ hDw hK' rfl rfl)⟩
     · simp [results, Tryz.f40, go_sem, hc5]
     rw [HFE.out]; exact done_row (mkP_map s _ (runs s) (runsFrom_ok s 0)) hlen (ownsRow_putObj (grown_own hrow (b := w.heap.size + 1) (by omega) _) (.deferred none) hK' rfl) (by omega)
    case hstop =>
     rintro D c pre W hD hpre ⟨⟨v, hv, hrow, rfl, hlen⟩, hB2⟩ hK; have hDw := Nat.le_trans g1 hD; clear g1 g1O g2 g3 aO a0 a1 a2 a3 hB hD; gi_wp2
     refine ⟨by simp, .inl ⟨_, _, rfl, run_takeDeferred hK, ?_⟩⟩; have hc5 := cell_kept hv.cell (grownBy_putObj' _ D (.deferred none)) (fun r e => by cases e; exact ⟨_, hK, rfl⟩); refine ⟨v, ?_, v, rfl, ?_, hB2.trans (belowK_b (w := w) (Nat.le_refl _) _ D _ _ hDw hK rfl rfl)⟩
     · simp [results, Tryz.f40, go_sem, hc5]
     obtain ⟨f1, f2⟩ := fieldsG_gt (mkP_map s _ (runs s) (runsFrom_ok s 0)) pre hpre hlen; rw [HFE.out, f1, f2]; exact (ownsRow_putObj hrow (.deferred none) hK rfl).mono (by omega)
   obtain ⟨k, rfl⟩ : ∃ k, e = k + 1 := ⟨e - 1, by omega⟩; have hbk : blAt s k = false := by cases hb2 : blAt s k with | false => rfl | true => exact absurd ⟨h3, by simpa using hb2⟩ hin
   clear hin; have hcall := blank_at s k (by omega) false hbk; have HBK := Lib.hid hbk; clear hbk; gi_wp2_with (refine ⟨trivial, ?_⟩; gi_at_call 82; refine (hcall _ _).mono ?_; rintro e w' ⟨rfl, rfl⟩)
   clear hm c2 f2 hcall; have aO := Boxed.new wr 57 (.slice none 0 0); rw [hsz'] at aO; have HO := HE.out; rw [← HO] at a2; have hO9 : w.heap.size + 1 + 1 < (w.heap.size + 1 + 1 + 1 + 1) := by omega
   have g1 : w.heap.size ≤ (wr.alloc (.cells #[.slice none 0 0] 57)).heap.size := by simp; omega
   have g1O : (w.heap.size + 1 + 1 + 1 + 1) ≤ (wr.alloc (.cells #[.slice none 0 0] 57)).heap.size := by simp; omega
   have g2 : w.heap.size + 1 + 1 + 1 < (wr.alloc (.cells #[.slice none 0 0] 57)).heap.size := by simp; omega
   have g3 := hB.alloc hB.size (.cells #[.slice none 0 0] 57); clear hsz' HE HO; apply wpIn_rangeFunc_ownG (encs := encP (s := s) (E := (endB s s.size))) (Kp := Below (w.heap.size + 1 + 1 + 1 + 1)) (S := fun ys => ys = runsP s) (Sp := fun pre => pre <+: runsP s) (N := (runsP s).length) rfl (by omega) (gf := 108) (lb := #[.pointer (some ⟨w.heap.size + 1 + 1 + 1, 0, none⟩)]) rfl trivial (enters_of Tryz.func108 (by kernel_rfl) rfl)
    (runs_stops (w.heap.size + 1 + 1 + 1) _ s hs _ g2 (by omega) ((a3.alloc _).cell)) belowK_t (belowK_b g1O) (Below.refl _ _) (fun _ => rfl)
    (IFields s (endB s s.size) w (w.heap.size + 1 + 1 + 1 + 1)) (XFields s (endB s s.size) w (w.heap.size + 1 + 1 + 1 + 1)) (own_I s (endB s s.size) w (w.heap.size + 1 + 1 + 1 + 1) _ g1) (own_X s (endB s s.size) w (w.heap.size + 1 + 1 + 1 + 1) _ g1)
    ⟨⟨⟨_, aO, World.ownsRow_nil _ _ _ _, by simp⟩, a0.alloc _, a2.alloc _, a1.alloc _⟩, g3⟩
   case hassign =>
    intro l x W K hK; gi_wp2
    exact hK
   case hbody =>
    rintro l pre x W ⟨⟨⟨v, hv, hrow, hlen⟩, hb0, hb2, hb1⟩, hB2⟩ hlt; obtain ⟨A, cap, rfl⟩ := ownsRow_slice hrow; obtain ⟨p1, p2, p3⟩ := x.2; have p4 : (endB s s.size) ≤ s.size := endB_le s s.size; have hsW := hv.lt; have hrowD : ∀ o, (W.drew.alloc o).ownsRow ((w.heap.size + 1 + 1 + 1 + 1) + 1) 9 1 (.slice A pre.length cap) pre.length (outOf pre) := fun o => (World.ownsRow.drew hrow).alloc o
    have hc := hv.cell; have hc0 := hb0.cell; have hc2 := hb2.cell; clear g1 g1O g2 g3 aO a0 a1 a2 a3 hB; by_cases h67 : pre.length = 32767
    ·
     have ht : ((pre.length : Int) == 32767) = true := by rw [h67]; rfl
     have ht2 : (pre.length == 32767) = true := by rw [h67]; rfl
     have H67 := Lib.hid h67; clear h67; gi_wp2
     refine wpIn_region_any (by kernel_rfl) ?_; refine anyIn_of_any l _ (noDefer_of (by kernel_rfl)) (by rintro ⟨a9, w9, h9⟩; exact h9) _ _ _ _ ?_; change wpAny _ _ _ _ _ _ _ (World.drew _); refine wpAny_take (i := 2) (v := ?_) rfl (by kernel_rfl) (by kernel_rfl) (by kernel_rfl) (fun _ _ _ h => h) (Or.inl ⟨by rfl, ?_⟩) ?_; rotate_left
     · intro w9; go_simp; rfl
     refine wpAny_ready (rs := [0, 1, 3]) (by kernel_rfl) (by simp) ?_; refine AllReady.cons rfl (fun K hK => ?_) (AllReady.cons rfl (fun K hK => ?_) (AllReady.cons rfl (fun K hK => ?_) AllReady.nil))
     ·
      go_simp
      refine hK _ _ ?_; clear hK K; refine wpAny_ready (rs := [1, 3]) (by kernel_rfl) (by simp) ?_; refine AllReady.cons rfl (fun K hK => ?_) (AllReady.cons rfl (fun K hK => ?_) AllReady.nil)
      ·
       go_simp
       refine hK _ _ ?_; clear hK K; refine wpAny_ready (rs := [3]) (by kernel_rfl) (by simp) ?_; refine AllReady.cons rfl (fun K hK => ?_) AllReady.nil; go_simp
       refine hK _ _ ?_; clear hK K; refine wpAny_ready (rs := [4]) (by kernel_rfl) (by simp) ?_; refine AllReady.cons rfl (fun K hK => ?_) AllReady.nil; go_simp
       refine hK _ _ ?_; clear hK K; refine wpAny_ready (rs := [5]) (by kernel_rfl) (by simp) ?_; refine AllReady.cons rfl (fun K hK => ?_) AllReady.nil; go_simp
       refine hK _ _ ?_; clear hK K; refine wpAny_ready (rs := [6]) (by kernel_rfl) (by simp) ?_; refine AllReady.cons rfl (fun K hK => ?_) AllReady.nil; refine step_append_owned rfl _ _ 57 rfl ((w.heap.size + 1 + 1 + 1 + 1) + 1) 9 i0 (.string ⟨#[]⟩) 1 16 Tryz.underlying57 hi hz0 hz1 hz2 rfl (by decide) (.slice A pre.length cap) pre.length (outOf pre) rfl (hrowD _) ⟨W.heap.size, 0, none⟩ 1 1 [.string (lastP x)] rfl rfl (cell_one_new _ _ _) (by simp [Value.oneCell']) (by unfold maxLen; omega) (by omega) (by simp; omega) ?_; intro v' w1 hown' hgrow _; obtain ⟨g', cap', rfl⟩ := ownsRow_succ hown'; have q1 := grown_box hrow hgrow hv (by omega); have q3 := grown_box hrow hgrow hb1 (by omega); refine hK _ _ ?_; clear hK K; have cO := q1.cell; have fO := q1.frozen; have cR := q3.cell; have fR := q3.frozen; refine wpAny_ready (rs := [7]) (by kernel_rfl) (by simp) ?_; refine AllReady.cons rfl (fun K hK => ?_) AllReady.nil; go_simp
       refine hK _ _ ?_; clear hK K; clear cO fO cR fR; refine wpAny_done (by kernel_rfl) ?_ _; gi_wp2
       exact close_ret hO9 hrow H67.out (by omega) hb1 hB2 hown' hgrow _
      go_simp
      refine hK _ _ ?_; clear hK K; refine wpAny_ready (rs := [1]) (by kernel_rfl) (by simp) ?_; refine AllReady.cons rfl (fun K hK => ?_) AllReady.nil; go_simp
      refine hK _ _ ?_; clear hK K; refine wpAny_ready (rs := [4]) (by kernel_rfl) (by simp) ?_; refine AllReady.cons rfl (fun K hK => ?_) AllReady.nil; go_simp
      refine hK _ _ ?_; clear hK K; refine wpAny_ready (rs := [5]) (by kernel_rfl) (by simp) ?_; refine AllReady.cons rfl (fun K hK => ?_) AllReady.nil; go_simp
      refine hK _ _ ?_; clear hK K; refine wpAny_ready (rs := [6]) (by kernel_rfl) (by simp) ?_; refine AllReady.cons rfl (fun K hK => ?_) AllReady.nil; refine step_append_owned rfl _ _ 57 rfl ((w.heap.size + 1 + 1 + 1 + 1) + 1) 9 i0 (.string ⟨#[]⟩) 1 16 Tryz.underlying57 hi hz0 hz1 hz2 rfl (by decide) (.slice A pre.length cap) pre.length (outOf pre) rfl (hrowD _) ⟨W.heap.size, 0, none⟩ 1 1 [.string (lastP x)] rfl rfl (cell_one_new _ _ _) (by simp [Value.oneCell']) (by unfold maxLen; omega) (by omega) (by simp; omega) ?_; intro v' w1 hown' hgrow _; obtain ⟨g', cap', rfl⟩ := ownsRow_succ hown'; have q1 := grown_box hrow hgrow hv (by omega); have q3 := grown_box hrow hgrow hb1 (by omega); refine hK _ _ ?_; clear hK K; have cO := q1.cell; have fO := q1.frozen; have cR := q3.cell; have fR := q3.frozen; refine wpAny_ready (rs := [7]) (by kernel_rfl) (by simp) ?_; refine AllReady.cons rfl (fun K hK => ?_) AllReady.nil; go_simp
      refine hK _ _ ?_; clear hK K; clear cO fO cR fR; refine wpAny_done (by kernel_rfl) ?_ _; gi_wp2
      exact close_ret hO9 hrow H67.out (by omega) hb1 hB2 hown' hgrow _
     ·
      go_simp
      refine hK _ _ ?_; clear hK K; refine wpAny_ready (rs := [0, 3]) (by kernel_rfl) (by simp) ?_; refine AllReady.cons rfl (fun K hK => ?_) (AllReady.cons rfl (fun K hK => ?_) AllReady.nil)
      ·
       go_simp
       refine hK _ _ ?_; clear hK K; refine wpAny_ready (rs := [3]) (by kernel_rfl) (by simp) ?_; refine AllReady.cons rfl (fun K hK => ?_) AllReady.nil; go_simp
       refine hK _ _ ?_; clear hK K; refine wpAny_ready (rs := [4]) (by kernel_rfl) (by simp) ?_; refine AllReady.cons rfl (fun K hK => ?_) AllReady.nil; go_simp
       refine hK _ _ ?_; clear hK K; refine wpAny_ready (rs := [5]) (by kernel_rfl) (by simp) ?_; refine AllReady.cons rfl (fun K hK => ?_) AllReady.nil; go_simp
       refine hK _ _ ?_; clear hK K; refine wpAny_ready (rs := [6]) (by kernel_rfl) (by simp) ?_; refine AllReady.cons rfl (fun K hK => ?_) AllReady.nil; refine step_append_owned rfl _ _ 57 rfl ((w.heap.size + 1 + 1 + 1 + 1) + 1) 9 i0 (.string ⟨#[]⟩) 1 16 Tryz.underlying57 hi hz0 hz1 hz2 rfl (by decide) (.slice A pre.length cap) pre.length (outOf pre) rfl (hrowD _) ⟨W.heap.size, 0, none⟩ 1 1 [.string (lastP x)] rfl rfl (cell_one_new _ _ _) (by simp [Value.oneCell']) (by unfold maxLen; omega) (by omega) (by simp; omega) ?_; intro v' w1 hown' hgrow _; obtain ⟨g', cap', rfl⟩ := ownsRow_succ hown'; have q1 := grown_box hrow hgrow hv (by omega); have q3 := grown_box hrow hgrow hb1 (by omega); refine hK _ _ ?_; clear hK K; have cO := q1.cell; have fO := q1.frozen; have cR := q3.cell; have fR := q3.frozen; refine wpAny_ready (rs := [7]) (by kernel_rfl) (by simp) ?_; refine AllReady.cons rfl (fun K hK => ?_) AllReady.nil; go_simp
       refine hK _ _ ?_; clear hK K; clear cO fO cR fR; refine wpAny_done (by kernel_rfl) ?_ _; gi_wp2
       exact close_ret hO9 hrow H67.out (by omega) hb1 hB2 hown' hgrow _
      go_simp
      refine hK _ _ ?_; clear hK K; refine wpAny_ready (rs := [0, 4]) (by kernel_rfl) (by simp) ?_; refine AllReady.cons rfl (fun K hK => ?_) (AllReady.cons rfl (fun K hK => ?_) AllReady.nil)
      ·
       go_simp
       refine hK _ _ ?_; clear hK K; refine wpAny_ready (rs := [4]) (by kernel_rfl) (by simp) ?_; refine AllReady.cons rfl (fun K hK => ?_) AllReady.nil; go_simp
       refine hK _ _ ?_; clear hK K; refine wpAny_ready (rs := [5]) (by kernel_rfl) (by simp) ?_; refine AllReady.cons rfl (fun K hK => ?_) AllReady.nil; go_simp
       refine hK _ _ ?_; clear hK K; refine wpAny_ready (rs := [6]) (by kernel_rfl) (by simp) ?_; refine AllReady.cons rfl (fun K hK => ?_) AllReady.nil; refine step_append_owned rfl _ _ 57 rfl ((w.heap.size + 1 + 1 + 1 + 1) + 1) 9 i0 (.string ⟨#[]⟩) 1 16 Tryz.underlying57 hi hz0 hz1 hz2 rfl (by decide) (.slice A pre.length cap) pre.length (outOf pre) rfl (hrowD _) ⟨W.heap.size, 0, none⟩ 1 1 [.string (lastP x)] rfl rfl (cell_one_new _ _ _) (by simp [Value.oneCell']) (by unfold maxLen; omega) (by omega) (by simp; omega) ?_; intro v' w1 hown' hgrow _; obtain ⟨g', cap', rfl⟩ := ownsRow_succ hown'; have q1 := grown_box hrow hgrow hv (by omega); have q3 := grown_box hrow hgrow hb1 (by omega); refine hK _ _ ?_; clear hK K; have cO := q1.cell; have fO := q1.frozen; have cR := q3.cell; have fR := q3.frozen; refine wpAny_ready (rs := [7]) (by kernel_rfl) (by simp) ?_; refine AllReady.cons rfl (fun K hK => ?_) AllReady.nil; go_simp
       refine hK _ _ ?_; clear hK K; clear cO fO cR fR; refine wpAny_done (by kernel_rfl) ?_ _; gi_wp2
       exact close_ret hO9 hrow H67.out (by omega) hb1 hB2 hown' hgrow _
      go_simp
      refine hK _ _ ?_; clear hK K; refine wpAny_ready (rs := [0, 5]) (by kernel_rfl) (by simp) ?_; refine AllReady.cons rfl (fun K hK => ?_) (AllReady.cons rfl (fun K hK => ?_) AllReady.nil)
      ·
       go_simp
       refine hK _ _ ?_; clear hK K; refine wpAny_ready (rs := [5]) (by kernel_rfl) (by simp) ?_; refine AllReady.cons rfl (fun K hK => ?_) AllReady.nil; go_simp
       refine hK _ _ ?_; clear hK K; refine wpAny_ready (rs := [6]) (by kernel_rfl) (by simp) ?_; refine AllReady.cons rfl (fun K hK => ?_) AllReady.nil; refine step_append_owned rfl _ _ 57 rfl ((w.heap.size + 1 + 1 + 1 + 1) + 1) 9 i0 (.string ⟨#[]⟩) 1 16 Tryz.underlying57 hi hz0 hz1 hz2 rfl (by decide) (.slice A pre.length cap) pre.length (outOf pre) rfl (hrowD _) ⟨W.heap.size, 0, none⟩ 1 1 [.string (lastP x)] rfl rfl (cell_one_new _ _ _) (by simp [Value.oneCell']) (by unfold maxLen; omega) (by omega) (by simp; omega) ?_; intro v' w1 hown' hgrow _; obtain ⟨g', cap', rfl⟩ := ownsRow_succ hown'; have q1 := grown_box hrow hgrow hv (by omega); have q3 := grown_box hrow hgrow hb1 (by omega); refine hK _ _ ?_; clear hK K; have cO := q1.cell; have fO := q1.frozen; have cR := q3.cell; have fR := q3.frozen; refine wpAny_ready (rs := [7]) (by kernel_rfl) (by simp) ?_; refine AllReady.cons rfl (fun K hK => ?_) AllReady.nil; go_simp
       refine hK _ _ ?_; clear hK K; clear cO fO cR fR; refine wpAny_done (by kernel_rfl) ?_ _; gi_wp2
       exact close_ret hO9 hrow H67.out (by omega) hb1 hB2 hown' hgrow _
      go_simp
      refine hK _ _ ?_; clear hK K; refine wpAny_ready (rs := [0]) (by kernel_rfl) (by simp) ?_; refine AllReady.cons rfl (fun K hK => ?_) AllReady.nil; go_simp
      refine hK _ _ ?_; clear hK K; refine wpAny_ready (rs := [6]) (by kernel_rfl) (by simp) ?_; refine AllReady.cons rfl (fun K hK => ?_) AllReady.nil; refine step_append_owned rfl _ _ 57 rfl ((w.heap.size + 1 + 1 + 1 + 1) + 1) 9 i0 (.string ⟨#[]⟩) 1 16 Tryz.underlying57 hi hz0 hz1 hz2 rfl (by decide) (.slice A pre.length cap) pre.length (outOf pre) rfl (hrowD _) ⟨W.heap.size, 0, none⟩ 1 1 [.string (lastP x)] rfl rfl (cell_one_new _ _ _) (by simp [Value.oneCell']) (by unfold maxLen; omega) (by omega) (by simp; omega) ?_; intro v' w1 hown' hgrow _; obtain ⟨g', cap', rfl⟩ := ownsRow_succ hown'; have q1 := grown_box hrow hgrow hv (by omega); have q3 := grown_box hrow hgrow hb1 (by omega); refine hK _ _ ?_; clear hK K; have cO := q1.cell; have fO := q1.frozen; have cR := q3.cell; have fR := q3.frozen; refine wpAny_ready (rs := [7]) (by kernel_rfl) (by simp) ?_; refine AllReady.cons rfl (fun K hK => ?_) AllReady.nil; go_simp
      refine hK _ _ ?_; clear hK K; clear cO fO cR fR; refine wpAny_done (by kernel_rfl) ?_ _; gi_wp2
      exact close_ret hO9 hrow H67.out (by omega) hb1 hB2 hown' hgrow _
     go_simp
     refine hK _ _ ?_; clear hK K; refine wpAny_ready (rs := [0, 1]) (by kernel_rfl) (by simp) ?_; refine AllReady.cons rfl (fun K hK => ?_) (AllReady.cons rfl (fun K hK => ?_) AllReady.nil)
     ·
      go_simp
      refine hK _ _ ?_; clear hK K; refine wpAny_ready (rs := [1]) (by kernel_rfl) (by simp) ?_; refine AllReady.cons rfl (fun K hK => ?_) AllReady.nil; go_simp
      refine hK _ _ ?_; clear hK K; refine wpAny_ready (rs := [4]) (by kernel_rfl) (by simp) ?_; refine AllReady.cons rfl (fun K hK => ?_) AllReady.nil; go_simp
      refine hK _ _ ?_; clear hK K; refine wpAny_ready (rs := [5]) (by kernel_rfl) (by simp) ?_; refine AllReady.cons rfl (fun K hK => ?_) AllReady.nil; go_simp
      refine hK _ _ ?_; clear hK K; refine wpAny_ready (rs := [6]) (by kernel_rfl) (by simp) ?_; refine AllReady.cons rfl (fun K hK => ?_) AllReady.nil; refine step_append_owned rfl _ _ 57 rfl ((w.heap.size + 1 + 1 + 1 + 1) + 1) 9 i0 (.string ⟨#[]⟩) 1 16 Tryz.underlying57 hi hz0 hz1 hz2 rfl (by decide) (.slice A pre.length cap) pre.length (outOf pre) rfl (hrowD _) ⟨W.heap.size, 0, none⟩ 1 1 [.string (lastP x)] rfl rfl (cell_one_new _ _ _) (by simp [Value.oneCell']) (by unfold maxLen; omega) (by omega) (by simp; omega) ?_; intro v' w1 hown' hgrow _; obtain ⟨g', cap', rfl⟩ := ownsRow_succ hown'; have q1 := grown_box hrow hgrow hv (by omega); have q3 := grown_box hrow hgrow hb1 (by omega); refine hK _ _ ?_; clear hK K; have cO := q1.cell; have fO := q1.frozen; have cR := q3.cell; have fR := q3.frozen; refine wpAny_ready (rs := [7]) (by kernel_rfl) (by simp) ?_; refine AllReady.cons rfl (fun K hK => ?_) AllReady.nil; go_simp
      refine hK _ _ ?_; clear hK K; clear cO fO cR fR; refine wpAny_done (by kernel_rfl) ?_ _; gi_wp2
      exact close_ret hO9 hrow H67.out (by omega) hb1 hB2 hown' hgrow _
     go_simp
     refine hK _ _ ?_; clear hK K; refine wpAny_ready (rs := [0, 4]) (by kernel_rfl) (by simp) ?_; refine AllReady.cons rfl (fun K hK => ?_) (AllReady.cons rfl (fun K hK => ?_) AllReady.nil)
     ·
      go_simp
      refine hK _ _ ?_; clear hK K; refine wpAny_ready (rs := [4]) (by kernel_rfl) (by simp) ?_; refine AllReady.cons rfl (fun K hK => ?_) AllReady.nil; go_simp
      refine hK _ _ ?_; clear hK K; refine wpAny_ready (rs := [5]) (by kernel_rfl) (by simp) ?_; refine AllReady.cons rfl (fun K hK => ?_) AllReady.nil; go_simp
      refine hK _ _ ?_; clear hK K; refine wpAny_ready (rs := [6]) (by kernel_rfl) (by simp) ?_; refine AllReady.cons rfl (fun K hK => ?_) AllReady.nil; refine step_append_owned rfl _ _ 57 rfl ((w.heap.size + 1 + 1 + 1 + 1) + 1) 9 i0 (.string ⟨#[]⟩) 1 16 Tryz.underlying57 hi hz0 hz1 hz2 rfl (by decide) (.slice A pre.length cap) pre.length (outOf pre) rfl (hrowD _) ⟨W.heap.size, 0, none⟩ 1 1 [.string (lastP x)] rfl rfl (cell_one_new _ _ _) (by simp [Value.oneCell']) (by unfold maxLen; omega) (by omega) (by simp; omega) ?_; intro v' w1 hown' hgrow _; obtain ⟨g', cap', rfl⟩ := ownsRow_succ hown'; have q1 := grown_box hrow hgrow hv (by omega); have q3 := grown_box hrow hgrow hb1 (by omega); refine hK _ _ ?_; clear hK K; have cO := q1.cell; have fO := q1.frozen; have cR := q3.cell; have fR := q3.frozen; refine wpAny_ready (rs := [7]) (by kernel_rfl) (by simp) ?_; refine AllReady.cons rfl (fun K hK => ?_) AllReady.nil; go_simp
      refine hK _ _ ?_; clear hK K; clear cO fO cR fR; refine wpAny_done (by kernel_rfl) ?_ _; gi_wp2
      exact close_ret hO9 hrow H67.out (by omega) hb1 hB2 hown' hgrow _
     go_simp
     refine hK _ _ ?_; clear hK K; refine wpAny_ready (rs := [0, 5]) (by kernel_rfl) (by simp) ?_; refine AllReady.cons rfl (fun K hK => ?_) (AllReady.cons rfl (fun K hK => ?_) AllReady.nil)
     ·
      go_simp
      refine hK _ _ ?_; clear hK K; refine wpAny_ready (rs := [5]) (by kernel_rfl) (by simp) ?_; refine AllReady.cons rfl (fun K hK => ?_) AllReady.nil; go_simp
      refine hK _ _ ?_; clear hK K; refine wpAny_ready (rs := [6]) (by kernel_rfl) (by simp) ?_; refine AllReady.cons rfl (fun K hK => ?_) AllReady.nil; refine step_append_owned rfl _ _ 57 rfl ((w.heap.size + 1 + 1 + 1 + 1) + 1) 9 i0 (.string ⟨#[]⟩) 1 16 Tryz.underlying57 hi hz0 hz1 hz2 rfl (by decide) (.slice A pre.length cap) pre.length (outOf pre) rfl (hrowD _) ⟨W.heap.size, 0, none⟩ 1 1 [.string (lastP x)] rfl rfl (cell_one_new _ _ _) (by simp [Value.oneCell']) (by unfold maxLen; omega) (by omega) (by simp; omega) ?_; intro v' w1 hown' hgrow _; obtain ⟨g', cap', rfl⟩ := ownsRow_succ hown'; have q1 := grown_box hrow hgrow hv (by omega); have q3 := grown_box hrow hgrow hb1 (by omega); refine hK _ _ ?_; clear hK K; have cO := q1.cell; have fO := q1.frozen; have cR := q3.cell; have fR := q3.frozen; refine wpAny_ready (rs := [7]) (by kernel_rfl) (by simp) ?_; refine AllReady.cons rfl (fun K hK => ?_) AllReady.nil; go_simp
      refine hK _ _ ?_; clear hK K; clear cO fO cR fR; refine wpAny_done (by kernel_rfl) ?_ _; gi_wp2
      exact close_ret hO9 hrow H67.out (by omega) hb1 hB2 hown' hgrow _
     go_simp
     refine hK _ _ ?_; clear hK K; refine wpAny_ready (rs := [0]) (by kernel_rfl) (by simp) ?_; refine AllReady.cons rfl (fun K hK => ?_) AllReady.nil; go_simp
     refine hK _ _ ?_; clear hK K; refine wpAny_ready (rs := [6]) (by kernel_rfl) (by simp) ?_; refine AllReady.cons rfl (fun K hK => ?_) AllReady.nil; refine step_append_owned rfl _ _ 57 rfl ((w.heap.size + 1 + 1 + 1 + 1) + 1) 9 i0 (.string ⟨#[]⟩) 1 16 Tryz.underlying57 hi hz0 hz1 hz2 rfl (by decide) (.slice A pre.length cap) pre.length (outOf pre) rfl (hrowD _) ⟨W.heap.size, 0, none⟩ 1 1 [.string (lastP x)] rfl rfl (cell_one_new _ _ _) (by simp [Value.oneCell']) (by unfold maxLen; omega) (by omega) (by simp; omega) ?_; intro v' w1 hown' hgrow _; obtain ⟨g', cap', rfl⟩ := ownsRow_succ hown'; have q1 := grown_box hrow hgrow hv (by omega); have q3 := grown_box hrow hgrow hb1 (by omega); refine hK _ _ ?_; clear hK K; have cO := q1.cell; have fO := q1.frozen; have cR := q3.cell; have fR := q3.frozen; refine wpAny_ready (rs := [7]) (by kernel_rfl) (by simp) ?_; refine AllReady.cons rfl (fun K hK => ?_) AllReady.nil; go_simp
     refine hK _ _ ?_; clear hK K; clear cO fO cR fR; refine wpAny_done (by kernel_rfl) ?_ _; gi_wp2
     exact close_ret hO9 hrow H67.out (by omega) hb1 hB2 hown' hgrow _
    have ht : ((pre.length : Int) == 32767) = false := by simp; omega
    have ht2 : (pre.length == 32767) = false := by simp; omega
    gi_wp2
    refine wpIn_region_any (by kernel_rfl) ?_; refine anyIn_of_any l _ (noDefer_of (by kernel_rfl)) (by rintro ⟨a9, w9, h9⟩; exact h9) _ _ _ _ ?_; change wpAny _ _ _ _ _ _ _ (World.drew _); refine wpAny_take (i := 2) (v := ?_) rfl (by kernel_rfl) (by kernel_rfl) (by kernel_rfl) (fun _ _ _ h => h) (Or.inl ⟨by rfl, ?_⟩) ?_; rotate_left
    · intro w9; go_simp; rfl
    refine wpAny_take (i := 3) (v := ?_) rfl (by kernel_rfl) (by kernel_rfl) (by kernel_rfl) (fun _ _ _ h => h) (Or.inl ⟨by rfl, ?_⟩) ?_; rotate_left
    · intro w9; go_simp; rfl
    refine wpAny_ready (rs := [0, 1]) (by kernel_rfl) (by simp) ?_; refine AllReady.cons rfl (fun K hK => ?_) (AllReady.cons rfl (fun K hK => ?_) AllReady.nil)
    ·
     go_simp
     refine hK _ _ ?_; clear hK K; refine wpAny_ready (rs := [1]) (by kernel_rfl) (by simp) ?_; refine AllReady.cons rfl (fun K hK => ?_) AllReady.nil; go_simp
     refine hK _ _ ?_; clear hK K; refine wpAny_ready (rs := [4]) (by kernel_rfl) (by simp) ?_; refine AllReady.cons rfl (fun K hK => ?_) AllReady.nil; go_simp
     refine hK _ _ ?_; clear hK K; refine wpAny_ready (rs := [5]) (by kernel_rfl) (by simp) ?_; refine AllReady.cons rfl (fun K hK => ?_) AllReady.nil; go_simp
     refine hK _ _ ?_; clear hK K; refine wpAny_ready (rs := [6]) (by kernel_rfl) (by simp) ?_; refine AllReady.cons rfl (fun K hK => ?_) AllReady.nil; refine step_append_owned rfl _ _ 57 rfl ((w.heap.size + 1 + 1 + 1 + 1) + 1) 9 i0 (.string ⟨#[]⟩) 1 16 Tryz.underlying57 hi hz0 hz1 hz2 rfl (by decide) (.slice A pre.length cap) pre.length (outOf pre) rfl (hrowD _) ⟨W.heap.size, 0, none⟩ 1 1 [.string (cutP x)] rfl rfl (cell_one_new _ _ _) (by simp [Value.oneCell']) (by unfold maxLen; omega) (by omega) (by simp; omega) ?_; intro v' w1 hown' hgrow _; obtain ⟨g', cap', rfl⟩ := ownsRow_succ hown'; have q1 := grown_box hrow hgrow hv (by omega); have q3 := grown_box hrow hgrow hb1 (by omega); refine hK _ _ ?_; clear hK K; have cO := q1.cell; have fO := q1.frozen; have cR := q3.cell; have fR := q3.frozen; refine wpAny_ready (rs := [7]) (by kernel_rfl) (by simp) ?_; refine AllReady.cons rfl (fun K hK => ?_) AllReady.nil; go_simp
     refine hK _ _ ?_; clear hK K; clear cO fO cR fR; refine wpAny_done (by kernel_rfl) ?_ _; exact close_normal hO9 hv hrow (by omega) hb0 hb2 hb1 hB2 hown' hgrow _
    go_simp
    refine hK _ _ ?_; clear hK K; refine wpAny_ready (rs := [0, 4]) (by kernel_rfl) (by simp) ?_; refine AllReady.cons rfl (fun K hK => ?_) (AllReady.cons rfl (fun K hK => ?_) AllReady.nil)
    ·
     go_simp
     refine hK _ _ ?_; clear hK K; refine wpAny_ready (rs := [4]) (by kernel_rfl) (by simp) ?_; refine AllReady.cons rfl (fun K hK => ?_) AllReady.nil; go_simp
     refine hK _ _ ?_; clear hK K; refine wpAny_ready (rs := [5]) (by kernel_rfl) (by simp) ?_; refine AllReady.cons rfl (fun K hK => ?_) AllReady.nil; go_simp
     refine hK _ _ ?_; clear hK K; refine wpAny_ready (rs := [6]) (by kernel_rfl) (by simp) ?_; refine AllReady.cons rfl (fun K hK => ?_) AllReady.nil; refine step_append_owned rfl _ _ 57 rfl ((w.heap.size + 1 + 1 + 1 + 1) + 1) 9 i0 (.string ⟨#[]⟩) 1 16 Tryz.underlying57 hi hz0 hz1 hz2 rfl (by decide) (.slice A pre.length cap) pre.length (outOf pre) rfl (hrowD _) ⟨W.heap.size, 0, none⟩ 1 1 [.string (cutP x)] rfl rfl (cell_one_new _ _ _) (by simp [Value.oneCell']) (by unfold maxLen; omega) (by omega) (by simp; omega) ?_; intro v' w1 hown' hgrow _; obtain ⟨g', cap', rfl⟩ := ownsRow_succ hown'; have q1 := grown_box hrow hgrow hv (by omega); have q3 := grown_box hrow hgrow hb1 (by omega); refine hK _ _ ?_; clear hK K; have cO := q1.cell; have fO := q1.frozen; have cR := q3.cell; have fR := q3.frozen; refine wpAny_ready (rs := [7]) (by kernel_rfl) (by simp) ?_; refine AllReady.cons rfl (fun K hK => ?_) AllReady.nil; go_simp
     refine hK _ _ ?_; clear hK K; clear cO fO cR fR; refine wpAny_done (by kernel_rfl) ?_ _; exact close_normal hO9 hv hrow (by omega) hb0 hb2 hb1 hB2 hown' hgrow _
    go_simp
    refine hK _ _ ?_; clear hK K; refine wpAny_ready (rs := [0, 5]) (by kernel_rfl) (by simp) ?_; refine AllReady.cons rfl (fun K hK => ?_) (AllReady.cons rfl (fun K hK => ?_) AllReady.nil)
    ·
     go_simp
     refine hK _ _ ?_; clear hK K; refine wpAny_ready (rs := [5]) (by kernel_rfl) (by simp) ?_; refine AllReady.cons rfl (fun K hK => ?_) AllReady.nil; go_simp
     refine hK _ _ ?_; clear hK K; refine wpAny_ready (rs := [6]) (by kernel_rfl) (by simp) ?_; refine AllReady.cons rfl (fun K hK => ?_) AllReady.nil; refine step_append_owned rfl _ _ 57 rfl ((w.heap.size + 1 + 1 + 1 + 1) + 1) 9 i0 (.string ⟨#[]⟩) 1 16 Tryz.underlying57 hi hz0 hz1 hz2 rfl (by decide) (.slice A pre.length cap) pre.length (outOf pre) rfl (hrowD _) ⟨W.heap.size, 0, none⟩ 1 1 [.string (cutP x)] rfl rfl (cell_one_new _ _ _) (by simp [Value.oneCell']) (by unfold maxLen; omega) (by omega) (by simp; omega) ?_; intro v' w1 hown' hgrow _; obtain ⟨g', cap', rfl⟩ := ownsRow_succ hown'; have q1 := grown_box hrow hgrow hv (by omega); have q3 := grown_box hrow hgrow hb1 (by omega); refine hK _ _ ?_; clear hK K; have cO := q1.cell; have fO := q1.frozen; have cR := q3.cell; have fR := q3.frozen; refine wpAny_ready (rs := [7]) (by kernel_rfl) (by simp) ?_; refine AllReady.cons rfl (fun K hK => ?_) AllReady.nil; go_simp
     refine hK _ _ ?_; clear hK K; clear cO fO cR fR; refine wpAny_done (by kernel_rfl) ?_ _; exact close_normal hO9 hv hrow (by omega) hb0 hb2 hb1 hB2 hown' hgrow _
    go_simp
    refine hK _ _ ?_; clear hK K; refine wpAny_ready (rs := [0]) (by kernel_rfl) (by simp) ?_; refine AllReady.cons rfl (fun K hK => ?_) AllReady.nil; go_simp
    refine hK _ _ ?_; clear hK K; refine wpAny_ready (rs := [6]) (by kernel_rfl) (by simp) ?_; refine AllReady.cons rfl (fun K hK => ?_) AllReady.nil; refine step_append_owned rfl _ _ 57 rfl ((w.heap.size + 1 + 1 + 1 + 1) + 1) 9 i0 (.string ⟨#[]⟩) 1 16 Tryz.underlying57 hi hz0 hz1 hz2 rfl (by decide) (.slice A pre.length cap) pre.length (outOf pre) rfl (hrowD _) ⟨W.heap.size, 0, none⟩ 1 1 [.string (cutP x)] rfl rfl (cell_one_new _ _ _) (by simp [Value.oneCell']) (by unfold maxLen; omega) (by omega) (by simp; omega) ?_; intro v' w1 hown' hgrow _; obtain ⟨g', cap', rfl⟩ := ownsRow_succ hown'; have q1 := grown_box hrow hgrow hv (by omega); have q3 := grown_box hrow hgrow hb1 (by omega); refine hK _ _ ?_; clear hK K; have cO := q1.cell; have fO := q1.frozen; have cR := q3.cell; have fR := q3.frozen; refine wpAny_ready (rs := [7]) (by kernel_rfl) (by simp) ?_; refine AllReady.cons rfl (fun K hK => ?_) AllReady.nil; go_simp
    refine hK _ _ ?_; clear hK K; clear cO fO cR fR; refine wpAny_done (by kernel_rfl) ?_ _; exact close_normal hO9 hv hrow (by omega) hb0 hb2 hb1 hB2 hown' hgrow _
   case hdone =>
    rintro D ys W hD rfl ⟨⟨⟨v, hv, hrow, hlen⟩, hb0, hb2, hb1⟩, hB2⟩ hK; obtain ⟨A, cap, rfl⟩ := ownsRow_slice hrow; have hc := hv.cell; have hc1 := hb1.cell; have hf1 := hb1.frozen; have hBW := hB2; have hDw := Nat.le_trans g1 hD; clear g1 g1O g2 g3 aO a0 a1 a2 a3 hB hD; gi_wp2
    have hK' := (KeepsOthers.setCell W ⟨w.heap.size + 1, 0, none⟩ (.slice A (runsP s).length cap)).same D _ hK rfl; refine ⟨by simp, .inl ⟨_, _, rfl, run_takeDeferred hK', ?_⟩⟩; have hc5 := cell_kept (hb1.set _).cell (grownBy_putObj' _ D (.deferred none)) (fun r e => by cases e; exact ⟨_, hK', rfl⟩); refine ⟨.slice A (runsP s).length cap, ?_, _, rfl, ?_, (hBW.setCell (p := ⟨w.heap.size + 1, 0, none⟩) (by simp) _).trans (belowK_b (w := w) (Nat.le_refl _) _ D _ _ hDw hK' rfl rfl)⟩
    · simp [results, Tryz.f40, go_sem, hc5]
    rw [HFE.out]; exact done_row (mkP_map s _ (runs s) (runsFrom_ok s 0)) hlen (ownsRow_putObj (grown_own hrow (b := w.heap.size + 1) (by omega) _) (.deferred none) hK' rfl) (by omega)
   case hstop =>
    rintro D c pre W hD hpre ⟨⟨v, hv, hrow, rfl, hlen⟩, hB2⟩ hK; have hDw := Nat.le_trans g1 hD; clear g1 g1O g2 g3 aO a0 a1 a2 a3 hB hD; gi_wp2
    refine ⟨by simp, .inl ⟨_, _, rfl, run_takeDeferred hK, ?_⟩⟩; have hc5 := cell_kept hv.cell (grownBy_putObj' _ D (.deferred none)) (fun r e => by cases e; exact ⟨_, hK, rfl⟩); refine ⟨v, ?_, v, rfl, ?_, hB2.trans (belowK_b (w := w) (Nat.le_refl _) _ D _ _ hDw hK rfl rfl)⟩
    · simp [results, Tryz.f40, go_sem, hc5]
    obtain ⟨f1, f2⟩ := fieldsG_gt (mkP_map s _ (runs s) (runsFrom_ok s 0)) pre hpre hlen; rw [HFE.out, f1, f2]; exact (ownsRow_putObj hrow (.deferred none) hK rfl).mono (by omega)
 have hspL : (fs.toList == [32]) = false := by
  refine beq_eq_false_iff_ne.mpr fun e => hsp ?_
  have e2 : fs.data.toList = [32] := (ByteArray.toList_eq fs).symm.trans e; cases fs with
  | mk d => exact congrArg _ (Array.toList_inj.1 e2)
 by_cases hfs : fs.size = 0
 ·
  have hfse : fs = ⟨#[]⟩ := by
   cases fs with
   | mk d => exact congrArg _ (Array.eq_empty_of_size_eq_zero hfs)
  subst hfse; have HFE : Hid (fieldsOf s ⟨#[]⟩ = fieldsG s s.size (singlesFrom s 0)) := Lib.hid ((if_neg h0).trans ((if_neg hsp).trans (if_pos rfl))); clear hspL hsp hfs; gi_wp2_with (refine ⟨trivial, ?_⟩; gi_at_call 83; refine (single_in s _ _).mono ?_; rintro e w' ⟨rfl, rfl⟩)
  have a0 := Boxed.new w 9 (.string s); have a1 := Boxed.new (w.alloc (.cells #[.string s] 9)) 57 (.slice none 0 0); have a2 := Boxed.new ((w.alloc (.cells #[.string s] 9)).alloc (.cells #[.slice none 0 0] 57)) 3 (.int .i64 (s.size : Int)); have a3 := Boxed.new (((w.alloc (.cells #[.string s] 9)).alloc (.cells #[.slice none 0 0] 57)).alloc (.cells #[.int .i64 (s.size : Int)] 3)) 9 (.string s); have hB : Below w.heap.size w ((((w.alloc (.cells #[.string s] 9)).alloc (.cells #[.slice none 0 0] 57)).alloc (.cells #[.int .i64 (s.size : Int)] 3)).alloc (.cells #[.string s] 9)) :=
   ((((Below.refl _ w).alloc (Nat.le_refl _) _).alloc (by simp) _).alloc (by simp; omega) _).alloc (by simp; omega) _
  simp only [World.size_alloc] at a1 a2 a3; replace a0 := ((a0.alloc (.cells #[.slice none 0 0] 57)).alloc (.cells #[.int .i64 (s.size : Int)] 3)).alloc (.cells #[.string s] 9); replace a1 := (a1.alloc (.cells #[.int .i64 (s.size : Int)] 3)).alloc (.cells #[.string s] 9); replace a2 := a2.alloc (.cells #[.string s] 9); obtain ⟨wr, hwr⟩ : ∃ wr, ((((w.alloc (.cells #[.string s] 9)).alloc (.cells #[.slice none 0 0] 57)).alloc (.cells #[.int .i64 (s.size : Int)] 3)).alloc (.cells #[.string s] 9)) = wr := ⟨_, rfl⟩; have hsz' : wr.heap.size = w.heap.size + 1 + 1 + 1 + 1 := by rw [← hwr]; simp
  rw [hwr] at a0 a1 a2 a3 hB ⊢; clear hwr; have aO := Boxed.new wr 57 (.slice none 0 0); rw [hsz'] at aO; have hO9 : w.heap.size + 1 + 1 < (w.heap.size + 1 + 1 + 1 + 1) := by omega
  have g1 : w.heap.size ≤ (wr.alloc (.cells #[.slice none 0 0] 57)).heap.size := by simp; omega
  have g1O : (w.heap.size + 1 + 1 + 1 + 1) ≤ (wr.alloc (.cells #[.slice none 0 0] 57)).heap.size := by simp; omega
  have g2 : w.heap.size + 1 + 1 + 1 < (wr.alloc (.cells #[.slice none 0 0] 57)).heap.size := by simp; omega
  have g3 := hB.alloc hB.size (.cells #[.slice none 0 0] 57); clear hsz'; apply wpIn_rangeFunc_ownG (encs := encP (s := s) (E := s.size)) (Kp := Below (w.heap.size + 1 + 1 + 1 + 1)) (S := fun ys => ys = singlesP s) (Sp := fun pre => pre <+: singlesP s) (N := (singlesP s).length) rfl (by omega) (gf := 109) (lb := #[.pointer (some ⟨w.heap.size + 1 + 1 + 1, 0, none⟩)]) rfl trivial (enters_of Tryz.func109 (by kernel_rfl) rfl)
   (single_stops (w.heap.size + 1 + 1 + 1) _ s hs _ g2 (by omega) ((a3.alloc _).cell)) belowK_t (belowK_b g1O) (Below.refl _ _) (fun _ => rfl)
   (IFields s s.size w (w.heap.size + 1 + 1 + 1 + 1)) (XFields s s.size w (w.heap.size + 1 + 1 + 1 + 1)) (own_I s s.size w (w.heap.size + 1 + 1 + 1 + 1) _ g1) (own_X s s.size w (w.heap.size + 1 + 1 + 1 + 1) _ g1)
   ⟨⟨⟨_, aO, World.ownsRow_nil _ _ _ _, by simp⟩, a0.alloc _, a2.alloc _, a1.alloc _⟩, g3⟩
  case hassign =>
   intro l x W K hK; gi_wp2
   exact hK
  case hbody =>
   rintro l pre x W ⟨⟨⟨v, hv, hrow, hlen⟩, hb0, hb2, hb1⟩, hB2⟩ hlt; obtain ⟨A, cap, rfl⟩ := ownsRow_slice hrow; obtain ⟨p1, p2, p3⟩ := x.2; have p4 : s.size ≤ s.size := Nat.le_refl _; have hsW := hv.lt; have hrowD : ∀ o, (W.drew.alloc o).ownsRow ((w.heap.size + 1 + 1 + 1 + 1) + 1) 9 1 (.slice A pre.length cap) pre.length (outOf pre) := fun o => (World.ownsRow.drew hrow).alloc o
   have hc := hv.cell; have hc0 := hb0.cell; have hc2 := hb2.cell; clear g1 g1O g2 g3 aO a0 a1 a2 a3 hB; by_cases h67 : pre.length = 32767
   ·
    have ht : ((pre.length : Int) == 32767) = true := by rw [h67]; rfl
    have ht2 : (pre.length == 32767) = true := by rw [h67]; rfl
    have H67 := Lib.hid h67; clear h67; gi_wp2
    refine wpIn_region_any (by kernel_rfl) ?_; refine anyIn_of_any l _ (noDefer_of (by kernel_rfl)) (by rintro ⟨a9, w9, h9⟩; exact h9) _ _ _ _ ?_; change wpAny _ _ _ _ _ _ _ (World.drew _); refine wpAny_take (i := 2) (v := ?_) rfl (by kernel_rfl) (by kernel_rfl) (by kernel_rfl) (fun _ _ _ h => h) (Or.inl ⟨by rfl, ?_⟩) ?_; rotate_left
    · intro w9; go_simp; rfl
    refine wpAny_ready (rs := [0, 1, 3]) (by kernel_rfl) (by simp) ?_; refine AllReady.cons rfl (fun K hK => ?_) (AllReady.cons rfl (fun K hK => ?_) (AllReady.cons rfl (fun K hK => ?_) AllReady.nil))
    ·
     go_simp
     refine hK _ _ ?_; clear hK K; refine wpAny_ready (rs := [1, 3]) (by kernel_rfl) (by simp) ?_; refine AllReady.cons rfl (fun K hK => ?_) (AllReady.cons rfl (fun K hK => ?_) AllReady.nil)
     ·
      go_simp
      refine hK _ _ ?_; clear hK K; refine wpAny_ready (rs := [3]) (by kernel_rfl) (by simp) ?_; refine AllReady.cons rfl (fun K hK => ?_) AllReady.nil; go_simp
      refine hK _ _ ?_; clear hK K; refine wpAny_ready (rs := [4]) (by kernel_rfl) (by simp) ?_; refine AllReady.cons rfl (fun K hK => ?_) AllReady.nil; go_simp
      refine hK _ _ ?_; clear hK K; refine wpAny_ready (rs := [5]) (by kernel_rfl) (by simp) ?_; refine AllReady.cons rfl (fun K hK => ?_) AllReady.nil; go_simp
      refine hK _ _ ?_; clear hK K; refine wpAny_ready (rs := [6]) (by kernel_rfl) (by simp) ?_; refine AllReady.cons rfl (fun K hK => ?_) AllReady.nil; refine step_append_owned rfl _ _ 57 rfl ((w.heap.size + 1 + 1 + 1 + 1) + 1) 9 i0 (.string ⟨#[]⟩) 1 16 Tryz.underlying57 hi hz0 hz1 hz2 rfl (by decide) (.slice A pre.length cap) pre.length (outOf pre) rfl (hrowD _) ⟨W.heap.size, 0, none⟩ 1 1 [.string (lastP x)] rfl rfl (cell_one_new _ _ _) (by simp [Value.oneCell']) (by unfold maxLen; omega) (by omega) (by simp; omega) ?_; intro v' w1 hown' hgrow _; obtain ⟨g', cap', rfl⟩ := ownsRow_succ hown'; have q1 := grown_box hrow hgrow hv (by omega); have q3 := grown_box hrow hgrow hb1 (by omega); refine hK _ _ ?_; clear hK K; have cO := q1.cell; have fO := q1.frozen; have cR := q3.cell; have fR := q3.frozen; refine wpAny_ready (rs := [7]) (by kernel_rfl) (by simp) ?_; refine AllReady.cons rfl (fun K hK => ?_) AllReady.nil; go_simp
      refine hK _ _ ?_; clear hK K; clear cO fO cR fR; refine wpAny_done (by kernel_rfl) ?_ _; gi_wp2
      exact close_ret hO9 hrow H67.out (by omega) hb1 hB2 hown' hgrow _
     go_simp
     refine hK _ _ ?_; clear hK K; refine wpAny_ready (rs := [1]) (by kernel_rfl) (by simp) ?_; refine AllReady.cons rfl (fun K hK => ?_) AllReady.nil; go_simp
     refine hK _ _ ?_; clear hK K; refine wpAny_ready (rs := [4]) (by kernel_rfl) (by simp) ?_; refine AllReady.cons rfl (fun K hK => ?_) AllReady.nil; go_simp
     refine hK _ _ ?_; clear hK K; refine wpAny_ready (rs := [5]) (by kernel_rfl) (by simp) ?_; refine AllReady.cons rfl (fun K hK => ?_) AllReady.nil; go_simp
     refine hK _ _ ?_; clear hK K; refine wpAny_ready (rs := [6]) (by kernel_rfl) (by simp) ?_; refine AllReady.cons rfl (fun K hK => ?_) AllReady.nil; refine step_append_owned rfl _ _ 57 rfl ((w.heap.size + 1 + 1 + 1 + 1) + 1) 9 i0 (.string ⟨#[]⟩) 1 16 Tryz.underlying57 hi hz0 hz1 hz2 rfl (by decide) (.slice A pre.length cap) pre.length (outOf pre) rfl (hrowD _) ⟨W.heap.size, 0, none⟩ 1 1 [.string (lastP x)] rfl rfl (cell_one_new _ _ _) (by simp [Value.oneCell']) (by unfold maxLen; omega) (by omega) (by simp; omega) ?_; intro v' w1 hown' hgrow _; obtain ⟨g', cap', rfl⟩ := ownsRow_succ hown'; have q1 := grown_box hrow hgrow hv (by omega); have q3 := grown_box hrow hgrow hb1 (by omega); refine hK _ _ ?_; clear hK K; have cO := q1.cell; have fO := q1.frozen; have cR := q3.cell; have fR := q3.frozen; refine wpAny_ready (rs := [7]) (by kernel_rfl) (by simp) ?_; refine AllReady.cons rfl (fun K hK => ?_) AllReady.nil; go_simp
     refine hK _ _ ?_; clear hK K; clear cO fO cR fR; refine wpAny_done (by kernel_rfl) ?_ _; gi_wp2
     exact close_ret hO9 hrow H67.out (by omega) hb1 hB2 hown' hgrow _
    ·
     go_simp
     refine hK _ _ ?_; clear hK K; refine wpAny_ready (rs := [0, 3]) (by kernel_rfl) (by simp) ?_; refine AllReady.cons rfl (fun K hK => ?_) (AllReady.cons rfl (fun K hK => ?_) AllReady.nil)
     ·
      go_simp
      refine hK _ _ ?_; clear hK K; refine wpAny_ready (rs := [3]) (by kernel_rfl) (by simp) ?_; refine AllReady.cons rfl (fun K hK => ?_) AllReady.nil; go_simp
      refine hK _ _ ?_; clear hK K; refine wpAny_ready (rs := [4]) (by kernel_rfl) (by simp) ?_; refine AllReady.cons rfl (fun K hK => ?_) AllReady.nil; go_simp
      refine hK _ _ ?_; clear hK K; refine wpAny_ready (rs := [5]) (by kernel_rfl) (by simp) ?_; refine AllReady.cons rfl (fun K hK => ?_) AllReady.nil; go_simp
      refine hK _ _ ?_; clear hK K; refine wpAny_ready (rs := [6]) (by kernel_rfl) (by simp) ?_; refine AllReady.cons rfl (fun K hK => ?_) AllReady.nil; refine step_append_owned rfl _ _ 57 rfl ((w.heap.size + 1 + 1 + 1 + 1) + 1) 9 i0 (.string ⟨#[]⟩) 1 16 Tryz.underlying57 hi hz0 hz1 hz2 rfl (by decide) (.slice A pre.length cap) pre.length (outOf pre) rfl (hrowD _) ⟨W.heap.size, 0, none⟩ 1 1 [.string (lastP x)] rfl rfl (cell_one_new _ _ _) (by simp [Value.oneCell']) (by unfold maxLen; omega) (by omega) (by simp; omega) ?_; intro v' w1 hown' hgrow _; obtain ⟨g', cap', rfl⟩ := ownsRow_succ hown'; have q1 := grown_box hrow hgrow hv (by omega); have q3 := grown_box hrow hgrow hb1 (by omega); refine hK _ _ ?_; clear hK K; have cO := q1.cell; have fO := q1.frozen; have cR := q3.cell; have fR := q3.frozen; refine wpAny_ready (rs := [7]) (by kernel_rfl) (by simp) ?_; refine AllReady.cons rfl (fun K hK => ?_) AllReady.nil; go_simp
      refine hK _ _ ?_; clear hK K; clear cO fO cR fR; refine wpAny_done (by kernel_rfl) ?_ _; gi_wp2
      exact close_ret hO9 hrow H67.out (by omega) hb1 hB2 hown' hgrow _
     go_simp
     refine hK _ _ ?_; clear hK K; refine wpAny_ready (rs := [0, 4]) (by kernel_rfl) (by simp) ?_; refine AllReady.cons rfl (fun K hK => ?_) (AllReady.cons rfl (fun K hK => ?_) AllReady.nil)
     ·
      go_simp
      refine hK _ _ ?_; clear hK K; refine wpAny_ready (rs := [4]) (by kernel_rfl) (by simp) ?_; refine AllReady.cons rfl (fun K hK => ?_) AllReady.nil; go_simp
      refine hK _ _ ?_; clear hK K; refine wpAny_ready (rs := [5]) (by kernel_rfl) (by simp) ?_; refine AllReady.cons rfl (fun K hK => ?_) AllReady.nil; go_simp
      refine hK _ _ ?_; clear hK K; refine wpAny_ready (rs := [6]) (by kernel_rfl) (by simp) ?_; refine AllReady.cons rfl (fun K hK => ?_) AllReady.nil; refine step_append_owned rfl _ _ 57 rfl ((w.heap.size + 1 + 1 + 1 + 1) + 1) 9 i0 (.string ⟨#[]⟩) 1 16 Tryz.underlying57 hi hz0 hz1 hz2 rfl (by decide) (.slice A pre.length cap) pre.length (outOf pre) rfl (hrowD _) ⟨W.heap.size, 0, none⟩ 1 1 [.string (lastP x)] rfl rfl (cell_one_new _ _ _) (by simp [Value.oneCell']) (by unfold maxLen; omega) (by omega) (by simp; omega) ?_; intro v' w1 hown' hgrow _; obtain ⟨g', cap', rfl⟩ := ownsRow_succ hown'; have q1 := grown_box hrow hgrow hv (by omega); have q3 := grown_box hrow hgrow hb1 (by omega); refine hK _ _ ?_; clear hK K; have cO := q1.cell; have fO := q1.frozen; have cR := q3.cell; have fR := q3.frozen; refine wpAny_ready (rs := [7]) (by kernel_rfl) (by simp) ?_; refine AllReady.cons rfl (fun K hK => ?_) AllReady.nil; go_simp
      refine hK _ _ ?_; clear hK K; clear cO fO cR fR; refine wpAny_done (by kernel_rfl) ?_ _; gi_wp2
      exact close_ret hO9 hrow H67.out (by omega) hb1 hB2 hown' hgrow _
     go_simp
     refine hK _ _ ?_; clear hK K; refine wpAny_ready (rs := [0, 5]) (by kernel_rfl) (by simp) ?_; refine AllReady.cons rfl (fun K hK => ?_) (AllReady.cons rfl (fun K hK => ?_) AllReady.nil)
     ·
      go_simp
      refine hK _ _ ?_; clear hK K; refine wpAny_ready (rs := [5]) (by kernel_rfl) (by simp) ?_; refine AllReady.cons rfl (fun K hK => ?_) AllReady.nil; go_simp
      refine hK _ _ ?_; clear hK K; refine wpAny_ready (rs := [6]) (by kernel_rfl) (by simp) ?_; refine AllReady.cons rfl (fun K hK => ?_) AllReady.nil; refine step_append_owned rfl _ _ 57 rfl ((w.heap.size + 1 + 1 + 1 + 1) + 1) 9 i0 (.string ⟨#[]⟩) 1 16 Tryz.underlying57 hi hz0 hz1 hz2 rfl (by decide) (.slice A pre.length cap) pre.length (outOf pre) rfl (hrowD _) ⟨W.heap.size, 0, none⟩ 1 1 [.string (lastP x)] rfl rfl (cell_one_new _ _ _) (by simp [Value.oneCell']) (by unfold maxLen; omega) (by omega) (by simp; omega) ?_; intro v' w1 hown' hgrow _; obtain ⟨g', cap', rfl⟩ := ownsRow_succ hown'; have q1 := grown_box hrow hgrow hv (by omega); have q3 := grown_box hrow hgrow hb1 (by omega); refine hK _ _ ?_; clear hK K; have cO := q1.cell; have fO := q1.frozen; have cR := q3.cell; have fR := q3.frozen; refine wpAny_ready (rs := [7]) (by kernel_rfl) (by simp) ?_; refine AllReady.cons rfl (fun K hK => ?_) AllReady.nil; go_simp
      refine hK _ _ ?_; clear hK K; clear cO fO cR fR; refine wpAny_done (by kernel_rfl) ?_ _; gi_wp2
      exact close_ret hO9 hrow H67.out (by omega) hb1 hB2 hown' hgrow _
     go_simp
     refine hK _ _ ?_; clear hK K; refine wpAny_ready (rs := [0]) (by kernel_rfl) (by simp) ?_; refine AllReady.cons rfl (fun K hK => ?_) AllReady.nil; go_simp
     refine hK _ _ ?_; clear hK K; refine wpAny_ready (rs := [6]) (by kernel_rfl) (by simp) ?_; refine AllReady.cons rfl (fun K hK => ?_) AllReady.nil; refine step_append_owned rfl _ _ 57 rfl ((w.heap.size + 1 + 1 + 1 + 1) + 1) 9 i0 (.string ⟨#[]⟩) 1 16 Tryz.underlying57 hi hz0 hz1 hz2 rfl (by decide) (.slice A pre.length cap) pre.length (outOf pre) rfl (hrowD _) ⟨W.heap.size, 0, none⟩ 1 1 [.string (lastP x)] rfl rfl (cell_one_new _ _ _) (by simp [Value.oneCell']) (by unfold maxLen; omega) (by omega) (by simp; omega) ?_; intro v' w1 hown' hgrow _; obtain ⟨g', cap', rfl⟩ := ownsRow_succ hown'; have q1 := grown_box hrow hgrow hv (by omega); have q3 := grown_box hrow hgrow hb1 (by omega); refine hK _ _ ?_; clear hK K; have cO := q1.cell; have fO := q1.frozen; have cR := q3.cell; have fR := q3.frozen; refine wpAny_ready (rs := [7]) (by kernel_rfl) (by simp) ?_; refine AllReady.cons rfl (fun K hK => ?_) AllReady.nil; go_simp
     refine hK _ _ ?_; clear hK K; clear cO fO cR fR; refine wpAny_done (by kernel_rfl) ?_ _; gi_wp2
     exact close_ret hO9 hrow H67.out (by omega) hb1 hB2 hown' hgrow _
    go_simp
    refine hK _ _ ?_; clear hK K; refine wpAny_ready (rs := [0, 1]) (by kernel_rfl) (by simp) ?_; refine AllReady.cons rfl (fun K hK => ?_) (AllReady.cons rfl (fun K hK => ?_) AllReady.nil)
    ·
     go_simp
     refine hK _ _ ?_; clear hK K; refine wpAny_ready (rs := [1]) (by kernel_rfl) (by simp) ?_; refine AllReady.cons rfl (fun K hK => ?_) AllReady.nil; go_simp
     refine hK _ _ ?_; clear hK K; refine wpAny_ready (rs := [4]) (by kernel_rfl) (by simp) ?_; refine AllReady.cons rfl (fun K hK => ?_) AllReady.nil; go_simp
     refine hK _ _ ?_; clear hK K; refine wpAny_ready (rs := [5]) (by kernel_rfl) (by simp) ?_; refine AllReady.cons rfl (fun K hK => ?_) AllReady.nil; go_simp
     refine hK _ _ ?_; clear hK K; refine wpAny_ready (rs := [6]) (by kernel_rfl) (by simp) ?_; refine AllReady.cons rfl (fun K hK => ?_) AllReady.nil; refine step_append_owned rfl _ _ 57 rfl ((w.heap.size + 1 + 1 + 1 + 1) + 1) 9 i0 (.string ⟨#[]⟩) 1 16 Tryz.underlying57 hi hz0 hz1 hz2 rfl (by decide) (.slice A pre.length cap) pre.length (outOf pre) rfl (hrowD _) ⟨W.heap.size, 0, none⟩ 1 1 [.string (lastP x)] rfl rfl (cell_one_new _ _ _) (by simp [Value.oneCell']) (by unfold maxLen; omega) (by omega) (by simp; omega) ?_; intro v' w1 hown' hgrow _; obtain ⟨g', cap', rfl⟩ := ownsRow_succ hown'; have q1 := grown_box hrow hgrow hv (by omega); have q3 := grown_box hrow hgrow hb1 (by omega); refine hK _ _ ?_; clear hK K; have cO := q1.cell; have fO := q1.frozen; have cR := q3.cell; have fR := q3.frozen; refine wpAny_ready (rs := [7]) (by kernel_rfl) (by simp) ?_; refine AllReady.cons rfl (fun K hK => ?_) AllReady.nil; go_simp
     refine hK _ _ ?_; clear hK K; clear cO fO cR fR; refine wpAny_done (by kernel_rfl) ?_ _; gi_wp2
     exact close_ret hO9 hrow H67.out (by omega) hb1 hB2 hown' hgrow _
    go_simp
    refine hK _ _ ?_; clear hK K; refine wpAny_ready (rs := [0, 4]) (by kernel_rfl) (by simp) ?_; refine AllReady.cons rfl (fun K hK => ?_) (AllReady.cons rfl (fun K hK => ?_) AllReady.nil)
    ·
     go_simp
     refine hK _ _ ?_; clear hK K; refine wpAny_ready (rs := [4]) (by kernel_rfl) (by simp) ?_; refine AllReady.cons rfl (fun K hK => ?_) AllReady.nil; go_simp
     refine hK _ _ ?_; clear hK K; refine wpAny_ready (rs := [5]) (by kernel_rfl) (by simp) ?_; refine AllReady.cons rfl (fun K hK => ?_) AllReady.nil; go_simp
     refine hK _ _ ?_; clear hK K; refine wpAny_ready (rs := [6]) (by kernel_rfl) (by simp) ?_; refine AllReady.cons rfl (fun K hK => ?_) AllReady.nil; refine step_append_owned rfl _ _ 57 rfl ((w.heap.size + 1 + 1 + 1 + 1) + 1) 9 i0 (.string ⟨#[]⟩) 1 16 Tryz.underlying57 hi hz0 hz1 hz2 rfl (by decide) (.slice A pre.length cap) pre.length (outOf pre) rfl (hrowD _) ⟨W.heap.size, 0, none⟩ 1 1 [.string (lastP x)] rfl rfl (cell_one_new _ _ _) (by simp [Value.oneCell']) (by unfold maxLen; omega) (by omega) (by simp; omega) ?_; intro v' w1 hown' hgrow _; obtain ⟨g', cap', rfl⟩ := ownsRow_succ hown'; have q1 := grown_box hrow hgrow hv (by omega); have q3 := grown_box hrow hgrow hb1 (by omega); refine hK _ _ ?_; clear hK K; have cO := q1.cell; have fO := q1.frozen; have cR := q3.cell; have fR := q3.frozen; refine wpAny_ready (rs := [7]) (by kernel_rfl) (by simp) ?_; refine AllReady.cons rfl (fun K hK => ?_) AllReady.nil; go_simp
     refine hK _ _ ?_; clear hK K; clear cO fO cR fR; refine wpAny_done (by kernel_rfl) ?_ _; gi_wp2
     exact close_ret hO9 hrow H67.out (by omega) hb1 hB2 hown' hgrow _
    go_simp
    refine hK _ _ ?_; clear hK K; refine wpAny_ready (rs := [0, 5]) (by kernel_rfl) (by simp) ?_; refine AllReady.cons rfl (fun K hK => ?_) (AllReady.cons rfl (fun K hK => ?_) AllReady.nil)
    ·
     go_simp
     refine hK _ _ ?_; clear hK K; refine wpAny_ready (rs := [5]) (by kernel_rfl) (by simp) ?_; refine AllReady.cons rfl (fun K hK => ?_) AllReady.nil; go_simp
     refine hK _ _ ?_; clear hK K; refine wpAny_ready (rs := [6]) (by kernel_rfl) (by simp) ?_; refine AllReady.cons rfl (fun K hK => ?_) AllReady.nil; refine step_append_owned rfl _ _ 57 rfl ((w.heap.size + 1 + 1 + 1 + 1) + 1) 9 i0 (.string ⟨#[]⟩) 1 16 Tryz.underlying57 hi hz0 hz1 hz2 rfl (by decide) (.slice A pre.length cap) pre.length (outOf pre) rfl (hrowD _) ⟨W.heap.size, 0, none⟩ 1 1 [.string (lastP x)] rfl rfl (cell_one_new _ _ _) (by simp [Value.oneCell']) (by unfold maxLen; omega) (by omega) (by simp; omega) ?_; intro v' w1 hown' hgrow _; obtain ⟨g', cap', rfl⟩ := ownsRow_succ hown'; have q1 := grown_box hrow hgrow hv (by omega); have q3 := grown_box hrow hgrow hb1 (by omega); refine hK _ _ ?_; clear hK K; have cO := q1.cell; have fO := q1.frozen; have cR := q3.cell; have fR := q3.frozen; refine wpAny_ready (rs := [7]) (by kernel_rfl) (by simp) ?_; refine AllReady.cons rfl (fun K hK => ?_) AllReady.nil; go_simp
     refine hK _ _ ?_; clear hK K; clear cO fO cR fR; refine wpAny_done (by kernel_rfl) ?_ _; gi_wp2
     exact close_ret hO9 hrow H67.out (by omega) hb1 hB2 hown' hgrow _
    go_simp
    refine hK _ _ ?_; clear hK K; refine wpAny_ready (rs := [0]) (by kernel_rfl) (by simp) ?_; refine AllReady.cons rfl (fun K hK => ?_) AllReady.nil; go_simp
    refine hK _ _ ?_; clear hK K; refine wpAny_ready (rs := [6]) (by kernel_rfl) (by simp) ?_; refine AllReady.cons rfl (fun K hK => ?_) AllReady.nil; refine step_append_owned rfl _ _ 57 rfl ((w.heap.size + 1 + 1 + 1 + 1) + 1) 9 i0 (.string ⟨#[]⟩) 1 16 Tryz.underlying57 hi hz0 hz1 hz2 rfl (by decide) (.slice A pre.length cap) pre.length (outOf pre) rfl (hrowD _) ⟨W.heap.size, 0, none⟩ 1 1 [.string (lastP x)] rfl rfl (cell_one_new _ _ _) (by simp [Value.oneCell']) (by unfold maxLen; omega) (by omega) (by simp; omega) ?_; intro v' w1 hown' hgrow _; obtain ⟨g', cap', rfl⟩ := ownsRow_succ hown'; have q1 := grown_box hrow hgrow hv (by omega); have q3 := grown_box hrow hgrow hb1 (by omega); refine hK _ _ ?_; clear hK K; have cO := q1.cell; have fO := q1.frozen; have cR := q3.cell; have fR := q3.frozen; refine wpAny_ready (rs := [7]) (by kernel_rfl) (by simp) ?_; refine AllReady.cons rfl (fun K hK => ?_) AllReady.nil; go_simp
    refine hK _ _ ?_; clear hK K; clear cO fO cR fR; refine wpAny_done (by kernel_rfl) ?_ _; gi_wp2
    exact close_ret hO9 hrow H67.out (by omega) hb1 hB2 hown' hgrow _
   have ht : ((pre.length : Int) == 32767) = false := by simp; omega
   have ht2 : (pre.length == 32767) = false := by simp; omega
   gi_wp2
   refine wpIn_region_any (by kernel_rfl) ?_; refine anyIn_of_any l _ (noDefer_of (by kernel_rfl)) (by rintro ⟨a9, w9, h9⟩; exact h9) _ _ _ _ ?_; change wpAny _ _ _ _ _ _ _ (World.drew _); refine wpAny_take (i := 2) (v := ?_) rfl (by kernel_rfl) (by kernel_rfl) (by kernel_rfl) (fun _ _ _ h => h) (Or.inl ⟨by rfl, ?_⟩) ?_; rotate_left
   · intro w9; go_simp; rfl
   refine wpAny_take (i := 3) (v := ?_) rfl (by kernel_rfl) (by kernel_rfl) (by kernel_rfl) (fun _ _ _ h => h) (Or.inl ⟨by rfl, ?_⟩) ?_; rotate_left
   · intro w9; go_simp; rfl
   refine wpAny_ready (rs := [0, 1]) (by kernel_rfl) (by simp) ?_; refine AllReady.cons rfl (fun K hK => ?_) (AllReady.cons rfl (fun K hK => ?_) AllReady.nil)
   ·
    go_simp
    refine hK _ _ ?_; clear hK K; refine wpAny_ready (rs := [1]) (by kernel_rfl) (by simp) ?_; refine AllReady.cons rfl (fun K hK => ?_) AllReady.nil; go_simp
    refine hK _ _ ?_; clear hK K; refine wpAny_ready (rs := [4]) (by kernel_rfl) (by simp) ?_; refine AllReady.cons rfl (fun K hK => ?_) AllReady.nil; go_simp
    refine hK _ _ ?_; clear hK K; refine wpAny_ready (rs := [5]) (by kernel_rfl) (by simp) ?_; refine AllReady.cons rfl (fun K hK => ?_) AllReady.nil; go_simp
    refine hK _ _ ?_; clear hK K; refine wpAny_ready (rs := [6]) (by kernel_rfl) (by simp) ?_; refine AllReady.cons rfl (fun K hK => ?_) AllReady.nil; refine step_append_owned rfl _ _ 57 rfl ((w.heap.size + 1 + 1 + 1 + 1) + 1) 9 i0 (.string ⟨#[]⟩) 1 16 Tryz.underlying57 hi hz0 hz1 hz2 rfl (by decide) (.slice A pre.length cap) pre.length (outOf pre) rfl (hrowD _) ⟨W.heap.size, 0, none⟩ 1 1 [.string (cutP x)] rfl rfl (cell_one_new _ _ _) (by simp [Value.oneCell']) (by unfold maxLen; omega) (by omega) (by simp; omega) ?_; intro v' w1 hown' hgrow _; obtain ⟨g', cap', rfl⟩ := ownsRow_succ hown'; have q1 := grown_box hrow hgrow hv (by omega); have q3 := grown_box hrow hgrow hb1 (by omega); refine hK _ _ ?_; clear hK K; have cO := q1.cell; have fO := q1.frozen; have cR := q3.cell; have fR := q3.frozen; refine wpAny_ready (rs := [7]) (by kernel_rfl) (by simp) ?_; refine AllReady.cons rfl (fun K hK => ?_) AllReady.nil; go_simp
    refine hK _ _ ?_; clear hK K; clear cO fO cR fR; refine wpAny_done (by kernel_rfl) ?_ _; exact close_normal hO9 hv hrow (by omega) hb0 hb2 hb1 hB2 hown' hgrow _
   go_simp
   refine hK _ _ ?_; clear hK K; refine wpAny_ready (rs := [0, 4]) (by kernel_rfl) (by simp) ?_; refine AllReady.cons rfl (fun K hK => ?_) (AllReady.cons rfl (fun K hK => ?_) AllReady.nil)
   ·
    go_simp
    refine hK _ _ ?_; clear hK K; refine wpAny_ready (rs := [4]) (by kernel_rfl) (by simp) ?_; refine AllReady.cons rfl (fun K hK => ?_) AllReady.nil; go_simp
    refine hK _ _ ?_; clear hK K; refine wpAny_ready (rs := [5]) (by kernel_rfl) (by simp) ?_; refine AllReady.cons rfl (fun K hK => ?_) AllReady.nil; go_simp
    refine hK _ _ ?_; clear hK K; refine wpAny_ready (rs := [6]) (by kernel_rfl) (by simp) ?_; refine AllReady.cons rfl (fun K hK => ?_) AllReady.nil; refine step_append_owned rfl _ _ 57 rfl ((w.heap.size + 1 + 1 + 1 + 1) + 1) 9 i0 (.string ⟨#[]⟩) 1 16 Tryz.underlying57 hi hz0 hz1 hz2 rfl (by decide) (.slice A pre.length cap) pre.length (outOf pre) rfl (hrowD _) ⟨W.heap.size, 0, none⟩ 1 1 [.string (cutP x)] rfl rfl (cell_one_new _ _ _) (by simp [Value.oneCell']) (by unfold maxLen; omega) (by omega) (by simp; omega) ?_; intro v' w1 hown' hgrow _; obtain ⟨g', cap', rfl⟩ := ownsRow_succ hown'; have q1 := grown_box hrow hgrow hv (by omega); have q3 := grown_box hrow hgrow hb1 (by omega); refine hK _ _ ?_; clear hK K; have cO := q1.cell; have fO := q1.frozen; have cR := q3.cell; have fR := q3.frozen; refine wpAny_ready (rs := [7]) (by kernel_rfl) (by simp) ?_; refine AllReady.cons rfl (fun K hK => ?_) AllReady.nil; go_simp
    refine hK _ _ ?_; clear hK K; clear cO fO cR fR; refine wpAny_done (by kernel_rfl) ?_ _; exact close_normal hO9 hv hrow (by omega) hb0 hb2 hb1 hB2 hown' hgrow _
   go_simp
   refine hK _ _ ?_; clear hK K; refine wpAny_ready (rs := [0, 5]) (by kernel_rfl) (by simp) ?_; refine AllReady.cons rfl (fun K hK => ?_) (AllReady.cons rfl (fun K hK => ?_) AllReady.nil)
   ·
    go_simp
    refine hK _ _ ?_; clear hK K; refine wpAny_ready (rs := [5]) (by kernel_rfl) (by simp) ?_; refine AllReady.cons rfl (fun K hK => ?_) AllReady.nil; go_simp
    refine hK _ _ ?_; clear hK K; refine wpAny_ready (rs := [6]) (by kernel_rfl) (by simp) ?_; refine AllReady.cons rfl (fun K hK => ?_) AllReady.nil; refine step_append_owned rfl _ _ 57 rfl ((w.heap.size + 1 + 1 + 1 + 1) + 1) 9 i0 (.string ⟨#[]⟩) 1 16 Tryz.underlying57 hi hz0 hz1 hz2 rfl (by decide) (.slice A pre.length cap) pre.length (outOf pre) rfl (hrowD _) ⟨W.heap.size, 0, none⟩ 1 1 [.string (cutP x)] rfl rfl (cell_one_new _ _ _) (by simp [Value.oneCell']) (by unfold maxLen; omega) (by omega) (by simp; omega) ?_; intro v' w1 hown' hgrow _; obtain ⟨g', cap', rfl⟩ := ownsRow_succ hown'; have q1 := grown_box hrow hgrow hv (by omega); have q3 := grown_box hrow hgrow hb1 (by omega); refine hK _ _ ?_; clear hK K; have cO := q1.cell; have fO := q1.frozen; have cR := q3.cell; have fR := q3.frozen; refine wpAny_ready (rs := [7]) (by kernel_rfl) (by simp) ?_; refine AllReady.cons rfl (fun K hK => ?_) AllReady.nil; go_simp
    refine hK _ _ ?_; clear hK K; clear cO fO cR fR; refine wpAny_done (by kernel_rfl) ?_ _; exact close_normal hO9 hv hrow (by omega) hb0 hb2 hb1 hB2 hown' hgrow _
   go_simp
   refine hK _ _ ?_; clear hK K; refine wpAny_ready (rs := [0]) (by kernel_rfl) (by simp) ?_; refine AllReady.cons rfl (fun K hK => ?_) AllReady.nil; go_simp
   refine hK _ _ ?_; clear hK K; refine wpAny_ready (rs := [6]) (by kernel_rfl) (by simp) ?_; refine AllReady.cons rfl (fun K hK => ?_) AllReady.nil; refine step_append_owned rfl _ _ 57 rfl ((w.heap.size + 1 + 1 + 1 + 1) + 1) 9 i0 (.string ⟨#[]⟩) 1 16 Tryz.underlying57 hi hz0 hz1 hz2 rfl (by decide) (.slice A pre.length cap) pre.length (outOf pre) rfl (hrowD _) ⟨W.heap.size, 0, none⟩ 1 1 [.string (cutP x)] rfl rfl (cell_one_new _ _ _) (by simp [Value.oneCell']) (by unfold maxLen; omega) (by omega) (by simp; omega) ?_; intro v' w1 hown' hgrow _; obtain ⟨g', cap', rfl⟩ := ownsRow_succ hown'; have q1 := grown_box hrow hgrow hv (by omega); have q3 := grown_box hrow hgrow hb1 (by omega); refine hK _ _ ?_; clear hK K; have cO := q1.cell; have fO := q1.frozen; have cR := q3.cell; have fR := q3.frozen; refine wpAny_ready (rs := [7]) (by kernel_rfl) (by simp) ?_; refine AllReady.cons rfl (fun K hK => ?_) AllReady.nil; go_simp
   refine hK _ _ ?_; clear hK K; clear cO fO cR fR; refine wpAny_done (by kernel_rfl) ?_ _; exact close_normal hO9 hv hrow (by omega) hb0 hb2 hb1 hB2 hown' hgrow _
  case hdone =>
   rintro D ys W hD rfl ⟨⟨⟨v, hv, hrow, hlen⟩, hb0, hb2, hb1⟩, hB2⟩ hK; obtain ⟨A, cap, rfl⟩ := ownsRow_slice hrow; have hc := hv.cell; have hc1 := hb1.cell; have hf1 := hb1.frozen; have hBW := hB2; have hDw := Nat.le_trans g1 hD; clear g1 g1O g2 g3 aO a0 a1 a2 a3 hB hD; gi_wp2
   have hK' := (KeepsOthers.setCell W ⟨w.heap.size + 1, 0, none⟩ (.slice A (singlesP s).length cap)).same D _ hK rfl; refine ⟨by simp, .inl ⟨_, _, rfl, run_takeDeferred hK', ?_⟩⟩; have hc5 := cell_kept (hb1.set _).cell (grownBy_putObj' _ D (.deferred none)) (fun r e => by cases e; exact ⟨_, hK', rfl⟩); refine ⟨.slice A (singlesP s).length cap, ?_, _, rfl, ?_, (hBW.setCell (p := ⟨w.heap.size + 1, 0, none⟩) (by simp) _).trans (belowK_b (w := w) (Nat.le_refl _) _ D _ _ hDw hK' rfl rfl)⟩
   · simp [results, Tryz.f40, go_sem, hc5]
   rw [HFE.out]; exact done_row (mkP_map s _ _ (singlesFrom_ok s 0)) hlen (ownsRow_putObj (grown_own hrow (b := w.heap.size + 1) (by omega) _) (.deferred none) hK' rfl) (by omega)
  case hstop =>
   rintro D c pre W hD hpre ⟨⟨v, hv, hrow, rfl, hlen⟩, hB2⟩ hK; have hDw := Nat.le_trans g1 hD; clear g1 g1O g2 g3 aO a0 a1 a2 a3 hB hD; gi_wp2
   refine ⟨by simp, .inl ⟨_, _, rfl, run_takeDeferred hK, ?_⟩⟩; have hc5 := cell_kept hv.cell (grownBy_putObj' _ D (.deferred none)) (fun r e => by cases e; exact ⟨_, hK, rfl⟩); refine ⟨v, ?_, v, rfl, ?_, hB2.trans (belowK_b (w := w) (Nat.le_refl _) _ D _ _ hDw hK rfl rfl)⟩
   · simp [results, Tryz.f40, go_sem, hc5]
   obtain ⟨f1, f2⟩ := fieldsG_gt (mkP_map s _ _ (singlesFrom_ok s 0)) pre hpre hlen; rw [HFE.out, f1, f2]; exact (ownsRow_putObj hrow (.deferred none) hK rfl).mono (by omega)
 have hfs1 : 1 ≤ fs.size := by omega
 have hfsL : fs.toList.isEmpty = false := by
  cases h2 : fs.toList with
  | nil =>
   have h3 := congrArg List.length h2; rw [show fs.toList = fs.data.toList from ByteArray.toList_eq fs] at h3; exact absurd (by simpa using h3) hfs
  | cons a l => rfl
 have HFE : Hid (fieldsOf s fs = fieldsG s s.size (cutsFrom s fs 0)) := Lib.hid ((if_neg h0).trans ((if_neg hsp).trans (if_neg hfs))); clear hsp hfs; gi_wp2_with (refine ⟨trivial, ?_⟩; gi_at_call 80; refine (cuts_in s fs _ _).mono ?_; rintro e w' ⟨rfl, rfl⟩)
 have a0 := Boxed.new w 9 (.string s); have a1 := Boxed.new (w.alloc (.cells #[.string s] 9)) 57 (.slice none 0 0); have a2 := Boxed.new ((w.alloc (.cells #[.string s] 9)).alloc (.cells #[.slice none 0 0] 57)) 3 (.int .i64 (s.size : Int)); have a3 := Boxed.new (((w.alloc (.cells #[.string s] 9)).alloc (.cells #[.slice none 0 0] 57)).alloc (.cells #[.int .i64 (s.size : Int)] 3)) 9 (.string s); have a4 := Boxed.new ((((w.alloc (.cells #[.string s] 9)).alloc (.cells #[.slice none 0 0] 57)).alloc (.cells #[.int .i64 (s.size : Int)] 3)).alloc (.cells #[.string s] 9)) 9 (.string fs); have hB : Below w.heap.size w (((((w.alloc (.cells #[.string s] 9)).alloc (.cells #[.slice none 0 0] 57)).alloc (.cells #[.int .i64 (s.size : Int)] 3)).alloc (.cells #[.string s] 9)).alloc (.cells #[.string fs] 9)) :=
  (((((Below.refl _ w).alloc (Nat.le_refl _) _).alloc (by simp) _).alloc (by simp; omega) _).alloc (by simp; omega) _).alloc (by simp; omega) _
 simp only [World.size_alloc] at a1 a2 a3 a4; replace a0 := (((a0.alloc (.cells #[.slice none 0 0] 57)).alloc (.cells #[.int .i64 (s.size : Int)] 3)).alloc (.cells #[.string s] 9)).alloc (.cells #[.string fs] 9); replace a1 := ((a1.alloc (.cells #[.int .i64 (s.size : Int)] 3)).alloc (.cells #[.string s] 9)).alloc (.cells #[.string fs] 9); replace a2 := (a2.alloc (.cells #[.string s] 9)).alloc (.cells #[.string fs] 9); replace a3 := a3.alloc (.cells #[.string fs] 9); obtain ⟨wr, hwr⟩ : ∃ wr, (((((w.alloc (.cells #[.string s] 9)).alloc (.cells #[.slice none 0 0] 57)).alloc (.cells #[.int .i64 (s.size : Int)] 3)).alloc (.cells #[.string s] 9)).alloc (.cells #[.string fs] 9)) = wr := ⟨_, rfl⟩; have hsz' : wr.heap.size = w.heap.size + 1 + 1 + 1 + 1 + 1 := by rw [← hwr]; simp
 rw [hwr] at a0 a1 a2 a3 a4 hB ⊢; clear hwr; have aO := Boxed.new wr 57 (.slice none 0 0); rw [hsz'] at aO; have hO9 : w.heap.size + 1 + 1 < (w.heap.size + 1 + 1 + 1 + 1 + 1) := by omega
 have g1 : w.heap.size ≤ (wr.alloc (.cells #[.slice none 0 0] 57)).heap.size := by simp; omega
 have g1O : (w.heap.size + 1 + 1 + 1 + 1 + 1) ≤ (wr.alloc (.cells #[.slice none 0 0] 57)).heap.size := by simp; omega
 have g2 : w.heap.size + 1 + 1 + 1 + 1 < (wr.alloc (.cells #[.slice none 0 0] 57)).heap.size := by simp; omega
 have g3 := hB.alloc hB.size (.cells #[.slice none 0 0] 57); clear hsz'; apply wpIn_rangeFunc_ownG (encs := encP (s := s) (E := s.size)) (Kp := Below (w.heap.size + 1 + 1 + 1 + 1 + 1)) (S := fun ys => ys = cutsP s fs) (Sp := fun pre => pre <+: cutsP s fs) (N := (cutsP s fs).length) rfl (by omega) (gf := 107) (lb := #[.pointer (some ⟨w.heap.size + 1 + 1 + 1, 0, none⟩), .pointer (some ⟨w.heap.size + 1 + 1 + 1 + 1, 0, none⟩)]) rfl trivial (enters_of Tryz.func107 (by kernel_rfl) rfl)
  (cuts_stops (w.heap.size + 1 + 1 + 1) _ m s fs hs4 hfs1 _ g2 (by omega) ((a3.alloc _).cell) ((a4.alloc _).cell) ((g3.cell (p := ⟨0, 0, none⟩) h0w).trans hm)) belowK_t (belowK_b g1O) (Below.refl _ _) (fun _ => rfl)
  (IFields s s.size w (w.heap.size + 1 + 1 + 1 + 1 + 1)) (XFields s s.size w (w.heap.size + 1 + 1 + 1 + 1 + 1)) (own_I s s.size w (w.heap.size + 1 + 1 + 1 + 1 + 1) _ g1) (own_X s s.size w (w.heap.size + 1 + 1 + 1 + 1 + 1) _ g1)
  ⟨⟨⟨_, aO, World.ownsRow_nil _ _ _ _, by simp⟩, a0.alloc _, a2.alloc _, a1.alloc _⟩, g3⟩
 case hassign =>
  intro l x W K hK; gi_wp2
  exact hK
 case hbody =>
  rintro l pre x W ⟨⟨⟨v, hv, hrow, hlen⟩, hb0, hb2, hb1⟩, hB2⟩ hlt; obtain ⟨A, cap, rfl⟩ := ownsRow_slice hrow; obtain ⟨p1, p2, p3⟩ := x.2; have p4 : s.size ≤ s.size := Nat.le_refl _; have hsW := hv.lt; have hrowD : ∀ o, (W.drew.alloc o).ownsRow ((w.heap.size + 1 + 1 + 1 + 1 + 1) + 1) 9 1 (.slice A pre.length cap) pre.length (outOf pre) := fun o => (World.ownsRow.drew hrow).alloc o
  have hc := hv.cell; have hc0 := hb0.cell; have hc2 := hb2.cell; clear g1 g1O g2 g3 aO a0 a1 a2 a3 hB a4; by_cases h67 : pre.length = 32767
  ·
   have ht : ((pre.length : Int) == 32767) = true := by rw [h67]; rfl
   have ht2 : (pre.length == 32767) = true := by rw [h67]; rfl
   have H67 := Lib.hid h67; clear h67; gi_wp2
   refine wpIn_region_any (by kernel_rfl) ?_; refine anyIn_of_any l _ (noDefer_of (by kernel_rfl)) (by rintro ⟨a9, w9, h9⟩; exact h9) _ _ _ _ ?_; change wpAny _ _ _ _ _ _ _ (World.drew _); refine wpAny_take (i := 2) (v := ?_) rfl (by kernel_rfl) (by kernel_rfl) (by kernel_rfl) (fun _ _ _ h => h) (Or.inl ⟨by rfl, ?_⟩) ?_; rotate_left
   · intro w9; go_simp; rfl
   refine wpAny_ready (rs := [0, 1, 3]) (by kernel_rfl) (by simp) ?_; refine AllReady.cons rfl (fun K hK => ?_) (AllReady.cons rfl (fun K hK => ?_) (AllReady.cons rfl (fun K hK => ?_) AllReady.nil))
   ·
    go_simp
    refine hK _ _ ?_; clear hK K; refine wpAny_ready (rs := [1, 3]) (by kernel_rfl) (by simp) ?_; refine AllReady.cons rfl (fun K hK => ?_) (AllReady.cons rfl (fun K hK => ?_) AllReady.nil)
    ·
     go_simp
     refine hK _ _ ?_; clear hK K; refine wpAny_ready (rs := [3]) (by kernel_rfl) (by simp) ?_; refine AllReady.cons rfl (fun K hK => ?_) AllReady.nil; go_simp
     refine hK _ _ ?_; clear hK K; refine wpAny_ready (rs := [4]) (by kernel_rfl) (by simp) ?_; refine AllReady.cons rfl (fun K hK => ?_) AllReady.nil; go_simp
     refine hK _ _ ?_; clear hK K; refine wpAny_ready (rs := [5]) (by kernel_rfl) (by simp) ?_; refine AllReady.cons rfl (fun K hK => ?_) AllReady.nil; go_simp
     refine hK _ _ ?_; clear hK K; refine wpAny_ready (rs := [6]) (by kernel_rfl) (by simp) ?_; refine AllReady.cons rfl (fun K hK => ?_) AllReady.nil; refine step_append_owned rfl _ _ 57 rfl ((w.heap.size + 1 + 1 + 1 + 1 + 1) + 1) 9 i0 (.string ⟨#[]⟩) 1 16 Tryz.underlying57 hi hz0 hz1 hz2 rfl (by decide) (.slice A pre.length cap) pre.length (outOf pre) rfl (hrowD _) ⟨W.heap.size, 0, none⟩ 1 1 [.string (lastP x)] rfl rfl (cell_one_new _ _ _) (by simp [Value.oneCell']) (by unfold maxLen; omega) (by omega) (by simp; omega) ?_; intro v' w1 hown' hgrow _; obtain ⟨g', cap', rfl⟩ := ownsRow_succ hown'; have q1 := grown_box hrow hgrow hv (by omega); have q3 := grown_box hrow hgrow hb1 (by omega); refine hK _ _ ?_; clear hK K; have cO := q1.cell; have fO := q1.frozen; have cR := q3.cell; have fR := q3.frozen; refine wpAny_ready (rs := [7]) (by kernel_rfl) (by simp) ?_; refine AllReady.cons rfl (fun K hK => ?_) AllReady.nil; go_simp
     refine hK _ _ ?_; clear hK K; clear cO fO cR fR; refine wpAny_done (by kernel_rfl) ?_ _; gi_wp2
     exact close_ret hO9 hrow H67.out (by omega) hb1 hB2 hown' hgrow _
    go_simp
    refine hK _ _ ?_; clear hK K; refine wpAny_ready (rs := [1]) (by kernel_rfl) (by simp) ?_; refine AllReady.cons rfl (fun K hK => ?_) AllReady.nil; go_simp
    refine hK _ _ ?_; clear hK K; refine wpAny_ready (rs := [4]) (by kernel_rfl) (by simp) ?_; refine AllReady.cons rfl (fun K hK => ?_) AllReady.nil; go_simp
    refine hK _ _ ?_; clear hK K; refine wpAny_ready (rs := [5]) (by kernel_rfl) (by simp) ?_; refine AllReady.cons rfl (fun K hK => ?_) AllReady.nil; go_simp
    refine hK _ _ ?_; clear hK K; refine wpAny_ready (rs := [6]) (by kernel_rfl) (by simp) ?_; refine AllReady.cons rfl (fun K hK => ?_) AllReady.nil; refine step_append_owned rfl _ _ 57 rfl ((w.heap.size + 1 + 1 + 1 + 1 + 1) + 1) 9 i0 (.string ⟨#[]⟩) 1 16 Tryz.underlying57 hi hz0 hz1 hz2 rfl (by decide) (.slice A pre.length cap) pre.length (outOf pre) rfl (hrowD _) ⟨W.heap.size, 0, none⟩ 1 1 [.string (lastP x)] rfl rfl (cell_one_new _ _ _) (by simp [Value.oneCell']) (by unfold maxLen; omega) (by omega) (by simp; omega) ?_; intro v' w1 hown' hgrow _; obtain ⟨g', cap', rfl⟩ := ownsRow_succ hown'; have q1 := grown_box hrow hgrow hv (by omega); have q3 := grown_box hrow hgrow hb1 (by omega); refine hK _ _ ?_; clear hK K; have cO := q1.cell; have fO := q1.frozen; have cR := q3.cell; have fR := q3.frozen; refine wpAny_ready (rs := [7]) (by kernel_rfl) (by simp) ?_; refine AllReady.cons rfl (fun K hK => ?_) AllReady.nil; go_simp
    refine hK _ _ ?_; clear hK K; clear cO fO cR fR; refine wpAny_done (by kernel_rfl) ?_ _; gi_wp2
    exact close_ret hO9 hrow H67.out (by omega) hb1 hB2 hown' hgrow _
   ·
    go_simp
    refine hK _ _ ?_; clear hK K; refine wpAny_ready (rs := [0, 3]) (by kernel_rfl) (by simp) ?_; refine AllReady.cons rfl (fun K hK => ?_) (AllReady.cons rfl (fun K hK => ?_) AllReady.nil)
    ·
     go_simp
     refine hK _ _ ?_; clear hK K; refine wpAny_ready (rs := [3]) (by kernel_rfl) (by simp) ?_; refine AllReady.cons rfl (fun K hK => ?_) AllReady.nil; go_simp
     refine hK _ _ ?_; clear hK K; refine wpAny_ready (rs := [4]) (by kernel_rfl) (by simp) ?_; refine AllReady.cons rfl (fun K hK => ?_) AllReady.nil; go_simp
     refine hK _ _ ?_; clear hK K; refine wpAny_ready (rs := [5]) (by kernel_rfl) (by simp) ?_; refine AllReady.cons rfl (fun K hK => ?_) AllReady.nil; go_simp
     refine hK _ _ ?_; clear hK K; refine wpAny_ready (rs := [6]) (by kernel_rfl) (by simp) ?_; refine AllReady.cons rfl (fun K hK => ?_) AllReady.nil; refine step_append_owned rfl _ _ 57 rfl ((w.heap.size + 1 + 1 + 1 + 1 + 1) + 1) 9 i0 (.string ⟨#[]⟩) 1 16 Tryz.underlying57 hi hz0 hz1 hz2 rfl (by decide) (.slice A pre.length cap) pre.length (outOf pre) rfl (hrowD _) ⟨W.heap.size, 0, none⟩ 1 1 [.string (lastP x)] rfl rfl (cell_one_new _ _ _) (by simp [Value.oneCell']) (by unfold maxLen; omega) (by omega) (by simp; omega) ?_; intro v' w1 hown' hgrow _; obtain ⟨g', cap', rfl⟩ := ownsRow_succ hown'; have q1 := grown_box hrow hgrow hv (by omega); have q3 := grown_box hrow hgrow hb1 (by omega); refine hK _ _ ?_; clear hK K; have cO := q1.cell; have fO := q1.frozen; have cR := q3.cell; have fR := q3.frozen; refine wpAny_ready (rs := [7]) (by kernel_rfl) (by simp) ?_; refine AllReady.cons rfl (fun K hK => ?_) AllReady.nil; go_simp
     refine hK _ _ ?_; clear hK K; clear cO fO cR fR; refine wpAny_done (by kernel_rfl) ?_ _; gi_wp2
     exact close_ret hO9 hrow H67.out (by omega) hb1 hB2 hown' hgrow _
    go_simp
    refine hK _ _ ?_; clear hK K; refine wpAny_ready (rs := [0, 4]) (by kernel_rfl) (by simp) ?_; refine AllReady.cons rfl (fun K hK => ?_) (AllReady.cons rfl (fun K hK => ?_) AllReady.nil)
    ·
     go_simp
     refine hK _ _ ?_; clear hK K; refine wpAny_ready (rs := [4]) (by kernel_rfl) (by simp) ?_; refine AllReady.cons rfl (fun K hK => ?_) AllReady.nil; go_simp
     refine hK _ _ ?_; clear hK K; refine wpAny_ready (rs := [5]) (by kernel_rfl) (by simp) ?_; refine AllReady.cons rfl (fun K hK => ?_) AllReady.nil; go_simp
     refine hK _ _ ?_; clear hK K; refine wpAny_ready (rs := [6]) (by kernel_rfl) (by simp) ?_; refine AllReady.cons rfl (fun K hK => ?_) AllReady.nil; refine step_append_owned rfl _ _ 57 rfl ((w.heap.size + 1 + 1 + 1 + 1 + 1) + 1) 9 i0 (.string ⟨#[]⟩) 1 16 Tryz.underlying57 hi hz0 hz1 hz2 rfl (by decide) (.slice A pre.length cap) pre.length (outOf pre) rfl (hrowD _) ⟨W.heap.size, 0, none⟩ 1 1 [.string (lastP x)] rfl rfl (cell_one_new _ _ _) (by simp [Value.oneCell']) (by unfold maxLen; omega) (by omega) (by simp; omega) ?_; intro v' w1 hown' hgrow _; obtain ⟨g', cap', rfl⟩ := ownsRow_succ hown'; have q1 := grown_box hrow hgrow hv (by omega); have q3 := grown_box hrow hgrow hb1 (by omega); refine hK _ _ ?_; clear hK K; have cO := q1.cell; have fO := q1.frozen; have cR := q3.cell; have fR := q3.frozen; refine wpAny_ready (rs := [7]) (by kernel_rfl) (by simp) ?_; refine AllReady.cons rfl (fun K hK => ?_) AllReady.nil; go_simp
     refine hK _ _ ?_; clear hK K; clear cO fO cR fR; refine wpAny_done (by kernel_rfl) ?_ _; gi_wp2
     exact close_ret hO9 hrow H67.out (by omega) hb1 hB2 hown' hgrow _
    go_simp
    refine hK _ _ ?_; clear hK K; refine wpAny_ready (rs := [0, 5]) (by kernel_rfl) (by simp) ?_; refine AllReady.cons rfl (fun K hK => ?_) (AllReady.cons rfl (fun K hK => ?_) AllReady.nil)
    ·
     go_simp
     refine hK _ _ ?_; clear hK K; refine wpAny_ready (rs := [5]) (by kernel_rfl) (by simp) ?_; refine AllReady.cons rfl (fun K hK => ?_) AllReady.nil; go_simp
     refine hK _ _ ?_; clear hK K; refine wpAny_ready (rs := [6]) (by kernel_rfl) (by simp) ?_; refine AllReady.cons rfl (fun K hK => ?_) AllReady.nil; refine step_append_owned rfl _ _ 57 rfl ((w.heap.size + 1 + 1 + 1 + 1 + 1) + 1) 9 i0 (.string ⟨#[]⟩) 1 16 Tryz.underlying57 hi hz0 hz1 hz2 rfl (by decide) (.slice A pre.length cap) pre.length (outOf pre) rfl (hrowD _) ⟨W.heap.size, 0, none⟩ 1 1 [.string (lastP x)] rfl rfl (cell_one_new _ _ _) (by simp [Value.oneCell']) (by unfold maxLen; omega) (by omega) (by simp; omega) ?_; intro v' w1 hown' hgrow _; obtain ⟨g', cap', rfl⟩ := ownsRow_succ hown'; have q1 := grown_box hrow hgrow hv (by omega); have q3 := grown_box hrow hgrow hb1 (by omega); refine hK _ _ ?_; clear hK K; have cO := q1.cell; have fO := q1.frozen; have cR := q3.cell; have fR := q3.frozen; refine wpAny_ready (rs := [7]) (by kernel_rfl) (by simp) ?_; refine AllReady.cons rfl (fun K hK => ?_) AllReady.nil; go_simp
     refine hK _ _ ?_; clear hK K; clear cO fO cR fR; refine wpAny_done (by kernel_rfl) ?_ _; gi_wp2
     exact close_ret hO9 hrow H67.out (by omega) hb1 hB2 hown' hgrow _
    go_simp
    refine hK _ _ ?_; clear hK K; refine wpAny_ready (rs := [0]) (by kernel_rfl) (by simp) ?_; refine AllReady.cons rfl (fun K hK => ?_) AllReady.nil; go_simp
    refine hK _ _ ?_; clear hK K; refine wpAny_ready (rs := [6]) (by kernel_rfl) (by simp) ?_; refine AllReady.cons rfl (fun K hK => ?_) AllReady.nil; refine step_append_owned rfl _ _ 57 rfl ((w.heap.size + 1 + 1 + 1 + 1 + 1) + 1) 9 i0 (.string ⟨#[]⟩) 1 16 Tryz.underlying57 hi hz0 hz1 hz2 rfl (by decide) (.slice A pre.length cap) pre.length (outOf pre) rfl (hrowD _) ⟨W.heap.size, 0, none⟩ 1 1 [.string (lastP x)] rfl rfl (cell_one_new _ _ _) (by simp [Value.oneCell']) (by unfold maxLen; omega) (by omega) (by simp; omega) ?_; intro v' w1 hown' hgrow _; obtain ⟨g', cap', rfl⟩ := ownsRow_succ hown'; have q1 := grown_box hrow hgrow hv (by omega); have q3 := grown_box hrow hgrow hb1 (by omega); refine hK _ _ ?_; clear hK K; have cO := q1.cell; have fO := q1.frozen; have cR := q3.cell; have fR := q3.frozen; refine wpAny_ready (rs := [7]) (by kernel_rfl) (by simp) ?_; refine AllReady.cons rfl (fun K hK => ?_) AllReady.nil; go_simp
    refine hK _ _ ?_; clear hK K; clear cO fO cR fR; refine wpAny_done (by kernel_rfl) ?_ _; gi_wp2
    exact close_ret hO9 hrow H67.out (by omega) hb1 hB2 hown' hgrow _
   go_simp
   refine hK _ _ ?_; clear hK K; refine wpAny_ready (rs := [0, 1]) (by kernel_rfl) (by simp) ?_; refine AllReady.cons rfl (fun K hK => ?_) (AllReady.cons rfl (fun K hK => ?_) AllReady.nil)
   ·
    go_simp
    refine hK _ _ ?_; clear hK K; refine wpAny_ready (rs := [1]) (by kernel_rfl) (by simp) ?_; refine AllReady.cons rfl (fun K hK => ?_) AllReady.nil; go_simp
    refine hK _ _ ?_; clear hK K; refine wpAny_ready (rs := [4]) (by kernel_rfl) (by simp) ?_; refine AllReady.cons rfl (fun K hK => ?_) AllReady.nil; go_simp
    refine hK _ _ ?_; clear hK K; refine wpAny_ready (rs := [5]) (by kernel_rfl) (by simp) ?_; refine AllReady.cons rfl (fun K hK => ?_) AllReady.nil; go_simp
    refine hK _ _ ?_; clear hK K; refine wpAny_ready (rs := [6]) (by kernel_rfl) (by simp) ?_; refine AllReady.cons rfl (fun K hK => ?_) AllReady.nil; refine step_append_owned rfl _ _ 57 rfl ((w.heap.size + 1 + 1 + 1 + 1 + 1) + 1) 9 i0 (.string ⟨#[]⟩) 1 16 Tryz.underlying57 hi hz0 hz1 hz2 rfl (by decide) (.slice A pre.length cap) pre.length (outOf pre) rfl (hrowD _) ⟨W.heap.size, 0, none⟩ 1 1 [.string (lastP x)] rfl rfl (cell_one_new _ _ _) (by simp [Value.oneCell']) (by unfold maxLen; omega) (by omega) (by simp; omega) ?_; intro v' w1 hown' hgrow _; obtain ⟨g', cap', rfl⟩ := ownsRow_succ hown'; have q1 := grown_box hrow hgrow hv (by omega); have q3 := grown_box hrow hgrow hb1 (by omega); refine hK _ _ ?_; clear hK K; have cO := q1.cell; have fO := q1.frozen; have cR := q3.cell; have fR := q3.frozen; refine wpAny_ready (rs := [7]) (by kernel_rfl) (by simp) ?_; refine AllReady.cons rfl (fun K hK => ?_) AllReady.nil; go_simp
    refine hK _ _ ?_; clear hK K; clear cO fO cR fR; refine wpAny_done (by kernel_rfl) ?_ _; gi_wp2
    exact close_ret hO9 hrow H67.out (by omega) hb1 hB2 hown' hgrow _
   go_simp
   refine hK _ _ ?_; clear hK K; refine wpAny_ready (rs := [0, 4]) (by kernel_rfl) (by simp) ?_; refine AllReady.cons rfl (fun K hK => ?_) (AllReady.cons rfl (fun K hK => ?_) AllReady.nil)
   ·
    go_simp
    refine hK _ _ ?_; clear hK K; refine wpAny_ready (rs := [4]) (by kernel_rfl) (by simp) ?_; refine AllReady.cons rfl (fun K hK => ?_) AllReady.nil; go_simp
    refine hK _ _ ?_; clear hK K; refine wpAny_ready (rs := [5]) (by kernel_rfl) (by simp) ?_; refine AllReady.cons rfl (fun K hK => ?_) AllReady.nil; go_simp
    refine hK _ _ ?_; clear hK K; refine wpAny_ready (rs := [6]) (by kernel_rfl) (by simp) ?_; refine AllReady.cons rfl (fun K hK => ?_) AllReady.nil; refine step_append_owned rfl _ _ 57 rfl ((w.heap.size + 1 + 1 + 1 + 1 + 1) + 1) 9 i0 (.string ⟨#[]⟩) 1 16 Tryz.underlying57 hi hz0 hz1 hz2 rfl (by decide) (.slice A pre.length cap) pre.length (outOf pre) rfl (hrowD _) ⟨W.heap.size, 0, none⟩ 1 1 [.string (lastP x)] rfl rfl (cell_one_new _ _ _) (by simp [Value.oneCell']) (by unfold maxLen; omega) (by omega) (by simp; omega) ?_; intro v' w1 hown' hgrow _; obtain ⟨g', cap', rfl⟩ := ownsRow_succ hown'; have q1 := grown_box hrow hgrow hv (by omega); have q3 := grown_box hrow hgrow hb1 (by omega); refine hK _ _ ?_; clear hK K; have cO := q1.cell; have fO := q1.frozen; have cR := q3.cell; have fR := q3.frozen; refine wpAny_ready (rs := [7]) (by kernel_rfl) (by simp) ?_; refine AllReady.cons rfl (fun K hK => ?_) AllReady.nil; go_simp
    refine hK _ _ ?_; clear hK K; clear cO fO cR fR; refine wpAny_done (by kernel_rfl) ?_ _; gi_wp2
    exact close_ret hO9 hrow H67.out (by omega) hb1 hB2 hown' hgrow _
   go_simp
   refine hK _ _ ?_; clear hK K; refine wpAny_ready (rs := [0, 5]) (by kernel_rfl) (by simp) ?_; refine AllReady.cons rfl (fun K hK => ?_) (AllReady.cons rfl (fun K hK => ?_) AllReady.nil)
   ·
    go_simp
    refine hK _ _ ?_; clear hK K; refine wpAny_ready (rs := [5]) (by kernel_rfl) (by simp) ?_; refine AllReady.cons rfl (fun K hK => ?_) AllReady.nil; go_simp
    refine hK _ _ ?_; clear hK K; refine wpAny_ready (rs := [6]) (by kernel_rfl) (by simp) ?_; refine AllReady.cons rfl (fun K hK => ?_) AllReady.nil; refine step_append_owned rfl _ _ 57 rfl ((w.heap.size + 1 + 1 + 1 + 1 + 1) + 1) 9 i0 (.string ⟨#[]⟩) 1 16 Tryz.underlying57 hi hz0 hz1 hz2 rfl (by decide) (.slice A pre.length cap) pre.length (outOf pre) rfl (hrowD _) ⟨W.heap.size, 0, none⟩ 1 1 [.string (lastP x)] rfl rfl (cell_one_new _ _ _) (by simp [Value.oneCell']) (by unfold maxLen; omega) (by omega) (by simp; omega) ?_; intro v' w1 hown' hgrow _; obtain ⟨g', cap', rfl⟩ := ownsRow_succ hown'; have q1 := grown_box hrow hgrow hv (by omega); have q3 := grown_box hrow hgrow hb1 (by omega); refine hK _ _ ?_; clear hK K; have cO := q1.cell; have fO := q1.frozen; have cR := q3.cell; have fR := q3.frozen; refine wpAny_ready (rs := [7]) (by kernel_rfl) (by simp) ?_; refine AllReady.cons rfl (fun K hK => ?_) AllReady.nil; go_simp
    refine hK _ _ ?_; clear hK K; clear cO fO cR fR; refine wpAny_done (by kernel_rfl) ?_ _; gi_wp2
    exact close_ret hO9 hrow H67.out (by omega) hb1 hB2 hown' hgrow _
   go_simp
   refine hK _ _ ?_; clear hK K; refine wpAny_ready (rs := [0]) (by kernel_rfl) (by simp) ?_; refine AllReady.cons rfl (fun K hK => ?_) AllReady.nil; go_simp
   refine hK _ _ ?_; clear hK K; refine wpAny_ready (rs := [6]) (by kernel_rfl) (by simp) ?_; refine AllReady.cons rfl (fun K hK => ?_) AllReady.nil; refine step_append_owned rfl _ _ 57 rfl ((w.heap.size + 1 + 1 + 1 + 1 + 1) + 1) 9 i0 (.string ⟨#[]⟩) 1 16 Tryz.underlying57 hi hz0 hz1 hz2 rfl (by decide) (.slice A pre.length cap) pre.length (outOf pre) rfl (hrowD _) ⟨W.heap.size, 0, none⟩ 1 1 [.string (lastP x)] rfl rfl (cell_one_new _ _ _) (by simp [Value.oneCell']) (by unfold maxLen; omega) (by omega) (by simp; omega) ?_; intro v' w1 hown' hgrow _; obtain ⟨g', cap', rfl⟩ := ownsRow_succ hown'; have q1 := grown_box hrow hgrow hv (by omega); have q3 := grown_box hrow hgrow hb1 (by omega); refine hK _ _ ?_; clear hK K; have cO := q1.cell; have fO := q1.frozen; have cR := q3.cell; have fR := q3.frozen; refine wpAny_ready (rs := [7]) (by kernel_rfl) (by simp) ?_; refine AllReady.cons rfl (fun K hK => ?_) AllReady.nil; go_simp
   refine hK _ _ ?_; clear hK K; clear cO fO cR fR; refine wpAny_done (by kernel_rfl) ?_ _; gi_wp2
   exact close_ret hO9 hrow H67.out (by omega) hb1 hB2 hown' hgrow _
  have ht : ((pre.length : Int) == 32767) = false := by simp; omega
  have ht2 : (pre.length == 32767) = false := by simp; omega
  gi_wp2
  refine wpIn_region_any (by kernel_rfl) ?_; refine anyIn_of_any l _ (noDefer_of (by kernel_rfl)) (by rintro ⟨a9, w9, h9⟩; exact h9) _ _ _ _ ?_; change wpAny _ _ _ _ _ _ _ (World.drew _); refine wpAny_take (i := 2) (v := ?_) rfl (by kernel_rfl) (by kernel_rfl) (by kernel_rfl) (fun _ _ _ h => h) (Or.inl ⟨by rfl, ?_⟩) ?_; rotate_left
  · intro w9; go_simp; rfl
  refine wpAny_take (i := 3) (v := ?_) rfl (by kernel_rfl) (by kernel_rfl) (by kernel_rfl) (fun _ _ _ h => h) (Or.inl ⟨by rfl, ?_⟩) ?_; rotate_left
  · intro w9; go_simp; rfl
  refine wpAny_ready (rs := [0, 1]) (by kernel_rfl) (by simp) ?_; refine AllReady.cons rfl (fun K hK => ?_) (AllReady.cons rfl (fun K hK => ?_) AllReady.nil)
  ·
   go_simp
   refine hK _ _ ?_; clear hK K; refine wpAny_ready (rs := [1]) (by kernel_rfl) (by simp) ?_; refine AllReady.cons rfl (fun K hK => ?_) AllReady.nil; go_simp
   refine hK _ _ ?_; clear hK K; refine wpAny_ready (rs := [4]) (by kernel_rfl) (by simp) ?_; refine AllReady.cons rfl (fun K hK => ?_) AllReady.nil; go_simp
   refine hK _ _ ?_; clear hK K; refine wpAny_ready (rs := [5]) (by kernel_rfl) (by simp) ?_; refine AllReady.cons rfl (fun K hK => ?_) AllReady.nil; go_simp
   refine hK _ _ ?_; clear hK K; refine wpAny_ready (rs := [6]) (by kernel_rfl) (by simp) ?_; refine AllReady.cons rfl (fun K hK => ?_) AllReady.nil; refine step_append_owned rfl _ _ 57 rfl ((w.heap.size + 1 + 1 + 1 + 1 + 1) + 1) 9 i0 (.string ⟨#[]⟩) 1 16 Tryz.underlying57 hi hz0 hz1 hz2 rfl (by decide) (.slice A pre.length cap) pre.length (outOf pre) rfl (hrowD _) ⟨W.heap.size, 0, none⟩ 1 1 [.string (cutP x)] rfl rfl (cell_one_new _ _ _) (by simp [Value.oneCell']) (by unfold maxLen; omega) (by omega) (by simp; omega) ?_; intro v' w1 hown' hgrow _; obtain ⟨g', cap', rfl⟩ := ownsRow_succ hown'; have q1 := grown_box hrow hgrow hv (by omega); have q3 := grown_box hrow hgrow hb1 (by omega); refine hK _ _ ?_; clear hK K; have cO := q1.cell; have fO := q1.frozen; have cR := q3.cell; have fR := q3.frozen; refine wpAny_ready (rs := [7]) (by kernel_rfl) (by simp) ?_; refine AllReady.cons rfl (fun K hK => ?_) AllReady.nil; go_simp
   refine hK _ _ ?_; clear hK K; clear cO fO cR fR; refine wpAny_done (by kernel_rfl) ?_ _; exact close_normal hO9 hv hrow (by omega) hb0 hb2 hb1 hB2 hown' hgrow _
  go_simp
  refine hK _ _ ?_; clear hK K; refine wpAny_ready (rs := [0, 4]) (by kernel_rfl) (by simp) ?_; refine AllReady.cons rfl (fun K hK => ?_) (AllReady.cons rfl (fun K hK => ?_) AllReady.nil)
  ·
   go_simp
   refine hK _ _ ?_; clear hK K; refine wpAny_ready (rs := [4]) (by kernel_rfl) (by simp) ?_; refine AllReady.cons rfl (fun K hK => ?_) AllReady.nil; go_simp
   refine hK _ _ ?_; clear hK K; refine wpAny_ready (rs := [5]) (by kernel_rfl) (by simp) ?_; refine AllReady.cons rfl (fun K hK => ?_) AllReady.nil; go_simp
   refine hK _ _ ?_; clear hK K; refine wpAny_ready (rs := [6]) (by kernel_rfl) (by simp) ?_; refine AllReady.cons rfl (fun K hK => ?_) AllReady.nil; refine step_append_owned rfl _ _ 57 rfl ((w.heap.size + 1 + 1 + 1 + 1 + 1) + 1) 9 i0 (.string ⟨#[]⟩) 1 16 Tryz.underlying57 hi hz0 hz1 hz2 rfl (by decide) (.slice A pre.length cap) pre.length (outOf pre) rfl (hrowD _) ⟨W.heap.size, 0, none⟩ 1 1 [.string (cutP x)] rfl rfl (cell_one_new _ _ _) (by simp [Value.oneCell']) (by unfold maxLen; omega) (by omega) (by simp; omega) ?_; intro v' w1 hown' hgrow _; obtain ⟨g', cap', rfl⟩ := ownsRow_succ hown'; have q1 := grown_box hrow hgrow hv (by omega); have q3 := grown_box hrow hgrow hb1 (by omega); refine hK _ _ ?_; clear hK K; have cO := q1.cell; have fO := q1.frozen; have cR := q3.cell; have fR := q3.frozen; refine wpAny_ready (rs := [7]) (by kernel_rfl) (by simp) ?_; refine AllReady.cons rfl (fun K hK => ?_) AllReady.nil; go_simp
   refine hK _ _ ?_; clear hK K; clear cO fO cR fR; refine wpAny_done (by kernel_rfl) ?_ _; exact close_normal hO9 hv hrow (by omega) hb0 hb2 hb1 hB2 hown' hgrow _
  go_simp
  refine hK _ _ ?_; clear hK K; refine wpAny_ready (rs := [0, 5]) (by kernel_rfl) (by simp) ?_; refine AllReady.cons rfl (fun K hK => ?_) (AllReady.cons rfl (fun K hK => ?_) AllReady.nil)
  ·
   go_simp
   refine hK _ _ ?_; clear hK K; refine wpAny_ready (rs := [5]) (by kernel_rfl) (by simp) ?_; refine AllReady.cons rfl (fun K hK => ?_) AllReady.nil; go_simp
   refine hK _ _ ?_; clear hK K; refine wpAny_ready (rs := [6]) (by kernel_rfl) (by simp) ?_; refine AllReady.cons rfl (fun K hK => ?_) AllReady.nil; refine step_append_owned rfl _ _ 57 rfl ((w.heap.size + 1 + 1 + 1 + 1 + 1) + 1) 9 i0 (.string ⟨#[]⟩) 1 16 Tryz.underlying57 hi hz0 hz1 hz2 rfl (by decide) (.slice A pre.length cap) pre.length (outOf pre) rfl (hrowD _) ⟨W.heap.size, 0, none⟩ 1 1 [.string (cutP x)] rfl rfl (cell_one_new _ _ _) (by simp [Value.oneCell']) (by unfold maxLen; omega) (by omega) (by simp; omega) ?_; intro v' w1 hown' hgrow _; obtain ⟨g', cap', rfl⟩ := ownsRow_succ hown'; have q1 := grown_box hrow hgrow hv (by omega); have q3 := grown_box hrow hgrow hb1 (by omega); refine hK _ _ ?_; clear hK K; have cO := q1.cell; have fO := q1.frozen; have cR := q3.cell; have fR := q3.frozen; refine wpAny_ready (rs := [7]) (by kernel_rfl) (by simp) ?_; refine AllReady.cons rfl (fun K hK => ?_) AllReady.nil; go_simp
   refine hK _ _ ?_; clear hK K; clear cO fO cR fR; refine wpAny_done (by kernel_rfl) ?_ _; exact close_normal hO9 hv hrow (by omega) hb0 hb2 hb1 hB2 hown' hgrow _
  go_simp
  refine hK _ _ ?_; clear hK K; refine wpAny_ready (rs := [0]) (by kernel_rfl) (by simp) ?_; refine AllReady.cons rfl (fun K hK => ?_) AllReady.nil; go_simp
  refine hK _ _ ?_; clear hK K; refine wpAny_ready (rs := [6]) (by kernel_rfl) (by simp) ?_; refine AllReady.cons rfl (fun K hK => ?_) AllReady.nil; refine step_append_owned rfl _ _ 57 rfl ((w.heap.size + 1 + 1 + 1 + 1 + 1) + 1) 9 i0 (.string ⟨#[]⟩) 1 16 Tryz.underlying57 hi hz0 hz1 hz2 rfl (by decide) (.slice A pre.length cap) pre.length (outOf pre) rfl (hrowD _) ⟨W.heap.size, 0, none⟩ 1 1 [.string (cutP x)] rfl rfl (cell_one_new _ _ _) (by simp [Value.oneCell']) (by unfold maxLen; omega) (by omega) (by simp; omega) ?_; intro v' w1 hown' hgrow _; obtain ⟨g', cap', rfl⟩ := ownsRow_succ hown'; have q1 := grown_box hrow hgrow hv (by omega); have q3 := grown_box hrow hgrow hb1 (by omega); refine hK _ _ ?_; clear hK K; have cO := q1.cell; have fO := q1.frozen; have cR := q3.cell; have fR := q3.frozen; refine wpAny_ready (rs := [7]) (by kernel_rfl) (by simp) ?_; refine AllReady.cons rfl (fun K hK => ?_) AllReady.nil; go_simp
  refine hK _ _ ?_; clear hK K; clear cO fO cR fR; refine wpAny_done (by kernel_rfl) ?_ _; exact close_normal hO9 hv hrow (by omega) hb0 hb2 hb1 hB2 hown' hgrow _
 case hdone =>
  rintro D ys W hD rfl ⟨⟨⟨v, hv, hrow, hlen⟩, hb0, hb2, hb1⟩, hB2⟩ hK; obtain ⟨A, cap, rfl⟩ := ownsRow_slice hrow; have hc := hv.cell; have hc1 := hb1.cell; have hf1 := hb1.frozen; have hBW := hB2; have hDw := Nat.le_trans g1 hD; clear g1 g1O g2 g3 aO a0 a1 a2 a3 hB hD a4; gi_wp2
  have hK' := (KeepsOthers.setCell W ⟨w.heap.size + 1, 0, none⟩ (.slice A (cutsP s fs).length cap)).same D _ hK rfl; refine ⟨by simp, .inl ⟨_, _, rfl, run_takeDeferred hK', ?_⟩⟩; have hc5 := cell_kept (hb1.set _).cell (grownBy_putObj' _ D (.deferred none)) (fun r e => by cases e; exact ⟨_, hK', rfl⟩); refine ⟨.slice A (cutsP s fs).length cap, ?_, _, rfl, ?_, (hBW.setCell (p := ⟨w.heap.size + 1, 0, none⟩) (by simp) _).trans (belowK_b (w := w) (Nat.le_refl _) _ D _ _ hDw hK' rfl rfl)⟩
  · simp [results, Tryz.f40, go_sem, hc5]
  rw [HFE.out]; exact done_row (mkP_map s _ _ (cutsFrom_ok s fs 0 (Nat.zero_le _))) hlen (ownsRow_putObj (grown_own hrow (b := w.heap.size + 1) (by omega) _) (.deferred none) hK' rfl) (by omega)
 case hstop =>
  rintro D c pre W hD hpre ⟨⟨v, hv, hrow, rfl, hlen⟩, hB2⟩ hK; have hDw := Nat.le_trans g1 hD; clear g1 g1O g2 g3 aO a0 a1 a2 a3 hB hD a4; gi_wp2
  refine ⟨by simp, .inl ⟨_, _, rfl, run_takeDeferred hK, ?_⟩⟩; have hc5 := cell_kept hv.cell (grownBy_putObj' _ D (.deferred none)) (fun r e => by cases e; exact ⟨_, hK, rfl⟩); refine ⟨v, ?_, v, rfl, ?_, hB2.trans (belowK_b (w := w) (Nat.le_refl _) _ D _ _ hDw hK rfl rfl)⟩
  · simp [results, Tryz.f40, go_sem, hc5]
  obtain ⟨f1, f2⟩ := fieldsG_gt (mkP_map s _ _ (cutsFrom_ok s fs 0 (Nat.zero_le _))) pre hpre hlen; rw [HFE.out, f1, f2]; exact (ownsRow_putObj hrow (.deferred none) hK rfl).mono (by omega)
end Go.Proofs.YtmbacdkpgfbclaaGreatDoor
