/- The iterators of record.runs, record.single and record.cuts: they hand the pieces of a text to whatever round; conditions: the text below 2^32 - 15 bytes for cuts, 2^47 + 64 for the others; the separator of cuts not empty. -/
import Derived.RangeFuncNested
import Derived.RangeFuncBound
import Derived.RangeFuncCalls
import Derived.RangeFuncLeaves
import Derived.RangeFuncBox
import Derived.Shelf.Abstract
import Derived.Shelf.RegionOpen
import Derived.WalkKit
import Derived.OwnWalkIn
import Derived.TacticsInMore
import Derived.LoopNIn
import Derived.LoopIn
import Derived.Maps.AppendAt
import Derived.Lib.Hide
import Derived.Test.YtlklnenlhmhcaaaDoorRuns
import Derived.Test.YtlklnenlhmhcaaaDoorShelf
namespace Go.Proofs.YtlklnenlhmhcaaaDoor
open Go.RowKit Go.Shelf Go.Proofs.YtlklnenlhmhcaaaDoorW.PrintWords
attribute [local go_sem] Oper.semAt_some

abbrev encP {s : ByteArray} {E : Nat} (p : Pc s E) : Array Value := #[.int .i64 (p.1.1 : Int), .int .i64 (p.1.2 : Int)]

theorem blank_same (a : Int) (w : World) : Calls Tryd.prog 10 #[.int .u8 a] w fun e w' => e = .returned (.bool (blI a)) ∧ w = w' := by
  unfold blI
  by_cases c2 : a = 32
  · rw [if_pos c2]
    have c2b0 : (a == 32) = true := beq_iff_eq.mpr c2
    clear c2
    go_enter Tryd.func10, Tryd.ntmps10
    go_wp2
    go_ret
    exact ⟨rfl, rfl⟩
  · rw [if_neg c2]
    have c2b0 : (a == 32) = false := beq_eq_false_iff_ne.mpr c2
    clear c2
    by_cases c3 : a ≥ 9
    · rw [if_pos c3]
      have c3b0 : decide (9 ≤ a) = true := decide_eq_true c3
      clear c3
      go_enter Tryd.func10, Tryd.ntmps10
      go_wp2
      go_ret
      exact ⟨rfl, rfl⟩
    · rw [if_neg c3]
      have c3b0 : decide (9 ≤ a) = false := decide_eq_false c3
      clear c3
      go_enter Tryd.func10, Tryd.ntmps10
      go_wp2
      go_ret
      exact ⟨rfl, rfl⟩
/-- What blank answers of the byte at place i. -/
theorem blank_at (s : ByteArray) (i : Nat) (hi : i < s.size) (b : Bool) (h : blAt s i = b) (n : Nat) (w : World) :
    CallsIn Fence.wide n Tryd.prog 10 #[.int .u8 (s[i].toNat : Int)] w fun e w' => e = .returned (.bool b) ∧ w = w' := by
  have e : bt s (i : Int) = (s[i].toNat : Int) := by
    unfold bt
    simp [hi]
  refine callsIn_wide.2 ?_
  rw [← e, ← h]
  exact blank_same _ w

def InRun (s : ByteArray) {E : Nat} (xs pre : List (Pc s E)) (i j : Nat) : Prop := ∃ rest x, xs = pre ++ x :: rest ∧ x.1 = (i, runEnd s i) ∧ rest.map (fun p => p.1) = runsFrom s (runEnd s i) ∧ i ≤ j ∧ j ≤ s.size ∧ runEnd s j = runEnd s i
def AtRuns (s : ByteArray) {E : Nat} (xs pre : List (Pc s E)) (i : Nat) : Prop := ∃ rest, xs = pre ++ rest ∧ rest.map (fun p => p.1) = runsFrom s i ∧ i ≤ s.size

set_option maxRecDepth 100000 in
set_option maxHeartbeats 2000000 in
theorem runs1_in {E : Nat} (l Bn O : Nat) (s : ByteArray) (hs : s.size ≤ 140737488355392) (hBO : Bn < O) (xs : List (Pc s E)) (hxs : xs.map (fun p => p.1) = runs s) (J Jx : List (Pc s E) → World → Prop)
    (hY : ∀ pre x W, J pre W → pre.length < xs.length → YieldAt Fence.wide 4 Tryd.prog l (encP x) W fun e W' =>
      (e = .returned (.bool true) ∧ J (pre ++ [x]) W' ∧ Below O W W') ∨ (e = .returned (.bool false) ∧ Jx (pre ++ [x]) W'))
    (W : World) (hBn : W.cell? ⟨Bn, 0, none⟩ = some (.string s)) (h0 : J [] W) :
    CallsIn Fence.wide 5 Tryd.prog 15 #[.func (.yield l) #[] #[], .pointer (some ⟨Bn, 0, none⟩)] W fun e W' => (∃ v, e = .returned v) ∧
      ((∃ ys, ys = xs ∧ J ys W') ∨ (∃ pre, pre <+: xs ∧ Jx pre W')) := by
  refine callsIn_of_wp Tryd.func15 rfl trivial ?_ rfl
  simp only [Tryd.ntmps15, List.size_toArray, List.length_cons, List.length_nil, Nat.reduceAdd, Nat.reduceSub, Array.replicate_succ, Array.replicate_zero, List.push_toArray, List.append_toArray, List.nil_append, List.cons_append]
  gi_wp2
  gi_loopw [3, 4] (fun v _ wr => ∃ (pre : List (Pc s E)) (i : Nat), v = .int .i64 (i : Int) ∧ Hid (AtRuns s xs pre i) ∧ J pre wr ∧ wr.cell? ⟨Bn, 0, none⟩ = some (.string s))
    (fun v _ _ => s.size - (intOf v).toNat)
  case atStart => exact ⟨[], 0, rfl, ⟨xs, rfl, hxs, Nat.zero_le _⟩, h0, hBn⟩
  case round =>
    obtain ⟨pre, i, rfl, hA, hJs, hc⟩ := hrel
    by_cases hi : i < s.size
    · cases hb : blAt s i with
      | true =>
        have hcall := blank_at s i hi true hb
        gi_wp2_with (refine ⟨trivial, ?_⟩; gi_at_call 10; refine (hcall _ _).mono ?_; rintro e w' ⟨rfl, rfl⟩)
        go_roundw
        case rel =>
          refine ⟨pre, i + 1, by go_num, ?_, hJs, hc⟩
          obtain ⟨rest, h1, h2, h3⟩ := hA.out
          exact ⟨rest, h1, by rw [h2, runsFrom_blank hi hb], by omega⟩
        case measure => simp [intOf]; omega
      | false =>
        have hcall := blank_at s i hi false hb
        gi_wp2_with (refine ⟨trivial, ?_⟩; gi_at_call 10; refine (hcall _ _).mono ?_; rintro e w' ⟨rfl, rfl⟩)
        clear hcall
        obtain ⟨wo, rfl⟩ : ∃ wo : World, wo = wr := ⟨_, rfl⟩
        gi_loopw [3] (fun v w2 => ∃ (j : Nat), v = .int .i64 (j : Int) ∧ Hid (InRun s xs pre i j) ∧ w2 = wo)
          (fun v _ => s.size - (intOf v).toNat)
        case atStart =>
          refine ⟨i, rfl, ?_, rfl⟩
          obtain ⟨rest, h1, h2, h3⟩ := hA.out
          rw [runsFrom_run hi hb] at h2
          cases rest with
          | nil => simp at h2
          | cons x rest =>
            simp only [List.map_cons, List.cons.injEq] at h2
            exact ⟨rest, x, h1, h2.1, h2.2, Nat.le_refl _, by omega, rfl⟩
        case round =>
          obtain ⟨j, rfl, hR, rfl⟩ := hrel
          by_cases hin : j < s.size ∧ blAt s j = false
          · obtain ⟨hj, hbj⟩ := hin
            have hcall := blank_at s j hj false hbj
            gi_wp2_with (refine ⟨trivial, ?_⟩; gi_at_call 10; refine (hcall _ _).mono ?_; rintro e w' ⟨rfl, rfl⟩)
            go_roundw
            case rel =>
              obtain ⟨rest, x, h1, h2, h3, h4, h5, h6⟩ := hR.out
              exact ⟨j + 1, by go_num, ⟨rest, x, h1, h2, h3, by omega, by omega, by rw [← h6, runEnd_go hj hbj]⟩, by first | rfl | trivial⟩
            case measure => simp [intOf]; omega
          · obtain ⟨rest, x, h1, h2, h3, h4, h5, h6⟩ := hR.out
            have ej := runEnd_stop hin
            rw [ej] at h6
            rw [← h6] at h2 h3
            have hex : encP x = #[.int .i64 (i : Int), .int .i64 (j : Int)] := by simp [encP, h2]
            have hjl := h5
            have hij : i < j := by have := runEnd_gt s i hi hb; omega
            have hYx := hY pre x _ hJs (by rw [h1]; simp)
            rw [hex] at hYx
            have H1 := Lib.hid h1; have H2 := Lib.hid h2; have H3 := Lib.hid h3; have H6 := Lib.hid h6
            clear h1 h2 h3 h4 h5 h6 ej hex hY hA hR hxs
            obtain ⟨fn, tmps, assign, body, hy, hR⟩ := hYx
            by_cases hj : j < s.size
            · have hbj : blAt s j = true := by cases hb2 : blAt s j with | true => rfl | false => exact absurd ⟨hj, hb2⟩ hin
              have hcall := blank_at s j hj true hbj
              clear hin
              gi_wp2_with (refine ⟨trivial, ?_⟩; gi_at_call 10; refine (hcall _ _).mono ?_; rintro e w' ⟨rfl, rfl⟩)
              refine hR.mono ?_
              rintro e W3 (⟨rfl, hJ3, hk3⟩ | ⟨rfl, hJx3⟩)
              · have hc3 := (hk3.cell (p := ⟨Bn, 0, none⟩) hBO).trans hc
                gi_wp2
                go_roundw
                case rel => exact ⟨pre ++ [x], j, by first | rfl | go_num, ⟨rest, by rw [H1.out]; simp, H3.out, hjl⟩, hJ3, hc3⟩
                case measure => simp [intOf]; omega
              · gi_wp2
                refine bodyPost_ret (results_none rfl _ _ _) rfl ?_
                exact ⟨⟨_, rfl⟩, .inr ⟨pre ++ [x], ⟨rest, by rw [H1.out]; simp⟩, hJx3⟩⟩
            · clear hin
              gi_wp2
              refine ⟨trivial, ?_⟩
              gi_wp2
              refine hR.mono ?_
              rintro e W3 (⟨rfl, hJ3, hk3⟩ | ⟨rfl, hJx3⟩)
              · have hc3 := (hk3.cell (p := ⟨Bn, 0, none⟩) hBO).trans hc
                gi_wp2
                go_roundw
                case rel => exact ⟨pre ++ [x], j, by first | rfl | go_num, ⟨rest, by rw [H1.out]; simp, H3.out, hjl⟩, hJ3, hc3⟩
                case measure => simp [intOf]; omega
              · gi_wp2
                refine bodyPost_ret (results_none rfl _ _ _) rfl ?_
                exact ⟨⟨_, rfl⟩, .inr ⟨pre ++ [x], ⟨rest, by rw [H1.out]; simp⟩, hJx3⟩⟩
    · obtain ⟨rest, h1, h2, h3⟩ := hA.out
      have e : i = s.size := by omega
      rw [runsFrom_end (by omega)] at h2
      have e2 : rest = [] := List.map_eq_nil_iff.1 h2
      have e3 : pre = xs := by rw [h1, e2, List.append_nil]
      clear h1 h2 h3 e e2
      gi_wp2
      go_end0
      exact ⟨⟨_, rfl⟩, .inl ⟨pre, e3, hJs⟩⟩

/-! ### single -/
def AtSg (s : ByteArray) {E : Nat} (xs pre : List (Pc s E)) (i : Nat) : Prop := ∃ rest, xs = pre ++ rest ∧ rest.map (fun p => p.1) = singlesFrom s i ∧ i ≤ s.size
set_option maxRecDepth 100000 in
set_option maxHeartbeats 2000000 in
theorem single1_in {E : Nat} (l Bn O : Nat) (s : ByteArray) (hs : s.size ≤ 140737488355392) (_ : Bn < O) (xs : List (Pc s E)) (hxs : xs.map (fun p => p.1) = singlesFrom s 0) (J Jx : List (Pc s E) → World → Prop)
    (hY : ∀ pre x W, J pre W → pre.length < xs.length → YieldAt Fence.wide 4 Tryd.prog l (encP x) W fun e W' =>
      (e = .returned (.bool true) ∧ J (pre ++ [x]) W' ∧ Below O W W') ∨ (e = .returned (.bool false) ∧ Jx (pre ++ [x]) W'))
    (W : World) (hBn : W.cell? ⟨Bn, 0, none⟩ = some (.string s)) (h0 : J [] W) :
    CallsIn Fence.wide 5 Tryd.prog 16 #[.func (.yield l) #[] #[], .pointer (some ⟨Bn, 0, none⟩)] W fun e W' => (∃ v, e = .returned v) ∧
      ((∃ ys, ys = xs ∧ J ys W') ∨ (∃ pre, pre <+: xs ∧ Jx pre W')) := by
  refine callsIn_of_wp Tryd.func16 rfl trivial ?_ rfl
  simp only [Tryd.ntmps16, List.size_toArray, List.length_cons, List.length_nil, Nat.reduceAdd, Nat.reduceSub, Array.replicate_succ, Array.replicate_zero, List.push_toArray, List.append_toArray, List.nil_append, List.cons_append]
  gi_wp2
  gi_loopw [6] (fun v wr => ∃ (pre : List (Pc s E)) (i : Nat), v = .int .i64 (i : Int) ∧ Hid (AtSg s xs pre i) ∧ J pre wr)
    (fun v _ => s.size - (intOf v).toNat)
  case atStart => exact ⟨[], 0, rfl, ⟨xs, rfl, hxs, Nat.zero_le _⟩, h0⟩
  case round =>
    obtain ⟨pre, i, rfl, hA, hJs⟩ := hrel
    by_cases hi : i < s.size
    · obtain ⟨rest, h1, h2, h3⟩ := hA.out
      rw [singlesFrom_go hi] at h2
      cases rest with
      | nil => simp at h2
      | cons x rest =>
        simp only [List.map_cons, List.cons.injEq] at h2
        obtain ⟨h2, h4⟩ := h2
        have hex : encP x = #[.int .i64 (i : Int), .int .i64 ((i : Int) + 1)] := by simp [encP, h2]
        have hYx := hY pre x _ hJs (by rw [h1]; simp)
        rw [hex] at hYx
        have H1 := Lib.hid h1; have H4 := Lib.hid h4
        clear h1 h2 h3 h4 hex hY hA hxs
        obtain ⟨fn, tmps, assign, body, hy, hR⟩ := hYx
        gi_wp2
        refine hR.mono ?_
        rintro e W3 (⟨rfl, hJ3, hk3⟩ | ⟨rfl, hJx3⟩)
        · gi_wp2
          go_roundw
          case rel => exact ⟨pre ++ [x], i + 1, by first | rfl | go_num, ⟨rest, by rw [H1.out]; simp, H4.out, hi⟩, hJ3⟩
          case measure => simp [intOf]; omega
        · gi_wp2
          refine bodyPost_ret (results_none rfl _ _ _) rfl ?_
          exact ⟨⟨_, rfl⟩, .inr ⟨pre ++ [x], ⟨rest, by rw [H1.out]; simp⟩, hJx3⟩⟩
    · obtain ⟨rest, h1, h2, h3⟩ := hA.out
      rw [singlesFrom_end hi] at h2
      have e2 : rest = [] := List.map_eq_nil_iff.1 h2
      have e3 : pre = xs := by rw [h1, e2, List.append_nil]
      have e : i = s.size := by omega
      clear h1 h2 h3 e2 hi hY
      gi_wp2
      go_end0
      exact ⟨⟨_, rfl⟩, .inl ⟨pre, e3, hJs⟩⟩

/-! ### cuts -/
def AtCt (s sep : ByteArray) {E : Nat} (xs pre : List (Pc s E)) (i : Nat) : Prop := ∃ rest, xs = pre ++ rest ∧ rest.map (fun p => p.1) = cutsFrom s sep i ∧ i ≤ s.size
set_option maxRecDepth 100000 in
set_option maxHeartbeats 2000000 in
theorem cuts1_in {E : Nat} (l Bn O : Nat) (m : Int) (s sep : ByteArray) (hs : s.size < 4294967281) (hp : 1 ≤ sep.size) (hBO : Bn + 1 < O) (xs : List (Pc s E)) (hxs : xs.map (fun p => p.1) = cutsFrom s sep 0) (J Jx : List (Pc s E) → World → Prop)
    (hJd : ∀ pre W, J pre W → J pre W.drew)
    (hY : ∀ pre x W, J pre W → pre.length < xs.length → YieldAt Fence.wide 4 Tryd.prog l (encP x) W fun e W' =>
      (e = .returned (.bool true) ∧ J (pre ++ [x]) W' ∧ Below O W W') ∨ (e = .returned (.bool false) ∧ Jx (pre ++ [x]) W'))
    (W : World) (hBn : W.cell? ⟨Bn, 0, none⟩ = some (.string s)) (hBs : W.cell? ⟨Bn + 1, 0, none⟩ = some (.string sep)) (hm : W.cell? ⟨0, 0, none⟩ = some (.int .i64 m)) (h0 : J [] W) :
    CallsIn Fence.wide 5 Tryd.prog 17 #[.func (.yield l) #[] #[], .pointer (some ⟨Bn, 0, none⟩), .pointer (some ⟨Bn + 1, 0, none⟩)] W fun e W' => (∃ v, e = .returned v) ∧
      ((∃ ys, ys = xs ∧ J ys W') ∨ (∃ pre, pre <+: xs ∧ Jx pre W')) := by
  refine callsIn_of_wp Tryd.func17 rfl trivial ?_ rfl
  simp only [Tryd.ntmps17, List.size_toArray, List.length_cons, List.length_nil, Nat.reduceAdd, Nat.reduceSub, Array.replicate_succ, Array.replicate_zero, List.push_toArray, List.append_toArray, List.nil_append, List.cons_append]
  gi_wp2
  gi_loopw [4] (fun v wr => ∃ (pre : List (Pc s E)) (i : Nat), v = .int .i64 (i : Int) ∧ Hid (AtCt s sep xs pre i) ∧ J pre wr ∧ wr.cell? ⟨Bn, 0, none⟩ = some (.string s) ∧ wr.cell? ⟨Bn + 1, 0, none⟩ = some (.string sep) ∧ wr.cell? ⟨0, 0, none⟩ = some (.int .i64 m))
    (fun v _ => s.size - (intOf v).toNat)
  case atStart => exact ⟨[], 0, rfl, ⟨xs, rfl, hxs, Nat.zero_le _⟩, h0, hBn, hBs, hm⟩
  case round =>
    clear hBn hBs hm
    obtain ⟨pre, i, rfl, hA, hJs, hc, hc2, hm⟩ := hrel
    obtain ⟨rest, h1, h2, h3⟩ := hA.out
    have hcall : Calls Tryd.prog 18 #[.string (s.extract i s.size), .string sep] wr.drew fun e w' => e = .returned (.int .i64 (ixAt s sep i)) ∧ wr.drew = w' := (Tryd.strings_Index (s.extract i s.size) sep m wr.drew (by simp; omega) hm).mono fun e w' h => ⟨h.1, h.2.symm⟩
    have hcall := fun n => callsIn_wide (n := n).2 hcall
    have hJd2 := hJd pre wr hJs
    rcases ixAt_cases s sep i h3 with hx | ⟨x, hx, hroom⟩
    · rw [hx] at hcall
      rw [cutsFrom_miss hx] at h2
      cases rest with
      | nil => simp at h2
      | cons y rest =>
        simp only [List.map_cons, List.cons.injEq, List.map_eq_nil_iff] at h2
        obtain ⟨h2, rfl⟩ := h2
        have hex : encP y = #[.int .i64 (i : Int), .int .i64 (s.size : Int)] := by simp [encP, h2]
        have hYx := hY pre y _ hJd2 (by rw [h1]; simp)
        rw [hex] at hYx
        have H1 := Lib.hid h1
        clear h1 h2 hex hY hA hxs
        obtain ⟨fn, tmps, assign, body, hy, hR⟩ := hYx
        gi_wp2
        gi_region_with (refine ⟨trivial, ?_⟩; gi_at_call 18; refine (hcall _).mono ?_; rintro e w' ⟨rfl, rfl⟩)
        all_goals
          gi_wp2
          refine hR.mono ?_
          rintro e W3 (⟨rfl, hJ3, hk3⟩ | ⟨rfl, hJx3⟩)
          · gi_wp2
            refine bodyPost_ret (results_none rfl _ _ _) rfl ?_
            exact ⟨⟨_, rfl⟩, .inl ⟨pre ++ [y], by rw [H1.out], hJ3⟩⟩
          · gi_wp2
            refine bodyPost_ret (results_none rfl _ _ _) rfl ?_
            exact ⟨⟨_, rfl⟩, .inr ⟨pre ++ [y], ⟨[], by rw [H1.out]; simp⟩, hJx3⟩⟩
    · rw [hx] at hcall
      rw [cutsFrom_hit hp hx hroom] at h2
      cases rest with
      | nil => simp at h2
      | cons y rest =>
        simp only [List.map_cons, List.cons.injEq] at h2
        obtain ⟨h2, h4⟩ := h2
        have hex : encP y = #[.int .i64 (i : Int), .int .i64 ((i : Int) + (x : Int))] := by simp [encP, h2]
        have hYx := hY pre y _ hJd2 (by rw [h1]; simp)
        rw [hex] at hYx
        have H1 := Lib.hid h1; have H4 := Lib.hid h4
        clear h1 h2 h4 hex hY hA hxs
        obtain ⟨fn, tmps, assign, body, hy, hR⟩ := hYx
        gi_wp2
        gi_region_with (refine ⟨trivial, ?_⟩; gi_at_call 18; refine (hcall _).mono ?_; rintro e w' ⟨rfl, rfl⟩)
        all_goals
          gi_wp2
          refine hR.mono ?_
          rintro e W3 (⟨rfl, hJ3, hk3⟩ | ⟨rfl, hJx3⟩)
          · have hc' := (hk3.cell (p := ⟨Bn, 0, none⟩) (by show Bn < O; omega)).trans hc
            have hc2' := (hk3.cell (p := ⟨Bn + 1, 0, none⟩) hBO).trans hc2
            have hm' := (hk3.cell (p := ⟨0, 0, none⟩) (by show 0 < O; omega)).trans hm
            gi_wp2
            go_roundw
            case rel => exact ⟨pre ++ [y], i + x + sep.size, by first | rfl | go_num, ⟨rest, by rw [H1.out]; simp, H4.out, hroom⟩, hJ3, hc', hc2', hm'⟩
            case measure => simp [intOf]; omega
          · gi_wp2
            refine bodyPost_ret (results_none rfl _ _ _) rfl ?_
            exact ⟨⟨_, rfl⟩, .inr ⟨pre ++ [y], ⟨rest, by rw [H1.out]; simp⟩, hJx3⟩⟩
end Go.Proofs.YtlklnenlhmhcaaaDoor
