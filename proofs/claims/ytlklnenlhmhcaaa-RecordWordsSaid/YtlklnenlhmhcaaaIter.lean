/- The iterator of record.runs: it hands the runs of a text to whatever round; conditions: the text below 2^47 + 64 bytes. -/
import Derived.RangeFuncNested
import Derived.RangeFuncBound
import Derived.RangeFuncCalls
import Derived.RangeFuncLeaves
import Derived.RangeFuncBox
import Derived.Shelf.Abstract
import Derived.Shelf.RegionOpen
import Derived.WalkKit
import Derived.OwnWalkIn
import Derived.TacticsInMore
import Derived.LoopNIn
import Derived.LoopIn
import Derived.Maps.AppendAt
import Derived.Lib.Hide
import Derived.Test.YtlklnenlhmhcaaaRuns
namespace Go.Proofs.Ytlklnenlhmhcaaa
open Go.RowKit Go.Shelf Go.Proofs.YtlklnenlhmhcaaaW.PrintWords
attribute [local go_sem] Oper.semAt_some

abbrev encP {s : ByteArray} (p : Pc s) : Array Value := #[.int .i64 (p.1.1 : Int), .int .i64 (p.1.2 : Int)]

theorem blank_same (a : Int) (w : World) : Calls Try.prog 9 #[.int .u8 a] w fun e w' => e = .returned (.bool (blI a)) ∧ w = w' := by
  unfold blI
  by_cases c2 : a = 32
  · rw [if_pos c2]
    have c2b0 : (a == 32) = true := beq_iff_eq.mpr c2
    clear c2
    go_enter Try.func9, Try.ntmps9
    go_wp2
    go_ret
    exact ⟨rfl, rfl⟩
  · rw [if_neg c2]
    have c2b0 : (a == 32) = false := beq_eq_false_iff_ne.mpr c2
    clear c2
    by_cases c3 : a ≥ 9
    · rw [if_pos c3]
      have c3b0 : decide (9 ≤ a) = true := decide_eq_true c3
      clear c3
      go_enter Try.func9, Try.ntmps9
      go_wp2
      go_ret
      exact ⟨rfl, rfl⟩
    · rw [if_neg c3]
      have c3b0 : decide (9 ≤ a) = false := decide_eq_false c3
      clear c3
      go_enter Try.func9, Try.ntmps9
      go_wp2
      go_ret
      exact ⟨rfl, rfl⟩
/-- What blank answers of the byte at place i. -/
theorem blank_at (s : ByteArray) (i : Nat) (hi : i < s.size) (b : Bool) (h : blAt s i = b) (n : Nat) (w : World) :
    CallsIn Fence.wide n Try.prog 9 #[.int .u8 (s[i].toNat : Int)] w fun e w' => e = .returned (.bool b) ∧ w = w' := by
  have e : bt s (i : Int) = (s[i].toNat : Int) := by
    unfold bt
    simp [hi]
  refine callsIn_wide.2 ?_
  rw [← e, ← h]
  exact blank_same _ w

/-- What a round that goes on keeps: what lay below n₀, and the iterator's own box. -/
def KpB (Bn n₀ : Nat) (W W' : World) : Prop := Below n₀ W W' ∧ ∀ v, W.cell? ⟨Bn, 0, none⟩ = some v → W'.cell? ⟨Bn, 0, none⟩ = some v
theorem kpB_t {Bn n₀ : Nat} {A B C : World} (h : KpB Bn n₀ A B) (k : KpB Bn n₀ B C) : KpB Bn n₀ A C := ⟨h.1.trans k.1, fun v hv => k.2 v (h.2 v hv)⟩
theorem kpB_b {Bn n₀ : Nat} {w : World} (hn : n₀ ≤ w.heap.size) (W : World) (l : Nat) (o o' : Obj) (hl : w.heap.size ≤ l) (h : W.heap[l]? = some o) (ho : o.isCells = false) (hw : o.isWalk = false) : KpB Bn n₀ W (W.putObj l o') :=
  ⟨belowK_b hn W l o o' hl h ho hw, fun v hv => cell_kept hv (grownBy_putObj' _ l o') (fun r e => by cases e; exact ⟨_, h, ho⟩)⟩

def InRun (s : ByteArray) (xs pre : List (Pc s)) (i j : Nat) : Prop := ∃ rest x, xs = pre ++ x :: rest ∧ x.1 = (i, runEnd s i) ∧ rest.map (fun p => p.1) = runsFrom s (runEnd s i) ∧ i ≤ j ∧ j ≤ s.size ∧ runEnd s j = runEnd s i
def AtRuns (s : ByteArray) (xs pre : List (Pc s)) (i : Nat) : Prop := ∃ rest, xs = pre ++ rest ∧ rest.map (fun p => p.1) = runsFrom s i ∧ i ≤ s.size

set_option maxRecDepth 100000 in
set_option maxHeartbeats 2000000 in
theorem runs1_in (l Bn n₀ : Nat) (s : ByteArray) (hs : s.size ≤ 140737488355392) (xs : List (Pc s)) (hxs : xs.map (fun p => p.1) = runs s) (J Jx : List (Pc s) → World → Prop)
    (hY : ∀ pre x W, J pre W → pre.length < xs.length → YieldAt Fence.wide 4 Try.prog l (encP x) W fun e W' =>
      (e = .returned (.bool true) ∧ J (pre ++ [x]) W' ∧ KpB Bn n₀ W W') ∨ (e = .returned (.bool false) ∧ Jx (pre ++ [x]) W'))
    (W : World) (hBn : W.cell? ⟨Bn, 0, none⟩ = some (.string s)) (h0 : J [] W) :
    CallsIn Fence.wide 5 Try.prog 12 #[.func (.yield l) #[] #[], .pointer (some ⟨Bn, 0, none⟩)] W fun e W' => (∃ v, e = .returned v) ∧
      ((∃ ys, ys = xs ∧ J ys W') ∨ (∃ pre, pre <+: xs ∧ Jx pre W')) := by
  refine callsIn_of_wp Try.func12 rfl trivial ?_ rfl
  simp only [Try.ntmps12, List.size_toArray, List.length_cons, List.length_nil, Nat.reduceAdd, Nat.reduceSub, Array.replicate_succ, Array.replicate_zero, List.push_toArray, List.append_toArray, List.nil_append, List.cons_append]
  gi_wp2
  gi_loopw [3, 4] (fun v _ wr => ∃ (pre : List (Pc s)) (i : Nat), v = .int .i64 (i : Int) ∧ Hid (AtRuns s xs pre i) ∧ J pre wr ∧ wr.cell? ⟨Bn, 0, none⟩ = some (.string s))
    (fun v _ _ => s.size - (intOf v).toNat)
  case atStart => exact ⟨[], 0, rfl, ⟨xs, rfl, hxs, Nat.zero_le _⟩, h0, hBn⟩
  case round =>
    obtain ⟨pre, i, rfl, hA, hJs, hc⟩ := hrel
    by_cases hi : i < s.size
    · cases hb : blAt s i with
      | true =>
        have hcall := blank_at s i hi true hb
        gi_wp2_with (refine ⟨trivial, ?_⟩; gi_at_call 9; refine (hcall _ _).mono ?_; rintro e w' ⟨rfl, rfl⟩)
        go_roundw
        case rel =>
          refine ⟨pre, i + 1, by go_num, ?_, hJs, hc⟩
          obtain ⟨rest, h1, h2, h3⟩ := hA.out
          exact ⟨rest, h1, by rw [h2, runsFrom_blank hi hb], by omega⟩
        case measure => simp [intOf]; omega
      | false =>
        have hcall := blank_at s i hi false hb
        gi_wp2_with (refine ⟨trivial, ?_⟩; gi_at_call 9; refine (hcall _ _).mono ?_; rintro e w' ⟨rfl, rfl⟩)
        clear hcall
        obtain ⟨wo, rfl⟩ : ∃ wo : World, wo = wr := ⟨_, rfl⟩
        gi_loopw [3] (fun v w2 => ∃ (j : Nat), v = .int .i64 (j : Int) ∧ Hid (InRun s xs pre i j) ∧ w2 = wo)
          (fun v _ => s.size - (intOf v).toNat)
        case atStart =>
          refine ⟨i, rfl, ?_, rfl⟩
          obtain ⟨rest, h1, h2, h3⟩ := hA.out
          rw [runsFrom_run hi hb] at h2
          cases rest with
          | nil => simp at h2
          | cons x rest =>
            simp only [List.map_cons, List.cons.injEq] at h2
            exact ⟨rest, x, h1, h2.1, h2.2, Nat.le_refl _, by omega, rfl⟩
        case round =>
          obtain ⟨j, rfl, hR, rfl⟩ := hrel
          by_cases hin : j < s.size ∧ blAt s j = false
          · obtain ⟨hj, hbj⟩ := hin
            have hcall := blank_at s j hj false hbj
            gi_wp2_with (refine ⟨trivial, ?_⟩; gi_at_call 9; refine (hcall _ _).mono ?_; rintro e w' ⟨rfl, rfl⟩)
            go_roundw
            case rel =>
              obtain ⟨rest, x, h1, h2, h3, h4, h5, h6⟩ := hR.out
              exact ⟨j + 1, by go_num, ⟨rest, x, h1, h2, h3, by omega, by omega, by rw [← h6, runEnd_go hj hbj]⟩, by first | rfl | trivial⟩
            case measure => simp [intOf]; omega
          · obtain ⟨rest, x, h1, h2, h3, h4, h5, h6⟩ := hR.out
            have ej := runEnd_stop hin
            rw [ej] at h6
            rw [← h6] at h2 h3
            have hex : encP x = #[.int .i64 (i : Int), .int .i64 (j : Int)] := by simp [encP, h2]
            have hjl := h5
            have hij : i < j := by have := runEnd_gt s i hi hb; omega
            have hYx := hY pre x _ hJs (by rw [h1]; simp)
            rw [hex] at hYx
            have H1 := Lib.hid h1; have H2 := Lib.hid h2; have H3 := Lib.hid h3; have H6 := Lib.hid h6
            clear h1 h2 h3 h4 h5 h6 ej hex hY hA hR hxs
            obtain ⟨fn, tmps, assign, body, hy, hR⟩ := hYx
            by_cases hj : j < s.size
            · have hbj : blAt s j = true := by cases hb2 : blAt s j with | true => rfl | false => exact absurd ⟨hj, hb2⟩ hin
              have hcall := blank_at s j hj true hbj
              clear hin
              gi_wp2_with (refine ⟨trivial, ?_⟩; gi_at_call 9; refine (hcall _ _).mono ?_; rintro e w' ⟨rfl, rfl⟩)
              refine hR.mono ?_
              rintro e W3 (⟨rfl, hJ3, hk3⟩ | ⟨rfl, hJx3⟩)
              · have hc3 := hk3.2 _ hc
                gi_wp2
                go_roundw
                case rel => exact ⟨pre ++ [x], j, by first | rfl | go_num, ⟨rest, by rw [H1.out]; simp, H3.out, hjl⟩, hJ3, hc3⟩
                case measure => simp [intOf]; omega
              · gi_wp2
                refine bodyPost_ret (results_none rfl _ _ _) rfl ?_
                exact ⟨⟨_, rfl⟩, .inr ⟨pre ++ [x], ⟨rest, by rw [H1.out]; simp⟩, hJx3⟩⟩
            · clear hin
              gi_wp2
              refine ⟨trivial, ?_⟩
              gi_wp2
              refine hR.mono ?_
              rintro e W3 (⟨rfl, hJ3, hk3⟩ | ⟨rfl, hJx3⟩)
              · have hc3 := hk3.2 _ hc
                gi_wp2
                go_roundw
                case rel => exact ⟨pre ++ [x], j, by first | rfl | go_num, ⟨rest, by rw [H1.out]; simp, H3.out, hjl⟩, hJ3, hc3⟩
                case measure => simp [intOf]; omega
              · gi_wp2
                refine bodyPost_ret (results_none rfl _ _ _) rfl ?_
                exact ⟨⟨_, rfl⟩, .inr ⟨pre ++ [x], ⟨rest, by rw [H1.out]; simp⟩, hJx3⟩⟩
    · obtain ⟨rest, h1, h2, h3⟩ := hA.out
      have e : i = s.size := by omega
      rw [runsFrom_end (by omega)] at h2
      have e2 : rest = [] := List.map_eq_nil_iff.1 h2
      have e3 : pre = xs := by rw [h1, e2, List.append_nil]
      clear h1 h2 h3 e e2
      gi_wp2
      go_end0
      exact ⟨⟨_, rfl⟩, .inl ⟨pre, e3, hJs⟩⟩
end Go.Proofs.Ytlklnenlhmhcaaa
