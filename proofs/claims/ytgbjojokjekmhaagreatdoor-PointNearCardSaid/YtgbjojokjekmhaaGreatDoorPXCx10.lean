/- The machine's side of a law, printed by a program of this session out of the translation; conditions: none. -/
import Derived.Test.YtgbjojokjekmhaaGreatDoorPXCx0
import Derived.Test.YtgbjojokjekmhaaGreatDoorPXCx8
import Derived.Test.YtgbjojokjekmhaaGreatDoorPXCx9
namespace Go.Proofs.YtgbjojokjekmhaaGreatDoor.PXC
open Go.Proofs.YtgbjojokjekmhaaGreatDoor
open Go.RowKit Go.Proofs.YtgbjojokjekmhaaGreatDoorW.PrintWords Go.Proofs.YtgbjojokjekmhaaGreatDoorW.PrintLast Go.Proofs.YtgbjojokjekmhaaGreatDoorW.PrintMore
attribute [local go_sem] max2_int min2_int max_two min_two max_three min_three max_four min_four   -- for this text's walks alone
set_option linter.unusedVariables false
set_option linter.unusedSimpArgs false

/-! ### point_power: function 46 -/
def point_power.f (a0 : ByteArray) (a1 : Int) (a2 : Int) (a3 : Bool) : Option (ByteArray) := if 0 ≤ 1 then (if 1 ≤ (a0.size : Int) then (if (a0.size : Int) > 1 then (if 1 + (a0.extract 1 a0.size).size ≤ 9223372036854775807 then (if (a0.extract 0 1).size + ((⟨#[46]⟩ : ByteArray) ++ (a0.extract 1 a0.size)).size ≤ 9223372036854775807 then ((point_tail.f a1 a2).bind fun t283 => (if ((a0.extract 0 1) ++ ((⟨#[46]⟩ : ByteArray) ++ (a0.extract 1 a0.size))).size + t283.size ≤ 9223372036854775807 then (some (((a0.extract 0 1) ++ ((⟨#[46]⟩ : ByteArray) ++ (a0.extract 1 a0.size))) ++ t283)) else (none))) else (none)) else (none)) else (if a3 = true then (if 1 + (a0.extract 1 a0.size).size ≤ 9223372036854775807 then (if (a0.extract 0 1).size + ((⟨#[46]⟩ : ByteArray) ++ (a0.extract 1 a0.size)).size ≤ 9223372036854775807 then ((point_tail.f a1 a2).bind fun t284 => (if ((a0.extract 0 1) ++ ((⟨#[46]⟩ : ByteArray) ++ (a0.extract 1 a0.size))).size + t284.size ≤ 9223372036854775807 then (some (((a0.extract 0 1) ++ ((⟨#[46]⟩ : ByteArray) ++ (a0.extract 1 a0.size))) ++ t284)) else (none))) else (none)) else (none)) else ((point_tail.f a1 a2).bind fun t285 => (if (a0.extract 0 1).size + t285.size ≤ 9223372036854775807 then (some ((a0.extract 0 1) ++ t285)) else (none))))) else (none)) else (none)
set_option maxHeartbeats 8000000 in
set_option maxRecDepth 100000 in
theorem point_power.calls (a0 : ByteArray) (a1 : Int) (a2 : Int) (a3 : Bool) (r : ByteArray) (w : World) (h : point_power.f a0 a1 a2 a3 = some r) (HG : Aside0 (GW w) := by exact pz5) :
    Calls Tryz.prog 46 #[.string a0, .int .i64 a1, .int .u8 a2, .bool a3] w fun e w' => e = .returned (.string r) ∧ Below w.heap.size w w' := by
  have HB := Aside0.mk (Below.refl w.heap.size w); have H := h; clear h; unfold point_power.f at H; by_cases c5 : 0 ≤ 1
  · rw [if_pos c5] at H
    have c5b0 := eq_true c5; have c5b1 := decide_eq_true c5; clear c5; by_cases c6 : 1 ≤ (a0.size : Int)
    · rw [if_pos c6] at H
      have c6b0 := eq_true c6; have c6b1 := decide_eq_true c6; clear c6; by_cases c7 : (a0.size : Int) > 1
      · rw [if_pos c7] at H
        have c7b0 : decide (1 < (a0.size : Int)) = true := decide_eq_true c7; have c7b1 : decide (1 < a0.size) = true := decide_eq_true (by omega); clear c7; have c8b0 := eq_true (of_decide_eq_true (by first | (with_reducible assumption) | assumption) : 1 ≤ (a0.size : Int)); by_cases c9 : 1 + (a0.extract 1 a0.size).size ≤ 9223372036854775807
        · rw [if_pos c9] at H
          have c9b0 := eq_true c9; have c9b1 := decide_eq_true c9; (try have c9b2 : (9223372036854775807 < 1 + (a0.extract 1 a0.size).size) = False := eq_false (Nat.not_lt.2 c9)); (try have c9b8 := c9b2); (try simp only [ByteArray.size_append, ByteArray.size_extract, size_lit, List.size_toArray, List.length_cons, List.length_nil, Nat.reduceAdd, Nat.sub_zero, Nat.min_self] at c9b8); (try (have c9b7 := c9b8; rw [Nat.add_zero] at c9b7)); (try have c9b3 := c9b2); (try simp only [ByteArray.size_append, size_lit, List.size_toArray, List.length_cons, List.length_nil, Nat.reduceAdd] at c9b3); by_cases c10 : (a0.extract 0 1).size + ((⟨#[46]⟩ : ByteArray) ++ (a0.extract 1 a0.size)).size ≤ 9223372036854775807
          · rw [if_pos c10] at H
            have c10b0 := eq_true c10; have c10b1 := decide_eq_true c10; (try have c10b2 : (9223372036854775807 < (a0.extract 0 1).size + ((⟨#[46]⟩ : ByteArray) ++ (a0.extract 1 a0.size)).size) = False := eq_false (Nat.not_lt.2 c10)); (try have c10b8 := c10b2); (try simp only [ByteArray.size_append, ByteArray.size_extract, size_lit, List.size_toArray, List.length_cons, List.length_nil, Nat.reduceAdd, Nat.sub_zero, Nat.min_self] at c10b8); (try (have c10b7 := c10b8; rw [Nat.add_zero] at c10b7)); (try have c10b3 := c10b2); (try simp only [ByteArray.size_append, size_lit, List.size_toArray, List.length_cons, List.length_nil, Nat.reduceAdd] at c10b3); replace H := Option.bind_eq_some_iff.mp H; obtain ⟨t283, A110, H⟩ := H; (try dsimp only at H); have A11 := Aside0.mk A110; clear A110; by_cases c12 : ((a0.extract 0 1) ++ ((⟨#[46]⟩ : ByteArray) ++ (a0.extract 1 a0.size))).size + t283.size ≤ 9223372036854775807
            · rw [if_pos c12] at H
              have c12b0 := eq_true c12; have c12b1 := decide_eq_true c12; (try have c12b2 : (9223372036854775807 < ((a0.extract 0 1) ++ ((⟨#[46]⟩ : ByteArray) ++ (a0.extract 1 a0.size))).size + t283.size) = False := eq_false (Nat.not_lt.2 c12)); (try have c12b8 := c12b2); (try simp only [ByteArray.size_append, ByteArray.size_extract, size_lit, List.size_toArray, List.length_cons, List.length_nil, Nat.reduceAdd, Nat.sub_zero, Nat.min_self] at c12b8); (try (have c12b7 := c12b8; rw [Nat.add_zero] at c12b7)); (try have c12b3 := c12b2); (try simp only [ByteArray.size_append, size_lit, List.size_toArray, List.length_cons, List.length_nil, Nat.reduceAdd] at c12b3); obtain rfl := Option.some.inj H; go_enter Tryz.func46, Tryz.ntmps46; go_wp2_with (first | ((with_reducible refine gate_callee (f := 86) rfl ?_); refine goesL_ (some 26) rfl rfl Tryz.func86 (by kernel_rfl) rfl #[.int .i64 a1, .int .u8 a2] rfl (by exact pz4) ?_; (with_reducible refine (point_tail.calls a1 a2 t283 _ A11.out).mono ?_); rintro e w13 ⟨rfl, hb⟩; refine ⟨_, rfl, ?_⟩; have n0_ := Aside0.mk (below_step (by exact pz1) hb); clear HB; have HB := n0_; clear n0_; (try clear hb); )); go_ret; exact ⟨by exact pz2, by exact pz1⟩
            rw [if_neg c12] at H; exact absurd H (by simp)
          rw [if_neg c10] at H; exact absurd H (by simp)
        rw [if_neg c9] at H; exact absurd H (by simp)
      rw [if_neg c7] at H; have c7b0 : decide (1 < (a0.size : Int)) = false := decide_eq_false c7; have c7b1 : decide (1 < a0.size) = false := decide_eq_false (by omega); clear c7; by_cases c14 : a3 = true
      · subst c14
        rw [if_pos rfl] at H; have c15b0 := eq_true (of_decide_eq_true (by first | (with_reducible assumption) | assumption) : 1 ≤ (a0.size : Int)); by_cases c16 : 1 + (a0.extract 1 a0.size).size ≤ 9223372036854775807
        · rw [if_pos c16] at H
          have c16b0 := eq_true c16; have c16b1 := decide_eq_true c16; (try have c16b2 : (9223372036854775807 < 1 + (a0.extract 1 a0.size).size) = False := eq_false (Nat.not_lt.2 c16)); (try have c16b8 := c16b2); (try simp only [ByteArray.size_append, ByteArray.size_extract, size_lit, List.size_toArray, List.length_cons, List.length_nil, Nat.reduceAdd, Nat.sub_zero, Nat.min_self] at c16b8); (try (have c16b7 := c16b8; rw [Nat.add_zero] at c16b7)); (try have c16b3 := c16b2); (try simp only [ByteArray.size_append, size_lit, List.size_toArray, List.length_cons, List.length_nil, Nat.reduceAdd] at c16b3); by_cases c17 : (a0.extract 0 1).size + ((⟨#[46]⟩ : ByteArray) ++ (a0.extract 1 a0.size)).size ≤ 9223372036854775807
          · rw [if_pos c17] at H
            have c17b0 := eq_true c17; have c17b1 := decide_eq_true c17; (try have c17b2 : (9223372036854775807 < (a0.extract 0 1).size + ((⟨#[46]⟩ : ByteArray) ++ (a0.extract 1 a0.size)).size) = False := eq_false (Nat.not_lt.2 c17)); (try have c17b8 := c17b2); (try simp only [ByteArray.size_append, ByteArray.size_extract, size_lit, List.size_toArray, List.length_cons, List.length_nil, Nat.reduceAdd, Nat.sub_zero, Nat.min_self] at c17b8); (try (have c17b7 := c17b8; rw [Nat.add_zero] at c17b7)); (try have c17b3 := c17b2); (try simp only [ByteArray.size_append, size_lit, List.size_toArray, List.length_cons, List.length_nil, Nat.reduceAdd] at c17b3); replace H := Option.bind_eq_some_iff.mp H; obtain ⟨t284, A180, H⟩ := H; (try dsimp only at H); have A18 := Aside0.mk A180; clear A180; by_cases c19 : ((a0.extract 0 1) ++ ((⟨#[46]⟩ : ByteArray) ++ (a0.extract 1 a0.size))).size + t284.size ≤ 9223372036854775807
            · rw [if_pos c19] at H
              have c19b0 := eq_true c19; have c19b1 := decide_eq_true c19; (try have c19b2 : (9223372036854775807 < ((a0.extract 0 1) ++ ((⟨#[46]⟩ : ByteArray) ++ (a0.extract 1 a0.size))).size + t284.size) = False := eq_false (Nat.not_lt.2 c19)); (try have c19b8 := c19b2); (try simp only [ByteArray.size_append, ByteArray.size_extract, size_lit, List.size_toArray, List.length_cons, List.length_nil, Nat.reduceAdd, Nat.sub_zero, Nat.min_self] at c19b8); (try (have c19b7 := c19b8; rw [Nat.add_zero] at c19b7)); (try have c19b3 := c19b2); (try simp only [ByteArray.size_append, size_lit, List.size_toArray, List.length_cons, List.length_nil, Nat.reduceAdd] at c19b3); obtain rfl := Option.some.inj H; go_enter Tryz.func46, Tryz.ntmps46; go_wp2_with (first | ((with_reducible refine gate_callee (f := 86) rfl ?_); refine goesL_ (some 26) rfl rfl Tryz.func86 (by kernel_rfl) rfl #[.int .i64 a1, .int .u8 a2] rfl (by exact pz4) ?_; (with_reducible refine (point_tail.calls a1 a2 t284 _ A18.out).mono ?_); rintro e w20 ⟨rfl, hb⟩; refine ⟨_, rfl, ?_⟩; have n0_ := Aside0.mk (below_step (by exact pz1) hb); clear HB; have HB := n0_; clear n0_; (try clear hb); )); go_ret; exact ⟨by exact pz2, by exact pz1⟩
            rw [if_neg c19] at H; exact absurd H (by simp)
          rw [if_neg c17] at H; exact absurd H (by simp)
        rw [if_neg c16] at H; exact absurd H (by simp)
      replace c14 := Bool.eq_false_iff.mpr c14; subst c14; rw [if_neg (show ¬ (false = true) by decide)] at H; replace H := Option.bind_eq_some_iff.mp H; obtain ⟨t285, A210, H⟩ := H; (try dsimp only at H); have A21 := Aside0.mk A210; clear A210; by_cases c22 : (a0.extract 0 1).size + t285.size ≤ 9223372036854775807
      · rw [if_pos c22] at H
        have c22b0 := eq_true c22; have c22b1 := decide_eq_true c22; (try have c22b2 : (9223372036854775807 < (a0.extract 0 1).size + t285.size) = False := eq_false (Nat.not_lt.2 c22)); (try have c22b8 := c22b2); (try simp only [ByteArray.size_append, ByteArray.size_extract, size_lit, List.size_toArray, List.length_cons, List.length_nil, Nat.reduceAdd, Nat.sub_zero, Nat.min_self] at c22b8); (try (have c22b7 := c22b8; rw [Nat.add_zero] at c22b7)); (try have c22b3 := c22b2); (try simp only [ByteArray.size_append, size_lit, List.size_toArray, List.length_cons, List.length_nil, Nat.reduceAdd] at c22b3); obtain rfl := Option.some.inj H; go_enter Tryz.func46, Tryz.ntmps46; go_wp2_with (first | ((with_reducible refine gate_callee (f := 86) rfl ?_); refine goesL_ (some 26) rfl rfl Tryz.func86 (by kernel_rfl) rfl #[.int .i64 a1, .int .u8 a2] rfl (by exact pz4) ?_; (with_reducible refine (point_tail.calls a1 a2 t285 _ A21.out).mono ?_); rintro e w23 ⟨rfl, hb⟩; refine ⟨_, rfl, ?_⟩; have n0_ := Aside0.mk (below_step (by exact pz1) hb); clear HB; have HB := n0_; clear n0_; (try clear hb); )); go_ret; exact ⟨by exact pz2, by exact pz1⟩
      rw [if_neg c22] at H; exact absurd H (by simp)
    rw [if_neg c6] at H; exact absurd H (by simp)
  rw [if_neg c5] at H; exact absurd H (by simp)

/-! ### strings_Contains: function 134 -/
def strings_Contains.f (a0 : ByteArray) (a1 : ByteArray) : Option Bool := if a1 = ⟨#[46]⟩ then some (decide (0 ≤ Lib.indexByte a0.data.toList 46)) else none
theorem strings_Contains.calls (a0 : ByteArray) (a1 : ByteArray) (r : Bool) (w : World) (h : strings_Contains.f a0 a1 = some r) :
    Calls Tryz.prog 134 #[.string a0, .string a1] w fun e w' => e = .returned (.bool r) ∧ Drawn0 w w' := by
  unfold strings_Contains.f at h; split at h
  · rename_i h0
    subst h0; cases h
    exact (Tryz.strings_Contains_one a0 46 w).mono fun e w' hh => ⟨hh.1, ⟨0, hh.2⟩⟩
  cases h

/-! ### stringslite_HasSuffix: function 200 -/
def stringslite_HasSuffix.f (a0 : ByteArray) (a1 : ByteArray) : Option (Bool) := if (a0.size : Int) ≥ (a1.size : Int) then (if 0 ≤ (wrap64 ((a0.size : Int) - (a1.size : Int))) then (if (wrap64 ((a0.size : Int) - (a1.size : Int))) ≤ (a0.size : Int) then (some ((a0.extract ((wrap64 ((a0.size : Int) - (a1.size : Int))) : Int).toNat a0.size).toList == a1.toList)) else (none)) else (none)) else (some false)
set_option maxHeartbeats 8000000 in
set_option maxRecDepth 100000 in
theorem stringslite_HasSuffix.calls (a0 : ByteArray) (a1 : ByteArray) (r : Bool) (w : World) (h : stringslite_HasSuffix.f a0 a1 = some r) (HG : Aside0 (GW w) := by exact pz5) :
    Calls Tryz.prog 200 #[.string a0, .string a1] w fun e w' => e = .returned (.bool r) ∧ Drawn0 w w' := by
  have H := h; clear h; unfold stringslite_HasSuffix.f at H; by_cases c3 : (a0.size : Int) ≥ (a1.size : Int)
  · rw [if_pos c3] at H
    have c3b0 : decide ((a1.size : Int) ≤ (a0.size : Int)) = true := decide_eq_true c3; have c3b1 : decide (a1.size ≤ a0.size) = true := decide_eq_true (Int.ofNat_le.mp c3); clear c3; obtain ⟨ji4, hji4⟩ : ∃ j_ : Int, (wrap64 ((a0.size : Int) - (a1.size : Int))) = j_ := ⟨_, rfl⟩; replace H : (if 0 ≤ (ji4) then (if (ji4) ≤ (a0.size : Int) then (some ((a0.extract ((ji4) : Int).toNat a0.size).toList == a1.toList)) else (none)) else (none)) = some r := by first | (rw [hji4] at H; exact H) | (simp only [hji4] at H ⊢; exact H)
    have hji4w : (IntKind.i64.wrap ((a0.size : Int) - (a1.size : Int))) = ji4 := (i64_w _).trans hji4; by_cases c5 : 0 ≤ (ji4)
    · rw [if_pos c5] at H
      have c5b0 := eq_true c5; have c5b1 := decide_eq_true c5; clear c5; by_cases c6 : (ji4) ≤ (a0.size : Int)
      · rw [if_pos c6] at H
        have c6b0 := eq_true c6; have c6b1 := decide_eq_true c6; clear c6; obtain rfl := Option.some.inj H; go_enter Tryz.func200, Tryz.ntmps200; go_wp2; go_ret; exact ⟨by first | rfl | (simp; done) | (simp only [← hji4] <;> (first | rfl | simp)) | (simp [*]; done), by exact pz7⟩
      rw [if_neg c6] at H; exact absurd H (by simp)
    rw [if_neg c5] at H; exact absurd H (by simp)
  rw [if_neg c3] at H; have c3b0 : decide ((a1.size : Int) ≤ (a0.size : Int)) = false := decide_eq_false c3; have c3b1 : decide (a1.size ≤ a0.size) = false := decide_eq_false (fun h => c3 (Int.ofNat_le.mpr h)); clear c3; obtain rfl := Option.some.inj H; go_enter Tryz.func200, Tryz.ntmps200; go_wp2; go_ret; exact ⟨by first | rfl | (simp; done) | (simp [*]; done), by exact pz7⟩

/-! ### stringslite_TrimSuffix: function 180 -/
def stringslite_TrimSuffix.f (a0 : ByteArray) (a1 : ByteArray) : Option (ByteArray) := (stringslite_HasSuffix.f a0 a1).bind fun t286 => (if t286 = true then (if 0 ≤ (wrap64 ((a0.size : Int) - (a1.size : Int))) then (if (wrap64 ((a0.size : Int) - (a1.size : Int))) ≤ (a0.size : Int) then (some (a0.extract 0 ((wrap64 ((a0.size : Int) - (a1.size : Int))) : Int).toNat)) else (none)) else (none)) else (some a0))
set_option maxHeartbeats 8000000 in
set_option maxRecDepth 100000 in
theorem stringslite_TrimSuffix.calls (a0 : ByteArray) (a1 : ByteArray) (r : ByteArray) (w : World) (h : stringslite_TrimSuffix.f a0 a1 = some r) (HG : Aside0 (GW w) := by exact pz5) :
    Calls Tryz.prog 180 #[.string a0, .string a1] w fun e w' => e = .returned (.string r) ∧ Drawn0 w w' := by
  have H := h; clear h; unfold stringslite_TrimSuffix.f at H; replace H := Option.bind_eq_some_iff.mp H; obtain ⟨t286, A30, H⟩ := H; (try dsimp only at H); have A3 := Aside0.mk A30; clear A30; by_cases c4 : t286 = true
  · subst c4
    rw [if_pos rfl] at H; obtain ⟨ji5, hji5⟩ : ∃ j_ : Int, (wrap64 ((a0.size : Int) - (a1.size : Int))) = j_ := ⟨_, rfl⟩; replace H : (if 0 ≤ (ji5) then (if (ji5) ≤ (a0.size : Int) then (some (a0.extract 0 ((ji5) : Int).toNat)) else (none)) else (none)) = some r := by first | (rw [hji5] at H; exact H) | (simp only [hji5] at H ⊢; exact H)
    (try rw [hji5] at A3)
    have hji5w : (IntKind.i64.wrap ((a0.size : Int) - (a1.size : Int))) = ji5 := (i64_w _).trans hji5; by_cases c6 : 0 ≤ (ji5)
    · rw [if_pos c6] at H
      have c6b0 := eq_true c6; have c6b1 := decide_eq_true c6; clear c6; by_cases c7 : (ji5) ≤ (a0.size : Int)
      · rw [if_pos c7] at H
        have c7b0 := eq_true c7; have c7b1 := decide_eq_true c7; clear c7; obtain rfl := Option.some.inj H; go_enter Tryz.func180, Tryz.ntmps180; go_wp2_with (first | ((with_reducible refine gate_callee (f := 200) rfl ?_); refine goesL_ (some 7) rfl rfl Tryz.func200 (by kernel_rfl) rfl #[.string a0, .string a1] rfl (by exact pz4) ?_; (with_reducible refine (stringslite_HasSuffix.calls a0 a1 true _ A3.out).mono ?_); rintro e w' ⟨rfl, ⟨nd, rfl⟩⟩; refine ⟨_, rfl, ?_⟩)); go_ret; exact ⟨by first | rfl | (simp; done) | (simp only [← hji5] <;> (first | rfl | simp)) | (simp [*]; done), by exact pz7⟩
      rw [if_neg c7] at H; exact absurd H (by simp)
    rw [if_neg c6] at H; exact absurd H (by simp)
  replace c4 := Bool.eq_false_iff.mpr c4; subst c4; rw [if_neg (show ¬ (false = true) by decide)] at H; obtain rfl := Option.some.inj H; go_enter Tryz.func180, Tryz.ntmps180; go_wp2_with (first | ((with_reducible refine gate_callee (f := 200) rfl ?_); refine goesL_ (some 7) rfl rfl Tryz.func200 (by kernel_rfl) rfl #[.string a0, .string a1] rfl (by exact pz4) ?_; (with_reducible refine (stringslite_HasSuffix.calls a0 a1 false _ A3.out).mono ?_); rintro e w' ⟨rfl, ⟨nd, rfl⟩⟩; refine ⟨_, rfl, ?_⟩)); go_ret; exact ⟨by first | rfl | (simp; done) | (simp [*]; done), by exact pz7⟩

/-! ### strings_TrimSuffix: function 135 -/
def strings_TrimSuffix.f (a0 : ByteArray) (a1 : ByteArray) : Option (ByteArray) := (stringslite_TrimSuffix.f a0 a1).bind fun t287 => (some t287)
set_option maxHeartbeats 8000000 in
set_option maxRecDepth 100000 in
theorem strings_TrimSuffix.calls (a0 : ByteArray) (a1 : ByteArray) (r : ByteArray) (w : World) (h : strings_TrimSuffix.f a0 a1 = some r) (HG : Aside0 (GW w) := by exact pz5) :
    Calls Tryz.prog 135 #[.string a0, .string a1] w fun e w' => e = .returned (.string r) ∧ Drawn0 w w' := by
  have H := h; clear h; unfold strings_TrimSuffix.f at H; replace H := Option.bind_eq_some_iff.mp H; obtain ⟨t287, A30, H⟩ := H; (try dsimp only at H); have A3 := Aside0.mk A30; clear A30; obtain rfl := Option.some.inj H; go_enter Tryz.func135, Tryz.ntmps135; go_wp2_with (first | ((with_reducible refine gate_callee (f := 180) rfl ?_); refine goesL_ (some 7) rfl rfl Tryz.func180 (by kernel_rfl) rfl #[.string a0, .string a1] rfl (by exact pz4) ?_; (with_reducible refine (stringslite_TrimSuffix.calls a0 a1 t287 _ A3.out).mono ?_); rintro e w' ⟨rfl, ⟨nd, rfl⟩⟩; refine ⟨_, rfl, ?_⟩)); go_ret; exact ⟨by first | rfl | (simp; done) | (simp [*]; done), by exact pz7⟩

/-! ### point_strip: function 87 -/
def point_strip.f (a0 : ByteArray) : Option (ByteArray) := (strings_Contains.f a0 (⟨#[46]⟩ : ByteArray)).bind fun t288 => (if t288 = true then ((strings_TrimRight.f a0 (⟨#[48]⟩ : ByteArray)).bind fun t289 => ((strings_TrimSuffix.f t289 (⟨#[46]⟩ : ByteArray)).bind fun t290 => (some t290))) else (some a0))
theorem point_strip.w1 {P : Prop} (h : P := by
  go_enter Tryz.func87, Tryz.ntmps87; go_wp2_with (first | ((with_reducible refine gate_callee (f := 134) rfl ?_); refine goesL_ (some 4) rfl rfl Tryz.func134 (by kernel_rfl) rfl #[.string a0, .string (⟨#[46]⟩ : ByteArray)] rfl (by exact pz4) ?_; (with_reducible refine (strings_Contains.calls a0 (⟨#[46]⟩ : ByteArray) true _ A2.out).mono ?_); rintro e w' ⟨rfl, ⟨nd, rfl⟩⟩; refine ⟨_, rfl, ?_⟩) | ((with_reducible refine gate_callee (f := 65) rfl ?_); refine goesL_ (some 8) rfl rfl Tryz.func65 (by kernel_rfl) rfl #[.string a0, .string (⟨#[48]⟩ : ByteArray)] rfl (by exact pz4) ?_; (with_reducible refine (strings_TrimRight.calls a0 (⟨#[48]⟩ : ByteArray) t289 _ A4.out).mono ?_); rintro e w' ⟨rfl, ⟨nd, rfl⟩⟩; refine ⟨_, rfl, ?_⟩) | ((with_reducible refine gate_callee (f := 135) rfl ?_); refine goesL_ (some 9) rfl rfl Tryz.func135 (by kernel_rfl) rfl #[.string t289, .string (⟨#[46]⟩ : ByteArray)] rfl (by exact pz4) ?_; (with_reducible refine (strings_TrimSuffix.calls t289 (⟨#[46]⟩ : ByteArray) t290 _ A5.out).mono ?_); rintro e w' ⟨rfl, ⟨nd, rfl⟩⟩; refine ⟨_, rfl, ?_⟩) | ((with_reducible refine gate_callee (f := 134) rfl ?_); refine goesL_ (some 4) rfl rfl Tryz.func134 (by kernel_rfl) rfl #[.string a0, .string (⟨#[46]⟩ : ByteArray)] rfl (by exact pz4) ?_; (with_reducible refine (strings_Contains.calls a0 (⟨#[46]⟩ : ByteArray) false _ A2.out).mono ?_); rintro e w' ⟨rfl, ⟨nd, rfl⟩⟩; refine ⟨_, rfl, ?_⟩)); go_ret; exact ⟨by first | rfl | (simp; done) | (simp [*]; done), by exact pz7⟩) : P := h
set_option maxHeartbeats 8000000 in
set_option maxRecDepth 100000 in
theorem point_strip.calls (a0 : ByteArray) (r : ByteArray) (w : World) (h : point_strip.f a0 = some r) (HG : Aside0 (GW w) := by exact pz5) :
    Calls Tryz.prog 87 #[.string a0] w fun e w' => e = .returned (.string r) ∧ Drawn0 w w' := by
  have H := h; clear h; unfold point_strip.f at H; replace H := Option.bind_eq_some_iff.mp H; obtain ⟨t288, A20, H⟩ := H; (try dsimp only at H); have A2 := Aside0.mk A20; clear A20; by_cases c3 : t288 = true
  · subst c3
    rw [if_pos rfl] at H; replace H := Option.bind_eq_some_iff.mp H; obtain ⟨t289, A40, H⟩ := H; (try dsimp only at H); have A4 := Aside0.mk A40; clear A40; replace H := Option.bind_eq_some_iff.mp H; obtain ⟨t290, A50, H⟩ := H; (try dsimp only at H); have A5 := Aside0.mk A50; clear A50; obtain rfl := Option.some.inj H; exact point_strip.w1
  replace c3 := Bool.eq_false_iff.mpr c3; subst c3; rw [if_neg (show ¬ (false = true) by decide)] at H; obtain rfl := Option.some.inj H; exact point_strip.w1

end Go.Proofs.YtgbjojokjekmhaaGreatDoor.PXC
