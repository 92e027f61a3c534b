/- The law of PointPads, plain: what its printed function answers; conditions: a Spec of machine numbers, a double's bits. -/
import Derived.Test.YtgbjojokjekmhaaGreatDoorRdrT
import Derived.Test.YtgbjojokjekmhaaGreatDoorPXCx13
namespace Go.Proofs.YtgbjojokjekmhaaGreatDoor.Num
open Go.RowKit Go.Proofs.YtgbjojokjekmhaaGreatDoor.PXC Go.Proofs.YtgbjojokjekmhaaGreatDoorW.PrintWords Go.Proofs.YtgbjojokjekmhaaGreatDoorW.PrintLast Go.Proofs.YtgbjojokjekmhaaGreatDoorW.PrintMore
set_option linter.unusedVariables false
set_option linter.unusedSimpArgs false

theorem all32 {P : Int → Prop} (h : ∀ x : Fin 32, P ((x.val : Nat) : Int)) {fl : Int} (h0 : 0 ≤ fl) (h1 : fl ≤ 31) : P fl := by
 have := h ⟨fl.toNat, by omega⟩; have e : ((fl.toNat : Nat) : Int) = fl := by omega
 rw [e] at this; exact this
/-- A double's bits without the sign. -/
theorem abs_mod {d : Int} (h0 : 0 ≤ d) (h1 : d < 18446744073709551616) : Go.bits .andNot .u64 d 9223372036854775808 = d % 9223372036854775808 := by
 obtain ⟨n, rfl⟩ : ∃ n : Nat, d = (n : Int) := ⟨d.toNat, by omega⟩; have h2 : (BitVec.ofInt 64 (n : Int)).toNat = n := by
  rw [BitVec.ofInt_natCast, BitVec.toNat_ofNat]; exact Nat.mod_eq_of_lt (by omega)
 show IntKind.u64.wrap ((BitVec.ofInt 64 (n : Int) &&& ~~~ BitVec.ofInt 64 9223372036854775808).toNat : Int) = _; have h3 : (~~~ BitVec.ofInt 64 9223372036854775808).toNat = 2 ^ 63 - 1 := by decide
 rw [BitVec.toNat_and, h2, h3, Nat.and_two_pow_sub_one_eq_mod, wrap_eq]; omega
theorem class_fin {d : Int} (h0 : 0 ≤ d) (h1 : d < 18446744073709551616) : ∃ c, ieee_Class.f d = some c ∧ ((c < 3 ∧ d % 9223372036854775808 < 9218868437227405312) ∨ ((c = 3 ∨ c = 4) ∧ ¬ d % 9223372036854775808 < 9218868437227405312)) := by
 unfold ieee_Class.f ieee_Abs.f; rw [Option.bind_some, abs_mod h0 h1]; generalize d % 9223372036854775808 = a; by_cases c0 : a = 0
 · exact ⟨0, by rw [if_pos c0], .inl ⟨by omega, by omega⟩⟩
 by_cases c1 : a < 4503599627370496
 · exact ⟨1, by rw [if_neg c0, if_pos c1], .inl ⟨by omega, by omega⟩⟩
 by_cases c2 : a < 9218868437227405312
 · exact ⟨2, by rw [if_neg c0, if_neg c1, if_pos c2], .inl ⟨by omega, by omega⟩⟩
 by_cases c3 : a = 9218868437227405312
 · exact ⟨3, by rw [if_neg c0, if_neg c1, if_neg c2, if_pos c3], .inr ⟨.inl rfl, by omega⟩⟩
 exact ⟨4, by rw [if_neg c0, if_neg c1, if_neg c2, if_neg c3], .inr ⟨.inr rfl, by omega⟩⟩
theorem wrong_tot (v fl w p : Int) : Ev (fun k => abacuslaw15_wrong.f k v fl w p) (if verbOk v then wrongE fl w p else 140) := by
 have fin : ∀ b, Ev (fun k => abacuslaw15_wrong.j1 k b v fl w p) (if b = true then 1 else if 4096 < w ∨ 4096 < p then 6 else 0) := fun b => by
  refine Ev.step (f := fun _ => some (if b = true then 1 else if 4096 < w ∨ 4096 < p then 6 else 0)) (fun k => ?_) (Ev.now _); rw [abacuslaw15_wrong.j1]; cases b with
  | true => rfl
  | false =>
   simp only [Bool.false_eq_true, if_false]; by_cases h1 : w > 4096
   · rw [if_pos h1, if_pos (.inl h1)]
   by_cases h2 : p > 4096
   · rw [if_neg h1, if_pos h2, if_pos (.inr h2)]
   rw [if_neg h1, if_neg h2, if_neg (by omega)]
 have h0 : Ev (fun k => abacuslaw15_wrong.j0 k v fl w p) (wrongE fl w p) := by
  unfold wrongE; by_cases a1 : fl < 0
  · rw [if_pos (.inl a1)]; exact Ev.step (fun k => by rw [abacuslaw15_wrong.j0, if_pos a1]) (fin true)
  by_cases a2 : fl > 31
  · rw [if_pos (.inr (.inl a2))]; exact Ev.step (fun k => by rw [abacuslaw15_wrong.j0, if_neg a1, if_pos a2]) (fin true)
  by_cases a3 : w < 0
  · rw [if_pos (.inr (.inr (.inl a3)))]; exact Ev.step (fun k => by rw [abacuslaw15_wrong.j0, if_neg a1, if_neg a2, if_pos a3]) (fin true)
  by_cases a4 : p < -1
  · rw [if_pos (.inr (.inr (.inr a4)))]; exact Ev.step (fun k => by rw [abacuslaw15_wrong.j0, if_neg a1, if_neg a2, if_neg a3, decide_eq_true a4]) (fin true)
  rw [if_neg (by omega)]; exact Ev.step (fun k => by rw [abacuslaw15_wrong.j0, if_neg a1, if_neg a2, if_neg a3, decide_eq_false a4]) (fin false)
 unfold abacuslaw15_wrong.f; by_cases hv : verbOk v
 · rw [if_pos hv]; refine Ev.congr (fun k => ?_) h0; unfold verbOk at hv; rcases hv with rfl | rfl | rfl | rfl | rfl | rfl <;> rfl
 rw [if_neg hv]; refine Ev.congr (f := fun _ => some 140) (fun k => ?_) (Ev.now _); unfold verbOk at hv; rw [if_neg (by omega), if_neg (by omega), if_neg (by omega), if_neg (by omega), if_neg (by omega), if_neg (by omega)]
/-! ### the fixed answers -/
theorem awake_tot : Ev (fun k => abacuslaw15_awake.f k) true := by
 have hA1 : Ev (fun k => fixed_All.f k 13832806255468478464) (true, S [49, 53], -1, 0) := Ev.of (fun k => fixed_All.mono _ k) (k := 60) (by kernel_rfl); have hA2 : Ev (fun k => fixed_All.f k 4609434218613702656) (false, S [49, 53], -1, 0) := Ev.of (fun k => fixed_All.mono _ k) (k := 60) (by kernel_rfl); have hD : ∀ b, Dec b [49, 53] (-1) := fun b => ⟨by intro x hx; simp at hx; rcases hx with rfl | rfl <;> decide, by decide, by omega, by omega⟩
 have h1 := Render_fin (v := 102) (fl := 18) (w := 8) (p := 2) (c := 2) (by decide) (by decide) (by kernel_rfl) (by decide) hA1 (hD _); have h2 := Render_fin (v := 102) (fl := 18) (w := 8) (p := 2) (c := 2) (by decide) (by decide) (by kernel_rfl) (by decide) hA2 (hD _); have h3 := Special_inf (v := 69) (fl := 0) (w := 6) (p := -1) (d := 18442240474082181120) (c := 3) (by decide) (by kernel_rfl) (.inl rfl); have e1 : padL 18 8 (headL 18 13832806255468478464) (bodyL 102 [49, 53] (-1) (precN 2) (hashF 18)) true = [45, 48, 48, 48, 49, 46, 53, 48] := by kernel_rfl
 have e2 : padL 18 8 (headL 18 4609434218613702656) (bodyL 102 [49, 53] (-1) (precN 2) (hashF 18)) true = [43, 48, 48, 48, 49, 46, 53, 48] := by kernel_rfl
 have e3 : padL 0 6 (headL 0 18442240474082181120) (nameL 69 3) false = [32, 32, 45, 73, 78, 70] := by kernel_rfl
 rw [e1] at h1; rw [e2] at h2; rw [e3] at h3; unfold abacuslaw15_awake.f; refine Ev.bind h1 ?_; refine Ev.bind h2 ?_; refine Evx.bindc (h := fun _ => some true) h3 (fun k => ?_) (Ev.now _); simp only [s_list, if_true]; rfl
/-! ### the padding -/
end Go.Proofs.YtgbjojokjekmhaaGreatDoor.Num
