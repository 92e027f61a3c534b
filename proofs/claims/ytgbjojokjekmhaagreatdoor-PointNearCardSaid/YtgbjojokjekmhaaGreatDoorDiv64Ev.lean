/- math/bits.Div64: the quotient and the rest of two limbs by one; conditions: the high limb is below the divisor. -/
import Derived.Test.YtgbjojokjekmhaaGreatDoorWWords
import Derived.Lib.ItoaNum
import Derived.Test.YtgbjojokjekmhaaGreatDoorPXCx8D
import Derived.Laws.Bits64b
namespace Go.Proofs.YtgbjojokjekmhaaGreatDoor.Num
set_option linter.unusedVariables false
set_option linter.unusedSimpArgs false

/-- What the guess's test asks is whether the guess is too great. -/
theorem test_iff {q r a b u c : Nat} (h : q * a + r = u) : (4294967296 * r + c < q * b ↔ u * 4294967296 + c < q * (a * 4294967296 + b)) := by
 have e : q * (a * 4294967296 + b) = (q * a) * 4294967296 + q * b := by rw [Nat.mul_add, Nat.mul_assoc]
 rw [e]; omega
theorem guess_ge {a b u c : Nat} (ha : 0 < a) (hc : c < 4294967296) : (u * 4294967296 + c) / (a * 4294967296 + b) ≤ u / a := by
 rw [Nat.le_div_iff_mul_le ha]; have h := Nat.div_mul_le_self (u * 4294967296 + c) (a * 4294967296 + b); generalize (u * 4294967296 + c) / (a * 4294967296 + b) = q at *; have e : q * (a * 4294967296 + b) = (q * a) * 4294967296 + q * b := by rw [Nat.mul_add, Nat.mul_assoc]
 rw [e] at h; omega
theorem test_big {q u c D : Nat} (h : 4294967296 ≤ q) (hu : u < D) (hc : c < 4294967296) : u * 4294967296 + c < q * D := by
 have := Nat.mul_le_mul_right D h; omega
theorem test_break {q r a b u c : Nat} (h : q * a + r = u) (hr : 4294967296 ≤ r) (hb : b < 4294967296) (hu : u < a * 4294967296 + b) : q * (a * 4294967296 + b) ≤ u * 4294967296 + c := by
 have hq : q < 4294967296 := by
  rcases Nat.lt_or_ge q 4294967296 with h1 | h1
  · exact h1
  have := Nat.mul_le_mul_right a h1; omega
 have hm : q * b ≤ 4294967296 * 4294967296 := Nat.mul_le_mul (Nat.le_of_lt hq) (Nat.le_of_lt hb); have ht := (test_iff (c := c) (b := b) h); rcases Nat.lt_or_ge (u * 4294967296 + c) (q * (a * 4294967296 + b)) with h1 | h1
 · have := ht.2 h1; omega
 exact h1
theorem le_quot {q N D : Nat} (hD : 0 < D) (h : q * D ≤ N) : q ≤ N / D := (Nat.le_div_iff_mul_le hD).2 h
theorem two_digits (u c1 c0 D : Nat) (hD : 0 < D) :
  (u * 18446744073709551616 + (c1 * 4294967296 + c0)) / D = (u * 4294967296 + c1) / D * 4294967296 + ((u * 4294967296 + c1) % D * 4294967296 + c0) / D ∧
  (u * 18446744073709551616 + (c1 * 4294967296 + c0)) % D = ((u * 4294967296 + c1) % D * 4294967296 + c0) % D := by
 have h := Nat.div_add_mod (u * 4294967296 + c1) D; obtain ⟨q, hq⟩ : ∃ q, (u * 4294967296 + c1) / D = q := ⟨_, rfl⟩; obtain ⟨r, hr⟩ : ∃ r, (u * 4294967296 + c1) % D = r := ⟨_, rfl⟩; rw [hq, hr] at h ⊢; have e : u * 18446744073709551616 + (c1 * 4294967296 + c0) = D * (q * 4294967296) + (r * 4294967296 + c0) := by
  rw [← Nat.mul_assoc]; omega
 rw [e, Nat.mul_add_div hD, Nat.mul_add_mod]; exact ⟨rfl, rfl⟩
/-- Both numbers moved up by s bits. -/
theorem raised_eq (hi lo s : Nat) (hs : s ≤ 64) : (hi * 2 ^ s + lo / 2 ^ (64 - s)) * 18446744073709551616 + (lo * 2 ^ s) % 18446744073709551616 = (hi * 18446744073709551616 + lo) * 2 ^ s := by
 have e64 : (18446744073709551616 : Nat) = 2 ^ (64 - s) * 2 ^ s := by rw [← Nat.pow_add, Nat.sub_add_cancel hs]
 have e : lo / 2 ^ (64 - s) = (lo * 2 ^ s) / 18446744073709551616 := by
  rw [e64, Nat.mul_div_mul_right _ _ (Nat.two_pow_pos s)]
 have h := Nat.div_add_mod (lo * 2 ^ s) 18446744073709551616; rw [e, Nat.add_mul, Nat.add_mul, Nat.mul_right_comm]; omega
theorem raised_lt {hi lo y s : Nat} (hs : s ≤ 64) (h : hi < y) (hl : lo < 18446744073709551616) : hi * 2 ^ s + lo / 2 ^ (64 - s) < y * 2 ^ s := by
 have h1 : lo / 2 ^ (64 - s) < 2 ^ s := by
  rw [Nat.div_lt_iff_lt_mul (Nat.two_pow_pos _), ← Nat.pow_add, Nat.add_sub_cancel' hs]; exact hl
 have h2 : (hi + 1) * 2 ^ s ≤ y * 2 ^ s := Nat.mul_le_mul_right _ h; rw [Nat.add_mul, Nat.one_mul] at h2; omega
theorem bitLen_bounds {x : Nat} (h : x < 18446744073709551616) (h0 : x ≠ 0) : 1 ≤ Lib.bitLen x ∧ 2 ^ (Lib.bitLen x - 1) ≤ x ∧ x < 2 ^ Lib.bitLen x := Lib.bitLenAux_bounds 64 x h h0
theorem bitLen_le64 {x : Nat} (h : x < 18446744073709551616) : Lib.bitLen x ≤ 64 := Lib.bitLen_le x 64 (Nat.le_refl _) h
/-- Moved up till its highest bit is set. -/
theorem raised_top {y : Nat} (h : y < 18446744073709551616) (h0 : y ≠ 0) : 9223372036854775808 ≤ y * 2 ^ (64 - Lib.bitLen y) ∧ y * 2 ^ (64 - Lib.bitLen y) < 18446744073709551616 := by
 obtain ⟨h1, h2, h3⟩ := bitLen_bounds h h0; have h4 := bitLen_le64 h; generalize Lib.bitLen y = n at *; constructor
 ·
  calc 9223372036854775808 = 2 ^ (n - 1) * 2 ^ (64 - n) := by rw [← Nat.pow_add, show n - 1 + (64 - n) = 63 by omega]
   _ ≤ y * 2 ^ (64 - n) := Nat.mul_le_mul_right _ h2
 calc y * 2 ^ (64 - n) < 2 ^ n * 2 ^ (64 - n) := Nat.mul_lt_mul_of_pos_right h3 (Nat.two_pow_pos _)
  _ = 18446744073709551616 := by rw [← Nat.pow_add, Nat.add_sub_cancel' h4]
end Go.Proofs.YtgbjojokjekmhaaGreatDoor.Num
namespace Go.Proofs.YtgbjojokjekmhaaGreatDoor.Num
open Go.RowKit Go.Proofs.YtgbjojokjekmhaaGreatDoor.PXC Go.Proofs.YtgbjojokjekmhaaGreatDoorW.PrintWords Go.Proofs.YtgbjojokjekmhaaGreatDoorW.PrintLast Go.Proofs.YtgbjojokjekmhaaGreatDoorW.PrintMore
set_option linter.unusedVariables false
set_option linter.unusedSimpArgs false

theorem u64w (x : Int) : IntKind.u64.wrap x = x % 18446744073709551616 := by simp [IntKind.wrap, IntKind.bits, IntKind.signed]
theorem u64n {n : Nat} (h : n < 18446744073709551616) : IntKind.u64.wrap (n : Int) = (n : Int) := by rw [u64w]; omega
theorem natmul (a b : Nat) : (a : Int) * (b : Int) = ((a * b : Nat) : Int) := (Int.natCast_mul a b).symm
theorem tdivn (a b : Nat) : Int.tdiv (a : Int) (b : Int) = ((a / b : Nat) : Int) := by
 rw [Int.tdiv_eq_ediv_of_nonneg (by omega)]; rfl
theorem tmodn (a b : Nat) : Int.tmod (a : Int) (b : Int) = ((a % b : Nat) : Int) := by
 rw [Int.tmod_eq_emod_of_nonneg (by omega)]; rfl
section
variable {D s a b u c1 c0 : Nat}
/-- The test, as the code reckons it. -/
theorem test_code {q r c : Nat} (hq : ¬ 4294967296 ≤ q) (hb : b < 4294967296) (hr : r < 4294967296) (hc : c < 4294967296) (h : q * a + r = u) :
  decide ((IntKind.u64.wrap ((q : Int) * (b : Int))) > (IntKind.u64.wrap ((IntKind.u64.wrap (4294967296 * (r : Int))) + (c : Int)))) = decide (u * 4294967296 + c < q * (a * 4294967296 + b)) := by
 have hm : q * b < 4294967296 * 4294967296 := Nat.mul_lt_mul'' (by omega) hb; have e1 : IntKind.u64.wrap ((q : Int) * (b : Int)) = ((q * b : Nat) : Int) := by rw [natmul, u64n (by omega)]
 have e2 : IntKind.u64.wrap ((IntKind.u64.wrap (4294967296 * (r : Int))) + (c : Int)) = ((4294967296 * r + c : Nat) : Int) := by
  rw [u64w, u64w]; omega
 rw [e1, e2, decide_eq_decide, ← test_iff (c := c) (b := b) h]; exact Int.ofNat_lt
theorem dl0_ev {R : Int × Int} (hD : D = a * 4294967296 + b) (ha : 0 < a) (ha2 : a < 4294967296) (hb : b < 4294967296) (hu : u < D) (hc : c1 < 4294967296)
  (hj : Ev (fun k => bits_Div64.j2 k (D : Int) (s : Int) (a : Int) (b : Int) (u : Int) (c1 : Int) (c0 : Int) (((u * 4294967296 + c1) / D : Nat) : Int)) R) :
  ∀ n q r : Nat, q = (u * 4294967296 + c1) / D + n → q * a + r = u → r < 4294967296 → Ev (fun k => bits_Div64.l0 k (D : Int) (s : Int) (a : Int) (b : Int) (u : Int) (c1 : Int) (c0 : Int) (q : Int) (r : Int)) R := by
 have hD0 : 0 < D := by omega
 have hle := Nat.div_mul_le_self (u * 4294967296 + c1) D; have hD64 : D < 18446744073709551616 := by omega
 have hmax : ∀ q : Nat, q * D ≤ u * 4294967296 + c1 → q ≤ (u * 4294967296 + c1) / D := fun q h => le_quot hD0 h
 obtain ⟨qt, hqt⟩ : ∃ qt, (u * 4294967296 + c1) / D = qt := ⟨_, rfl⟩; rw [hqt] at hj hle hmax ⊢; clear hqt; intro n; induction n with
 | zero =>
  intro q r hq h hr; have hq' : q = qt := hq; rw [← hq'] at hle hj; have ht : decide (u * 4294967296 + c1 < q * (a * 4294967296 + b)) = false := decide_eq_false (by rw [← hD]; omega); refine Ev.step (f := fun k => bits_Div64.j1 k (D : Int) (s : Int) (a : Int) (b : Int) (u : Int) (c1 : Int) (c0 : Int) (q : Int) (r : Int) false) (fun k => ?_) ?_
  ·
   simp only [bits_Div64.l0]; have hq2 : ¬ 4294967296 ≤ q := fun h1 => by
    have := test_big h1 hu hc; omega
   rw [if_neg (by omega), test_code hq2 hb hr hc h, ht]
  refine Ev.step (fun k => ?_) hj; simp only [bits_Div64.j1]; rw [if_neg (by decide)]
 | succ n ih =>
  intro q r hq h hr; have hqa : q ≤ q * a := Nat.le_mul_of_pos_right _ ha; have hgt : u * 4294967296 + c1 < q * D := by
   rcases Nat.lt_or_ge (u * 4294967296 + c1) (q * D) with h1 | h1
   · exact h1
   have := hmax _ h1; omega
  have ht : decide (u * 4294967296 + c1 < q * (a * 4294967296 + b)) = true := decide_eq_true (by rw [← hD]; exact hgt); refine Ev.step (f := fun k => bits_Div64.j1 k (D : Int) (s : Int) (a : Int) (b : Int) (u : Int) (c1 : Int) (c0 : Int) (q : Int) (r : Int) true) (fun k => ?_) ?_
  ·
   simp only [bits_Div64.l0]; by_cases hq2 : 4294967296 ≤ q
   · rw [if_pos (by omega)]
   rw [if_neg (by omega), test_code hq2 hb hr hc h, ht]
  have e1 : IntKind.u64.wrap ((q : Int) - 1) = ((q - 1 : Nat) : Int) := by rw [u64w]; omega
  have e2 : IntKind.u64.wrap ((r : Int) + (a : Int)) = ((r + a : Nat) : Int) := by rw [u64w]; omega
  have h' : (q - 1) * a + (r + a) = u := by
   have : q * a = (q - 1) * a + a := by
    obtain ⟨m, rfl⟩ : ∃ m, q = m + 1 := ⟨q - 1, by omega⟩; rw [Nat.add_sub_cancel, Nat.add_mul, Nat.one_mul]
   omega
  by_cases hr2 : 4294967296 ≤ r + a
  ·
   have hb2 := test_break (c := c1) h' hr2 hb (by rw [← hD]; exact hu); rw [← hD] at hb2; have := hmax _ hb2; have hqe : q - 1 = qt := by omega
   refine Ev.step (fun k => ?_) hj; simp only [bits_Div64.j1]; rw [if_pos trivial, e2, if_pos (by omega), e1, hqe]
  refine Ev.step (fun k => ?_) (ih (q - 1) (r + a) (by omega) h' (by omega)); simp only [bits_Div64.j1]; rw [if_pos trivial, e2, if_neg (by omega), e1]
/-- The rest, as the code reckons it. -/
theorem rest_code {u c q D : Nat} (hD : D < 18446744073709551616) (h : q * D ≤ u * 4294967296 + c) (h2 : u * 4294967296 + c - q * D < D) :
  IntKind.u64.wrap ((IntKind.u64.wrap ((IntKind.u64.wrap ((u : Int) * 4294967296)) + (c : Int))) - (IntKind.u64.wrap ((q : Int) * (D : Int)))) = ((u * 4294967296 + c - q * D : Nat) : Int) := by
 rw [natmul, u64w, u64w, u64w, u64w]; generalize q * D = z at *; omega
theorem dl1_ev {q1 : Nat} (hD : D = a * 4294967296 + b) (ha : 0 < a) (ha2 : a < 4294967296) (hb : b < 4294967296) (hu : u < D) (hc : c0 < 4294967296) (hs : s ≤ 64) (hq1 : q1 < 4294967296) :
  ∀ n q r : Nat, q = (u * 4294967296 + c0) / D + n → q * a + r = u → r < 4294967296 → Ev (fun k => bits_Div64.l1 k (D : Int) (s : Int) (a : Int) (b : Int) (c0 : Int) (q1 : Int) (r : Int) (u : Int) (q : Int)) (((q1 * 4294967296 + (u * 4294967296 + c0) / D : Nat) : Int), (((u * 4294967296 + c0) % D / 2 ^ s : Nat) : Int)) := by
 have hD0 : 0 < D := by omega
 have hle := Nat.div_mul_le_self (u * 4294967296 + c0) D; have hD64 : D < 18446744073709551616 := by omega
 have hQ : (u * 4294967296 + c0) / D < 4294967296 := by
  rw [Nat.div_lt_iff_lt_mul hD0]; omega
 have hmod : u * 4294967296 + c0 - (u * 4294967296 + c0) / D * D = (u * 4294967296 + c0) % D := by
  have := Nat.div_add_mod (u * 4294967296 + c0) D; rw [Nat.mul_comm D] at this; omega
 have hrl : (u * 4294967296 + c0) % D < D := Nat.mod_lt _ hD0; have eq1' : ∀ z : Nat, z < 4294967296 → IntKind.u64.wrap ((IntKind.u64.wrap ((q1 : Int) * 4294967296)) + ((z : Nat) : Int)) = ((q1 * 4294967296 + z : Nat) : Int) := fun z hz => by
  rw [u64w, u64w]; omega
 have eq1 : IntKind.u64.wrap ((IntKind.u64.wrap ((q1 : Int) * 4294967296)) + (((u * 4294967296 + c0) / D : Nat) : Int)) = ((q1 * 4294967296 + (u * 4294967296 + c0) / D : Nat) : Int) := eq1' _ hQ; have hmax : ∀ q : Nat, q * D ≤ u * 4294967296 + c0 → q ≤ (u * 4294967296 + c0) / D := fun q h => le_quot hD0 h
 have er := rest_code (c := c0) (u := u) hD64 hle (by omega); rw [hmod] at er; have es : shr .u64 (((u * 4294967296 + c0) % D : Nat) : Int) (s : Int) = (((u * 4294967296 + c0) % D / 2 ^ s : Nat) : Int) := by
  unfold shr; rw [Int.toNat_natCast, show min s IntKind.u64.bits = s from Nat.min_eq_left hs]; norm_cast
 obtain ⟨qt, hqt⟩ : ∃ qt, (u * 4294967296 + c0) / D = qt := ⟨_, rfl⟩; obtain ⟨rt, hrt⟩ : ∃ rt, (u * 4294967296 + c0) % D = rt := ⟨_, rfl⟩; rw [hqt] at hle hmax eq1 er hQ ⊢; rw [hrt] at er es ⊢; clear hqt hrt hmod hrl; intro n; induction n with
 | zero =>
  intro q r hq h hr; have hq' : q = qt := hq; have ht : decide (u * 4294967296 + c0 < q * (a * 4294967296 + b)) = false := decide_eq_false (by rw [← hD, hq']; omega); refine Ev.step (f := fun k => bits_Div64.j4 k (D : Int) (s : Int) (a : Int) (b : Int) (c0 : Int) (q1 : Int) (r : Int) (u : Int) (q : Int) false) (fun k => ?_) ?_
  · simp only [bits_Div64.l1]; rw [if_neg (by omega), test_code (by omega) hb hr hc h, ht]
  refine Ev.step (f := fun _ => some (((q1 * 4294967296 + qt : Nat) : Int), ((rt / 2 ^ s : Nat) : Int))) (fun k => ?_) (Ev.now _); simp only [bits_Div64.j4]; rw [if_neg (by decide), if_pos (by omega), hq', eq1, er, es]
 | succ n ih =>
  intro q r hq h hr; have hqa : q ≤ q * a := Nat.le_mul_of_pos_right _ ha; have hgt : u * 4294967296 + c0 < q * D := by
   rcases Nat.lt_or_ge (u * 4294967296 + c0) (q * D) with h1 | h1
   · exact h1
   have := hmax _ h1; omega
  have ht : decide (u * 4294967296 + c0 < q * (a * 4294967296 + b)) = true := decide_eq_true (by rw [← hD]; exact hgt); refine Ev.step (f := fun k => bits_Div64.j4 k (D : Int) (s : Int) (a : Int) (b : Int) (c0 : Int) (q1 : Int) (r : Int) (u : Int) (q : Int) true) (fun k => ?_) ?_
  ·
   simp only [bits_Div64.l1]; by_cases hq2 : 4294967296 ≤ q
   · rw [if_pos (by omega)]
   rw [if_neg (by omega), test_code hq2 hb hr hc h, ht]
  have e1 : IntKind.u64.wrap ((q : Int) - 1) = ((q - 1 : Nat) : Int) := by rw [u64w]; omega
  have e2 : IntKind.u64.wrap ((r : Int) + (a : Int)) = ((r + a : Nat) : Int) := by rw [u64w]; omega
  have h' : (q - 1) * a + (r + a) = u := by
   have : q * a = (q - 1) * a + a := by
    obtain ⟨m, rfl⟩ : ∃ m, q = m + 1 := ⟨q - 1, by omega⟩; rw [Nat.add_sub_cancel, Nat.add_mul, Nat.one_mul]
   omega
  by_cases hr2 : 4294967296 ≤ r + a
  ·
   have hb2 := test_break (c := c0) h' hr2 hb (by rw [← hD]; exact hu); rw [← hD] at hb2; have := hmax _ hb2; have hqe : q - 1 = qt := by omega
   refine Ev.step (f := fun _ => some (((q1 * 4294967296 + qt : Nat) : Int), ((rt / 2 ^ s : Nat) : Int))) (fun k => ?_) (Ev.now _); simp only [bits_Div64.j4]; rw [if_pos trivial, e2, if_pos (by omega), if_pos (by omega), e1, hqe, eq1, er, es]
  refine Ev.step (fun k => ?_) (ih (q - 1) (r + a) (by omega) h' (by omega)); simp only [bits_Div64.j4]; rw [if_pos trivial, e2, if_neg (by omega), e1]
end
theorem or_add (x s y : Nat) (hy : y < 2 ^ s) (h : x * 2 ^ s + y < 18446744073709551616) : Go.bits .or .u64 ((x * 2 ^ s : Nat) : Int) ((y : Nat) : Int) = ((x * 2 ^ s + y : Nat) : Int) := by
 have e : x * 2 ^ s ||| y = x * 2 ^ s + y := by
  rw [Nat.mul_comm]; exact (Nat.two_pow_add_eq_or_of_lt hy x).symm
 rw [bits_or_u64_nat _ _ (by omega) (by omega), e]
theorem and_low (x : Nat) (h : x < 18446744073709551616) : Go.bits .and .u64 (x : Int) 4294967295 = ((x % 4294967296 : Nat) : Int) := by
 have e : x &&& 4294967295 = x % 4294967296 := Nat.and_two_pow_sub_one_eq_mod x 32; have h2 := bits_and_u64_nat x 4294967295 h (by decide); rw [e] at h2; exact h2
theorem div64_ev (hi lo y : Nat) (h : hi < y) (hl : lo < 18446744073709551616) (hy : y < 18446744073709551616) :
  Ev (fun k => bits_Div64.f k (hi : Int) (lo : Int) (y : Int)) ((((hi * 18446744073709551616 + lo) / y : Nat) : Int), (((hi * 18446744073709551616 + lo) % y : Nat) : Int)) := by
 have hy0 : y ≠ 0 := by omega
 by_cases h0 : hi = 0
 · subst h0; refine Ev.congr (f := fun _ => some ((((0 * 18446744073709551616 + lo) / y : Nat) : Int), (((0 * 18446744073709551616 + lo) % y : Nat) : Int))) (fun k => ?_) (Ev.now _); unfold bits_Div64.f; have hlt : lo / y < 18446744073709551616 := Nat.lt_of_le_of_lt (Nat.div_le_self _ _) hl; rw [if_neg (by omega), if_neg (by omega), if_pos (show ((0 : Nat) : Int) = 0 from rfl), tdivn, tmodn, u64n hlt, Nat.zero_mul, Nat.zero_add]
 obtain ⟨s, hs⟩ : ∃ s, s = 64 - Lib.bitLen y := ⟨_, rfl⟩; have hbl := bitLen_le64 hy; obtain ⟨hbl1, _, _⟩ := bitLen_bounds hy hy0; obtain ⟨ht1, ht2⟩ := raised_top hy hy0; rw [← hs] at ht1 ht2; have hs64 : s ≤ 64 := by omega
 have hs63 : s < 64 := by omega
 obtain ⟨D, hD⟩ : ∃ D, D = y * 2 ^ s := ⟨_, rfl⟩; rw [← hD] at ht1 ht2; obtain ⟨u, hu⟩ : ∃ u, u = hi * 2 ^ s + lo / 2 ^ (64 - s) := ⟨_, rfl⟩; obtain ⟨c, hc⟩ : ∃ c, c = (lo * 2 ^ s) % 18446744073709551616 := ⟨_, rfl⟩; have hN := raised_eq hi lo s hs64; have huD := raised_lt (hi := hi) (lo := lo) (y := y) hs64 h hl; rw [← hu, ← hc] at hN; rw [← hu, ← hD] at huD; have hc64 : c < 18446744073709551616 := by rw [hc]; exact Nat.mod_lt _ (by decide)
 have hDe : D = D / 4294967296 * 4294967296 + D % 4294967296 := by omega
 have hce : c = c / 4294967296 * 4294967296 + c % 4294967296 := by omega
 have ha : 0 < D / 4294967296 := by omega
 have ha2 : D / 4294967296 < 4294967296 := by omega
 obtain ⟨hq, hr⟩ := two_digits u (c / 4294967296) (c % 4294967296) D (by omega); rw [← hce, hN, hD, Nat.mul_div_mul_right _ _ (Nat.two_pow_pos s), ← hD] at hq; rw [← hce, hN, hD, Nat.mul_mod_mul_right, ← hD] at hr; obtain ⟨q1, hq1⟩ : ∃ q1, q1 = (u * 4294967296 + c / 4294967296) / D := ⟨_, rfl⟩; obtain ⟨r1, hr1⟩ : ∃ r1, r1 = (u * 4294967296 + c / 4294967296) % D := ⟨_, rfl⟩; have hr1D : r1 < D := by rw [hr1]; exact Nat.mod_lt _ (by omega)
 have hq1P : q1 < 4294967296 := by
  rw [hq1, Nat.div_lt_iff_lt_mul (by omega)]; omega
 rw [← hq1, ← hr1] at hq; rw [← hr1] at hr; have hrr : (r1 * 4294967296 + c % 4294967296) % D / 2 ^ s = (hi * 18446744073709551616 + lo) % y := by
  rw [← hr, Nat.mul_div_cancel _ (Nat.two_pow_pos s)]
 -- the second digit
 have hg2 := guess_ge (a := D / 4294967296) (b := D % 4294967296) (u := r1) (c := c % 4294967296) ha (by omega); rw [← hDe] at hg2; have hv2 := dl1_ev (D := D) (s := s) (a := D / 4294967296) (b := D % 4294967296) (u := r1) (c0 := c % 4294967296) (q1 := q1) hDe ha ha2 (by omega) hr1D (by omega) hs64 hq1P
  (r1 / (D / 4294967296) - (r1 * 4294967296 + c % 4294967296) / D) (r1 / (D / 4294967296)) (r1 % (D / 4294967296)) (by omega) (by rw [Nat.mul_comm]; exact Nat.div_add_mod _ _) (Nat.lt_trans (Nat.mod_lt _ ha) ha2)
 rw [hrr, ← hq] at hv2; have hle1 : q1 * D ≤ u * 4294967296 + c / 4294967296 := by rw [hq1]; exact Nat.div_mul_le_self _ _
 have hm1 : u * 4294967296 + c / 4294967296 - q1 * D = r1 := by
  have := Nat.div_add_mod (u * 4294967296 + c / 4294967296) D; rw [← hq1, ← hr1, Nat.mul_comm] at this; omega
 have hrest := rest_code (u := u) (c := c / 4294967296) (q := q1) (D := D) ht2 hle1 (by omega); rw [hm1] at hrest; have hdq : r1 / (D / 4294967296) < 18446744073709551616 := Nat.lt_of_le_of_lt (Nat.div_le_self _ _) (by omega); have hmm : ∀ x a : Nat, 0 < a → x < 18446744073709551616 → IntKind.u64.wrap ((x : Int) - (IntKind.u64.wrap ((IntKind.u64.wrap (Int.tdiv (x : Int) (a : Int))) * (a : Int)))) = ((x % a : Nat) : Int) := fun x a ha hx => by
  have h1 := Nat.div_add_mod x a; have h2 : x / a ≤ x := Nat.div_le_self _ _; rw [Nat.mul_comm] at h1; rw [tdivn, u64n (by omega), natmul, u64w, u64w]; generalize x / a * a = z at *; omega
 have hj2 : Ev (fun k => bits_Div64.j2 k (D : Int) (s : Int) ((D / 4294967296 : Nat) : Int) ((D % 4294967296 : Nat) : Int) (u : Int) ((c / 4294967296 : Nat) : Int) ((c % 4294967296 : Nat) : Int) (q1 : Int)) ((((hi * 18446744073709551616 + lo) / y : Nat) : Int), (((hi * 18446744073709551616 + lo) % y : Nat) : Int)) := by
  refine Ev.step (fun k => ?_) hv2; simp only [bits_Div64.j2]; rw [if_neg (by omega), hrest, hmm r1 _ ha (by omega), tdivn, u64n hdq]
 have hg1 := guess_ge (a := D / 4294967296) (b := D % 4294967296) (u := u) (c := c / 4294967296) ha (by omega); rw [← hDe] at hg1; have hv1 := dl0_ev (D := D) (s := s) (a := D / 4294967296) (b := D % 4294967296) (u := u) (c1 := c / 4294967296) (c0 := c % 4294967296) hDe ha ha2 (by omega) huD (by omega) (by rw [← hq1]; exact hj2)
  (u / (D / 4294967296) - (u * 4294967296 + c / 4294967296) / D) (u / (D / 4294967296)) (u % (D / 4294967296)) (by omega) (by rw [Nat.mul_comm]; exact Nat.div_add_mod _ _) (Nat.lt_trans (Nat.mod_lt _ ha) ha2)
 have hsw : IntKind.u64.wrap (64 - ((Lib.bitLen y : Nat) : Int)) = (s : Int) := by rw [u64w]; omega
 have hsw2 : IntKind.u64.wrap (64 - (s : Int)) = ((64 - s : Nat) : Int) := by rw [u64w]; omega
 have hshl : ∀ x : Nat, shl .u64 (x : Int) (s : Int) = (((x * 2 ^ s) % 18446744073709551616 : Nat) : Int) := fun x => by
  unfold shl; have e : (x : Int) * 2 ^ s = ((x * 2 ^ s : Nat) : Int) := by rw [Int.natCast_mul, Int.natCast_pow]; rfl
  rw [Int.toNat_natCast, show min s IntKind.u64.bits = s from Nat.min_eq_left hs64, u64w, e]; generalize x * 2 ^ s = z; omega
 have hshr : shr .u64 (lo : Int) ((64 - s : Nat) : Int) = ((lo / 2 ^ (64 - s) : Nat) : Int) := by
  unfold shr; rw [Int.toNat_natCast, show min (64 - s) IntKind.u64.bits = 64 - s from Nat.min_eq_left (by show 64 - s ≤ 64; omega)]; norm_cast
 have hlow : lo / 2 ^ (64 - s) < 2 ^ s := by
  rw [Nat.div_lt_iff_lt_mul (Nat.two_pow_pos _), ← Nat.pow_add, Nat.add_sub_cancel' hs64]; exact hl
 have hD1 : shl .u64 (y : Int) (s : Int) = (D : Int) := by rw [hshl, ← hD, Nat.mod_eq_of_lt ht2]
 have hh1 : shl .u64 (hi : Int) (s : Int) = ((hi * 2 ^ s : Nat) : Int) := by rw [hshl, Nat.mod_eq_of_lt (Nat.lt_of_le_of_lt (by rw [hu]; exact Nat.le_add_right _ _) (Nat.lt_trans huD ht2))]
 have hc1 : shl .u64 (lo : Int) (s : Int) = (c : Int) := by rw [hshl, ← hc]
 have hu1 : Go.bits .or .u64 ((hi * 2 ^ s : Nat) : Int) ((lo / 2 ^ (64 - s) : Nat) : Int) = (u : Int) := by rw [or_add hi s _ hlow (by rw [← hu]; exact Nat.lt_trans huD ht2), ← hu]
 have hda : (D : Int) / 4294967296 = ((D / 4294967296 : Nat) : Int) := by omega
 have hca : (c : Int) / 4294967296 = ((c / 4294967296 : Nat) : Int) := by omega
 have huq : u / (D / 4294967296) < 18446744073709551616 := Nat.lt_of_le_of_lt (Nat.div_le_self _ _) (by omega); refine Ev.congr (fun k => ?_) hv1; unfold bits_Div64.f bits_LeadingZeros64.f; rw [if_neg (by omega), if_neg (by omega), if_neg (by omega), if_pos (by omega), if_pos (by omega), Option.bind_some, Int.toNat_natCast, hsw, if_pos (by omega), hsw2, if_pos (by omega), hD1, hh1, hshr, hu1, hc1, hda, hca, if_neg (by omega), and_low D ht2, and_low c hc64, hmm u _ ha (by omega), tdivn, u64n huq]
end Go.Proofs.YtgbjojokjekmhaaGreatDoor.Num
