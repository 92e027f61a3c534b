/- The law of PointNear answers true; conditions: a double's bits. -/
import Derived.Test.YtgbjojokjekmhaaGreatDoorNatU
import Derived.Test.YtgbjojokjekmhaaGreatDoorPtT
import Derived.Test.YtgbjojokjekmhaaGreatDoorNearR
import Derived.Test.YtgbjojokjekmhaaGreatDoorPlacT
import Derived.Test.YtgbjojokjekmhaaGreatDoorPXNy
import Derived.Test.YtgbjojokjekmhaaGreatDoorRdrT
namespace Go.Proofs.YtgbjojokjekmhaaGreatDoor.Num
open Go.RowKit Go.Proofs.YtgbjojokjekmhaaGreatDoor.PXC Go.Proofs.YtgbjojokjekmhaaGreatDoorW.PrintWords Go.Proofs.YtgbjojokjekmhaaGreatDoorW.PrintLast Go.Proofs.YtgbjojokjekmhaaGreatDoorW.PrintMore
set_option linter.unusedVariables false
set_option exponentiation.threshold 3000
set_option linter.unusedSimpArgs false

def vI (l : List Int) : Int := ((val l : Nat) : Int)
def pw (n : Nat) : Int := ((B ^ n : Nat) : Int)
theorem pw_zero : pw 0 = 1 := rfl
theorem pw_succ (n : Nat) : pw (n + 1) = pw n * 18446744073709551616 := by
 unfold pw; rw [Nat.pow_succ, Int.natCast_mul]; rfl
theorem vI_cons {x : Int} (hx : 0 ≤ x) (l : List Int) : vI (x :: l) = x + 18446744073709551616 * vI l := by
 unfold vI; rw [val, Int.natCast_add, Int.natCast_mul, Int.toNat_of_nonneg hx]; rfl
theorem vI_append (a b : List Int) : vI (a ++ b) = vI a + pw a.length * vI b := by
 unfold vI pw; rw [val_append, Int.natCast_add, Int.natCast_mul]
theorem vI_set {l : List Int} (h : Lm l) {p : Nat} (hp : p < l.length) {x : Int} (hx : 0 ≤ x) : vI (l.set p x) = vI l + (x - l[p]) * pw p := by
 have hl : l = l.take p ++ l[p] :: l.drop (p + 1) := by rw [← List.drop_eq_getElem_cons hp, List.take_append_drop]
 have ht : (l.take p).length = p := List.length_take_of_le (Nat.le_of_lt hp); have hy := (h _ (List.getElem_mem hp)).1; have hs : l.set p x = l.take p ++ x :: l.drop (p + 1) := by
  conv => lhs; rw [hl]
  rw [List.set_append_right _ _ (by rw [ht]; exact Nat.le_refl _), ht, Nat.sub_self, List.set_cons_zero]
 have e1 : vI l = vI (l.take p) + pw p * (l[p] + 18446744073709551616 * vI (l.drop (p + 1))) := by
  conv => lhs; rw [hl, vI_append, ht, vI_cons hy]
 rw [hs, vI_append, ht, vI_cons hx, e1]; generalize (18446744073709551616 : Int) = Q; grind
theorem vI_drop {l : List Int} (h : Lm l) {p : Nat} (hp : p < l.length) : vI (l.drop p) = l[p] + 18446744073709551616 * vI (l.drop (p + 1)) := by
 rw [List.drop_eq_getElem_cons hp, vI_cons (h _ (List.getElem_mem hp)).1]
theorem vI_take_sz (l : List Int) : vI (l.take (sz l)) = vI l := by unfold vI; rw [val_sz]
theorem cut_val (l : List Int) (hl : Lm l) (hn : l.length ≤ 4096) : Ev (fun k => nat_cut.f k l) (l.take (sz l), 0) ∧ Okl l.length (l.take (sz l)) := by
 have h1 := sz_le l; refine ⟨cut_ev l (by omega) (by omega), lm_take hl _, ?_, ?_⟩
 · have := sz_le (l.take (sz l)); rw [List.length_take] at this; omega
 rw [List.length_take]; omega
/-- One step of the product: a limb times a limb, the row's limb and the carry. -/
theorem mul_step {a b y c : Int} (ha : 0 ≤ a ∧ a < 18446744073709551616) (hb : 0 ≤ b ∧ b < 18446744073709551616) (hy : 0 ≤ y ∧ y < 18446744073709551616) (hc : 0 ≤ c ∧ c < 18446744073709551616) :
  ∃ hi lo s1 k1 s2 k2, bits_Mul64.f a b = some (hi, lo) ∧ bits_Add64.f lo y 0 = some (s1, k1) ∧ bits_Add64.f s1 c 0 = some (s2, k2) ∧ (0 ≤ s2 ∧ s2 < 18446744073709551616) ∧
   (0 ≤ IntKind.u64.wrap (IntKind.u64.wrap (hi + k1) + k2) ∧ IntKind.u64.wrap (IntKind.u64.wrap (hi + k1) + k2) < 18446744073709551616) ∧ s2 + IntKind.u64.wrap (IntKind.u64.wrap (hi + k1) + k2) * 18446744073709551616 = a * b + y + c := by
 obtain ⟨M, hM⟩ : ∃ M, a * b = M := ⟨_, rfl⟩; have hM0 : 0 ≤ M := by rw [← hM]; exact Int.mul_nonneg ha.1 hb.1
 have hM1 : M ≤ 18446744073709551615 * 18446744073709551615 := by
  rw [← hM]; exact Int.mul_le_mul (by omega) (by omega) hb.1 (by omega)
 refine ⟨M / 18446744073709551616, M % 18446744073709551616, (M % 18446744073709551616 + y + 0) % 18446744073709551616, (M % 18446744073709551616 + y + 0) / 18446744073709551616, ((M % 18446744073709551616 + y + 0) % 18446744073709551616 + c + 0) % 18446744073709551616, ((M % 18446744073709551616 + y + 0) % 18446744073709551616 + c + 0) / 18446744073709551616, ?_, ?_, ?_, by omega, wrap_rng _, ?_⟩
 · unfold bits_Mul64.f; rw [if_pos ⟨ha.1, ha.2, hb.1, hb.2⟩, hM]
 · unfold bits_Add64.f; rw [if_pos ⟨by omega, hy.1, by omega, by omega⟩]
 · unfold bits_Add64.f; rw [if_pos ⟨by omega, hc.1, by omega, by omega⟩]
 rw [wrap_eq, wrap_eq]; omega
/-- As short as it can be. -/
def Tight (r : List Int) : Prop := ∀ n, vI r < pw n → r.length ≤ n
theorem tight_take {l : List Int} (h : Lm l) : Tight (l.take (sz l)) := by
 intro n hn; rw [vI_take_sz] at hn; have : sz l ≤ n := sz_le_of_val h (by unfold vI pw at hn; omega); rw [List.length_take]; omega
theorem mul0_val (a b : List Int) (ha : Lm a) (hb : Lm b) (hn : a.length + b.length ≤ 4096) : ∀ (n i : Nat) (x6 : List Int), i + n = a.length → Lm x6 → x6.length = a.length + b.length → (∀ p (hp : p < x6.length), i + b.length ≤ p → x6[p] = 0) →
  ∃ r, Ev (fun k => nat_Mul.l0 k b x6 a (a.length : Int) (i : Int)) (r, 0) ∧ Okl 4096 r ∧ Tight r ∧ vI r = vI x6 + vI (a.drop i) * pw i * vI b := by
 intro n; induction n with
 | zero =>
  intro i x6 hi h6 hl6 _; obtain ⟨hev, hok⟩ := cut_val x6 h6 (by omega); have c1 : ¬ (i : Int) < (a.length : Int) := by omega
  refine ⟨_, ?_, hok.mono (by omega), tight_take h6, ?_⟩
  · refine Ev.step (f := fun k => (nat_cut.f k x6).bind fun y => some (y.1, y.2)) (fun k => ?_) (Ev.bind (f := fun _ y => some (y.1, y.2)) hev (Ev.now _)); simp only [nat_Mul.l0, c1, if_false]
  rw [vI_take_sz, List.drop_of_length_le (by omega)]; have : vI [] = 0 := rfl; rw [this]; omega
 | succ n ih =>
  intro i x6 hi h6 hl6 hz; have c1 : (i : Int) < (a.length : Int) := by omega
  have c2 : (0 : Int) ≤ (i : Int) := by omega
  have e1 := Aside0.mk (show wrap64 ((i : Int) + (b.length : Int)) = ((i + b.length : Nat) : Int) from w64n (by omega)); have e3 := Aside0.mk (show wrap64 ((i : Int) + 1) = ((i + 1 : Nat) : Int) from w64s (by omega)); have hia : i < a.length := by omega
  have hra : rd a (i : Int) = a[i] := rd_nat a hia; have inner : ∀ (m j : Nat) (y6 : List Int) (cy : Int), j + m = b.length → Lm y6 → y6.length = a.length + b.length → (0 ≤ cy ∧ cy < 18446744073709551616) → (∀ p (hp : p < y6.length), i + b.length ≤ p → y6[p] = 0) →
    ∃ r, Ev (fun k => nat_Mul.l1 k b y6 (i : Int) (rd a (i : Int)) cy a (a.length : Int) (i : Int) b (b.length : Int) (j : Int)) (r, 0) ∧ Okl 4096 r ∧ Tight r ∧ vI r = vI y6 + (cy + a[i] * vI (b.drop j)) * pw (i + j) + vI (a.drop (i + 1)) * pw (i + 1) * vI b := by
   intro m; induction m with
   | zero =>
    intro j y6 cy hj h6 hl6 hcy hz; have hp : i + b.length < y6.length := by omega
    obtain ⟨r, hev, hok, hti, hv⟩ := ih (i + 1) (y6.set (i + b.length) cy) (by omega) (lm_set h6 _ hcy) (by rw [List.length_set]; exact hl6) (fun p hpl hpi => by
     rw [List.getElem_set_ne (by omega)]; exact hz p (by rw [List.length_set] at hpl; exact hpl) (by omega))
    have d1 : ¬ (j : Int) < (b.length : Int) := by omega
    have d2 : (0 : Int) ≤ ((i + b.length : Nat) : Int) := by omega
    have d3 : ((i + b.length : Nat) : Int) < (y6.length : Int) := by omega
    refine ⟨r, Ev.step (fun k => ?_) hev, hok, hti, ?_⟩
    · simp only [nat_Mul.l1, d1, if_false, e1.out, d2, d3, if_true, e3.out, Int.toNat_natCast]
    have h0 := hz (i + b.length) hp (Nat.le_refl _); have hj2 : j = b.length := by omega
    rw [hv, vI_set h6 hp hcy.1, h0, hj2, List.drop_of_length_le (Nat.le_refl _)]; have : vI [] = 0 := rfl; rw [this]; generalize vI (a.drop (i + 1)) * pw (i + 1) * vI b = rest; generalize pw (i + b.length) = P; generalize a[i] = aa; clear hv hev hok ih hz h0; grind
   | succ m ihm =>
    intro j y6 cy hj h6 hl6 hcy hz; have d1 : (j : Int) < (b.length : Int) := by omega
    have d2 : (0 : Int) ≤ (j : Int) := by omega
    have f1 := Aside0.mk (show wrap64 ((i : Int) + (j : Int)) = ((i + j : Nat) : Int) from w64n (by omega)); have f2 := Aside0.mk (show wrap64 ((j : Int) + 1) = ((j + 1 : Nat) : Int) from w64s (by omega)); have d3 : (0 : Int) ≤ ((i + j : Nat) : Int) := Int.natCast_nonneg _; have hpl : i + j < y6.length := by omega
    have d4 : ((i + j : Nat) : Int) < (y6.length : Int) := Int.ofNat_lt.2 hpl; have hjb : j < b.length := by omega
    have hrb : rd b (j : Int) = b[j] := rd_nat b hjb; have hry : rd y6 ((i + j : Nat) : Int) = y6[i + j] := rd_nat y6 hpl; obtain ⟨hi', lo, s1, k1, s2, k2, hm, ha1, ha2, hs2, hcy2, heq⟩ := mul_step (lm_rd ha (i : Int)) (lm_rd hb (j : Int)) (lm_rd h6 ((i + j : Nat) : Int)) hcy; obtain ⟨r, hev, hok, hti, hv⟩ := ihm (j + 1) (y6.set (i + j) s2) (IntKind.u64.wrap (IntKind.u64.wrap (hi' + k1) + k2)) (by omega) (lm_set h6 _ hs2) (by rw [List.length_set]; exact hl6) hcy2 (fun p hp hpi => by
     rw [List.getElem_set_ne (by omega)]; exact hz p (by rw [List.length_set] at hp; exact hp) hpi)
    refine ⟨r, Ev.step (fun k => ?_) hev, hok, hti, ?_⟩
    · simp only [nat_Mul.l1, d1, d2, f1.out, f2.out, d3, d4, if_true, hm, ha1, ha2, Option.bind_some, Int.toNat_natCast]
    rw [hra, hrb, hry] at heq; have hpw : pw (i + (j + 1)) = pw (i + j) * 18446744073709551616 := pw_succ (i + j); rw [hv, vI_set h6 hpl hs2.1, vI_drop hb hjb, hpw]; generalize IntKind.u64.wrap (IntKind.u64.wrap (hi' + k1) + k2) = c2 at heq ⊢; generalize vI (a.drop (i + 1)) * pw (i + 1) * vI b = rest; generalize vI (b.drop (j + 1)) = v2; generalize pw (i + j) = P; generalize y6[i + j] = yy at heq ⊢; generalize a[i] = aa at heq ⊢; generalize b[j] = bb at heq ⊢; generalize (18446744073709551616 : Int) = Q at heq ⊢; generalize vI y6 = vy; clear hv hev hok ih ihm hz hm ha1 ha2 hs2 hcy2; clear hcy h6 hl6 d1 d2 d3 d4 f1 f2 hpl hjb hrb hry hpw c1 e1 e3 hia hra; grind
  obtain ⟨r, hev, hok, hti, hv⟩ := inner b.length 0 x6 0 (by omega) h6 hl6 limb0 hz; refine ⟨r, Ev.step (fun k => ?_) hev, hok, hti, ?_⟩
  · simp only [nat_Mul.l0, c1, c2, if_true]; rfl
  rw [hv, List.drop_zero, Nat.add_zero, vI_drop ha hia, pw_succ]; generalize vI (a.drop (i + 1)) = v; generalize pw i = P; generalize a[i] = aa; generalize (18446744073709551616 : Int) = Q; generalize vI x6 = vx; generalize vI b = vb; clear hv hev hok ih hz inner; grind
theorem vI_rep (n : Nat) : vI (List.replicate n 0) = 0 := by unfold vI; rw [val_replicate]; rfl
theorem tight_nil : Tight [] := fun n _ => Nat.zero_le n
theorem mulj1_val (a b : List Int) (z : Bool) (ha : Lm a) (hb : Lm b) (hn : a.length + b.length ≤ 4096) (hz : z = false → 0 < a.length + b.length) (hz2 : z = true → vI a * vI b = 0) : ∃ r, Ev (fun k => nat_Mul.j1 k a b z) (r, 0) ∧ Okl 4096 r ∧ Tight r ∧ vI r = vI a * vI b := by
 cases z with
 | true => exact ⟨[], Ev.step (f := fun _ => some ([], 0)) (fun k => by simp only [nat_Mul.j1, if_true]) (Ev.now _), okl_nil _, tight_nil, (hz2 rfl).symm⟩
 | false =>
  have hz := hz rfl; have hbig : ¬ ((a.length + b.length : Nat) : Int) - 1 > 4096 := by omega
  have c3 : (0 : Int) ≤ ((a.length + b.length : Nat) : Int) := by omega
  have c4 : a.length + b.length ≤ 35184372088832 := by omega
  obtain ⟨r, hev, hok, hti, hv⟩ := mul0_val a b ha hb hn a.length 0 (List.replicate (a.length + b.length) 0) (by omega) (lm_replicate _) (by rw [List.length_replicate]) (fun p hp _ => List.getElem_replicate ..); rw [vI_rep, List.drop_zero, pw_zero] at hv; have e1 : wrap64 ((a.length : Int) + (b.length : Int)) = ((a.length + b.length : Nat) : Int) := by rw [w64 (by omega) (by omega)]; omega
  have e2 : wrap64 (((a.length + b.length : Nat) : Int) - 1) = ((a.length + b.length : Nat) : Int) - 1 := w64 (by clear e1; omega) (by clear e1; omega); refine ⟨r, Ev.step (fun k => ?_) hev, hok, hti, by rw [hv, Int.mul_one, Int.zero_add]⟩; simp only [nat_Mul.j1, if_false, e1, e2, hbig, Bool.false_eq_true, c3, if_true, Int.toNat_natCast, c4]; rfl
theorem Mul_val (a b : List Int) (ha : Lm a) (hb : Lm b) (hn : a.length + b.length ≤ 4096) : ∃ r, Ev (fun k => nat_Mul.f k a b) (r, 0) ∧ Okl 4096 r ∧ Tight r ∧ vI r = vI a * vI b := by
 have A := sz_le a; have B := sz_le b; have hA : (a.take (sz a)).length = sz a := List.length_take_of_le A; have hB : (b.take (sz b)).length = sz b := List.length_take_of_le B; have c1 : (0 : Int) ≤ ((sz a : Nat) : Int) := by omega
 have c2 : ((sz a : Nat) : Int) ≤ (a.length : Int) := by omega
 have c3 : (0 : Int) ≤ ((sz b : Nat) : Int) := by omega
 have c4 : ((sz b : Nat) : Int) ≤ (b.length : Int) := by omega
 have va := vI_take_sz a; have vb := vI_take_sz b; have main : ∃ r, Ev (fun k => nat_Mul.j0 k a b false) (r, 0) ∧ Okl 4096 r ∧ Tight r ∧ vI r = vI a * vI b := by
  by_cases h0 : ((sz a : Nat) : Int) = 0
  ·
   have hv0 : vI (a.take (sz a)) = 0 := by
    have : a.take (sz a) = [] := List.eq_nil_of_length_eq_zero (by omega); rw [this]; rfl
   obtain ⟨r, hev, hok, hti, hv⟩ := mulj1_val (a.take (sz a)) (b.take (sz b)) true (lm_take ha _) (lm_take hb _) (by omega) (fun h => by cases h) (fun _ => by rw [hv0, Int.zero_mul]); rw [va, vb] at hv; refine ⟨r, Ev.step (fun k => by rw [nat_Mul.j0, if_neg (by decide)]) ?_, hok, hti, hv⟩; refine Evx.bindc (size_ev a (by omega)) (fun k => by rw [if_pos c1, if_pos c2]) ?_; refine Evx.bindc (size_ev b (by omega)) (fun k => by rw [if_pos c3, if_pos c4, Int.toNat_natCast, Int.toNat_natCast, hA, if_pos h0]) ?_; exact hev
  obtain ⟨r, hev, hok, hti, hv⟩ := mulj1_val (a.take (sz a)) (b.take (sz b)) (((sz b : Nat) : Int) == 0) (lm_take ha _) (lm_take hb _) (by omega) (fun h => by omega) (fun h => by
   have hb0 : b.take (sz b) = [] := List.eq_nil_of_length_eq_zero (by have := beq_iff_eq.1 h; omega); have : vI (b.take (sz b)) = 0 := by rw [hb0]; rfl
   rw [this, Int.mul_zero])
  rw [va, vb] at hv; refine ⟨r, Ev.step (fun k => by rw [nat_Mul.j0, if_neg (by decide)]) ?_, hok, hti, hv⟩; refine Evx.bindc (size_ev a (by omega)) (fun k => by rw [if_pos c1, if_pos c2]) ?_; refine Evx.bindc (size_ev b (by omega)) (fun k => by rw [if_pos c3, if_pos c4, Int.toNat_natCast, Int.toNat_natCast, hA, hB, if_neg h0]) ?_; exact hev
 obtain ⟨r, hev, hok, hti, hv⟩ := main; refine ⟨r, ?_, hok, hti, hv⟩; unfold nat_Mul.f; refine Evx.bindc (big_ev a (by omega)) (fun k => by rw [decide_eq_false (by omega), if_neg (by decide)]) ?_; refine Ev.bind (big_ev b (by omega)) ?_; rw [decide_eq_false (by omega)]; exact hev
end Go.Proofs.YtgbjojokjekmhaaGreatDoor.Num
namespace Go.Proofs.YtgbjojokjekmhaaGreatDoor.Num
open Go.RowKit Go.Proofs.YtgbjojokjekmhaaGreatDoor.PXC Go.Proofs.YtgbjojokjekmhaaGreatDoorW.PrintWords Go.Proofs.YtgbjojokjekmhaaGreatDoorW.PrintLast Go.Proofs.YtgbjojokjekmhaaGreatDoorW.PrintMore
set_option linter.unusedVariables false
set_option exponentiation.threshold 3000
set_option linter.unusedSimpArgs false

def five (e : Nat) : Int := ((5 ^ e : Nat) : Int)
theorem five_add (a b : Nat) : five (a + b) = five a * five b := by unfold five; rw [Nat.pow_add, Int.natCast_mul]
theorem five_big : 5 ^ 1100 < B ^ 41 := by decide +kernel
theorem five_pw {e : Nat} (h : e ≤ 1100) : five e < pw 41 := by
 unfold five pw; have h1 : 5 ^ e ≤ 5 ^ 1100 := Nat.pow_le_pow_right (by decide) h; have h2 := five_big; exact Int.ofNat_lt.2 (Nat.lt_of_le_of_lt h1 h2)
theorem and_one {x : Nat} (h : x < 9223372036854775808) : Go.bits .and .i64 (x : Int) 1 = ((x % 2 : Nat) : Int) := by
 have h2 : (BitVec.ofInt 64 (x : Int)).toNat = x := by
  rw [BitVec.ofInt_natCast, BitVec.toNat_ofNat]; exact Nat.mod_eq_of_lt (by omega)
 have h3 : (BitVec.ofInt 64 (1 : Int)).toNat = 1 := by decide
 show IntKind.i64.wrap ((BitVec.ofInt 64 (x : Int) &&& BitVec.ofInt 64 (1 : Int)).toNat : Int) = _; rw [BitVec.toNat_and, h2, h3, Nat.and_one_is_mod, IntKind.wrap_i64]; omega
theorem bit_at {s n : Nat} (hs : s ≤ 1100) (hn : n ≤ 60) : Go.bits .and .i64 (shr .i64 (s : Int) (IntKind.u64.wrap (n : Int))) 1 = ((s / 2 ^ n % 2 : Nat) : Int) := by
 have hw : IntKind.u64.wrap (n : Int) = (n : Int) := by rw [wrap_eq]; omega
 have e : shr .i64 (s : Int) (n : Int) = ((s / 2 ^ n : Nat) : Int) := by
  unfold shr; have hb : min ((n : Int)).toNat IntKind.i64.bits = n := by
   rw [Int.toNat_natCast]; show min n 64 = n; omega
  rw [hb, Int.natCast_ediv, Int.natCast_pow]; rfl
 rw [hw, e]; exact and_one (Nat.lt_of_le_of_lt (Nat.div_le_self _ _) (by omega))
theorem pow_val {s : Nat} (hs : s ≤ 1100) : ∀ (n : Nat) (x9 : List Int), n ≤ 60 → Okl 4096 x9 → Tight x9 → vI x9 = five (s / 2 ^ n) → ∃ r, Ev (fun k => quot_Pow.l0 k (s : Int) [5] x9 ((n : Int) - 1)) (r, 0) ∧ Okl 4096 r ∧ Tight r ∧ vI r = five s := by
 intro n; induction n with
 | zero =>
  intro x9 _ h9 ht hv; rw [Nat.pow_zero, Nat.div_one] at hv; exact ⟨x9, Ev.step (f := fun _ => some (x9, 0)) (fun k => by rw [quot_Pow.l0, if_neg (by omega)]) (Ev.now _), h9, ht, hv⟩
 | succ n ih =>
  intro x9 hn h9 ht hv; have e1 : ((n + 1 : Nat) : Int) - 1 = (n : Int) := by omega
  have e2 : wrap64 ((n : Int) - 1) = (n : Int) - 1 := w64 (by omega) (by omega); have hdiv : s / 2 ^ n = 2 * (s / 2 ^ (n + 1)) + s / 2 ^ n % 2 := by
   rw [Nat.pow_succ, ← Nat.div_div_eq_div_mul]; omega
  have hle : s / 2 ^ n ≤ 1100 := Nat.le_trans (Nat.div_le_self _ _) hs; obtain ⟨q, hq⟩ : ∃ q, s / 2 ^ (n + 1) = q := ⟨_, rfl⟩; obtain ⟨b, hb⟩ : ∃ b, s / 2 ^ n % 2 = b := ⟨_, rfl⟩; have hbit := bit_at hs (show n ≤ 60 by omega); rw [hb] at hbit hdiv; rw [hq] at hv hdiv; have hl9 : x9.length ≤ 41 := ht 41 (by rw [hv]; exact five_pw (by omega)); obtain ⟨p, hp, hpo, hpt, hpv⟩ := Mul_val x9 x9 h9.1 h9.1 (by omega); have hpv2 : vI p = five (q + q) := by rw [hpv, hv, five_add]
  have hlp : p.length ≤ 41 := hpt 41 (by rw [hpv2]; exact five_pw (by omega)); rw [e1]; refine (?_ : ∃ r, Ev (fun k => quot_Pow.l0 k (s : Int) [5] x9 (n : Int)) (r, 0) ∧ Okl 4096 r ∧ Tight r ∧ vI r = five s); rcases (show b = 0 ∨ b = 1 by omega) with h0 | h1
  · obtain ⟨r, hev, hok, hti, hr⟩ := ih p (by omega) hpo hpt (by rw [hpv2, show s / 2 ^ n = q + q by omega]); refine ⟨r, Ev.step (fun k => by rw [quot_Pow.l0, if_pos (show (n : Int) ≥ 0 by omega)]) (Evx.bindc hp (fun k => by rw [if_pos rfl, if_pos (wrap_rng _).1, hbit, h0]) ?_), hok, hti, hr⟩; exact Ev.step (fun k => by rw [show (((0 : Nat) : Int) == 1) = false from rfl, quot_Pow.j1, if_neg (by decide), if_pos rfl, e2]) hev
  obtain ⟨p2, hp2, hpo2, hpt2, hpv3⟩ := Mul_val p [5] hpo.1 (okl_one 5 limb5).1 (by show p.length + 1 ≤ 4096; omega); have h5 : vI [5] = five 1 := rfl; have hpv4 : vI p2 = five (s / 2 ^ n) := by rw [hpv3, hpv2, h5, ← five_add, show s / 2 ^ n = q + q + 1 by omega]
  obtain ⟨r, hev, hok, hti, hr⟩ := ih p2 (by omega) hpo2 hpt2 hpv4; refine ⟨r, Ev.step (fun k => by rw [quot_Pow.l0, if_pos (show (n : Int) ≥ 0 by omega)]) (Evx.bindc hp (fun k => by rw [if_pos rfl, if_pos (wrap_rng _).1, hbit, h1]) ?_), hok, hti, hr⟩; refine Ev.step (fun k => by rw [show (((1 : Nat) : Int) == 1) = true from rfl, quot_Pow.j1, if_pos rfl]) ?_; exact Evx.bindc hp2 (fun k => by rw [if_pos rfl, e2]) hev
theorem okl1 : Okl 4096 [1] := ⟨(okl_one 1 limb1).1, by decide⟩
theorem tight_one : Tight [1] := by
 intro n h; rcases n with _ | n
 · exact absurd h (by decide)
 show 1 ≤ n + 1; omega
theorem bl_fact {s : Nat} (hs : s ≤ 1100) (h0 : s ≠ 0) : s / 2 ^ Lib.bitLen s = 0 ∧ Lib.bitLen s ≤ 11 := by
 have h1 := (Lib.bitLenAux_bounds 64 s (by omega) h0).2.2; exact ⟨Nat.div_eq_of_lt h1, Lib.bitLen_le s 11 (by decide) (by omega)⟩
theorem Pow5_val {s : Nat} (hs : s ≤ 1100) : ∃ r, Ev (fun k => quot_Pow5.f k (s : Int)) (r, 0) ∧ Okl 4096 r ∧ Tight r ∧ vI r = five s := by
 suffices h : ∃ r, Ev (fun k => quot_Pow.f k [5] (s : Int)) (r, 0) ∧ Okl 4096 r ∧ Tight r ∧ vI r = five s by
  obtain ⟨r, hev, hok⟩ := h; refine ⟨r, ?_, hok⟩; unfold quot_Pow5.f; exact Ev.bind (f := fun _ b => some (b.1, b.2)) hev (Ev.now _)
 have hsm : Ev (fun k => quot_small.f k [5] 4096) ([5], true) := by
  refine Ev.bind (g := fun k => nat_Trim.f k [5]) (f := fun _ t => some (t, decide ((t.length : Int) ≤ 4096))) (a := [5]) ?_ (Ev.now _); exact Evx.bindc (h := fun _ => some [5]) (size_ev [5] (by decide)) (fun k => rfl) (Ev.now _)
 have hbl : Ev (fun k => nat_BitLen.f k [5]) 3 := Evx.bindc (h := fun _ => some 3) (size_ev [5] (by decide)) (fun k => by kernel_rfl) (Ev.now _); have h0 : ¬ ((s : Int) < 0) := by omega
 unfold quot_Pow.f; by_cases h1 : s = 0
 · subst h1; refine ⟨[1], Evx.bindc (h := fun k => (nat_BitLen.f k [5]).bind fun _ => some ([1], 0)) hsm (fun k => by simp only [h0, if_true, if_false]; rfl) (Ev.bind (f := fun _ _ => some ([1], 0)) hbl (Ev.now _)), okl1, tight_one, rfl⟩
 have h1' : ¬ ((s : Int) = 0) := by omega
 have h2 : ¬ ((s : Int) ≥ 262144) := by omega
 have h3 : ¬ (wrap64 ((wrap64 (3 - 1)) * (s : Int)) ≥ 262144) := by
  rw [w64 (x := 3 - 1) (by omega) (by omega), w64 (by omega) (by omega)]; omega
 have hw : IntKind.u64.wrap (s : Int) = (s : Int) := by rw [wrap_eq]; omega
 have hb : bits_Len.f (IntKind.u64.wrap (s : Int)) = some ((Lib.bitLen s : Nat) : Int) := by
  rw [hw]; unfold bits_Len.f; rw [if_pos (by omega), if_pos (by omega), Int.toNat_natCast]
 obtain ⟨hd, hb2⟩ := bl_fact hs h1; obtain ⟨r, hev, hok, ht, hv⟩ := pow_val hs (Lib.bitLen s) [1] (by omega) okl1 tight_one (by rw [hd]; rfl); have e1 : wrap64 (((Lib.bitLen s : Nat) : Int) - 1) = ((Lib.bitLen s : Nat) : Int) - 1 := w64 (by omega) (by omega); refine ⟨r, Ev.bind hsm (Evx.bindc hbl (fun k => ?_) hev), hok, ht, hv⟩; simp only [h0, h1', h2, h3, if_true, if_false, hb, Option.bind_some, e1]; rfl
end Go.Proofs.YtgbjojokjekmhaaGreatDoor.Num
namespace Go.Proofs.YtgbjojokjekmhaaGreatDoor.Num
open Go.RowKit Go.Proofs.YtgbjojokjekmhaaGreatDoor.PXC Go.Proofs.YtgbjojokjekmhaaGreatDoorW.PrintWords Go.Proofs.YtgbjojokjekmhaaGreatDoorW.PrintLast Go.Proofs.YtgbjojokjekmhaaGreatDoorW.PrintMore
set_option linter.unusedVariables false
set_option exponentiation.threshold 3000
set_option linter.unusedSimpArgs false

def two (e : Nat) : Int := ((2 ^ e : Nat) : Int)
theorem two_pos (e : Nat) : 0 < two e := by
 unfold two; have := Nat.pow_pos (n := e) (show 0 < 2 by decide); omega
theorem two_add (a b : Nat) : two (a + b) = two a * two b := by unfold two; rw [Nat.pow_add, Int.natCast_mul]
theorem two_pw (q : Nat) : two (64 * q) = pw q := by
 unfold two pw; rw [Nat.pow_mul]
theorem or_sum {r a m : Nat} (hr : r < 64) (ha : a < 2 ^ r) (hm : 2 ^ r * m < 18446744073709551616) : Go.bits .or .u64 (a : Int) ((2 ^ r * m : Nat) : Int) = ((a + 2 ^ r * m : Nat) : Int) ∧ a + 2 ^ r * m < 18446744073709551616 := by
 have hr2 : 2 ^ r < 18446744073709551616 := Nat.pow_lt_pow_right (a := 2) (by decide) hr; have e : 2 ^ r * m + a = 2 ^ r * m ||| a := Nat.two_pow_add_eq_or_of_lt ha m; have hlt : 2 ^ r * m ||| a < 2 ^ 64 := Nat.or_lt_two_pow hm (Nat.lt_trans ha hr2); rw [← e] at hlt; have hlt' : 2 ^ r * m + a < 18446744073709551616 := hlt; refine ⟨?_, by omega⟩; have h2 : (BitVec.ofInt 64 (a : Int)).toNat = a := by
  rw [BitVec.ofInt_natCast, BitVec.toNat_ofNat]; exact Nat.mod_eq_of_lt (Nat.lt_trans ha hr2)
 have h3 : (BitVec.ofInt 64 ((2 ^ r * m : Nat) : Int)).toNat = 2 ^ r * m := by
  rw [BitVec.ofInt_natCast, BitVec.toNat_ofNat]; exact Nat.mod_eq_of_lt hm
 show IntKind.u64.wrap ((BitVec.ofInt 64 (a : Int) ||| BitVec.ofInt 64 ((2 ^ r * m : Nat) : Int)).toNat : Int) = _; rw [BitVec.toNat_or, h2, h3, Nat.or_comm, ← e, wrap_eq, Nat.add_comm]; generalize 2 ^ r * m = M at *; omega
/-- One step: a limb moved, the lower part joined to the row's limb. -/
theorem shl_step {r : Nat} (hr : r < 64) {x c : Int} (hx : 0 ≤ x ∧ x < 18446744073709551616) (hc : 0 ≤ c ∧ c < two r) :
  ∃ hi lo, bits_Mul64.f x (two r) = some (hi, lo) ∧ Go.bits .or .u64 c lo = c + lo ∧ (0 ≤ c + lo ∧ c + lo < 18446744073709551616) ∧ (0 ≤ hi ∧ hi < two r) ∧ hi * 18446744073709551616 + lo = x * two r ∧ hi < 18446744073709551616 := by
 obtain ⟨X, rfl⟩ : ∃ X : Nat, x = (X : Int) := ⟨x.toNat, by omega⟩; obtain ⟨C, rfl⟩ : ∃ C : Nat, c = (C : Int) := ⟨c.toNat, by omega⟩; have hr2 : 2 ^ r < 18446744073709551616 := Nat.pow_lt_pow_right (a := 2) (by decide) hr; have h64 : 2 ^ r * 2 ^ (64 - r) = 18446744073709551616 := by rw [← Nat.pow_add, show r + (64 - r) = 64 by omega]
 have e1 : X * 2 ^ r % 18446744073709551616 = 2 ^ r * (X % 2 ^ (64 - r)) := by
  rw [← h64, Nat.mul_comm X, Nat.mul_mod_mul_left]
 have hlo := Nat.mod_lt (X * 2 ^ r) (show 18446744073709551616 > 0 by decide); have hX : X < 18446744073709551616 := by omega
 have hhi : X * 2 ^ r / 18446744073709551616 < 2 ^ r := by
  rw [Nat.div_lt_iff_lt_mul (by decide), Nat.mul_comm]; exact Nat.mul_lt_mul_of_pos_left hX (Nat.pow_pos (by decide))
 have hC : C < 2 ^ r := Int.ofNat_lt.1 hc.2; have ho := or_sum (m := X % 2 ^ (64 - r)) hr hC (by rw [← e1]; exact hlo); rw [← e1] at ho; have eX : (X : Int) * two r = ((X * 2 ^ r : Nat) : Int) := by unfold two; rw [Int.natCast_mul]
 refine ⟨((X * 2 ^ r / 18446744073709551616 : Nat) : Int), ((X * 2 ^ r % 18446744073709551616 : Nat) : Int), ?_, ?_, ?_, ?_, ?_, ?_⟩
 · unfold bits_Mul64.f; rw [if_pos ⟨hx.1, hx.2, Int.le_of_lt (two_pos r), Int.ofNat_lt.2 hr2⟩, eX]; rfl
 · rw [ho.1, Int.natCast_add]
 · have := ho.2; clear ho e1 eX; generalize X * 2 ^ r % 18446744073709551616 = M at *; omega
 · exact ⟨Int.natCast_nonneg _, Int.ofNat_lt.2 hhi⟩
 · rw [eX]; clear ho e1 eX hhi; generalize X * 2 ^ r = M at *; omega
 exact Int.ofNat_lt.2 (Nat.lt_trans hhi hr2)
theorem shl_one {r : Nat} (hr : r < 64) : shl .u64 1 (r : Int) = two r := by
 have hr2 : 2 ^ r < 18446744073709551616 := Nat.pow_lt_pow_right (a := 2) (by decide) hr; show IntKind.u64.wrap (1 * 2 ^ min ((r : Int)).toNat IntKind.u64.bits) = _; have : min ((r : Int)).toNat IntKind.u64.bits = r := by
  rw [Int.toNat_natCast]; show min r 64 = r; omega
 rw [this, Int.one_mul, show ((2 : Int) ^ r) = ((2 ^ r : Nat) : Int) from (Int.natCast_pow 2 r).symm, wrap_eq]; unfold two; generalize 2 ^ r = M at *; omega
theorem shl0_val (q r : Nat) (hr : r < 64) (l : List Int) (hl : Lm l) (hq : q + l.length + 1 ≤ 4096) : ∀ (n i : Nat) (x8 : List Int), i + n = l.length → Lm x8 → x8.length = q + l.length + 1 → (∀ p (hp : p < x8.length), q + i < p → x8[p] = 0) → (∀ (hp : q + i < x8.length), x8[q + i] < two r) →
  ∃ s, Ev (fun k => nat_Shl.l0 k (q : Int) (r : Int) x8 l (l.length : Int) (i : Int)) (s, 0) ∧ Okl 4096 s ∧ Tight s ∧ vI s = vI x8 + vI (l.drop i) * two r * pw (q + i) := by
 intro n; induction n with
 | zero =>
  intro i x8 hi h8 hl8 hz hc; obtain ⟨hev, hok⟩ := cut_val x8 h8 (by omega); refine ⟨_, ?_, hok.mono (by omega), tight_take h8, ?_⟩
  ·
   refine Ev.step (f := fun k => (nat_cut.f k x8).bind fun b => some (b.1, b.2)) (fun k => ?_) (Ev.bind (f := fun _ b => some (b.1, b.2)) hev (Ev.now _)); have c1 : ¬ (i : Int) < (l.length : Int) := by omega
   simp only [nat_Shl.l0, c1, if_false]
  rw [vI_take_sz, List.drop_of_length_le (by omega)]; have : vI [] = 0 := rfl; rw [this, Int.zero_mul, Int.zero_mul, Int.add_zero]
 | succ n ih =>
  intro i x8 hi h8 hl8 hz hc; have c1 : (i : Int) < (l.length : Int) := by omega
  have c2 : (0 : Int) ≤ (i : Int) := by omega
  have c7 : (0 : Int) ≤ (r : Int) := by omega
  have e1 := Aside0.mk (show wrap64 ((q : Int) + (i : Int)) = ((q + i : Nat) : Int) from w64n (by omega)); have e2 := Aside0.mk (show wrap64 (((q + i : Nat) : Int) + 1) = ((q + i + 1 : Nat) : Int) from w64s (by omega)); have e3 := Aside0.mk (show wrap64 ((i : Int) + 1) = ((i + 1 : Nat) : Int) from w64s (by omega)); have c3 : (0 : Int) ≤ ((q + i : Nat) : Int) := by omega
  have hp0 : q + i < x8.length := by omega
  have hp1 : q + i + 1 < x8.length := by omega
  have c4 : ((q + i : Nat) : Int) < (x8.length : Int) := by omega
  have c5 : (0 : Int) ≤ ((q + i + 1 : Nat) : Int) := by omega
  have c6 : ((q + i + 1 : Nat) : Int) < (x8.length : Int) := by omega
  have hil : i < l.length := by omega
  have hrl : rd l (i : Int) = l[i] := rd_nat l hil; have hr8 : rd x8 ((q + i : Nat) : Int) = x8[q + i] := rd_nat x8 hp0; obtain ⟨hi', lo, hm, hor, hcl, hhi, heq, hh⟩ := shl_step hr (hl _ (List.getElem_mem hil)) ⟨(h8 _ (List.getElem_mem hp0)).1, hc hp0⟩; have hy : Lm (x8.set (q + i) (x8[q + i] + lo)) := lm_set h8 _ hcl; have h9 : Lm ((x8.set (q + i) (x8[q + i] + lo)).set (q + i + 1) hi') := lm_set hy _ ⟨hhi.1, hh⟩; have hl9 : ((x8.set (q + i) (x8[q + i] + lo)).set (q + i + 1) hi').length = q + l.length + 1 := by rw [List.length_set, List.length_set]; exact hl8
  obtain ⟨s, hev, hok, hti, hv⟩ := ih (i + 1) _ (by omega) h9 hl9 (fun p hp hpi => by
    rw [List.getElem_set_ne (by omega), List.getElem_set_ne (by omega)]; exact hz p (by rw [hl9] at hp; omega) (by omega)) (fun hp => by
    show ((x8.set (q + i) (x8[q + i] + lo)).set (q + i + 1) hi')[q + i + 1] < two r; rw [List.getElem_set_self]; exact hhi.2)
  refine ⟨s, Ev.step (fun k => ?_) hev, hok, hti, ?_⟩
  · simp only [nat_Shl.l0, c1, c2, c7, if_true, shl_one hr, hrl, hm, Option.bind_some, e1.out, e2.out, e3.out, c3, c4, c5, c6, hr8, hor, Int.toNat_natCast]
  have h0 : (x8.set (q + i) (x8[q + i] + lo))[q + i + 1]'(by rw [List.length_set]; exact hp1) = 0 := by
   rw [List.getElem_set_ne (by omega)]; exact hz _ hp1 (by omega)
  rw [hv, vI_set hy (by rw [List.length_set]; exact hp1) hhi.1, h0, vI_set h8 hp0 hcl.1, vI_drop hl hil, ← Nat.add_assoc, pw_succ]; clear hv hev hok hti ih h0 hz hc hcl hor hm; generalize vI (l.drop (i + 1)) = D; generalize pw (q + i) = P; generalize x8[q + i] = c0; generalize l[i] = li at *; generalize (18446744073709551616 : Int) = Q at *; generalize two r = R at *; grind
theorem Shl_val (l : List Int) (s : Nat) (hl : Lm l) (hn : s / 64 + l.length + 1 ≤ 4096) : ∃ r, Ev (fun k => nat_Shl.f k l (s : Int)) (r, 0) ∧ Okl 4096 r ∧ Tight r ∧ vI r = vI l * two s := by
 have hsz := sz_le l; have hbf : decide (sz l > 4096) = false := decide_eq_false (by omega); have hT : (l.take (sz l)).length = sz l := List.length_take_of_le hsz; have hs0 : ¬ ((s : Int) < 0) := by omega
 suffices h : ∃ r, Ev (fun k => (if ((l.take (sz l)).length : Int) = 0 then (some (([] : List Int), (0 : Int))) else (if (s : Int) > 262144 then (some (([] : List Int), 2)) else (if 0 ≤ (wrap64 ((wrap64 ((wrap64 (Int.tdiv (s : Int) 64)) + ((l.take (sz l)).length : Int))) + 1)) then (if (wrap64 ((wrap64 ((wrap64 (Int.tdiv (s : Int) 64)) + ((l.take (sz l)).length : Int))) + 1) : Int).toNat ≤ 35184372088832 then (nat_Shl.l0 k (wrap64 (Int.tdiv (s : Int) 64)) (IntKind.u64.wrap (Int.tmod (s : Int) 64)) (List.replicate (wrap64 ((wrap64 ((wrap64 (Int.tdiv (s : Int) 64)) + ((l.take (sz l)).length : Int))) + 1) : Int).toNat 0) (l.take (sz l)) ((l.take (sz l)).length : Int) 0) else (none)) else (none))))) (r, 0) ∧ Okl 4096 r ∧ Tight r ∧ vI r = vI l * two s by
  obtain ⟨r, hev, hok⟩ := h; refine ⟨r, ?_, hok⟩; unfold nat_Shl.f; refine Ev.bind (big_ev l (by omega)) ?_; rw [hbf]; simp only [Bool.false_eq_true, if_false, if_neg hs0]; refine Ev.bind (size_ev l (by omega)) ?_; refine Ev.congr (fun k => ?_) hev; rw [if_pos (by omega), if_pos (by omega), Int.toNat_natCast]
 rw [hT]; by_cases hz : sz l = 0
 · refine ⟨[], Ev.congr (fun k => if_pos (by omega)) (Ev.now _), okl_nil _, tight_nil, ?_⟩; rw [← vI_take_sz l, hz, List.take_zero]; show (0 : Int) = 0 * two s; rw [Int.zero_mul]
 have hq : Int.tdiv (s : Int) 64 = ((s / 64 : Nat) : Int) := by
  rw [Int.tdiv_eq_ediv_of_nonneg (by omega)]; omega
 have hm : Int.tmod (s : Int) 64 = ((s % 64 : Nat) : Int) := by
  rw [Int.tmod_eq_emod_of_nonneg (by omega)]; omega
 have hw : IntKind.u64.wrap ((s % 64 : Nat) : Int) = ((s % 64 : Nat) : Int) := by rw [wrap_eq]; omega
 have hr64 : s % 64 < 64 := Nat.mod_lt _ (by decide); obtain ⟨q, hqe⟩ : ∃ q, s / 64 = q := ⟨_, rfl⟩; obtain ⟨r0, hre⟩ : ∃ r0, s % 64 = r0 := ⟨_, rfl⟩; have hsq : s = 64 * q + r0 := by omega
 rw [hqe] at hq hn; rw [hre] at hm hw hr64; have b1 : ¬ (((sz l : Nat) : Int) = 0) := by omega
 have b2 : ¬ ((s : Int) > 262144) := by omega
 have b3 : q + sz l + 1 ≤ 35184372088832 := by omega
 have b4 : q + (l.take (sz l)).length + 1 ≤ 4096 := by rw [hT]; omega
 have e1 := Aside0.mk (show wrap64 (q : Int) = (q : Int) from w64 (by omega) (by omega)); have e2 := Aside0.mk (show wrap64 ((q : Int) + ((sz l : Nat) : Int)) = ((q + sz l : Nat) : Int) from w64n (by omega)); have e3 := Aside0.mk (show wrap64 (((q + sz l : Nat) : Int) + 1) = ((q + sz l + 1 : Nat) : Int) from w64s (by omega)); obtain ⟨r, hev, hok, hti, hv⟩ := shl0_val q r0 hr64 (l.take (sz l)) (lm_take hl _) b4 (l.take (sz l)).length 0 (List.replicate (q + sz l + 1) 0) (Nat.zero_add _) (lm_replicate _) (by rw [List.length_replicate, hT])
  (fun p hp _ => List.getElem_replicate _) (fun hp => by rw [List.getElem_replicate]; exact two_pos _)
 rw [hT] at hev; refine ⟨r, Ev.congr (fun k => ?_) hev, hok, hti, ?_⟩
 · rw [if_neg b1, if_neg b2, hq, hm, hw, e1.out, e2.out, e3.out, if_pos (Int.natCast_nonneg _), Int.toNat_natCast, if_pos b3]; exact congrArg (fun z => nat_Shl.l0 k (q : Int) (r0 : Int) (List.replicate (q + sz l + 1) 0) (l.take (sz l)) ((sz l : Nat) : Int) z) (show (0 : Int) = ((0 : Nat) : Int) from rfl)
 rw [hv, vI_rep, List.drop_zero, vI_take_sz, hsq, two_add, two_pw, Nat.add_zero]; clear hev hv hok hti; generalize vI l = V; generalize two r0 = R; generalize pw q = P; grind
end Go.Proofs.YtgbjojokjekmhaaGreatDoor.Num
namespace Go.Proofs.YtgbjojokjekmhaaGreatDoor.Num
open Go.RowKit Go.Proofs.YtgbjojokjekmhaaGreatDoor.PXC Go.Proofs.YtgbjojokjekmhaaGreatDoorW.PrintWords Go.Proofs.YtgbjojokjekmhaaGreatDoorW.PrintLast Go.Proofs.YtgbjojokjekmhaaGreatDoorW.PrintMore
set_option linter.unusedVariables false
set_option exponentiation.threshold 3000
set_option linter.unusedSimpArgs false

theorem nat_of {r : List Int} {n : Nat} (h : vI r = (n : Int)) : val r = n := by unfold vI at h; omega
theorem Digits_val {r : List Int} {m : Nat} (h : Okl m r) (hm : m ≤ 4294967296) : ∃ ds, Ev (fun k => numeral_Digits.f k r) (S ds, 0) ∧ Dg ds ∧ ds.length ≤ 262144 ∧ ∀ n, 1 ≤ n → val r < 10 ^ n → ds.length ≤ n := by
 have h3 := h.2.2; refine ⟨inBase false 10 (val r), ?_, inBase_dg _, inBase_len h.1 h.2.1, ?_⟩
 · unfold numeral_Digits.f; refine Ev.congr (f := fun _ => some (S (inBase false 10 (val r)), 0)) (fun k => ?_) (Ev.now _); unfold numeral_InBase.f; rw [if_pos ⟨rfl, rfl, h.1, h.2.1, by omega⟩]; rfl
 intro n hn hv; unfold inBase; split
 · exact hn
 unfold word; rw [List.length_reverse, List.length_map]; exact dl_length (by decide) n _ hv
theorem one_limb {n : Nat} {l : List Int} (h : Okl n l) (hn : n ≤ 1) : val l < B := by
 have h1 := h.2.2; have h2 := val_lt h.1; exact Nat.lt_of_lt_of_le h2 (Nat.le_trans (Nat.pow_le_pow_right (by decide) (Nat.le_trans h1 hn)) (by rw [Nat.pow_one]; exact Nat.le_refl _))
theorem big_up {a e : Nat} (ha : a < B) (he : e ≤ 1000) : a * 2 ^ e < 10 ^ 321 := by
 have h1 : 2 ^ e ≤ 2 ^ 1000 := Nat.pow_le_pow_right (by decide) he; have h2 : B * 2 ^ 1000 ≤ 10 ^ 321 := by decide +kernel
 exact Nat.lt_of_lt_of_le (Nat.lt_of_lt_of_le (Nat.mul_lt_mul_of_pos_right ha (Nat.pow_pos (by decide))) (Nat.mul_le_mul_left _ h1)) h2
theorem big_down {a e : Nat} (ha : a < B) (he : e ≤ 1075) : a * 5 ^ e < 10 ^ 772 ∧ a * 5 ^ e < 10 ^ (20 + e) := by
 have h1 : 5 ^ e ≤ 5 ^ 1075 := Nat.pow_le_pow_right (by decide) he; have h2 : B * 5 ^ 1075 ≤ 10 ^ 772 := by decide +kernel
 have h3 : a * 5 ^ e < B * 5 ^ e := Nat.mul_lt_mul_of_pos_right ha (Nat.pow_pos (by decide)); refine ⟨Nat.lt_of_lt_of_le (Nat.lt_of_lt_of_le h3 (Nat.mul_le_mul_left _ h1)) h2, Nat.lt_of_lt_of_le h3 ?_⟩; rw [Nat.pow_add]; exact Nat.mul_le_mul (by decide) (Nat.pow_le_pow_left (by decide) _)
theorem All_val (d : Int) (h0 : 0 ≤ d) (h1 : d < 18446744073709551616) {c : Int} (hc : ieee_Class.f d = some c) (hf : c < 3) : ∃ neg ds x, Ev (fun k => fixed_All.f k d) (neg, S ds, x, 0) ∧ Dec neg ds x ∧ ds.length ≤ 800 ∧ -1100 ≤ x ∧ x + ds.length ≤ 400 := by
 obtain ⟨n, c', m, e, hd, hc', ⟨hc0, hc4⟩, hm, he⟩ := Decode_tot d h0 h1; obtain rfl : c = c' := Option.some.inj (hc.symm.trans hc'); unfold fixed_All.f; rw [hd]; simp only [Option.bind_some]; by_cases z : c = 0
 · refine ⟨n, [48], 0, Ev.congr (fun k => ?_) (Ev.now _), ⟨fun b hb => by rw [List.mem_singleton.1 hb]; decide, by decide, by omega, by omega⟩, by decide, by omega, by decide⟩; rw [if_neg (by omega), if_pos z]
 obtain ⟨u, hu, huo⟩ := FromUint_tot m hm; by_cases he0 : e ≥ 0
 ·
  obtain ⟨E, rfl⟩ : ∃ E : Nat, e = (E : Int) := ⟨e.toNat, by omega⟩; have hE : E ≤ 1000 := by omega
  obtain ⟨r, hr, hro, _, hrv⟩ := Shl_val u E huo.1 (by have := huo.2.2; omega); have hrn : val r = val u * 2 ^ E := nat_of (by rw [hrv, Int.natCast_mul]; rfl); obtain ⟨ds, hds, hdg, hdl, hdv⟩ := Digits_val hro (by decide); have hdn := hdv 321 (by decide) (by rw [hrn]; exact big_up (one_limb huo (Nat.le_refl _)) hE); clear hdv hrn hrv; obtain ⟨t1, t2⟩ := trimR_dg hdg 48; have e1 := Aside0.mk (show wrap64 (wrap64 ((ds.length : Int)) - ((Lib.trimRightB ds 48).length : Int)) = (ds.length : Int) - ((Lib.trimRightB ds 48).length : Int) from by rw [w64 (x := (ds.length : Int)) (by omega) (by omega), w64 (by omega) (by omega)]); refine ⟨n, Lib.trimRightB ds 48, (ds.length : Int) - ((Lib.trimRightB ds 48).length : Int), ?_, ⟨t1, by omega, by omega, by omega⟩, by omega, by omega, by omega⟩; refine Ev.congr (fun k => by rw [if_neg (by omega), if_neg z, hu, Option.bind_some, if_pos he0]) ?_; refine Ev.bind hr ?_; refine Evx.bindc (h := fun _ => some (n, S (Lib.trimRightB ds 48), (ds.length : Int) - ((Lib.trimRightB ds 48).length : Int), 0)) hds (fun k => ?_) (Ev.now _); rw [Trim0_tot hdl, Option.bind_some, s_size, s_size, e1.out]
 obtain ⟨t, ht, ht0, ht1⟩ := Trail_tot u huo.1 (by have := huo.2.2; omega); have hul := huo.2.2; obtain ⟨kk, hkk⟩ : ∃ kk, mx (wrap64 ((wrap64 (-e)) - t)) 0 = kk := ⟨_, rfl⟩; have hkb : 0 ≤ kk ∧ kk ≤ 1075 := by
  rw [← hkk, w64 (x := -e) (by omega) (by omega), w64 (by omega) (by omega)]; unfold mx; split <;> omega
 obtain ⟨r1, b1, e1, hr1, hro1⟩ := Shr_tot u (wrap64 ((wrap64 (-e)) - kk)) huo.1 (by omega); obtain ⟨K, rfl⟩ : ∃ K : Nat, kk = (K : Int) := ⟨kk.toNat, by omega⟩; have hK : K ≤ 1075 := by omega
 obtain ⟨r2, hr2, hro2, hrt2, hrv2⟩ := Pow5_val (show K ≤ 1100 by omega); have hl2 : r2.length ≤ 41 := hrt2 41 (by rw [hrv2]; exact five_pw (by omega)); obtain ⟨r3, hr3, hro3, _, hrv3⟩ := Mul_val r1 r2 hro1.1 hro2.1 (by have := hro1.2.2; omega); have hrn : val r3 = val r1 * 5 ^ K := nat_of (by rw [hrv3, hrv2, Int.natCast_mul]; rfl); have hb3 := big_down (one_limb hro1 hul) hK; rw [← hrn] at hb3; obtain ⟨ds, hds, hdg, hdl, hdv⟩ := Digits_val hro3 (by decide); have hdn := hdv 772 (by decide) hb3.1; have hdn2 := hdv (20 + K) (Nat.le_trans (by decide) (Nat.le_add_right 20 K)) hb3.2; clear hdv hb3 hrn hrv3 hrv2 hrt2; obtain ⟨t1, t2⟩ := trimR_dg hdg 48; have e4 := Aside0.mk (show wrap64 (wrap64 (wrap64 (-(K : Int)) + (ds.length : Int)) - ((Lib.trimRightB ds 48).length : Int)) = -(K : Int) + (ds.length : Int) - ((Lib.trimRightB ds 48).length : Int) from by rw [w64 (x := -(K : Int)) (by omega) (by omega), w64 (x := -(K : Int) + (ds.length : Int)) (by omega) (by omega), w64 (by omega) (by omega)]); refine ⟨n, Lib.trimRightB ds 48, -(K : Int) + (ds.length : Int) - ((Lib.trimRightB ds 48).length : Int), ?_, ⟨t1, by omega, by omega, by omega⟩, by omega, by omega, by omega⟩; refine Ev.congr (fun k => by rw [if_neg (by omega), if_neg z, hu, Option.bind_some, if_neg he0]) ?_; refine Ev.bind ht ?_; rw [hkk]; refine Ev.bind hr1 ?_; refine Ev.bind hr2 ?_; refine Ev.bind hr3 ?_; refine Evx.bindc (h := fun _ => some (n, S (Lib.trimRightB ds 48), -(K : Int) + (ds.length : Int) - ((Lib.trimRightB ds 48).length : Int), 0)) hds (fun k => ?_) (Ev.now _); rw [Trim0_tot hdl, Option.bind_some, s_size, s_size, e4.out]
end Go.Proofs.YtgbjojokjekmhaaGreatDoor.Num
namespace Go.Proofs.YtgbjojokjekmhaaGreatDoor.Num
open Go.RowKit Go.Proofs.YtgbjojokjekmhaaGreatDoor.PXC Go.Proofs.YtgbjojokjekmhaaGreatDoor.PXD Go.Proofs.YtgbjojokjekmhaaGreatDoor.PXN Go.Proofs.YtgbjojokjekmhaaGreatDoorW.PrintWords Go.Proofs.YtgbjojokjekmhaaGreatDoorW.PrintLast Go.Proofs.YtgbjojokjekmhaaGreatDoorW.PrintMore
set_option linter.unusedVariables false
set_option linter.unusedSimpArgs false

theorem drop_at {l : List UInt8} {i : Nat} {T : List UInt8} (h : l.drop i = T) (k : Nat) : l[i + k]? = T[k]? := by rw [← h, List.getElem?_drop]
theorem run_to {l : List UInt8} {i : Nat} {A T : List UInt8} (hA : Dg A) (hT : T = [] ∨ ∃ b r, T = b :: r ∧ isD b = false) (h : l.drop i = A ++ T) : runD l i = A.length := by
 unfold runD; rw [h]; have e : (A ++ T).takeWhile isD = A := by
  rw [List.takeWhile_append_of_pos (fun b hb => isD_iff.2 (hA b hb))]; rcases hT with rfl | ⟨b, r, rfl, hb⟩
  · simp
  rw [List.takeWhile_cons_of_neg (by rw [hb]; decide), List.append_nil]
 rw [e]
/-- The literal of a sign, digits, a point and digits, a power. -/
theorem lit_text {sg A B E : List UInt8} {q : Bool} (hsg : sg = [] ∨ sg = [45]) (hA : Dg A) (hA0 : A ≠ []) (hB : Dg B) (hq : q = false → B = []) {X : Int} (hE : (E = [] ∧ X = 0) ∨ ∃ c, (c = 101 ∨ c = 69) ∧ E = tailL X c ∧ -4194304 ≤ X ∧ X ≤ 4194304) {l : List UInt8} (hl : l = sg ++ A ++ (if q = true then 46 :: B else []) ++ E) :
  litL l 0 = (!sg.isEmpty, A ++ B, X - (B.length : Int), l.length, true) := by
 obtain ⟨Q, hQ⟩ : ∃ Q, (if q = true then 46 :: B else ([] : List UInt8)) = Q := ⟨_, rfl⟩; rw [hQ] at hl; have hAl : 0 < A.length := List.length_pos_iff.2 hA0; obtain ⟨a0, A', hAc⟩ : ∃ a0 A', A = a0 :: A' := by
  cases A with
  | nil => exact absurd rfl hA0
  | cons x r => exact ⟨x, r, rfl⟩
 have ha0 := hA a0 (by rw [hAc]; simp); -- the tail begins with no digit
 have hEh : E = [] ∨ ∃ b r, E = b :: r ∧ (b = 101 ∨ b = 69) := by
  rcases hE with ⟨h, -⟩ | ⟨c, hc, rfl, -, -⟩
  · exact .inl h
  exact .inr ⟨c, _, rfl, hc⟩
 have hEd : E = [] ∨ ∃ b r, E = b :: r ∧ isD b = false := by
  rcases hEh with h | ⟨b, r, h, hb⟩
  · exact .inl h
  exact .inr ⟨b, r, h, by rcases hb with rfl | rfl <;> rfl⟩
 have hQE : Q ++ E = [] ∨ ∃ b r, Q ++ E = b :: r ∧ isD b = false := by
  rw [← hQ]; cases q with
  | true => exact .inr ⟨46, B ++ E, rfl, rfl⟩
  | false => exact hEd
 have hassoc : l = sg ++ (A ++ (Q ++ E)) := by rw [hl]; simp only [List.append_assoc]
 -- the sign
 have hf : fromL l 0 = sg.length ∧ negL l 0 = !sg.isEmpty := by
  rcases hsg with rfl | rfl
  ·
   have g : l[0]? = some a0 := by rw [hassoc, hAc]; rfl
   constructor
   ·
    unfold fromL at2; rw [g]; have e : (a0 == 43 || a0 == 45) = false := by
     rw [Bool.or_eq_false_iff]; exact ⟨beq_eq_false_iff_ne.2 (fun h => by rw [h] at ha0; exact absurd ha0.1 (by decide)), beq_eq_false_iff_ne.2 (fun h => by rw [h] at ha0; exact absurd ha0.1 (by decide))⟩
    simp only [e]; rfl
   unfold negL at2; rw [g]; have e : (a0 == 45) = false := beq_eq_false_iff_ne.2 (fun h => by rw [h] at ha0; exact absurd ha0.1 (by decide)); simp only [e]; rfl
  have g : l[0]? = some 45 := by rw [hassoc]; rfl
  constructor
  · unfold fromL at2; rw [g]; rfl
  unfold negL at2; rw [g]; rfl
 obtain ⟨f, hfl⟩ : ∃ f, f = sg.length := ⟨_, rfl⟩; rw [← hfl] at hf; have d0 : l.drop f = A ++ (Q ++ E) := by rw [hassoc, hfl, List.drop_left]
 have r0 : runD l f = A.length := run_to hA hQE d0; have d1 : l.drop (f + A.length) = Q ++ E := by rw [← List.drop_drop, d0, List.drop_left]
 have hP : hasP l f = q ∧ (q = true → runD l (f + runD l f + 1) = B.length) := by
  unfold hasP; rw [r0]; cases q with
  | true =>
   have hQt : Q = 46 :: B := by rw [← hQ]; rfl
   rw [hQt] at d1; have g : l[f + A.length]? = some 46 := by
    have := drop_at d1 0; simpa using this
   have d2 : l.drop (f + A.length + 1) = B ++ E := by rw [← List.drop_drop, d1]; rfl
   refine ⟨?_, fun _ => run_to hB hEd d2⟩; have e1 : at2 l (f + A.length) 46 46 = true := by unfold at2; rw [g]; rfl
   have e2 : (A.length == 0) = false := beq_eq_false_iff_ne.2 (by omega); rw [e1, e2]; rfl
  | false =>
   have hQf : Q = [] := by rw [← hQ]; rfl
   rw [hQf, List.nil_append] at d1; refine ⟨?_, fun h => by cases h⟩; have e1 : at2 l (f + A.length) 46 46 = false := by
    have g := drop_at d1 0; rw [Nat.add_zero] at g; unfold at2; rw [g]; rcases hEh with h | ⟨b, r, h, hb⟩
    · rw [h]; rfl
    rw [h]; rcases hb with rfl | rfl <;> rfl
   rw [e1]; rfl
 have hpl : plN l f = B.length := by
  unfold plN; rw [hP.1]; cases q with
  | true => rw [if_pos rfl, hP.2 rfl]
  | false => rw [if_neg (by decide), hq rfl]; rfl
 have hm : mantE l f = f + A.length + Q.length := by
  unfold mantE; rw [hP.1, hpl, r0, ← hQ]; cases q with
  | true => rw [if_pos rfl, if_pos rfl, List.length_cons]; omega
  | false => rw [if_neg (by decide), if_neg (by decide)]; rfl
 have hds : digsL l f = A ++ B := by
  unfold digsL; rw [hP.1, r0, hpl, d0]; cases q with
  | true =>
   have hQt : Q = 46 :: B := by rw [← hQ]; rfl
   rw [if_pos rfl, List.take_left]; have d2 : l.drop (f + A.length + 1) = B ++ E := by rw [← List.drop_drop, d1, hQt]; rfl
   rw [d2, List.take_left]
  | false => rw [if_neg (by decide), List.take_left, hq rfl, List.append_nil]
 obtain ⟨m, hmm⟩ : ∃ m, mantE l f = m := ⟨_, rfl⟩; have d3 : l.drop m = E := by rw [← hmm, hm, ← List.drop_drop, d1, List.drop_left]
 have hlen : l.length = m + E.length := by
  rw [← hmm, hm, hassoc, List.length_append, List.length_append, List.length_append, ← hfl]; omega
 have hX : expV l m = X ∧ endE l m = l.length := by
  rcases hE with ⟨rfl, rfl⟩ | ⟨c, hc, rfl, h1, h2⟩
  ·
   have g := drop_at d3 0; rw [Nat.add_zero] at g; have e1 : hasE l m = false := by
    unfold hasE at2; rw [g]; rfl
   unfold expV endE; rw [e1, if_neg (by decide), if_neg (by decide)]; exact ⟨rfl, by rw [hlen]; rfl⟩
  obtain ⟨r, hr, hdg, hrl, hv⟩ := tail_shape X c h1 h2; obtain ⟨s, hs⟩ : ∃ s : UInt8, s = if X < 0 then 45 else 43 := ⟨_, rfl⟩
  rw [hr, ← hs] at d3 hlen; have g0 := drop_at d3 0; have g1 := drop_at d3 1; rw [Nat.add_zero] at g0; have hs2 : at2 l (m + 1) 43 45 = true ∧ at2 l (m + 1) 45 45 = decide (X < 0) := by
   unfold at2; rw [g1, hs]; by_cases h : X < 0
   · simp only [if_pos h, decide_eq_true h]; exact ⟨rfl, rfl⟩
   simp only [if_neg h, decide_eq_false h]; exact ⟨rfl, rfl⟩
  have d4 : l.drop (m + 2) = r := by rw [← List.drop_drop, d3]; rfl
  have hx : expAt l m = m + 2 := by unfold expAt; rw [hs2.1]; rfl
  have ht : (l.drop (m + 2)).takeWhile isD = r := by rw [d4]; exact all_run hdg
  have e1 : hasE l m = true := by
   have g2 := drop_at d4 0; rw [Nat.add_zero] at g2; unfold hasE; rw [hx]; unfold at2 atD; rw [g0, g2]; cases hrr : r with
   | nil => rw [hrr] at hrl; simp at hrl
   | cons z w =>
    rw [hrr] at hdg; have := isD_iff.2 (dg_cons.1 hdg).1; show ((c == 101 || c == 69) && isD z) = true; rw [this]; rcases hc with rfl | rfl <;> rfl
  have hrun : runD l (m + 2) = r.length := by unfold runD; rw [ht]
  have hexp : expAtL 0 l (m + 2) = if X < 0 then -X else X := by unfold expAtL; rw [ht, hv]
  unfold expV endE; rw [e1, if_pos rfl, if_pos rfl, hx, hrun, hexp, hs2.2]; refine ⟨?_, by rw [hlen, List.length_cons, List.length_cons]; omega⟩; by_cases h : X < 0
  · rw [decide_eq_true h, if_pos rfl, if_pos h]; omega
  rw [decide_eq_false h, if_neg (by decide), if_neg h]
 unfold litL; rw [hf.1, hmm, if_neg (by rw [← hmm, hm]; omega), hf.2, hds, hX.1, hX.2, hpl]
end Go.Proofs.YtgbjojokjekmhaaGreatDoor.Num
namespace Go.Proofs.YtgbjojokjekmhaaGreatDoor.Num
open Go.RowKit Go.Proofs.YtgbjojokjekmhaaGreatDoor.PXC Go.Proofs.YtgbjojokjekmhaaGreatDoor.PXD Go.Proofs.YtgbjojokjekmhaaGreatDoor.PXN Go.Proofs.YtgbjojokjekmhaaGreatDoorW.PrintWords Go.Proofs.YtgbjojokjekmhaaGreatDoorW.PrintLast Go.Proofs.YtgbjojokjekmhaaGreatDoorW.PrintMore
set_option linter.unusedVariables false
set_option linter.unusedSimpArgs false

theorem dw_head : ∀ (q : List UInt8) (y : UInt8) (s : List UInt8), q.dropWhile (fun c => c == 48) = y :: s → y ≠ 48 := by
 intro q; induction q with
 | nil => intro y s h; cases h
 | cons x q ih =>
  intro y s h; by_cases hx : x = 48
  · subst hx; rw [List.dropWhile_cons_of_pos (by decide)] at h; exact ih y s h
  rw [List.dropWhile_cons_of_neg (by simpa using hx)] at h; injection h with h1 _; rw [← h1]; exact hx
theorem dw_dec (G : List UInt8) : ∃ a, G = List.replicate a 48 ++ G.dropWhile (fun c => c == 48) := by
 have h := List.takeWhile_append_dropWhile (p := fun c : UInt8 => c == 48) (l := G); have ha : (G.takeWhile (fun c : UInt8 => c == 48)).all (fun c => c == 48) = true := List.all_takeWhile; rw [List.all_eq_true] at ha; have hr : G.takeWhile (fun c : UInt8 => c == 48) = List.replicate (G.takeWhile (fun c : UInt8 => c == 48)).length 48 := List.eq_replicate_iff.2 ⟨rfl, fun b hb => by simpa using ha b hb⟩; exact ⟨(G.takeWhile (fun c : UInt8 => c == 48)).length, by rw [← hr]; exact h.symm⟩
theorem tr_dec (A : List UInt8) : (∃ z, A = Lib.trimRightB A 48 ++ List.replicate z 48) ∧ (Lib.trimRightB A 48 = [] ∨ ∃ u y, Lib.trimRightB A 48 = u ++ [y] ∧ y ≠ 48) := by
 constructor
 · obtain ⟨a, ha⟩ := dw_dec A.reverse; have h2 := congrArg List.reverse ha; rw [List.reverse_reverse, List.reverse_append, List.reverse_replicate] at h2; exact ⟨a, h2⟩
 unfold Lib.trimRightB; cases hd : A.reverse.dropWhile (fun x => x == 48) with
 | nil => exact .inl rfl
 | cons y q => exact .inr ⟨q.reverse, y, List.reverse_cons, dw_head _ y q hd⟩
theorem normal_val {neg : Bool} {G : List UInt8} (hG : Dg G) (hl : G.length ≤ 16777216) {e : Int} (he : -16777216 ≤ e ∧ e ≤ 16777216) :
  ∃ (Y : List UInt8) (z : Nat), scan_normal.f neg (S G) e = some (neg, S Y, if dv G = 0 then 0 else e + (z : Int)) ∧ Dg Y ∧ Y ≠ [] ∧ Y.length ≤ G.length + 1 ∧ (dv G = 0 → Y = [48]) ∧ (dv G ≠ 0 → dv G = dv Y * ten z ∧ dv Y % 10 ≠ 0 ∧ Y.length + z ≤ G.length) := by
 obtain ⟨a, hdec⟩ := dw_dec G; obtain ⟨s, hs⟩ : ∃ s, G.dropWhile (fun c => c == 48) = s := ⟨_, rfl⟩; rw [hs] at hdec; have hsl : a + s.length = G.length := by
  have := congrArg List.length hdec; rw [List.length_append, List.length_replicate] at this; exact this.symm
 have hsd : Dg s := by rw [hdec] at hG; exact (dg_append.1 hG).2
 have hv : dv G = dv s := by
  conv => lhs; rw [hdec, dv_app, dv_rep]
  omega
 have t1 : strings_TrimLeft.f (S G) (⟨#[48]⟩ : ByteArray) = some (S s) := by
  unfold strings_TrimLeft.f Lib.trimLeftB; rw [if_pos rfl, s_data, hs]
 have h0 : dv s = 0 ↔ s = [] := by
  constructor
  ·
   intro h; cases hss : s with
   | nil => rfl
   | cons y q =>
    have h1 := dw_head G y q (by rw [hs, hss]); exact absurd ((dv_zero hsd).1 h y (by rw [hss]; simp)) h1
  intro h; rw [h]; rfl
 unfold scan_normal.f; rw [t1, Option.bind_some, s_list, hv]; by_cases hs0 : s = []
 · rw [if_pos hs0]; refine ⟨[48], 0, by rw [if_pos (h0.2 hs0)], fun b hb => by rw [List.mem_singleton.1 hb]; decide, by simp, by simp, fun _ => rfl, fun h => absurd (h0.2 hs0) h⟩
 have hn0 : ¬ dv s = 0 := fun h => hs0 (h0.1 h)
 rw [if_neg hs0]; obtain ⟨⟨z, hz⟩, hlast⟩ := tr_dec s; obtain ⟨t, ht⟩ : ∃ t, Lib.trimRightB s 48 = t := ⟨_, rfl⟩; rw [ht] at hz hlast; have htl : t.length + z = s.length := by
  have := congrArg List.length hz; rw [List.length_append, List.length_replicate] at this; exact this.symm
 have htd : Dg t := by rw [hz] at hsd; exact (dg_append.1 hsd).1
 have htv : dv s = dv t * ten z := by
  conv => lhs; rw [hz, dv_app, dv_rep, List.length_replicate]
  omega
 have hne : t ≠ [] := fun h => hn0 (by
  have h3 : dv t = 0 := by rw [h]; rfl
  rw [htv, h3, Int.zero_mul])
 obtain ⟨u, y, hu, hy⟩ := hlast.resolve_left hne; have hyd : 48 ≤ y.toNat ∧ y.toNat ≤ 57 := htd y (by rw [hu]; simp); have hy8 : y.toNat ≠ 48 := fun h => hy (UInt8.toNat_inj.1 h)
 have hmod : dv t % 10 ≠ 0 := by
  have h3 : dv t = dv u * 10 + ((y.toNat : Int) - 48) := by rw [hu, dv_app, dv_one]; rfl
  rw [h3]; omega
 have t2 : strings_TrimRight.f (S s) (⟨#[48]⟩ : ByteArray) = some (S t) := by
  unfold strings_TrimRight.f; rw [if_pos rfl, if_pos (by rw [s_size]; omega), s_data, ht]
 have t3 : strings_Clone.f (S t) = some (S t) := by
  unfold strings_Clone.f; rw [if_pos (by rw [s_size]; omega)]
 have e1 : wrap64 (wrap64 (e + (s.length : Int)) - (t.length : Int)) = e + (z : Int) := by
  rw [w64 (x := e + (s.length : Int)) (by omega) (by omega), w64 (by omega) (by omega)]; omega
 refine ⟨t, z, ?_, htd, hne, by omega, fun h => absurd h hn0, fun _ => ⟨htv, hmod, by omega⟩⟩; rw [t2, Option.bind_some, t3, Option.bind_some, s_size s, s_size t, e1, if_neg hn0]
/-- scan.Whole of such a text. -/
theorem whole_tot {sg A B E : List UInt8} {q : Bool} (hsg : sg = [] ∨ sg = [45]) (hA : Dg A) (hA0 : A ≠ []) (hB : Dg B) (hq : q = false → B = []) {X : Int} (hE : (E = [] ∧ X = 0) ∨ ∃ c, (c = 101 ∨ c = 69) ∧ E = tailL X c ∧ -4194304 ≤ X ∧ X ≤ 4194304) (hl : A.length + B.length + E.length ≤ 8388608) :
  ∃ (Y : List UInt8) (z : Nat), Ev (fun k => scan_Whole.f k (S (sg ++ A ++ (if q = true then 46 :: B else []) ++ E))) (!sg.isEmpty, S Y, (if dv (A ++ B) = 0 then 0 else X - (B.length : Int) + (z : Int)), true) ∧ Dg Y ∧ Y ≠ [] ∧ Y.length ≤ A.length + B.length + 1 ∧ (dv (A ++ B) = 0 → Y = [48]) ∧ (dv (A ++ B) ≠ 0 → dv (A ++ B) = dv Y * ten z ∧ dv Y % 10 ≠ 0 ∧ Y.length + z ≤ A.length + B.length) := by
 obtain ⟨l, hL⟩ : ∃ l, l = sg ++ A ++ (if q = true then 46 :: B else []) ++ E := ⟨_, rfl⟩; have hlit := lit_text hsg hA hA0 hB hq hE hL; rw [← hL]; have hAl : 0 < A.length := List.length_pos_iff.2 hA0; have hsl : sg.length ≤ 1 := by rcases hsg with rfl | rfl <;> simp
 have hll : l.length ≤ 16777216 ∧ 0 < l.length := by
  rw [hL]; simp only [List.length_append]; split
  · simp only [List.length_cons]; omega
  simp only [List.length_nil]; omega
 have hXr : -8388608 ≤ X ∧ X ≤ 8388608 := by
  rcases hE with ⟨-, rfl⟩ | ⟨c, -, -, h1, h2⟩ <;> omega
 obtain ⟨Y, z, n1, n2, n3, n4, n5, n6⟩ := normal_val (neg := !sg.isEmpty) (G := A ++ B) (dg_append.2 ⟨hA, hB⟩) (by rw [List.length_append]; omega) (e := X - (B.length : Int)) (by omega); rw [List.length_append] at n4 n6; -- no blank ahead
 obtain ⟨c0, r0, hc0, hcb⟩ : ∃ c r, l = c :: r ∧ 14 ≤ c.toNat ∧ c.toNat ≠ 32 := by
  obtain ⟨a0, A', hAc⟩ : ∃ a0 A', A = a0 :: A' := by
   cases A with
   | nil => exact absurd rfl hA0
   | cons x r => exact ⟨x, r, rfl⟩
  have ha0 := hA a0 (by rw [hAc]; simp); rcases hsg with rfl | rfl
  · exact ⟨a0, _, by rw [hL, hAc]; rfl, by omega, by omega⟩
  exact ⟨45, _, by rw [hL]; rfl, by decide, by decide⟩
 have hb0 : Ev (fun k => scan_blanks.f k (S l) 0) 0 := by
  refine Ev.step (f := fun _ => some 0) (fun k => ?_) (Ev.now _); show scan_blanks.l0 (k + 1) _ 0 = _; have e0 : bt (S l) 0 = (c0.toNat : Int) := by
   have := bt_get (l := l) (i := 0) hll.2; have g : l[0]'hll.2 = c0 := by simp [hc0]
   rw [g] at this; exact this
  have eb : scan_Blank.f (c0.toNat : Int) = some false := by
   unfold scan_Blank.f; rw [if_neg (by omega), if_pos (by omega), decide_eq_false (by omega)]
  rw [scan_blanks.l0, if_pos (by rw [s_size]; omega), if_pos (by omega), e0, eb]; rfl
 have hb1 : Ev (fun k => scan_blanks.f k (S l) (l.length : Int)) (l.length : Int) := by
  refine Ev.step (f := fun _ => some (l.length : Int)) (fun k => ?_) (Ev.now _); show scan_blanks.l0 (k + 1) _ _ = _; rw [scan_blanks.l0, if_neg (by rw [s_size]; omega)]
 have hlf : scan_literal.f (S l) 0 = some (!sg.isEmpty, S (A ++ B), X - (B.length : Int), (l.length : Int), true) := by
  unfold scan_literal.f; rw [if_pos ⟨by omega, by rw [s_size]; omega, by rw [s_size]; omega⟩, s_data]; show some (litF l 0) = _; unfold litF; rw [hlit]
 have hnum : Ev (fun k => scan_Number.f k (S l)) (!sg.isEmpty, S Y, (if dv (A ++ B) = 0 then 0 else X - (B.length : Int) + (z : Int)), (l.length : Int)) := by
  unfold scan_Number.f; refine Evx.bindc (h := fun _ => some (!sg.isEmpty, S Y, (if dv (A ++ B) = 0 then 0 else X - (B.length : Int) + (z : Int)), (l.length : Int))) hb0 (fun k => ?_) (Ev.now _); rw [hlf, Option.bind_some]; simp only [if_true]; rw [n1, Option.bind_some]
 refine ⟨Y, z, ?_, n2, n3, n4, n5, n6⟩; unfold scan_Whole.f; refine Evx.bindc hnum (fun k => by simp only; rw [if_neg (by omega)]) ?_; refine Evx.bindc (h := fun _ => some (!sg.isEmpty, S Y, (if dv (A ++ B) = 0 then 0 else X - (B.length : Int) + (z : Int)), true)) hb1 (fun k => ?_) (Ev.now _); rw [s_size, if_pos rfl]
end Go.Proofs.YtgbjojokjekmhaaGreatDoor.Num
namespace Go.Proofs.YtgbjojokjekmhaaGreatDoor.Num
open Go.RowKit Go.Proofs.YtgbjojokjekmhaaGreatDoor.PXC Go.Proofs.YtgbjojokjekmhaaGreatDoor.PXD Go.Proofs.YtgbjojokjekmhaaGreatDoor.PXN Go.Proofs.YtgbjojokjekmhaaGreatDoorW.PrintWords Go.Proofs.YtgbjojokjekmhaaGreatDoorW.PrintLast Go.Proofs.YtgbjojokjekmhaaGreatDoorW.PrintMore
set_option linter.unusedVariables false
set_option linter.unusedSimpArgs false

theorem bt_list {l : List UInt8} {i : Nat} (h : i < l.length) : bt (S l) (i : Int) = ((l[i]'h).toNat : Int) := by
 have h2 : ((i : Int)).toNat < (S l).size := by rw [s_size, Int.toNat_natCast]; exact h
 rw [← bt_at _ _ h2]; rfl
theorem set_mid (P : List Int) (x v : Int) (Z : List Int) : (P ++ x :: Z).set P.length v = P ++ v :: Z := by
 rw [List.set_append_right _ _ (Nat.le_refl _), Nat.sub_self, List.set_cons_zero]
theorem rd_mid (P : List Int) (x : Int) (Z : List Int) : rd (P ++ x :: Z) (P.length : Int) = x := by
 unfold rd; rw [Int.toNat_natCast, List.getD_eq_getElem?_getD, List.getElem?_append_right (Nat.le_refl _), Nat.sub_self]; rfl
/-! ### placed -/
theorem placed_loop {neg : Bool} {ds : List UInt8} (hd : Dg ds) {high x : Int} {a : Nat} (ha : (a : Int) = high - x - (ds.length : Int)) (hb : -16777216 ≤ x ∧ x ≤ 16777216 ∧ -16777216 ≤ high ∧ high ≤ 16777216) (hl : ds.length ≤ 16777216) (z : Nat) :
  ∀ (rest done : List UInt8) (P : List Int), ds = done ++ rest → P.length = a + done.length → Ev (fun k => abacuslaw15_placed.l0 k high (P ++ List.replicate (rest.length + z) 0) (done.length : Int) neg (S ds) x) (P ++ li rest ++ List.replicate z 0) := by
 intro rest; induction rest with
 | nil =>
  intro done P h1 h2; refine Ev.step (f := fun _ => some (P ++ li [] ++ List.replicate z 0)) (fun k => ?_) (Ev.now _); rw [List.append_nil] at h1; rw [abacuslaw15_placed.l0, if_neg (by rw [s_size, h1]; omega)]; simp [li]
 | cons b rest ih =>
  intro done P h1 h2; have hdl : ds.length = done.length + (rest.length + 1) := by rw [h1, List.length_append, List.length_cons]
  have hi : done.length < ds.length := by omega
  have hg : ds[done.length]'hi = b := by
   have : ds[done.length]? = some b := by rw [h1, List.getElem?_append_right (Nat.le_refl _), Nat.sub_self]; rfl
   rw [List.getElem?_eq_getElem hi] at this; exact Option.some.inj this
  have hbd : 48 ≤ b.toNat ∧ b.toNat ≤ 57 := by rw [← hg]; exact hd _ (List.getElem_mem hi)
  have hbt := bt_list hi; rw [hg] at hbt; have e1 : wrap64 (wrap64 (wrap64 (high - x) - (ds.length : Int)) + (done.length : Int)) = (P.length : Int) := by
   rw [w64 (x := high - x) (by omega) (by omega), w64 (x := high - x - (ds.length : Int)) (by omega) (by omega), w64 (by omega) (by omega)]; omega
  have e2 : ((b.toNat : Int) - 48) % 256 = (b.toNat : Int) - 48 := by omega
  have e3 : wrap64 ((done.length : Int) + 1) = ((done ++ [b]).length : Int) := by rw [w64 (by omega) (by omega), List.length_append]; rfl
  have hrep : List.replicate ((b :: rest).length + z) (0 : Int) = 0 :: List.replicate (rest.length + z) 0 := by
   rw [List.length_cons, show rest.length + 1 + z = (rest.length + z) + 1 by omega, List.replicate_succ]
  have hset : (P ++ List.replicate ((b :: rest).length + z) (0 : Int)).set P.length ((b.toNat : Int) - 48) = P ++ [(b.toNat : Int) - 48] ++ List.replicate (rest.length + z) 0 := by
   rw [hrep, set_mid, List.append_assoc]; rfl
  have hlen : (P.length : Int) < ((P ++ List.replicate ((b :: rest).length + z) (0 : Int)).length : Int) := by
   rw [hrep, List.length_append, List.length_cons]; omega
  have hih := ih (done ++ [b]) (P ++ [(b.toNat : Int) - 48]) (by rw [h1, List.append_assoc]; rfl) (by rw [List.length_append, List.length_append, h2, List.length_singleton, List.length_singleton]; omega); have hres : P ++ [(b.toNat : Int) - 48] ++ li rest ++ List.replicate z 0 = P ++ li (b :: rest) ++ List.replicate z 0 := by
   have : li (b :: rest) = [(b.toNat : Int) - 48] ++ li rest := rfl; rw [this]; simp only [List.append_assoc]
  rw [hres] at hih; refine Ev.step (fun k => ?_) hih; rw [abacuslaw15_placed.l0, if_pos (by rw [s_size]; omega), if_pos (by omega), s_size ds, e1, if_pos (by omega), if_pos hlen, hbt, e2, e3, Int.toNat_natCast, hset]
theorem placed_tot {neg : Bool} {ds : List UInt8} (hd : Dg ds) {low high x : Int} (h1 : low ≤ x) (h2 : x + (ds.length : Int) ≤ high) (hb : -8388608 ≤ low ∧ high ≤ 8388608) : Ev (fun k => abacuslaw15_placed.f k neg (S ds) x low high) (List.replicate (high - x - (ds.length : Int)).toNat 0 ++ li ds ++ List.replicate (x - low).toNat 0) := by
 have e1 : wrap64 (high - low) = high - low := by rw [w64 (by omega) (by omega)]
 have h := placed_loop (neg := neg) hd (high := high) (x := x) (a := (high - x - (ds.length : Int)).toNat) (by omega) (by omega) (by omega) (x - low).toNat ds [] (List.replicate (high - x - (ds.length : Int)).toNat 0) rfl (by rw [List.length_replicate]; rfl); have hz : List.replicate (high - low).toNat (0 : Int) = List.replicate (high - x - (ds.length : Int)).toNat 0 ++ List.replicate (ds.length + (x - low).toNat) 0 := by
  rw [List.replicate_append_replicate]; congr 1
  omega
 unfold abacuslaw15_placed.f; refine Ev.congr (fun k => ?_) h; rw [e1, if_pos (by omega), if_pos (by omega), hz]; rfl
/-! ### gap -/
theorem gap_loop (m : Int) : ∀ (n : Nat) (A B : List Int), A.length = n → B.length = n → Dgi A → Dgi B → ∀ (br : Int), (br = 0 ∨ br = 1) → ∀ C D : List Int, C.length = D.length → n + C.length ≤ 16777216 →
  ∃ (R : List Int) (b2 : Int), (b2 = 0 ∨ b2 = 1) ∧ Dgi R ∧ R.length = n ∧ iv R = iv A - iv B - br + b2 * ten n ∧ Ev (fun k => abacuslaw15_gap.l0 k m (A ++ C) (B ++ D) br ((n : Int) - 1)) (R ++ C, m) := by
 intro n; induction n with
 | zero =>
  intro A B hA hB _ _ br hbr C D hC hn; obtain rfl := List.eq_nil_of_length_eq_zero hA; obtain rfl := List.eq_nil_of_length_eq_zero hB; refine ⟨[], br, hbr, (fun _ h => by cases h), rfl, ?_, ?_⟩
  · show (0 : Int) = 0 - 0 - br + br * ten 0; rw [ten_zero]; omega
  exact Ev.step (f := fun _ => some (C, m)) (fun k => by rw [abacuslaw15_gap.l0, if_neg (by omega)]; rfl) (Ev.now _)
 | succ n ih =>
  intro A B hA hB hdA hdB br hbr C D hC hn; have hneA : A ≠ [] := fun h => by rw [h] at hA; cases hA
  have hneB : B ≠ [] := fun h => by rw [h] at hB; cases hB
  obtain ⟨A', x, rfl⟩ : ∃ u y, A = u ++ [y] := ⟨A.dropLast, A.getLast hneA, (List.dropLast_concat_getLast hneA).symm⟩; obtain ⟨B', y, rfl⟩ : ∃ u y, B = u ++ [y] := ⟨B.dropLast, B.getLast hneB, (List.dropLast_concat_getLast hneB).symm⟩; have hA' : A'.length = n := by rw [List.length_append, List.length_singleton] at hA; omega
  have hB' : B'.length = n := by rw [List.length_append, List.length_singleton] at hB; omega
  obtain ⟨dA, dx⟩ := dgi_append.1 hdA; obtain ⟨dB, dy⟩ := dgi_append.1 hdB; have hx := dx x (by simp); have hy := dy y (by simp); have eA : A' ++ [x] ++ C = A' ++ x :: C := by rw [List.append_assoc]; rfl
  have eB : B' ++ [y] ++ D = B' ++ y :: D := by rw [List.append_assoc]; rfl
  have ei : ((n + 1 : Nat) : Int) - 1 = (n : Int) := by omega
  have ew : wrap64 ((n : Int) - 1) = (n : Int) - 1 := by rw [w64 (by omega) (by omega)]
  have hrx : rd (A' ++ x :: C) (n : Int) = x := by rw [← hA']; exact rd_mid _ _ _
  have hry : rd (B' ++ y :: D) (n : Int) = y := by rw [← hB']; exact rd_mid _ _ _
  have hoff : (y + br) % 256 = y + br := by omega
  have hlA : (n : Int) < ((A' ++ x :: C).length : Int) := by rw [List.length_append, List.length_cons]; omega
  have hlB : (n : Int) < ((B' ++ y :: D).length : Int) := by rw [List.length_append, List.length_cons]; omega
  have sA : ∀ v u : Int, (A' ++ u :: C).set n v = A' ++ v :: C := fun v u => by rw [← hA']; exact set_mid _ _ _ _
  rw [ei, eA, eB, iv_snoc, iv_snoc, ten_succ]; by_cases c : x < y + br
  ·
   obtain ⟨R, b2, hb2, hR, hRl, hRv, hE⟩ := ih A' B' hA' hB' dA dB 1 (.inr rfl) ((x + 10 - (y + br)) :: C) (y :: D) (by simp [hC]) (by rw [List.length_cons]; omega); refine ⟨R ++ [x + 10 - (y + br)], b2, hb2, dgi_append.2 ⟨hR, fun v hv => by rw [List.mem_singleton.1 hv]; omega⟩, by rw [List.length_append, hRl]; rfl, ?_, ?_⟩
   · rw [iv_snoc, hRv, ← Int.mul_assoc]; omega
   have e1 : (x + 10) % 256 = x + 10 := by omega
   have e2 : (x + 10 - (y + br)) % 256 = x + 10 - (y + br) := by omega
   have hr2 : rd (A' ++ (x + 10) :: C) (n : Int) = x + 10 := by rw [← hA']; exact rd_mid _ _ _
   have eR : R ++ [x + 10 - (y + br)] ++ C = R ++ (x + 10 - (y + br)) :: C := by rw [List.append_assoc]; rfl
   rw [eR]; refine Ev.step (fun k => ?_) hE; rw [abacuslaw15_gap.l0, if_pos (by omega), if_pos (by omega), if_pos hlB, if_pos hlA, hrx, hry, hoff, if_pos c, e1, Option.bind_some, Int.toNat_natCast, sA, hr2, e2, sA, ew]
  obtain ⟨R, b2, hb2, hR, hRl, hRv, hE⟩ := ih A' B' hA' hB' dA dB 0 (.inl rfl) ((x - (y + br)) :: C) (y :: D) (by simp [hC]) (by rw [List.length_cons]; omega); refine ⟨R ++ [x - (y + br)], b2, hb2, dgi_append.2 ⟨hR, fun v hv => by rw [List.mem_singleton.1 hv]; omega⟩, by rw [List.length_append, hRl]; rfl, ?_, ?_⟩
  · rw [iv_snoc, hRv, ← Int.mul_assoc]; omega
  have e2 : (x - (y + br)) % 256 = x - (y + br) := by omega
  have eR : R ++ [x - (y + br)] ++ C = R ++ (x - (y + br)) :: C := by rw [List.append_assoc]; rfl
  rw [eR]; refine Ev.step (fun k => ?_) hE; rw [abacuslaw15_gap.l0, if_pos (by omega), if_pos (by omega), if_pos hlB, if_pos hlA, hrx, hry, hoff, if_neg c, Int.toNat_natCast, e2, sA, ew]
theorem gap_tot {n1 n2 : Bool} {ds es : List UInt8} (hd : Dg ds) (he : Dg es) {x y : Int} (hb : -100000 ≤ x ∧ x ≤ 100000 ∧ -100000 ≤ y ∧ y ≤ 100000 ∧ ds.length ≤ 4194304 ∧ es.length ≤ 4194304) {low high : Int} (hlow : low = mn x y) (hhigh : high = mx (x + (ds.length : Int)) (y + (es.length : Int))) :
  ∃ R : List Int, Dgi R ∧ (R.length : Int) = high - low ∧ iv R = ((dv ds * ten (x - low).toNat - dv es * ten (y - low).toNat).natAbs : Int) ∧ Ev (fun k => abacuslaw15_gap.f k n1 (S ds) x n2 (S es) y) (R, low) := by
 have hlow2 : low ≤ x ∧ low ≤ y ∧ -100000 ≤ low := by rw [hlow]; unfold mn; split <;> omega
 have hhigh2 : x + (ds.length : Int) ≤ high ∧ y + (es.length : Int) ≤ high ∧ high ≤ 8000000 := by rw [hhigh]; unfold mx; split <;> omega
 have w1 : wrap64 (x + (ds.length : Int)) = x + (ds.length : Int) := by rw [w64 (by omega) (by omega)]
 have w2 : wrap64 (y + (es.length : Int)) = y + (es.length : Int) := by rw [w64 (by omega) (by omega)]
 have p1 := placed_tot (neg := n1) hd (low := low) (high := high) (x := x) hlow2.1 hhigh2.1 (by omega); have p2 := placed_tot (neg := n2) he (low := low) (high := high) (x := y) hlow2.2.1 hhigh2.2.1 (by omega); obtain ⟨A, hA⟩ : ∃ A, List.replicate (high - x - (ds.length : Int)).toNat 0 ++ li ds ++ List.replicate (x - low).toNat 0 = A := ⟨_, rfl⟩; obtain ⟨B, hB⟩ : ∃ B, List.replicate (high - y - (es.length : Int)).toNat 0 ++ li es ++ List.replicate (y - low).toNat 0 = B := ⟨_, rfl⟩; have hAl : A.length = (high - low).toNat := by rw [← hA]; simp only [List.length_append, List.length_replicate, li_len]; omega
 have hBl : B.length = (high - low).toNat := by rw [← hB]; simp only [List.length_append, List.length_replicate, li_len]; omega
 have hAd : Dgi A := by rw [← hA]; exact dgi_append.2 ⟨dgi_append.2 ⟨dgi_rep _, li_dg hd⟩, dgi_rep _⟩
 have hBd : Dgi B := by rw [← hB]; exact dgi_append.2 ⟨dgi_append.2 ⟨dgi_rep _, li_dg he⟩, dgi_rep _⟩
 have hAv : iv A = dv ds * ten (x - low).toNat := by rw [← hA, iv_append, iv_append, iv_rep, iv_rep, List.length_replicate]; show (0 * _ + dv ds) * _ + 0 = _; rw [Int.zero_mul, Int.zero_add, Int.add_zero]
 have hBv : iv B = dv es * ten (y - low).toNat := by rw [← hB, iv_append, iv_append, iv_rep, iv_rep, List.length_replicate]; show (0 * _ + dv es) * _ + 0 = _; rw [Int.zero_mul, Int.zero_add, Int.add_zero]
 rw [hA] at p1; rw [hB] at p2; rw [← hAv, ← hBv]; have main : ∀ (A B : List Int), A.length = (high - low).toNat → B.length = (high - low).toNat → Dgi A → Dgi B → iv B ≤ iv A → ∃ R : List Int, Dgi R ∧ (R.length : Int) = high - low ∧ iv R = iv A - iv B ∧ Ev (fun k => abacuslaw15_gap.j0 k low A B) (R, low) := by
  intro A B hAl hBl hAd hBd hle; obtain ⟨R, b2, hb2, hR, hRl, hRv, hE⟩ := gap_loop low (high - low).toNat A B hAl hBl hAd hBd 0 (.inl rfl) [] [] rfl (by simp; omega); rw [List.append_nil, List.append_nil, List.append_nil] at hE; have hRr := iv_rng hR; rw [hRl] at hRr; have hb0 : b2 = 0 := by
   rcases hb2 with h | h
   · exact h
   rw [h, Int.one_mul] at hRv; omega
  rw [hb0, Int.zero_mul] at hRv; have ew : wrap64 ((A.length : Int) - 1) = (((high - low).toNat : Nat) : Int) - 1 := by rw [hAl, w64 (by omega) (by omega)]
  exact ⟨R, hR, by omega, by omega, Ev.step (fun k => by rw [abacuslaw15_gap.j0, ew]) hE⟩
 have hlt := less_iv A B (by rw [hAl, hBl]) hAd hBd; unfold abacuslaw15_gap.f; simp only [s_size, w1, w2, ← hlow, ← hhigh]; by_cases c : iv A < iv B
 · obtain ⟨R, r1, r2, r3, r4⟩ := main B A hBl hAl hBd hAd (by omega); refine ⟨R, r1, r2, by omega, ?_⟩; refine Ev.bind p1 ?_; refine Evx.bindc p2 (fun k => ?_) r4; rw [hlt, if_pos (decide_eq_true c)]
 obtain ⟨R, r1, r2, r3, r4⟩ := main A B hAl hBl hAd hBd (by omega); refine ⟨R, r1, r2, by omega, ?_⟩; refine Ev.bind p1 ?_; refine Evx.bindc p2 (fun k => ?_) r4; rw [hlt, if_neg (by rw [decide_eq_false c]; decide)]
end Go.Proofs.YtgbjojokjekmhaaGreatDoor.Num
namespace Go.Proofs.YtgbjojokjekmhaaGreatDoor.Num
open Go.RowKit Go.Proofs.YtgbjojokjekmhaaGreatDoor.PXC Go.Proofs.YtgbjojokjekmhaaGreatDoor.PXD Go.Proofs.YtgbjojokjekmhaaGreatDoor.PXN Go.Proofs.YtgbjojokjekmhaaGreatDoorW.PrintWords Go.Proofs.YtgbjojokjekmhaaGreatDoorW.PrintLast Go.Proofs.YtgbjojokjekmhaaGreatDoorW.PrintMore
set_option linter.unusedVariables false
set_option linter.unusedSimpArgs false

def cmpI (x y : Int) : Int := if x < y then -1 else if y < x then 1 else 0
theorem rd_at (a : List Int) {i : Nat} (h : i < a.length) : rd a (i : Int) = a[i] := by
 unfold rd; rw [Int.toNat_natCast, List.getD_eq_getElem?_getD, List.getElem?_eq_getElem h]; rfl
/-- A row of n places, from its highest on, that a row at a place lies in. -/
def wide (a : List Int) (la top low : Int) : List Int := List.replicate (top - la - (a.length : Int)).toNat 0 ++ a ++ List.replicate (la - low).toNat 0
theorem wide_len {a : List Int} {la top low : Int} (h1 : la + (a.length : Int) ≤ top) (h2 : low ≤ la) : ((wide a la top low).length : Int) = top - low := by
 unfold wide; simp only [List.length_append, List.length_replicate]; omega
theorem wide_dg {a : List Int} (ha : Dgi a) (la top low : Int) : Dgi (wide a la top low) := dgi_append.2 ⟨dgi_append.2 ⟨dgi_rep _, ha⟩, dgi_rep _⟩
theorem wide_iv (a : List Int) (la top low : Int) : iv (wide a la top low) = iv a * ten (la - low).toNat := by
 unfold wide; rw [iv_append, iv_append, iv_rep, iv_rep, List.length_replicate, Int.zero_mul, Int.zero_add, Int.add_zero]
theorem wide_get {a : List Int} {la top low : Int} (h1 : la + (a.length : Int) ≤ top) (h2 : low ≤ la) {j : Nat} (hj : (j : Int) < top - low) : (wide a la top low).getD j 0 = if 0 ≤ la + (a.length : Int) - 1 - (top - 1 - (j : Int)) ∧ la + (a.length : Int) - 1 - (top - 1 - (j : Int)) < (a.length : Int) then rd a (la + (a.length : Int) - 1 - (top - 1 - (j : Int))) else 0 := by
 obtain ⟨p, hp⟩ : ∃ p : Nat, p = (top - la - (a.length : Int)).toNat := ⟨_, rfl⟩; obtain ⟨q, hq⟩ : ∃ q : Nat, q = (la - low).toNat := ⟨_, rfl⟩; have hpI : (p : Int) = top - la - (a.length : Int) := by omega
 unfold wide; rw [← hp, ← hq, List.getD_eq_getElem?_getD]; by_cases c1 : j < p
 · rw [if_neg (by omega), List.append_assoc, List.getElem?_append_left (by rw [List.length_replicate]; exact c1), List.getElem?_replicate, if_pos c1]; rfl
 by_cases c2 : j < p + a.length
 ·
  have e : la + (a.length : Int) - 1 - (top - 1 - (j : Int)) = ((j - p : Nat) : Int) := by omega
  rw [e, if_pos (by omega), rd_at a (by omega), List.getElem?_append_left (by rw [List.length_append, List.length_replicate]; exact c2), List.getElem?_append_right (by rw [List.length_replicate]; omega), List.length_replicate, List.getElem?_eq_getElem (by omega)]; rfl
 rw [if_neg (by omega), List.getElem?_append_right (by rw [List.length_append, List.length_replicate]; omega), List.getElem?_replicate]; split <;> rfl
theorem getD_at (a : List Int) {i : Nat} (h : i < a.length) : a.getD i 0 = a[i] := by rw [List.getD_eq_getElem?_getD, List.getElem?_eq_getElem h]; rfl
theorem less_loop {a b : List Int} (ha : Dgi a) (hb : Dgi b) {la lb top low : Int} (hlow : low = mn la lb) (h1 : la + (a.length : Int) ≤ top) (h2 : lb + (b.length : Int) ≤ top) (hr : -16777216 ≤ low ∧ top ≤ 16777216 ∧ la ≤ 16777216 ∧ lb ≤ 16777216 ∧ a.length ≤ 16777216 ∧ b.length ≤ 16777216) :
  ∀ (n j : Nat), ((j + n : Nat) : Int) = top - low → Ev (fun k => abacuslaw15_less.l0 k a la b lb (top - 1 - (j : Int))) (cmpI (iv ((wide a la top low).drop j)) (iv ((wide b lb top low).drop j))) := by
 have hl2 : low ≤ la ∧ low ≤ lb := by rw [hlow]; unfold mn; split <;> omega
 have hAl := wide_len h1 hl2.1; have hBl := wide_len h2 hl2.2; have hAd := wide_dg ha la top low; have hBd := wide_dg hb lb top low; intro n; induction n with
 | zero =>
  intro j hj; have e1 : (wide a la top low).drop j = [] := List.drop_of_length_le (by omega); have e2 : (wide b lb top low).drop j = [] := List.drop_of_length_le (by omega); rw [e1, e2]; refine Ev.step (f := fun _ => some 0) (fun k => ?_) (Ev.now _); rw [abacuslaw15_less.l0, if_neg (by rw [← hlow]; omega)]
 | succ n ih =>
  intro j hj; have hjA : j < (wide a la top low).length := by omega
  have hjB : j < (wide b lb top low).length := by omega
  have gA := wide_get h1 hl2.1 (j := j) (by omega); have gB := wide_get h2 hl2.2 (j := j) (by omega); rw [getD_at _ hjA] at gA; rw [getD_at _ hjB] at gB; have dA : (wide a la top low).drop j = (wide a la top low)[j] :: (wide a la top low).drop (j + 1) := List.drop_eq_getElem_cons hjA; have dB : (wide b lb top low).drop j = (wide b lb top low)[j] :: (wide b lb top low).drop (j + 1) := List.drop_eq_getElem_cons hjB; have sA : Dgi ((wide a la top low)[j] :: (wide a la top low).drop (j + 1)) := by rw [← dA]; exact fun x hx => hAd x (List.mem_of_mem_drop hx)
  have sB : Dgi ((wide b lb top low)[j] :: (wide b lb top low).drop (j + 1)) := by rw [← dB]; exact fun x hx => hBd x (List.mem_of_mem_drop hx)
  have hll : ((wide a la top low).drop (j + 1)).length = ((wide b lb top low).drop (j + 1)).length := by rw [List.length_drop, List.length_drop]; omega
  have lt1 := iv_lt_cons hll sA sB; have lt2 := iv_lt_cons hll.symm sB sA; have hih := ih (j + 1) (by omega); rw [dA, dB]; obtain ⟨x, hx⟩ : ∃ x, (wide a la top low)[j] = x := ⟨_, rfl⟩; obtain ⟨y, hy⟩ : ∃ y, (wide b lb top low)[j] = y := ⟨_, rfl⟩; rw [hx] at gA lt1 lt2 ⊢; rw [hy] at gB lt1 lt2 ⊢; have i1 : wrap64 (wrap64 (wrap64 (la + (a.length : Int)) - 1) - (top - 1 - (j : Int))) = la + (a.length : Int) - 1 - (top - 1 - (j : Int)) := by
   rw [w64 (x := la + (a.length : Int)) (by omega) (by omega), w64 (x := la + (a.length : Int) - 1) (by omega) (by omega), w64 (by omega) (by omega)]
  have i2 : wrap64 (wrap64 (wrap64 (lb + (b.length : Int)) - 1) - (top - 1 - (j : Int))) = lb + (b.length : Int) - 1 - (top - 1 - (j : Int)) := by
   rw [w64 (x := lb + (b.length : Int)) (by omega) (by omega), w64 (x := lb + (b.length : Int) - 1) (by omega) (by omega), w64 (by omega) (by omega)]
  have e1 : wrap64 (top - 1 - (j : Int) - 1) = top - 1 - ((j + 1 : Nat) : Int) := by
   rw [w64 (by clear i1 i2; omega) (by clear i1 i2; omega)]; clear i1 i2; omega
  have hge : top - 1 - (j : Int) ≥ mn la lb := by rw [← hlow]; clear i1 i2 e1; omega
  have j4 : Ev (fun k => abacuslaw15_less.j4 k a la b lb (top - 1 - (j : Int)) x y) (cmpI (iv (x :: (wide a la top low).drop (j + 1))) (iv (y :: (wide b lb top low).drop (j + 1)))) := by
   clear i1 i2; by_cases c1 : x < y
   ·
    have : cmpI (iv (x :: (wide a la top low).drop (j + 1))) (iv (y :: (wide b lb top low).drop (j + 1))) = -1 := by unfold cmpI; rw [if_pos (lt1.2 (.inl c1))]
    rw [this]; exact Ev.step (f := fun _ => some (-1)) (fun k => by rw [abacuslaw15_less.j4, if_pos c1]) (Ev.now _)
   by_cases c2 : y < x
   ·
    have h3 := lt2.2 (.inl c2); have : cmpI (iv (x :: (wide a la top low).drop (j + 1))) (iv (y :: (wide b lb top low).drop (j + 1))) = 1 := by unfold cmpI; rw [if_neg (fun q => Int.lt_asymm q h3), if_pos h3]
    rw [this]; exact Ev.step (f := fun _ => some 1) (fun k => by rw [abacuslaw15_less.j4, if_neg c1, if_pos c2]) (Ev.now _)
   have hxy : x = y := by clear e1; omega
   have hc : cmpI (iv (x :: (wide a la top low).drop (j + 1))) (iv (y :: (wide b lb top low).drop (j + 1))) = cmpI (iv ((wide a la top low).drop (j + 1))) (iv ((wide b lb top low).drop (j + 1))) := by
    have q1 : (iv (x :: (wide a la top low).drop (j + 1)) < iv (y :: (wide b lb top low).drop (j + 1))) ↔ iv ((wide a la top low).drop (j + 1)) < iv ((wide b lb top low).drop (j + 1)) := ⟨fun h => (lt1.1 h).elim (fun q => absurd q c1) (fun q => q.2), fun h => lt1.2 (.inr ⟨hxy, h⟩)⟩; have q2 : (iv (y :: (wide b lb top low).drop (j + 1)) < iv (x :: (wide a la top low).drop (j + 1))) ↔ iv ((wide b lb top low).drop (j + 1)) < iv ((wide a la top low).drop (j + 1)) := ⟨fun h => (lt2.1 h).elim (fun q => absurd q c2) (fun q => q.2), fun h => lt2.2 (.inr ⟨hxy.symm, h⟩)⟩; unfold cmpI; simp only [q1, q2]
   rw [hc]; exact Ev.step (fun k => by rw [abacuslaw15_less.j4, if_neg c1, if_neg c2, e1]) hih
  have j2 : Ev (fun k => abacuslaw15_less.j2 k a la b lb (top - 1 - (j : Int)) x 0) (cmpI (iv (x :: (wide a la top low).drop (j + 1))) (iv (y :: (wide b lb top low).drop (j + 1)))) := by
   clear i1 e1; by_cases c1 : 0 ≤ lb + (b.length : Int) - 1 - (top - 1 - (j : Int))
   ·
    by_cases c2 : lb + (b.length : Int) - 1 - (top - 1 - (j : Int)) < (b.length : Int)
    · rw [if_pos ⟨c1, c2⟩] at gB; refine Ev.step (fun k => by rw [abacuslaw15_less.j2, i2, if_pos c1, decide_eq_true c2]) ?_; exact Ev.step (fun k => by rw [abacuslaw15_less.j3, if_pos rfl, if_pos c1, if_pos c2, ← gB]) j4
    rw [if_neg (fun q => c2 q.2)] at gB; refine Ev.step (fun k => by rw [abacuslaw15_less.j2, i2, if_pos c1, decide_eq_false c2]) ?_; rw [gB] at j4; exact Ev.step (fun k => by rw [abacuslaw15_less.j3, if_neg (by decide)]) (by rw [gB]; exact j4)
   rw [if_neg (fun q => c1 q.1)] at gB; refine Ev.step (fun k => by rw [abacuslaw15_less.j2, i2, if_neg c1]) ?_; rw [gB] at j4; exact Ev.step (fun k => by rw [abacuslaw15_less.j3, if_neg (by decide)]) (by rw [gB]; exact j4)
  clear i2 e1; by_cases c1 : 0 ≤ la + (a.length : Int) - 1 - (top - 1 - (j : Int))
  ·
   by_cases c2 : la + (a.length : Int) - 1 - (top - 1 - (j : Int)) < (a.length : Int)
   · rw [if_pos ⟨c1, c2⟩] at gA; refine Ev.step (fun k => by rw [abacuslaw15_less.l0, if_pos hge, i1, if_pos c1, decide_eq_true c2]) ?_; exact Ev.step (fun k => by rw [abacuslaw15_less.j1, if_pos rfl, if_pos c1, if_pos c2, ← gA]) j2
   rw [if_neg (fun q => c2 q.2)] at gA; refine Ev.step (fun k => by rw [abacuslaw15_less.l0, if_pos hge, i1, if_pos c1, decide_eq_false c2]) ?_; rw [gA] at j2; exact Ev.step (fun k => by rw [abacuslaw15_less.j1, if_neg (by decide)]) (by rw [gA]; exact j2)
  rw [if_neg (fun q => c1 q.1)] at gA; refine Ev.step (fun k => by rw [abacuslaw15_less.l0, if_pos hge, i1, if_neg c1]) ?_; rw [gA] at j2; exact Ev.step (fun k => by rw [abacuslaw15_less.j1, if_neg (by decide)]) (by rw [gA]; exact j2)
theorem less_tot {a b : List Int} (ha : Dgi a) (hb : Dgi b) {la lb : Int} (hr : -4194304 ≤ la ∧ la ≤ 4194304 ∧ -4194304 ≤ lb ∧ lb ≤ 4194304 ∧ a.length ≤ 4194304 ∧ b.length ≤ 4194304) :
  Ev (fun k => abacuslaw15_less.f k a la b lb) (cmpI (iv a * ten (la - mn la lb).toNat) (iv b * ten (lb - mn la lb).toNat)) := by
 obtain ⟨top, ht⟩ : ∃ top, top = mx (la + (a.length : Int)) (lb + (b.length : Int)) := ⟨_, rfl⟩; obtain ⟨low, hl⟩ : ∃ low, low = mn la lb := ⟨_, rfl⟩; have h1 : la + (a.length : Int) ≤ top ∧ lb + (b.length : Int) ≤ top ∧ top ≤ 8388608 := by rw [ht]; unfold mx; split <;> omega
 have h2 : -4194304 ≤ low ∧ low ≤ la := by rw [hl]; unfold mn; split <;> omega
 have h := less_loop ha hb hl h1.1 h1.2.1 (by omega) (top - low).toNat 0 (by omega); rw [List.drop_zero, List.drop_zero, wide_iv, wide_iv, hl] at h; have w1 : wrap64 (la + (a.length : Int)) = la + (a.length : Int) := by rw [w64 (by omega) (by omega)]
 have w2 : wrap64 (lb + (b.length : Int)) = lb + (b.length : Int) := by rw [w64 (by clear w1; omega) (by clear w1; omega)]
 have w3 : wrap64 (top - 1) = top - 1 - ((0 : Nat) : Int) := by rw [w64 (by clear w1 w2; omega) (by clear w1 w2; omega)]; simp
 unfold abacuslaw15_less.f; refine Ev.congr (fun k => ?_) h; rw [w1, w2, ← ht, w3]
end Go.Proofs.YtgbjojokjekmhaaGreatDoor.Num
namespace Go.Proofs.YtgbjojokjekmhaaGreatDoor.Num
open Go.RowKit Go.Proofs.YtgbjojokjekmhaaGreatDoor.PXC Go.Proofs.YtgbjojokjekmhaaGreatDoorW.PrintWords
set_option linter.unusedVariables false
set_option linter.unusedSimpArgs false

/-- W units of 10^u beside D units of 10^x, held at 10^m: within half a unit, even at just a half. -/
def NearAt (W u D x m : Int) : Prop :=
 2 * (W * ten (u - m).toNat - D * ten (x - m).toNat) ≤ ten (u - m).toNat ∧ 2 * (D * ten (x - m).toNat - W * ten (u - m).toNat) ≤ ten (u - m).toNat ∧
 (2 * (W * ten (u - m).toNat - D * ten (x - m).toNat) = ten (u - m).toNat ∨ 2 * (D * ten (x - m).toNat - W * ten (u - m).toNat) = ten (u - m).toNat → W % 2 = 0)
theorem sc_eq (a b p : Int) : 2 * (a * p - b * p) = (2 * (a - b)) * p := by rw [Int.mul_assoc, Int.sub_mul]
theorem near_iff {W u D x m : Int} (h1 : m ≤ u) (h2 : m ≤ x) (k : Nat) : NearAt W u D x (m - (k : Int)) ↔ NearAt W u D x m := by
 have e1 : (u - (m - (k : Int))).toNat = (u - m).toNat + k := by omega
 have e2 : (x - (m - (k : Int))).toNat = (x - m).toNat + k := by omega
 unfold NearAt; rw [e1, e2, ten_add, ten_add, ← Int.mul_assoc, ← Int.mul_assoc]; have hp := ten_pos k; obtain ⟨P, hP⟩ : ∃ P, ten k = P := ⟨_, rfl⟩; obtain ⟨a, ha⟩ : ∃ a, ten (u - m).toNat = a := ⟨_, rfl⟩; obtain ⟨b, hb⟩ : ∃ b, ten (x - m).toNat = b := ⟨_, rfl⟩; rw [hP] at hp ⊢; rw [ha, hb, sc_eq, sc_eq]; have le : ∀ s t : Int, s * P ≤ t * P ↔ s ≤ t := fun s t => ⟨fun h => Int.le_of_mul_le_mul_right h hp, fun h => Int.mul_le_mul_of_nonneg_right h (Int.le_of_lt hp)⟩
 have eq : ∀ s t : Int, s * P = t * P ↔ s = t := fun s t => ⟨fun h => Int.eq_of_mul_eq_mul_right (Int.ne_of_gt hp) h, fun h => by rw [h]⟩
 rw [le, le, eq, eq]
theorem near_any {W u D x m n : Int} (h : NearAt W u D x m) (h1 : m ≤ u) (h2 : m ≤ x) (h3 : n ≤ u) (h4 : n ≤ x) : NearAt W u D x n := by
 rcases Int.le_total n m with c | c
 ·
  have e : n = m - ((m - n).toNat : Int) := by omega
  rw [e]; exact (near_iff h1 h2 _).2 h
 have e : m = n - ((n - m).toNat : Int) := by omega
 rw [e] at h; exact (near_iff h3 h4 _).1 h
theorem near_zero (u x m : Int) : NearAt 0 u 0 x m := by
 have hp := ten_pos (u - m).toNat; unfold NearAt; rw [Int.zero_mul, Int.zero_mul]; refine ⟨by omega, by omega, fun _ => by decide⟩
/-- One place fewer of a row of a one and zeros. -/
theorem near_carry {n : Nat} {u D x m : Int} (h : NearAt (ten (n + 1)) u D x m) (h1 : m ≤ u) : NearAt (ten n) (u + 1) D x m := by
 have e1 : (u + 1 - m).toNat = (u - m).toNat + 1 := by omega
 have hp := ten_pos (u - m).toNat; unfold NearAt at *; obtain ⟨a1, a2, -⟩ := h; rw [e1, ten_succ]; rw [ten_succ] at a1 a2; obtain ⟨a, ha⟩ : ∃ a, ten (u - m).toNat = a := ⟨_, rfl⟩; obtain ⟨b, hb⟩ : ∃ b, D * ten (x - m).toNat = b := ⟨_, rfl⟩; rw [ha] at a1 a2 hp ⊢; rw [hb] at a1 a2 ⊢; have e2 : ten n * (a * 10) = ten n * 10 * a := by rw [Int.mul_comm a 10, Int.mul_assoc]
 rw [e2]; obtain ⟨w, hw⟩ : ∃ w, ten n * 10 * a = w := ⟨_, rfl⟩; rw [hw] at a1 a2 ⊢; refine ⟨by omega, by omega, fun hh => ?_⟩; exfalso; omega
theorem rowL_near {ds : List UInt8} (h : Dg ds) (K x : Int) {m : Int} (h1 : m ≤ x + (ds.length : Int) - K) (h2 : m ≤ x) : NearAt (dv (rowL ds K).1) (x + (ds.length : Int) - K) (dv ds) x m := by
 have hr := dv_rng h; by_cases c0 : K < 0
 ·
  refine near_any (m := x) ?_ (by omega) (Int.le_refl _) h1 h2; have e : (rowL ds K).1 = [] := by unfold rowL; rw [if_pos c0]
  obtain ⟨j, hj⟩ : ∃ j : Nat, (x + (ds.length : Int) - K - x).toNat = ds.length + 1 + j := ⟨(x + (ds.length : Int) - K - x).toNat - ds.length - 1, by omega⟩; have hp := ten_pos ds.length; have hp2 := ten_pos j; have hle : ten (ds.length + 1) ≤ ten (ds.length + 1 + j) := by
   rw [ten_add _ j]; have := Int.mul_le_mul_of_nonneg_left (show 1 ≤ ten j by omega) (Int.le_of_lt (ten_pos (ds.length + 1))); omega
  rw [ten_succ] at hle; have e0 : (x - x).toNat = 0 := by omega
  have d0 : dv ([] : List UInt8) = 0 := rfl; unfold NearAt; rw [e, hj, e0, d0, ten_zero, Int.zero_mul, Int.mul_one]; refine ⟨by omega, by omega, fun _ => by decide⟩
 by_cases c1 : (ds.length : Int) ≤ K
 ·
  refine near_any (m := x + (ds.length : Int) - K) ?_ (Int.le_refl _) (by omega) h1 h2; have e : (rowL ds K).1 = ds ++ List.replicate (K.toNat - ds.length) 48 := by unfold rowL; rw [if_neg c0, if_pos c1]
  have e0 : (x + (ds.length : Int) - K - (x + (ds.length : Int) - K)).toNat = 0 := by omega
  have e1 : (x - (x + (ds.length : Int) - K)).toNat = K.toNat - ds.length := by omega
  unfold NearAt; rw [e, e0, e1, ten_zero, Int.mul_one, dv_app, dv_rep, List.length_replicate, Int.add_zero, Int.sub_self]; refine ⟨by decide, by decide, fun hh => ?_⟩; exfalso; omega
 refine near_any (m := x) ?_ (by omega) (Int.le_refl _) h1 h2; obtain ⟨k, rfl⟩ : ∃ k : Nat, K = (k : Int) := ⟨K.toNat, by omega⟩; have hk : k < ds.length := by omega
 have hrl := roundR_len (l := ds) (K := k) (Nat.le_of_lt hk) false; have e : dv (rowL ds (k : Int)).1 = (if (roundR (S ds) k false).2 = true then ten k else 0) + dv (roundR (S ds) k false).1 := by
  unfold rowL; rw [if_neg c0, if_neg c1, Int.toNat_natCast]; split
  · rename_i hc; have e3 : ((49 : UInt8).toNat : Int) - 48 = 1 := rfl; show dv (49 :: _) = _; rw [dv_cons, hrl, e3, Int.one_mul]
  show dv _ = 0 + _; rw [Int.zero_add]
 obtain ⟨-, r1, r2, r3⟩ := round_near h hk e; have e0 : (x - x).toNat = 0 := by omega
 have e1 : (x + (ds.length : Int) - (k : Int) - x).toNat = ds.length - k := by omega
 unfold NearAt; rw [e0, e1, ten_zero, Int.mul_one]; exact ⟨r1, r2, r3⟩
/-- What is written has no digit below the exact ones. -/
def LowAt (W u x : Int) : Prop := W = 0 ∨ x ≤ u ∨ ∃ (j : Nat) (W0 : Int), u = x - (j : Int) ∧ W = W0 * ten j
theorem low_exp {W u x Y : Int} {z : Nat} (h : LowAt W u x) (h0 : W ≠ 0) (hY : W = Y * ten z) (hm : Y % 10 ≠ 0) : x ≤ u + (z : Int) := by
 rcases h with h | h | ⟨j, W0, hu, hW⟩
 · exact absurd h h0
 · omega
 rcases Nat.lt_or_ge z j with c | c
 · exfalso; obtain ⟨i, rfl⟩ : ∃ i, j = z + (i + 1) := ⟨j - z - 1, by omega⟩; rw [hW, ten_add, ten_succ, Int.mul_comm (ten z), ← Int.mul_assoc] at hY; have := Int.eq_of_mul_eq_mul_right (Int.ne_of_gt (ten_pos z)) hY; rw [← this, ← Int.mul_assoc] at hm; omega
 omega
theorem rowL_low {ds : List UInt8} (h : Dg ds) (K x : Int) : LowAt (dv (rowL ds K).1) (x + (ds.length : Int) - K) x := by
 by_cases c1 : K ≤ (ds.length : Int)
 · exact .inr (.inl (by omega))
 refine .inr (.inr ⟨K.toNat - ds.length, dv ds, by omega, ?_⟩); have e : (rowL ds K).1 = ds ++ List.replicate (K.toNat - ds.length) 48 := by unfold rowL; rw [if_neg (by omega), if_pos (by omega)]
 rw [e, dv_app, dv_rep, List.length_replicate, Int.add_zero]
theorem places_val (ds : List UInt8) (x : Int) (n : Nat) : dv (ahead ds x n ++ behind ds x n) = dv (placesT ds x n) := by
 have e : ahead ds x n ++ behind ds x n = placesU ds x n := List.take_append_drop _ _; rw [e]; unfold placesU; split
 · rw [dv_app, dv_rep, Int.zero_mul, Int.zero_add]
 rfl
theorem dv48 : dv [48] = 0 := rfl
theorem places_near {ds : List UInt8} (h : Dg ds) (x : Int) (n : Nat) {m : Int} (h1 : m ≤ -(n : Int)) (h2 : m ≤ x) : NearAt (dv (ahead ds x n ++ behind ds x n)) (-(n : Int)) (dv ds) x m ∧ LowAt (dv (ahead ds x n ++ behind ds x n)) (-(n : Int)) x := by
 rw [places_val]; unfold placesT; by_cases h48 : ds = [48]
 · rw [if_pos h48, h48, dv48]; exact ⟨near_zero _ _ _, .inl rfl⟩
 rw [if_neg h48]; have e : -(n : Int) = x + (ds.length : Int) - ((ds.length : Int) + x + (n : Int)) := by omega
 rw [e] at h1 ⊢; exact ⟨rowL_near h _ x h1 h2, rowL_low h _ x⟩
theorem row_carry {ds : List UInt8} {n : Nat} (hc : (rowL ds ((n : Nat) : Int)).2 = true) : (rowL ds ((n : Nat) : Int)).1 = 49 :: List.replicate n 48 := by
 unfold rowL at *; rw [if_neg (by omega)] at *; split at hc
 · cases hc
 rename_i h1; rw [if_neg h1]; rw [Int.toNat_natCast] at *; split at hc
 ·
  rename_i h2; rw [if_pos h2]; have hz : (roundR (S ds) n false).1 = List.replicate n 48 := by
   unfold roundR at *; split at h2
   · cases h2
   rename_i h3; rw [if_neg h3]; have hl : ((S ds).data.toList.take n).length = n := by
    have : (S ds).data.toList = ds := rfl; rw [this, List.length_take]; omega
   unfold bump at *; split at h2
   · rename_i h4; rw [if_pos h4, hl]
   cases h2
  rw [hz]
 cases hc
theorem figs_near {ds : List UInt8} (h : Dg ds) (x : Int) {n : Nat} (hn : 1 ≤ n) {m : Int} (h1 : m ≤ figX ds x n + 1 - (n : Int)) (h2 : m ≤ x) : NearAt (dv (figD ds n)) (figX ds x n + 1 - (n : Int)) (dv ds) x m ∧ LowAt (dv (figD ds n)) (figX ds x n + 1 - (n : Int)) x := by
 by_cases h48 : ds = [48]
 ·
  have e : figD ds n = List.replicate n 48 := by unfold figD; rw [if_pos h48]
  rw [e, dv_rep, h48, dv48]; exact ⟨near_zero _ _ _, .inl rfl⟩
 have hlen := rowL_len (ds := ds) n; have eD : figD ds n = (rowL ds (n : Int)).1.take n := by unfold figD; rw [if_neg h48]
 have eX : figX ds x n = if (rowL ds (n : Int)).2 = true then x + (ds.length : Int) else x + (ds.length : Int) - 1 := by unfold figX; rw [if_neg h48]
 by_cases hc : (rowL ds (n : Int)).2 = true
 ·
  rw [if_pos hc] at eX; have hrow := row_carry hc; obtain ⟨k, rfl⟩ : ∃ k, n = k + 1 := ⟨n - 1, by omega⟩; have eW : dv (figD ds (k + 1)) = ten k := by
   rw [eD, hrow, List.take_succ_cons, dv_cons, List.take_replicate, dv_rep, List.length_replicate, Nat.min_eq_left (Nat.le_succ k)]; have e3 : ((49 : UInt8).toNat : Int) - 48 = 1 := rfl; rw [e3, Int.one_mul, Int.add_zero]
  have eR : dv (rowL ds ((k + 1 : Nat) : Int)).1 = ten (k + 1) := by
   have e3 : ((49 : UInt8).toNat : Int) - 48 = 1 := rfl; rw [hrow, dv_cons, dv_rep, List.length_replicate, e3, Int.one_mul, Int.add_zero]
  have eu : figX ds x (k + 1) + 1 - ((k + 1 : Nat) : Int) = x + (ds.length : Int) - ((k + 1 : Nat) : Int) + 1 := by rw [eX]; omega
  rw [eu] at h1 ⊢; rw [eW]; have hkl : ((k + 1 : Nat) : Int) < (ds.length : Int) := by
   rcases Int.lt_or_le ((k + 1 : Nat) : Int) (ds.length : Int) with q | q
   · exact q
   exfalso; unfold rowL at hc; rw [if_neg (by omega), if_pos q] at hc; cases hc
  refine ⟨?_, .inr (.inl (by omega))⟩; have hb := rowL_near h ((k + 1 : Nat) : Int) x (m := x) (by omega) (Int.le_refl _); rw [eR] at hb; exact near_any (near_carry hb (by omega)) (by omega) (Int.le_refl _) h1 h2
 rw [if_neg hc] at eX hlen; have eu : figX ds x n + 1 - (n : Int) = x + (ds.length : Int) - (n : Int) := by rw [eX]; omega
 rw [eu] at h1 ⊢; rw [eD, List.take_of_length_le (by omega)]; exact ⟨rowL_near h _ x h1 h2, rowL_low h _ x⟩
end Go.Proofs.YtgbjojokjekmhaaGreatDoor.Num
namespace Go.Proofs.YtgbjojokjekmhaaGreatDoor.Num
open Go.RowKit Go.Proofs.YtgbjojokjekmhaaGreatDoor.PXC Go.Proofs.YtgbjojokjekmhaaGreatDoor.PXD Go.Proofs.YtgbjojokjekmhaaGreatDoorW.PrintWords
set_option linter.unusedVariables false
set_option linter.unusedSimpArgs false

/-- A body: digits, a point with digits, a power; u is the power of its last place. -/
structure Bod (T ds : List UInt8) (x : Int) (A B E : List UInt8) (q : Bool) (X : Int) : Prop where
 eq : T = A ++ (if q = true then 46 :: B else []) ++ E
 dA : Dg A
 nA : A ≠ []
 dB : Dg B
 qB : q = false → B = []
 hE : (E = [] ∧ X = 0) ∨ ∃ c, (c = 101 ∨ c = 69) ∧ E = tailL X c ∧ -4194304 ≤ X ∧ X ≤ 4194304
 len : A.length + B.length ≤ 4990
 lo : -6000 ≤ X - (B.length : Int)
 hi : X + (A.length : Int) ≤ 401
 near : ∀ m, m ≤ X - (B.length : Int) → m ≤ x → NearAt (dv (A ++ B)) (X - (B.length : Int)) (dv ds) x m
 low : LowAt (dv (A ++ B)) (X - (B.length : Int)) x
theorem figX_in {ds : List UInt8} {x : Int} (h1 : -1100 ≤ x) (h2 : x + (ds.length : Int) ≤ 400) (n : Nat) : -1101 ≤ figX ds x n ∧ figX ds x n ≤ 400 := by
 unfold figX; split
 · omega
 split <;> omega
theorem placesU_in {ds : List UInt8} {x : Int} (h2 : x + (ds.length : Int) ≤ 400) (n : Nat) : (placesU ds x n).length ≤ n + 401 := by
 have hT : (placesT ds x n).length ≤ n + 401 := by
  unfold placesT; split
  · exact Nat.zero_le _
  have := rowL_le (ds := ds) ((ds.length : Int) + x + (n : Int)); omega
 unfold placesU; split
 · rw [List.length_append, List.length_replicate]; omega
 exact hT
theorem bod_f {ds : List UInt8} (hd : Dg ds) {x : Int} (h1 : -1100 ≤ x) (h2 : x + (ds.length : Int) ≤ 400) {n : Nat} (hn : n ≤ 4096) (hash : Bool) : ∃ A B E q X, Bod (fBody ds x n hash) ds x A B E q X ∧ B.length = n := by
 have g := placesU_gt ds x n; have l := placesU_in h2 n; have e1 := ahead_len ds x n; have e2 := behind_len ds x n; have eu : (0 : Int) - ((behind ds x n).length : Int) = -(n : Int) := by omega
 refine ⟨ahead ds x n, behind ds x n, [], !(decide (n = 0 ∧ hash = false)), 0, ⟨?_, ahead_dg hd x n, fun h => ?_, behind_dg hd x n, fun h => ?_, .inl ⟨rfl, rfl⟩, by omega, by omega, by omega, fun m m1 m2 => ?_, ?_⟩, e2⟩
 ·
  unfold fBody; rw [List.append_nil]; by_cases c : n = 0 ∧ hash = false
  · rw [if_pos c, decide_eq_true c]; rfl
  rw [if_neg c, decide_eq_false c]; rfl
 · rw [h] at e1; simp at e1; omega
 ·
  have c : n = 0 ∧ hash = false := by
   by_cases c : n = 0 ∧ hash = false
   · exact c
   rw [decide_eq_false c] at h; cases h
  exact List.eq_nil_of_length_eq_zero (by omega)
 · rw [eu] at m1 ⊢; exact (places_near hd x n m1 m2).1
 rw [eu]; exact (places_near hd x n (m := mn (-(n : Int)) x) (by unfold mn; split <;> omega) (by unfold mn; split <;> omega)).2
theorem fig_low {ds : List UInt8} (hd : Dg ds) (x : Int) {n : Nat} (hn : 1 ≤ n) : LowAt (dv (figD ds n)) (figX ds x n + 1 - (n : Int)) x :=
 (figs_near hd x hn (m := mn (figX ds x n + 1 - (n : Int)) x) (by unfold mn; split <;> omega) (by unfold mn; split <;> omega)).2
theorem bod_e {ds : List UInt8} (hd : Dg ds) {x : Int} (h1 : -1100 ≤ x) (h2 : x + (ds.length : Int) ≤ 400) {n : Nat} (hn : n ≤ 4096) (hash : Bool) {c : UInt8} (hc : c = 101 ∨ c = 69) : ∃ A B E q X, Bod (eBody (figD ds (n + 1)) (figX ds x (n + 1)) hash c) ds x A B E q X ∧ B.length = n := by
 have hX := figX_in h1 h2 (n + 1); have hl := figD_len ds (n + 1); have hdg := figD_dg hd (n + 1); have hlow := fig_low hd x (n := n + 1) (by omega); have hnr := fun m => figs_near hd x (n := n + 1) (by omega) (m := m)
 obtain ⟨F, hF⟩ : ∃ F, figD ds (n + 1) = F := ⟨_, rfl⟩; obtain ⟨X, hXe⟩ : ∃ X, figX ds x (n + 1) = X := ⟨_, rfl⟩; rw [hF] at hl hdg hlow hnr ⊢; rw [hXe] at hX hlow hnr ⊢; have l1 : (F.take 1).length = 1 := by rw [List.length_take]; omega
 have l2 : (F.drop 1).length = n := by rw [List.length_drop]; omega
 have eu : X - ((F.drop 1).length : Int) = X + 1 - ((n + 1 : Nat) : Int) := by omega
 have et : F.take 1 ++ F.drop 1 = F := List.take_append_drop 1 F; refine ⟨F.take 1, F.drop 1, tailL X c, decide (1 < F.length ∨ hash = true), X, ⟨?_, dg_take hdg 1, fun h => ?_, dg_drop hdg 1, fun h => ?_, .inr ⟨c, hc, rfl, by omega, by omega⟩, by omega, by omega, by omega, fun m m1 m2 => ?_, ?_⟩, l2⟩
 ·
  unfold eBody; by_cases q : 1 < F.length ∨ hash = true
  · rw [if_pos q, decide_eq_true q, if_pos rfl]
  rw [if_neg q, decide_eq_false q, if_neg (by decide)]
 · rw [h] at l1; cases l1
 · have q := of_decide_eq_false h; exact List.drop_of_length_le (by omega)
 · rw [eu] at m1 ⊢; rw [et]; exact (hnr m m1 m2).1
 rw [eu, et]; exact hlow
theorem bod_g {ds : List UInt8} (hd : Dg ds) {x : Int} (h1 : -1100 ≤ x) (h2 : x + (ds.length : Int) ≤ 400) {n : Nat} (hn0 : 1 ≤ n) (hn : n ≤ 4096) {c : UInt8} (hc : c = 101 ∨ c = 69) : ∃ A B E q X, Bod (gBody (figD ds n) (figX ds x n) n true c) ds x A B E q X := by
 have hX := figX_in h1 h2 n; have hl := figD_len ds n; have hdg := figD_dg hd n; have hlow := fig_low hd x hn0; have hnr := fun m => figs_near hd x hn0 (m := m)
 obtain ⟨F, hF⟩ : ∃ F, figD ds n = F := ⟨_, rfl⟩; obtain ⟨X, hXe⟩ : ∃ X, figX ds x n = X := ⟨_, rfl⟩; rw [hF] at hl hdg hlow hnr ⊢; rw [hXe] at hX hlow hnr ⊢; unfold gBody gMain gEnd; rw [if_pos rfl]; by_cases cX : -4 ≤ X ∧ X < (n : Int)
 ·
  rw [if_pos cX, if_pos cX]; by_cases c0 : X < 0
  ·
   rw [if_pos c0]; have lB : (List.replicate (-X - 1).toNat 48 ++ F).length = (-X - 1).toNat + n := by rw [List.length_append, List.length_replicate, hl]
   have eu : (0 : Int) - ((List.replicate (-X - 1).toNat 48 ++ F).length : Int) = X + 1 - (n : Int) := by omega
   have ev : dv ([48] ++ (List.replicate (-X - 1).toNat 48 ++ F)) = dv F := by
    rw [dv_app, dv_app, dv_rep, dv48, Int.zero_mul, Int.zero_add, Int.zero_mul, Int.zero_add]
   refine ⟨[48], List.replicate (-X - 1).toNat 48 ++ F, [], true, 0, ⟨?_, fun b hb => by rw [List.mem_singleton.1 hb]; decide, by simp, dg_append.2 ⟨dg_rep _, hdg⟩, (fun h => by cases h), .inl ⟨rfl, rfl⟩, by rw [lB, List.length_singleton]; omega, by omega, by rw [List.length_singleton]; omega, fun m m1 m2 => ?_, ?_⟩⟩
   · simp
   · rw [eu] at m1 ⊢; rw [ev]; exact (hnr m m1 m2).1
   rw [eu, ev]; exact hlow
  rw [if_neg c0]; have l1 : (F.take (X + 1).toNat).length = (X + 1).toNat := by rw [List.length_take]; omega
  have l2 : (F.drop (X + 1).toNat).length = n - (X + 1).toNat := by rw [List.length_drop, hl]
  have eu : (0 : Int) - ((F.drop (X + 1).toNat).length : Int) = X + 1 - (n : Int) := by omega
  have et : F.take (X + 1).toNat ++ F.drop (X + 1).toNat = F := List.take_append_drop _ F; refine ⟨F.take (X + 1).toNat, F.drop (X + 1).toNat, [], true, 0, ⟨?_, dg_take hdg _, fun h => ?_, dg_drop hdg _, (fun h => by cases h), .inl ⟨rfl, rfl⟩, by omega, by omega, by omega, fun m m1 m2 => ?_, ?_⟩⟩
  · simp
  · rw [h] at l1; simp at l1; omega
  · rw [eu] at m1 ⊢; rw [et]; exact (hnr m m1 m2).1
  rw [eu, et]; exact hlow
 rw [if_neg cX, if_neg cX]; have l1 : (F.take 1).length = 1 := by rw [List.length_take]; omega
 have l2 : (F.drop 1).length = n - 1 := by rw [List.length_drop]; omega
 have eu : X - ((F.drop 1).length : Int) = X + 1 - (n : Int) := by omega
 have et : F.take 1 ++ F.drop 1 = F := List.take_append_drop 1 F; refine ⟨F.take 1, F.drop 1, tailL X c, true, X, ⟨?_, dg_take hdg 1, fun h => ?_, dg_drop hdg 1, (fun h => by cases h), .inr ⟨c, hc, rfl, by omega, by omega⟩, by omega, by omega, by omega, fun m m1 m2 => ?_, ?_⟩⟩
 · simp
 · rw [h] at l1; cases l1
 · rw [eu] at m1 ⊢; rw [et]; exact (hnr m m1 m2).1
 rw [eu, et]; exact hlow
/-- The body that Render writes; of g with its zeros. -/
theorem bod_any {ds : List UInt8} (hd : Dg ds) {x : Int} (h1 : -1100 ≤ x) (h2 : x + (ds.length : Int) ≤ 400) (v : Int) {n : Nat} (hn : n ≤ 4096) (hash : Bool) (hg : ¬ (v = 102 ∨ v = 70) → ¬ (v = 101 ∨ v = 69) → hash = true) :
  ∃ A B E q X, Bod (bodyL v ds x n hash) ds x A B E q X ∧ ((v = 102 ∨ v = 70) ∨ (v = 101 ∨ v = 69) → B.length = n) := by
 unfold bodyL; by_cases c1 : v = 102 ∨ v = 70
 · rw [if_pos c1]; obtain ⟨A, B, E, q, X, b, e⟩ := bod_f hd h1 h2 hn hash; exact ⟨A, B, E, q, X, b, fun _ => e⟩
 rw [if_neg c1]; by_cases c2 : v = 101 ∨ v = 69
 · rw [if_pos c2]; obtain ⟨A, B, E, q, X, b, e⟩ := bod_e hd h1 h2 hn hash (markL_ok v); exact ⟨A, B, E, q, X, b, fun _ => e⟩
 rw [if_neg c2, hg c1 c2]; obtain ⟨A, B, E, q, X, b⟩ := bod_g hd h1 h2 (n := max n 1) (by omega) (by omega) (markL_ok v); exact ⟨A, B, E, q, X, b, fun h => absurd h (fun h => h.elim c1 c2)⟩
theorem places_end {l : List UInt8} (n : Int) {i : Nat} (hi : l.length ≤ i) : Ev (fun k => abacuslaw15_places.l0 k (S l) n 0 (i : Int)) (if n < 0 then 0 else n, 0) := by
 refine Ev.step (f := fun _ => some (if n < 0 then 0 else n, 0)) (fun k => ?_) (Ev.now _); rw [abacuslaw15_places.l0, if_neg (by rw [s_size]; omega)]; split <;> rfl
/-- A text of P, a point with B behind it if q, and nothing more. -/
theorem places_tot0 {P B : List UInt8} (hP : NoS P) (hB : NoS B) (q : Bool) (hl : P.length + B.length ≤ 8388608) (hq : q = false → B = []) : Ev (fun k => abacuslaw15_places.f k (S (P ++ (if q = true then 46 :: B else [])))) ((B.length : Int), 0) := by
 obtain ⟨l, hL⟩ : ∃ l, l = P ++ (if q = true then 46 :: B else []) := ⟨_, rfl⟩; have hll : l.length ≤ 16777216 := by
  rw [hL]; simp only [List.length_append]; split
  · simp only [List.length_cons]; omega
  simp only [List.length_nil]; omega
 rw [← hL]; unfold abacuslaw15_places.f; refine pl_skip hll P (if q = true then 46 :: B else []) 0 (-1) hP (by rw [hL]; rfl) (by omega) (by omega) ?_; rw [if_neg (by omega), Nat.zero_add]; have hd : l.drop P.length = (if q = true then 46 :: B else []) := by rw [hL, List.drop_left]
 cases q with
 | false =>
  rw [hq rfl]; exact places_end (-1) (by rw [hL]; simp)
 | true =>
  have hd' : l.drop P.length = 46 :: (B ++ []) := by rw [List.append_nil]; exact hd
  obtain ⟨hi, hb, hd2⟩ := drop_cons hd'; have hbt := bt_get hi; rw [hb] at hbt; have e1 : wrap64 ((P.length : Int) + 1) = ((P.length + 1 : Nat) : Int) := by rw [w64 (by omega) (by omega)]; omega
  refine Ev.step (fun k => by rw [abacuslaw15_places.l0, if_pos (by rw [s_size]; omega), if_pos (by omega), hbt, if_pos (by decide), e1]) ?_; refine pl_skip hll B [] (P.length + 1) 0 hB hd2 (by omega) (by omega) ?_; rw [if_pos (by omega), Int.zero_add]; have := places_end (l := l) (B.length : Int) (i := P.length + 1 + B.length) (by rw [hL]; simp; omega); rw [if_neg (by omega)] at this; exact this
/-- places of a text that Render writes. -/
theorem bod_places {T ds A B E : List UInt8} {x X : Int} {q : Bool} (h : Bod T ds x A B E q X) {sg : List UInt8} (hsg : sg = [] ∨ sg = [45]) : Ev (fun k => abacuslaw15_places.f k (S (sg ++ T))) ((B.length : Int), X) := by
 have hP : NoS (sg ++ A) := nos_app (by
  rcases hsg with rfl | rfl
  · exact nos_nil
  intro b hb; rw [List.mem_singleton.1 hb]; decide) (nos_dg h.dA)
 have hB := nos_dg h.dB; have hl := h.len; have hs : sg.length ≤ 1 := by rcases hsg with rfl | rfl <;> simp
 rw [h.eq]; rcases h.hE with ⟨rfl, rfl⟩ | ⟨c, hc, rfl, e1, e2⟩
 · have := places_tot0 hP hB q (by rw [List.length_append]; omega) h.qB; rw [List.append_nil, ← List.append_assoc]; exact this
 have := places_tot' hP hB q hc e1 e2 (by rw [List.length_append]; omega) h.qB; rw [← List.append_assoc, ← List.append_assoc]; exact this
end Go.Proofs.YtgbjojokjekmhaaGreatDoor.Num
namespace Go.Proofs.YtgbjojokjekmhaaGreatDoor.Num
open Go.RowKit Go.Proofs.YtgbjojokjekmhaaGreatDoor.PXC Go.Proofs.YtgbjojokjekmhaaGreatDoor.PXD Go.Proofs.YtgbjojokjekmhaaGreatDoor.PXN Go.Proofs.YtgbjojokjekmhaaGreatDoorW.PrintWords
set_option linter.unusedVariables false
set_option linter.unusedSimpArgs false

theorem abs_mul (a b : Int) {P : Int} (hP : 0 < P) : ((a - b).natAbs : Int) * P = ((a * P - b * P).natAbs : Int) := by
 rcases Int.le_total a b with c | c
 ·
  have h := Int.mul_le_mul_of_nonneg_right c (Int.le_of_lt hP); have e1 : ((a - b).natAbs : Int) = b - a := by omega
  have e2 : ((a * P - b * P).natAbs : Int) = b * P - a * P := by omega
  rw [e1, e2, Int.sub_mul]
 have h := Int.mul_le_mul_of_nonneg_right c (Int.le_of_lt hP); have e1 : ((a - b).natAbs : Int) = a - b := by omega
 have e2 : ((a * P - b * P).natAbs : Int) = a * P - b * P := by omega
 rw [e1, e2, Int.sub_mul]
theorem mn_le (a b : Int) : mn a b ≤ a ∧ mn a b ≤ b := by unfold mn; split <;> omega
theorem ten_cut {a b c : Int} (h1 : c ≤ b) (h2 : b ≤ a) : ten (a - c).toNat = ten (a - b).toNat * ten (b - c).toNat := by rw [← ten_add]; congr 1; omega
theorem near_cmp {W u D x Yv yE G : Int} {z : Nat} (hn : ∀ m, m ≤ u → m ≤ x → NearAt W u D x m) (h0 : W = 0 → Yv = 0) (h1 : W ≠ 0 → yE = u + (z : Int) ∧ W = Yv * ten z)
  (hG : G = ((Yv * ten (yE - mn yE x).toNat - D * ten (x - mn yE x).toNat).natAbs : Int)) :
  cmpI (G * ten (mn yE x - mn (mn yE x) (u - 1)).toNat) (5 * ten (u - 1 - mn (mn yE x) (u - 1)).toNat) ≤ 0 ∧ (cmpI (G * ten (mn yE x - mn (mn yE x) (u - 1)).toNat) (5 * ten (u - 1 - mn (mn yE x) (u - 1)).toNat) = 0 → W % 2 = 0) := by
 obtain ⟨l1, l2⟩ := mn_le yE x; obtain ⟨low, hlow⟩ : ∃ low, mn yE x = low := ⟨_, rfl⟩; rw [hlow] at l1 l2 hG ⊢; obtain ⟨m1, m2⟩ := mn_le low (u - 1); obtain ⟨M, hM⟩ : ∃ M, mn low (u - 1) = M := ⟨_, rfl⟩; rw [hM] at m1 m2 ⊢; obtain ⟨n1, n2, n3⟩ := hn M (by omega) (by omega); have hY : Yv * ten (yE - M).toNat = W * ten (u - M).toNat := by
  by_cases c : W = 0
  · rw [h0 c, c, Int.zero_mul, Int.zero_mul]
  obtain ⟨e1, e2⟩ := h1 c; rw [e2, e1, show (u + (z : Int) - M).toNat = z + (u - M).toNat by omega, ten_add, Int.mul_assoc]
 have hGm : G * ten (low - M).toNat = ((W * ten (u - M).toNat - D * ten (x - M).toNat).natAbs : Int) := by
  rw [hG, abs_mul _ _ (ten_pos _), Int.mul_assoc, Int.mul_assoc, ← ten_cut m1 l1, ← ten_cut m1 l2, hY]
 have hu : ten (u - M).toNat = 10 * ten (u - 1 - M).toNat := by
  rw [show (u - M).toNat = (u - 1 - M).toNat + 1 by omega, ten_succ, Int.mul_comm]
 rw [hGm]; obtain ⟨a, ha⟩ : ∃ a, W * ten (u - M).toNat = a := ⟨_, rfl⟩; obtain ⟨b, hb⟩ : ∃ b, D * ten (x - M).toNat = b := ⟨_, rfl⟩; obtain ⟨t, ht⟩ : ∃ t, ten (u - 1 - M).toNat = t := ⟨_, rfl⟩; rw [hu, ht] at n1 n2 n3; rw [hu, ht] at ha; rw [hu, ht, ha, hb]; rw [ha, hb] at n1 n2 n3; unfold cmpI; by_cases c1 : ((a - b).natAbs : Int) < 5 * t
 · rw [if_pos c1]; exact ⟨by decide, fun h => absurd h (by decide)⟩
 rw [if_neg c1]; by_cases c2 : 5 * t < ((a - b).natAbs : Int)
 · exfalso; omega
 rw [if_neg c2]; refine ⟨by decide, fun _ => n3 ?_⟩; omega
theorem last_even {Y : List UInt8} (hY : Dg Y) (h : Y ≠ []) (hv : dv Y % 2 = 0) : Int.tmod (bt (S Y) ((Y.length : Int) - 1)) 2 = 0 := by
 obtain ⟨u, b, rfl⟩ : ∃ u b, Y = u ++ [b] := ⟨Y.dropLast, Y.getLast h, (List.dropLast_concat_getLast h).symm⟩; have hb := hY b (by simp); have hi : u.length < (u ++ [b]).length := by rw [List.length_append]; exact Nat.lt_succ_self _
 have e1 : (((u ++ [b]).length : Nat) : Int) - 1 = (u.length : Int) := by rw [List.length_append, List.length_singleton]; omega
 have e2 : (u ++ [b])[u.length]'hi = b := by simp
 rw [e1, bt_list hi, e2]; have e3 : dv (u ++ [b]) = dv u * 10 + ((b.toNat : Int) - 48) := by rw [dv_app, dv_one]; rfl
 rw [e3] at hv; rw [Int.tmod_eq_emod_of_nonneg (by omega)]; omega
/-- What the law asks of a text that Render writes. -/
theorem bod_law {T ds A B E : List UInt8} {x X : Int} {q : Bool} (h : Bod T ds x A B E q X) (hd : Dg ds) (hl : ds.length ≤ 800) (h1 : -1100 ≤ x) (h2 : x + (ds.length : Int) ≤ 400) {sg : List UInt8} (hsg : sg = [] ∨ sg = [45]) (n1 n2 : Bool) :
  ∃ (Y : List UInt8) (yE : Int), Ev (fun k => scan_Whole.f k (S (sg ++ T))) (!sg.isEmpty, S Y, yE, true) ∧ Y ≠ [] ∧ Y.length ≤ 5000 ∧ -5000 ≤ yE ∧ yE ≤ 400 ∧
  ∃ (R : List Int) (low : Int) (s : Int), Ev (fun k => abacuslaw15_gap.f k n1 (S Y) yE n2 (S ds) x) (R, low) ∧ Ev (fun k => abacuslaw15_less.f k R low [5] (X - (B.length : Int) - 1)) s ∧ s ≤ 0 ∧ (s = 0 → yE > X - (B.length : Int) ∨ Int.tmod (bt (S Y) ((Y.length : Int) - 1)) 2 = 0) := by
 have hEl : E.length ≤ 24 := by
  rcases h.hE with ⟨rfl, -⟩ | ⟨c, -, rfl, e1, e2⟩
  · exact Nat.zero_le _
  exact tailL_len X c e1 e2
 have hlen := h.len; have hlo := h.lo; have hhi := h.hi; have hAl : 0 < A.length := List.length_pos_iff.2 h.nA; obtain ⟨Y, z, w1, w2, w3, w4, w5, w6⟩ := whole_tot hsg h.dA h.nA h.dB h.qB h.hE (by omega); have heq : sg ++ A ++ (if q = true then 46 :: B else []) ++ E = sg ++ T := by rw [h.eq, List.append_assoc, List.append_assoc, List.append_assoc]
 rw [heq] at w1; obtain ⟨W, hW⟩ : ∃ W, dv (A ++ B) = W := ⟨_, rfl⟩; have hnear := h.near; have hlow := h.low; rw [hW] at w1 w5 w6 hnear hlow; obtain ⟨u, hu⟩ : ∃ u, X - (B.length : Int) = u := ⟨_, rfl⟩; rw [hu] at w1 hnear hlow hlo; obtain ⟨yE, hyE⟩ : ∃ yE, (if W = 0 then 0 else u + (z : Int)) = yE := ⟨_, rfl⟩; rw [hyE] at w1; have hYl : 0 < Y.length := List.length_pos_iff.2 w3; have hb : -5000 ≤ yE ∧ yE ≤ 400 := by
  rw [← hyE]; by_cases c : W = 0
  · rw [if_pos c]; omega
  rw [if_neg c]; obtain ⟨e1, e2, e3⟩ := w6 c; have := low_exp hlow c e1 e2; omega
 obtain ⟨R, r1, r2, r3, r4⟩ := gap_tot (n1 := n1) (n2 := n2) w2 hd (x := yE) (y := x) (by omega) rfl rfl; have hmx : R.length ≤ 20000 := by
  have a1 : mx (yE + (Y.length : Int)) (x + (ds.length : Int)) ≤ 6000 := by unfold mx; split <;> omega
  have a2 : -6000 ≤ mn yE x := by unfold mn; split <;> omega
  omega
 have hml : -6000 ≤ mn yE x ∧ mn yE x ≤ 400 := by unfold mn; split <;> omega
 have hless := less_tot r1 (b := [5]) (fun a ha => by rw [List.mem_singleton.1 ha]; decide) (la := mn yE x) (lb := u - 1) ⟨by omega, by omega, by omega, by omega, by omega, by decide⟩; have e5 : iv [5] = 5 := rfl; rw [e5] at hless; obtain ⟨c1, c2⟩ := near_cmp (D := dv ds) (Yv := dv Y) (yE := yE) (z := z) hnear (fun c => by rw [w5 c]; rfl) (fun c => ⟨by rw [← hyE, if_neg c], (w6 c).1⟩) r3; refine ⟨Y, yE, w1, w3, by omega, hb.1, hb.2, R, mn yE x, _, r4, ?_, c1, fun hs => ?_⟩
 · rw [hu]; exact hless
 have hev := c2 hs; by_cases c : W = 0
 ·
  right
  rw [w5 c]; rfl
 obtain ⟨e1, e2, e3⟩ := w6 c; by_cases cz : z = 0
 ·
  right
  refine last_even w2 w3 ?_; have t0 : ten 0 = 1 := rfl; rw [cz, t0, Int.mul_one] at e1; rw [← e1]; exact hev
 left
 rw [← hyE, if_neg c, hu]; omega
end Go.Proofs.YtgbjojokjekmhaaGreatDoor.Num
namespace Go.Proofs.YtgbjojokjekmhaaGreatDoor.Num
open Go.RowKit Go.Proofs.YtgbjojokjekmhaaGreatDoor.PXC Go.Proofs.YtgbjojokjekmhaaGreatDoor.PXD Go.Proofs.YtgbjojokjekmhaaGreatDoor.PXN Go.Proofs.YtgbjojokjekmhaaGreatDoorW.PrintWords Go.Proofs.YtgbjojokjekmhaaGreatDoorW.PrintLast Go.Proofs.YtgbjojokjekmhaaGreatDoorW.PrintMore
set_option linter.unusedVariables false
set_option linter.unusedSimpArgs false

theorem and31 (fl : Int) : 0 ≤ Go.bits .and .i64 fl 31 ∧ Go.bits .and .i64 fl 31 ≤ 31 := by
 have h3 : (BitVec.ofInt 64 31).toNat = 2 ^ 5 - 1 := by decide
 have h4 : (BitVec.ofInt 64 fl &&& BitVec.ofInt 64 31).toNat = (BitVec.ofInt 64 fl).toNat % 2 ^ 5 := by rw [BitVec.toNat_and, h3, Nat.and_two_pow_sub_one_eq_mod]
 have h5 : 0 ≤ IntKind.i64.wrap ((BitVec.ofInt 64 fl &&& BitVec.ofInt 64 31).toNat : Int) ∧ IntKind.i64.wrap ((BitVec.ofInt 64 fl &&& BitVec.ofInt 64 31).toNat : Int) ≤ 31 := by
  rw [h4]; obtain ⟨n, hn⟩ : ∃ n, (BitVec.ofInt 64 fl).toNat % 2 ^ 5 = n := ⟨_, rfl⟩; have hl : n < 32 := by rw [← hn]; exact Nat.mod_lt _ (by decide)
  rw [hn]; have : IntKind.i64.wrap ((n : Nat) : Int) = (n : Int) := by
   rw [i64_w]; exact w64 (x := (n : Int)) (by omega) (by omega)
  rw [this]; omega
 exact h5
def nearF (g : Bool) (F0 : Int) : Int := if g = true then Go.bits .or .i64 F0 8 else F0
theorem nearF_ok (g : Bool) {F0 : Int} (h0 : 0 ≤ F0) (h1 : F0 ≤ 31) : (0 ≤ nearF g F0 ∧ nearF g F0 ≤ 31) ∧ (0 ≤ Go.bits .andNot .i64 (nearF g F0) 6 ∧ Go.bits .andNot .i64 (nearF g F0) 6 ≤ 31) ∧ Go.bits .and .i64 (Go.bits .andNot .i64 (nearF g F0) 6) 2 = 0 ∧ Go.bits .and .i64 (Go.bits .andNot .i64 (nearF g F0) 6) 4 = 0 ∧ (g = true → Go.bits .and .i64 (Go.bits .andNot .i64 (nearF g F0) 6) 8 ≠ 0) := by
 cases g with
 | true => exact all32 (P := fun F0 => (0 ≤ nearF true F0 ∧ nearF true F0 ≤ 31) ∧ (0 ≤ Go.bits .andNot .i64 (nearF true F0) 6 ∧ Go.bits .andNot .i64 (nearF true F0) 6 ≤ 31) ∧ Go.bits .and .i64 (Go.bits .andNot .i64 (nearF true F0) 6) 2 = 0 ∧ Go.bits .and .i64 (Go.bits .andNot .i64 (nearF true F0) 6) 4 = 0 ∧ (true = true → Go.bits .and .i64 (Go.bits .andNot .i64 (nearF true F0) 6) 8 ≠ 0)) (by decide) h0 h1
 | false => exact all32 (P := fun F0 => (0 ≤ nearF false F0 ∧ nearF false F0 ≤ 31) ∧ (0 ≤ Go.bits .andNot .i64 (nearF false F0) 6 ∧ Go.bits .andNot .i64 (nearF false F0) 6 ≤ 31) ∧ Go.bits .and .i64 (Go.bits .andNot .i64 (nearF false F0) 6) 2 = 0 ∧ Go.bits .and .i64 (Go.bits .andNot .i64 (nearF false F0) 6) 4 = 0 ∧ (false = true → Go.bits .and .i64 (Go.bits .andNot .i64 (nearF false F0) 6) 8 ≠ 0)) (by decide) h0 h1
theorem pad_none (fl : Int) (hd bd : List UInt8) (z : Bool) (h : hd.length + bd.length ≤ 8388608) : padL fl 0 hd bd z = hd ++ bd := by
 unfold padL; split
 · split <;> simp
 simp
theorem near_main {v F p d c : Int} (hv : verbOk v) (hF : 0 ≤ F ∧ F ≤ 31) (h2 : Go.bits .and .i64 F 2 = 0) (h4 : Go.bits .and .i64 F 4 = 0) (h8 : ¬ (v = 102 ∨ v = 70) → ¬ (v = 101 ∨ v = 69) → Go.bits .and .i64 F 8 ≠ 0)
  (hp : -1 ≤ p ∧ p ≤ 4096) (h0 : 0 ≤ d) (h1 : d < 18446744073709551616) (hc : ieee_Class.f d = some c) (hc3 : c < 3) :
  ∃ (T Y : ByteArray) (yE n X : Int) (neg : Bool) (ds : ByteArray) (x : Int) (R : List Int) (low s : Int),
   Ev (fun k => point_Render.f k v F 0 p d) (T, 0) ∧ Ev (fun k => scan_Whole.f k T) (decide (d ≥ 9223372036854775808), Y, yE, true) ∧ Ev (fun k => abacuslaw15_places.f k T) (n, X) ∧ Ev (fun k => fixed_All.f k d) (neg, ds, x, 0) ∧
   Ev (fun k => abacuslaw15_gap.f k (decide (d ≥ 9223372036854775808)) Y yE neg ds x) (R, low) ∧ Ev (fun k => abacuslaw15_less.f k R low [5] (X - n - 1)) s ∧
   (0 ≤ n ∧ n ≤ 5000) ∧ (-4194304 ≤ X ∧ X ≤ 4194304) ∧ ds.size ≤ 800 ∧ (-1100 ≤ x ∧ x ≤ 400) ∧ (-5000 ≤ yE ∧ yE ≤ 400) ∧ (1 ≤ Y.size ∧ Y.size ≤ 5000) ∧ (v ≠ 103 → v ≠ 71 → n = if p = -1 then 6 else p) ∧ s ≤ 0 ∧ (s = 0 → yE > X - n ∨ Int.tmod (bt Y ((Y.size : Int) - 1)) 2 = 0) := by
 obtain ⟨neg, ds, x, hA, hD, hl, hx1, hx2⟩ := All_val d h0 h1 hc hc3; have hw : wrongE F 0 p = 0 := by unfold wrongE; rw [if_neg (by omega), if_neg (by omega)]
 have hR := Render_fin hv hw hc hc3 hA hD; obtain ⟨n, hn⟩ : ∃ n, precN p = n := ⟨_, rfl⟩; have hn2 : n ≤ 4096 := by rw [← hn]; unfold precN; split <;> omega
 have hh : ¬ (v = 102 ∨ v = 70) → ¬ (v = 101 ∨ v = 69) → hashF F = true := fun a b => by unfold hashF; exact bne_iff_ne.2 (h8 a b)
 obtain ⟨A, B, E, q, X, hB, hBn⟩ := bod_any hD.dg hx1 hx2 v hn2 (hashF F) hh; have hbl := bodyL_len hD v n hn2 (hashF F); have hhl := headL_len F d; obtain ⟨sg, hsg⟩ : ∃ sg, headL F d = sg := ⟨_, rfl⟩; have hsg2 : (sg = [] ∨ sg = [45]) ∧ (!sg.isEmpty) = decide (d ≥ 9223372036854775808) := by
  rw [← hsg]; unfold headL; by_cases c0 : d ≥ 9223372036854775808
  · rw [if_pos c0, decide_eq_true c0]; exact ⟨.inr rfl, rfl⟩
  rw [if_neg c0, if_pos h2, if_pos h4, decide_eq_false c0]; exact ⟨.inl rfl, rfl⟩
 rw [hn, hsg, pad_none F sg _ true (by rw [← hsg]; omega)] at hR; obtain ⟨Y, yE, w1, w2, w3, w4, w5, R, low, s, g1, g2, g3, g4⟩ := bod_law hB hD.dg hl hx1 hx2 hsg2.1 (decide (d ≥ 9223372036854775808)) neg; have hpl := bod_places hB hsg2.1; rw [hsg2.2] at w1; have hlen := hB.len; have hY : 0 < Y.length := List.length_pos_iff.2 w2; refine ⟨S (sg ++ bodyL v ds x n (hashF F)), S Y, yE, (B.length : Int), X, neg, S ds, x, R, low, s, hR, w1, hpl, hA, g1, g2, ⟨by omega, by omega⟩, ?_, ?_, ⟨hx1, by omega⟩, ⟨w4, w5⟩, ⟨?_, ?_⟩, fun a b => ?_, g3, ?_⟩
 ·
  rcases hB.hE with ⟨-, rfl⟩ | ⟨_, -, -, e1, e2⟩
  · exact ⟨by decide, by decide⟩
  exact ⟨e1, e2⟩
 · rw [s_size]; exact hl
 · rw [s_size]; omega
 · rw [s_size]; exact w3
 ·
  have hve : (v = 102 ∨ v = 70) ∨ (v = 101 ∨ v = 69) := by
   rcases hv with h | h | h | h | h | h
   · exact .inr (.inl h)
   · exact .inr (.inr h)
   · exact .inl (.inl h)
   · exact .inl (.inr h)
   · exact absurd h a
   exact absurd h b
  rw [hBn hve, ← hn]; unfold precN; split <;> split <;> omega
 rw [s_size]; exact g4
/-- Where a Spec is refused or the double is none, Render tells it. -/
theorem near_else {v F p d : Int} (hF : 0 ≤ F ∧ F ≤ 31) (h0 : 0 ≤ d) (h1 : d < 18446744073709551616) : ∃ (T : ByteArray) (e W : Int) (fin : Bool), Ev (fun k => point_Render.f k v F 0 p d) (T, e) ∧ Ev (fun k => abacuslaw15_wrong.f k v F 0 p) W ∧ abacuslaw15_finite.f d = some fin ∧ (W ≠ 0 → e = W) ∧ (fin = false → W = 0 → e = W) ∧
  (W = 0 → fin = true → verbOk v ∧ (-1 ≤ p ∧ p ≤ 4096) ∧ ∃ c, ieee_Class.f d = some c ∧ c < 3) := by
 have hwr := wrong_tot v F 0 p; have hdt : Int.tmod d 9223372036854775808 = d % 9223372036854775808 := Int.tmod_eq_emod_of_nonneg h0; obtain ⟨c, hc, hcc⟩ := class_fin h0 h1; obtain ⟨fin, hfin⟩ : ∃ fin, abacuslaw15_finite.f d = some fin := ⟨_, rfl⟩; have hfe : fin = decide (d % 9223372036854775808 < 9218868437227405312) := by
  unfold abacuslaw15_finite.f at hfin; rw [hdt] at hfin; exact (Option.some.inj hfin).symm
 by_cases hv : verbOk v
 ·
  rw [if_pos hv] at hwr; by_cases hw : wrongE F 0 p = 0
  ·
   have hp : -1 ≤ p ∧ p ≤ 4096 := by
    unfold wrongE at hw; split at hw
    · cases hw
    split at hw
    · cases hw
    omega
   rcases hcc with ⟨hc3, hf⟩ | ⟨hc34, hf⟩
   · obtain ⟨neg, ds, x, hA, hD, -⟩ := All_val d h0 h1 hc hc3; refine ⟨_, _, _, fin, Render_fin hv hw hc hc3 hA hD, hwr, hfin, fun h => absurd hw h, fun h => ?_, fun _ _ => ⟨hv, hp, c, hc, hc3⟩⟩; rw [hfe, decide_eq_true hf] at h; cases h
   refine ⟨_, _, _, fin, Render_inf hv hw hc hc34, hwr, hfin, fun h => absurd hw h, fun _ _ => hw.symm, fun _ h => ?_⟩; rw [hfe, decide_eq_false hf] at h; cases h
  exact ⟨_, _, _, fin, Render_bad hv hw, hwr, hfin, fun _ => rfl, fun _ h => absurd h hw, fun h => absurd h hw⟩
 rw [if_neg hv] at hwr; exact ⟨_, _, _, fin, Render_verb hv, hwr, hfin, fun _ => rfl, fun _ h => absurd h (by decide), fun h => absurd h (by decide)⟩
end Go.Proofs.YtgbjojokjekmhaaGreatDoor.Num
namespace Go.Proofs.YtgbjojokjekmhaaGreatDoor.PXN
open Go.Proofs.YtgbjojokjekmhaaGreatDoor Go.Proofs.YtgbjojokjekmhaaGreatDoor.PXC Go.Proofs.YtgbjojokjekmhaaGreatDoor.PXD
open Go.RowKit Go.Proofs.YtgbjojokjekmhaaGreatDoorW.PrintWords Go.Proofs.YtgbjojokjekmhaaGreatDoorW.PrintLast Go.Proofs.YtgbjojokjekmhaaGreatDoorW.PrintMore
attribute [local go_sem] max2_int min2_int max_two min_two max_three min_three max_four min_four
set_option linter.unusedVariables false
set_option linter.unusedSimpArgs false
theorem nz {P : Prop} (h : P := by (try simp only [List.map_toArray, List.map_cons, List.map_nil]); first | done | rfl) : P := h
theorem nB {P : Prop} (h : P := by repeat (first | (with_reducible first | exact HB.out | apply below_alloc | apply pw_below_drewN | apply below_drew1 | refine below_set ?_ GE1.out | refine below_set ?_ GE2.out | refine below_set ?_ GE3.out) | exact HB.out)) : P := h
theorem nK1 {P : Prop} (h : P := by (with_reducible repeat (first | refine blk_drewN ?_ _ | refine blk_drew ?_ | refine blk_alloc ?_ _ | refine blk_far ?_ N12.out _ | refine blk_far ?_ N13.out _)); exact BK1.out) : P := h
theorem nK2 {P : Prop} (h : P := by (with_reducible repeat (first | refine blk_drewN ?_ _ | refine blk_drew ?_ | refine blk_alloc ?_ _ | refine blk_far ?_ N23.out _)); exact BK2.out) : P := h
theorem nK3 {P : Prop} (h : P := by (with_reducible repeat (first | refine blk_drewN ?_ _ | refine blk_drew ?_ | refine blk_alloc ?_ _)); exact BK3.out) : P := h
set_option maxHeartbeats 8000000 in
set_option maxRecDepth 100000 in
theorem PointNear_walk (v fl w0 p d F1 : Int) (w : World) (HG : Aside0 (GW w))
  (hF : F1 = Num.nearF (decide (v = 103 ∨ v = 71)) (Go.bits .and .i64 fl 31)) {ka : Nat} (A1 : Aside0 (abacuslaw15_awake.f ka = some true))
  {k1 : Nat} {T1 : ByteArray} {e1 : Int} (A2 : Aside0 (point_Render.f k1 v F1 0 p d = some (T1, e1))) {k2 : Nat} {W : Int} (A3 : Aside0 (abacuslaw15_wrong.f k2 v F1 0 p = some W)) {fin : Bool} (A4 : Aside0 (abacuslaw15_finite.f d = some fin))
  (hW : Aside0 (W ≠ 0 → e1 = W)) (hfn : Aside0 (fin = false → W = 0 → e1 = W))
  (hM : Aside0 (W = 0 → fin = true → ∃ (T2 y2 v2 : ByteArray) (y1 v1 : Bool) (y3 v3 n X low s : Int) (R : List Int) (k3 k4 k5 k6 k7 k8 : Nat),
   Aside0 (point_Render.f k3 v (Go.bits .andNot .i64 F1 6) 0 p d = some (T2, 0)) ∧ Aside0 (scan_Whole.f k4 T2 = some (y1, y2, y3, true)) ∧ Aside0 (abacuslaw15_places.f k5 T2 = some (n, X)) ∧ Aside0 (fixed_All.f k6 d = some (v1, v2, v3, 0)) ∧ Aside0 (abacuslaw15_modest.f v1 v2 v3 = some true) ∧
   Aside0 (abacuslaw15_gap.f k7 y1 y2 y3 v1 v2 v3 = some (R, low)) ∧ Aside0 (abacuslaw15_less.f k8 R low [5] (wrap64 (wrap64 (X - n) - 1)) = some s) ∧ Aside0 (y1 = decide (d ≥ 9223372036854775808)) ∧ Aside0 (0 ≤ n) ∧ Aside0 (-5000 ≤ y3 ∧ y3 ≤ 400) ∧ Aside0 (1 ≤ y2.size ∧ y2.size ≤ 5000) ∧
   Aside0 (v ≠ 103 → v ≠ 71 → n = if p = -1 then 6 else p) ∧ Aside0 (s ≤ 0) ∧ Aside0 (s = 0 → y3 > wrap64 (X - n) ∨ Int.tmod (bt y2 (wrap64 ((y2.size : Int) - 1))) 2 = 0))) :
  Calls Tryz.prog 7 #[.agg #[.int .u8 v, .int .i64 fl, .int .i64 w0, .int .i64 p], .int .u64 d] w fun e w' => e = .returned (.bool true) ∧ Below w.heap.size w w' := by
 have hu23 := Tryz.underlying23; have hu46 := Tryz.underlying46; have HB := Aside0.mk (Below.refl w.heap.size w); have HF := Aside0.mk hF; clear hF; go_enter Tryz.func7, Tryz.ntmps7; go_upto_region 6 with (first | ((with_reducible refine gate_dst (N := 2) rfl ?_); (try (refine gate_guard (by rfl) ?_; dsimp only)); refine box_event ?hg (N := 2) ?hd (cs := #[.int .u8 v, .int .i64 fl, .int .i64 w0, .int .i64 p]) (t := 23) ?hr ?_; (case hd => rfl); (case hg => rfl); (case hr => first | (go_simp; done) | (go_simp; rfl)); intro g1 hg w1 hbox hb; have GE1 := Aside0.mk ((by rw [hg]; exact (below_size (by exact nB))) : w.heap.size ≤ g1); have n0_ := Aside0.mk (below_step (by exact nB) hb); clear HB; have HB := n0_; clear n0_ hb; have BK1 := Aside0.mk hbox; clear hbox hg) | ((with_reducible refine gate_callee (f := 13) rfl ?_); refine goesL_ (some 20) rfl rfl Tryz.func13 (by kernel_rfl) rfl #[] rfl (by exact nz) ?_; (with_reducible refine (abacuslaw15_awake.calls ka true _ A1.out).mono ?_); rintro e w1 ⟨rfl, hb⟩; refine ⟨_, rfl, ?_⟩; have n1_ := Aside0.mk (blk_below (g := g1) (o := .cells #[.int .u8 v, .int .i64 fl, .int .i64 w0, .int .i64 p] 23 (0, 0)) (by exact nK1) hb); have n0_ := Aside0.mk (below_step (by exact nB) hb); clear BK1; have BK1 := n1_; clear HB; have HB := n0_; clear n0_ n1_ hb; obtain ⟨hc1_0, hc1_1, hc1_2, hc1_3, hf1_0, hf1_1, hf1_2, hf1_3⟩ := bk4 BK1.out))
 go_cut [35] (fun v35 wc => ∃ b : Bool, v35 = .bool b ∧ Aside0 (b = decide (v = 103 ∨ v = 71)) ∧ Aside0 (wc.heap[g1]? = some (.cells #[.int .u8 v, .int .i64 (Go.bits .and .i64 fl 31), .int .i64 0, .int .i64 p] 23 (0, 0))) ∧ Aside0 (Below w.heap.size w wc))
 case first =>
  by_cases c : v = 103
  ·
   have c0 : (v == 103) = true := beq_iff_eq.mpr c; go_wp2; go_meet
   case rel => exact ⟨true, by first | rfl | simp [c0], ⟨by rw [decide_eq_true (Or.inl c)]⟩, ⟨by (with_reducible repeat (first | refine blk_drewN ?_ _ | refine blk_drew ?_ | refine blk_alloc ?_ _)); refine blk_put (cs := #[.int .u8 v, .int .i64 fl, .int .i64 0, .int .i64 p]) ?_ 1 _ (by first | rfl | (simp; done)); (with_reducible repeat (first | refine blk_drewN ?_ _ | refine blk_drew ?_ | refine blk_alloc ?_ _)); refine blk_put (cs := #[.int .u8 v, .int .i64 fl, .int .i64 w0, .int .i64 p]) ?_ 2 _ (by first | rfl | (simp; done)); exact nK1⟩, ⟨by exact nB⟩⟩
  have c0 : (v == 103) = false := beq_eq_false_iff_ne.mpr c; go_wp2; go_meet
  case rel => exact ⟨v == 71, by first | rfl | simp [c0], ⟨by by_cases c7 : v = 71 <;> simp [c, c7]⟩, ⟨by (with_reducible repeat (first | refine blk_drewN ?_ _ | refine blk_drew ?_ | refine blk_alloc ?_ _)); refine blk_put (cs := #[.int .u8 v, .int .i64 fl, .int .i64 0, .int .i64 p]) ?_ 1 _ (by first | rfl | (simp; done)); (with_reducible repeat (first | refine blk_drewN ?_ _ | refine blk_drew ?_ | refine blk_alloc ?_ _)); refine blk_put (cs := #[.int .u8 v, .int .i64 fl, .int .i64 w0, .int .i64 p]) ?_ 2 _ (by first | rfl | (simp; done)); exact nK1⟩, ⟨by exact nB⟩⟩
 case rest =>
  clear hc1_0 hf1_0 hc1_1 hf1_1 hc1_2 hf1_2 hc1_3 hf1_3; obtain ⟨b, rfl, HBb, BK1, HB⟩ := hcut; go_upto_if 35 with (fail)
  go_cut [] (fun wc => Aside0 (wc.heap[g1]? = some (.cells #[.int .u8 v, .int .i64 F1, .int .i64 0, .int .i64 p] 23 (0, 0))) ∧ Aside0 (Below w.heap.size w wc))
  case first =>
   cases b with
   | true =>
    have hf1 : F1 = Go.bits .or .i64 (Go.bits .and .i64 fl 31) 8 := by rw [HF.out, ← HBb.out]; rfl
    clear HF A2 A3 hM; subst hf1; obtain ⟨hc1_0, hc1_1, hc1_2, hc1_3, hf1_0, hf1_1, hf1_2, hf1_3⟩ := bk4 BK1.out; go_wp2; go_meet
    case rel => exact ⟨⟨by (with_reducible repeat (first | refine blk_drewN ?_ _ | refine blk_drew ?_ | refine blk_alloc ?_ _)); refine blk_put (cs := #[.int .u8 v, .int .i64 (Go.bits .and .i64 fl 31), .int .i64 0, .int .i64 p]) ?_ 1 _ (by first | rfl | (simp; done)); exact nK1⟩, ⟨by exact nB⟩⟩
   | false =>
    have hf1 : F1 = Go.bits .and .i64 fl 31 := by rw [HF.out, ← HBb.out]; rfl
    clear HF A2 A3 hM; subst hf1; go_wp2; go_meet
    case rel => exact ⟨⟨by exact nK1⟩, ⟨by exact nB⟩⟩
  case rest =>
   clear HBb HF; obtain ⟨BK1, HB⟩ := hcut; obtain ⟨hc1_0, hc1_1, hc1_2, hc1_3, hf1_0, hf1_1, hf1_2, hf1_3⟩ := bk4 BK1.out; go_upto_region 10 with (first | ((with_reducible refine gate_callee (f := 14) rfl ?_); refine goesL_ (some 43) rfl rfl Tryz.func14 (by kernel_rfl) rfl #[.agg #[.int .u8 v, .int .i64 F1, .int .i64 0, .int .i64 p], .int .u64 d] rfl (by exact nz) ?_; (with_reducible refine (point_Render.calls k1 v F1 0 p d T1 e1 _ A2.out).mono ?_); rintro e w1 ⟨rfl, hb⟩; refine ⟨_, rfl, ?_⟩; clear hc1_0 hf1_0 hc1_1 hf1_1 hc1_2 hf1_2 hc1_3 hf1_3; have n1_ := Aside0.mk (blk_below (g := g1) (o := .cells #[.int .u8 v, .int .i64 F1, .int .i64 0, .int .i64 p] 23 (0, 0)) (by exact nK1) hb); have n0_ := Aside0.mk (below_step (by exact nB) hb); clear BK1; have BK1 := n1_; clear HB; have HB := n0_; clear n0_ n1_ hb; obtain ⟨hc1_0, hc1_1, hc1_2, hc1_3, hf1_0, hf1_1, hf1_2, hf1_3⟩ := bk4 BK1.out) | ((with_reducible refine gate_callee (f := 15) rfl ?_); refine goesL_ (some 47) rfl rfl Tryz.func15 (by kernel_rfl) rfl #[.agg #[.int .u8 v, .int .i64 F1, .int .i64 0, .int .i64 p]] rfl (by exact nz) ?_; (with_reducible refine (abacuslaw15_wrong.calls k2 v F1 0 p W _ A3.out).mono ?_); rintro e w1 ⟨rfl, hb⟩; refine ⟨_, rfl, ?_⟩; clear hc1_0 hf1_0 hc1_1 hf1_1 hc1_2 hf1_2 hc1_3 hf1_3; have n1_ := Aside0.mk (blk_below (g := g1) (o := .cells #[.int .u8 v, .int .i64 F1, .int .i64 0, .int .i64 p] 23 (0, 0)) (by exact nK1) hb); have n0_ := Aside0.mk (below_step (by exact nB) hb); clear BK1; have BK1 := n1_; clear HB; have HB := n0_; clear n0_ n1_ hb; obtain ⟨hc1_0, hc1_1, hc1_2, hc1_3, hf1_0, hf1_1, hf1_2, hf1_3⟩ := bk4 BK1.out))
   clear hc1_0 hf1_0 hc1_1 hf1_1 hc1_2 hf1_2 hc1_3 hf1_3; by_cases cW : W = 0
   ·
    have cW0 : (W != 0) = false := bne_eq_false_iff_eq.mpr cW; cases fin with
    | false =>
     have he := hfn.out rfl cW; have he0 : (e1 == W) = true := beq_iff_eq.mpr he; clear he cW hM; go_wp2_with (first | (go_at_call 16; (with_reducible refine (abacuslaw15_finite.calls d false _ A4.out).mono ?_); rintro e w1 ⟨rfl, ⟨nd, rfl⟩⟩)); go_ret; exact ⟨by first | rfl | simp [he0], by exact nB⟩
    | true =>
     obtain ⟨T2, y2, v2, y1, v1, y3, v3, n, X, low, s, R, k3, k4, k5, k6, k7, k8, A5, A6, A7, A8, A9, A10, A11, C1, C2, C3, C4, C5, C6, C7⟩ := hM.out cW rfl; clear cW hM hfn hW; obtain ⟨hc1_0, hc1_1, hc1_2, hc1_3, hf1_0, hf1_1, hf1_2, hf1_3⟩ := bk4 BK1.out; go_upto_region 17 with (first | (go_at_call 16; (with_reducible refine (abacuslaw15_finite.calls d true _ A4.out).mono ?_); rintro e w1 ⟨rfl, ⟨nd, rfl⟩⟩) | ((with_reducible refine gate_callee (f := 14) rfl ?_); refine goesL_ (some 65) rfl rfl Tryz.func14 (by kernel_rfl) rfl #[.agg #[.int .u8 v, .int .i64 (Go.bits .andNot .i64 F1 6), .int .i64 0, .int .i64 p], .int .u64 d] rfl (by exact nz) ?_; (with_reducible refine (point_Render.calls k3 v (Go.bits .andNot .i64 F1 6) 0 p d T2 0 _ A5.out).mono ?_); rintro e w1 ⟨rfl, hb⟩; refine ⟨_, rfl, ?_⟩; have n1_ := Aside0.mk (blk_below (g := g1) (o := .cells #[.int .u8 v, .int .i64 (Go.bits .andNot .i64 F1 6), .int .i64 0, .int .i64 p] 23 (0, 0)) (by (with_reducible repeat (first | refine blk_drewN ?_ _ | refine blk_drew ?_ | refine blk_alloc ?_ _)); refine blk_put (cs := #[.int .u8 v, .int .i64 F1, .int .i64 0, .int .i64 p]) ?_ 1 _ (by first | rfl | (simp; done)); exact nK1) hb); have n0_ := Aside0.mk (below_step (by exact nB) hb); clear BK1; have BK1 := n1_; clear HB; have HB := n0_; clear n0_ n1_ hb) | ((with_reducible refine gate_callee (f := 25) rfl ?_); refine goesL_ (some 70) rfl rfl Tryz.func25 (by kernel_rfl) rfl #[.string T2] rfl (by exact nz) ?_; (with_reducible refine (scan_Whole.calls k4 T2 y1 y2 y3 true _ A6.out).mono ?_); rintro e w1 ⟨rfl, hb⟩; refine ⟨_, rfl, ?_⟩; have n1_ := Aside0.mk (blk_below (g := g1) (o := .cells #[.int .u8 v, .int .i64 (Go.bits .andNot .i64 F1 6), .int .i64 0, .int .i64 p] 23 (0, 0)) (by exact nK1) hb); have n0_ := Aside0.mk (below_step (by exact nB) hb); clear BK1; have BK1 := n1_; clear HB; have HB := n0_; clear n0_ n1_ hb) | ((with_reducible refine gate_dst (N := 9) rfl ?_); (try (refine gate_guard (by rfl) ?_; dsimp only)); refine box_event ?hg (N := 9) ?hd (cs := #[.bool false, .string (⟨#[]⟩ : ByteArray), .int .i64 0]) (t := 46) ?hr ?_; (case hd => rfl); (case hg => rfl); (case hr => first | (go_simp; done) | (go_simp; rfl)); intro g2 hg w1 hbox hb; have GE2 := Aside0.mk ((by rw [hg]; exact (below_size (by exact nB))) : w.heap.size ≤ g2); have N12 := Aside0.mk ((by rw [hg]; exact Nat.ne_of_lt (blk_lt (g := g1) (o := .cells #[.int .u8 v, .int .i64 (Go.bits .andNot .i64 F1 6), .int .i64 0, .int .i64 p] 23 (0, 0)) (by exact nK1))) : g1 ≠ g2); have N21 := Aside0.mk N12.out.symm; have n1_ := Aside0.mk (blk_below (g := g1) (o := .cells #[.int .u8 v, .int .i64 (Go.bits .andNot .i64 F1 6), .int .i64 0, .int .i64 p] 23 (0, 0)) (by exact nK1) hb); have n0_ := Aside0.mk (below_step (by exact nB) hb); clear BK1; have BK1 := n1_; clear HB; have HB := n0_; clear n0_ n1_ hb; have BK2 := Aside0.mk hbox; clear hbox hg; have hn12 := N12.out; have hn21 := N21.out; obtain ⟨hc2_0, hc2_1, hc2_2, hf2_0, hf2_1, hf2_2⟩ := bk3 BK2.out) | ((with_reducible refine gate_callee (f := 23) rfl ?_); refine goesL_ (some 75) rfl rfl Tryz.func23 (by kernel_rfl) rfl #[.string T2] rfl (by exact nz) ?_; (with_reducible refine (abacuslaw15_places.calls k5 T2 n X _ A7.out).mono ?_); rintro e w1 ⟨rfl, hb⟩; refine ⟨_, rfl, ?_⟩; clear hc2_0 hf2_0 hc2_1 hf2_1 hc2_2 hf2_2; have n1_ := Aside0.mk (blk_below (g := g1) (o := .cells #[.int .u8 v, .int .i64 (Go.bits .andNot .i64 F1 6), .int .i64 0, .int .i64 p] 23 (0, 0)) (by exact nK1) hb); have n2_ := Aside0.mk (blk_below (g := g2) (o := .cells #[.bool y1, .string y2, .int .i64 y3] 46 (0, 0)) (by (with_reducible repeat (first | refine blk_drewN ?_ _ | refine blk_drew ?_ | refine blk_alloc ?_ _)); refine blk_put (cs := #[.bool y1, .string y2, .int .i64 0]) ?_ 2 _ (by first | rfl | (simp; done)); (with_reducible repeat (first | refine blk_drewN ?_ _ | refine blk_drew ?_ | refine blk_alloc ?_ _)); refine blk_put (cs := #[.bool y1, .string (⟨#[]⟩ : ByteArray), .int .i64 0]) ?_ 1 _ (by first | rfl | (simp; done)); (with_reducible repeat (first | refine blk_drewN ?_ _ | refine blk_drew ?_ | refine blk_alloc ?_ _)); refine blk_put (cs := #[.bool false, .string (⟨#[]⟩ : ByteArray), .int .i64 0]) ?_ 0 _ (by first | rfl | (simp; done)); exact nK2) hb); have n0_ := Aside0.mk (below_step (by exact nB) hb); clear BK1; have BK1 := n1_; clear BK2; have BK2 := n2_; clear HB; have HB := n0_; clear n0_ n1_ n2_ hb) | ((with_reducible refine gate_callee (f := 26) rfl ?_); refine goesL_ (some 80) rfl rfl Tryz.func26 (by kernel_rfl) rfl #[.int .u64 d] rfl (by exact nz) ?_; (with_reducible refine (fixed_All.calls k6 d v1 v2 v3 0 _ A8.out).mono ?_); rintro e w1 ⟨rfl, hb⟩; refine ⟨_, rfl, ?_⟩; have n1_ := Aside0.mk (blk_below (g := g1) (o := .cells #[.int .u8 v, .int .i64 (Go.bits .andNot .i64 F1 6), .int .i64 0, .int .i64 p] 23 (0, 0)) (by exact nK1) hb); have n2_ := Aside0.mk (blk_below (g := g2) (o := .cells #[.bool y1, .string y2, .int .i64 y3] 46 (0, 0)) (by exact nK2) hb); have n0_ := Aside0.mk (below_step (by exact nB) hb); clear BK1; have BK1 := n1_; clear BK2; have BK2 := n2_; clear HB; have HB := n0_; clear n0_ n1_ n2_ hb) | ((with_reducible refine gate_dst (N := 13) rfl ?_); (try (refine gate_guard (by rfl) ?_; dsimp only)); refine box_event ?hg (N := 13) ?hd (cs := #[.bool false, .string (⟨#[]⟩ : ByteArray), .int .i64 0]) (t := 46) ?hr ?_; (case hd => rfl); (case hg => rfl); (case hr => first | (go_simp; done) | (go_simp; rfl)); intro g3 hg w1 hbox hb; have GE3 := Aside0.mk ((by rw [hg]; exact (below_size (by exact nB))) : w.heap.size ≤ g3); have N13 := Aside0.mk ((by rw [hg]; exact Nat.ne_of_lt (blk_lt (g := g1) (o := .cells #[.int .u8 v, .int .i64 (Go.bits .andNot .i64 F1 6), .int .i64 0, .int .i64 p] 23 (0, 0)) (by exact nK1))) : g1 ≠ g3); have N31 := Aside0.mk N13.out.symm; have N23 := Aside0.mk ((by rw [hg]; exact Nat.ne_of_lt (blk_lt (g := g2) (o := .cells #[.bool y1, .string y2, .int .i64 y3] 46 (0, 0)) (by exact nK2))) : g2 ≠ g3); have N32 := Aside0.mk N23.out.symm; have n1_ := Aside0.mk (blk_below (g := g1) (o := .cells #[.int .u8 v, .int .i64 (Go.bits .andNot .i64 F1 6), .int .i64 0, .int .i64 p] 23 (0, 0)) (by exact nK1) hb); have n2_ := Aside0.mk (blk_below (g := g2) (o := .cells #[.bool y1, .string y2, .int .i64 y3] 46 (0, 0)) (by exact nK2) hb); have n0_ := Aside0.mk (below_step (by exact nB) hb); clear BK1; have BK1 := n1_; clear BK2; have BK2 := n2_; clear HB; have HB := n0_; clear n0_ n1_ n2_ hb; have BK3 := Aside0.mk hbox; clear hbox hg; have hn13 := N13.out; have hn31 := N31.out; have hn23 := N23.out; have hn32 := N32.out; obtain ⟨hc3_0, hc3_1, hc3_2, hf3_0, hf3_1, hf3_2⟩ := bk3 BK3.out))
     obtain rfl := C1.out; have c1 : ((decide (d ≥ 9223372036854775808)) != (decide (d ≥ 9223372036854775808))) = false := by simp
     have c2 : decide (n < 0) = false := decide_eq_false (Int.not_lt.2 C2.out); have c3 : decide (y3 < (-5000)) = false := decide_eq_false (Int.not_lt.2 C3.out.1); have c4 : decide (400 < y3) = false := decide_eq_false (Int.not_lt.2 C3.out.2); have c5 : decide (5000 < (y2.size : Int)) = false := decide_eq_false (by have := C4.out.2; omega); obtain ⟨hc2_0, hc2_1, hc2_2, hf2_0, hf2_1, hf2_2⟩ := bk3 BK2.out; go_upto_if 128 with (first | (go_at_call 27; (with_reducible refine (abacuslaw15_modest.calls v1 v2 v3 true _ A9.out).mono ?_); rintro e w1 ⟨rfl, hb⟩; clear hc2_0 hf2_0 hc2_1 hf2_1 hc2_2 hf2_2 hc3_0 hf3_0 hc3_1 hf3_1 hc3_2 hf3_2; have n1_ := Aside0.mk (blk_below (g := g1) (o := .cells #[.int .u8 v, .int .i64 (Go.bits .andNot .i64 F1 6), .int .i64 0, .int .i64 p] 23 (0, 0)) (by exact nK1) hb); have n2_ := Aside0.mk (blk_below (g := g2) (o := .cells #[.bool (decide (d ≥ 9223372036854775808)), .string y2, .int .i64 y3] 46 (0, 0)) (by exact nK2) hb); have n3_ := Aside0.mk (blk_below (g := g3) (o := .cells #[.bool v1, .string v2, .int .i64 v3] 46 (0, 0)) (by (with_reducible repeat (first | refine blk_drewN ?_ _ | refine blk_drew ?_ | refine blk_alloc ?_ _)); refine blk_put (cs := #[.bool v1, .string v2, .int .i64 0]) ?_ 2 _ (by first | rfl | (simp; done)); (with_reducible repeat (first | refine blk_drewN ?_ _ | refine blk_drew ?_ | refine blk_alloc ?_ _)); refine blk_put (cs := #[.bool v1, .string (⟨#[]⟩ : ByteArray), .int .i64 0]) ?_ 1 _ (by first | rfl | (simp; done)); (with_reducible repeat (first | refine blk_drewN ?_ _ | refine blk_drew ?_ | refine blk_alloc ?_ _)); refine blk_put (cs := #[.bool false, .string (⟨#[]⟩ : ByteArray), .int .i64 0]) ?_ 0 _ (by first | rfl | (simp; done)); exact nK3) hb); have n0_ := Aside0.mk (below_step (by exact nB) hb); clear BK1; have BK1 := n1_; clear BK2; have BK2 := n2_; clear BK3; have BK3 := n3_; clear HB; have HB := n0_; clear n0_ n1_ n2_ n3_ hb; obtain ⟨hc1_0, hc1_1, hc1_2, hc1_3, hf1_0, hf1_1, hf1_2, hf1_3⟩ := bk4 BK1.out; obtain ⟨hc2_0, hc2_1, hc2_2, hf2_0, hf2_1, hf2_2⟩ := bk3 BK2.out))
     clear c1 c2 c3 c4 c5; go_cut [15] (fun v15 wc => ∃ P : Int, v15 = .int .i64 P ∧ Aside0 (P = if p = -1 then 6 else p) ∧ Aside0 (wc.heap[g1]? = some (.cells #[.int .u8 v, .int .i64 (Go.bits .andNot .i64 F1 6), .int .i64 0, .int .i64 p] 23 (0, 0))) ∧ Aside0 (wc.heap[g2]? = some (.cells #[.bool (decide (d ≥ 9223372036854775808)), .string y2, .int .i64 y3] 46 (0, 0))) ∧ Aside0 (wc.heap[g3]? = some (.cells #[.bool v1, .string v2, .int .i64 v3] 46 (0, 0))) ∧ Aside0 (Below w.heap.size w wc))
     case first =>
      by_cases c : p = -1
      ·
       have c0 : (p == -1) = true := beq_iff_eq.mpr c; go_wp2; go_meet
       case rel => exact ⟨6, by first | rfl | simp, ⟨(if_pos c).symm⟩, ⟨by exact nK1⟩, ⟨by exact nK2⟩, ⟨by exact nK3⟩, ⟨by exact nB⟩⟩
      have c0 : (p == -1) = false := beq_eq_false_iff_ne.mpr c; go_wp2; go_meet
      case rel => exact ⟨p, by first | rfl | simp, ⟨(if_neg c).symm⟩, ⟨by exact nK1⟩, ⟨by exact nK2⟩, ⟨by exact nK3⟩, ⟨by exact nB⟩⟩
     case rest =>
      clear hc1_0 hf1_0 hc1_1 hf1_1 hc1_2 hf1_2 hc1_3 hf1_3 hc2_0 hf2_0 hc2_1 hf2_1 hc2_2 hf2_2; obtain ⟨P, rfl, HP, BK1, BK2, BK3, HB⟩ := hcut; obtain ⟨hc1_0, hc1_1, hc1_2, hc1_3, hf1_0, hf1_1, hf1_2, hf1_3⟩ := bk4 BK1.out; go_upto_region 22 with (fail)
      go_cut [141] (fun v141 wc => v141 = .bool false ∧ Aside0 (wc.heap[g1]? = some (.cells #[.int .u8 v, .int .i64 (Go.bits .andNot .i64 F1 6), .int .i64 0, .int .i64 p] 23 (0, 0))) ∧ Aside0 (wc.heap[g2]? = some (.cells #[.bool (decide (d ≥ 9223372036854775808)), .string y2, .int .i64 y3] 46 (0, 0))) ∧ Aside0 (wc.heap[g3]? = some (.cells #[.bool v1, .string v2, .int .i64 v3] 46 (0, 0))) ∧ Aside0 (Below w.heap.size w wc))
      case first =>
       by_cases c : v = 103
       ·
        have c0 : (v == 103) = true := beq_iff_eq.mpr c; have c1 : (v != 103) = false := bne_eq_false_iff_eq.mpr c; clear c; go_wp2; go_meet
        case rel => exact ⟨by first | rfl | simp, ⟨by exact nK1⟩, ⟨by exact nK2⟩, ⟨by exact nK3⟩, ⟨by exact nB⟩⟩
       have c0 : (v != 103) = true := bne_iff_ne.mpr c; by_cases c7 : v = 71
       ·
        have c1 : (v != 71) = false := bne_eq_false_iff_eq.mpr c7; clear c7 c; go_wp2; go_meet
        case rel => exact ⟨by first | rfl | simp, ⟨by exact nK1⟩, ⟨by exact nK2⟩, ⟨by exact nK3⟩, ⟨by exact nB⟩⟩
       have c1 : (v != 71) = true := bne_iff_ne.mpr c7; have c2 : (n != P) = false := bne_eq_false_iff_eq.mpr ((C5.out c c7).trans HP.out.symm); clear c7 c; go_wp2; go_meet
       case rel => exact ⟨by first | rfl | simp, ⟨by exact nK1⟩, ⟨by exact nK2⟩, ⟨by exact nK3⟩, ⟨by exact nB⟩⟩
      case rest =>
       clear hc1_0 hf1_0 hc1_1 hf1_1 hc1_2 hf1_2 hc1_3 hf1_3; obtain ⟨rfl, BK1, BK2, BK3, HB⟩ := hcut; obtain ⟨y5, hy5⟩ : ∃ y5 : List Int, y5 = [5] := ⟨_, rfl⟩; have A11' := A11.out; rw [← hy5] at A11'; have A12 := Aside0.mk A11'; clear A11 A11'; have Ny := Aside0.mk hy5; clear hy5; obtain ⟨ji, hji⟩ : ∃ j_ : Int, wrap64 ((y2.size : Int) - 1) = j_ := ⟨_, rfl⟩; have hjw : (IntKind.i64.wrap ((y2.size : Int) - 1)) = ji := (i64_w _).trans hji; have hjv : ji = (y2.size : Int) - 1 := by rw [← hji]; exact Num.w64 (by omega) (by have := C4.out; omega)
       have C8 := C7.out; rw [hji] at C8; have C9 := Aside0.mk C8; clear C8 C7; have HJ := Aside0.mk (show 0 ≤ ji ∧ ji < (y2.size : Int) by have := C4.out; omega); clear hjv; have hn12 := N12.out; have hn21 := N21.out; have hn13 := N13.out; have hn31 := N31.out; have hn23 := N23.out; have hn32 := N32.out; obtain ⟨hc2_0, hc2_1, hc2_2, hf2_0, hf2_1, hf2_2⟩ := bk3 BK2.out; obtain ⟨hc3_0, hc3_1, hc3_2, hf3_0, hf3_1, hf3_2⟩ := bk3 BK3.out; go_upto_region 27 with (first | ((with_reducible refine gate_callee (f := 28) rfl ?_); refine goesL_ (some 145) rfl rfl Tryz.func28 (by kernel_rfl) rfl #[.agg #[.bool (decide (d ≥ 9223372036854775808)), .string y2, .int .i64 y3], .agg #[.bool v1, .string v2, .int .i64 v3]] rfl (by exact nz) ?_; (with_reducible refine (abacuslaw15_gap.calls k7 _ y2 y3 v1 v2 v3 R low _ A10.out).mono ?_); rintro e w1 ⟨v4, rfl, ho0, hb⟩; refine ⟨_, rfl, ?_⟩; have HO1 := Aside0.mk (Kd.R_lower ho0 (below_size (by exact nB))); clear ho0 hc2_0 hf2_0 hc2_1 hf2_1 hc2_2 hf2_2 hc3_0 hf3_0 hc3_1 hf3_1 hc3_2 hf3_2; have n1_ := Aside0.mk (blk_below (g := g1) (o := .cells #[.int .u8 v, .int .i64 (Go.bits .andNot .i64 F1 6), .int .i64 0, .int .i64 p] 23 (0, 0)) (by exact nK1) hb); have n2_ := Aside0.mk (blk_below (g := g2) (o := .cells #[.bool (decide (d ≥ 9223372036854775808)), .string y2, .int .i64 y3] 46 (0, 0)) (by exact nK2) hb); have n3_ := Aside0.mk (blk_below (g := g3) (o := .cells #[.bool v1, .string v2, .int .i64 v3] 46 (0, 0)) (by exact nK3) hb); have n0_ := Aside0.mk (below_step (by exact nB) hb); clear BK1; have BK1 := n1_; clear BK2; have BK2 := n2_; clear BK3; have BK3 := n3_; clear HB; have HB := n0_; clear n0_ n1_ n2_ n3_ hb) | ((with_reducible refine gate_dst (N := 150) rfl ?_); (try (refine gate_guard (by rfl) ?_; dsimp only)); refine Kd.R_lit (Kd.int .u8) _ 5 ?hg (N := 150) ?hd (xs := ([5] : List Int)) (inner := [.int .u8 5]) (ok := fun _ => True) (okp := fun _ => True) ?hr ?hp (fun _ hk => hk) trivial (Below.refl _ _) (Nat.le_refl _) (by simp) ?_; (case hd => rfl); (case hg => rfl); (case hr => first | (go_simp; done) | (go_simp; rfl)); (case hp => exact (Reps.one (show Kd.M (Kd.int .u8) _ _ _ 5 [.int .u8 5] from rfl) (Reps.none _ _))); intro v5 w1 ho hb hg_ hnew_; clear hg_ hnew_; (first | rw [← Ny.out] at ho | (simp only [Int.reduceToNat] at ho; rw [← Ny.out] at ho)); have m0_ := Aside0.mk (Kd.R_elder' (by (with_reducible repeat (first | apply Kd.R_alloc | apply Kd.R_drewN | apply Kd.R_drew)); exact HO1.out) (Kd.R_base ho) hb); have m1_ := Aside0.mk (Kd.R_lower (Kd.R_new' ho (Kd.R_lt (by (with_reducible repeat (first | apply Kd.R_alloc | apply Kd.R_drewN | apply Kd.R_drew)); exact HO1.out))) (below_size (by exact nB))); clear HO1 ho; have HO1 := m0_; have HO2 := m1_; clear m0_ m1_; have n1_ := Aside0.mk (blk_below (g := g1) (o := .cells #[.int .u8 v, .int .i64 (Go.bits .andNot .i64 F1 6), .int .i64 0, .int .i64 p] 23 (0, 0)) (by exact nK1) hb); have n2_ := Aside0.mk (blk_below (g := g2) (o := .cells #[.bool (decide (d ≥ 9223372036854775808)), .string y2, .int .i64 y3] 46 (0, 0)) (by exact nK2) hb); have n3_ := Aside0.mk (blk_below (g := g3) (o := .cells #[.bool v1, .string v2, .int .i64 v3] 46 (0, 0)) (by exact nK3) hb); have n0_ := Aside0.mk (below_step (by exact nB) hb); clear BK1; have BK1 := n1_; clear BK2; have BK2 := n2_; clear BK3; have BK3 := n3_; clear HB; have HB := n0_; clear n0_ n1_ n2_ n3_ hb; obtain ⟨Ao1, co1, eo1⟩ := Kd.R_slice HO1.out; subst eo1; obtain ⟨Ao2, co2, eo2⟩ := Kd.R_slice HO2.out; subst eo2) | ((with_reducible refine gate_callee (f := 29) rfl ?_); refine goesL_ (some 155) rfl rfl Tryz.func29 (by kernel_rfl) rfl #[.slice Ao1 R.length co1, .int .i64 low, .slice Ao2 y5.length co2, .int .i64 (wrap64 ((wrap64 (X - n)) - 1))] rfl (by exact nz) ?_; (with_reducible refine (abacuslaw15_less.calls k8 _ _ R low _ _ y5 (wrap64 ((wrap64 (X - n)) - 1)) s _ ?side1 ?side2 ?side3 ?side4 A12.out).mono ?_); (case side1 => repeat (first | exact (Kd.R_reads' HO1.out).2.2 | (with_reducible refine Kd.C_alloc ?_ _) | (with_reducible refine Kd.C_drewN ?_ _) | (with_reducible refine Kd.C_drew ?_))); (case side2 => exact (Kd.R_reads' HO1.out).2.1); (case side3 => repeat (first | exact (Kd.R_reads' HO2.out).2.2 | (with_reducible refine Kd.C_alloc ?_ _) | (with_reducible refine Kd.C_drewN ?_ _) | (with_reducible refine Kd.C_drew ?_))); (case side4 => exact (Kd.R_reads' HO2.out).2.1); rintro e w1 ⟨rfl, hb⟩; refine ⟨_, rfl, ?_⟩; clear HO1 HO2; have n1_ := Aside0.mk (blk_below (g := g1) (o := .cells #[.int .u8 v, .int .i64 (Go.bits .andNot .i64 F1 6), .int .i64 0, .int .i64 p] 23 (0, 0)) (by exact nK1) hb); have n2_ := Aside0.mk (blk_below (g := g2) (o := .cells #[.bool (decide (d ≥ 9223372036854775808)), .string y2, .int .i64 y3] 46 (0, 0)) (by exact nK2) hb); have n3_ := Aside0.mk (blk_below (g := g3) (o := .cells #[.bool v1, .string v2, .int .i64 v3] 46 (0, 0)) (by exact nK3) hb); have n0_ := Aside0.mk (below_step (by exact nB) hb); clear BK1; have BK1 := n1_; clear BK2; have BK2 := n2_; clear BK3; have BK3 := n3_; clear HB; have HB := n0_; clear n0_ n1_ n2_ n3_ hb; obtain ⟨hc2_0, hc2_1, hc2_2, hf2_0, hf2_1, hf2_2⟩ := bk3 BK2.out; have p8 : 0 ≤ ji := HJ.out.1; have q8 : ji < (y2.size : Int) := HJ.out.2; have hx8 := bt_at y2 ji; replace p8 := eq_true p8; replace q8 := eq_true q8))
       by_cases c : s < 0
       · have c0 : decide (s < 0) = true := decide_eq_true c; go_wp2; go_ret; exact ⟨by first | rfl | simp, by exact nB⟩
       have c0 : decide (s < 0) = false := decide_eq_false c; have c1 : (s == 0) = true := beq_iff_eq.mpr (by have := C6.out; omega); by_cases c2 : y3 > wrap64 (X - n)
       · have c3 : decide (wrap64 (X - n) < y3) = true := decide_eq_true c2; go_wp2; go_ret; exact ⟨by first | rfl | simp, by exact nB⟩
       have c3 : decide (wrap64 (X - n) < y3) = false := decide_eq_false c2; have c4 : (Int.tmod (bt y2 ji) 2 == 0) = true := beq_iff_eq.mpr ((C9.out (by have := C6.out; omega)).resolve_left c2); go_wp2; go_ret; exact ⟨by first | rfl | simp [c4], by exact nB⟩
   have cW0 : (W != 0) = true := bne_iff_ne.mpr cW; have he0 : (e1 == W) = true := beq_iff_eq.mpr (hW.out cW); clear cW hM; go_wp2; go_ret; exact ⟨by first | rfl | simp [he0], by exact nB⟩
end Go.Proofs.YtgbjojokjekmhaaGreatDoor.PXN
namespace Go.Proofs.YtgbjojokjekmhaaGreatDoor.Num
open Go.RowKit Go.Proofs.YtgbjojokjekmhaaGreatDoor Go.Proofs.YtgbjojokjekmhaaGreatDoor.PXC Go.Proofs.YtgbjojokjekmhaaGreatDoor.PXD Go.Proofs.YtgbjojokjekmhaaGreatDoor.PXN Go.Proofs.YtgbjojokjekmhaaGreatDoorW.PrintWords Go.Proofs.YtgbjojokjekmhaaGreatDoorW.PrintLast Go.Proofs.YtgbjojokjekmhaaGreatDoorW.PrintMore
set_option linter.unusedVariables false
theorem PointNear_true (v fl w0 p d : Int) (h0 : 0 ≤ d) (h1 : d < 18446744073709551616) (w : World) (HG : Aside0 (GW w)) :
  Calls Tryz.prog 7 #[.agg #[.int .u8 v, .int .i64 fl, .int .i64 w0, .int .i64 p], .int .u64 d] w fun e w' => e = .returned (.bool true) ∧ Below w.heap.size w w' := by
 obtain ⟨f0, f1⟩ := and31 fl; obtain ⟨o1, o2, o3, o4, o5⟩ := nearF_ok (decide (v = 103 ∨ v = 71)) f0 f1; obtain ⟨F1, hF1⟩ : ∃ F1, F1 = nearF (decide (v = 103 ∨ v = 71)) (Go.bits .and .i64 fl 31) := ⟨_, rfl⟩; rw [← hF1] at o1 o2 o3 o4 o5; obtain ⟨ka, ha⟩ := Ev.rounds awake_tot; obtain ⟨T1, e1, W, fin, r1, r2, r3, r4, r5, r6⟩ := near_else (v := v) (F := F1) (p := p) o1 h0 h1; obtain ⟨k1, q1⟩ := Ev.rounds r1; obtain ⟨k2, q2⟩ := Ev.rounds r2; refine PointNear_walk v fl w0 p d F1 w HG hF1 ⟨ha⟩ ⟨q1⟩ ⟨q2⟩ ⟨r3⟩ ⟨r4⟩ ⟨r5⟩ ⟨fun hW hf => ?_⟩; obtain ⟨hv, hp, c, hc, hc3⟩ := r6 hW hf; have hg : ¬ (v = 102 ∨ v = 70) → ¬ (v = 101 ∨ v = 69) → Go.bits .and .i64 (Go.bits .andNot .i64 F1 6) 8 ≠ 0 := fun a b => o5 (decide_eq_true (by rcases hv with h | h | h | h | h | h <;> omega))
 obtain ⟨T, Y, yE, n, X, neg, ds, x, R, low, s, m1, m2, m3, m4, m5, m6, b1, b2, b3, b4, b5, b6, b7, b8, b9⟩ := near_main hv o2 o3 o4 hg hp h0 h1 hc hc3; obtain ⟨k3, q3⟩ := Ev.rounds m1; obtain ⟨k4, q4⟩ := Ev.rounds m2; obtain ⟨k5, q5⟩ := Ev.rounds m3; obtain ⟨k6, q6⟩ := Ev.rounds m4; obtain ⟨k7, q7⟩ := Ev.rounds m5; obtain ⟨k8, q8⟩ := Ev.rounds m6; have w1 : wrap64 (X - n) = X - n := w64 (by omega) (by omega); have w2 : wrap64 (X - n - 1) = X - n - 1 := w64 (by omega) (by omega); have w3 : wrap64 ((Y.size : Int) - 1) = (Y.size : Int) - 1 := w64 (by omega) (by omega); refine ⟨T, Y, ds, _, neg, yE, x, n, X, low, s, R, k3, k4, k5, k6, k7, k8, ⟨q3⟩, ⟨q4⟩, ⟨q5⟩, ⟨q6⟩, ⟨?_⟩, ⟨q7⟩, ⟨by rw [w1, w2]; exact q8⟩, ⟨rfl⟩, ⟨b1.1⟩, ⟨b5⟩, ⟨b6⟩, ⟨b7⟩, ⟨b8⟩, ⟨by rw [w1, w3]; exact b9⟩⟩; unfold abacuslaw15_modest.f; rw [if_pos (by omega), if_pos b4.1, decide_eq_true b4.2]
end Go.Proofs.YtgbjojokjekmhaaGreatDoor.Num
