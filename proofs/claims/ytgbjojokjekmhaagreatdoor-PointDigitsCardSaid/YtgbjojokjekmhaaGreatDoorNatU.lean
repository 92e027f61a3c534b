/- nat.Trail, Shr, Mul and quot.Pow5 answer, whatever limbs they are given: no test in them fails; plain, no program; conditions: limbs, lists shorter than 2^32. -/
import Derived.Test.YtgbjojokjekmhaaGreatDoorInBaseW
import Derived.Test.YtgbjojokjekmhaaGreatDoorPXCx4
import Derived.Test.YtgbjojokjekmhaaGreatDoorPXCx6
import Derived.Test.YtgbjojokjekmhaaGreatDoorPXCx7
namespace Go.Proofs.YtgbjojokjekmhaaGreatDoor.Num
set_option linter.unusedVariables false
set_option linter.unusedSimpArgs false
open Go.RowKit Go.Proofs.YtgbjojokjekmhaaGreatDoor.PXC Go.Proofs.YtgbjojokjekmhaaGreatDoorW.PrintWords Go.Proofs.YtgbjojokjekmhaaGreatDoorW.PrintLast Go.Proofs.YtgbjojokjekmhaaGreatDoorW.PrintMore

theorem w64 {x : Int} (h0 : -9223372036854775808 ≤ x) (h1 : x ≤ 9223372036854775807) : wrap64 x = x := by
 unfold wrap64; omega
theorem size_ev (l : List Int) (hl : l.length ≤ 4611686018427387904) : Ev (fun k => nat_size.f k l) (sz l : Int) := by
 have go : ∀ n, n ≤ l.length → Ev (fun k => nat_size.l0 k l (n : Int)) (szN l n : Int) := by
  intro n; induction n with
  | zero =>
   intro _; refine Ev.step (f := fun _ => some ((szN l 0 : Nat) : Int)) (fun k => ?_) (Ev.now _); simp only [nat_size.l0]; rw [if_neg (by omega)]; rfl
  | succ n ih =>
   intro hn; have e : wrap64 (((n + 1 : Nat) : Int) - 1) = (n : Int) := by rw [w64 (by omega) (by omega)]; omega
   by_cases h0 : rd l (n : Int) = 0
   ·
    have e2 : szN l (n + 1) = szN l n := by rw [szN, if_pos h0]
    rw [e2]; refine Ev.step (fun k => ?_) (ih (by omega)); simp only [nat_size.l0]; rw [if_pos (by omega), e, if_pos (by omega), if_pos (by omega), if_pos h0]
   have e2 : szN l (n + 1) = n + 1 := by rw [szN, if_neg h0]
   rw [e2]; refine Ev.step (f := fun _ => some ((n + 1 : Nat) : Int)) (fun k => ?_) (Ev.now _); simp only [nat_size.l0]; rw [if_pos (by omega), e, if_pos (by omega), if_pos (by omega), if_neg h0]
 exact go l.length (Nat.le_refl _)
theorem big_ev (l : List Int) (hl : l.length ≤ 4611686018427387904) : Ev (fun k => nat_big.f k l) (decide (sz l > 4096)) := by
 unfold nat_big.f; refine Ev.bind (f := fun _ t => some (decide (t > 4096))) (size_ev l hl) ?_; refine Ev.congr (fun k => ?_) (Ev.now _); congr 1
 exact decide_eq_decide.2 (by omega)
theorem cut_ev (l : List Int) (hl : sz l ≤ 4096) (hl2 : l.length ≤ 4611686018427387904) : Ev (fun k => nat_cut.f k l) (l.take (sz l), 0) := by
 unfold nat_cut.f; refine Ev.bind (f := fun _ n => if n > 4096 then some ([], 2) else (if 0 ≤ n then (if n ≤ (l.length : Int) then some (l.take n.toNat, 0) else none) else none)) (size_ev l hl2) ?_; refine Ev.congr (fun k => ?_) (Ev.now _); have := sz_le l; rw [if_neg (by omega), if_pos (by omega), if_pos (by omega), Int.toNat_natCast]
end Go.Proofs.YtgbjojokjekmhaaGreatDoor.Num
namespace Go.Proofs.YtgbjojokjekmhaaGreatDoor.Num
open Go.RowKit Go.Proofs.YtgbjojokjekmhaaGreatDoor.PXC Go.Proofs.YtgbjojokjekmhaaGreatDoorW.PrintWords Go.Proofs.YtgbjojokjekmhaaGreatDoorW.PrintLast Go.Proofs.YtgbjojokjekmhaaGreatDoorW.PrintMore
set_option linter.unusedVariables false
set_option linter.unusedSimpArgs false

theorem wrap_eq (x : Int) : IntKind.u64.wrap x = x % 18446744073709551616 := by simp [IntKind.wrap, IntKind.bits, IntKind.signed]
theorem wrap_rng (x : Int) : 0 ≤ IntKind.u64.wrap x ∧ IntKind.u64.wrap x < 18446744073709551616 := by
 have : IntKind.u64.wrap x = x % 18446744073709551616 := by simp [IntKind.wrap, IntKind.bits, IntKind.signed]
 rw [this]; omega
theorem or_rng (a b : Int) : 0 ≤ Go.bits .or .u64 a b ∧ Go.bits .or .u64 a b < 18446744073709551616 := by
 unfold Go.bits; exact wrap_rng _
theorem shl_rng (x y : Int) : 0 ≤ shl .u64 x y ∧ shl .u64 x y < 18446744073709551616 := wrap_rng _
theorem shr_rng {x : Int} (h : 0 ≤ x ∧ x < 18446744073709551616) (y : Int) : 0 ≤ shr .u64 x y ∧ shr .u64 x y < 18446744073709551616 := by
 unfold shr; have hp : (0 : Int) < 2 ^ min y.toNat IntKind.u64.bits := Int.pow_pos (by decide); refine ⟨Int.ediv_nonneg h.1 (Int.le_of_lt hp), Int.lt_of_le_of_lt (Int.ediv_le_self _ h.1) h.2⟩
theorem mul64_some {a b : Int} (ha : 0 ≤ a ∧ a < 18446744073709551616) (hb : 0 ≤ b ∧ b < 18446744073709551616) : ∃ hi lo, bits_Mul64.f a b = some (hi, lo) ∧ (0 ≤ hi ∧ hi < 18446744073709551616) ∧ (0 ≤ lo ∧ lo < 18446744073709551616) := by
 refine ⟨a * b / 18446744073709551616, a * b % 18446744073709551616, ?_, ⟨?_, ?_⟩, by omega⟩
 · unfold bits_Mul64.f; rw [if_pos ⟨ha.1, ha.2, hb.1, hb.2⟩]
 · exact Int.ediv_nonneg (Int.mul_nonneg ha.1 hb.1) (by decide)
 apply Int.ediv_lt_of_lt_mul (by decide); rcases Int.lt_or_le 0 b with h | h
 · exact Int.lt_of_lt_of_le (Int.mul_lt_mul_of_pos_right ha.2 h) (Int.mul_le_mul_of_nonneg_left (Int.le_of_lt hb.2) (by decide))
 obtain rfl : b = 0 := by omega
 rw [Int.mul_zero]; decide
theorem add64_some {a b c : Int} (ha : 0 ≤ a ∧ a < 18446744073709551616) (hb : 0 ≤ b ∧ b < 18446744073709551616) (hc : 0 ≤ c ∧ c ≤ 1) : ∃ s k, bits_Add64.f a b c = some (s, k) ∧ (0 ≤ s ∧ s < 18446744073709551616) ∧ (0 ≤ k ∧ k ≤ 1) := by
 refine ⟨(a + b + c) % 18446744073709551616, (a + b + c) / 18446744073709551616, ?_, by omega, by omega⟩; unfold bits_Add64.f; rw [if_pos ⟨ha.1, hb.1, hc.1, hc.2⟩]
/-- Limbs that a function answers: short enough for every other. -/
def Okl (n : Nat) (r : List Int) : Prop := Lm r ∧ sz r ≤ 4096 ∧ r.length ≤ n
theorem okl_nil (n : Nat) : Okl n [] := ⟨lm_nil, Nat.zero_le _, Nat.zero_le _⟩
theorem Okl.mono {n m : Nat} {r : List Int} (h : Okl n r) (hn : n ≤ m) : Okl m r := ⟨h.1, h.2.1, Nat.le_trans h.2.2 hn⟩
theorem cut_tot (l : List Int) (hl : Lm l) (hn : l.length ≤ 1099511627776) : ∃ r e, Ev (fun k => nat_cut.f k l) (r, e) ∧ Okl l.length r := by
 have h1 := sz_le l; by_cases h : sz l ≤ 4096
 ·
  refine ⟨_, _, cut_ev l h (by omega), lm_take hl _, ?_, ?_⟩
  · have := sz_le (l.take (sz l)); rw [List.length_take] at this; omega
  rw [List.length_take]; omega
 refine ⟨[], 2, ?_, okl_nil _⟩; unfold nat_cut.f; refine Ev.bind (f := fun _ n => if n > 4096 then some ([], 2) else (if 0 ≤ n then (if n ≤ (l.length : Int) then some (l.take n.toNat, 0) else none) else none)) (size_ev l (by omega)) ?_; refine Ev.congr (fun k => ?_) (Ev.now _); rw [if_pos (by omega)]
theorem shl0_tot (q : Nat) (x7 : Int) (h7 : 0 ≤ x7) (l : List Int) (hl : Lm l) (hq : q + l.length + 1 ≤ 1099511627776) : ∀ (n i : Nat) (x8 : List Int), i + n = l.length → Lm x8 → x8.length = q + l.length + 1 → ∃ r e, Ev (fun k => nat_Shl.l0 k (q : Int) x7 x8 l (l.length : Int) (i : Int)) (r, e) ∧ Okl (q + l.length + 1) r := by
 intro n; induction n with
 | zero =>
  intro i x8 hi h8 hl8; obtain ⟨r, e, hev, hok⟩ := cut_tot x8 h8 (by omega); refine ⟨r, e, ?_, by rw [← hl8]; exact hok⟩; refine Ev.step (f := fun k => (nat_cut.f k x8).bind fun b => some (b.1, b.2)) (fun k => ?_) (Ev.bind (f := fun _ b => some (b.1, b.2)) hev (Ev.now _)); have c1 : ¬ (i : Int) < (l.length : Int) := by omega
  simp only [nat_Shl.l0, c1, if_false]
 | succ n ih =>
  intro i x8 hi h8 hl8; have c1 : (i : Int) < (l.length : Int) := by omega
  have c2 : (0 : Int) ≤ (i : Int) := by omega
  have e1 : wrap64 ((q : Int) + (i : Int)) = ((q + i : Nat) : Int) := by rw [w64 (by omega) (by omega)]; omega
  have e2 : wrap64 (((q + i : Nat) : Int) + 1) = ((q + i + 1 : Nat) : Int) := by rw [w64 (by omega) (by omega)]; omega
  have e3 : wrap64 ((i : Int) + 1) = ((i + 1 : Nat) : Int) := by rw [w64 (by omega) (by omega)]; omega
  have c3 : (0 : Int) ≤ ((q + i : Nat) : Int) := by omega
  have c4 : ((q + i : Nat) : Int) < (x8.length : Int) := by omega
  have c5 : (0 : Int) ≤ ((q + i + 1 : Nat) : Int) := by omega
  have c6 : ((q + i + 1 : Nat) : Int) < (x8.length : Int) := by omega
  obtain ⟨hi', lo, hm, hh, hlo⟩ := mul64_some (lm_rd hl (i : Int)) (shl_rng 1 x7); have h9 : Lm ((x8.set (((q + i : Nat) : Int)).toNat (Go.bits .or .u64 (rd x8 ((q + i : Nat) : Int)) lo)).set (((q + i + 1 : Nat) : Int)).toNat hi') := lm_set (lm_set h8 _ (or_rng _ _)) _ hh; obtain ⟨r, e, hev, hok⟩ := ih (i + 1) _ (by omega) h9 (by rw [List.length_set, List.length_set]; exact hl8); refine ⟨r, e, Ev.step (fun k => ?_) hev, hok⟩; simp only [nat_Shl.l0, c1, c2, h7, if_true, hm, Option.bind_some, e1, e2, e3, c3, c4, c5, c6]
theorem Shl_tot (l : List Int) (s : Int) (hl : Lm l) (hn : l.length ≤ 4294967296) : ∃ r e, Ev (fun k => nat_Shl.f k l s) (r, e) ∧ Okl (l.length + 4097) r := by
 have hsz := sz_le l; by_cases hb : sz l > 4096
 · refine ⟨[], 2, ?_, okl_nil _⟩; unfold nat_Shl.f; refine Ev.bind (big_ev l (by omega)) ?_; rw [decide_eq_true hb]; exact Ev.congr (fun k => if_pos rfl) (Ev.now _)
 have hbf : decide (sz l > 4096) = false := decide_eq_false hb; have T := sz_le l; have hT : (l.take (sz l)).length = sz l := List.length_take_of_le T; suffices h : ∃ r e, Ev (fun k => if s < 0 then some (([] : List Int), (1 : Int)) else ((nat_size.f k l).bind fun t118 => (if 0 ≤ t118 then (if t118 ≤ (l.length : Int) then (if ((l.take (t118 : Int).toNat).length : Int) = 0 then (some (([] : List Int), 0)) else (if s > 262144 then (some (([] : List Int), 2)) else (if 0 ≤ (wrap64 ((wrap64 ((wrap64 (Int.tdiv s 64)) + ((l.take (t118 : Int).toNat).length : Int))) + 1)) then (if (wrap64 ((wrap64 ((wrap64 (Int.tdiv s 64)) + ((l.take (t118 : Int).toNat).length : Int))) + 1) : Int).toNat ≤ 35184372088832 then (nat_Shl.l0 k (wrap64 (Int.tdiv s 64)) (IntKind.u64.wrap (Int.tmod s 64)) (List.replicate (wrap64 ((wrap64 ((wrap64 (Int.tdiv s 64)) + ((l.take (t118 : Int).toNat).length : Int))) + 1) : Int).toNat 0) (l.take (t118 : Int).toNat) ((l.take (t118 : Int).toNat).length : Int) 0) else (none)) else (none)))) else (none)) else (none)))) (r, e) ∧ Okl (l.length + 4097) r by
  obtain ⟨r, e, hev, hok⟩ := h; refine ⟨r, e, ?_, hok⟩; unfold nat_Shl.f; refine Ev.bind (big_ev l (by omega)) ?_; rw [hbf]; exact hev
 by_cases hs0 : s < 0
 · exact ⟨[], 1, Ev.congr (fun k => if_pos hs0) (Ev.now _), okl_nil _⟩
 simp only [if_neg hs0]; suffices h : ∃ r e, Ev (fun k => (if ((l.take (sz l)).length : Int) = 0 then (some (([] : List Int), (0 : Int))) else (if s > 262144 then (some (([] : List Int), 2)) else (if 0 ≤ (wrap64 ((wrap64 ((wrap64 (Int.tdiv s 64)) + ((l.take (sz l)).length : Int))) + 1)) then (if (wrap64 ((wrap64 ((wrap64 (Int.tdiv s 64)) + ((l.take (sz l)).length : Int))) + 1) : Int).toNat ≤ 35184372088832 then (nat_Shl.l0 k (wrap64 (Int.tdiv s 64)) (IntKind.u64.wrap (Int.tmod s 64)) (List.replicate (wrap64 ((wrap64 ((wrap64 (Int.tdiv s 64)) + ((l.take (sz l)).length : Int))) + 1) : Int).toNat 0) (l.take (sz l)) ((l.take (sz l)).length : Int) 0) else (none)) else (none))))) (r, e) ∧ Okl (l.length + 4097) r by
  obtain ⟨r, e, hev, hok⟩ := h; refine ⟨r, e, ?_, hok⟩; refine Ev.bind (size_ev l (by omega)) ?_; refine Ev.congr (fun k => ?_) hev; rw [if_pos (by omega), if_pos (by omega), Int.toNat_natCast]
 rw [hT]; by_cases hz : sz l = 0
 · exact ⟨[], 0, Ev.congr (fun k => if_pos (by omega)) (Ev.now _), okl_nil _⟩
 by_cases hbig : s > 262144
 · exact ⟨[], 2, Ev.congr (fun k => by rw [if_neg (by omega), if_pos hbig]) (Ev.now _), okl_nil _⟩
 obtain ⟨q, hq⟩ : ∃ q : Nat, Int.tdiv s 64 = (q : Int) ∧ q ≤ 4096 := by
  refine ⟨(Int.tdiv s 64).toNat, ?_⟩; rw [Int.tdiv_eq_ediv_of_nonneg (by omega)]; omega
 have e1 : wrap64 (Int.tdiv s 64) = (q : Int) := by rw [hq.1, w64 (by omega) (by omega)]
 have e2 : wrap64 ((q : Int) + ((sz l : Nat) : Int)) = ((q + sz l : Nat) : Int) := by rw [w64 (by omega) (by omega)]; omega
 have e3 : wrap64 (((q + sz l : Nat) : Int) + 1) = ((q + sz l + 1 : Nat) : Int) := by rw [w64 (by omega) (by omega)]; omega
 obtain ⟨r, e, hev, hok⟩ := shl0_tot q (IntKind.u64.wrap (Int.tmod s 64)) (wrap_rng _).1 (l.take (sz l)) (lm_take hl _) (by rw [hT]; omega) (l.take (sz l)).length 0 (List.replicate (q + sz l + 1) 0) (by omega) (lm_replicate _) (by rw [List.length_replicate, hT]); rw [hT] at hok hev; refine ⟨r, e, Ev.congr (fun k => ?_) hev, hok.mono (by omega)⟩; rw [if_neg (by omega), if_neg hbig, e1, e2, e3, if_pos (by omega), if_pos (by omega), Int.toNat_natCast]; rfl
end Go.Proofs.YtgbjojokjekmhaaGreatDoor.Num
namespace Go.Proofs.YtgbjojokjekmhaaGreatDoor.Num
open Go.RowKit Go.Proofs.YtgbjojokjekmhaaGreatDoor.PXC Go.Proofs.YtgbjojokjekmhaaGreatDoorW.PrintWords Go.Proofs.YtgbjojokjekmhaaGreatDoorW.PrintLast Go.Proofs.YtgbjojokjekmhaaGreatDoorW.PrintMore
set_option linter.unusedVariables false
set_option linter.unusedSimpArgs false

theorem ctz_small (x : Nat) : Lib.ctz 64 x ≤ 64 := by
 have : ∀ n x, Lib.ctzFrom n x ≤ n := by
  intro n; induction n with
  | zero => intro x; exact Nat.le_refl _
  | succ n ih =>
   intro x; unfold Lib.ctzFrom; split
   · exact Nat.zero_le _
   have := ih (x / 2); omega
 unfold Lib.ctz; split
 · exact Nat.le_refl _
 exact this 64 x
theorem Evx.bindc {α β : Type} {g : Nat → Option α} {f : Nat → α → Option β} {h : Nat → Option β} {a : α} {r : β} (hg : Ev g a) (he : ∀ k, f k a = h k) (hh : Ev h r) : Ev (fun n => (g n).bind (f n)) r := Ev.bind hg (Ev.congr he hh)
theorem tz_some {a : Int} (ha : 0 ≤ a ∧ a < 18446744073709551616) : ∃ t, bits_TrailingZeros64.f a = some t ∧ 0 ≤ t ∧ t ≤ 64 := by
 refine ⟨((Lib.ctz 64 a.toNat : Nat) : Int), ?_, by omega, by have := ctz_small a.toNat; omega⟩; unfold bits_TrailingZeros64.f; rw [if_pos ha.1, if_pos ha.2]
theorem Trail_tot (l : List Int) (hl : Lm l) (hn : l.length ≤ 4294967296) : ∃ t, Ev (fun k => nat_Trail.f k l) t ∧ 0 ≤ t ∧ t ≤ 64 * (l.length : Int) + 64 := by
 have go : ∀ n i : Nat, i + n = l.length → ∃ t, Ev (fun k => nat_Trail.l0 k l (l.length : Int) (i : Int)) t ∧ 0 ≤ t ∧ t ≤ 64 * (l.length : Int) + 64 := by
  intro n; induction n with
  | zero =>
   intro i hi; have c1 : ¬ (i : Int) < (l.length : Int) := by omega
   refine ⟨0, Ev.step (f := fun _ => some 0) (fun k => ?_) (Ev.now _), by omega, by omega⟩; simp only [nat_Trail.l0, c1, if_false]
  | succ n ih =>
   intro i hi; have c1 : (i : Int) < (l.length : Int) := by omega
   have c2 : (0 : Int) ≤ (i : Int) := by omega
   by_cases h0 : rd l (i : Int) = 0
   ·
    obtain ⟨t, ht, hb⟩ := ih (i + 1) (by omega); have e3 : wrap64 ((i : Int) + 1) = ((i + 1 : Nat) : Int) := by rw [w64 (by omega) (by omega)]; omega
    refine ⟨t, Ev.step (fun k => ?_) ht, hb⟩; simp only [nat_Trail.l0, c1, c2, h0, if_true, e3]
   obtain ⟨t, ht, h1, h2⟩ := tz_some (lm_rd hl (i : Int)); have e1 : wrap64 (64 * (i : Int)) = 64 * (i : Int) := w64 (by omega) (by omega); have e2 : wrap64 (64 * (i : Int) + t) = 64 * (i : Int) + t := w64 (by omega) (by omega); refine ⟨64 * (i : Int) + t, Ev.step (f := fun _ => some (64 * (i : Int) + t)) (fun k => ?_) (Ev.now _), by omega, by omega⟩; simp only [nat_Trail.l0, c1, c2, h0, if_true, if_false, ht, Option.bind_some, e1, e2]
 exact go l.length 0 (by omega)
theorem shr0_tot (q : Nat) (x9 : Int) (h9 : 0 ≤ x9 ∧ x9 < 64) (b : Bool) (l : List Int) (hl : Lm l) (hq : l.length ≤ 4294967296) (hql : q ≤ l.length) : ∀ (n i : Nat) (x10 : List Int), i + n = l.length - q → Lm x10 → x10.length = l.length - q → ∃ r s e, Ev (fun k => nat_Shr.l0 k l b (q : Int) x9 x10 ((l.length - q : Nat) : Int) (i : Int)) (r, s, e) ∧ Okl l.length r := by
 intro n; induction n with
 | zero =>
  intro i x8 hi h8 hl8; obtain ⟨r, e, hev, hok⟩ := cut_tot x8 h8 (by omega); refine ⟨r, b, e, ?_, hok.mono (by omega)⟩; refine Ev.step (f := fun k => (nat_cut.f k x8).bind fun y => some (y.1, b, y.2)) (fun k => ?_) (Ev.bind (f := fun _ y => some (y.1, b, y.2)) hev (Ev.now _)); have c1 : ¬ (i : Int) < ((l.length - q : Nat) : Int) := by omega
  simp only [nat_Shr.l0, c1, if_false]
 | succ n ih =>
  intro i x8 hi h8 hl8; have c1 : (i : Int) < ((l.length - q : Nat) : Int) := by omega
  have c2 : (0 : Int) ≤ (i : Int) := by omega
  have e1 : wrap64 ((q : Int) + (i : Int)) = ((q + i : Nat) : Int) := by rw [w64 (by omega) (by omega)]; omega
  have e2 : wrap64 (((q + i : Nat) : Int) + 1) = ((q + i + 1 : Nat) : Int) := by rw [w64 (by omega) (by omega)]; omega
  have e3 : wrap64 ((i : Int) + 1) = ((i + 1 : Nat) : Int) := by rw [w64 (by omega) (by omega)]; omega
  have e4 : IntKind.u64.wrap (64 - x9) = 64 - x9 := by rw [wrap_eq]; omega
  have c3 : (0 : Int) ≤ ((q + i : Nat) : Int) := by omega
  have c4 : ((q + i : Nat) : Int) < (l.length : Int) := by omega
  have c5 : (0 : Int) ≤ ((q + i + 1 : Nat) : Int) := by omega
  have c6 : (i : Int) < (x8.length : Int) := by omega
  have c7 : 0 ≤ 64 - x9 := by omega
  have c8 := h9.1; have hs1 := shr_rng (lm_rd hl ((q + i : Nat) : Int)) x9; have hA : Lm (x8.set ((i : Int)).toNat (Go.bits .or .u64 (shr .u64 (rd l ((q + i : Nat) : Int)) x9) (shl .u64 (rd l ((q + i + 1 : Nat) : Int)) (64 - x9)))) := lm_set h8 _ (or_rng _ _); have hB : Lm (x8.set ((i : Int)).toNat (shr .u64 (rd l ((q + i : Nat) : Int)) x9)) := lm_set h8 _ hs1; by_cases c9 : ((q + i + 1 : Nat) : Int) < (l.length : Int)
  ·
   by_cases c10 : x9 > 0
   · obtain ⟨r, s, e, hev, hok⟩ := ih (i + 1) _ (by omega) hA (by rw [List.length_set]; exact hl8); refine ⟨r, s, e, Ev.step (fun k => ?_) hev, hok⟩; simp only [nat_Shr.l0, c1, c2, if_true, e1, e2, e3, e4, c3, c4, c5, c6, c7, c8, c9, c10]
   obtain ⟨r, s, e, hev, hok⟩ := ih (i + 1) _ (by omega) hB (by rw [List.length_set]; exact hl8); refine ⟨r, s, e, Ev.step (fun k => ?_) hev, hok⟩; simp only [nat_Shr.l0, c1, c2, if_true, if_false, e1, e2, e3, e4, c3, c4, c5, c6, c7, c8, c9, c10]
  obtain ⟨r, s, e, hev, hok⟩ := ih (i + 1) _ (by omega) hB (by rw [List.length_set]; exact hl8); refine ⟨r, s, e, Ev.step (fun k => ?_) hev, hok⟩; simp only [nat_Shr.l0, c1, c2, if_true, if_false, e1, e2, e3, e4, c3, c4, c5, c6, c7, c8, c9]
theorem shrj_tot (l : List Int) (s : Int) (b : Bool) (hl : Lm l) (hn : l.length ≤ 4294967296) (hs : 0 ≤ s) : ∃ r b' e, Ev (fun k => nat_Shr.j0 k l s b) (r, b', e) ∧ Okl l.length r := by
 have T := sz_le l; have hT : (l.take (sz l)).length = sz l := List.length_take_of_le T; have e0 : wrap64 (64 * ((sz l : Nat) : Int)) = 64 * ((sz l : Nat) : Int) := w64 (by omega) (by omega); have c1 : (0 : Int) ≤ ((sz l : Nat) : Int) := by omega
 have c2 : ((sz l : Nat) : Int) ≤ (l.length : Int) := by omega
 by_cases h1 : s ≥ 64 * ((sz l : Nat) : Int)
 · refine ⟨[], b, 0, Ev.step (fun k => by rw [nat_Shr.j0]) (Evx.bindc (h := fun _ => some ([], b, 0)) (size_ev l (by omega)) (fun k => ?_) (Ev.now _)), okl_nil _⟩; simp only [c1, c2, if_true, Int.toNat_natCast, hT, e0, h1]
 obtain ⟨q, hq, hq2⟩ : ∃ q : Nat, Int.tdiv s 64 = (q : Int) ∧ q ≤ sz l := by
  refine ⟨(Int.tdiv s 64).toNat, ?_⟩; rw [Int.tdiv_eq_ediv_of_nonneg hs]; omega
 have e1 : wrap64 (Int.tdiv s 64) = (q : Int) := by rw [hq, w64 (by omega) (by omega)]
 have e2 : wrap64 (((sz l : Nat) : Int) - (q : Int)) = ((sz l - q : Nat) : Int) := by rw [w64 (by omega) (by omega)]; omega
 have c3 : (0 : Int) ≤ ((sz l - q : Nat) : Int) := by omega
 have c4 : sz l - q ≤ 35184372088832 := by omega
 have h9 : 0 ≤ IntKind.u64.wrap (Int.tmod s 64) ∧ IntKind.u64.wrap (Int.tmod s 64) < 64 := by
  rw [Int.tmod_eq_emod_of_nonneg hs, wrap_eq]; omega
 obtain ⟨r, b', e, hev, hok⟩ := shr0_tot q (IntKind.u64.wrap (Int.tmod s 64)) h9 b (l.take (sz l)) (lm_take hl _) (by rw [hT]; omega) (by rw [hT]; exact hq2) ((l.take (sz l)).length - q) 0 (List.replicate (sz l - q) 0) (by omega) (lm_replicate _) (by rw [List.length_replicate, hT]); rw [hT] at hev hok; refine ⟨r, b', e, Ev.step (fun k => by rw [nat_Shr.j0]) (Evx.bindc (size_ev l (by omega)) (fun k => ?_) hev), hok.mono T⟩; simp only [c1, c2, if_true, Int.toNat_natCast, hT, e0, h1, if_false, e1, e2, c3, c4, Option.bind_some, List.length_replicate]; rfl
theorem Shr_tot (l : List Int) (s : Int) (hl : Lm l) (hn : l.length ≤ 4294967296) : ∃ r b e, Ev (fun k => nat_Shr.f k l s) (r, b, e) ∧ Okl l.length r := by
 unfold nat_Shr.f; by_cases hb : sz l > 4096
 · refine ⟨[], false, 2, Evx.bindc (h := fun _ => some ([], false, 2)) (big_ev l (by omega)) (fun k => ?_) (Ev.now _), okl_nil _⟩; rw [decide_eq_true hb, if_pos rfl]
 have hbf : decide (sz l > 4096) = false := decide_eq_false hb; by_cases hs : s < 0
 · refine ⟨[], false, 1, Evx.bindc (h := fun _ => some ([], false, 1)) (big_ev l (by omega)) (fun k => ?_) (Ev.now _), okl_nil _⟩; rw [hbf, if_neg (by decide), if_pos hs]
 obtain ⟨t, ht, _⟩ := Trail_tot l hl hn; by_cases h0 : ((sz l : Nat) : Int) > 0
 · obtain ⟨r, b, e, hev, hok⟩ := shrj_tot l s (decide (t < s)) hl hn (by omega); refine ⟨r, b, e, ?_, hok⟩; refine Evx.bindc (big_ev l (by omega)) (fun k => by rw [hbf, if_neg (by decide), if_neg hs]) ?_; refine Evx.bindc (size_ev l (by omega)) (fun k => by rw [if_pos h0]) ?_; exact Ev.bind ht hev
 obtain ⟨r, b, e, hev, hok⟩ := shrj_tot l s false hl hn (by omega); refine ⟨r, b, e, ?_, hok⟩; refine Evx.bindc (big_ev l (by omega)) (fun k => by rw [hbf, if_neg (by decide), if_neg hs]) ?_; exact Evx.bindc (size_ev l (by omega)) (fun k => by rw [if_neg h0]) hev
theorem w64n {a b : Nat} (h : a + b ≤ 1099511627776) : wrap64 ((a : Int) + (b : Int)) = ((a + b : Nat) : Int) := by rw [w64 (by omega) (by omega)]; omega
theorem w64s {a : Nat} (h : a ≤ 1099511627776) : wrap64 ((a : Int) + 1) = ((a + 1 : Nat) : Int) := by rw [w64 (by omega) (by omega)]; omega
theorem add64_nil {a b : Int} (ha : 0 ≤ a ∧ a < 18446744073709551616) (hb : 0 ≤ b ∧ b < 18446744073709551616) : ∃ s k, bits_Add64.f a b 0 = some (s, k) ∧ (0 ≤ s ∧ s < 18446744073709551616) ∧ (0 ≤ k ∧ k ≤ 1) := add64_some ha hb ⟨by omega, by omega⟩
theorem mul_in {i j n m A B L : Nat} (h1 : i + (n + 1) = A) (h2 : j + (m + 1) = B) (h3 : L = A + B) : i + j < L := by omega
theorem limb0 : (0 : Int) ≤ 0 ∧ (0 : Int) < 18446744073709551616 := ⟨by omega, by omega⟩
theorem mul0_tot (a b : List Int) (ha : Lm a) (hb : Lm b) (hn : a.length + b.length ≤ 4097) : ∀ (n i : Nat) (x6 : List Int), i + n = a.length → Lm x6 → x6.length = a.length + b.length → ∃ r e, Ev (fun k => nat_Mul.l0 k b x6 a (a.length : Int) (i : Int)) (r, e) ∧ Okl 4097 r := by
 intro n; induction n with
 | zero =>
  intro i x6 hi h6 hl6; obtain ⟨r, e, hev, hok⟩ := cut_tot x6 h6 (by omega); have c1 : ¬ (i : Int) < (a.length : Int) := by omega
  refine ⟨r, e, ?_, hok.mono (by omega)⟩; refine Ev.step (f := fun k => (nat_cut.f k x6).bind fun y => some (y.1, y.2)) (fun k => ?_) (Ev.bind (f := fun _ y => some (y.1, y.2)) hev (Ev.now _)); simp only [nat_Mul.l0, c1, if_false]
 | succ n ih =>
  intro i x6 hi h6 hl6; have c1 : (i : Int) < (a.length : Int) := by omega
  have c2 : (0 : Int) ≤ (i : Int) := by omega
  have e1 : wrap64 ((i : Int) + (b.length : Int)) = ((i + b.length : Nat) : Int) := w64n (by omega); have e3 : wrap64 ((i : Int) + 1) = ((i + 1 : Nat) : Int) := w64s (by omega); have inner : ∀ (m j : Nat) (y6 : List Int) (cy : Int), j + m = b.length → Lm y6 → y6.length = a.length + b.length → (0 ≤ cy ∧ cy < 18446744073709551616) → ∃ r e, Ev (fun k => nat_Mul.l1 k b y6 (i : Int) (rd a (i : Int)) cy a (a.length : Int) (i : Int) b (b.length : Int) (j : Int)) (r, e) ∧ Okl 4097 r := by
   intro m; induction m with
   | zero =>
    intro j y6 cy hj h6 hl6 hcy; obtain ⟨r, e, hev, hok⟩ := ih (i + 1) (y6.set (i + b.length) cy) (by omega) (lm_set h6 _ hcy) (by rw [List.length_set]; exact hl6); have d1 : ¬ (j : Int) < (b.length : Int) := by omega
    have d2 : (0 : Int) ≤ ((i + b.length : Nat) : Int) := by omega
    have d3 : ((i + b.length : Nat) : Int) < (y6.length : Int) := by omega
    refine ⟨r, e, Ev.step (fun k => ?_) hev, hok⟩; simp only [nat_Mul.l1, d1, if_false, e1, d2, d3, if_true, e3, Int.toNat_natCast]
   | succ m ihm =>
    intro j y6 cy hj h6 hl6 hcy; have d1 : (j : Int) < (b.length : Int) := by omega
    have d2 : (0 : Int) ≤ (j : Int) := by omega
    have f1 : wrap64 ((i : Int) + (j : Int)) = ((i + j : Nat) : Int) := w64n (by omega); have f2 : wrap64 ((j : Int) + 1) = ((j + 1 : Nat) : Int) := w64s (by omega); have d3 : (0 : Int) ≤ ((i + j : Nat) : Int) := Int.natCast_nonneg _; have d4 : ((i + j : Nat) : Int) < (y6.length : Int) := Int.ofNat_lt.2 (mul_in hi hj hl6); obtain ⟨hi', lo, hm, hh, hlo⟩ := mul64_some (lm_rd ha (i : Int)) (lm_rd hb (j : Int)); obtain ⟨s1, k1, ha1, hs1, hk1⟩ := add64_nil hlo (lm_rd h6 ((i + j : Nat) : Int)); obtain ⟨s2, k2, ha2, hs2, hk2⟩ := add64_nil hs1 hcy; obtain ⟨r, e, hev, hok⟩ := ihm (j + 1) (y6.set (i + j) s2) (IntKind.u64.wrap (IntKind.u64.wrap (hi' + k1) + k2)) (by omega) (lm_set h6 _ hs2) (by rw [List.length_set]; exact hl6) (wrap_rng _); refine ⟨r, e, Ev.step (fun k => ?_) hev, hok⟩; simp only [nat_Mul.l1, d1, d2, f1, f2, d3, d4, if_true, hm, ha1, ha2, Option.bind_some, Int.toNat_natCast]
  obtain ⟨r, e, hev, hok⟩ := inner b.length 0 x6 0 (by omega) h6 hl6 limb0; refine ⟨r, e, Ev.step (fun k => ?_) hev, hok⟩; simp only [nat_Mul.l0, c1, c2, if_true]; rfl
theorem mulj1_tot (a b : List Int) (z : Bool) (ha : Lm a) (hb : Lm b) (h1 : a.length ≤ 4294967296) (h2 : b.length ≤ 4294967296) (hz : z = false → 0 < a.length + b.length) : ∃ r e, Ev (fun k => nat_Mul.j1 k a b z) (r, e) ∧ Okl 4097 r := by
 cases z with
 | true => exact ⟨[], 0, Ev.step (f := fun _ => some ([], 0)) (fun k => by simp only [nat_Mul.j1, if_true]) (Ev.now _), okl_nil _⟩
 | false =>
  have hz := hz rfl; have e1 : wrap64 ((a.length : Int) + (b.length : Int)) = ((a.length + b.length : Nat) : Int) := by rw [w64 (by omega) (by omega)]; omega
  have e2 : wrap64 (((a.length + b.length : Nat) : Int) - 1) = ((a.length + b.length : Nat) : Int) - 1 := w64 (by omega) (by omega); by_cases hbig : ((a.length + b.length : Nat) : Int) - 1 > 4096
  · exact ⟨[], 2, Ev.step (f := fun _ => some ([], 2)) (fun k => by simp only [nat_Mul.j1, if_false, e1, e2, hbig, if_true, Bool.false_eq_true]) (Ev.now _), okl_nil _⟩
  have c3 : (0 : Int) ≤ ((a.length + b.length : Nat) : Int) := by omega
  have c4 : a.length + b.length ≤ 35184372088832 := by omega
  obtain ⟨r, e, hev, hok⟩ := mul0_tot a b ha hb (by omega) a.length 0 (List.replicate (a.length + b.length) 0) (by omega) (lm_replicate _) (by rw [List.length_replicate]); refine ⟨r, e, Ev.step (fun k => ?_) hev, hok⟩; simp only [nat_Mul.j1, if_false, e1, e2, hbig, Bool.false_eq_true, c3, if_true, Int.toNat_natCast, c4]; rfl
theorem mulj0_tot (a b : List Int) (z : Bool) (ha : Lm a) (hb : Lm b) (h1 : a.length ≤ 4294967296) (h2 : b.length ≤ 4294967296) : ∃ r e, Ev (fun k => nat_Mul.j0 k a b z) (r, e) ∧ Okl 4097 r := by
 cases z with
 | true => exact ⟨[], 2, Ev.step (f := fun _ => some ([], 2)) (fun k => by simp only [nat_Mul.j0, if_true]) (Ev.now _), okl_nil _⟩
 | false =>
  have A := sz_le a; have B := sz_le b; have hA : (a.take (sz a)).length = sz a := List.length_take_of_le A; have hB : (b.take (sz b)).length = sz b := List.length_take_of_le B; have c1 : (0 : Int) ≤ ((sz a : Nat) : Int) := by omega
  have c2 : ((sz a : Nat) : Int) ≤ (a.length : Int) := by omega
  have c3 : (0 : Int) ≤ ((sz b : Nat) : Int) := by omega
  have c4 : ((sz b : Nat) : Int) ≤ (b.length : Int) := by omega
  by_cases h0 : ((sz a : Nat) : Int) = 0
  · obtain ⟨r, e, hev, hok⟩ := mulj1_tot (a.take (sz a)) (b.take (sz b)) true (lm_take ha _) (lm_take hb _) (by omega) (by omega) (fun h => by cases h); refine ⟨r, e, Ev.step (fun k => by rw [nat_Mul.j0, if_neg (by decide)]) ?_, hok⟩; refine Evx.bindc (size_ev a (by omega)) (fun k => by rw [if_pos c1, if_pos c2]) ?_; refine Evx.bindc (size_ev b (by omega)) (fun k => by rw [if_pos c3, if_pos c4, Int.toNat_natCast, Int.toNat_natCast, hA, if_pos h0]) ?_; exact hev
  obtain ⟨r, e, hev, hok⟩ := mulj1_tot (a.take (sz a)) (b.take (sz b)) (((sz b : Nat) : Int) == 0) (lm_take ha _) (lm_take hb _) (by omega) (by omega) (fun h => by omega); refine ⟨r, e, Ev.step (fun k => by rw [nat_Mul.j0, if_neg (by decide)]) ?_, hok⟩; refine Evx.bindc (size_ev a (by omega)) (fun k => by rw [if_pos c1, if_pos c2]) ?_; refine Evx.bindc (size_ev b (by omega)) (fun k => by rw [if_pos c3, if_pos c4, Int.toNat_natCast, Int.toNat_natCast, hA, hB, if_neg h0]) ?_; exact hev
theorem Mul_tot (a b : List Int) (ha : Lm a) (hb : Lm b) (h1 : a.length ≤ 4294967296) (h2 : b.length ≤ 4294967296) : ∃ r e, Ev (fun k => nat_Mul.f k a b) (r, e) ∧ Okl 4097 r := by
 unfold nat_Mul.f; by_cases hba : sz a > 4096
 · obtain ⟨r, e, hev, hok⟩ := mulj0_tot a b true ha hb h1 h2; exact ⟨r, e, Evx.bindc (big_ev a (by omega)) (fun k => by rw [decide_eq_true hba, if_pos rfl]) hev, hok⟩
 obtain ⟨r, e, hev, hok⟩ := mulj0_tot a b (decide (sz b > 4096)) ha hb h1 h2; refine ⟨r, e, Evx.bindc (big_ev a (by omega)) (fun k => by rw [decide_eq_false hba, if_neg (by decide)]) ?_, hok⟩; exact Ev.bind (big_ev b (by omega)) hev
theorem FromUint_tot (x : Int) (h : 0 ≤ x ∧ x < 18446744073709551616) : ∃ r, nat_FromUint.f x = some r ∧ Okl 1 r := by
 unfold nat_FromUint.f; by_cases h0 : x = 0
 · exact ⟨[], by rw [if_pos h0], okl_nil _⟩
 refine ⟨[x], by rw [if_neg h0], fun y hy => by rw [List.mem_singleton.1 hy]; exact h, ?_, by simp⟩; have := sz_le [x]; simp at this; omega
theorem mul_okl {a b : List Int} (ha : Okl 4097 a) (hb : Okl 4097 b) : ∃ r e, Ev (fun k => nat_Mul.f k a b) (r, e) ∧ Okl 4097 r := by
 have h1 := ha.2.2; have h2 := hb.2.2; exact Mul_tot a b ha.1 hb.1 (by omega) (by omega)
theorem pow_tot (s : Int) (b : List Int) (hb : Okl 4097 b) : ∀ (n : Nat) (x9 : List Int), n ≤ 100 → Okl 4097 x9 → ∃ r e, Ev (fun k => quot_Pow.l0 k s b x9 ((n : Int) - 1)) (r, e) ∧ Okl 4097 r := by
 intro n; induction n with
 | zero =>
  intro x9 _ h9; exact ⟨x9, 0, Ev.step (f := fun _ => some (x9, 0)) (fun k => by rw [quot_Pow.l0, if_neg (by omega)]) (Ev.now _), h9⟩
 | succ n ih =>
  intro x9 hn h9; have e1 : ((n + 1 : Nat) : Int) - 1 = (n : Int) := by omega
  have e2 : wrap64 ((n : Int) - 1) = (n : Int) - 1 := w64 (by omega) (by omega); rw [e1]; obtain ⟨p, pe, hp, hpo⟩ := mul_okl h9 h9; have hj : ∀ (z : Bool), ∃ r e, Ev (fun k => quot_Pow.j1 k s b p (n : Int) pe z) (r, e) ∧ Okl 4097 r := by
   intro z; cases z with
   | true =>
    obtain ⟨q, qe, hq, hqo⟩ := mul_okl hpo hb; by_cases h0 : qe = 0
    · obtain ⟨r, e, hev, hok⟩ := ih q (by omega) hqo; refine ⟨r, e, Ev.step (fun k => by rw [quot_Pow.j1, if_pos rfl]) (Evx.bindc hq (fun k => by rw [if_pos h0, e2]) hev), hok⟩
    exact ⟨[], qe, Ev.step (fun k => by rw [quot_Pow.j1, if_pos rfl]) (Evx.bindc (h := fun _ => some ([], qe)) hq (fun k => by rw [if_neg h0]) (Ev.now _)), okl_nil _⟩
   | false =>
    by_cases h0 : pe = 0
    · obtain ⟨r, e, hev, hok⟩ := ih p (by omega) hpo; exact ⟨r, e, Ev.step (fun k => by rw [quot_Pow.j1, if_neg (by decide), if_pos h0, e2]) hev, hok⟩
    exact ⟨[], pe, Ev.step (f := fun _ => some ([], pe)) (fun k => by rw [quot_Pow.j1, if_neg (by decide), if_neg h0]) (Ev.now _), okl_nil _⟩
  by_cases h0 : pe = 0
  · obtain ⟨r, e, hev, hok⟩ := hj ((Go.bits .and .i64 (shr .i64 s (IntKind.u64.wrap ((n : Int)))) 1) == 1); refine ⟨r, e, Ev.step (fun k => by rw [quot_Pow.l0, if_pos (show (n : Int) ≥ 0 by omega)]) (Evx.bindc hp (fun k => by rw [if_pos h0, if_pos (wrap_rng _).1]) hev), hok⟩
  obtain ⟨r, e, hev, hok⟩ := hj false; refine ⟨r, e, Ev.step (fun k => by rw [quot_Pow.l0, if_pos (show (n : Int) ≥ 0 by omega)]) (Evx.bindc hp (fun k => by rw [if_neg h0]) hev), hok⟩
theorem okl_one (x : Int) (h : 0 ≤ x ∧ x < 18446744073709551616) : Okl 4097 [x] := by
 refine ⟨fun y hy => by rw [List.mem_singleton.1 hy]; exact h, ?_, by simp⟩; have := sz_le [x]; simp at this; omega
theorem limb1 : (0 : Int) ≤ 1 ∧ (1 : Int) < 18446744073709551616 := ⟨by omega, by omega⟩
theorem limb5 : (0 : Int) ≤ 5 ∧ (5 : Int) < 18446744073709551616 := ⟨by omega, by omega⟩
theorem Pow5_tot (s : Int) : ∃ r e, Ev (fun k => quot_Pow5.f k s) (r, e) ∧ Okl 4097 r := by
 suffices h : ∃ r e, Ev (fun k => quot_Pow.f k [5] s) (r, e) ∧ Okl 4097 r by
  obtain ⟨r, e, hev, hok⟩ := h; refine ⟨r, e, ?_, hok⟩; unfold quot_Pow5.f; exact Ev.bind (f := fun _ b => some (b.1, b.2)) hev (Ev.now _)
 have hsm : Ev (fun k => quot_small.f k [5] 4096) ([5], true) := by
  refine Ev.bind (g := fun k => nat_Trim.f k [5]) (f := fun _ t => some (t, decide ((t.length : Int) ≤ 4096))) (a := [5]) ?_ (Ev.now _); exact Evx.bindc (h := fun _ => some [5]) (size_ev [5] (by decide)) (fun k => rfl) (Ev.now _)
 have hbl : Ev (fun k => nat_BitLen.f k [5]) 3 := Evx.bindc (h := fun _ => some 3) (size_ev [5] (by decide)) (fun k => by kernel_rfl) (Ev.now _); unfold quot_Pow.f; by_cases h0 : s < 0
 · exact ⟨[], 1, Evx.bindc (h := fun k => (nat_BitLen.f k [5]).bind fun _ => some ([], 1)) hsm (fun k => by simp only [h0, if_true]) (Ev.bind (f := fun _ _ => some ([], 1)) hbl (Ev.now _)), okl_nil _⟩
 by_cases h1 : s = 0
 · exact ⟨[1], 0, Evx.bindc (h := fun k => (nat_BitLen.f k [5]).bind fun _ => some ([1], 0)) hsm (fun k => by simp only [h0, h1, if_true, if_false]; rfl) (Ev.bind (f := fun _ _ => some ([1], 0)) hbl (Ev.now _)), okl_one 1 limb1⟩
 by_cases h2 : s ≥ 262144
 · refine ⟨[], 2, Evx.bindc (h := fun k => (nat_BitLen.f k [5]).bind fun t => if t ≤ 1 then some ([5], 0) else some ([], 2)) hsm (fun k => by simp only [h0, h1, h2, if_true, if_false]) (Evx.bindc (h := fun _ => some ([], 2)) hbl (fun k => rfl) (Ev.now _)), okl_nil _⟩
 by_cases h3 : wrap64 ((wrap64 (3 - 1)) * s) ≥ 262144
 · refine ⟨[], 2, Ev.bind hsm (Evx.bindc (h := fun _ => some ([], 2)) hbl (fun k => by simp only [h0, h1, h2, h3, if_true, if_false]; rfl) (Ev.now _)), okl_nil _⟩
 obtain ⟨b, hb, hb2⟩ : ∃ b : Nat, bits_Len.f (IntKind.u64.wrap s) = some (b : Int) ∧ b ≤ 64 := by
  have hw := wrap_rng s; refine ⟨Lib.bitLen (IntKind.u64.wrap s).toNat, ?_, Lib.bitLen_le _ 64 (Nat.le_refl _) (by omega)⟩; unfold bits_Len.f; rw [if_pos hw.1, if_pos (by omega)]
 obtain ⟨r, e, hev, hok⟩ := pow_tot s [5] (okl_one 5 limb5) b [1] (by omega) (okl_one 1 limb1); have e1 : wrap64 ((b : Int) - 1) = (b : Int) - 1 := w64 (by omega) (by omega); refine ⟨r, e, Ev.bind hsm (Evx.bindc hbl (fun k => ?_) hev), hok⟩; simp only [h0, h1, h2, h3, if_true, if_false, hb, Option.bind_some, e1]; rfl
end Go.Proofs.YtgbjojokjekmhaaGreatDoor.Num
