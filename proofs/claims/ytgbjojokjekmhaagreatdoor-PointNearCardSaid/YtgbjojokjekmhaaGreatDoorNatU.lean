/- nat.Trail, Shr, Mul and quot.Pow5 answer, whatever limbs they are given: no test in them fails; plain, no program; conditions: limbs, lists shorter than 2^32. -/
import Derived.Test.YtgbjojokjekmhaaGreatDoorInBaseW
import Derived.Test.YtgbjojokjekmhaaGreatDoorPXCx4
import Derived.Test.YtgbjojokjekmhaaGreatDoorPXCx6
import Derived.Test.YtgbjojokjekmhaaGreatDoorPXCx7
namespace Go.Proofs.YtgbjojokjekmhaaGreatDoor.Num
set_option linter.unusedVariables false
set_option linter.unusedSimpArgs false
open Go.RowKit Go.Proofs.YtgbjojokjekmhaaGreatDoor.PXC Go.Proofs.YtgbjojokjekmhaaGreatDoorW.PrintWords Go.Proofs.YtgbjojokjekmhaaGreatDoorW.PrintLast Go.Proofs.YtgbjojokjekmhaaGreatDoorW.PrintMore

theorem w64 {x : Int} (h0 : -9223372036854775808 ≤ x) (h1 : x ≤ 9223372036854775807) : wrap64 x = x := by
 unfold wrap64; omega
theorem size_ev (l : List Int) (hl : l.length ≤ 4611686018427387904) : Ev (fun k => nat_size.f k l) (sz l : Int) := by
 have go : ∀ n, n ≤ l.length → Ev (fun k => nat_size.l0 k l (n : Int)) (szN l n : Int) := by
  intro n; induction n with
  | zero =>
   intro _; refine Ev.step (f := fun _ => some ((szN l 0 : Nat) : Int)) (fun k => ?_) (Ev.now _); simp only [nat_size.l0]; rw [if_neg (by omega)]; rfl
  | succ n ih =>
   intro hn; have e : wrap64 (((n + 1 : Nat) : Int) - 1) = (n : Int) := by rw [w64 (by omega) (by omega)]; omega
   by_cases h0 : rd l (n : Int) = 0
   ·
    have e2 : szN l (n + 1) = szN l n := by rw [szN, if_pos h0]
    rw [e2]; refine Ev.step (fun k => ?_) (ih (by omega)); simp only [nat_size.l0]; rw [if_pos (by omega), e, if_pos (by omega), if_pos (by omega), if_pos h0]
   have e2 : szN l (n + 1) = n + 1 := by rw [szN, if_neg h0]
   rw [e2]; refine Ev.step (f := fun _ => some ((n + 1 : Nat) : Int)) (fun k => ?_) (Ev.now _); simp only [nat_size.l0]; rw [if_pos (by omega), e, if_pos (by omega), if_pos (by omega), if_neg h0]
 exact go l.length (Nat.le_refl _)
theorem big_ev (l : List Int) (hl : l.length ≤ 4611686018427387904) : Ev (fun k => nat_big.f k l) (decide (sz l > 4096)) := by
 unfold nat_big.f; refine Ev.bind (f := fun _ t => some (decide (t > 4096))) (size_ev l hl) ?_; refine Ev.congr (fun k => ?_) (Ev.now _); congr 1
 exact decide_eq_decide.2 (by omega)
theorem cut_ev (l : List Int) (hl : sz l ≤ 4096) (hl2 : l.length ≤ 4611686018427387904) : Ev (fun k => nat_cut.f k l) (l.take (sz l), 0) := by
 unfold nat_cut.f; refine Ev.bind (f := fun _ n => if n > 4096 then some ([], 2) else (if 0 ≤ n then (if n ≤ (l.length : Int) then some (l.take n.toNat, 0) else none) else none)) (size_ev l hl2) ?_; refine Ev.congr (fun k => ?_) (Ev.now _); have := sz_le l; rw [if_neg (by omega), if_pos (by omega), if_pos (by omega), Int.toNat_natCast]
end Go.Proofs.YtgbjojokjekmhaaGreatDoor.Num
namespace Go.Proofs.YtgbjojokjekmhaaGreatDoor.Num
open Go.RowKit Go.Proofs.YtgbjojokjekmhaaGreatDoor.PXC Go.Proofs.YtgbjojokjekmhaaGreatDoorW.PrintWords Go.Proofs.YtgbjojokjekmhaaGreatDoorW.PrintLast Go.Proofs.YtgbjojokjekmhaaGreatDoorW.PrintMore
set_option linter.unusedVariables false
set_option linter.unusedSimpArgs false

theorem wrap_eq (x : Int) : IntKind.u64.wrap x = x % 18446744073709551616 := by simp [IntKind.wrap, IntKind.bits, IntKind.signed]
theorem wrap_rng (x : Int) : 0 ≤ IntKind.u64.wrap x ∧ IntKind.u64.wrap x < 18446744073709551616 := by
 have : IntKind.u64.wrap x = x % 18446744073709551616 := by simp [IntKind.wrap, IntKind.bits, IntKind.signed]
 rw [this]; omega
theorem or_rng (a b : Int) : 0 ≤ Go.bits .or .u64 a b ∧ Go.bits .or .u64 a b < 18446744073709551616 := by
 unfold Go.bits; exact wrap_rng _
theorem shr_rng {x : Int} (h : 0 ≤ x ∧ x < 18446744073709551616) (y : Int) : 0 ≤ shr .u64 x y ∧ shr .u64 x y < 18446744073709551616 := by
 unfold shr; have hp : (0 : Int) < 2 ^ min y.toNat IntKind.u64.bits := Int.pow_pos (by decide); refine ⟨Int.ediv_nonneg h.1 (Int.le_of_lt hp), Int.lt_of_le_of_lt (Int.ediv_le_self _ h.1) h.2⟩
/-- Limbs that a function answers: short enough for every other. -/
def Okl (n : Nat) (r : List Int) : Prop := Lm r ∧ sz r ≤ 4096 ∧ r.length ≤ n
theorem okl_nil (n : Nat) : Okl n [] := ⟨lm_nil, Nat.zero_le _, Nat.zero_le _⟩
theorem Okl.mono {n m : Nat} {r : List Int} (h : Okl n r) (hn : n ≤ m) : Okl m r := ⟨h.1, h.2.1, Nat.le_trans h.2.2 hn⟩
theorem cut_tot (l : List Int) (hl : Lm l) (hn : l.length ≤ 1099511627776) : ∃ r e, Ev (fun k => nat_cut.f k l) (r, e) ∧ Okl l.length r := by
 have h1 := sz_le l; by_cases h : sz l ≤ 4096
 ·
  refine ⟨_, _, cut_ev l h (by omega), lm_take hl _, ?_, ?_⟩
  · have := sz_le (l.take (sz l)); rw [List.length_take] at this; omega
  rw [List.length_take]; omega
 refine ⟨[], 2, ?_, okl_nil _⟩; unfold nat_cut.f; refine Ev.bind (f := fun _ n => if n > 4096 then some ([], 2) else (if 0 ≤ n then (if n ≤ (l.length : Int) then some (l.take n.toNat, 0) else none) else none)) (size_ev l (by omega)) ?_; refine Ev.congr (fun k => ?_) (Ev.now _); rw [if_pos (by omega)]
end Go.Proofs.YtgbjojokjekmhaaGreatDoor.Num
namespace Go.Proofs.YtgbjojokjekmhaaGreatDoor.Num
open Go.RowKit Go.Proofs.YtgbjojokjekmhaaGreatDoor.PXC Go.Proofs.YtgbjojokjekmhaaGreatDoorW.PrintWords Go.Proofs.YtgbjojokjekmhaaGreatDoorW.PrintLast Go.Proofs.YtgbjojokjekmhaaGreatDoorW.PrintMore
set_option linter.unusedVariables false
set_option linter.unusedSimpArgs false

theorem ctz_small (x : Nat) : Lib.ctz 64 x ≤ 64 := by
 have : ∀ n x, Lib.ctzFrom n x ≤ n := by
  intro n; induction n with
  | zero => intro x; exact Nat.le_refl _
  | succ n ih =>
   intro x; unfold Lib.ctzFrom; split
   · exact Nat.zero_le _
   have := ih (x / 2); omega
 unfold Lib.ctz; split
 · exact Nat.le_refl _
 exact this 64 x
theorem Evx.bindc {α β : Type} {g : Nat → Option α} {f : Nat → α → Option β} {h : Nat → Option β} {a : α} {r : β} (hg : Ev g a) (he : ∀ k, f k a = h k) (hh : Ev h r) : Ev (fun n => (g n).bind (f n)) r := Ev.bind hg (Ev.congr he hh)
theorem tz_some {a : Int} (ha : 0 ≤ a ∧ a < 18446744073709551616) : ∃ t, bits_TrailingZeros64.f a = some t ∧ 0 ≤ t ∧ t ≤ 64 := by
 refine ⟨((Lib.ctz 64 a.toNat : Nat) : Int), ?_, by omega, by have := ctz_small a.toNat; omega⟩; unfold bits_TrailingZeros64.f; rw [if_pos ha.1, if_pos ha.2]
theorem Trail_tot (l : List Int) (hl : Lm l) (hn : l.length ≤ 4294967296) : ∃ t, Ev (fun k => nat_Trail.f k l) t ∧ 0 ≤ t ∧ t ≤ 64 * (l.length : Int) + 64 := by
 have go : ∀ n i : Nat, i + n = l.length → ∃ t, Ev (fun k => nat_Trail.l0 k l (l.length : Int) (i : Int)) t ∧ 0 ≤ t ∧ t ≤ 64 * (l.length : Int) + 64 := by
  intro n; induction n with
  | zero =>
   intro i hi; have c1 : ¬ (i : Int) < (l.length : Int) := by omega
   refine ⟨0, Ev.step (f := fun _ => some 0) (fun k => ?_) (Ev.now _), by omega, by omega⟩; simp only [nat_Trail.l0, c1, if_false]
  | succ n ih =>
   intro i hi; have c1 : (i : Int) < (l.length : Int) := by omega
   have c2 : (0 : Int) ≤ (i : Int) := by omega
   by_cases h0 : rd l (i : Int) = 0
   ·
    obtain ⟨t, ht, hb⟩ := ih (i + 1) (by omega); have e3 : wrap64 ((i : Int) + 1) = ((i + 1 : Nat) : Int) := by rw [w64 (by omega) (by omega)]; omega
    refine ⟨t, Ev.step (fun k => ?_) ht, hb⟩; simp only [nat_Trail.l0, c1, c2, h0, if_true, e3]
   obtain ⟨t, ht, h1, h2⟩ := tz_some (lm_rd hl (i : Int)); have e1 : wrap64 (64 * (i : Int)) = 64 * (i : Int) := w64 (by omega) (by omega); have e2 : wrap64 (64 * (i : Int) + t) = 64 * (i : Int) + t := w64 (by omega) (by omega); refine ⟨64 * (i : Int) + t, Ev.step (f := fun _ => some (64 * (i : Int) + t)) (fun k => ?_) (Ev.now _), by omega, by omega⟩; simp only [nat_Trail.l0, c1, c2, h0, if_true, if_false, ht, Option.bind_some, e1, e2]
 exact go l.length 0 (by omega)
theorem shr0_tot (q : Nat) (x9 : Int) (h9 : 0 ≤ x9 ∧ x9 < 64) (b : Bool) (l : List Int) (hl : Lm l) (hq : l.length ≤ 4294967296) (hql : q ≤ l.length) : ∀ (n i : Nat) (x10 : List Int), i + n = l.length - q → Lm x10 → x10.length = l.length - q → ∃ r s e, Ev (fun k => nat_Shr.l0 k l b (q : Int) x9 x10 ((l.length - q : Nat) : Int) (i : Int)) (r, s, e) ∧ Okl l.length r := by
 intro n; induction n with
 | zero =>
  intro i x8 hi h8 hl8; obtain ⟨r, e, hev, hok⟩ := cut_tot x8 h8 (by omega); refine ⟨r, b, e, ?_, hok.mono (by omega)⟩; refine Ev.step (f := fun k => (nat_cut.f k x8).bind fun y => some (y.1, b, y.2)) (fun k => ?_) (Ev.bind (f := fun _ y => some (y.1, b, y.2)) hev (Ev.now _)); have c1 : ¬ (i : Int) < ((l.length - q : Nat) : Int) := by omega
  simp only [nat_Shr.l0, c1, if_false]
 | succ n ih =>
  intro i x8 hi h8 hl8; have c1 : (i : Int) < ((l.length - q : Nat) : Int) := by omega
  have c2 : (0 : Int) ≤ (i : Int) := by omega
  have e1 : wrap64 ((q : Int) + (i : Int)) = ((q + i : Nat) : Int) := by rw [w64 (by omega) (by omega)]; omega
  have e2 : wrap64 (((q + i : Nat) : Int) + 1) = ((q + i + 1 : Nat) : Int) := by rw [w64 (by omega) (by omega)]; omega
  have e3 : wrap64 ((i : Int) + 1) = ((i + 1 : Nat) : Int) := by rw [w64 (by omega) (by omega)]; omega
  have e4 : IntKind.u64.wrap (64 - x9) = 64 - x9 := by rw [wrap_eq]; omega
  have c3 : (0 : Int) ≤ ((q + i : Nat) : Int) := by omega
  have c4 : ((q + i : Nat) : Int) < (l.length : Int) := by omega
  have c5 : (0 : Int) ≤ ((q + i + 1 : Nat) : Int) := by omega
  have c6 : (i : Int) < (x8.length : Int) := by omega
  have c7 : 0 ≤ 64 - x9 := by omega
  have c8 := h9.1; have hs1 := shr_rng (lm_rd hl ((q + i : Nat) : Int)) x9; have hA : Lm (x8.set ((i : Int)).toNat (Go.bits .or .u64 (shr .u64 (rd l ((q + i : Nat) : Int)) x9) (shl .u64 (rd l ((q + i + 1 : Nat) : Int)) (64 - x9)))) := lm_set h8 _ (or_rng _ _); have hB : Lm (x8.set ((i : Int)).toNat (shr .u64 (rd l ((q + i : Nat) : Int)) x9)) := lm_set h8 _ hs1; by_cases c9 : ((q + i + 1 : Nat) : Int) < (l.length : Int)
  ·
   by_cases c10 : x9 > 0
   · obtain ⟨r, s, e, hev, hok⟩ := ih (i + 1) _ (by omega) hA (by rw [List.length_set]; exact hl8); refine ⟨r, s, e, Ev.step (fun k => ?_) hev, hok⟩; simp only [nat_Shr.l0, c1, c2, if_true, e1, e2, e3, e4, c3, c4, c5, c6, c7, c8, c9, c10]
   obtain ⟨r, s, e, hev, hok⟩ := ih (i + 1) _ (by omega) hB (by rw [List.length_set]; exact hl8); refine ⟨r, s, e, Ev.step (fun k => ?_) hev, hok⟩; simp only [nat_Shr.l0, c1, c2, if_true, if_false, e1, e2, e3, e4, c3, c4, c5, c6, c7, c8, c9, c10]
  obtain ⟨r, s, e, hev, hok⟩ := ih (i + 1) _ (by omega) hB (by rw [List.length_set]; exact hl8); refine ⟨r, s, e, Ev.step (fun k => ?_) hev, hok⟩; simp only [nat_Shr.l0, c1, c2, if_true, if_false, e1, e2, e3, e4, c3, c4, c5, c6, c7, c8, c9]
theorem shrj_tot (l : List Int) (s : Int) (b : Bool) (hl : Lm l) (hn : l.length ≤ 4294967296) (hs : 0 ≤ s) : ∃ r b' e, Ev (fun k => nat_Shr.j0 k l s b) (r, b', e) ∧ Okl l.length r := by
 have T := sz_le l; have hT : (l.take (sz l)).length = sz l := List.length_take_of_le T; have e0 : wrap64 (64 * ((sz l : Nat) : Int)) = 64 * ((sz l : Nat) : Int) := w64 (by omega) (by omega); have c1 : (0 : Int) ≤ ((sz l : Nat) : Int) := by omega
 have c2 : ((sz l : Nat) : Int) ≤ (l.length : Int) := by omega
 by_cases h1 : s ≥ 64 * ((sz l : Nat) : Int)
 · refine ⟨[], b, 0, Ev.step (fun k => by rw [nat_Shr.j0]) (Evx.bindc (h := fun _ => some ([], b, 0)) (size_ev l (by omega)) (fun k => ?_) (Ev.now _)), okl_nil _⟩; simp only [c1, c2, if_true, Int.toNat_natCast, hT, e0, h1]
 obtain ⟨q, hq, hq2⟩ : ∃ q : Nat, Int.tdiv s 64 = (q : Int) ∧ q ≤ sz l := by
  refine ⟨(Int.tdiv s 64).toNat, ?_⟩; rw [Int.tdiv_eq_ediv_of_nonneg hs]; omega
 have e1 : wrap64 (Int.tdiv s 64) = (q : Int) := by rw [hq, w64 (by omega) (by omega)]
 have e2 : wrap64 (((sz l : Nat) : Int) - (q : Int)) = ((sz l - q : Nat) : Int) := by rw [w64 (by omega) (by omega)]; omega
 have c3 : (0 : Int) ≤ ((sz l - q : Nat) : Int) := by omega
 have c4 : sz l - q ≤ 35184372088832 := by omega
 have h9 : 0 ≤ IntKind.u64.wrap (Int.tmod s 64) ∧ IntKind.u64.wrap (Int.tmod s 64) < 64 := by
  rw [Int.tmod_eq_emod_of_nonneg hs, wrap_eq]; omega
 obtain ⟨r, b', e, hev, hok⟩ := shr0_tot q (IntKind.u64.wrap (Int.tmod s 64)) h9 b (l.take (sz l)) (lm_take hl _) (by rw [hT]; omega) (by rw [hT]; exact hq2) ((l.take (sz l)).length - q) 0 (List.replicate (sz l - q) 0) (by omega) (lm_replicate _) (by rw [List.length_replicate, hT]); rw [hT] at hev hok; refine ⟨r, b', e, Ev.step (fun k => by rw [nat_Shr.j0]) (Evx.bindc (size_ev l (by omega)) (fun k => ?_) hev), hok.mono T⟩; simp only [c1, c2, if_true, Int.toNat_natCast, hT, e0, h1, if_false, e1, e2, c3, c4, Option.bind_some, List.length_replicate]; rfl
theorem Shr_tot (l : List Int) (s : Int) (hl : Lm l) (hn : l.length ≤ 4294967296) : ∃ r b e, Ev (fun k => nat_Shr.f k l s) (r, b, e) ∧ Okl l.length r := by
 unfold nat_Shr.f; by_cases hb : sz l > 4096
 · refine ⟨[], false, 2, Evx.bindc (h := fun _ => some ([], false, 2)) (big_ev l (by omega)) (fun k => ?_) (Ev.now _), okl_nil _⟩; rw [decide_eq_true hb, if_pos rfl]
 have hbf : decide (sz l > 4096) = false := decide_eq_false hb; by_cases hs : s < 0
 · refine ⟨[], false, 1, Evx.bindc (h := fun _ => some ([], false, 1)) (big_ev l (by omega)) (fun k => ?_) (Ev.now _), okl_nil _⟩; rw [hbf, if_neg (by decide), if_pos hs]
 obtain ⟨t, ht, _⟩ := Trail_tot l hl hn; by_cases h0 : ((sz l : Nat) : Int) > 0
 · obtain ⟨r, b, e, hev, hok⟩ := shrj_tot l s (decide (t < s)) hl hn (by omega); refine ⟨r, b, e, ?_, hok⟩; refine Evx.bindc (big_ev l (by omega)) (fun k => by rw [hbf, if_neg (by decide), if_neg hs]) ?_; refine Evx.bindc (size_ev l (by omega)) (fun k => by rw [if_pos h0]) ?_; exact Ev.bind ht hev
 obtain ⟨r, b, e, hev, hok⟩ := shrj_tot l s false hl hn (by omega); refine ⟨r, b, e, ?_, hok⟩; refine Evx.bindc (big_ev l (by omega)) (fun k => by rw [hbf, if_neg (by decide), if_neg hs]) ?_; exact Evx.bindc (size_ev l (by omega)) (fun k => by rw [if_neg h0]) hev
theorem w64n {a b : Nat} (h : a + b ≤ 1099511627776) : wrap64 ((a : Int) + (b : Int)) = ((a + b : Nat) : Int) := by rw [w64 (by omega) (by omega)]; omega
theorem w64s {a : Nat} (h : a ≤ 1099511627776) : wrap64 ((a : Int) + 1) = ((a + 1 : Nat) : Int) := by rw [w64 (by omega) (by omega)]; omega
theorem limb0 : (0 : Int) ≤ 0 ∧ (0 : Int) < 18446744073709551616 := ⟨by omega, by omega⟩
theorem FromUint_tot (x : Int) (h : 0 ≤ x ∧ x < 18446744073709551616) : ∃ r, nat_FromUint.f x = some r ∧ Okl 1 r := by
 unfold nat_FromUint.f; by_cases h0 : x = 0
 · exact ⟨[], by rw [if_pos h0], okl_nil _⟩
 refine ⟨[x], by rw [if_neg h0], fun y hy => by rw [List.mem_singleton.1 hy]; exact h, ?_, by simp⟩; have := sz_le [x]; simp at this; omega
theorem okl_one (x : Int) (h : 0 ≤ x ∧ x < 18446744073709551616) : Okl 4097 [x] := by
 refine ⟨fun y hy => by rw [List.mem_singleton.1 hy]; exact h, ?_, by simp⟩; have := sz_le [x]; simp at this; omega
theorem limb1 : (0 : Int) ≤ 1 ∧ (1 : Int) < 18446744073709551616 := ⟨by omega, by omega⟩
theorem limb5 : (0 : Int) ≤ 5 ∧ (5 : Int) < 18446744073709551616 := ⟨by omega, by omega⟩
end Go.Proofs.YtgbjojokjekmhaaGreatDoor.Num
