/- fixed.Places and Figures, whole.Pad and the bodies of point.Render, said of rows of digits; plain, no program; conditions: a finite double, a good Spec. -/
import Derived.Test.YtgbjojokjekmhaaGreatDoorTxtP
import Derived.Test.YtgbjojokjekmhaaGreatDoorNatU
import Derived.Test.YtgbjojokjekmhaaGreatDoorPXCx8
import Derived.Laws.Bits64b
import Derived.Test.YtgbjojokjekmhaaGreatDoorPXCx12
namespace Go.Proofs.YtgbjojokjekmhaaGreatDoor.Num
open Go.RowKit Go.Proofs.YtgbjojokjekmhaaGreatDoor.PXC Go.Proofs.YtgbjojokjekmhaaGreatDoorW.PrintWords Go.Proofs.YtgbjojokjekmhaaGreatDoorW.PrintLast Go.Proofs.YtgbjojokjekmhaaGreatDoorW.PrintMore
set_option linter.unusedVariables false
set_option linter.unusedSimpArgs false

theorem class_tot (d : Int) : ∃ c, ieee_Class.f d = some c ∧ 0 ≤ c ∧ c ≤ 4 := by
 unfold ieee_Class.f ieee_Abs.f; simp only [Option.bind_some]; split
 · exact ⟨0, rfl, by omega, by omega⟩
 split
 · exact ⟨1, rfl, by omega, by omega⟩
 split
 · exact ⟨2, rfl, by omega, by omega⟩
 split
 · exact ⟨3, rfl, by omega, by omega⟩
 exact ⟨4, rfl, by omega, by omega⟩
theorem low11 (x : Int) (h0 : 0 ≤ x) (h : x < 18446744073709551616) : 0 ≤ Go.bits .and .u64 x 2047 ∧ Go.bits .and .u64 x 2047 ≤ 2047 := by
 obtain ⟨n, rfl⟩ : ∃ n : Nat, x = (n : Int) := ⟨x.toNat, by omega⟩; have e : n &&& 2047 = n % 2048 := Nat.and_two_pow_sub_one_eq_mod n 11; have h2 := bits_and_u64_nat n 2047 (by omega) (by decide); rw [e] at h2; have h3 : ((2047 : Nat) : Int) = 2047 := rfl; rw [h3] at h2; rw [h2]; omega
theorem and_rng (a b : Int) : 0 ≤ Go.bits .and .u64 a b ∧ Go.bits .and .u64 a b < 18446744073709551616 := by
 unfold Go.bits; exact wrap_rng _
/-- A double taken apart. -/
theorem Decode_tot (d : Int) (h0 : 0 ≤ d) (h1 : d < 18446744073709551616) : ∃ n c m e, ieee_Decode.f d = some (n, c, m, e) ∧ ieee_Class.f d = some c ∧ (0 ≤ c ∧ c ≤ 4) ∧ (0 ≤ m ∧ m < 18446744073709551616) ∧ (-1075 ≤ e ∧ e ≤ 1000) := by
 obtain ⟨c, hc, hc0, hc4⟩ := class_tot d; unfold ieee_Decode.f; rw [hc, Option.bind_some]; have hl := low11 (d / 4503599627370496) (by omega) (by omega); by_cases c1 : c = 1
 · rw [if_pos c1]; exact ⟨_, _, _, _, rfl, rfl, ⟨hc0, hc4⟩, and_rng _ _, by omega, by omega⟩
 rw [if_neg c1]; by_cases c2 : c = 2
 · rw [if_pos c2]; refine ⟨_, _, _, _, rfl, rfl, ⟨hc0, hc4⟩, or_rng _ _, ?_⟩; rw [w64 (x := Go.bits .and .u64 (d / 4503599627370496) 2047) (by omega) (by omega), w64 (by omega) (by omega)]; omega
 rw [if_neg c2]; by_cases c4 : c = 4
 · rw [if_pos c4]; exact ⟨_, _, _, _, rfl, rfl, ⟨hc0, hc4⟩, and_rng _ _, by omega, by omega⟩
 rw [if_neg c4]; exact ⟨_, _, _, _, rfl, rfl, ⟨hc0, hc4⟩, ⟨by omega, by omega⟩, by omega, by omega⟩
theorem Trim0_tot {ds : List UInt8} (h : ds.length ≤ 262144) : strings_TrimRight.f (S ds) (⟨#[48]⟩ : ByteArray) = some (S (Lib.trimRightB ds 48)) := by
 unfold strings_TrimRight.f; rw [if_pos rfl, if_pos (by rw [s_size]; omega)]
/-- What All answers of a finite double. -/
structure Dec (neg : Bool) (ds : List UInt8) (x : Int) : Prop where
 dg : Dg ds
 len : ds.length ≤ 262144
 lo : -2097152 ≤ x
 hi : x ≤ 2097152
end Go.Proofs.YtgbjojokjekmhaaGreatDoor.Num
namespace Go.Proofs.YtgbjojokjekmhaaGreatDoor.Num
open Go.RowKit Go.Proofs.YtgbjojokjekmhaaGreatDoor.PXC Go.Proofs.YtgbjojokjekmhaaGreatDoorW.PrintWords Go.Proofs.YtgbjojokjekmhaaGreatDoorW.PrintLast Go.Proofs.YtgbjojokjekmhaaGreatDoorW.PrintMore
set_option linter.unusedVariables false
set_option linter.unusedSimpArgs false

theorem rep_tot (b : UInt8) (n : Nat) (hn : n ≤ 140737488355328) : strings_Repeat.f (⟨#[b]⟩ : ByteArray) (n : Int) = some (S (List.replicate n b)) := by
 unfold strings_Repeat.f; have e : (⟨#[b]⟩ : ByteArray).size = 1 := rfl; rw [if_pos (by omega), if_pos (by omega), e, Int.toNat_natCast, if_pos (by omega)]; have e2 : (⟨#[b]⟩ : ByteArray).data.toList = [b] := rfl; rw [e2, rep_one]
/-- The first keep digits of a row, rounded, and whether a digit is carried out ahead of them. -/
def rowL (ds : List UInt8) (keep : Int) : List UInt8 × Bool :=
 if keep < 0 then ([], false)
 else if (ds.length : Int) ≤ keep then (ds ++ List.replicate (keep.toNat - ds.length) 48, false)
 else if (roundR (S ds) keep.toNat false).2 = true then (49 :: (roundR (S ds) keep.toNat false).1, true)
 else ((roundR (S ds) keep.toNat false).1, false)
theorem rowL_dg {ds : List UInt8} (h : Dg ds) (keep : Int) : Dg (rowL ds keep).1 := by
 unfold rowL; split
 · exact dg_nil
 split
 · exact dg_append.2 ⟨h, dg_rep _⟩
 split
 · exact dg_cons.2 ⟨by decide, roundR_dg h _ _⟩
 exact roundR_dg h _ _
theorem rowL_len {ds : List UInt8} (keep : Nat) : (rowL ds (keep : Int)).1.length = if (rowL ds (keep : Int)).2 = true then keep + 1 else keep := by
 unfold rowL; rw [if_neg (by omega), Int.toNat_natCast]; split
 · simp only [List.length_append, List.length_replicate, Bool.false_eq_true, if_false]; omega
 rename_i h; have hr := roundR_len (l := ds) (K := keep) (by omega) false; split
 · simp only [List.length_cons, hr, if_true]
 simp only [hr, Bool.false_eq_true, if_false]
theorem rowL_le {ds : List UInt8} (keep : Int) : (rowL ds keep).1.length ≤ keep.toNat + 1 := by
 by_cases h : keep < 0
 · unfold rowL; rw [if_pos h]; exact Nat.zero_le _
 obtain ⟨n, rfl⟩ : ∃ n : Nat, keep = (n : Int) := ⟨keep.toNat, by omega⟩; rw [rowL_len, Int.toNat_natCast]; split <;> omega
theorem row_tot {ds : List UInt8} (hd : Dg ds) (hl : ds.length ≤ 1048576) (keep : Int) (hk : keep ≤ 4194304) : Ev (fun k => fixed_row.f k (S ds) keep) (S (rowL ds keep).1, (rowL ds keep).2) := by
 unfold fixed_row.f; by_cases h0 : keep < 0
 · unfold rowL; rw [if_pos h0]; exact Ev.congr (fun k => if_pos h0) (Ev.now _)
 obtain ⟨n, rfl⟩ : ∃ n : Nat, keep = (n : Int) := ⟨keep.toNat, by omega⟩; have hR : Ev (fun k => numeral_Round.f k (S ds) (n : Int) false) (roundF (S ds) (n : Int) false) := by
  refine Ev.congr (fun k => ?_) (Ev.now _); unfold numeral_Round.f; rw [if_pos ⟨by rw [s_size]; omega, by omega⟩]
 by_cases hle : (ds.length : Int) ≤ (n : Int)
 ·
  obtain ⟨z, e1⟩ : ∃ z, roundF (S ds) (n : Int) false = (S ds, false, z) := by
   by_cases hsz : (S ds).size = 0
   · have hn : ds = [] := List.eq_nil_of_length_eq_zero (by rw [← s_size]; exact hsz); subst hn; exact ⟨30, by unfold roundF; rw [if_neg (by omega), if_pos hsz]⟩
   refine ⟨0, ?_⟩; unfold roundF; rw [if_neg (by omega), if_neg hsz, if_neg (by rw [dg_all hd]; decide), if_pos (by rw [s_size]; exact hle)]
  have e2 : rowL ds (n : Int) = (ds ++ List.replicate (n - ds.length) 48, false) := by
   unfold rowL; rw [if_neg (by omega), if_pos hle, Int.toNat_natCast]
  rw [e1] at hR; rw [e2]; have e3 : mx (wrap64 ((n : Int) - (ds.length : Int))) 0 = ((n - ds.length : Nat) : Int) := by
   rw [w64 (by omega) (by omega)]; unfold mx; split <;> omega
  refine Ev.congr (fun k => if_neg h0) (Evx.bindc (h := fun _ => some (S (ds ++ List.replicate (n - ds.length) 48), false)) hR (fun k => ?_) (Ev.now _)); simp only [s_size, e3]; rw [rep_tot _ _ (by omega), Option.bind_some, if_pos (by rw [s_size, List.length_replicate]; omega), if_neg (by decide), s_app]
 have e1 : roundF (S ds) (n : Int) false = (S (roundR (S ds) n false).1, (roundR (S ds) n false).2, 0) := by
  have hsz : (S ds).size ≠ 0 := by
   rw [s_size]; omega
  unfold roundF; rw [if_neg (by omega), if_neg hsz, if_neg (by rw [dg_all hd]; decide), if_neg (by rw [s_size]; exact hle), Int.toNat_natCast]
 have hr := roundR_len (l := ds) (K := n) (by omega) false; have e2 : rowL ds (n : Int) = if (roundR (S ds) n false).2 = true then (49 :: (roundR (S ds) n false).1, true) else ((roundR (S ds) n false).1, false) := by
  unfold rowL; rw [if_neg (by omega), if_neg hle, Int.toNat_natCast]
 rw [e1] at hR; rw [e2]; obtain ⟨p, hp⟩ : ∃ p, roundR (S ds) n false = p := ⟨_, rfl⟩; obtain ⟨t, c⟩ := p; rw [hp] at hR hr ⊢; simp only at hR hr ⊢; have e3 : mx (wrap64 ((n : Int) - (t.length : Int))) 0 = ((0 : Nat) : Int) := by
  rw [hr, w64 (by omega) (by omega)]; unfold mx; split <;> omega
 cases c with
 | true =>
  refine Ev.congr (fun k => if_neg h0) (Evx.bindc (h := fun _ => some (S (49 :: t), true)) hR (fun k => ?_) (Ev.now _)); simp only [s_size, e3]; rw [rep_tot _ _ (by omega), Option.bind_some, if_pos (by rw [s_size, List.length_replicate]; omega), if_pos trivial, s_app, if_pos (by rw [s_size, List.length_append, List.length_replicate]; omega), List.replicate_zero, List.append_nil]; have : (⟨#[49]⟩ : ByteArray) = S [49] := rfl; rw [this, s_app]; rfl
 | false =>
  refine Ev.congr (fun k => if_neg h0) (Evx.bindc (h := fun _ => some (S t, false)) hR (fun k => ?_) (Ev.now _)); simp only [s_size, e3]; rw [rep_tot _ _ (by omega), Option.bind_some, if_pos (by rw [s_size, List.length_replicate]; omega), if_neg (by decide), s_app, List.replicate_zero, List.append_nil]
/-- What Places answers of the digits and the exponent. -/
def placesT (ds : List UInt8) (x : Int) (n : Nat) : List UInt8 := if ds = [48] then [] else (rowL ds ((ds.length : Int) + x + (n : Int))).1
def placesU (ds : List UInt8) (x : Int) (n : Nat) : List UInt8 := if (placesT ds x n).length ≤ n then List.replicate (n + 1 - (placesT ds x n).length) 48 ++ placesT ds x n else placesT ds x n
def ahead (ds : List UInt8) (x : Int) (n : Nat) : List UInt8 := (placesU ds x n).take ((placesU ds x n).length - n)
def behind (ds : List UInt8) (x : Int) (n : Nat) : List UInt8 := (placesU ds x n).drop ((placesU ds x n).length - n)
theorem placesT_dg {ds : List UInt8} (h : Dg ds) (x : Int) (n : Nat) : Dg (placesT ds x n) := by
 unfold placesT; split
 · exact dg_nil
 exact rowL_dg h _
theorem placesU_dg {ds : List UInt8} (h : Dg ds) (x : Int) (n : Nat) : Dg (placesU ds x n) := by
 unfold placesU; split
 · exact dg_append.2 ⟨dg_rep _, placesT_dg h _ _⟩
 exact placesT_dg h _ _
theorem placesU_gt (ds : List UInt8) (x : Int) (n : Nat) : n < (placesU ds x n).length := by
 unfold placesU; split
 · rw [List.length_append, List.length_replicate]; omega
 omega
theorem placesU_le {ds : List UInt8} {x : Int} {n : Nat} (hl : ds.length ≤ 1048576) (hx : x ≤ 2097152) : (placesU ds x n).length ≤ 3145730 + n := by
 have hT : (placesT ds x n).length ≤ 3145729 + n := by
  unfold placesT; split
  · exact Nat.zero_le _
  have := rowL_le (ds := ds) ((ds.length : Int) + x + (n : Int)); omega
 unfold placesU; split
 · rw [List.length_append, List.length_replicate]; omega
 omega
theorem ahead_dg {ds : List UInt8} (h : Dg ds) (x : Int) (n : Nat) : Dg (ahead ds x n) := dg_take (placesU_dg h x n) _
theorem behind_dg {ds : List UInt8} (h : Dg ds) (x : Int) (n : Nat) : Dg (behind ds x n) := dg_drop (placesU_dg h x n) _
theorem behind_len (ds : List UInt8) (x : Int) (n : Nat) : (behind ds x n).length = n := by
 have := placesU_gt ds x n; unfold behind; rw [List.length_drop]; omega
theorem ahead_len (ds : List UInt8) (x : Int) (n : Nat) : (ahead ds x n).length = (placesU ds x n).length - n := by
 unfold ahead; rw [List.length_take]; omega
theorem Places_tot {d : Int} {neg : Bool} {ds : List UInt8} {x : Int} (hA : Ev (fun k => fixed_All.f k d) (neg, S ds, x, 0)) (hD : Dec neg ds x) (n : Nat) (hn : n ≤ 4200) : Ev (fun k => fixed_Places.f k d (n : Int)) (S (ahead ds x n), S (behind ds x n), 0) := by
 have hl := hD.len; have hx1 := hD.lo; have hx2 := hD.hi; have hb : (decide ((n : Int) > 4200)) = false := decide_eq_false (by omega); have hUg := placesU_gt ds x n; have hUl := placesU_le (ds := ds) (x := x) (n := n) (by omega) hx2; have hfin : ∀ U : List UInt8, U = placesU ds x n → (if 0 ≤ wrap64 ((U.length : Int) - (n : Int)) then (if wrap64 ((U.length : Int) - (n : Int)) ≤ (U.length : Int) then (some ((S U).extract 0 (wrap64 ((U.length : Int) - (n : Int))).toNat, (S U).extract (wrap64 ((U.length : Int) - (n : Int))).toNat U.length, (0 : Int))) else none) else none) = some (S (ahead ds x n), S (behind ds x n), 0) := by
  intro U hU; have e : wrap64 ((U.length : Int) - (n : Int)) = ((U.length - n : Nat) : Int) := by rw [hU, w64 (by omega) (by omega)]; omega
  rw [e, if_pos (by omega), if_pos (by omega), Int.toNat_natCast, s_take, s_drop2, hU]; rfl
 unfold fixed_Places.f; refine Evx.bindc hA (fun k => by rw [if_pos rfl, if_neg (by omega), hb]) ?_; refine Ev.step (fun k => by rw [fixed_Places.j0, if_neg (by decide)]) ?_; have e1 : wrap64 (wrap64 (((S ds).size : Int) + x) + (n : Int)) = (ds.length : Int) + x + (n : Int) := by rw [s_size, w64 (x := (ds.length : Int) + x) (by omega) (by omega), w64 (by omega) (by omega)]
 obtain ⟨rw', hrw⟩ : ∃ p, rowL ds ((ds.length : Int) + x + (n : Int)) = p := ⟨_, rfl⟩; have hrow := row_tot hD.dg (by omega) ((ds.length : Int) + x + (n : Int)) (by omega); rw [hrw] at hrow; simp only [e1]; refine Evx.bindc (h := fun _ => some (S (ahead ds x n), S (behind ds x n), 0)) hrow (fun k => ?_) (Ev.now _); simp only [s_list, s_size]; by_cases h48 : ds = [48]
 ·
  have hT : placesT ds x n = [] := by unfold placesT; rw [if_pos h48]
  have hU : List.replicate (n + 1) 48 = placesU ds x n := by
   unfold placesU; rw [hT]; simp
  have e2 : wrap64 (wrap64 ((n : Int) + 1)) = ((n + 1 : Nat) : Int) := by rw [w64 (x := (n : Int) + 1) (by omega) (by omega), w64 (by omega) (by omega)]; omega
  rw [if_pos h48, if_pos (by omega), e2, rep_tot _ _ (by omega), Option.bind_some, if_pos (by rw [s_size, List.length_replicate]; omega)]; simp only [s_size]; exact hfin _ hU
 have hT : placesT ds x n = rw'.1 := by unfold placesT; rw [if_neg h48, hrw]
 rw [if_neg h48]; by_cases hle : (rw'.1.length : Int) ≤ (n : Int)
 ·
  have hU : List.replicate (n + 1 - rw'.1.length) 48 ++ rw'.1 = placesU ds x n := by
   unfold placesU; rw [hT, if_pos (by omega)]
  have e2 : wrap64 (wrap64 ((n : Int) + 1) - (rw'.1.length : Int)) = ((n + 1 - rw'.1.length : Nat) : Int) := by rw [w64 (x := (n : Int) + 1) (by omega) (by omega), w64 (by omega) (by omega)]; omega
  rw [if_pos hle, e2, rep_tot _ _ (by omega), Option.bind_some, if_pos (by rw [s_size, List.length_replicate]; omega), s_app]; simp only [s_size]; exact hfin _ hU
 have hU : rw'.1 = placesU ds x n := by
  unfold placesU; rw [hT, if_neg (by omega)]
 rw [if_neg hle]; exact hfin _ hU
/-- What Figures answers of the digits and the exponent. -/
def figD (ds : List UInt8) (n : Nat) : List UInt8 := if ds = [48] then List.replicate n 48 else (rowL ds (n : Int)).1.take n
def figX (ds : List UInt8) (x : Int) (n : Nat) : Int := if ds = [48] then 0 else if (rowL ds (n : Int)).2 = true then x + (ds.length : Int) else x + (ds.length : Int) - 1
theorem figD_dg {ds : List UInt8} (h : Dg ds) (n : Nat) : Dg (figD ds n) := by
 unfold figD; split
 · exact dg_rep _
 exact dg_take (rowL_dg h _) _
theorem figD_len (ds : List UInt8) (n : Nat) : (figD ds n).length = n := by
 unfold figD; split
 · rw [List.length_replicate]
 rw [List.length_take, rowL_len]; split <;> omega
theorem figX_rng {neg : Bool} {ds : List UInt8} {x : Int} (hD : Dec neg ds x) (n : Nat) : -4194304 ≤ figX ds x n ∧ figX ds x n ≤ 4194304 := by
 have hl := hD.len; have hx1 := hD.lo; have hx2 := hD.hi; unfold figX; split
 · omega
 split <;> omega
theorem Figures_tot {d : Int} {neg : Bool} {ds : List UInt8} {x : Int} (hA : Ev (fun k => fixed_All.f k d) (neg, S ds, x, 0)) (hD : Dec neg ds x) (n : Nat) (h1 : 1 ≤ n) (hn : n ≤ 4200) : Ev (fun k => fixed_Figures.f k d (n : Int)) (S (figD ds n), figX ds x n, 0) := by
 have hl := hD.len; have hx1 := hD.lo; have hx2 := hD.hi; have hb : (decide ((n : Int) > 4200)) = false := decide_eq_false (by omega); unfold fixed_Figures.f; refine Evx.bindc hA (fun k => by rw [if_pos rfl, if_neg (by omega), hb]) ?_; refine Ev.step (fun k => by rw [fixed_Figures.j0, if_neg (by decide)]) ?_; simp only [s_list, s_size]; by_cases h48 : ds = [48]
 ·
  have e1 : figD ds n = List.replicate n 48 := by unfold figD; rw [if_pos h48]
  have e2 : figX ds x n = 0 := by unfold figX; rw [if_pos h48]
  rw [e1, e2]; refine Ev.congr (f := fun _ => some (S (List.replicate n 48), 0, 0)) (fun k => ?_) (Ev.now _); rw [if_pos h48, rep_tot _ _ (by omega), Option.bind_some]
 obtain ⟨p, hp⟩ : ∃ p, rowL ds (n : Int) = p := ⟨_, rfl⟩; have hrow := row_tot hD.dg (by omega) (n : Int) (by omega); have hlen := rowL_len (ds := ds) n; rw [hp] at hrow hlen; have e0 : wrap64 (wrap64 (x + (ds.length : Int)) - 1) = x + (ds.length : Int) - 1 := by rw [w64 (x := x + (ds.length : Int)) (by omega) (by omega), w64 (by omega) (by omega)]
 have e3 : wrap64 (x + (ds.length : Int) - 1 + 1) = x + (ds.length : Int) := by rw [w64 (by omega) (by omega)]; omega
 obtain ⟨t, c⟩ := p; simp only at hlen; have e1 : figD ds n = t.take n := by unfold figD; rw [if_neg h48, hp]
 have e2 : figX ds x n = if c = true then x + (ds.length : Int) else x + (ds.length : Int) - 1 := by unfold figX; rw [if_neg h48, hp]
 rw [e1, e2]; refine Ev.congr (fun k => by rw [if_neg h48]) ?_; cases c with
 | true =>
  rw [if_pos rfl] at hlen; refine Evx.bindc (h := fun _ => some (S (t.take n), x + (ds.length : Int), 0)) hrow (fun k => ?_) (Ev.now _); simp only [s_size, if_true, e0, e3, hlen]; rw [if_pos (by omega), if_pos (by omega), Int.toNat_natCast, s_take]
 | false =>
  rw [if_neg (by decide)] at hlen; refine Evx.bindc (h := fun _ => some (S (t.take n), x + (ds.length : Int) - 1, 0)) hrow (fun k => ?_) (Ev.now _); simp only [e0, Bool.false_eq_true, if_false]; rw [List.take_of_length_le (by omega)]
end Go.Proofs.YtgbjojokjekmhaaGreatDoor.Num
