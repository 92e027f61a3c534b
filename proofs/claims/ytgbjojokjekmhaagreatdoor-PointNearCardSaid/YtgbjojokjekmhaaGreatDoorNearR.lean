/- A row of digits rounded lies within half a unit of its last place, ties go to even; plain, no program; conditions: a row of digits. -/
import Derived.Test.YtgbjojokjekmhaaGreatDoorTxtP
namespace Go.Proofs.YtgbjojokjekmhaaGreatDoor.Num
open Go.RowKit Go.Proofs.YtgbjojokjekmhaaGreatDoorW.PrintWords
set_option linter.unusedVariables false
set_option linter.unusedSimpArgs false

/-- A row of digits, the first the highest, as a number. -/
def iv (l : List Int) : Int := l.foldl (fun a b => a * 10 + b) 0
def Dgi (l : List Int) : Prop := ∀ x ∈ l, 0 ≤ x ∧ x ≤ 9
def ten (n : Nat) : Int := ((10 ^ n : Nat) : Int)
theorem ten_pos (n : Nat) : 0 < ten n := by unfold ten; have := Nat.pow_pos (n := n) (show 0 < 10 by decide); omega
theorem ten_zero : ten 0 = 1 := rfl
theorem ten_succ (n : Nat) : ten (n + 1) = ten n * 10 := by unfold ten; rw [Nat.pow_succ]; push_cast; rfl
theorem ten_add (a b : Nat) : ten (a + b) = ten a * ten b := by unfold ten; rw [Nat.pow_add]; push_cast; rfl
theorem iv_from (l : List Int) : ∀ a : Int, l.foldl (fun a b => a * 10 + b) a = a * ten l.length + iv l := by
 unfold iv; induction l with
 | nil => intro a; simp [ten_zero]
 | cons x l ih =>
  intro a; rw [List.foldl_cons, List.foldl_cons, ih (a * 10 + x), ih (0 * 10 + x), List.length_cons, ten_succ, Int.zero_mul, Int.zero_add, Int.add_mul, Int.mul_assoc, Int.mul_comm 10 (ten l.length)]; omega
theorem iv_append (a b : List Int) : iv (a ++ b) = iv a * ten b.length + iv b := by
 have : iv (a ++ b) = b.foldl (fun a b => a * 10 + b) (iv a) := List.foldl_append; rw [this, iv_from]
theorem iv_cons (x : Int) (l : List Int) : iv (x :: l) = x * ten l.length + iv l := by
 have := iv_append [x] l; have e : iv [x] = x := by show 0 * 10 + x = x; omega
 rw [e] at this; exact this
theorem iv_snoc (l : List Int) (x : Int) : iv (l ++ [x]) = iv l * 10 + x := by
 rw [iv_append]; have e : iv [x] = x := by show 0 * 10 + x = x; omega
 have t : ten [x].length = 10 := rfl; rw [e, t]
theorem dgi_cons {x : Int} {l : List Int} : Dgi (x :: l) ↔ (0 ≤ x ∧ x ≤ 9) ∧ Dgi l := by
 unfold Dgi; constructor
 · intro h; exact ⟨h x (List.mem_cons_self ..), fun y hy => h y (List.mem_cons_of_mem _ hy)⟩
 rintro ⟨h1, h2⟩ y hy; rcases List.mem_cons.1 hy with rfl | hy
 · exact h1
 exact h2 y hy
theorem dgi_append {a b : List Int} : Dgi (a ++ b) ↔ Dgi a ∧ Dgi b := by
 unfold Dgi; constructor
 · intro h; exact ⟨fun x hx => h x (List.mem_append_left _ hx), fun x hx => h x (List.mem_append_right _ hx)⟩
 rintro ⟨h1, h2⟩ x hx; rcases List.mem_append.1 hx with hx | hx
 · exact h1 x hx
 exact h2 x hx
theorem dgi_rep (n : Nat) : Dgi (List.replicate n 0) := fun x hx => by
 obtain ⟨_, rfl⟩ := List.mem_replicate.1 hx
 omega
theorem iv_rng {l : List Int} (h : Dgi l) : 0 ≤ iv l ∧ iv l < ten l.length := by
 induction l with
 | nil => exact ⟨Int.le_refl _, by decide⟩
 | cons x l ih =>
  obtain ⟨hx, hl⟩ := dgi_cons.1 h; obtain ⟨h1, h2⟩ := ih hl; have hp := ten_pos l.length; have hm : x * ten l.length ≤ 9 * ten l.length := Int.mul_le_mul_of_nonneg_right hx.2 (by omega); have hm0 : 0 ≤ x * ten l.length := Int.mul_nonneg hx.1 (by omega); rw [iv_cons, List.length_cons, ten_succ]; omega
theorem iv_rep (n : Nat) : iv (List.replicate n 0) = 0 := by
 induction n with
 | zero => rfl
 | succ n ih => rw [List.replicate_succ, iv_cons, ih]; omega
/-- Rows of one length stand as their numbers. -/
theorem iv_lt_cons {x y : Int} {a b : List Int} (hl : a.length = b.length) (ha : Dgi (x :: a)) (hb : Dgi (y :: b)) : (iv (x :: a) < iv (y :: b)) ↔ (x < y ∨ (x = y ∧ iv a < iv b)) := by
 obtain ⟨hx, ha2⟩ := dgi_cons.1 ha; obtain ⟨hy, hb2⟩ := dgi_cons.1 hb; obtain ⟨a1, a2⟩ := iv_rng ha2; obtain ⟨b1, b2⟩ := iv_rng hb2; have hp := ten_pos b.length; rw [iv_cons, iv_cons]; rw [hl] at a2 ⊢; obtain ⟨P, hP⟩ : ∃ P, ten b.length = P := ⟨_, rfl⟩; rw [hP] at a2 b2 hp ⊢; have key : ∀ u v : Int, u < v → u * P + P ≤ v * P := fun u v h => by
  have := Int.mul_le_mul_of_nonneg_right (show u + 1 ≤ v by omega) (show 0 ≤ P by omega); rw [Int.add_mul, Int.one_mul] at this; exact this
 constructor
 ·
  intro h; rcases Int.lt_trichotomy x y with c | c | c
  · exact .inl c
  · subst c; exact .inr ⟨rfl, by omega⟩
  have := key y x c; omega
 rintro (c | ⟨rfl, c⟩)
 · have := key x y c; omega
 omega
end Go.Proofs.YtgbjojokjekmhaaGreatDoor.Num
namespace Go.Proofs.YtgbjojokjekmhaaGreatDoor.Num
open Go.RowKit Go.Proofs.YtgbjojokjekmhaaGreatDoorW.PrintWords
set_option linter.unusedVariables false
set_option linter.unusedSimpArgs false

theorem nums_list (a : List Int) : (strOfNums a).toList = a.map (fun i => UInt8.ofNat i.toNat) := by
 rw [ByteArray.toList_eq]; unfold strOfNums; simp
theorem u8_lt {x y : Int} (hx : 0 ≤ x ∧ x ≤ 9) (hy : 0 ≤ y ∧ y ≤ 9) : (UInt8.ofNat x.toNat < UInt8.ofNat y.toNat ↔ x < y) ∧ ((UInt8.ofNat x.toNat == UInt8.ofNat y.toNat) = decide (x = y)) := by
 have h1 : (UInt8.ofNat x.toNat).toNat = x.toNat := by rw [UInt8.toNat_ofNat']; omega
 have h2 : (UInt8.ofNat y.toNat).toNat = y.toNat := by rw [UInt8.toNat_ofNat']; omega
 refine ⟨?_, ?_⟩
 · rw [UInt8.lt_iff_toNat_lt, h1, h2]; omega
 by_cases c : x = y
 · rw [c, decide_eq_true rfl, beq_self_eq_true]
 rw [decide_eq_false c]; refine beq_eq_false_iff_ne.2 fun h => c ?_
 have := congrArg UInt8.toNat h; rw [h1, h2] at this; omega
theorem less_iv : ∀ (a b : List Int), a.length = b.length → Dgi a → Dgi b → Op.bytesLess (strOfNums a).toList (strOfNums b).toList = decide (iv a < iv b) := by
 intro a; induction a with
 | nil =>
  intro b hl _ _; cases b with
  | nil => rw [nums_list]; rfl
  | cons y b => cases hl
 | cons x a ih =>
  intro b hl ha hb; cases b with
  | nil => cases hl
  | cons y b =>
   have hl2 : a.length = b.length := by simpa using hl
   obtain ⟨hx, ha2⟩ := dgi_cons.1 ha; obtain ⟨hy, hb2⟩ := dgi_cons.1 hb; have h := ih b hl2 ha2 hb2; rw [nums_list, nums_list] at h ⊢; obtain ⟨u1, u2⟩ := u8_lt hx hy; rw [List.map_cons, List.map_cons, Op.bytesLess, h, u2]; have hi := iv_lt_cons hl2 ha hb; by_cases c : iv (x :: a) < iv (y :: b)
   ·
    rw [decide_eq_true c]; rcases hi.1 c with c1 | ⟨c1, c2⟩
    · rw [decide_eq_true (u1.2 c1)]; rfl
    rw [decide_eq_true c1, decide_eq_true c2, Bool.and_self, Bool.or_true]
   rw [decide_eq_false c]; have n1 : ¬ x < y := fun q => c (hi.2 (.inl q))
   rw [decide_eq_false (fun q => n1 (u1.1 q)), Bool.false_or]; by_cases c1 : x = y
   · rw [decide_eq_false (fun q => c (hi.2 (.inr ⟨c1, q⟩))), Bool.and_false]
   rw [decide_eq_false c1, Bool.false_and]
/-! ### letters and digits -/
def li (l : List UInt8) : List Int := l.map (fun b => (b.toNat : Int) - 48)
theorem li_len (l : List UInt8) : (li l).length = l.length := List.length_map ..
theorem li_app (a b : List UInt8) : li (a ++ b) = li a ++ li b := List.map_append
theorem li_dg {l : List UInt8} (h : Dg l) : Dgi (li l) := by
 intro x hx; obtain ⟨b, hb, rfl⟩ := List.mem_map.1 hx; have := h b hb; omega
theorem li_rep (n : Nat) : li (List.replicate n 48) = List.replicate n 0 := by
 unfold li; rw [List.map_replicate]; rfl
/-- A row of letters as a number. -/
def dv (l : List UInt8) : Int := iv (li l)
theorem dv_app (a b : List UInt8) : dv (a ++ b) = dv a * ten b.length + dv b := by
 unfold dv; rw [li_app, iv_append, li_len]
theorem dv_rep (n : Nat) : dv (List.replicate n 48) = 0 := by
 unfold dv; rw [li_rep, iv_rep]
theorem dv_rng {l : List UInt8} (h : Dg l) : 0 ≤ dv l ∧ dv l < ten l.length := by
 have := iv_rng (li_dg h); rw [li_len] at this; exact this
theorem dv_one (b : UInt8) : dv [b] = (b.toNat : Int) - 48 := by
 show 0 * 10 + ((b.toNat : Int) - 48) = _; omega
/-! ### one more at the last place -/
theorem dv_nines {l : List UInt8} (h : ∀ x ∈ l, x = 57) : dv l + 1 = ten l.length := by
 induction l with
 | nil => rfl
 | cons x r ih =>
  have hx : x = 57 := h x (List.mem_cons_self ..); have := ih (fun y hy => h y (List.mem_cons_of_mem _ hy)); have e := dv_app [x] r; have e2 : dv (x :: r) = dv [x] * ten r.length + dv r := e; have e3 : ((57 : UInt8).toNat : Int) - 48 = 9 := rfl; rw [e2, dv_one, hx, e3, List.length_cons, ten_succ]; omega
end Go.Proofs.YtgbjojokjekmhaaGreatDoor.Num
namespace Go.Proofs.YtgbjojokjekmhaaGreatDoor.Num
open Go.RowKit Go.Proofs.YtgbjojokjekmhaaGreatDoorW.PrintWords
set_option linter.unusedVariables false
set_option linter.unusedSimpArgs false

theorem nines_split (l : List UInt8) : ∃ r, l = r ++ List.replicate (nines l) 57 ∧ r.length = l.length - nines l ∧ (∀ u y, r = u ++ [y] → y ≠ 57) := by
 have h := List.takeWhile_append_dropWhile (p := fun c : UInt8 => c == 57) (l := l.reverse); have ha : (l.reverse.takeWhile (fun c : UInt8 => c == 57)).all (fun c => c == 57) = true := List.all_takeWhile; rw [List.all_eq_true] at ha; have hn : nines l = (l.reverse.takeWhile (fun c : UInt8 => c == 57)).length := rfl; obtain ⟨T, hT⟩ : ∃ T, l.reverse.takeWhile (fun c : UInt8 => c == 57) = T := ⟨_, rfl⟩; obtain ⟨D, hD⟩ : ∃ D, l.reverse.dropWhile (fun c : UInt8 => c == 57) = D := ⟨_, rfl⟩; rw [hT] at h ha hn; rw [hD] at h; have hr : T = List.replicate T.length 57 := List.eq_replicate_iff.2 ⟨rfl, fun b hb => by simpa using ha b hb⟩; have hrev : T.reverse = List.replicate T.length 57 := by
  conv => lhs; rw [hr]
  exact List.reverse_replicate
 have h2 := congrArg List.reverse h; rw [List.reverse_append, List.reverse_reverse, hrev] at h2; have key : ∀ (q : List UInt8) (y : UInt8) (s : List UInt8), q.dropWhile (fun c => c == 57) = y :: s → y ≠ 57 := by
  intro q; induction q with
  | nil => intro y s h; cases h
  | cons x q ih =>
   intro y s h; by_cases hx : x = 57
   · subst hx; rw [List.dropWhile_cons_of_pos (by decide)] at h; exact ih y s h
   rw [List.dropWhile_cons_of_neg (by simpa using hx)] at h; injection h with h1 _; rw [← h1]; exact hx
 refine ⟨D.reverse, by rw [hn]; exact h2.symm, ?_, ?_⟩
 · have := congrArg List.length h2; rw [List.length_append, List.length_replicate] at this; omega
 intro u y hu; have h3 := congrArg List.reverse hu; rw [List.reverse_reverse, List.reverse_append] at h3; exact key l.reverse y u.reverse (by rw [hD]; exact h3)
theorem bump_val {l : List UInt8} (h : Dg l) : (if (bump l).2 = true then ten l.length else 0) + dv (bump l).1 = dv l + 1 := by
 by_cases hn : nines l = l.length
 ·
  have hb : bump l = (List.replicate l.length 48, true) := by unfold bump; rw [if_pos hn]
  rw [hb, if_pos rfl, dv_rep]; have h9 : ∀ x ∈ l, x = 57 := by
   obtain ⟨r, hr, hl, -⟩ := nines_split l; have r0 : r = [] := List.eq_nil_of_length_eq_zero (by omega); rw [r0, List.nil_append] at hr; intro x hx; rw [hr] at hx; exact (List.mem_replicate.1 hx).2
  rw [dv_nines h9]; omega
 obtain ⟨r, hr, hl, hy⟩ := nines_split l; have hnl := nines_le l; obtain ⟨z, hz⟩ : ∃ z, nines l = z := ⟨_, rfl⟩; have hrne : r ≠ [] := fun h0 => by rw [h0] at hl; simp at hl; omega
 obtain ⟨u, y, hu⟩ : ∃ u y, r = u ++ [y] := ⟨r.dropLast, r.getLast hrne, (List.dropLast_concat_getLast hrne).symm⟩; have hy9 := hy u y hu; rw [hz] at hr hl hn; have hrl : r.length = u.length + 1 := by rw [hu, List.length_append]; rfl
 have hlz : l.length = u.length + 1 + z := by omega
 have hj : l.length - z - 1 = u.length := by omega
 have ht : l.take u.length = u := by rw [hr, hu, List.append_assoc, List.take_left]
 have hg : l.getD u.length 0 = y := by
  rw [List.getD_eq_getElem?_getD, hr, hu, List.append_assoc, List.getElem?_append_right (Nat.le_refl _), Nat.sub_self]; rfl
 have hb : bump l = (u ++ [y + 1] ++ List.replicate z 48, false) := by
  unfold bump; rw [hz, if_neg hn, hj, ht, hg]
 have hyd : 48 ≤ y.toNat ∧ y.toNat ≤ 57 := h y (by rw [hr, hu]; simp); have hy8 : y.toNat ≠ 57 := fun e => hy9 (UInt8.toNat_inj.1 e)
 have hy1 : ((y + 1).toNat : Int) = (y.toNat : Int) + 1 := by
  rw [UInt8.toNat_add]; have : (y.toNat + (1 : UInt8).toNat) % 2 ^ 8 = y.toNat + 1 := by
   show (y.toNat + 1) % 256 = _; omega
  rw [this]; omega
 have hnz : dv (List.replicate z 57) + 1 = ten z := by
  have := dv_nines (l := List.replicate z 57) (fun x hx => (List.mem_replicate.1 hx).2); rw [List.length_replicate] at this; exact this
 rw [hb, if_neg (fun h => Bool.noConfusion h)]; have e1 : dv l = (dv u * 10 + ((y.toNat : Int) - 48)) * ten z + dv (List.replicate z 57) := by
  conv => lhs; rw [hr, hu, dv_app, dv_app, dv_one, List.length_replicate]
  rfl
 have e2 : dv (u ++ [y + 1] ++ List.replicate z 48) = (dv u * 10 + (((y.toNat : Int) + 1) - 48)) * ten z + 0 := by
  rw [dv_app, dv_app, dv_one, List.length_replicate, dv_rep, hy1]; rfl
 have e3 : (dv u * 10 + (((y.toNat : Int) + 1) - 48)) * ten z = (dv u * 10 + ((y.toNat : Int) - 48)) * ten z + ten z := by
  rw [show dv u * 10 + (((y.toNat : Int) + 1) - 48) = (dv u * 10 + ((y.toNat : Int) - 48)) + 1 by omega, Int.add_mul, Int.one_mul]
 show 0 + dv (u ++ [y + 1] ++ List.replicate z 48) = dv l + 1; rw [e1, e2, e3]; omega
theorem dv_cons (x : UInt8) (r : List UInt8) : dv (x :: r) = ((x.toNat : Int) - 48) * ten r.length + dv r := by
 have := dv_app [x] r; rw [dv_one] at this; exact this
theorem dv_zero {l : List UInt8} (h : Dg l) : dv l = 0 ↔ ∀ x ∈ l, x = 48 := by
 induction l with
 | nil => exact ⟨(fun _ x hx => by cases hx), fun _ => rfl⟩
 | cons x r ih =>
  obtain ⟨hx, hr⟩ := dg_cons.1 h; have h1 := dv_rng hr; have hp := ten_pos r.length; have h2 : 0 ≤ ((x.toNat : Int) - 48) * ten r.length := Int.mul_nonneg (by omega) (by omega); rw [dv_cons]; constructor
  ·
   intro h0; have h3 : dv r = 0 := by omega
   have h4 : ((x.toNat : Int) - 48) * ten r.length = 0 := by omega
   have h5 : (x.toNat : Int) - 48 = 0 := by
    rcases Int.mul_eq_zero.1 h4 with h | h
    · exact h
    omega
   intro y hy; rcases List.mem_cons.1 hy with rfl | hy
   · exact UInt8.toNat_inj.1 (by show y.toNat = 48; omega)
   exact (ih hr).1 h3 y hy
  intro hall; have h5 : x = 48 := hall x (List.mem_cons_self ..); have h6 : ((48 : UInt8).toNat : Int) - 48 = 0 := rfl; rw [(ih hr).2 (fun y hy => hall y (List.mem_cons_of_mem _ hy)), h5, h6]; omega
theorem dw_nil (l : List UInt8) : l.dropWhile (fun x => x == 48) = [] ↔ ∀ x ∈ l, x = 48 := by
 induction l with
 | nil => exact ⟨(fun _ x hx => by cases hx), fun _ => rfl⟩
 | cons x r ih =>
  by_cases hx : x = 48
  ·
   subst hx; rw [List.dropWhile_cons_of_pos (by decide), ih]; constructor
   ·
    intro h y hy; rcases List.mem_cons.1 hy with rfl | hy
    · rfl
    exact h y hy
   intro h y hy; exact h y (List.mem_cons_of_mem _ hy)
  rw [List.dropWhile_cons_of_neg (by simpa using hx)]; exact ⟨(fun h => by cases h), fun h => absurd (h x (List.mem_cons_self ..)) hx⟩
theorem trimB_nil (l : List UInt8) : (Lib.trimB l 48).isEmpty = true ↔ ∀ x ∈ l, x = 48 := by
 have key : ∀ (q : List UInt8) (y : UInt8) (s : List UInt8), q.dropWhile (fun c => c == 48) = y :: s → y ≠ 48 := by
  intro q; induction q with
  | nil => intro y s h; cases h
  | cons x q ih =>
   intro y s h; by_cases hx : x = 48
   · subst hx; rw [List.dropWhile_cons_of_pos (by decide)] at h; exact ih y s h
   rw [List.dropWhile_cons_of_neg (by simpa using hx)] at h; injection h with h1 _; rw [← h1]; exact hx
 unfold Lib.trimB Lib.trimLeftB Lib.trimRightB; rw [List.isEmpty_iff]; constructor
 ·
  intro h; have h' := (dw_nil _).1 h; cases hq : l.reverse.dropWhile (fun x => x == 48) with
  | nil =>
   intro x hx; exact (dw_nil _).1 hq x (List.mem_reverse.2 hx)
  | cons y s =>
   have h1 := key _ y s hq; exact absurd (h' y (by rw [hq]; simp)) h1
 intro h; have hq : l.reverse.dropWhile (fun x => x == 48) = [] := (dw_nil _).2 fun x hx => h x (List.mem_reverse.1 hx)
 rw [hq]; rfl
theorem dv_odd {ds : List UInt8} (h : Dg ds) {K : Nat} (hK : K ≤ ds.length) : (oddR (S ds) K = true) ↔ dv (ds.take K) % 2 = 1 := by
 have e0 : (S ds).data.toList = ds := rfl; unfold oddR; rw [e0]; rcases Nat.eq_zero_or_pos K with rfl | hp
 · rw [List.take_zero]; simp; decide
 obtain ⟨k, rfl⟩ : ∃ k, K = k + 1 := ⟨K - 1, by omega⟩; have hk : k < ds.length := by omega
 have hb := h _ (List.getElem_mem hk); have hg : ds.getD (k + 1 - 1) 0 = ds[k] := by rw [List.getD_eq_getElem?_getD, Nat.add_sub_cancel, List.getElem?_eq_getElem hk]; rfl
 rw [List.take_succ_eq_append_getElem hk, dv_app, dv_one, hg]; have t1 : ten [ds[k]].length = 10 := rfl; rw [t1, decide_eq_true (Nat.succ_pos k), Bool.true_and, decide_eq_true_iff]; obtain ⟨b, hbb⟩ : ∃ b, ds[k] = b := ⟨_, rfl⟩; rw [hbb] at hb ⊢; omega
/-- Rounded digits lie within half a unit; at just a half they are even. -/
theorem round_near {ds : List UInt8} (h : Dg ds) {K : Nat} (hK : K < ds.length) {V : Int} (hV : V = (if (roundR (S ds) K false).2 = true then ten K else 0) + dv (roundR (S ds) K false).1) :
  0 ≤ V ∧ 2 * (V * ten (ds.length - K) - dv ds) ≤ ten (ds.length - K) ∧ 2 * (dv ds - V * ten (ds.length - K)) ≤ ten (ds.length - K) ∧ ((2 * (V * ten (ds.length - K) - dv ds) = ten (ds.length - K) ∨ 2 * (dv ds - V * ten (ds.length - K)) = ten (ds.length - K)) → V % 2 = 0) := by
 obtain ⟨r, hr⟩ : ∃ r, ds.length - K = r + 1 := ⟨ds.length - K - 1, by omega⟩; have hsplit : ds = ds.take K ++ (ds[K] :: ds.drop (K + 1)) := by rw [← List.drop_eq_getElem_cons hK, List.take_append_drop]
 have hrl : (ds.drop (K + 1)).length = r := by rw [List.length_drop]; omega
 have hdd := h _ (List.getElem_mem hK); have hrd := dg_drop h (K + 1); obtain ⟨R, hR⟩ : ∃ R, dv (ds.drop (K + 1)) = R := ⟨_, rfl⟩; have hRr := dv_rng hrd; have hR0 := dv_zero hrd; rw [hR, hrl] at hRr; rw [hR] at hR0; have htk := dg_take h K; have hA0 := dv_rng htk; have hodd := dv_odd h (Nat.le_of_lt hK); obtain ⟨A, hA⟩ : ∃ A, dv (ds.take K) = A := ⟨_, rfl⟩; have hval : dv ds = A * ten (r + 1) + (((ds[K].toNat : Int) - 48) * ten r + R) := by
  conv => lhs; rw [hsplit, dv_app, dv_cons, hrl, hR, hA, List.length_cons, hrl]
 have hbv := bump_val htk; rw [hA] at hA0 hodd hbv; have htl : (ds.take K).length = K := List.length_take_of_le (Nat.le_of_lt hK); rw [htl] at hbv; have hrest : restR (S ds) K false = false ↔ R = 0 := by
  unfold restR; have e0 : (S ds).data.toList = ds := rfl; rw [Bool.false_or, e0, hR0, ← trimB_nil]; cases (Lib.trimB (ds.drop (K + 1)) 48).isEmpty <;> simp
 have hg : (S ds).data.toList.getD K 0 = ds[K] := by
  have e0 : (S ds).data.toList = ds := rfl; rw [e0, List.getD_eq_getElem?_getD, List.getElem?_eq_getElem hK]; rfl
 obtain ⟨b, hb⟩ : ∃ b, ds[K] = b := ⟨_, rfl⟩; rw [hb] at hdd hval hg; have hp := ten_pos r; rw [hr, ten_succ] at *; obtain ⟨P, hP⟩ : ∃ P, ten r = P := ⟨_, rfl⟩; rw [hP] at hval hRr hp ⊢; obtain ⟨B, hB⟩ : ∃ B : Int, B = (b.toNat : Int) - 48 := ⟨_, rfl⟩; have hB9 : 0 ≤ B ∧ B ≤ 9 := by omega
 rw [← hB] at hval; have mulP : ∀ u v : Int, u ≤ v → u * P ≤ v * P := fun u v q => Int.mul_le_mul_of_nonneg_right q (by omega)
 cases hd : downR (S ds) K false with
 | true =>
  have hrr : roundR (S ds) K false = (ds.take K, false) := by unfold roundR; rw [if_pos hd]
  have hVA : V = A := by rw [hV, hrr, hA]; simp
  subst hVA; have hcase : B ≤ 4 ∨ (B = 5 ∧ R = 0 ∧ V % 2 = 0) := by
   unfold downR at hd; rw [hg, Bool.or_eq_true, decide_eq_true_iff, Bool.and_eq_true, Bool.and_eq_true, decide_eq_true_iff] at hd; rcases hd with q | ⟨⟨q1, q2⟩, q3⟩
   · exact .inl (by omega)
   refine .inr ⟨by omega, hrest.1 (by simpa using q2), ?_⟩; have : oddR (S ds) K = false := by simpa using q3
   have n1 : ¬ V % 2 = 1 := fun q => by rw [hodd.2 q] at this; cases this
   omega
  have hVT : V * (P * 10) + (B * P + R) - V * (P * 10) = B * P + R := by omega
  rw [hval]; rcases hcase with q | ⟨q1, q2, q3⟩
  · have := mulP B 4 q; have h0 : 0 ≤ B * P := Int.mul_nonneg hB9.1 (by omega); refine ⟨hA0.1, by omega, by omega, fun e => ?_⟩; exfalso; omega
  subst q1 q2; exact ⟨hA0.1, by omega, by omega, fun _ => q3⟩
 | false =>
  have hrr : roundR (S ds) K false = bump (ds.take K) := by unfold roundR; rw [if_neg (by rw [hd]; decide)]
  have hVA : V = A + 1 := by rw [hV, hrr]; exact hbv
  have hcase : 6 ≤ B ∨ (B = 5 ∧ (R = 0 → V % 2 = 0)) := by
   unfold downR at hd; rw [hg, Bool.or_eq_false_iff, decide_eq_false_iff_not] at hd; obtain ⟨q1, q2⟩ := hd; by_cases q5 : b.toNat = 53
   ·
    refine .inr ⟨by omega, fun hR00 => ?_⟩; rw [decide_eq_true q5, Bool.true_and, hrest.2 hR00] at q2; have : oddR (S ds) K = true := by simpa using q2
    have := hodd.1 this; omega
   exact .inl (by omega)
  have e1 : V * (P * 10) = A * (P * 10) + P * 10 := by rw [hVA, Int.add_mul, Int.one_mul]
  rw [hval, e1]; rcases hcase with q | ⟨q1, q3⟩
  · have m1 := mulP 6 B q; have m2 := mulP B 9 hB9.2; refine ⟨by omega, by omega, by omega, fun e => ?_⟩; exfalso; omega
  subst q1; refine ⟨by omega, by omega, by omega, fun e => q3 ?_⟩; omega
end Go.Proofs.YtgbjojokjekmhaaGreatDoor.Num
