/- The law's word places: how many digits stand behind a text's point, and the power behind its mark; plain, no program; conditions: a text that point writes. -/
import Derived.Test.YtgbjojokjekmhaaGreatDoorRdrT
import Derived.Test.YtgbjojokjekmhaaGreatDoorScanL
import Derived.Test.YtgbjojokjekmhaaGreatDoorPadsP
import Derived.Test.YtgbjojokjekmhaaGreatDoorPXDy
namespace Go.Proofs.YtgbjojokjekmhaaGreatDoor.Num
open Go.RowKit Go.Proofs.YtgbjojokjekmhaaGreatDoor.PXC Go.Proofs.YtgbjojokjekmhaaGreatDoorW.PrintWords Go.Proofs.YtgbjojokjekmhaaGreatDoorW.PrintLast Go.Proofs.YtgbjojokjekmhaaGreatDoorW.PrintMore
set_option linter.unusedVariables false
set_option linter.unusedSimpArgs false

theorem decs_dg : ∀ (u : Nat), Dg (Lib.decDigits u) ∧ 1 ≤ (Lib.decDigits u).length ∧ (10 ≤ u → 2 ≤ (Lib.decDigits u).length) := by
 intro u; induction u using Nat.strongRecOn with
 | _ u ih =>
  rw [Lib.decDigits]; have one : ∀ m : Nat, m < 10 → Dg [UInt8.ofNat (48 + m)] := fun m hm b hb => by
   rw [List.mem_singleton.1 hb, UInt8.toNat_ofNat']; omega
  split
  · rename_i h; exact ⟨one u h, Nat.le_refl _, fun h2 => by omega⟩
  rename_i h; obtain ⟨i1, i2, _⟩ := ih (u / 10) (by omega); refine ⟨dg_append.2 ⟨i1, one _ (by omega)⟩, ?_, fun _ => ?_⟩
  · rw [List.length_append, List.length_singleton]; omega
  rw [List.length_append, List.length_singleton]; omega
/-- A power's text: the mark, the sign, two digits or more. -/
theorem tail_shape (X : Int) (c : UInt8) (h1 : -4194304 ≤ X) (h2 : X ≤ 4194304) : ∃ r, tailL X c = c :: (if X < 0 then 45 else 43) :: r ∧ Dg r ∧ 2 ≤ r.length ∧ expL 0 r = (if X < 0 then -X else X) := by
 obtain ⟨Y, hY⟩ : ∃ Y : Int, Y = if X < 0 then -X else X := ⟨_, rfl⟩
 have hY0 : 0 ≤ Y ∧ Y ≤ 4194304 := by rw [hY]; split <;> omega
 have hit : Lib.itoa Y = Lib.decDigits Y.toNat := by unfold Lib.itoa; rw [if_neg (by omega)]
 obtain ⟨d1, d2, d3⟩ := decs_dg Y.toNat; have hv := expL_dec Y.toNat (by omega); have e0 : expL 0 (48 :: Lib.decDigits Y.toNat) = Y := by
  have : expL 0 (48 :: Lib.decDigits Y.toNat) = expL 0 (Lib.decDigits Y.toNat) := rfl; rw [this, hv]; omega
 have hd48 : Dg (48 :: Lib.decDigits Y.toNat) := dg_cons.2 ⟨by decide, d1⟩; unfold tailL; rw [← hY, hit]; by_cases hX : X < 0
 ·
  rw [if_pos hX] at hY ⊢; rw [if_pos hX]; by_cases h10 : -X < 10
  · exact ⟨48 :: Lib.decDigits Y.toNat, by rw [if_pos h10]; rfl, hd48, by rw [List.length_cons]; omega, e0⟩
  exact ⟨Lib.decDigits Y.toNat, by rw [if_neg h10]; rfl, d1, d3 (by omega), by rw [hv]; omega⟩
 rw [if_neg hX] at hY ⊢; rw [if_neg hX]; by_cases h10 : X < 10
 · exact ⟨48 :: Lib.decDigits Y.toNat, by rw [if_pos h10]; rfl, hd48, by rw [List.length_cons]; omega, e0⟩
 exact ⟨Lib.decDigits Y.toNat, by rw [if_neg h10]; rfl, d1, d3 (by omega), by rw [hv]; omega⟩
theorem lit_tail {c : UInt8} (hc : c = 101 ∨ c = 69) {X : Int} (h1 : -4194304 ≤ X) (h2 : X ≤ 4194304) : litL (49 :: tailL X c) 0 = (false, [49], X, (tailL X c).length + 1, true) := by
 obtain ⟨r, hr, hdg, hlen, hv⟩ := tail_shape X c h1 h2; rw [hr]; have run3 : ((49 :: c :: (if X < 0 then 45 else 43) :: r).drop 3).takeWhile isD = r := all_run hdg; obtain ⟨sg, hsg⟩ : ∃ sg : UInt8, sg = if X < 0 then 45 else 43 := ⟨_, rfl⟩
 rw [← hsg] at run3 ⊢; obtain ⟨l, hl⟩ : ∃ l, l = 49 :: c :: sg :: r := ⟨_, rfl⟩; rw [← hl] at run3 ⊢; have g0 : l[0]? = some 49 := by rw [hl]; rfl
 have g1 : l[1]? = some c := by rw [hl]; rfl
 have g2 : l[2]? = some sg := by rw [hl]; rfl
 have g3 : atD l 3 = true := by
  unfold atD; cases hq : r with
  | nil => rw [hq] at hlen; simp at hlen
  | cons x q =>
   rw [hl, hq]; rw [hq] at hdg; exact isD_iff.2 (dg_cons.1 hdg).1
 have a0 : at2 l 0 43 45 = false := by unfold at2; rw [g0]; rfl
 have a0m : negL l 0 = false := by unfold negL at2; rw [g0]; rfl
 have f0 : fromL l 0 = 0 := by unfold fromL; rw [a0]; rfl
 have d0 : atD l 0 = true := by unfold atD; rw [g0]; rfl
 have d1 : atD l 1 = false := by unfold atD; rw [g1]; rcases hc with rfl | rfl <;> rfl
 have r0 : runD l 0 = 1 := by rw [runD_succ d0, runD_zero d1]
 have p0 : hasP l 0 = false := by
  unfold hasP at2; rw [r0, Nat.zero_add, g1]; rcases hc with rfl | rfl <;> rfl
 have m0 : mantE l 0 = 1 := by unfold mantE; rw [p0, if_neg (by decide), r0]
 have q0 : plN l 0 = 0 := by unfold plN; rw [p0, if_neg (by decide)]
 have s0 : digsL l 0 = [49] := by
  unfold digsL; rw [p0, if_neg (by decide), r0, hl]; rfl
 have x1 : expAt l 1 = 3 := by
  have : at2 l 2 43 45 = true := by
   have hs2 : sg = 45 ∨ sg = 43 := by rw [hsg]; split <;> simp
   unfold at2; rw [g2]; rcases hs2 with h | h <;> (rw [h]; rfl)
  unfold expAt; rw [this, if_pos rfl]
 have e1 : hasE l 1 = true := by
  unfold hasE; rw [x1, g3]; unfold at2; rw [g1]; rcases hc with rfl | rfl <;> rfl
 have run4 : runD l 3 = r.length := by unfold runD; rw [run3]
 have v1 : expV l 1 = X := by
  have hx : expAtL 0 l 3 = if X < 0 then -X else X := by unfold expAtL; rw [run3, hv]
  have hs : at2 l 2 45 45 = decide (X < 0) := by
   unfold at2; rw [g2, hsg]; by_cases h : X < 0
   · rw [if_pos h, decide_eq_true h]; rfl
   rw [if_neg h, decide_eq_false h]; rfl
  unfold expV; rw [e1, if_pos rfl, x1, hx, hs]; by_cases h : X < 0
  · rw [decide_eq_true h, if_pos rfl, if_pos h]; omega
  rw [decide_eq_false h, if_neg (by decide), if_neg h]
 have n1 : endE l 1 = l.length := by
  unfold endE; rw [e1, if_pos rfl, x1, run4, hl]; simp only [List.length_cons]; omega
 unfold litL; rw [f0, m0, if_neg (by decide), a0m, s0, v1, q0, n1, hl]; rw [show X - ((0 : Nat) : Int) = X by omega]; simp only [List.length_cons]
end Go.Proofs.YtgbjojokjekmhaaGreatDoor.Num
namespace Go.Proofs.YtgbjojokjekmhaaGreatDoor.Num
open Go.RowKit Go.Proofs.YtgbjojokjekmhaaGreatDoor.PXC Go.Proofs.YtgbjojokjekmhaaGreatDoor.PXD Go.Proofs.YtgbjojokjekmhaaGreatDoorW.PrintWords Go.Proofs.YtgbjojokjekmhaaGreatDoorW.PrintLast Go.Proofs.YtgbjojokjekmhaaGreatDoorW.PrintMore
set_option linter.unusedVariables false
set_option linter.unusedSimpArgs false

theorem bt_get {l : List UInt8} {i : Nat} (h : i < l.length) : bt (S l) (i : Int) = ((l[i]'h).toNat : Int) := by
 have h2 : ((i : Int)).toNat < (S l).size := by rw [s_size, Int.toNat_natCast]; exact h
 rw [← bt_at _ _ h2]; rfl
theorem drop_cons {l T : List UInt8} {i : Nat} {b : UInt8} (h : l.drop i = b :: T) : ∃ hi : i < l.length, l[i]'hi = b ∧ l.drop (i + 1) = T := by
 have hi : i < l.length := by
  rcases Nat.lt_or_ge i l.length with h1 | h1
  · exact h1
  rw [List.drop_of_length_le h1] at h; cases h
 rw [List.drop_eq_getElem_cons hi] at h; injection h with h1 h2; exact ⟨hi, h1, h2⟩
/-- Neither a point nor a mark. -/
def NoS (l : List UInt8) : Prop := ∀ b ∈ l, b.toNat ≠ 46 ∧ b.toNat ≠ 101 ∧ b.toNat ≠ 69
theorem nos_dg {l : List UInt8} (h : Dg l) : NoS l := fun b hb => by have := h b hb; omega
theorem nos_nil : NoS [] := fun _ h => by cases h
theorem nos_app {a b : List UInt8} (h1 : NoS a) (h2 : NoS b) : NoS (a ++ b) := fun x hx => by
 rcases List.mem_append.1 hx with hx | hx
 ·
  exact h1 x hx
 ·
  exact h2 x hx
theorem number_tail {c : UInt8} (hc : c = 101 ∨ c = 69) {X : Int} (h1 : -4194304 ≤ X) (h2 : X ≤ 4194304) : Ev (fun k => scan_Number.f k (S (49 :: tailL X c))) (false, S [49], X, ((tailL X c).length : Int) + 1) := by
 have hl := tailL_len X c h1 h2; have hb : Ev (fun k => scan_blanks.f k (S (49 :: tailL X c)) 0) 0 := by
  refine Ev.step (f := fun _ => some 0) (fun k => ?_) (Ev.now _); show scan_blanks.l0 (k + 1) _ 0 = _; have e0 : bt (S (49 :: tailL X c)) 0 = 49 := bt_get (i := 0) (by simp); rw [scan_blanks.l0, if_pos (by rw [s_size, List.length_cons]; omega), if_pos (by omega), e0]; rfl
 have hlit : scan_literal.f (S (49 :: tailL X c)) 0 = some (false, S [49], X, ((tailL X c).length : Int) + 1, true) := by
  unfold scan_literal.f; rw [if_pos ⟨by omega, by omega, by rw [s_size, List.length_cons]; omega⟩, s_data]; have := lit_tail hc h1 h2; show some (litF (49 :: tailL X c) 0) = _; unfold litF; rw [this]; simp
 have hn : scan_normal.f false (S [49]) X = some (false, S [49], X) := by
  have t1 : strings_TrimLeft.f (S [49]) (⟨#[48]⟩ : ByteArray) = some (S [49]) := by
   unfold strings_TrimLeft.f; rw [if_pos rfl]; rfl
  have t2 : strings_TrimRight.f (S [49]) (⟨#[48]⟩ : ByteArray) = some (S [49]) := by
   unfold strings_TrimRight.f; rw [if_pos rfl, if_pos (by rw [s_size]; simp)]; rfl
  have t3 : strings_Clone.f (S [49]) = some (S [49]) := by
   unfold strings_Clone.f; rw [if_pos (by rw [s_size]; simp)]
  have e : wrap64 (wrap64 (X + (((S [49]).size : Nat) : Int)) - (((S [49]).size : Nat) : Int)) = X := by
   rw [s_size]; rw [w64 (x := X + _) (by simp; omega) (by simp; omega), w64 (by simp; omega) (by simp; omega)]; simp
  unfold scan_normal.f; rw [t1, Option.bind_some, s_list, if_neg (by simp), t2, Option.bind_some, t3, Option.bind_some, e]
 unfold scan_Number.f; refine Evx.bindc (h := fun _ => some (false, S [49], X, ((tailL X c).length : Int) + 1)) hb (fun k => ?_) (Ev.now _); rw [hlit, Option.bind_some]; simp only [if_true]; rw [hn, Option.bind_some]
theorem pl_skip {l : List UInt8} (hl : l.length ≤ 16777216) {R : Int × Int} : ∀ (A T : List UInt8) (i : Nat) (n : Int), NoS A → l.drop i = A ++ T → -1 ≤ n → n + (A.length : Int) ≤ 33554432 →
  Ev (fun k => abacuslaw15_places.l0 k (S l) (if 0 ≤ n then n + (A.length : Int) else n) 0 ((i + A.length : Nat) : Int)) R → Ev (fun k => abacuslaw15_places.l0 k (S l) n 0 (i : Int)) R := by
 intro A; induction A with
 | nil =>
  intro T i n _ _ _ _ h; have e : (if 0 ≤ n then n + (([] : List UInt8).length : Int) else n) = n := by split <;> simp
  rw [e] at h; exact h
 | cons b A ih =>
  intro T i n hA hd hn hn2 h; obtain ⟨hi, hb, hd2⟩ := drop_cons hd; have hbs := hA b (List.mem_cons_self ..); have hA2 : NoS A := fun x hx => hA x (List.mem_cons_of_mem _ hx)
  rw [List.length_cons] at hn2 h; have e1 : wrap64 ((i : Int) + 1) = ((i + 1 : Nat) : Int) := by rw [w64 (by omega) (by omega)]; omega
  have hbt := bt_get hi; rw [hb] at hbt; have e69 : ((b.toNat : Int) == 69) = false := beq_eq_false_iff_ne.2 (by omega); refine Ev.step (fun k => by rw [abacuslaw15_places.l0, if_pos (by rw [s_size]; omega), if_pos (by omega), hbt, if_neg (by omega), if_neg (by omega), e69]) ?_; by_cases h0 : 0 ≤ n
  ·
   have e2 : wrap64 (n + 1) = n + 1 := by rw [w64 (by omega) (by omega)]
   rw [if_pos h0] at h; refine Ev.step (fun k => by rw [abacuslaw15_places.j1, if_neg (by decide), if_pos h0, e1, e2]) (ih T (i + 1) (n + 1) hA2 hd2 (by omega) (by omega) ?_); rw [if_pos (by omega), show n + 1 + (A.length : Int) = n + ((A.length + 1 : Nat) : Int) by omega, show i + 1 + A.length = i + (A.length + 1) by omega]; exact h
  rw [if_neg h0] at h; refine Ev.step (fun k => by rw [abacuslaw15_places.j1, if_neg (by decide), if_neg h0, e1]) (ih T (i + 1) n hA2 hd2 hn (by omega) ?_); rw [if_neg h0, show i + 1 + A.length = i + (A.length + 1) by omega]; exact h
theorem pl_tail {l : List UInt8} (hl : l.length ≤ 16777216) {c : UInt8} (hc : c = 101 ∨ c = 69) {X : Int} (h1 : -4194304 ≤ X) (h2 : X ≤ 4194304) {i : Nat} (hd : l.drop i = tailL X c) (n : Int) : Ev (fun k => abacuslaw15_places.l0 k (S l) n 0 (i : Int)) (if n < 0 then 0 else n, X) := by
 obtain ⟨r, hr, -, hrl, -⟩ := tail_shape X c h1 h2; obtain ⟨hi, hb, -⟩ := drop_cons (hd.trans hr); have hbt := bt_get hi; rw [hb] at hbt; have hlen : l.length - i = (tailL X c).length := by rw [← hd, List.length_drop]
 have he : (S l).extract i l.length = S (tailL X c) := by rw [s_drop2, hd]
 have e1 : wrap64 (wrap64 ((l.length : Int) - (i : Int)) + 1) = ((tailL X c).length : Int) + 1 := by rw [w64 (x := (l.length : Int) - (i : Int)) (by omega) (by omega), w64 (by omega) (by omega)]; omega
 have htl := tailL_len X c h1 h2; have hj : Ev (fun k => abacuslaw15_places.j1 k (S l) n 0 (i : Int) true) (if n < 0 then 0 else n, X) := by
  have e49 : (⟨#[49]⟩ : ByteArray) ++ S (tailL X c) = S (49 :: tailL X c) := s_app [49] _; refine Ev.step (fun k => by rw [abacuslaw15_places.j1, if_pos rfl, if_pos (by omega), if_pos (by rw [s_size]; omega), s_size l, Int.toNat_natCast, he, s_size (tailL X c), if_pos (by omega), e49]) ?_; refine Evx.bindc (h := fun _ => some (if n < 0 then 0 else n, X)) (number_tail hc h1 h2) (fun k => ?_) (Ev.now _); simp only; rw [e1, if_pos rfl]; split <;> rfl
 rcases hc with rfl | rfl
 · exact Ev.step (fun k => by rw [abacuslaw15_places.l0, if_pos (by rw [s_size]; omega), if_pos (by omega), hbt, if_neg (by decide), if_pos (by decide)]) hj
 exact Ev.step (fun k => by rw [abacuslaw15_places.l0, if_pos (by rw [s_size]; omega), if_pos (by omega), hbt, if_neg (by decide), if_neg (by decide)]; rfl) hj
/-- A text of P, a point with B behind it if q, and a power. -/
theorem places_tot' {P B : List UInt8} (hP : NoS P) (hB : NoS B) (q : Bool) {c : UInt8} (hc : c = 101 ∨ c = 69) {X : Int} (h1 : -4194304 ≤ X) (h2 : X ≤ 4194304) (hl : P.length + B.length ≤ 8388608) (hq : q = false → B = []) : Ev (fun k => abacuslaw15_places.f k (S (P ++ (if q = true then 46 :: B else []) ++ tailL X c))) ((B.length : Int), X) := by
 have htl := tailL_len X c h1 h2; obtain ⟨l, hL⟩ : ∃ l, l = P ++ (if q = true then 46 :: B else []) ++ tailL X c := ⟨_, rfl⟩; have hll : l.length ≤ 16777216 := by
  rw [hL]; simp only [List.length_append]; split
  · simp only [List.length_cons]; omega
  simp only [List.length_nil]; omega
 rw [← hL]; unfold abacuslaw15_places.f; have z : (0 : Int) = ((0 : Nat) : Int) := rfl; refine pl_skip hll P ((if q = true then 46 :: B else []) ++ tailL X c) 0 (-1) hP (by rw [hL, List.append_assoc]; rfl) (by omega) (by omega) ?_; rw [if_neg (by omega), Nat.zero_add]; have hd : l.drop P.length = (if q = true then 46 :: B else []) ++ tailL X c := by rw [hL, List.append_assoc, List.drop_left]
 cases q with
 | false =>
  rw [hq rfl]; exact pl_tail hll hc h1 h2 hd (-1)
 | true =>
  have hd' : l.drop P.length = 46 :: (B ++ tailL X c) := hd; obtain ⟨hi, hb, hd2⟩ := drop_cons hd'; have hbt := bt_get hi; rw [hb] at hbt; have e1 : wrap64 ((P.length : Int) + 1) = ((P.length + 1 : Nat) : Int) := by rw [w64 (by omega) (by omega)]; omega
  refine Ev.step (fun k => by rw [abacuslaw15_places.l0, if_pos (by rw [s_size]; omega), if_pos (by omega), hbt, if_pos (by decide), e1]) ?_; refine pl_skip hll B (tailL X c) (P.length + 1) 0 hB hd2 (by omega) (by omega) ?_; rw [if_pos (by omega), Int.zero_add]; have hd3 : l.drop (P.length + 1 + B.length) = tailL X c := by
   rw [← List.drop_drop, hd2, List.drop_left]
  have := pl_tail hll hc h1 h2 hd3 (B.length : Int); rw [if_neg (by omega)] at this; exact this
end Go.Proofs.YtgbjojokjekmhaaGreatDoor.Num
