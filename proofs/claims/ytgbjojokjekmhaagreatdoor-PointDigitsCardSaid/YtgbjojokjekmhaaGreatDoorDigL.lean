/- The law of PointDigits answers true; plain, no program; conditions: a Spec of machine numbers, a double's bits. -/
import Derived.Test.YtgbjojokjekmhaaGreatDoorRdrT
import Derived.Test.YtgbjojokjekmhaaGreatDoorScanL
import Derived.Test.YtgbjojokjekmhaaGreatDoorPadsP
import Derived.Test.YtgbjojokjekmhaaGreatDoorPXDy
import Derived.Test.YtgbjojokjekmhaaGreatDoorPXEy
namespace Go.Proofs.YtgbjojokjekmhaaGreatDoor.Num
open Go.RowKit Go.Proofs.YtgbjojokjekmhaaGreatDoor.PXC Go.Proofs.YtgbjojokjekmhaaGreatDoorW.PrintWords Go.Proofs.YtgbjojokjekmhaaGreatDoorW.PrintLast Go.Proofs.YtgbjojokjekmhaaGreatDoorW.PrintMore
set_option linter.unusedVariables false
set_option linter.unusedSimpArgs false

theorem decs_dg : ∀ (u : Nat), Dg (Lib.decDigits u) ∧ 1 ≤ (Lib.decDigits u).length ∧ (10 ≤ u → 2 ≤ (Lib.decDigits u).length) := by
  intro u; induction u using Nat.strongRecOn with
  | _ u ih =>
    rw [Lib.decDigits]; have one : ∀ m : Nat, m < 10 → Dg [UInt8.ofNat (48 + m)] := fun m hm b hb => by
      rw [List.mem_singleton.1 hb, UInt8.toNat_ofNat']; omega
    split
    · rename_i h
      exact ⟨one u h, Nat.le_refl _, fun h2 => by omega⟩
    rename_i h; obtain ⟨i1, i2, _⟩ := ih (u / 10) (by omega); refine ⟨dg_append.2 ⟨i1, one _ (by omega)⟩, ?_, fun _ => ?_⟩
    · rw [List.length_append, List.length_singleton]; omega
    rw [List.length_append, List.length_singleton]; omega
/-- A power's text: the mark, the sign, two digits or more. -/
theorem tail_shape (X : Int) (c : UInt8) (h1 : -4194304 ≤ X) (h2 : X ≤ 4194304) : ∃ r, tailL X c = c :: (if X < 0 then 45 else 43) :: r ∧ Dg r ∧ 2 ≤ r.length ∧ expL 0 r = (if X < 0 then -X else X) := by
  obtain ⟨Y, hY⟩ : ∃ Y : Int, Y = if X < 0 then -X else X := ⟨_, rfl⟩
  have hY0 : 0 ≤ Y ∧ Y ≤ 4194304 := by rw [hY]; split <;> omega
  have hit : Lib.itoa Y = Lib.decDigits Y.toNat := by unfold Lib.itoa; rw [if_neg (by omega)]
  obtain ⟨d1, d2, d3⟩ := decs_dg Y.toNat; have hv := expL_dec Y.toNat (by omega); have e0 : expL 0 (48 :: Lib.decDigits Y.toNat) = Y := by
    have : expL 0 (48 :: Lib.decDigits Y.toNat) = expL 0 (Lib.decDigits Y.toNat) := rfl; rw [this, hv]; omega
  have hd48 : Dg (48 :: Lib.decDigits Y.toNat) := dg_cons.2 ⟨by decide, d1⟩; unfold tailL; rw [← hY, hit]; by_cases hX : X < 0
  · rw [if_pos hX] at hY ⊢
    rw [if_pos hX]; by_cases h10 : -X < 10
    · exact ⟨48 :: Lib.decDigits Y.toNat, by rw [if_pos h10]; rfl, hd48, by rw [List.length_cons]; omega, e0⟩
    exact ⟨Lib.decDigits Y.toNat, by rw [if_neg h10]; rfl, d1, d3 (by omega), by rw [hv]; omega⟩
  rw [if_neg hX] at hY ⊢; rw [if_neg hX]; by_cases h10 : X < 10
  · exact ⟨48 :: Lib.decDigits Y.toNat, by rw [if_pos h10]; rfl, hd48, by rw [List.length_cons]; omega, e0⟩
  exact ⟨Lib.decDigits Y.toNat, by rw [if_neg h10]; rfl, d1, d3 (by omega), by rw [hv]; omega⟩
theorem lit_tail {c : UInt8} (hc : c = 101 ∨ c = 69) {X : Int} (h1 : -4194304 ≤ X) (h2 : X ≤ 4194304) : litL (49 :: tailL X c) 0 = (false, [49], X, (tailL X c).length + 1, true) := by
  obtain ⟨r, hr, hdg, hlen, hv⟩ := tail_shape X c h1 h2; rw [hr]; have run3 : ((49 :: c :: (if X < 0 then 45 else 43) :: r).drop 3).takeWhile isD = r := all_run hdg; obtain ⟨sg, hsg⟩ : ∃ sg : UInt8, sg = if X < 0 then 45 else 43 := ⟨_, rfl⟩
  rw [← hsg] at run3 ⊢; obtain ⟨l, hl⟩ : ∃ l, l = 49 :: c :: sg :: r := ⟨_, rfl⟩; rw [← hl] at run3 ⊢; have g0 : l[0]? = some 49 := by rw [hl]; rfl
  have g1 : l[1]? = some c := by rw [hl]; rfl
  have g2 : l[2]? = some sg := by rw [hl]; rfl
  have g3 : atD l 3 = true := by
    unfold atD; cases hq : r with
    | nil => rw [hq] at hlen; simp at hlen
    | cons x q =>
      rw [hl, hq]; rw [hq] at hdg; exact isD_iff.2 (dg_cons.1 hdg).1
  have a0 : at2 l 0 43 45 = false := by unfold at2; rw [g0]; rfl
  have a0m : negL l 0 = false := by unfold negL at2; rw [g0]; rfl
  have f0 : fromL l 0 = 0 := by unfold fromL; rw [a0]; rfl
  have d0 : atD l 0 = true := by unfold atD; rw [g0]; rfl
  have d1 : atD l 1 = false := by unfold atD; rw [g1]; rcases hc with rfl | rfl <;> rfl
  have r0 : runD l 0 = 1 := by rw [runD_succ d0, runD_zero d1]
  have p0 : hasP l 0 = false := by
    unfold hasP at2; rw [r0, Nat.zero_add, g1]; rcases hc with rfl | rfl <;> rfl
  have m0 : mantE l 0 = 1 := by unfold mantE; rw [p0, if_neg (by decide), r0]
  have q0 : plN l 0 = 0 := by unfold plN; rw [p0, if_neg (by decide)]
  have s0 : digsL l 0 = [49] := by
    unfold digsL; rw [p0, if_neg (by decide), r0, hl]; rfl
  have x1 : expAt l 1 = 3 := by
    have : at2 l 2 43 45 = true := by
      have hs2 : sg = 45 ∨ sg = 43 := by rw [hsg]; split <;> simp
      unfold at2; rw [g2]; rcases hs2 with h | h <;> (rw [h]; rfl)
    unfold expAt; rw [this, if_pos rfl]
  have e1 : hasE l 1 = true := by
    unfold hasE; rw [x1, g3]; unfold at2; rw [g1]; rcases hc with rfl | rfl <;> rfl
  have run4 : runD l 3 = r.length := by unfold runD; rw [run3]
  have v1 : expV l 1 = X := by
    have hx : expAtL 0 l 3 = if X < 0 then -X else X := by unfold expAtL; rw [run3, hv]
    have hs : at2 l 2 45 45 = decide (X < 0) := by
      unfold at2; rw [g2, hsg]; by_cases h : X < 0
      · rw [if_pos h, decide_eq_true h]; rfl
      rw [if_neg h, decide_eq_false h]; rfl
    unfold expV; rw [e1, if_pos rfl, x1, hx, hs]; by_cases h : X < 0
    · rw [decide_eq_true h, if_pos rfl, if_pos h]; omega
    rw [decide_eq_false h, if_neg (by decide), if_neg h]
  have n1 : endE l 1 = l.length := by
    unfold endE; rw [e1, if_pos rfl, x1, run4, hl]; simp only [List.length_cons]; omega
  unfold litL; rw [f0, m0, if_neg (by decide), a0m, s0, v1, q0, n1, hl]; rw [show X - ((0 : Nat) : Int) = X by omega]; simp only [List.length_cons]
end Go.Proofs.YtgbjojokjekmhaaGreatDoor.Num
namespace Go.Proofs.YtgbjojokjekmhaaGreatDoor.Num
open Go.RowKit Go.Proofs.YtgbjojokjekmhaaGreatDoor.PXC Go.Proofs.YtgbjojokjekmhaaGreatDoor.PXD Go.Proofs.YtgbjojokjekmhaaGreatDoorW.PrintWords Go.Proofs.YtgbjojokjekmhaaGreatDoorW.PrintLast Go.Proofs.YtgbjojokjekmhaaGreatDoorW.PrintMore
set_option linter.unusedVariables false
set_option linter.unusedSimpArgs false

theorem bt_get {l : List UInt8} {i : Nat} (h : i < l.length) : bt (S l) (i : Int) = ((l[i]'h).toNat : Int) := by
  have h2 : ((i : Int)).toNat < (S l).size := by rw [s_size, Int.toNat_natCast]; exact h
  rw [← bt_at _ _ h2]; rfl
theorem drop_cons {l T : List UInt8} {i : Nat} {b : UInt8} (h : l.drop i = b :: T) : ∃ hi : i < l.length, l[i]'hi = b ∧ l.drop (i + 1) = T := by
  have hi : i < l.length := by
    rcases Nat.lt_or_ge i l.length with h1 | h1
    · exact h1
    rw [List.drop_of_length_le h1] at h; cases h
  rw [List.drop_eq_getElem_cons hi] at h; injection h with h1 h2; exact ⟨hi, h1, h2⟩
/-- Neither a point nor a mark. -/
def NoS (l : List UInt8) : Prop := ∀ b ∈ l, b.toNat ≠ 46 ∧ b.toNat ≠ 101 ∧ b.toNat ≠ 69
theorem nos_dg {l : List UInt8} (h : Dg l) : NoS l := fun b hb => by have := h b hb; omega
theorem nos_nil : NoS [] := fun _ h => by cases h
theorem nos_app {a b : List UInt8} (h1 : NoS a) (h2 : NoS b) : NoS (a ++ b) := fun x hx => by
  rcases List.mem_append.1 hx with hx | hx
  · exact h1 x hx
  · exact h2 x hx
theorem number_tail {c : UInt8} (hc : c = 101 ∨ c = 69) {X : Int} (h1 : -4194304 ≤ X) (h2 : X ≤ 4194304) : Ev (fun k => scan_Number.f k (S (49 :: tailL X c))) (false, S [49], X, ((tailL X c).length : Int) + 1) := by
  have hl := tailL_len X c h1 h2; have hb : Ev (fun k => scan_blanks.f k (S (49 :: tailL X c)) 0) 0 := by
    refine Ev.step (f := fun _ => some 0) (fun k => ?_) (Ev.now _); show scan_blanks.l0 (k + 1) _ 0 = _; have e0 : bt (S (49 :: tailL X c)) 0 = 49 := bt_get (i := 0) (by simp); rw [scan_blanks.l0, if_pos (by rw [s_size, List.length_cons]; omega), if_pos (by omega), e0]; rfl
  have hlit : scan_literal.f (S (49 :: tailL X c)) 0 = some (false, S [49], X, ((tailL X c).length : Int) + 1, true) := by
    unfold scan_literal.f; rw [if_pos ⟨by omega, by omega, by rw [s_size, List.length_cons]; omega⟩, s_data]; have := lit_tail hc h1 h2; show some (litF (49 :: tailL X c) 0) = _; unfold litF; rw [this]; simp
  have hn : scan_normal.f false (S [49]) X = some (false, S [49], X) := by
    have t1 : strings_TrimLeft.f (S [49]) (⟨#[48]⟩ : ByteArray) = some (S [49]) := by
      unfold strings_TrimLeft.f; rw [if_pos rfl]; rfl
    have t2 : strings_TrimRight.f (S [49]) (⟨#[48]⟩ : ByteArray) = some (S [49]) := by
      unfold strings_TrimRight.f; rw [if_pos rfl, if_pos (by rw [s_size]; simp)]; rfl
    have t3 : strings_Clone.f (S [49]) = some (S [49]) := by
      unfold strings_Clone.f; rw [if_pos (by rw [s_size]; simp)]
    have e : wrap64 (wrap64 (X + (((S [49]).size : Nat) : Int)) - (((S [49]).size : Nat) : Int)) = X := by
      rw [s_size]; rw [w64 (x := X + _) (by simp; omega) (by simp; omega), w64 (by simp; omega) (by simp; omega)]; simp
    unfold scan_normal.f; rw [t1, Option.bind_some, s_list, if_neg (by simp), t2, Option.bind_some, t3, Option.bind_some, e]
  unfold scan_Number.f; refine Evx.bindc (h := fun _ => some (false, S [49], X, ((tailL X c).length : Int) + 1)) hb (fun k => ?_) (Ev.now _); rw [hlit, Option.bind_some]; simp only [if_true]; rw [hn, Option.bind_some]
theorem pl_skip {l : List UInt8} (hl : l.length ≤ 16777216) {R : Int × Int} : ∀ (A T : List UInt8) (i : Nat) (n : Int), NoS A → l.drop i = A ++ T → -1 ≤ n → n + (A.length : Int) ≤ 33554432 →
    Ev (fun k => abacuslaw15_places.l0 k (S l) (if 0 ≤ n then n + (A.length : Int) else n) 0 ((i + A.length : Nat) : Int)) R → Ev (fun k => abacuslaw15_places.l0 k (S l) n 0 (i : Int)) R := by
  intro A; induction A with
  | nil =>
    intro T i n _ _ _ _ h; have e : (if 0 ≤ n then n + (([] : List UInt8).length : Int) else n) = n := by split <;> simp
    rw [e] at h; exact h
  | cons b A ih =>
    intro T i n hA hd hn hn2 h; obtain ⟨hi, hb, hd2⟩ := drop_cons hd; have hbs := hA b (List.mem_cons_self ..); have hA2 : NoS A := fun x hx => hA x (List.mem_cons_of_mem _ hx)
    rw [List.length_cons] at hn2 h; have e1 : wrap64 ((i : Int) + 1) = ((i + 1 : Nat) : Int) := by rw [w64 (by omega) (by omega)]; omega
    have hbt := bt_get hi; rw [hb] at hbt; have e69 : ((b.toNat : Int) == 69) = false := beq_eq_false_iff_ne.2 (by omega); refine Ev.step (fun k => by rw [abacuslaw15_places.l0, if_pos (by rw [s_size]; omega), if_pos (by omega), hbt, if_neg (by omega), if_neg (by omega), e69]) ?_; by_cases h0 : 0 ≤ n
    · have e2 : wrap64 (n + 1) = n + 1 := by rw [w64 (by omega) (by omega)]
      rw [if_pos h0] at h; refine Ev.step (fun k => by rw [abacuslaw15_places.j1, if_neg (by decide), if_pos h0, e1, e2]) (ih T (i + 1) (n + 1) hA2 hd2 (by omega) (by omega) ?_); rw [if_pos (by omega), show n + 1 + (A.length : Int) = n + ((A.length + 1 : Nat) : Int) by omega, show i + 1 + A.length = i + (A.length + 1) by omega]; exact h
    rw [if_neg h0] at h; refine Ev.step (fun k => by rw [abacuslaw15_places.j1, if_neg (by decide), if_neg h0, e1]) (ih T (i + 1) n hA2 hd2 hn (by omega) ?_); rw [if_neg h0, show i + 1 + A.length = i + (A.length + 1) by omega]; exact h
theorem pl_tail {l : List UInt8} (hl : l.length ≤ 16777216) {c : UInt8} (hc : c = 101 ∨ c = 69) {X : Int} (h1 : -4194304 ≤ X) (h2 : X ≤ 4194304) {i : Nat} (hd : l.drop i = tailL X c) (n : Int) : Ev (fun k => abacuslaw15_places.l0 k (S l) n 0 (i : Int)) (if n < 0 then 0 else n, X) := by
  obtain ⟨r, hr, -, hrl, -⟩ := tail_shape X c h1 h2; obtain ⟨hi, hb, -⟩ := drop_cons (hd.trans hr); have hbt := bt_get hi; rw [hb] at hbt; have hlen : l.length - i = (tailL X c).length := by rw [← hd, List.length_drop]
  have he : (S l).extract i l.length = S (tailL X c) := by rw [s_drop2, hd]
  have e1 : wrap64 (wrap64 ((l.length : Int) - (i : Int)) + 1) = ((tailL X c).length : Int) + 1 := by rw [w64 (x := (l.length : Int) - (i : Int)) (by omega) (by omega), w64 (by omega) (by omega)]; omega
  have htl := tailL_len X c h1 h2; have hj : Ev (fun k => abacuslaw15_places.j1 k (S l) n 0 (i : Int) true) (if n < 0 then 0 else n, X) := by
    have e49 : (⟨#[49]⟩ : ByteArray) ++ S (tailL X c) = S (49 :: tailL X c) := s_app [49] _; refine Ev.step (fun k => by rw [abacuslaw15_places.j1, if_pos rfl, if_pos (by omega), if_pos (by rw [s_size]; omega), s_size l, Int.toNat_natCast, he, s_size (tailL X c), if_pos (by omega), e49]) ?_; refine Evx.bindc (h := fun _ => some (if n < 0 then 0 else n, X)) (number_tail hc h1 h2) (fun k => ?_) (Ev.now _); simp only; rw [e1, if_pos rfl]; split <;> rfl
  rcases hc with rfl | rfl
  · exact Ev.step (fun k => by rw [abacuslaw15_places.l0, if_pos (by rw [s_size]; omega), if_pos (by omega), hbt, if_neg (by decide), if_pos (by decide)]) hj
  exact Ev.step (fun k => by rw [abacuslaw15_places.l0, if_pos (by rw [s_size]; omega), if_pos (by omega), hbt, if_neg (by decide), if_neg (by decide)]; rfl) hj
/-- A text of P, a point with B behind it if q, and a power. -/
theorem places_tot' {P B : List UInt8} (hP : NoS P) (hB : NoS B) (q : Bool) {c : UInt8} (hc : c = 101 ∨ c = 69) {X : Int} (h1 : -4194304 ≤ X) (h2 : X ≤ 4194304) (hl : P.length + B.length ≤ 8388608) (hq : q = false → B = []) : Ev (fun k => abacuslaw15_places.f k (S (P ++ (if q = true then 46 :: B else []) ++ tailL X c))) ((B.length : Int), X) := by
  have htl := tailL_len X c h1 h2; obtain ⟨l, hL⟩ : ∃ l, l = P ++ (if q = true then 46 :: B else []) ++ tailL X c := ⟨_, rfl⟩; have hll : l.length ≤ 16777216 := by
    rw [hL]; simp only [List.length_append]; split
    · simp only [List.length_cons]; omega
    simp only [List.length_nil]; omega
  rw [← hL]; unfold abacuslaw15_places.f; have z : (0 : Int) = ((0 : Nat) : Int) := rfl; refine pl_skip hll P ((if q = true then 46 :: B else []) ++ tailL X c) 0 (-1) hP (by rw [hL, List.append_assoc]; rfl) (by omega) (by omega) ?_; rw [if_neg (by omega), Nat.zero_add]; have hd : l.drop P.length = (if q = true then 46 :: B else []) ++ tailL X c := by rw [hL, List.append_assoc, List.drop_left]
  cases q with
  | false =>
    rw [hq rfl]; exact pl_tail hll hc h1 h2 hd (-1)
  | true =>
    have hd' : l.drop P.length = 46 :: (B ++ tailL X c) := hd; obtain ⟨hi, hb, hd2⟩ := drop_cons hd'; have hbt := bt_get hi; rw [hb] at hbt; have e1 : wrap64 ((P.length : Int) + 1) = ((P.length + 1 : Nat) : Int) := by rw [w64 (by omega) (by omega)]; omega
    refine Ev.step (fun k => by rw [abacuslaw15_places.l0, if_pos (by rw [s_size]; omega), if_pos (by omega), hbt, if_pos (by decide), e1]) ?_; refine pl_skip hll B (tailL X c) (P.length + 1) 0 hB hd2 (by omega) (by omega) ?_; rw [if_pos (by omega), Int.zero_add]; have hd3 : l.drop (P.length + 1 + B.length) = tailL X c := by
      rw [← List.drop_drop, hd2, List.drop_left]
    have := pl_tail hll hc h1 h2 hd3 (B.length : Int); rw [if_neg (by omega)] at this; exact this
theorem joined_tot {a b : List UInt8} (h : Bool) (hl : a.length + b.length ≤ 16777216) : abacuslaw15_joined.f (S a) (S b) h = some (S (a ++ (if b = [] ∧ h = false then [] else 46 :: b))) := by
  have hdot : (⟨#[46]⟩ : ByteArray) = S [46] := rfl; have c1 : a.length + 1 ≤ 9223372036854775807 := by omega
  have c2 : (a ++ [46]).length + b.length ≤ 9223372036854775807 := by rw [List.length_append, List.length_singleton]; omega
  have e : a ++ [46] ++ b = a ++ 46 :: b := by rw [List.append_assoc]; rfl
  unfold abacuslaw15_joined.f; simp only [s_list, s_size, hdot, s_app]; by_cases hb : b = []
  · rw [if_pos hb]
    cases h with
    | true => rw [if_pos rfl, if_pos c1, if_pos c2, e, if_neg (fun h => by cases h.2)]
    | false => rw [if_neg (by decide), if_pos ⟨hb, rfl⟩, List.append_nil]
  rw [if_neg hb, if_pos c1, if_pos c2, e, if_neg (fun h => hb h.1)]
theorem Render_any {v fl w p d : Int} (hv : verbOk v) (h0 : 0 ≤ d) (h1 : d < 18446744073709551616) : ∃ R, Ev (fun k => point_Render.f k v fl w p d) R := by
  by_cases hw : wrongE fl w p = 0
  · obtain ⟨c, hc, hcc⟩ := class_fin h0 h1
    rcases hcc with ⟨hc3, -⟩ | ⟨hc34, -⟩
    · obtain ⟨neg, ds, x, hA, hD⟩ := All_tot d h0 h1 hc hc3
      exact ⟨_, Render_fin hv hw hc hc3 hA hD⟩
    exact ⟨_, Render_inf hv hw hc hc34⟩
  exact ⟨_, Render_bad hv hw⟩
theorem fl8 {fl : Int} (h0 : 0 ≤ fl) (h1 : fl ≤ 31) : (0 ≤ Go.bits .and .i64 fl 8 ∧ Go.bits .and .i64 fl 8 ≤ 31) ∧ Go.bits .and .i64 (Go.bits .and .i64 fl 8) 1 = 0 ∧ Go.bits .and .i64 (Go.bits .and .i64 fl 8) 2 = 0 ∧ Go.bits .and .i64 (Go.bits .and .i64 fl 8) 4 = 0 ∧ Go.bits .and .i64 (Go.bits .and .i64 fl 8) 16 = 0 ∧ (Go.bits .and .i64 (Go.bits .and .i64 fl 8) 8 != 0) = (Go.bits .and .i64 fl 8 != 0) := all32 (P := fun fl => (0 ≤ Go.bits .and .i64 fl 8 ∧ Go.bits .and .i64 fl 8 ≤ 31) ∧ Go.bits .and .i64 (Go.bits .and .i64 fl 8) 1 = 0 ∧ Go.bits .and .i64 (Go.bits .and .i64 fl 8) 2 = 0 ∧ Go.bits .and .i64 (Go.bits .and .i64 fl 8) 4 = 0 ∧ Go.bits .and .i64 (Go.bits .and .i64 fl 8) 16 = 0 ∧ (Go.bits .and .i64 (Go.bits .and .i64 fl 8) 8 != 0) = (Go.bits .and .i64 fl 8 != 0)) (by decide) h0 h1
/-- No width, no sign: the text is the body. -/
theorem pad_bare {fl : Int} {hd bd : List UInt8} (h1 : Go.bits .and .i64 fl 1 = 0) (h16 : Go.bits .and .i64 fl 16 = 0) (z : Bool) : padL fl 0 hd bd z = hd ++ bd := by
  unfold padL; rw [if_pos h1, if_pos (.inl h16)]; simp
end Go.Proofs.YtgbjojokjekmhaaGreatDoor.Num
namespace Go.Proofs.YtgbjojokjekmhaaGreatDoor.Num
open Go.RowKit Go.Proofs.YtgbjojokjekmhaaGreatDoor.PXC Go.Proofs.YtgbjojokjekmhaaGreatDoor.PXD Go.Proofs.YtgbjojokjekmhaaGreatDoor.PXE Go.Proofs.YtgbjojokjekmhaaGreatDoorW.PrintWords Go.Proofs.YtgbjojokjekmhaaGreatDoorW.PrintLast Go.Proofs.YtgbjojokjekmhaaGreatDoorW.PrintMore
set_option linter.unusedVariables false
set_option linter.unusedSimpArgs false

theorem dig_e {ds : List UInt8} {x : Int} {neg : Bool} {D : Int} (hA : Ev (fun k => fixed_All.f k D) (neg, S ds, x, 0)) (hD : Dec neg ds x) {n : Nat} (hn : n ≤ 4096) {v : Int} (hv : v = 101 ∨ v = 69) (fl w p : Int) (h : Bool) :
    Ev (fun k => abacuslaw15_PointDigits.j3 k D (S (eBody (figD ds (n + 1)) (figX ds x (n + 1)) h (markL v))) 0 (n : Int) h false v fl w p) true := by
  have hc := markL_ok v; have hmv : ((markL v).toNat : Int) = v := by rcases hv with rfl | rfl <;> rfl
  obtain ⟨h1, h2⟩ := figX_rng hD (n + 1); obtain ⟨X, hX⟩ : ∃ X, X = figX ds x (n + 1) := ⟨_, rfl⟩; obtain ⟨E, hE⟩ : ∃ E, E = figD ds (n + 1) := ⟨_, rfl⟩; have hF := Figures_tot hA hD (n + 1) (by omega) (by omega); have hEl : E.length = n + 1 := by rw [hE]; exact figD_len _ _
  have hEd : Dg E := by rw [hE]; exact figD_dg hD.dg _
  rw [← hX] at h1 h2 hF ⊢; rw [← hE] at hF ⊢; obtain ⟨c, hcm⟩ : ∃ c, markL v = c := ⟨_, rfl⟩; rw [hcm] at hc hmv ⊢; obtain ⟨r, hr, -, hrl, -⟩ := tail_shape X c h1 h2; have e1 : wrap64 ((n : Int) + 1) = ((n + 1 : Nat) : Int) := by rw [w64 (by omega) (by omega)]; omega
  obtain ⟨q, hq⟩ : ∃ q : Bool, q = decide (1 < E.length ∨ h = true) := ⟨_, rfl⟩; have hqn : q = false → E.drop 1 = [] := by
    intro hf; rw [hq] at hf; have := of_decide_eq_false hf; exact List.drop_of_length_le (by omega)
  have hT : eBody E X h c = E.take 1 ++ (if q = true then 46 :: E.drop 1 else []) ++ tailL X c := by
    unfold eBody; by_cases hh : 1 < E.length ∨ h = true
    · rw [if_pos hh, hq, decide_eq_true hh, if_pos rfl]
    rw [if_neg hh, hq, decide_eq_false hh, if_neg (by decide)]
  have hl1 : (E.take 1).length = 1 := by rw [List.length_take]; omega
  have hl2 : (E.drop 1).length = n := by rw [List.length_drop]; omega
  have hpl := places_tot' (nos_dg (dg_take hEd 1)) (nos_dg (dg_drop hEd 1)) q hc h1 h2 (by omega) hqn; rw [← hT, hl2] at hpl; have hj := joined_tot (a := E.take 1) (b := E.drop 1) h (by omega); obtain ⟨H, hH⟩ : ∃ H, H = E.take 1 ++ (if q = true then 46 :: E.drop 1 else []) := ⟨_, rfl⟩; have hjH : (E.take 1 ++ (if E.drop 1 = [] ∧ h = false then [] else 46 :: E.drop 1)) = H := by
    rw [hH]; by_cases hh : E.drop 1 = [] ∧ h = false
    · have : (E.drop 1).length = 0 := by rw [hh.1]; rfl
      have hqf : q = false := by rw [hq]; exact decide_eq_false (by rw [hh.2]; simp; omega)
      rw [if_pos hh, hqf, if_neg (by decide)]
    have hqt : q = true := by
      rw [hq]; refine decide_eq_true ?_; rcases Nat.lt_or_ge 1 E.length with h9 | h9
      · exact .inl h9
      refine .inr ?_; cases h with
      | true => rfl
      | false => exact absurd ⟨List.drop_of_length_le h9, rfl⟩ hh
    rw [if_neg hh, hqt, if_pos rfl]
  rw [hjH] at hj; have hHl : H.length ≤ n + 2 := by
    rw [hH, List.length_append]; split
    · rw [List.length_cons]; omega
    simp; omega
  have hTH : eBody E X h c = (H ++ [c]) ++ (if X < 0 then 45 else 43) :: r := by rw [hT, ← hH, hr, List.append_assoc]; rfl
  have hv1 : strOfNums [v] = S [c] := by
    rw [← hmv]; have := nums_rep 1 c; exact this
  have hx0 : (S E).extract 0 1 = S (E.take 1) := s_take E 1; have hx1 : (S E).extract 1 E.length = S (E.drop 1) := s_drop2 E 1; have hHc : (H ++ [c]).length = H.length + 1 := by rw [List.length_append]; rfl
  have hTl : (eBody E X h c).length = H.length + 2 + r.length := by rw [hTH, List.length_append, hHc, List.length_cons]; omega
  have htk : (S (eBody E X h c)).extract 0 (H.length + 1) = S (H ++ [c]) := by
    rw [s_take, hTH, List.take_append_of_le_length (by rw [hHc]; exact Nat.le_refl _), List.take_of_length_le (by rw [hHc]; exact Nat.le_refl _)]
  have hbt : bt (S (eBody E X h c)) ((H.length + 1 : Nat) : Int) = (((if X < 0 then 45 else 43 : UInt8)).toNat : Int) := by
    have hi : H.length + 1 < (eBody E X h c).length := by omega
    rw [bt_get hi]; congr 2
    have : (eBody E X h c)[H.length + 1]? = some (if X < 0 then 45 else 43) := by
      rw [hTH, List.getElem?_append_right (by rw [hHc]; exact Nat.le_refl _), hHc, Nat.sub_self]; rfl
    rw [List.getElem?_eq_getElem hi] at this; exact Option.some.inj this
  have q0 : H.length + [c].length ≤ 9223372036854775807 := by rw [List.length_singleton]; omega
  have q1 : ((eBody E X h c).length : Int) ≥ ((H.length + 1 : Nat) : Int) + 3 := by rw [hTl]; omega
  have q2 : (0 : Int) ≤ ((H.length + 1 : Nat) : Int) := by omega
  have q3 : ((H.length + 1 : Nat) : Int) ≤ ((eBody E X h c).length : Int) := by rw [hTl]; omega
  have q4 : ((H.length + 1 : Nat) : Int) < ((eBody E X h c).length : Int) := by rw [hTl]; omega
  have e3 : wrap64 (((H.length + 1 : Nat) : Int) + 3) = ((H.length + 1 : Nat) : Int) + 3 := by rw [w64 (by omega) (by omega)]
  have hend : (((((if X < 0 then 45 else 43 : UInt8)).toNat : Int) == 43) == decide (X ≥ 0)) = true := by
    by_cases hX0 : X < 0
    · rw [if_pos hX0, decide_eq_false (by omega)]; rfl
    rw [if_neg hX0, decide_eq_true (by omega)]; rfl
  refine Ev.step (fun k => by rw [abacuslaw15_PointDigits.j3, if_neg (by decide), e1]) ?_; refine Evx.bindc hF (fun k => by simp only [if_true, s_size]; rw [hEl, show (((n + 1 : Nat) : Int) != ((n + 1 : Nat) : Int)) = false by simp]) ?_; refine Ev.step (fun k => by rw [abacuslaw15_PointDigits.j4, if_neg (by decide), if_pos (by decide), if_pos (by rw [s_size]; omega), hx0, s_size E, hx1, hj, Option.bind_some, Option.bind_some, hv1, s_size H, s_size [c], s_app H [c], s_size (H ++ [c]), if_pos q0]) ?_; refine Evx.bindc (h := fun _ => some true) hpl (fun k => ?_) (Ev.now _); simp only [if_true]; rw [hHc, s_size (eBody E X h c), e3, if_pos q1, if_pos q2, if_pos q3, Int.toNat_natCast, htk, if_pos rfl, if_pos q4, hbt, hend]
/-- PointDigits is true. -/
theorem PointDigits_tot (v fl w p d : Int) (h0 : 0 ≤ d) (h1 : d < 18446744073709551616) : Ev (fun k => abacuslaw15_PointDigits.f k v fl w p d) true := by
  obtain ⟨D, hDd⟩ : ∃ D, D = Int.tmod d 9223372036854775808 := ⟨_, rfl⟩; have hDm : D = d % 9223372036854775808 := by rw [hDd]; exact Int.tmod_eq_emod_of_nonneg h0
  have hD0 : 0 ≤ D ∧ D < 9223372036854775808 := by omega
  have hDt : Int.tmod D 9223372036854775808 = D := by rw [Int.tmod_eq_emod_of_nonneg hD0.1]; omega
  have hwr := wrong_tot v fl w p; have hbare : abacuslaw15_bare.f v fl w p = some (v, Go.bits .and .i64 fl 8, 0, p) := rfl; unfold abacuslaw15_PointDigits.f; rw [← hDd]; refine Evx.bindc awake_tot (fun k => by rw [if_pos rfl]) ?_; refine Ev.bind hwr ?_; refine Ev.congr (fun k => by rw [hbare, Option.bind_some]) ?_; have bad : ∀ (W : Int) (T : ByteArray) (e : Int), (W = 140 → e = 140) → Ev (fun k => abacuslaw15_PointDigits.j0 k D W T e true v fl w p) true := fun W T e h => by
    refine Ev.step (f := fun _ => some true) (fun k => ?_) (Ev.now _); rw [abacuslaw15_PointDigits.j0, if_pos rfl]; by_cases hW : W = 140
    · rw [if_pos hW, h hW, hW]; rfl
    rw [if_neg hW]
  by_cases hv : verbOk v
  · rw [if_pos hv]
    by_cases hw : wrongE fl w p = 0
    · have hb : (0 ≤ fl ∧ fl ≤ 31) ∧ (-1 ≤ p ∧ p ≤ 4096) := by
        unfold wrongE at hw; split at hw
        · cases hw
        split at hw
        · cases hw
        omega
      obtain ⟨f0, f1, f2, f4, f16, f8⟩ := fl8 hb.1.1 hb.1.2; have hw2 : wrongE (Go.bits .and .i64 fl 8) 0 p = 0 := by unfold wrongE; rw [if_neg (by omega), if_neg (by omega)]
      obtain ⟨c, hc, hcc⟩ := class_fin hD0.1 (show D < 18446744073709551616 by omega); have hhd : headL (Go.bits .and .i64 fl 8) D = [] := by unfold headL; rw [if_neg (by omega), if_pos f2, if_pos f4]
      rcases hcc with ⟨hc3, hfin⟩ | ⟨hc34, hfin⟩
      · obtain ⟨neg, ds, x, hA, hD⟩ := All_tot D hD0.1 (by omega) hc hc3
        have hR := Render_fin hv hw2 hc hc3 hA hD; rw [pad_bare f1 f16, hhd, List.nil_append] at hR; have hz : abacuslaw15_finite.f D = some true := by unfold abacuslaw15_finite.f; rw [hDt, decide_eq_true (by omega)]
        obtain ⟨n, hn⟩ : ∃ n, precN p = n := ⟨_, rfl⟩; have hn2 : n ≤ 4096 := by rw [← hn]; unfold precN; split <;> omega
        obtain ⟨h, hh⟩ : ∃ h, (Go.bits .and .i64 fl 8 != 0) = h := ⟨_, rfl⟩; have hhF : hashF (Go.bits .and .i64 fl 8) = h := by unfold hashF; rw [f8, hh]
        rw [hn, hhF] at hR; refine Evx.bindc hR (fun k => by rw [if_pos hw, hz, Option.bind_some]) ?_; simp only [Bool.not_true]; have hp : (if p = -1 then (6 : Int) else p) = (n : Int) := by rw [← hn]; unfold precN; split <;> split <;> omega
        have hj2 : Ev (fun k => abacuslaw15_PointDigits.j1 k D (S (bodyL v ds x n h)) 0 (n : Int) v fl w p) true := by
          by_cases hvf : v = 102 ∨ v = 70
          · have hbd : bodyL v ds x n h = fBody ds x n h := by unfold bodyL; rw [if_pos hvf]
            have hj3 : Ev (fun k => abacuslaw15_PointDigits.j2 k D (S (bodyL v ds x n h)) 0 (n : Int) h true v fl w p) true := by
              have hl := hD.len; have h3 := ahead_len ds x n; have h4 := behind_len ds x n; have h5 := placesU_le (ds := ds) (x := x) (n := n) (by omega) hD.hi; have hj := joined_tot (a := ahead ds x n) (b := behind ds x n) h (by omega); have hfb : ahead ds x n ++ (if behind ds x n = [] ∧ h = false then [] else 46 :: behind ds x n) = fBody ds x n h := by
                unfold fBody; by_cases hb0 : behind ds x n = []
                · have n0 : n = 0 := by rw [hb0] at h4; exact h4.symm
                  by_cases hhf : h = false
                  · rw [if_pos ⟨hb0, hhf⟩, if_pos ⟨n0, hhf⟩]
                  rw [if_neg (fun q => hhf q.2), if_neg (fun q => hhf q.2)]
                have n0 : n ≠ 0 := fun q => hb0 (List.eq_nil_of_length_eq_zero (by rw [h4]; exact q))
                rw [if_neg (fun q => hb0 q.1), if_neg (fun q => n0 q.1)]
              rw [hfb] at hj; refine Ev.step (fun k => by rw [abacuslaw15_PointDigits.j2, if_pos rfl]) ?_; refine Evx.bindc (h := fun _ => some true) (Places_tot hA hD n (by omega)) (fun k => ?_) (Ev.now _); simp only [if_true]; rw [hj, Option.bind_some, hbd, beq_self_eq_true]
            by_cases h102 : v = 102
            · exact Ev.step (fun k => by rw [abacuslaw15_PointDigits.j1, if_pos h102, hh]) hj3
            have h70 : (v == 70) = true := beq_iff_eq.2 (by omega); exact Ev.step (fun k => by rw [abacuslaw15_PointDigits.j1, if_neg h102, hh, h70]) hj3
          refine Ev.step (fun k => by rw [abacuslaw15_PointDigits.j1, if_neg (by omega), hh, show (v == 70) = false from beq_eq_false_iff_ne.2 (by omega)]) ?_; by_cases hve : v = 101 ∨ v = 69
          · have hbd : bodyL v ds x n h = eBody (figD ds (n + 1)) (figX ds x (n + 1)) h (markL v) := by unfold bodyL; rw [if_neg hvf, if_pos hve]
            have he := dig_e hA hD hn2 hve fl w p h; rw [← hbd] at he; by_cases h101 : v = 101
            · exact Ev.step (fun k => by rw [abacuslaw15_PointDigits.j2, if_neg (by decide), if_pos h101]) he
            have h69 : (v != 69) = false := bne_eq_false_iff_eq.2 (by omega); exact Ev.step (fun k => by rw [abacuslaw15_PointDigits.j2, if_neg (by decide), if_neg h101, h69]) he
          have h69 : (v != 69) = true := bne_iff_ne.2 (by omega); refine Ev.step (fun k => by rw [abacuslaw15_PointDigits.j2, if_neg (by decide), if_neg (by omega), h69]) ?_; exact Ev.step (f := fun _ => some true) (fun k => by rw [abacuslaw15_PointDigits.j3, if_pos rfl]; rfl) (Ev.now _)
        refine Ev.step (fun k => ?_) hj2; rw [abacuslaw15_PointDigits.j0, if_neg (by decide)]; by_cases hp1 : p = -1
        · rw [if_pos hp1] at hp
          rw [if_pos hp1, hp]
        rw [if_neg hp1] at hp; rw [if_neg hp1, ← hp]
      have hR := Render_inf (v := v) hv hw2 hc hc34; have hz : abacuslaw15_finite.f D = some false := by unfold abacuslaw15_finite.f; rw [hDt, decide_eq_false (by omega)]
      refine Evx.bindc hR (fun k => by rw [if_pos hw, hz, Option.bind_some]) ?_; exact bad _ _ _ (fun h => by omega)
    obtain ⟨R, hR⟩ := Render_any (v := v) (fl := Go.bits .and .i64 fl 8) (w := 0) (p := p) hv hD0.1 (show D < 18446744073709551616 by omega); refine Evx.bindc hR (fun k => by rw [if_neg hw]) ?_; refine bad _ _ _ (fun h => ?_); exfalso; unfold wrongE at h; split at h
    · omega
    split at h <;> omega
  rw [if_neg hv]; refine Evx.bindc (Render_verb hv) (fun k => by rw [if_neg (by decide)]) ?_; exact bad _ _ _ (fun _ => rfl)
end Go.Proofs.YtgbjojokjekmhaaGreatDoor.Num
