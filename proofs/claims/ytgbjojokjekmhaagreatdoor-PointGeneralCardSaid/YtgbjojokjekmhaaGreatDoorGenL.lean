/- The law of PointGeneral answers true; plain, no program; conditions: a precision of machine size, a double's bits. -/
import Derived.Test.YtgbjojokjekmhaaGreatDoorRdrT
import Derived.Test.YtgbjojokjekmhaaGreatDoorScanL
import Derived.Test.YtgbjojokjekmhaaGreatDoorPadsP
import Derived.Test.YtgbjojokjekmhaaGreatDoorPXDy
import Derived.Test.YtgbjojokjekmhaaGreatDoorPXGy
namespace Go.Proofs.YtgbjojokjekmhaaGreatDoor.Num
open Go.RowKit Go.Proofs.YtgbjojokjekmhaaGreatDoor.PXC Go.Proofs.YtgbjojokjekmhaaGreatDoorW.PrintWords Go.Proofs.YtgbjojokjekmhaaGreatDoorW.PrintLast Go.Proofs.YtgbjojokjekmhaaGreatDoorW.PrintMore
set_option linter.unusedVariables false
set_option linter.unusedSimpArgs false

theorem nines_get {l : List UInt8} (h : nines l = l.length) : ∀ x ∈ l, x = 57 := by
  unfold nines at h
  have hp := List.takeWhile_prefix (p := fun c : UInt8 => c == 57) (l := l.reverse)
  have he : l.reverse.takeWhile (fun c => c == 57) = l.reverse := hp.eq_of_length (by rw [h, List.length_reverse])
  have ha : (l.reverse.takeWhile (fun c : UInt8 => c == 57)).all (fun c => c == 57) = true := List.all_takeWhile
  rw [he, List.all_eq_true] at ha
  intro x hx
  have := ha x (List.mem_reverse.2 hx)
  simpa using this
theorem bump_nines {l : List UInt8} (h : ∀ x ∈ l, x = 57) : bump l = (List.replicate l.length 48, true) := by
  have h2 : nines l = l.length := nines_all (fun i hi => by
    rw [List.getD_eq_getElem?_getD, List.getElem?_eq_getElem hi]
    exact h _ (List.getElem_mem hi))
  unfold bump
  rw [if_pos h2]
/-- A digit carried out of p figures is carried out of one fewer too. -/
theorem row_carry {ds : List UInt8} {p : Nat} (hp : 1 ≤ p) (h : (rowL ds (p : Int)).2 = true) : rowL ds (p : Int) = (49 :: List.replicate p 48, true) ∧ rowL ds ((p - 1 : Nat) : Int) = (49 :: List.replicate (p - 1) 48, true) := by
  have hlt : p < ds.length := by
    rcases Nat.lt_or_ge p ds.length with h1 | h1
    · exact h1
    · exfalso
      unfold rowL at h
      rw [if_neg (by omega), if_pos (by omega)] at h
      cases h
  have key : ∀ q : Nat, q < ds.length → rowL ds (q : Int) = if (roundR (S ds) q false).2 = true then (49 :: (roundR (S ds) q false).1, true) else ((roundR (S ds) q false).1, false) := fun q hq => by
    unfold rowL
    rw [if_neg (by omega), if_neg (by omega), Int.toNat_natCast]
  have hr : (roundR (S ds) p false).2 = true := by
    rw [key p hlt] at h
    split at h
    · rename_i h2; exact h2
    · cases h
  have hn : downR (S ds) p false = false ∧ nines (ds.take p) = (ds.take p).length := by
    unfold roundR at hr
    split at hr
    · cases hr
    · rename_i hd
      refine ⟨by simpa using hd, ?_⟩
      unfold bump at hr
      split at hr
      · rename_i h9; exact h9
      · cases hr
  have h9 := nines_get hn.2
  have hl : (ds.take p).length = p := List.length_take_of_le (by omega)
  have hl2 : (ds.take (p - 1)).length = p - 1 := List.length_take_of_le (by omega)
  have h9b : ∀ x ∈ ds.take (p - 1), x = 57 := fun x hx => h9 x (by
    have : ds.take (p - 1) = (ds.take p).take (p - 1) := by rw [List.take_take, Nat.min_eq_left (by omega)]
    rw [this] at hx
    exact List.mem_of_mem_take hx)
  have r1 : roundR (S ds) p false = (List.replicate p 48, true) := by
    unfold roundR
    rw [if_neg (by rw [hn.1]; decide)]
    have := bump_nines h9
    rw [hl] at this
    exact this
  have hg : ds.getD (p - 1) 0 = 57 := by
    rw [List.getD_eq_getElem?_getD, List.getElem?_eq_getElem (by omega)]
    refine h9 _ ?_
    have : (ds.take p)[p - 1]'(by omega) = ds[p - 1]'(by omega) := List.getElem_take
    show ds[p - 1]'(by omega) ∈ _
    rw [← this]
    exact List.getElem_mem _
  have hdn : downR (S ds) (p - 1) false = false := by
    unfold downR
    have e : (S ds).data.toList.getD (p - 1) 0 = 57 := hg
    rw [e]
    rfl
  have r2 : roundR (S ds) (p - 1) false = (List.replicate (p - 1) 48, true) := by
    unfold roundR
    rw [if_neg (by rw [hdn]; decide)]
    have := bump_nines h9b
    rw [hl2] at this
    exact this
  rw [key p hlt, key (p - 1) (by omega), r1, r2]
  exact ⟨rfl, rfl⟩
/-- Without a carry the row is as long as was asked for. -/
theorem row_plain {ds : List UInt8} {p : Nat} (h : (rowL ds (p : Int)).2 = false) : (rowL ds (p : Int)).1.length = p := by
  rw [rowL_len, if_neg (by rw [h]; decide)]
/-- The places of the row that g takes are its figures, with zeros ahead. -/
theorem gen_places {ds : List UInt8} {x : Int} {p : Nat} (hp : 1 ≤ p) (h2 : figX ds x p < (p : Int)) : placesU ds x ((p : Int) - 1 - figX ds x p).toNat = List.replicate (-figX ds x p).toNat 48 ++ figD ds p := by
  obtain ⟨n, hn⟩ : ∃ n : Nat, n = ((p : Int) - 1 - figX ds x p).toNat := ⟨_, rfl⟩
  have hnX : (n : Int) = (p : Int) - 1 - figX ds x p := by omega
  rw [← hn]
  by_cases h48 : ds = [48]
  · have hX : figX ds x p = 0 := by unfold figX; rw [if_pos h48]
    have hT : placesT ds x n = [] := by unfold placesT; rw [if_pos h48]
    have hD : figD ds p = List.replicate p 48 := by unfold figD; rw [if_pos h48]
    unfold placesU
    rw [hT, if_pos (by simp), hD, hX]
    have : n + 1 - ([] : List UInt8).length = p := by simp; omega
    rw [this]
    simp
  · have hT : placesT ds x n = (rowL ds ((ds.length : Int) + x + (n : Int))).1 := by unfold placesT; rw [if_neg h48]
    have hTD : placesT ds x n = figD ds p := by
      unfold figX at hnX
      rw [if_neg h48] at hnX
      unfold figD
      rw [hT, if_neg h48]
      cases hc : (rowL ds (p : Int)).2 with
      | true =>
        rw [if_pos hc] at hnX
        obtain ⟨e1, e2⟩ := row_carry hp hc
        have e3 : (ds.length : Int) + x + (n : Int) = ((p - 1 : Nat) : Int) := by omega
        rw [e3, e1, e2]
        obtain ⟨q, rfl⟩ : ∃ q, p = q + 1 := ⟨p - 1, by omega⟩
        simp
      | false =>
        rw [if_neg (by rw [hc]; decide)] at hnX
        have e3 : (ds.length : Int) + x + (n : Int) = (p : Int) := by omega
        rw [e3, List.take_of_length_le (by rw [row_plain hc]; exact Nat.le_refl _)]
    have hl := figD_len ds p
    unfold placesU
    rw [hTD, hl]
    by_cases hlt : p ≤ n
    · rw [if_pos hlt]
      have : n + 1 - p = (-figX ds x p).toNat := by omega
      rw [this]
    · rw [if_neg hlt]
      have : (-figX ds x p).toNat = 0 := by omega
      rw [this]
      rfl
theorem gen_fix {ds : List UInt8} {x : Int} {p : Nat} (hp : 1 ≤ p) (h1 : -4 ≤ figX ds x p) (h2 : figX ds x p < (p : Int)) : gMain (figD ds p) (figX ds x p) p = ahead ds x ((p : Int) - 1 - figX ds x p).toNat ++ 46 :: behind ds x ((p : Int) - 1 - figX ds x p).toNat := by
  have hU := gen_places hp h2
  have hl := figD_len ds p
  have hUl : (placesU ds x ((p : Int) - 1 - figX ds x p).toNat).length = (-figX ds x p).toNat + p := by
    rw [hU, List.length_append, List.length_replicate, hl]
  unfold ahead behind gMain
  rw [if_pos ⟨h1, h2⟩, hUl, hU]
  by_cases h0 : figX ds x p < 0
  · rw [if_pos h0]
    have e1 : (-figX ds x p).toNat + p - ((p : Int) - 1 - figX ds x p).toNat = 1 := by omega
    obtain ⟨j, hj⟩ : ∃ j : Nat, (-figX ds x p).toNat = j + 1 := ⟨(-figX ds x p).toNat - 1, by omega⟩
    have e2 : (-figX ds x p - 1).toNat = j := by omega
    rw [e1, e2, hj, List.replicate_succ, List.cons_append]
    rfl
  · rw [if_neg h0]
    have e1 : (-figX ds x p).toNat = 0 := by omega
    have e2 : 0 + p - ((p : Int) - 1 - figX ds x p).toNat = (figX ds x p + 1).toNat := by omega
    rw [e1, e2]
    simp
end Go.Proofs.YtgbjojokjekmhaaGreatDoor.Num
namespace Go.Proofs.YtgbjojokjekmhaaGreatDoor.Num
open Go.RowKit Go.Proofs.YtgbjojokjekmhaaGreatDoor.PXC Go.Proofs.YtgbjojokjekmhaaGreatDoorW.PrintWords Go.Proofs.YtgbjojokjekmhaaGreatDoorW.PrintLast Go.Proofs.YtgbjojokjekmhaaGreatDoorW.PrintMore
set_option linter.unusedVariables false
set_option linter.unusedSimpArgs false

theorem decs_dg : ∀ (u : Nat), Dg (Lib.decDigits u) ∧ 1 ≤ (Lib.decDigits u).length ∧ (10 ≤ u → 2 ≤ (Lib.decDigits u).length) := by
  intro u; induction u using Nat.strongRecOn with
  | _ u ih =>
    rw [Lib.decDigits]; have one : ∀ m : Nat, m < 10 → Dg [UInt8.ofNat (48 + m)] := fun m hm b hb => by
      rw [List.mem_singleton.1 hb, UInt8.toNat_ofNat']; omega
    split
    · rename_i h
      exact ⟨one u h, Nat.le_refl _, fun h2 => by omega⟩
    rename_i h; obtain ⟨i1, i2, _⟩ := ih (u / 10) (by omega); refine ⟨dg_append.2 ⟨i1, one _ (by omega)⟩, ?_, fun _ => ?_⟩
    · rw [List.length_append, List.length_singleton]; omega
    rw [List.length_append, List.length_singleton]; omega
/-- A power's text: the mark, the sign, two digits or more. -/
theorem tail_shape (X : Int) (c : UInt8) (h1 : -4194304 ≤ X) (h2 : X ≤ 4194304) : ∃ r, tailL X c = c :: (if X < 0 then 45 else 43) :: r ∧ Dg r ∧ 2 ≤ r.length ∧ expL 0 r = (if X < 0 then -X else X) := by
  obtain ⟨Y, hY⟩ : ∃ Y : Int, Y = if X < 0 then -X else X := ⟨_, rfl⟩
  have hY0 : 0 ≤ Y ∧ Y ≤ 4194304 := by rw [hY]; split <;> omega
  have hit : Lib.itoa Y = Lib.decDigits Y.toNat := by unfold Lib.itoa; rw [if_neg (by omega)]
  obtain ⟨d1, d2, d3⟩ := decs_dg Y.toNat; have hv := expL_dec Y.toNat (by omega); have e0 : expL 0 (48 :: Lib.decDigits Y.toNat) = Y := by
    have : expL 0 (48 :: Lib.decDigits Y.toNat) = expL 0 (Lib.decDigits Y.toNat) := rfl; rw [this, hv]; omega
  have hd48 : Dg (48 :: Lib.decDigits Y.toNat) := dg_cons.2 ⟨by decide, d1⟩; unfold tailL; rw [← hY, hit]; by_cases hX : X < 0
  · rw [if_pos hX] at hY ⊢
    rw [if_pos hX]; by_cases h10 : -X < 10
    · exact ⟨48 :: Lib.decDigits Y.toNat, by rw [if_pos h10]; rfl, hd48, by rw [List.length_cons]; omega, e0⟩
    exact ⟨Lib.decDigits Y.toNat, by rw [if_neg h10]; rfl, d1, d3 (by omega), by rw [hv]; omega⟩
  rw [if_neg hX] at hY ⊢; rw [if_neg hX]; by_cases h10 : X < 10
  · exact ⟨48 :: Lib.decDigits Y.toNat, by rw [if_pos h10]; rfl, hd48, by rw [List.length_cons]; omega, e0⟩
  exact ⟨Lib.decDigits Y.toNat, by rw [if_neg h10]; rfl, d1, d3 (by omega), by rw [hv]; omega⟩
theorem lit_tail {c : UInt8} (hc : c = 101 ∨ c = 69) {X : Int} (h1 : -4194304 ≤ X) (h2 : X ≤ 4194304) : litL (49 :: tailL X c) 0 = (false, [49], X, (tailL X c).length + 1, true) := by
  obtain ⟨r, hr, hdg, hlen, hv⟩ := tail_shape X c h1 h2; rw [hr]; have run3 : ((49 :: c :: (if X < 0 then 45 else 43) :: r).drop 3).takeWhile isD = r := all_run hdg; obtain ⟨sg, hsg⟩ : ∃ sg : UInt8, sg = if X < 0 then 45 else 43 := ⟨_, rfl⟩
  rw [← hsg] at run3 ⊢; obtain ⟨l, hl⟩ : ∃ l, l = 49 :: c :: sg :: r := ⟨_, rfl⟩; rw [← hl] at run3 ⊢; have g0 : l[0]? = some 49 := by rw [hl]; rfl
  have g1 : l[1]? = some c := by rw [hl]; rfl
  have g2 : l[2]? = some sg := by rw [hl]; rfl
  have g3 : atD l 3 = true := by
    unfold atD; cases hq : r with
    | nil => rw [hq] at hlen; simp at hlen
    | cons x q =>
      rw [hl, hq]; rw [hq] at hdg; exact isD_iff.2 (dg_cons.1 hdg).1
  have a0 : at2 l 0 43 45 = false := by unfold at2; rw [g0]; rfl
  have a0m : negL l 0 = false := by unfold negL at2; rw [g0]; rfl
  have f0 : fromL l 0 = 0 := by unfold fromL; rw [a0]; rfl
  have d0 : atD l 0 = true := by unfold atD; rw [g0]; rfl
  have d1 : atD l 1 = false := by unfold atD; rw [g1]; rcases hc with rfl | rfl <;> rfl
  have r0 : runD l 0 = 1 := by rw [runD_succ d0, runD_zero d1]
  have p0 : hasP l 0 = false := by
    unfold hasP at2; rw [r0, Nat.zero_add, g1]; rcases hc with rfl | rfl <;> rfl
  have m0 : mantE l 0 = 1 := by unfold mantE; rw [p0, if_neg (by decide), r0]
  have q0 : plN l 0 = 0 := by unfold plN; rw [p0, if_neg (by decide)]
  have s0 : digsL l 0 = [49] := by
    unfold digsL; rw [p0, if_neg (by decide), r0, hl]; rfl
  have x1 : expAt l 1 = 3 := by
    have : at2 l 2 43 45 = true := by
      have hs2 : sg = 45 ∨ sg = 43 := by rw [hsg]; split <;> simp
      unfold at2; rw [g2]; rcases hs2 with h | h <;> (rw [h]; rfl)
    unfold expAt; rw [this, if_pos rfl]
  have e1 : hasE l 1 = true := by
    unfold hasE; rw [x1, g3]; unfold at2; rw [g1]; rcases hc with rfl | rfl <;> rfl
  have run4 : runD l 3 = r.length := by unfold runD; rw [run3]
  have v1 : expV l 1 = X := by
    have hx : expAtL 0 l 3 = if X < 0 then -X else X := by unfold expAtL; rw [run3, hv]
    have hs : at2 l 2 45 45 = decide (X < 0) := by
      unfold at2; rw [g2, hsg]; by_cases h : X < 0
      · rw [if_pos h, decide_eq_true h]; rfl
      rw [if_neg h, decide_eq_false h]; rfl
    unfold expV; rw [e1, if_pos rfl, x1, hx, hs]; by_cases h : X < 0
    · rw [decide_eq_true h, if_pos rfl, if_pos h]; omega
    rw [decide_eq_false h, if_neg (by decide), if_neg h]
  have n1 : endE l 1 = l.length := by
    unfold endE; rw [e1, if_pos rfl, x1, run4, hl]; simp only [List.length_cons]; omega
  unfold litL; rw [f0, m0, if_neg (by decide), a0m, s0, v1, q0, n1, hl]; rw [show X - ((0 : Nat) : Int) = X by omega]; simp only [List.length_cons]
end Go.Proofs.YtgbjojokjekmhaaGreatDoor.Num
namespace Go.Proofs.YtgbjojokjekmhaaGreatDoor.Num
open Go.RowKit Go.Proofs.YtgbjojokjekmhaaGreatDoor.PXC Go.Proofs.YtgbjojokjekmhaaGreatDoor.PXD Go.Proofs.YtgbjojokjekmhaaGreatDoorW.PrintWords Go.Proofs.YtgbjojokjekmhaaGreatDoorW.PrintLast Go.Proofs.YtgbjojokjekmhaaGreatDoorW.PrintMore
set_option linter.unusedVariables false
set_option linter.unusedSimpArgs false

theorem bt_get {l : List UInt8} {i : Nat} (h : i < l.length) : bt (S l) (i : Int) = ((l[i]'h).toNat : Int) := by
  have h2 : ((i : Int)).toNat < (S l).size := by rw [s_size, Int.toNat_natCast]; exact h
  rw [← bt_at _ _ h2]; rfl
theorem drop_cons {l T : List UInt8} {i : Nat} {b : UInt8} (h : l.drop i = b :: T) : ∃ hi : i < l.length, l[i]'hi = b ∧ l.drop (i + 1) = T := by
  have hi : i < l.length := by
    rcases Nat.lt_or_ge i l.length with h1 | h1
    · exact h1
    rw [List.drop_of_length_le h1] at h; cases h
  rw [List.drop_eq_getElem_cons hi] at h; injection h with h1 h2; exact ⟨hi, h1, h2⟩
/-- Neither a point nor a mark. -/
def NoS (l : List UInt8) : Prop := ∀ b ∈ l, b.toNat ≠ 46 ∧ b.toNat ≠ 101 ∧ b.toNat ≠ 69
theorem nos_dg {l : List UInt8} (h : Dg l) : NoS l := fun b hb => by have := h b hb; omega
theorem nos_nil : NoS [] := fun _ h => by cases h
theorem nos_app {a b : List UInt8} (h1 : NoS a) (h2 : NoS b) : NoS (a ++ b) := fun x hx => by
  rcases List.mem_append.1 hx with hx | hx
  · exact h1 x hx
  · exact h2 x hx
theorem number_tail {c : UInt8} (hc : c = 101 ∨ c = 69) {X : Int} (h1 : -4194304 ≤ X) (h2 : X ≤ 4194304) : Ev (fun k => scan_Number.f k (S (49 :: tailL X c))) (false, S [49], X, ((tailL X c).length : Int) + 1) := by
  have hl := tailL_len X c h1 h2; have hb : Ev (fun k => scan_blanks.f k (S (49 :: tailL X c)) 0) 0 := by
    refine Ev.step (f := fun _ => some 0) (fun k => ?_) (Ev.now _); show scan_blanks.l0 (k + 1) _ 0 = _; have e0 : bt (S (49 :: tailL X c)) 0 = 49 := bt_get (i := 0) (by simp); rw [scan_blanks.l0, if_pos (by rw [s_size, List.length_cons]; omega), if_pos (by omega), e0]; rfl
  have hlit : scan_literal.f (S (49 :: tailL X c)) 0 = some (false, S [49], X, ((tailL X c).length : Int) + 1, true) := by
    unfold scan_literal.f; rw [if_pos ⟨by omega, by omega, by rw [s_size, List.length_cons]; omega⟩, s_data]; have := lit_tail hc h1 h2; show some (litF (49 :: tailL X c) 0) = _; unfold litF; rw [this]; simp
  have hn : scan_normal.f false (S [49]) X = some (false, S [49], X) := by
    have t1 : strings_TrimLeft.f (S [49]) (⟨#[48]⟩ : ByteArray) = some (S [49]) := by
      unfold strings_TrimLeft.f; rw [if_pos rfl]; rfl
    have t2 : strings_TrimRight.f (S [49]) (⟨#[48]⟩ : ByteArray) = some (S [49]) := by
      unfold strings_TrimRight.f; rw [if_pos rfl, if_pos (by rw [s_size]; simp)]; rfl
    have t3 : strings_Clone.f (S [49]) = some (S [49]) := by
      unfold strings_Clone.f; rw [if_pos (by rw [s_size]; simp)]
    have e : wrap64 (wrap64 (X + (((S [49]).size : Nat) : Int)) - (((S [49]).size : Nat) : Int)) = X := by
      rw [s_size]; rw [w64 (x := X + _) (by simp; omega) (by simp; omega), w64 (by simp; omega) (by simp; omega)]; simp
    unfold scan_normal.f; rw [t1, Option.bind_some, s_list, if_neg (by simp), t2, Option.bind_some, t3, Option.bind_some, e]
  unfold scan_Number.f; refine Evx.bindc (h := fun _ => some (false, S [49], X, ((tailL X c).length : Int) + 1)) hb (fun k => ?_) (Ev.now _); rw [hlit, Option.bind_some]; simp only [if_true]; rw [hn, Option.bind_some]
theorem pl_skip {l : List UInt8} (hl : l.length ≤ 16777216) {R : Int × Int} : ∀ (A T : List UInt8) (i : Nat) (n : Int), NoS A → l.drop i = A ++ T → -1 ≤ n → n + (A.length : Int) ≤ 33554432 →
    Ev (fun k => abacuslaw15_places.l0 k (S l) (if 0 ≤ n then n + (A.length : Int) else n) 0 ((i + A.length : Nat) : Int)) R → Ev (fun k => abacuslaw15_places.l0 k (S l) n 0 (i : Int)) R := by
  intro A; induction A with
  | nil =>
    intro T i n _ _ _ _ h; have e : (if 0 ≤ n then n + (([] : List UInt8).length : Int) else n) = n := by split <;> simp
    rw [e] at h; exact h
  | cons b A ih =>
    intro T i n hA hd hn hn2 h; obtain ⟨hi, hb, hd2⟩ := drop_cons hd; have hbs := hA b (List.mem_cons_self ..); have hA2 : NoS A := fun x hx => hA x (List.mem_cons_of_mem _ hx)
    rw [List.length_cons] at hn2 h; have e1 : wrap64 ((i : Int) + 1) = ((i + 1 : Nat) : Int) := by rw [w64 (by omega) (by omega)]; omega
    have hbt := bt_get hi; rw [hb] at hbt; have e69 : ((b.toNat : Int) == 69) = false := beq_eq_false_iff_ne.2 (by omega); refine Ev.step (fun k => by rw [abacuslaw15_places.l0, if_pos (by rw [s_size]; omega), if_pos (by omega), hbt, if_neg (by omega), if_neg (by omega), e69]) ?_; by_cases h0 : 0 ≤ n
    · have e2 : wrap64 (n + 1) = n + 1 := by rw [w64 (by omega) (by omega)]
      rw [if_pos h0] at h; refine Ev.step (fun k => by rw [abacuslaw15_places.j1, if_neg (by decide), if_pos h0, e1, e2]) (ih T (i + 1) (n + 1) hA2 hd2 (by omega) (by omega) ?_); rw [if_pos (by omega), show n + 1 + (A.length : Int) = n + ((A.length + 1 : Nat) : Int) by omega, show i + 1 + A.length = i + (A.length + 1) by omega]; exact h
    rw [if_neg h0] at h; refine Ev.step (fun k => by rw [abacuslaw15_places.j1, if_neg (by decide), if_neg h0, e1]) (ih T (i + 1) n hA2 hd2 hn (by omega) ?_); rw [if_neg h0, show i + 1 + A.length = i + (A.length + 1) by omega]; exact h
theorem pl_tail {l : List UInt8} (hl : l.length ≤ 16777216) {c : UInt8} (hc : c = 101 ∨ c = 69) {X : Int} (h1 : -4194304 ≤ X) (h2 : X ≤ 4194304) {i : Nat} (hd : l.drop i = tailL X c) (n : Int) : Ev (fun k => abacuslaw15_places.l0 k (S l) n 0 (i : Int)) (if n < 0 then 0 else n, X) := by
  obtain ⟨r, hr, -, hrl, -⟩ := tail_shape X c h1 h2; obtain ⟨hi, hb, -⟩ := drop_cons (hd.trans hr); have hbt := bt_get hi; rw [hb] at hbt; have hlen : l.length - i = (tailL X c).length := by rw [← hd, List.length_drop]
  have he : (S l).extract i l.length = S (tailL X c) := by rw [s_drop2, hd]
  have e1 : wrap64 (wrap64 ((l.length : Int) - (i : Int)) + 1) = ((tailL X c).length : Int) + 1 := by rw [w64 (x := (l.length : Int) - (i : Int)) (by omega) (by omega), w64 (by omega) (by omega)]; omega
  have htl := tailL_len X c h1 h2; have hj : Ev (fun k => abacuslaw15_places.j1 k (S l) n 0 (i : Int) true) (if n < 0 then 0 else n, X) := by
    have e49 : (⟨#[49]⟩ : ByteArray) ++ S (tailL X c) = S (49 :: tailL X c) := s_app [49] _; refine Ev.step (fun k => by rw [abacuslaw15_places.j1, if_pos rfl, if_pos (by omega), if_pos (by rw [s_size]; omega), s_size l, Int.toNat_natCast, he, s_size (tailL X c), if_pos (by omega), e49]) ?_; refine Evx.bindc (h := fun _ => some (if n < 0 then 0 else n, X)) (number_tail hc h1 h2) (fun k => ?_) (Ev.now _); simp only; rw [e1, if_pos rfl]; split <;> rfl
  rcases hc with rfl | rfl
  · exact Ev.step (fun k => by rw [abacuslaw15_places.l0, if_pos (by rw [s_size]; omega), if_pos (by omega), hbt, if_neg (by decide), if_pos (by decide)]) hj
  exact Ev.step (fun k => by rw [abacuslaw15_places.l0, if_pos (by rw [s_size]; omega), if_pos (by omega), hbt, if_neg (by decide), if_neg (by decide)]; rfl) hj
/-- A text of P, a point with B behind it if q, and a power. -/
theorem places_tot' {P B : List UInt8} (hP : NoS P) (hB : NoS B) (q : Bool) {c : UInt8} (hc : c = 101 ∨ c = 69) {X : Int} (h1 : -4194304 ≤ X) (h2 : X ≤ 4194304) (hl : P.length + B.length ≤ 8388608) (hq : q = false → B = []) : Ev (fun k => abacuslaw15_places.f k (S (P ++ (if q = true then 46 :: B else []) ++ tailL X c))) ((B.length : Int), X) := by
  have htl := tailL_len X c h1 h2; obtain ⟨l, hL⟩ : ∃ l, l = P ++ (if q = true then 46 :: B else []) ++ tailL X c := ⟨_, rfl⟩; have hll : l.length ≤ 16777216 := by
    rw [hL]; simp only [List.length_append]; split
    · simp only [List.length_cons]; omega
    simp only [List.length_nil]; omega
  rw [← hL]; unfold abacuslaw15_places.f; have z : (0 : Int) = ((0 : Nat) : Int) := rfl; refine pl_skip hll P ((if q = true then 46 :: B else []) ++ tailL X c) 0 (-1) hP (by rw [hL, List.append_assoc]; rfl) (by omega) (by omega) ?_; rw [if_neg (by omega), Nat.zero_add]; have hd : l.drop P.length = (if q = true then 46 :: B else []) ++ tailL X c := by rw [hL, List.append_assoc, List.drop_left]
  cases q with
  | false =>
    rw [hq rfl]; exact pl_tail hll hc h1 h2 hd (-1)
  | true =>
    have hd' : l.drop P.length = 46 :: (B ++ tailL X c) := hd; obtain ⟨hi, hb, hd2⟩ := drop_cons hd'; have hbt := bt_get hi; rw [hb] at hbt; have e1 : wrap64 ((P.length : Int) + 1) = ((P.length + 1 : Nat) : Int) := by rw [w64 (by omega) (by omega)]; omega
    refine Ev.step (fun k => by rw [abacuslaw15_places.l0, if_pos (by rw [s_size]; omega), if_pos (by omega), hbt, if_pos (by decide), e1]) ?_; refine pl_skip hll B (tailL X c) (P.length + 1) 0 hB hd2 (by omega) (by omega) ?_; rw [if_pos (by omega), Int.zero_add]; have hd3 : l.drop (P.length + 1 + B.length) = tailL X c := by
      rw [← List.drop_drop, hd2, List.drop_left]
    have := pl_tail hll hc h1 h2 hd3 (B.length : Int); rw [if_neg (by omega)] at this; exact this
theorem joined_tot {a b : List UInt8} (h : Bool) (hl : a.length + b.length ≤ 16777216) : abacuslaw15_joined.f (S a) (S b) h = some (S (a ++ (if b = [] ∧ h = false then [] else 46 :: b))) := by
  have hdot : (⟨#[46]⟩ : ByteArray) = S [46] := rfl; have c1 : a.length + 1 ≤ 9223372036854775807 := by omega
  have c2 : (a ++ [46]).length + b.length ≤ 9223372036854775807 := by rw [List.length_append, List.length_singleton]; omega
  have e : a ++ [46] ++ b = a ++ 46 :: b := by rw [List.append_assoc]; rfl
  unfold abacuslaw15_joined.f; simp only [s_list, s_size, hdot, s_app]; by_cases hb : b = []
  · rw [if_pos hb]
    cases h with
    | true => rw [if_pos rfl, if_pos c1, if_pos c2, e, if_neg (fun h => by cases h.2)]
    | false => rw [if_neg (by decide), if_pos ⟨hb, rfl⟩, List.append_nil]
  rw [if_neg hb, if_pos c1, if_pos c2, e, if_neg (fun h => hb h.1)]
theorem Render_any {v fl w p d : Int} (hv : verbOk v) (h0 : 0 ≤ d) (h1 : d < 18446744073709551616) : ∃ R, Ev (fun k => point_Render.f k v fl w p d) R := by
  by_cases hw : wrongE fl w p = 0
  · obtain ⟨c, hc, hcc⟩ := class_fin h0 h1
    rcases hcc with ⟨hc3, -⟩ | ⟨hc34, -⟩
    · obtain ⟨neg, ds, x, hA, hD⟩ := All_tot d h0 h1 hc hc3
      exact ⟨_, Render_fin hv hw hc hc3 hA hD⟩
    exact ⟨_, Render_inf hv hw hc hc34⟩
  exact ⟨_, Render_bad hv hw⟩
theorem fl8 {fl : Int} (h0 : 0 ≤ fl) (h1 : fl ≤ 31) : (0 ≤ Go.bits .and .i64 fl 8 ∧ Go.bits .and .i64 fl 8 ≤ 31) ∧ Go.bits .and .i64 (Go.bits .and .i64 fl 8) 1 = 0 ∧ Go.bits .and .i64 (Go.bits .and .i64 fl 8) 2 = 0 ∧ Go.bits .and .i64 (Go.bits .and .i64 fl 8) 4 = 0 ∧ Go.bits .and .i64 (Go.bits .and .i64 fl 8) 16 = 0 ∧ (Go.bits .and .i64 (Go.bits .and .i64 fl 8) 8 != 0) = (Go.bits .and .i64 fl 8 != 0) := all32 (P := fun fl => (0 ≤ Go.bits .and .i64 fl 8 ∧ Go.bits .and .i64 fl 8 ≤ 31) ∧ Go.bits .and .i64 (Go.bits .and .i64 fl 8) 1 = 0 ∧ Go.bits .and .i64 (Go.bits .and .i64 fl 8) 2 = 0 ∧ Go.bits .and .i64 (Go.bits .and .i64 fl 8) 4 = 0 ∧ Go.bits .and .i64 (Go.bits .and .i64 fl 8) 16 = 0 ∧ (Go.bits .and .i64 (Go.bits .and .i64 fl 8) 8 != 0) = (Go.bits .and .i64 fl 8 != 0)) (by decide) h0 h1
/-- No width, no sign: the text is the body. -/
theorem pad_bare {fl : Int} {hd bd : List UInt8} (h1 : Go.bits .and .i64 fl 1 = 0) (h16 : Go.bits .and .i64 fl 16 = 0) (z : Bool) : padL fl 0 hd bd z = hd ++ bd := by
  unfold padL; rw [if_pos h1, if_pos (.inl h16)]; simp
end Go.Proofs.YtgbjojokjekmhaaGreatDoor.Num
namespace Go.Proofs.YtgbjojokjekmhaaGreatDoor.Num
open Go.RowKit Go.Proofs.YtgbjojokjekmhaaGreatDoor.PXC Go.Proofs.YtgbjojokjekmhaaGreatDoor.PXD Go.Proofs.YtgbjojokjekmhaaGreatDoor.PXG Go.Proofs.YtgbjojokjekmhaaGreatDoorW.PrintWords Go.Proofs.YtgbjojokjekmhaaGreatDoorW.PrintLast Go.Proofs.YtgbjojokjekmhaaGreatDoorW.PrintMore
set_option linter.unusedVariables false
set_option linter.unusedSimpArgs false

/-! ### zeros at the end -/
theorem trim_dec (A : List UInt8) : ∃ z, A = Lib.trimRightB A 48 ++ List.replicate z 48 := by
  unfold Lib.trimRightB; have h := List.takeWhile_append_dropWhile (p := fun x : UInt8 => x == 48) (l := A.reverse); have ha : (A.reverse.takeWhile (fun x : UInt8 => x == 48)).all (fun x => x == 48) = true := List.all_takeWhile; rw [List.all_eq_true] at ha; obtain ⟨T, hT⟩ : ∃ T, A.reverse.takeWhile (fun x : UInt8 => x == 48) = T := ⟨_, rfl⟩; rw [hT] at h ha; have hr : T = List.replicate T.length 48 := List.eq_replicate_iff.2 ⟨rfl, fun b hb => by simpa using ha b hb⟩; have hrev : T.reverse = List.replicate T.length 48 := by
    conv => lhs; rw [hr]
    exact List.reverse_replicate
  have h2 := congrArg List.reverse h; rw [List.reverse_append, List.reverse_reverse] at h2; exact ⟨T.length, by rw [← hrev]; exact h2.symm⟩
theorem trim_last (A : List UInt8) : Lib.trimRightB A 48 = [] ∨ ∃ u y, Lib.trimRightB A 48 = u ++ [y] ∧ y ≠ 48 := by
  have key : ∀ (l : List UInt8) (y : UInt8) (q : List UInt8), l.dropWhile (fun x => x == 48) = y :: q → y ≠ 48 := by
    intro l; induction l with
    | nil => intro y q h; cases h
    | cons x l ih =>
      intro y q h; by_cases hx : x = 48
      · subst hx
        rw [List.dropWhile_cons_of_pos (by decide)] at h; exact ih y q h
      rw [List.dropWhile_cons_of_neg (by simpa using hx)] at h; injection h with h1 _; rw [← h1]; exact hx
  unfold Lib.trimRightB; cases hd : A.reverse.dropWhile (fun x => x == 48) with
  | nil => exact .inl rfl
  | cons y q => exact .inr ⟨q.reverse, y, List.reverse_cons, key _ y q hd⟩
theorem trim_app {h m : List UInt8} (hm : 46 ∈ m) : Lib.trimRightB (h ++ m) 48 = h ++ Lib.trimRightB m 48 ∧ Lib.trimRightB m 48 ≠ [] := by
  have h4 : ∀ q : List UInt8, 46 ∈ q → 46 ∈ q.dropWhile (fun x => x == 48) := by
    intro q; induction q with
    | nil => intro h; cases h
    | cons x q ih =>
      intro h; by_cases hx : x = 48
      · subst hx
        rw [List.dropWhile_cons_of_pos (by decide)]; rcases List.mem_cons.1 h with h | h
        · exact absurd h (by decide)
        exact ih h
      rw [List.dropWhile_cons_of_neg (by simpa using hx)]; exact h
  have h5 := h4 m.reverse (List.mem_reverse.2 hm); have hne : (m.reverse.dropWhile (fun x => x == 48)).isEmpty = false := by
    cases hd : m.reverse.dropWhile (fun x => x == 48) with
    | nil => rw [hd] at h5; cases h5
    | cons a b => rfl
  unfold Lib.trimRightB; constructor
  · rw [List.reverse_append, List.dropWhile_append, hne]
    simp
  intro h0; rw [List.reverse_eq_nil_iff] at h0; rw [h0] at h5; cases h5
theorem strip_app {h m : List UInt8} (hm : 46 ∈ m) : stripL (h ++ m) = h ++ stripL m := by
  obtain ⟨e, hne⟩ := trim_app (h := h) hm; have hl : (h ++ Lib.trimRightB m 48).getLast? = (Lib.trimRightB m 48).getLast? := by
    rw [List.getLast?_append]; cases hq : (Lib.trimRightB m 48).getLast? with
    | none => exact absurd (List.getLast?_eq_none_iff.1 hq) hne
    | some x => rfl
  unfold stripL; rw [e, hl]; split
  · rw [List.dropLast_append_of_ne_nil hne]
  rfl
theorem strip_dot (A : List UInt8) : stripL (A ++ [46]) = A := by
  have e : Lib.trimRightB (A ++ [46]) 48 = A ++ [46] := by
    unfold Lib.trimRightB; rw [List.reverse_append]; show ((46 :: A.reverse).dropWhile (fun x => x == 48)).reverse = _; rw [List.dropWhile_cons_of_neg (by decide), List.reverse_cons, List.reverse_reverse]
  unfold stripL; rw [e, if_pos (by rw [List.getLast?_append]; rfl), List.dropLast_concat]
/-! ### the loops -/
def NoE (l : List UInt8) : Prop := ∀ b ∈ l, b.toNat ≠ 101 ∧ b.toNat ≠ 69
def hasDot : List UInt8 → Bool
  | [] => false
  | b :: r => (b == 46) || hasDot r
theorem hasDot_iff (l : List UInt8) : hasDot l = true ↔ 46 ∈ l := by
  induction l with
  | nil => simp [hasDot]
  | cons b r ih =>
    rw [hasDot, Bool.or_eq_true, ih, beq_iff_eq, List.mem_cons]; constructor
    · rintro (h | h)
      · exact .inl h.symm
      exact .inr h
    rintro (h | h)
    · exact .inl h.symm
    exact .inr h
theorem wo_scan {l : List UInt8} (hl : l.length ≤ 16777216) {E : List UInt8} (hE : E = [] ∨ ∃ c r, E = c :: r ∧ (c = 101 ∨ c = 69)) {R : ByteArray} : ∀ (A : List UInt8) (i : Nat) (pt : Bool), NoE A → l.drop i = A ++ E → i ≤ l.length →
    Ev (fun k => abacuslaw15_without.j2 k (S l) ((i + A.length : Nat) : Int) (pt || hasDot A)) R → Ev (fun k => abacuslaw15_without.l0 k (S l) (l.length : Int) pt (i : Int)) R := by
  intro A; induction A with
  | nil =>
    intro i pt _ hd hi h; rw [List.length_nil, Nat.add_zero, hasDot, Bool.or_false] at h; rw [List.nil_append] at hd; rcases hE with rfl | ⟨c, r, rfl, hc⟩
    · have hil : i = l.length := by
        have := congrArg List.length hd; rw [List.length_drop, List.length_nil] at this; omega
      rw [hil] at h ⊢; exact Ev.step (fun k => by rw [abacuslaw15_without.l0, if_neg (by rw [s_size]; omega)]) h
    obtain ⟨hi2, hb, -⟩ := drop_cons hd; have hbt := bt_get hi2; rw [hb] at hbt; have hj : Ev (fun k => abacuslaw15_without.j1 k (S l) (l.length : Int) pt (i : Int) true) R := Ev.step (fun k => by rw [abacuslaw15_without.j1, if_pos rfl]) h; rcases hc with rfl | rfl
    · exact Ev.step (fun k => by rw [abacuslaw15_without.l0, if_pos (by rw [s_size]; omega), if_pos (by omega), hbt, if_pos (by decide)]) hj
    exact Ev.step (fun k => by rw [abacuslaw15_without.l0, if_pos (by rw [s_size]; omega), if_pos (by omega), hbt, if_neg (by decide)]; rfl) hj
  | cons b A ih =>
    intro i pt hA hd hi h; obtain ⟨hi2, hb, hd2⟩ := drop_cons hd; have hbs := hA b (List.mem_cons_self ..); have hA2 : NoE A := fun x hx => hA x (List.mem_cons_of_mem _ hx)
    have e1 : wrap64 ((i : Int) + 1) = ((i + 1 : Nat) : Int) := by rw [w64 (by omega) (by omega)]; omega
    have hbt := bt_get hi2; rw [hb] at hbt; have e69 : ((b.toNat : Int) == 69) = false := beq_eq_false_iff_ne.2 (by omega); rw [List.length_cons, hasDot, show i + (A.length + 1) = i + 1 + A.length by omega, ← Bool.or_assoc] at h; refine Ev.step (fun k => by rw [abacuslaw15_without.l0, if_pos (by rw [s_size]; omega), if_pos (by omega), hbt, if_neg (by omega), e69]) ?_; by_cases h46 : b = 46
    · have e46 : (pt || b == 46) = true := by rw [h46]; simp
      rw [e46] at h; exact Ev.step (fun k => by rw [abacuslaw15_without.j1, if_neg (by decide), if_pos (by omega), if_pos (by rw [s_size]; omega), hbt, if_pos (by rw [h46]; rfl), e1]) (ih (i + 1) true hA2 hd2 (by omega) h)
    have e46 : (pt || b == 46) = pt := by rw [beq_eq_false_iff_ne.2 h46, Bool.or_false]
    have hn46 : ¬ ((b.toNat : Int) = 46) := fun hh => h46 (UInt8.toNat_inj.1 (by show b.toNat = 46; omega))
    rw [e46] at h; exact Ev.step (fun k => by rw [abacuslaw15_without.j1, if_neg (by decide), if_pos (by omega), if_pos (by rw [s_size]; omega), hbt, if_neg hn46, e1]) (ih (i + 1) pt hA2 hd2 (by omega) h)
/-- What stands when the zeros are gone. -/
theorem wo_cut {A E : List UInt8} (hl : (A ++ E).length ≤ 16777216) (hd : 46 ∈ A) : Ev (fun k => abacuslaw15_without.l1 k (S (A ++ E)) (A.length : Int) true (A.length : Int)) (S (stripL A ++ E)) := by
  obtain ⟨z, hz⟩ := trim_dec A; obtain ⟨-, hne⟩ := trim_app (h := []) hd; obtain ⟨u, y, hu, hy⟩ : ∃ u y, Lib.trimRightB A 48 = u ++ [y] ∧ y ≠ 48 := (trim_last A).resolve_left hne; have hle : (A ++ E).length = A.length + E.length := List.length_append; have hEx : (S (A ++ E)).extract A.length (A.length + E.length) = S E := by
    have := s_drop2 (A ++ E) A.length; rw [hle, List.drop_left] at this; exact this
  rw [hu] at hz; have hAl : A.length = u.length + 1 + z := by
    have := congrArg List.length hz; rw [List.length_append, List.length_append, List.length_singleton, List.length_replicate] at this; exact this
  have hyn : ¬ ((y.toNat : Int) = 48) := fun hh => hy (UInt8.toNat_inj.1 (by show y.toNat = 48; omega))
  have hst : stripL A = if y = 46 then u else u ++ [y] := by
    have hgl : (u ++ [y]).getLast? = some y := by rw [List.getLast?_append]; rfl
    unfold stripL; rw [hu, hgl]; by_cases h46 : y = 46
    · rw [if_pos h46, if_pos (by rw [h46]), List.dropLast_concat]
    rw [if_neg h46, if_neg (fun hh => h46 (Option.some.inj hh))]
  have fin : Ev (fun k => abacuslaw15_without.l1 k (S (A ++ E)) (A.length : Int) true ((u.length + 1 : Nat) : Int)) (S (stripL A ++ E)) := by
    have e1 : wrap64 (((u.length + 1 : Nat) : Int) - 1) = (u.length : Int) := by rw [w64 (by omega) (by omega)]; omega
    have hi : u.length < (A ++ E).length := by omega
    have hbt := bt_get hi; have hg : (A ++ E)[u.length]'hi = y := by
      have : (A ++ E)[u.length]? = some y := by
        rw [List.getElem?_append_left (by omega), hz, List.getElem?_append_left (by rw [List.length_append, List.length_singleton]; omega), List.getElem?_append_right (Nat.le_refl _), Nat.sub_self]; rfl
      rw [List.getElem?_eq_getElem hi] at this; exact Option.some.inj this
    rw [hg] at hbt; have t1 : (S (A ++ E)).extract 0 u.length = S u := by
      rw [s_take, List.take_append_of_le_length (by omega), hz, List.append_assoc, List.take_left]
    have t2 : (S (A ++ E)).extract 0 (u.length + 1) = S (u ++ [y]) := by
      have hl1 : (u ++ [y]).length = u.length + 1 := by rw [List.length_append]; rfl
      rw [s_take, List.take_append_of_le_length (by omega), hz, ← hl1, List.take_left]
    refine Ev.step (f := fun _ => some (S (stripL A ++ E))) (fun k => ?_) (Ev.now _); rw [abacuslaw15_without.l1, if_pos rfl, if_pos (by omega), e1, if_pos (by omega), if_pos (by rw [s_size]; omega), hbt, if_neg hyn, hst]; by_cases h46 : y = 46
    · rw [if_pos (by rw [h46]; rfl), if_pos (by rw [s_size]; omega), if_pos (by omega), if_pos (by rw [s_size]; omega), Int.toNat_natCast, Int.toNat_natCast, t1, s_size (A ++ E), hle, hEx, s_size u, s_size E, if_pos (by omega), s_app, if_pos h46]
    have hn46 : ¬ ((y.toNat : Int) = 46) := fun hh => h46 (UInt8.toNat_inj.1 (by show y.toNat = 46; omega))
    rw [if_neg hn46, if_pos (by omega), if_pos (by rw [s_size]; omega), if_pos (by omega), if_pos (by rw [s_size]; omega), Int.toNat_natCast, Int.toNat_natCast, t2, s_size (A ++ E), hle, hEx, s_size (u ++ [y]), s_size E, if_pos (by rw [List.length_append, List.length_singleton]; omega), s_app, if_neg h46]
  have down : ∀ j : Nat, j ≤ z → Ev (fun k => abacuslaw15_without.l1 k (S (A ++ E)) (A.length : Int) true ((u.length + 1 + j : Nat) : Int)) (S (stripL A ++ E)) := by
    intro j; induction j with
    | zero => intro _; exact fin
    | succ j ih =>
      intro hj; have e1 : wrap64 (((u.length + 1 + (j + 1) : Nat) : Int) - 1) = ((u.length + 1 + j : Nat) : Int) := by rw [w64 (by omega) (by omega)]; omega
      have hi : u.length + 1 + j < (A ++ E).length := by omega
      have hbt := bt_get hi; have hg : (A ++ E)[u.length + 1 + j]'hi = 48 := by
        have : (A ++ E)[u.length + 1 + j]? = some 48 := by
          rw [List.getElem?_append_left (by omega), hz, List.getElem?_append_right (by rw [List.length_append, List.length_singleton]; omega), List.getElem?_replicate, if_pos (by rw [List.length_append, List.length_singleton]; omega)]
        rw [List.getElem?_eq_getElem hi] at this; exact Option.some.inj this
      rw [hg] at hbt; exact Ev.step (fun k => by rw [abacuslaw15_without.l1, if_pos rfl, if_pos (by omega), e1, if_pos (by omega), if_pos (by rw [s_size]; omega), hbt, if_pos (by decide)]) (ih (by omega))
  have := down z (Nat.le_refl _); rw [← hAl] at this; exact this
theorem without_tot {A E : List UInt8} (hA : NoE A) (hE : E = [] ∨ ∃ c r, E = c :: r ∧ (c = 101 ∨ c = 69)) (hl : (A ++ E).length ≤ 16777216) : Ev (fun k => abacuslaw15_without.f k (S (A ++ E))) (S ((if 46 ∈ A then stripL A else A) ++ E)) := by
  have hle : (A ++ E).length = A.length + E.length := List.length_append; unfold abacuslaw15_without.f; simp only [s_size]; refine wo_scan hl hE A 0 false hA rfl (Nat.zero_le _) ?_; rw [Nat.zero_add, Bool.false_or]; refine Ev.step (fun k => by rw [abacuslaw15_without.j2]) ?_; by_cases hd : 46 ∈ A
  · rw [if_pos hd, (hasDot_iff A).2 hd]
    exact wo_cut hl hd
  have hf : hasDot A = false := by
    cases h : hasDot A with
    | false => rfl
    | true => exact absurd ((hasDot_iff A).1 h) hd
  rw [if_neg hd, hf]; have t1 : (S (A ++ E)).extract 0 A.length = S A := by rw [s_take, List.take_left]
  have hEx : (S (A ++ E)).extract A.length (A.length + E.length) = S E := by
    have := s_drop2 (A ++ E) A.length; rw [hle, List.drop_left] at this; exact this
  refine Ev.step (f := fun _ => some (S (A ++ E))) (fun k => ?_) (Ev.now _); rw [abacuslaw15_without.l1, if_neg (by decide), if_pos (by omega), if_pos (by rw [s_size]; omega), if_pos (by omega), if_pos (by rw [s_size]; omega), Int.toNat_natCast, t1, s_size (A ++ E), hle, hEx, s_size A, s_size E, if_pos (by omega), s_app]
end Go.Proofs.YtgbjojokjekmhaaGreatDoor.Num
namespace Go.Proofs.YtgbjojokjekmhaaGreatDoor.Num
open Go.RowKit Go.Proofs.YtgbjojokjekmhaaGreatDoor.PXC Go.Proofs.YtgbjojokjekmhaaGreatDoor.PXD Go.Proofs.YtgbjojokjekmhaaGreatDoor.PXG Go.Proofs.YtgbjojokjekmhaaGreatDoorW.PrintWords Go.Proofs.YtgbjojokjekmhaaGreatDoorW.PrintLast Go.Proofs.YtgbjojokjekmhaaGreatDoorW.PrintMore
set_option linter.unusedVariables false
set_option linter.unusedSimpArgs false

theorem head_nos (fl d : Int) : NoS (headL fl d) := by
  rcases headL_cases fl d with h | ⟨b, h, hb⟩
  · rw [h]; exact nos_nil
  rw [h]; intro x hx; rw [List.mem_singleton.1 hx]; omega
theorem noe_nos {l : List UInt8} (h : NoS l) : NoE l := fun b hb => (h b hb).2
theorem noe_app {a b : List UInt8} (h1 : NoE a) (h2 : NoE b) : NoE (a ++ b) := fun x hx => by
  rcases List.mem_append.1 hx with hx | hx
  · exact h1 x hx
  · exact h2 x hx
theorem noe_dot {b : List UInt8} (h : NoE b) : NoE (46 :: b) := fun x hx => by
  rcases List.mem_cons.1 hx with rfl | hx
  · decide
  · exact h x hx
theorem nodot {l : List UInt8} (h : NoS l) : 46 ∉ l := fun hm => (h _ hm).1 rfl
/-- Without the zeros: sign, digits, a point and digits behind it if there are any (q), and a power. -/
theorem wo_main {P B E : List UInt8} (hP : NoS P) (hB : NoS B) {q : Bool} (hq : q = false → B = []) (hE : E = [] ∨ ∃ c r, E = c :: r ∧ (c = 101 ∨ c = 69)) (hl : P.length + B.length + E.length ≤ 8388608) : Ev (fun k => abacuslaw15_without.f k (S (P ++ (if q = true then 46 :: B else []) ++ E))) (S (stripL (P ++ 46 :: B) ++ E)) := by
  cases q with
  | false =>
    rw [hq rfl, if_neg (by decide), List.append_nil]; have := without_tot (noe_nos hP) hE (by rw [List.length_append]; omega); rw [if_neg (nodot hP)] at this; rw [strip_dot]; exact this
  | true =>
    rw [if_pos rfl]; have := without_tot (A := P ++ 46 :: B) (noe_app (noe_nos hP) (noe_dot (noe_nos hB))) hE (by rw [List.length_append, List.length_append, List.length_cons]; omega); rw [if_pos (by simp)] at this; exact this
theorem tailE_mark {c : UInt8} (hc : c = 101 ∨ c = 69) (X : Int) : ∃ a r, tailL X c = a :: r ∧ (a = 101 ∨ a = 69) := by
  unfold tailL; exact ⟨c, _, rfl, hc⟩
/-- e's body with m figures, said by a flag. -/
theorem eBody_q (E : List UInt8) (X : Int) (h : Bool) (c : UInt8) : ∃ q : Bool, (q = false → E.drop 1 = []) ∧ (h = true → q = true) ∧ eBody E X h c = E.take 1 ++ (if q = true then 46 :: E.drop 1 else []) ++ tailL X c := by
  refine ⟨decide (1 < E.length ∨ h = true), fun hf => ?_, fun hh => decide_eq_true (.inr hh), ?_⟩
  · have := of_decide_eq_false hf
    exact List.drop_of_length_le (by omega)
  unfold eBody; by_cases hh : 1 < E.length ∨ h = true
  · rw [if_pos hh, decide_eq_true hh, if_pos rfl]
  rw [if_neg hh, decide_eq_false hh, if_neg (by decide)]
/-- f's body, said by a flag. -/
theorem fBody_q (ds : List UInt8) (x : Int) (n : Nat) (h : Bool) : ∃ q : Bool, (q = false → behind ds x n = []) ∧ (h = true → q = true) ∧ fBody ds x n h = ahead ds x n ++ (if q = true then 46 :: behind ds x n else []) := by
  refine ⟨!decide (n = 0 ∧ h = false), fun hf => ?_, fun hh => ?_, ?_⟩
  · have h0 : decide (n = 0 ∧ h = false) = true := by simpa using hf
    have := (of_decide_eq_true h0).1; exact List.eq_nil_of_length_eq_zero (by rw [behind_len]; exact this)
  · have : ¬ (n = 0 ∧ h = false) := fun q => by rw [hh] at q; cases q.2
    rw [decide_eq_false this]; rfl
  unfold fBody; by_cases hh : n = 0 ∧ h = false
  · rw [if_pos hh, decide_eq_true hh]; rfl
  rw [if_neg hh, decide_eq_false hh]; rfl
section
variable {neg : Bool} {ds : List UInt8} {x d : Int}
theorem gen_j3 (hA : Ev (fun k => fixed_All.f k d) (neg, S ds, x, 0)) (hD : Dec neg ds x) {c : Int} (hc : ieee_Class.f d = some c) (hc3 : c < 3) (cap : Bool) (h : Bool) {m : Nat} (hm1 : 1 ≤ m) (hm2 : m ≤ 4096) (F : Int) (hF : F = if h = true then 8 else 0) (mk : UInt8) (hmk : mk = if cap = true then 69 else 101) (V : ByteArray) (hV : V = if cap = true then (⟨#[71, 69, 70]⟩ : ByteArray) else (⟨#[103, 101, 102]⟩ : ByteArray)) :
    Ev (fun k => abacuslaw15_PointGeneral.j3 k h d V F (S (headL F d ++ gBody (figD ds m) (figX ds x m) m h mk)) 0 (m : Int)) true := by
  have hF1 : Go.bits .and .i64 F 1 = 0 := by rw [hF]; split <;> decide
  have hF16 : Go.bits .and .i64 F 16 = 0 := by rw [hF]; split <;> decide
  have hFh : hashF F = h := by rw [hF]; unfold hashF; cases h <;> decide
  have hFr : 0 ≤ F ∧ F ≤ 31 := by rw [hF]; split <;> omega
  have hhd := head_nos F d; have hhl := headL_len F d; obtain ⟨hd, hhd0⟩ : ∃ hd, headL F d = hd := ⟨_, rfl⟩; rw [hhd0] at hhd hhl ⊢; have hmk2 : mk = 101 ∨ mk = 69 := by rw [hmk]; split <;> simp
  have hb1 : bt V 1 = if cap = true then 69 else 101 := by rw [hV]; cases cap <;> rfl
  have hb2 : bt V 2 = if cap = true then 70 else 102 := by rw [hV]; cases cap <;> rfl
  have hVs : (V.size : Int) = 3 := by rw [hV]; cases cap <;> rfl
  have hw1 : wrongE F 0 ((m : Int) - 1) = 0 := by unfold wrongE; rw [if_neg (by omega), if_neg (by omega)]
  have e1 : wrap64 ((m : Int) - 1) = (m : Int) - 1 := by rw [w64 (by omega) (by omega)]
  have hv1 : verbOk (bt V 1) := by rw [hb1]; cases cap <;> decide
  have hR1 := Render_fin hv1 hw1 hc hc3 hA hD; have hpn : precN ((m : Int) - 1) = m - 1 := by unfold precN; rw [if_neg (by omega)]; omega
  have hbd1 : bodyL (bt V 1) ds x (m - 1) h = eBody (figD ds m) (figX ds x m) h mk := by
    have hmm : m - 1 + 1 = m := by omega
    rw [hb1, hmk]; cases cap <;> (unfold bodyL markL; simp [hmm])
  rw [pad_bare hF1 hF16, hhd0, hpn, hFh, hbd1] at hR1; obtain ⟨hX1, hX2⟩ := figX_rng hD m; have hgf := fun a b => gen_fix (ds := ds) (x := x) hm1 a b
  have hEl := figD_len ds m; have hEd := figD_dg hD.dg m; obtain ⟨X, hX⟩ : ∃ X, figX ds x m = X := ⟨_, rfl⟩; obtain ⟨E, hE⟩ : ∃ E, figD ds m = E := ⟨_, rfl⟩; rw [hX] at hX1 hX2 hR1 ⊢; rw [hE] at hEl hEd hR1 ⊢; rw [hX, hE] at hgf; obtain ⟨q, hq1, hq2, hq3⟩ := eBody_q E X h mk; have htl := tailL_len X mk hX1 hX2; have hE1 : (E.take 1).length ≤ 1 := by rw [List.length_take]; omega
  have hE2 : (E.drop 1).length = m - 1 := by rw [List.length_drop, hEl]
  have hP : NoS (hd ++ E.take 1) := nos_app hhd (nos_dg (dg_take hEd 1)); have hB : NoS (E.drop 1) := nos_dg (dg_drop hEd 1); have hpl := places_tot' hP hB q hmk2 hX1 hX2 (by rw [List.length_append]; omega) hq1; have hu : hd ++ eBody E X h mk = hd ++ E.take 1 ++ (if q = true then 46 :: E.drop 1 else []) ++ tailL X mk := by rw [hq3]; simp only [List.append_assoc]
  rw [← hu] at hpl; have fin4 : ∀ (T U : List UInt8), T = U → (some (decide (T = U)) : Option Bool) = some true := fun T U h => by rw [decide_eq_true h]
  -- the power is written
  have far : ¬ (-4 ≤ X ∧ X < (m : Int)) → Ev (fun k => abacuslaw15_PointGeneral.j4 k h d V F (S (hd ++ gBody E X m h mk)) 0 (m : Int) (S (hd ++ eBody E X h mk)) 0 X false) true := by
    intro hn; have hg : gMain E X m = E.take 1 ++ 46 :: E.drop 1 := by unfold gMain; rw [if_neg hn, List.append_assoc]; rfl
    have he : gEnd X m mk = tailL X mk := by unfold gEnd; rw [if_neg hn]
    cases h with
    | true =>
      have ht : gBody E X m true mk = eBody E X true mk := by
        unfold gBody; rw [if_pos rfl, hg, he, hq3, hq2 rfl, if_pos rfl]
      refine Ev.step (f := fun _ => some true) (fun k => ?_) (Ev.now _); rw [abacuslaw15_PointGeneral.j4, if_neg (by decide), if_pos rfl, if_pos rfl, if_pos rfl, ht, beq_self_eq_true]
    | false =>
      have ht : hd ++ gBody E X m false mk = stripL (hd ++ E.take 1 ++ 46 :: E.drop 1) ++ tailL X mk := by
        unfold gBody; rw [if_neg (by decide), hg, he, List.append_assoc hd, strip_app (h := hd) (m := E.take 1 ++ 46 :: E.drop 1) (by simp)]; simp only [List.append_assoc]
      have hwo := wo_main hP hB hq1 (E := tailL X mk) (.inr (tailE_mark hmk2 X)) (by rw [List.length_append]; omega); rw [← hu, ← ht] at hwo; refine Ev.step (fun k => by rw [abacuslaw15_PointGeneral.j4, if_neg (by decide), if_neg (by decide)]) ?_; refine Evx.bindc (h := fun _ => some true) hwo (fun k => ?_) (Ev.now _); rw [if_pos rfl, if_pos rfl, beq_self_eq_true]
  -- it is not
  have close : -4 ≤ X → X < (m : Int) → Ev (fun k => abacuslaw15_PointGeneral.j4 k h d V F (S (hd ++ gBody E X m h mk)) 0 (m : Int) (S (hd ++ eBody E X h mk)) 0 X true) true := by
    intro ha hb; have e2 : wrap64 (wrap64 ((m : Int) - 1) - X) = (m : Int) - 1 - X := by rw [e1, w64 (by omega) (by omega)]
    by_cases hbig : (m : Int) - 1 - X > 4096
    · exact Ev.step (f := fun _ => some true) (fun k => by rw [abacuslaw15_PointGeneral.j4, if_pos rfl, e2, if_pos hbig]; rfl) (Ev.now _)
    obtain ⟨n, hn⟩ : ∃ n : Nat, n = ((m : Int) - 1 - X).toNat := ⟨_, rfl⟩; have hnX : (n : Int) = (m : Int) - 1 - X := by omega
    have hw2 : wrongE F 0 (n : Int) = 0 := by unfold wrongE; rw [if_neg (by omega), if_neg (by omega)]
    have hv2 : verbOk (bt V 2) := by rw [hb2]; cases cap <;> decide
    have hR2 := Render_fin hv2 hw2 hc hc3 hA hD; have hpn2 : precN (n : Int) = n := by unfold precN; rw [if_neg (by omega)]; omega
    have hbd2 : bodyL (bt V 2) ds x n h = fBody ds x n h := by
      rw [hb2]; cases cap <;> (unfold bodyL; simp)
    rw [pad_bare hF1 hF16, hhd0, hpn2, hFh, hbd2] at hR2; obtain ⟨q2, hr1, hr2, hr3⟩ := fBody_q ds x n h; have hg := hgf ha hb; rw [← hn] at hg; have he : gEnd X m mk = [] := by unfold gEnd; rw [if_pos ⟨ha, hb⟩]
    have hl := hD.len; have h3 := ahead_len ds x n; have h4 := behind_len ds x n; have h5 := placesU_le (ds := ds) (x := x) (n := n) (by omega) hD.hi; refine Ev.step (fun k => by rw [abacuslaw15_PointGeneral.j4, if_pos rfl, e2, if_neg hbig, if_pos (by omega), ← hnX]) ?_; refine Ev.bind hR2 ?_; cases h with
    | true =>
      have ht : gBody E X m true mk = fBody ds x n true := by
        unfold gBody; rw [if_pos rfl, hg, he, hr3, hr2 rfl, if_pos rfl, List.append_nil]
      refine Ev.congr (f := fun _ => some true) (fun k => ?_) (Ev.now _); rw [if_pos rfl, if_pos rfl, if_pos rfl, ht, beq_self_eq_true]
    | false =>
      have hwo := wo_main (P := hd ++ ahead ds x n) (B := behind ds x n) (E := []) (nos_app hhd (nos_dg (ahead_dg hD.dg x n))) (nos_dg (behind_dg hD.dg x n)) hr1 (.inl rfl) (by rw [List.length_append, List.length_nil]; omega); have hu2 : hd ++ ahead ds x n ++ (if q2 = true then 46 :: behind ds x n else []) ++ [] = hd ++ fBody ds x n false := by rw [hr3]; simp only [List.append_assoc, List.append_nil]
      have ht : hd ++ gBody E X m false mk = stripL (hd ++ ahead ds x n ++ 46 :: behind ds x n) ++ [] := by
        unfold gBody; rw [if_neg (by decide), hg, he, List.append_assoc hd, strip_app (h := hd) (m := ahead ds x n ++ 46 :: behind ds x n) (by simp)]; simp only [List.append_nil]
      rw [hu2, ← ht] at hwo; refine Ev.congr (fun k => by rw [if_neg (by decide)]) ?_; refine Evx.bindc (h := fun _ => some true) hwo (fun k => ?_) (Ev.now _); rw [if_pos rfl, if_pos rfl, beq_self_eq_true]
  refine Ev.step (fun k => by rw [abacuslaw15_PointGeneral.j3, if_pos (by omega), e1]) ?_; refine Ev.bind hR1 ?_; by_cases ha : X ≥ -4
  · by_cases hb : X < (m : Int)
    · refine Evx.bindc hpl (fun k => ?_) (close ha hb)
      simp only; rw [if_pos ha, decide_eq_true hb]
    refine Evx.bindc hpl (fun k => ?_) (far (fun q => hb q.2)); simp only; rw [if_pos ha, decide_eq_false hb]
  refine Evx.bindc hpl (fun k => ?_) (far (fun q => ha q.1)); simp only; rw [if_neg ha]
end
/-- PointGeneral is true. -/
theorem PointGeneral_tot (cap h : Bool) (p d : Int) (h0 : 0 ≤ d) (h1 : d < 18446744073709551616) : Ev (fun k => abacuslaw15_PointGeneral.f k cap h p d) true := by
  obtain ⟨V, hV⟩ : ∃ V, V = if cap = true then (⟨#[71, 69, 70]⟩ : ByteArray) else (⟨#[103, 101, 102]⟩ : ByteArray) := ⟨_, rfl⟩
  obtain ⟨F, hF⟩ : ∃ F : Int, F = if h = true then 8 else 0 := ⟨_, rfl⟩
  have hb0 : bt V 0 = if cap = true then 71 else 103 := by rw [hV]; cases cap <;> rfl
  have hVs : (V.size : Int) = 3 := by rw [hV]; cases cap <;> rfl
  have hv0 : verbOk (bt V 0) := by rw [hb0]; cases cap <;> decide
  have hF1 : Go.bits .and .i64 F 1 = 0 := by rw [hF]; split <;> decide
  have hF16 : Go.bits .and .i64 F 16 = 0 := by rw [hF]; split <;> decide
  have hFh : hashF F = h := by rw [hF]; unfold hashF; cases h <;> decide
  have hFr : 0 ≤ F ∧ F ≤ 31 := by rw [hF]; split <;> omega
  have hwF : wrongE F 0 p = wrongE 0 0 p := by
    have h1 : (F < 0 ∨ 31 < F ∨ (0 : Int) < 0 ∨ p < -1) ↔ ((0 : Int) < 0 ∨ (31 : Int) < 0 ∨ (0 : Int) < 0 ∨ p < -1) := by omega
    unfold wrongE; simp only [h1]
  have hwr := wrong_tot (bt V 0) 0 0 p; rw [if_pos hv0] at hwr; have bad : ∀ (T : ByteArray), Ev (fun k => abacuslaw15_PointGeneral.j2 k h p d V F T (wrongE F 0 p) true) true := fun T => by
    refine Ev.step (fun k => by rw [abacuslaw15_PointGeneral.j2, if_pos rfl, if_pos (by omega)]) ?_; refine Evx.bindc (h := fun _ => some true) hwr (fun k => ?_) (Ev.now _); rw [hwF, beq_self_eq_true]
  have main : Ev (fun k => abacuslaw15_PointGeneral.j1 k h p d V F) true := by
    refine Ev.step (fun k => by rw [abacuslaw15_PointGeneral.j1, if_pos (by omega)]) ?_; by_cases hw : wrongE F 0 p = 0
    · have hp : -1 ≤ p ∧ p ≤ 4096 := by
        unfold wrongE at hw; split at hw
        · cases hw
        split at hw
        · cases hw
        omega
      have hft : Int.tmod d 9223372036854775808 = d % 9223372036854775808 := Int.tmod_eq_emod_of_nonneg h0; obtain ⟨c, hc, hcc⟩ := class_fin h0 h1; rcases hcc with ⟨hc3, hfin⟩ | ⟨hc34, hfin⟩
      · have hz : abacuslaw15_finite.f d = some true := by unfold abacuslaw15_finite.f; rw [hft, decide_eq_true hfin]
        obtain ⟨neg, ds, x, hA, hD⟩ := All_tot d h0 h1 hc hc3; have hR := Render_fin hv0 hw hc hc3 hA hD; obtain ⟨m, hm⟩ : ∃ m : Nat, m = max (precN p) 1 := ⟨_, rfl⟩; have hmr : 1 ≤ m ∧ m ≤ 4096 := by rw [hm]; unfold precN; split <;> omega
        obtain ⟨mk, hmk⟩ : ∃ mk : UInt8, mk = if cap = true then 69 else 101 := ⟨_, rfl⟩
        have hbd : bodyL (bt V 0) ds x (precN p) h = gBody (figD ds m) (figX ds x m) m h mk := by
          rw [hb0, hmk, hm]; cases cap <;> (unfold bodyL markL; simp)
        rw [pad_bare hF1 hF16, hFh, hbd] at hR; have hj := gen_j3 hA hD hc hc3 cap h hmr.1 hmr.2 F hF mk hmk V hV; refine Evx.bindc hR (fun k => by rw [if_neg (by omega), if_neg (by omega), hz, Option.bind_some]) ?_; simp only [Bool.not_true]; refine Ev.step (fun k => ?_) hj; rw [abacuslaw15_PointGeneral.j2, if_neg (by decide)]; by_cases ha : p = -1
        · rw [if_pos ha]
          have : m = 6 := by rw [hm]; unfold precN; rw [if_pos (by omega)]; rfl
          rw [this]; rfl
        rw [if_neg ha]; by_cases hb : p = 0
        · rw [if_pos hb]
          have : m = 1 := by rw [hm]; unfold precN; rw [if_neg (by omega), hb]; rfl
          rw [this]; rfl
        rw [if_neg hb]; have : (m : Int) = p := by rw [hm]; unfold precN; rw [if_neg (by omega)]; omega
        rw [this]
      have hz : abacuslaw15_finite.f d = some false := by unfold abacuslaw15_finite.f; rw [hft, decide_eq_false hfin]
      have hR := Render_inf (v := bt V 0) hv0 hw hc hc34; refine Evx.bindc hR (fun k => by rw [if_neg (by omega), if_neg (by omega), hz, Option.bind_some]) ?_; have := bad (S (padL F 0 (headL F d) (nameL (bt V 0) c) false)); rw [hw] at this; exact this
    have hR := Render_bad (v := bt V 0) (d := d) hv0 hw; by_cases hp : p < -1
    · exact Evx.bindc hR (fun k => by rw [if_pos hp]) (bad _)
    have hp2 : p > 4096 := by
      rcases Int.lt_or_le 4096 p with a | a
      · exact a
      exact absurd (by unfold wrongE; rw [if_neg (by omega), if_neg (by omega)]) hw
    exact Evx.bindc hR (fun k => by rw [if_neg hp, if_pos hp2]) (bad _)
  have j0 : Ev (fun k => abacuslaw15_PointGeneral.j0 k h p d V) true := by
    cases h with
    | true => rw [hF] at main; exact Ev.step (fun k => by rw [abacuslaw15_PointGeneral.j0, if_pos rfl]; rfl) main
    | false => rw [hF] at main; exact Ev.step (fun k => by rw [abacuslaw15_PointGeneral.j0, if_neg (by decide)]; rfl) main
  unfold abacuslaw15_PointGeneral.f; refine Evx.bindc awake_tot (fun k => by rw [if_pos rfl]) ?_; rw [hV] at j0; cases cap with
  | true => exact Ev.congr (fun k => if_pos rfl) j0
  | false => exact Ev.congr (fun k => if_neg (by decide)) j0
end Go.Proofs.YtgbjojokjekmhaaGreatDoor.Num
