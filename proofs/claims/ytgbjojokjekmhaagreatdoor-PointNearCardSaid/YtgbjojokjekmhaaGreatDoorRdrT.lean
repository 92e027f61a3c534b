/- point.Render and Special, said of rows; plain, no program; conditions: a double's bits. -/
import Derived.Test.YtgbjojokjekmhaaGreatDoorPtT
import Derived.Lib.ItoaLen
import Derived.Lib.IndexLaws
namespace Go.Proofs.YtgbjojokjekmhaaGreatDoor.Num
open Go.RowKit Go.Proofs.YtgbjojokjekmhaaGreatDoor.PXC Go.Proofs.YtgbjojokjekmhaaGreatDoorW.PrintWords Go.Proofs.YtgbjojokjekmhaaGreatDoorW.PrintLast Go.Proofs.YtgbjojokjekmhaaGreatDoorW.PrintMore
set_option linter.unusedVariables false
set_option linter.unusedSimpArgs false

/-- What a Spec's numbers are refused for; 0 if they are not. -/
def wrongE (fl w p : Int) : Int := if fl < 0 ∨ 31 < fl ∨ w < 0 ∨ p < -1 then 1 else if 4096 < w ∨ 4096 < p then 6 else 0
theorem look_tot (v fl w p : Int) : Ev (fun k => point_look.f k v fl w p) (wrongE fl w p) := by
 have fin : ∀ b, Ev (fun k => point_look.j0 k b v fl w p) (if b = true then 1 else if 4096 < w ∨ 4096 < p then 6 else 0) := fun b => by
  refine Ev.step (f := fun _ => some (if b = true then 1 else if 4096 < w ∨ 4096 < p then 6 else 0)) (fun k => ?_) (Ev.now _); rw [point_look.j0]; cases b with
  | true => rfl
  | false =>
   simp only [Bool.false_eq_true, if_false]; by_cases h1 : w > 4096
   · rw [if_pos h1, if_pos (.inl h1)]
   by_cases h2 : p > 4096
   · rw [if_neg h1, if_pos h2, if_pos (.inr h2)]
   rw [if_neg h1, if_neg h2, if_neg (by omega)]
 unfold point_look.f wrongE; by_cases a1 : fl < 0
 · rw [if_pos (.inl a1)]; exact Ev.congr (fun k => if_pos a1) (fin true)
 by_cases a2 : fl > 31
 · rw [if_pos (.inr (.inl a2))]; exact Ev.congr (fun k => by rw [if_neg a1, if_pos a2]) (fin true)
 by_cases a3 : w < 0
 · rw [if_pos (.inr (.inr (.inl a3)))]; exact Ev.congr (fun k => by rw [if_neg a1, if_neg a2, if_pos a3]) (fin true)
 by_cases a4 : p < -1
 · rw [if_pos (.inr (.inr (.inr a4)))]; exact Ev.congr (fun k => by rw [if_neg a1, if_neg a2, if_neg a3, decide_eq_true a4]) (fin true)
 rw [if_neg (by omega)]; exact Ev.congr (fun k => by rw [if_neg a1, if_neg a2, if_neg a3, decide_eq_false a4]) (fin false)
theorem check_tot (v fl w p : Int) : Ev (fun k => whole_check.f k v fl w p (⟨#[]⟩ : ByteArray)) (wrongE fl w p) := by
 have fin : ∀ b, Ev (fun k => whole_check.j1 k b v fl w p) (if b = true then 1 else if 4096 < w ∨ 4096 < p then 6 else 0) := fun b => by
  refine Ev.step (f := fun _ => some (if b = true then 1 else if 4096 < w ∨ 4096 < p then 6 else 0)) (fun k => ?_) (Ev.now _); rw [whole_check.j1]; cases b with
  | true => rfl
  | false =>
   simp only [Bool.false_eq_true, if_false]; by_cases h1 : w > 4096
   · rw [if_pos h1, if_pos (.inl h1)]
   by_cases h2 : p > 4096
   · rw [if_neg h1, if_pos h2, if_pos (.inr h2)]
   rw [if_neg h1, if_neg h2, if_neg (by omega)]
 have e0 : (⟨#[]⟩ : ByteArray).toList = [] := by rw [ByteArray.toList_eq]
 unfold whole_check.f wrongE; refine Ev.congr (fun k => by rw [if_pos e0]) ?_; by_cases a1 : fl < 0
 · rw [if_pos (.inl a1)]; exact Ev.step (fun k => by rw [whole_check.j0, if_neg (by decide), if_pos a1]) (fin true)
 by_cases a2 : fl > 31
 · rw [if_pos (.inr (.inl a2))]; exact Ev.step (fun k => by rw [whole_check.j0, if_neg (by decide), if_neg a1, if_pos a2]) (fin true)
 by_cases a3 : w < 0
 · rw [if_pos (.inr (.inr (.inl a3)))]; exact Ev.step (fun k => by rw [whole_check.j0, if_neg (by decide), if_neg a1, if_neg a2, if_pos a3]) (fin true)
 by_cases a4 : p < -1
 · rw [if_pos (.inr (.inr (.inr a4)))]; exact Ev.step (fun k => by rw [whole_check.j0, if_neg (by decide), if_neg a1, if_neg a2, if_neg a3, decide_eq_true a4]) (fin true)
 rw [if_neg (by omega)]; exact Ev.step (fun k => by rw [whole_check.j0, if_neg (by decide), if_neg a1, if_neg a2, if_neg a3, decide_eq_false a4]) (fin false)
/-- Sign and body brought to the width. -/
def padL (fl w : Int) (hd bd : List UInt8) (z : Bool) : List UInt8 :=
 if Go.bits .and .i64 fl 1 = 0 then
  (if Go.bits .and .i64 fl 16 = 0 ∨ z = false then List.replicate (w.toNat - hd.length - bd.length) 32 ++ hd ++ bd
   else hd ++ List.replicate (w.toNat - hd.length - bd.length) 48 ++ bd)
 else hd ++ bd ++ List.replicate (w.toNat - hd.length - bd.length) 32
theorem Pad_tot (v fl w p : Int) (hd bd : List UInt8) (z : Bool) (hw : wrongE fl w p = 0) (hl : hd.length + bd.length ≤ 8388608) : Ev (fun k => whole_Pad.f k v fl w p (S hd) (S bd) z) (S (padL fl w hd bd z), 0) := by
 have hwb : 0 ≤ w ∧ w ≤ 4096 := by
  unfold wrongE at hw; split at hw
  · cases hw
  split at hw
  · cases hw
  omega
 obtain ⟨m, hm⟩ : ∃ m : Nat, m = w.toNat - hd.length - bd.length := ⟨_, rfl⟩; have e1 : mx (wrap64 (wrap64 (w - (hd.length : Int)) - (bd.length : Int))) 0 = (m : Int) := by
  rw [w64 (x := w - (hd.length : Int)) (by omega) (by omega), w64 (by omega) (by omega)]; unfold mx; split <;> omega
 have e2 : wrap64 (wrap64 ((hd.length : Int) + (bd.length : Int)) + (m : Int)) = (hd.length : Int) + (bd.length : Int) + (m : Int) := by
  rw [w64 (x := (hd.length : Int) + (bd.length : Int)) (by omega) (by omega), w64 (by omega) (by omega)]
 have fin : ∀ z, Ev (fun k => whole_Pad.j0 k (S hd) (S bd) (m : Int) z) (S (if z = true then hd ++ List.replicate m 48 ++ bd else List.replicate m 32 ++ hd ++ bd), 0) := fun z => by
  cases z with
  | true =>
   refine Ev.step (f := fun _ => some (S (hd ++ List.replicate m 48 ++ bd), 0)) (fun k => ?_) (Ev.now _); rw [whole_Pad.j0, if_pos rfl, rep_tot _ _ (by omega), Option.bind_some, if_pos (by simp only [s_size, List.length_replicate]; omega), s_app, if_pos (by simp only [s_size, List.length_append, List.length_replicate]; omega), s_app]
  | false =>
   refine Ev.step (f := fun _ => some (S (List.replicate m 32 ++ hd ++ bd), 0)) (fun k => ?_) (Ev.now _); rw [whole_Pad.j0, if_neg (by decide), rep_tot _ _ (by omega), Option.bind_some, if_pos (by simp only [s_size, List.length_replicate]; omega), s_app, if_pos (by simp only [s_size, List.length_append, List.length_replicate]; omega), s_app]
 unfold whole_Pad.f; have hc := check_tot v fl w p; rw [hw] at hc; unfold padL; rw [← hm]; refine Ev.bind hc ?_; simp only [if_true, s_size, e1, e2]; have c1 : ¬ ((hd.length : Int) + (bd.length : Int) + (m : Int) > 16777216) := by omega
 refine Ev.congr (fun k => by rw [if_neg c1]) ?_; by_cases b1 : Go.bits .and .i64 fl 1 = 0
 ·
  rw [if_pos b1]; refine Ev.congr (fun k => by rw [if_pos b1]) ?_; by_cases b2 : Go.bits .and .i64 fl 16 = 0
  · rw [if_pos (.inl b2)]; exact Ev.congr (fun k => by rw [if_pos b2]) (fin false)
  refine Ev.congr (fun k => by rw [if_neg b2]) ?_; cases z with
  | true =>
   rw [if_neg (fun h => h.elim b2 (by decide))]; exact fin true
  | false =>
   rw [if_pos (.inr rfl)]; exact fin false
 rw [if_neg b1]; refine Ev.congr (f := fun _ => some (S (hd ++ bd ++ List.replicate m 32), 0)) (fun k => ?_) (Ev.now _); rw [if_neg b1, if_pos (by omega), rep_tot _ _ (by omega), Option.bind_some, s_app, if_pos (by simp only [s_size, List.length_append, List.length_replicate]; omega), s_app]
/-- The sign. -/
def headL (fl d : Int) : List UInt8 := if d ≥ 9223372036854775808 then [45] else if Go.bits .and .i64 fl 2 = 0 then (if Go.bits .and .i64 fl 4 = 0 then [] else [32]) else [43]
theorem head_tot (v fl w p d : Int) : point_head.f v fl w p d = some (S (headL fl d)) := by
 unfold point_head.f headL; split
 · rfl
 split
 · split <;> rfl
 rfl
theorem headL_len (fl d : Int) : (headL fl d).length ≤ 1 := by
 unfold headL; split
 · exact Nat.le_refl _
 split
 ·
  split
  · exact Nat.zero_le _
  exact Nat.le_refl _
 exact Nat.le_refl _
/-- The exponent's part. -/
def tailL (e : Int) (c : UInt8) : List UInt8 := c :: (if e < 0 then (if -e < 10 then [45, 48] else [45]) else (if e < 10 then [43, 48] else [43])) ++ Lib.itoa (if e < 0 then -e else e)
theorem tail_tot (e : Int) (c : UInt8) (h1 : -4194304 ≤ e) (h2 : e ≤ 4194304) (hc : c = 101 ∨ c = 69) : point_tail.f e (c.toNat : Int) = some (S (tailL e c)) := by
 unfold point_tail.f tailL; have hcc : ((c.toNat : Int) = 101 ∨ (c.toNat : Int) = 69) := by
  rcases hc with rfl | rfl
  · exact .inl rfl
  exact .inr rfl
 rw [if_pos ⟨by omega, by omega, hcc⟩]; have e0 : (⟨#[UInt8.ofNat ((c.toNat : Int)).toNat]⟩ : ByteArray) = S [c] := by
  rw [Int.toNat_natCast, UInt8.ofNat_toNat]
 have e1 : ∀ (p q : Prop) [Decidable p] [Decidable q] , True := fun _ _ => trivial
 have e2 : (if e < 0 then (if -e < 10 then (⟨#[45]⟩ : ByteArray) ++ ⟨#[48]⟩ else ⟨#[45]⟩) else (if e < 10 then (⟨#[43]⟩ : ByteArray) ++ ⟨#[48]⟩ else ⟨#[43]⟩)) = S (if e < 0 then (if -e < 10 then [45, 48] else [45]) else (if e < 10 then [43, 48] else [43])) := by
  split
  ·
   split
   · exact s_app [45] [48]
   rfl
  split
  · exact s_app [43] [48]
  rfl
 rw [e0, e2, s_app, s_app]; rfl
theorem tailL_len (e : Int) (c : UInt8) (h1 : -4194304 ≤ e) (h2 : e ≤ 4194304) : (tailL e c).length ≤ 24 := by
 unfold tailL; have h : (Lib.itoa (if e < 0 then -e else e)).length ≤ 21 := Lib.itoa_length_le _ (by split <;> omega) (by split <;> omega)
 rw [List.length_append, List.length_cons]; have h3 : (if e < 0 then (if -e < 10 then [45, 48] else [(45 : UInt8)]) else (if e < 10 then [43, 48] else [43])).length ≤ 2 := by
  split
  · split <;> simp
  split <;> simp
 omega
end Go.Proofs.YtgbjojokjekmhaaGreatDoor.Num
namespace Go.Proofs.YtgbjojokjekmhaaGreatDoor.Num
open Go.RowKit Go.Proofs.YtgbjojokjekmhaaGreatDoor.PXC Go.Proofs.YtgbjojokjekmhaaGreatDoorW.PrintWords Go.Proofs.YtgbjojokjekmhaaGreatDoorW.PrintLast Go.Proofs.YtgbjojokjekmhaaGreatDoorW.PrintMore
set_option linter.unusedVariables false
set_option linter.unusedSimpArgs false

/-- The body of f. -/
def fBody (ds : List UInt8) (x : Int) (n : Nat) (hash : Bool) : List UInt8 := ahead ds x n ++ (if n = 0 ∧ hash = false then [] else 46 :: behind ds x n)
theorem fBody_len {ds : List UInt8} {x : Int} {n : Nat} (hash : Bool) (hl : ds.length ≤ 1048576) (hx : x ≤ 2097152) : (fBody ds x n hash).length ≤ 3145731 + n := by
 have h1 := placesU_le (ds := ds) (x := x) (n := n) hl hx; have h2 := placesU_gt ds x n; unfold fBody; rw [List.length_append, ahead_len]; split
 · simp; omega
 rw [List.length_cons, behind_len]; omega
theorem places_tot {d : Int} {neg : Bool} {ds : List UInt8} {x : Int} (hA : Ev (fun k => fixed_All.f k d) (neg, S ds, x, 0)) (hD : Dec neg ds x) (n : Nat) (hn : n ≤ 4200) (hash : Bool) : Ev (fun k => point_places.f k d (n : Int) hash) (S (fBody ds x n hash)) := by
 have hl := hD.len; have hx2 := hD.hi; have h1 := placesU_le (ds := ds) (x := x) (n := n) (by omega) hx2; have h3 := ahead_len ds x n; have h4 := behind_len ds x n; unfold point_places.f; refine Evx.bindc (h := fun _ => some (S (fBody ds x n hash))) (Places_tot hA hD n hn) (fun k => ?_) (Ev.now _); simp only [s_list, s_size]; have hdot : (⟨#[46]⟩ : ByteArray) = S [46] := rfl; rw [hdot, s_app, s_size, s_app]; have c1 : (ahead ds x n).length + 1 ≤ 9223372036854775807 := by omega
 have c2 : (ahead ds x n ++ [46]).length + (behind ds x n).length ≤ 9223372036854775807 := by rw [List.length_append, List.length_singleton]; omega
 have e1 : ahead ds x n ++ [46] ++ behind ds x n = ahead ds x n ++ 46 :: behind ds x n := by rw [List.append_assoc]; rfl
 unfold fBody; by_cases hb : behind ds x n = []
 ·
  have n0 : n = 0 := by rw [hb] at h4; exact h4.symm
  rw [if_pos hb]; cases hash with
  | true => rw [if_pos rfl, if_pos c1, if_pos c2, e1, if_neg (fun h => by cases h.2)]
  | false => rw [if_neg (by decide), if_pos ⟨n0, rfl⟩, List.append_nil]
 have n0 : n ≠ 0 := fun h => hb (List.eq_nil_of_length_eq_zero (by rw [h4]; exact h))
 rw [if_neg hb, if_pos c1, if_pos c2, e1, if_neg (fun h => n0 h.1)]
/-- The body of e. -/
def eBody (D : List UInt8) (X : Int) (hash : Bool) (c : UInt8) : List UInt8 := D.take 1 ++ (if 1 < D.length ∨ hash = true then 46 :: D.drop 1 else []) ++ tailL X c
theorem eBody_len (D : List UInt8) (X : Int) (hash : Bool) (c : UInt8) (h1 : -4194304 ≤ X) (h2 : X ≤ 4194304) : (eBody D X hash c).length ≤ D.length + 26 := by
 have h3 := tailL_len X c h1 h2; unfold eBody; rw [List.length_append, List.length_append, List.length_take]; split
 · rw [List.length_cons, List.length_drop]; omega
 simp; omega
theorem power_tot {D : List UInt8} (hD1 : 1 ≤ D.length) (hD2 : D.length ≤ 8388608) (X : Int) (h1 : -4194304 ≤ X) (h2 : X ≤ 4194304) (c : UInt8) (hc : c = 101 ∨ c = 69) (hash : Bool) : point_power.f (S D) X (c.toNat : Int) hash = some (S (eBody D X hash c)) := by
 have hdot : (⟨#[46]⟩ : ByteArray) = S [46] := rfl; have ht := tail_tot X c h1 h2 hc; have htl := tailL_len X c h1 h2; have hl1 : (D.take 1).length = 1 := by rw [List.length_take]; omega
 have hl2 : (D.drop 1).length = D.length - 1 := by rw [List.length_drop]
 have hx : (S D).extract 0 1 = S (D.take 1) := s_take D 1; have hy : (S D).extract 1 (S D).size = S (D.drop 1) := s_drop D 1; have c1 : 1 + (D.drop 1).length ≤ 9223372036854775807 := by omega
 have c2 : (D.take 1).length + ([46] ++ D.drop 1).length ≤ 9223372036854775807 := by rw [List.length_append, List.length_singleton]; omega
 have c3 : (D.take 1 ++ ([46] ++ D.drop 1)).length + (tailL X c).length ≤ 9223372036854775807 := by rw [List.length_append, List.length_append, List.length_singleton]; omega
 unfold point_power.f eBody; rw [if_pos (by omega), hx, hy, hdot]; simp only [s_app, s_size, ht, Option.bind_some]; rw [if_pos (by omega)]; by_cases hgt : (D.length : Int) > 1
 · rw [if_pos hgt, if_pos c1, if_pos c2, if_pos c3, if_pos (.inl (by omega))]; rfl
 rw [if_neg hgt]; cases hash with
 | true =>
  rw [if_pos rfl, if_pos c1, if_pos c2, if_pos c3, if_pos (.inr rfl)]; rfl
 | false =>
  rw [if_neg (by decide), if_pos (by omega), if_neg (fun h => h.elim (fun h => hgt (by omega)) (fun h => by cases h)), List.append_nil]
/-- Zeros at the end taken away, and the point with them. -/
def stripL (m : List UInt8) : List UInt8 := if (Lib.trimRightB m 48).getLast? = some 46 then (Lib.trimRightB m 48).dropLast else Lib.trimRightB m 48
theorem stripL_len (m : List UInt8) : (stripL m).length ≤ m.length := by
 obtain ⟨n, hn, e⟩ := trimR_sub m 48; unfold stripL; rw [e]; split
 · rw [List.length_dropLast, List.length_take]; omega
 rw [List.length_take]; omega
theorem idx46 {m : List UInt8} (h : 46 ∈ m) : 0 ≤ Lib.indexByte m 46 := by
 have h1 := Lib.indexByte_ge m 46; rcases Int.lt_or_le (Lib.indexByte m 46) 0 with h2 | h2
 ·
  have h3 : Lib.indexByte m 46 = -1 := by omega
  obtain ⟨k, hk, e⟩ := List.mem_iff_getElem.1 h; exact absurd (by rw [List.getElem?_eq_getElem hk, e]) (Lib.indexByte_none h3 k)
 exact h2
theorem strip_tot {m : List UInt8} (h : 46 ∈ m) (hl : m.length ≤ 16777216) : point_strip.f (S m) = some (S (stripL m)) := by
 have hdot : (⟨#[46]⟩ : ByteArray) = S [46] := rfl; unfold point_strip.f strings_Contains.f; rw [if_pos rfl, s_data, Option.bind_some, if_pos (by rw [decide_eq_true (idx46 h)])]; have e1 : strings_TrimRight.f (S m) (⟨#[48]⟩ : ByteArray) = some (S (Lib.trimRightB m 48)) := by
  unfold strings_TrimRight.f; rw [if_pos rfl, if_pos (by rw [s_size]; omega)]
 rw [e1, Option.bind_some]; obtain ⟨n, hn, en⟩ := trimR_sub m 48; obtain ⟨t, ht⟩ : ∃ t, Lib.trimRightB m 48 = t := ⟨_, rfl⟩; have htl : t.length ≤ 16777216 := by rw [← ht, en, List.length_take]; omega
 unfold strings_TrimSuffix.f stringslite_TrimSuffix.f stringslite_HasSuffix.f stripL; rw [ht, hdot]; simp only [s_size, List.length_singleton, s_list]; by_cases h0 : t.length = 0
 · have t0 : t = [] := List.eq_nil_of_length_eq_zero h0; subst t0; rfl
 have hne : t ≠ [] := fun h => h0 (by rw [h]; rfl)
 obtain ⟨u, z, hu⟩ : ∃ u z, t = u ++ [z] := ⟨t.dropLast, t.getLast hne, (List.dropLast_concat_getLast hne).symm⟩; have hlen : t.length = u.length + 1 := by rw [hu, List.length_append, List.length_singleton]
 have e2 : wrap64 ((t.length : Int) - ((1 : Nat) : Int)) = ((u.length : Nat) : Int) := by rw [w64 (by omega) (by omega)]; omega
 have e3 : (S t).extract u.length t.length = S [z] := by
  rw [s_drop2 t _, hu, List.drop_left]
 have e4 : t.getLast? = some z := by rw [hu, List.getLast?_append]; rfl
 have e5 : t.dropLast = u := by rw [hu, List.dropLast_concat]
 have e6 : (S t).extract 0 u.length = S u := by rw [s_take, hu, List.take_left]
 rw [if_pos (by omega), e2, if_pos (by omega), if_pos (by omega), Int.toNat_natCast, e3, s_list, Option.bind_some, e4, e5, e6]; by_cases h46 : z = 46
 · subst h46; rw [if_pos (by decide), if_pos (by omega), if_pos (by omega), Option.bind_some, Option.bind_some, if_pos rfl]
 have : ([z] == [46]) = false := by simpa using h46
 rw [this, if_neg (by decide), Option.bind_some, Option.bind_some, if_neg (fun h => h46 (Option.some.inj h))]
/-- The body of g ahead of its exponent's part, and that part. -/
def gMain (D : List UInt8) (X : Int) (n : Nat) : List UInt8 :=
 if -4 ≤ X ∧ X < (n : Int) then (if X < 0 then [48, 46] ++ List.replicate (-X - 1).toNat 48 ++ D else D.take (X + 1).toNat ++ [46] ++ D.drop (X + 1).toNat)
 else D.take 1 ++ [46] ++ D.drop 1
def gEnd (X : Int) (n : Nat) (c : UInt8) : List UInt8 := if -4 ≤ X ∧ X < (n : Int) then [] else tailL X c
def gBody (D : List UInt8) (X : Int) (n : Nat) (hash : Bool) (c : UInt8) : List UInt8 := (if hash = true then gMain D X n else stripL (gMain D X n)) ++ gEnd X n c
theorem gMain_dot (D : List UInt8) (X : Int) (n : Nat) : 46 ∈ gMain D X n := by
 unfold gMain; split
 · split <;> simp
 simp
theorem gMain_len (D : List UInt8) (X : Int) (n : Nat) : (gMain D X n).length ≤ D.length + 5 := by
 unfold gMain; split
 ·
  split
  · simp only [List.length_append, List.length_cons, List.length_nil, List.length_replicate]; omega
  simp only [List.length_append, List.length_cons, List.length_nil, List.length_take, List.length_drop]; omega
 simp only [List.length_append, List.length_cons, List.length_nil, List.length_take, List.length_drop]; omega
theorem gBody_len (D : List UInt8) (X : Int) (n : Nat) (hash : Bool) (c : UInt8) (h1 : -4194304 ≤ X) (h2 : X ≤ 4194304) : (gBody D X n hash c).length ≤ D.length + 29 := by
 have h3 := tailL_len X c h1 h2; have h4 := gMain_len D X n; have h5 := stripL_len (gMain D X n); have h6 : (gEnd X n c).length ≤ 24 := by
  unfold gEnd; split
  · exact Nat.zero_le _
  exact h3
 unfold gBody; rw [List.length_append]; split <;> omega
theorem gj1_tot {D : List UInt8} {n : Nat} (hD : D.length = n) (h0 : 1 ≤ n) (hn : n ≤ 4200) (X : Int) (h1 : -4194304 ≤ X) (h2 : X ≤ 4194304) (hash : Bool) (c : UInt8) (hc : c = 101 ∨ c = 69) : Ev (fun k => point_general.j1 k (c.toNat : Int) hash (S D) X (⟨#[]⟩ : ByteArray) (decide (-4 ≤ X) && decide (X < (n : Int)))) (S (gBody D X n hash c)) := by
 have hdot : (⟨#[46]⟩ : ByteArray) = S [46] := rfl; have hzd : (⟨#[48, 46]⟩ : ByteArray) = S [48, 46] := rfl; have hnil : (⟨#[]⟩ : ByteArray) = S [] := rfl; have hml := gMain_len D X n; have hst := strip_tot (gMain_dot D X n) (by omega); have hsl := stripL_len (gMain D X n); have ht := tail_tot X c h1 h2 hc; have htl := tailL_len X c h1 h2; have e46 : ([46] : List UInt8).length = 1 := rfl; have fin0 : ∀ M : List UInt8, M = gMain D X n → -4 ≤ X ∧ X < (n : Int) → (if hash = true then (if M.length + ([] : List UInt8).length ≤ 9223372036854775807 then some (S (M ++ [])) else none) else (point_strip.f (S M)).bind fun t => if t.size + ([] : List UInt8).length ≤ 9223372036854775807 then some (t ++ S []) else none) = some (S (gBody D X n hash c)) := by
  intro M hM hX; unfold gBody gEnd; rw [if_pos hX, hM]; cases hash with
  | true => rw [if_pos rfl, if_pos rfl, if_pos (by simp only [List.length_nil]; omega)]
  | false => rw [if_neg (by decide), if_neg (by decide), hst, Option.bind_some, s_size, if_pos (by simp only [List.length_nil]; omega), s_app]
 refine Ev.step (f := fun _ => some (S (gBody D X n hash c))) (fun k => ?_) (Ev.now _); rw [point_general.j1]; by_cases hX : -4 ≤ X ∧ X < (n : Int)
 ·
  rw [if_pos (by rw [decide_eq_true hX.1, decide_eq_true hX.2]; rfl)]; by_cases hneg : X < 0
  ·
   have e1 : wrap64 (wrap64 (-X) - 1) = (((-X - 1).toNat : Nat) : Int) := by rw [w64 (x := -X) (by omega) (by omega), w64 (by omega) (by omega)]; omega
   have hM : [48, 46] ++ List.replicate (-X - 1).toNat 48 ++ D = gMain D X n := by unfold gMain; rw [if_pos hX, if_pos hneg]
   rw [if_pos hneg, e1, rep_tot _ _ (by omega), Option.bind_some, hzd, hnil]; simp only [s_size, s_app]; rw [if_pos (by rw [List.length_replicate]; omega), if_pos (by simp only [List.length_append, List.length_cons, List.length_nil, List.length_replicate]; omega)]; exact fin0 _ hM hX
  have e1 : wrap64 (X + 1) = (((X + 1).toNat : Nat) : Int) := by rw [w64 (by omega) (by omega)]; omega
  have hM : D.take (X + 1).toNat ++ [46] ++ D.drop (X + 1).toNat = gMain D X n := by unfold gMain; rw [if_pos hX, if_neg hneg]
  have hx : (S D).extract 0 (X + 1).toNat = S (D.take (X + 1).toNat) := s_take D _; have hy : (S D).extract (X + 1).toNat D.length = S (D.drop (X + 1).toNat) := s_drop2 D _; rw [if_neg hneg, e1, hdot, hnil]; simp only [s_size, s_app, Int.toNat_natCast, hx, hy]; by_cases heq : (((X + 1).toNat : Nat) : Int) = (D.length : Int)
  ·
   have hM2 : D ++ [46] = gMain D X n := by
    rw [← hM, List.take_of_length_le (by omega), List.drop_of_length_le (by omega), List.append_nil]
   rw [if_pos heq, if_pos (by omega)]; exact fin0 _ hM2 hX
  rw [if_neg heq, if_pos (by omega), if_pos (by omega), if_pos (by rw [List.length_take]; omega), if_pos (by simp only [List.length_append, List.length_cons, List.length_nil, List.length_take, List.length_drop]; omega)]; exact fin0 _ hM hX
 rw [if_neg (by rw [Bool.and_eq_true, decide_eq_true_iff, decide_eq_true_iff]; exact hX)]; have hM : D.take 1 ++ [46] ++ D.drop 1 = gMain D X n := by unfold gMain; rw [if_neg hX]
 have hx : (S D).extract 0 1 = S (D.take 1) := s_take D _; have hy : (S D).extract 1 D.length = S (D.drop 1) := s_drop2 D _; rw [if_pos (by omega), hdot]; simp only [s_size, s_app, hx, hy, ht, Option.bind_some, hM, hst]; rw [if_pos (by omega), if_pos (by rw [List.length_take]; omega), if_pos (by simp only [List.length_append, List.length_cons, List.length_nil, List.length_take, List.length_drop]; omega)]; unfold gBody gEnd; rw [if_neg hX]; cases hash with
 | true =>
  simp only [if_true]; rw [if_pos (by omega)]
 | false =>
  simp only [Bool.false_eq_true, if_false]; rw [if_pos (by omega)]
theorem general_tot {d : Int} {neg : Bool} {ds : List UInt8} {x : Int} (hA : Ev (fun k => fixed_All.f k d) (neg, S ds, x, 0)) (hD : Dec neg ds x) (n : Nat) (hn : n ≤ 4200) (hash : Bool) (c : UInt8) (hc : c = 101 ∨ c = 69) : Ev (fun k => point_general.f k d (n : Int) (c.toNat : Int) hash) (S (gBody (figD ds (max n 1)) (figX ds x (max n 1)) (max n 1) hash c)) := by
 have hj : ∀ m : Nat, 1 ≤ m → m ≤ 4200 → Ev (fun k => point_general.j0 k d (m : Int) (c.toNat : Int) hash) (S (gBody (figD ds m) (figX ds x m) m hash c)) := by
  intro m h1 h2; have hX := figX_rng hD m; have hg := gj1_tot (figD_len ds m) h1 h2 (figX ds x m) hX.1 hX.2 hash c hc; refine Ev.step (fun k => by rw [point_general.j0]) ?_; refine Evx.bindc (Figures_tot hA hD m h1 h2) (fun k => ?_) hg; simp only; by_cases h4 : figX ds x m ≥ -4
  · rw [if_pos h4, decide_eq_true (show -4 ≤ figX ds x m from h4), Bool.true_and]
  rw [if_neg h4, decide_eq_false (show ¬ -4 ≤ figX ds x m from h4), Bool.false_and]
 unfold point_general.f; by_cases h0 : n = 0
 · subst h0; exact Ev.congr (fun k => if_pos rfl) (hj 1 (by omega) (by omega))
 have e : max n 1 = n := by omega
 rw [e]; exact Ev.congr (fun k => if_neg (by omega)) (hj n (by omega) hn)
end Go.Proofs.YtgbjojokjekmhaaGreatDoor.Num
namespace Go.Proofs.YtgbjojokjekmhaaGreatDoor.Num
open Go.RowKit Go.Proofs.YtgbjojokjekmhaaGreatDoor.PXC Go.Proofs.YtgbjojokjekmhaaGreatDoorW.PrintWords Go.Proofs.YtgbjojokjekmhaaGreatDoorW.PrintLast Go.Proofs.YtgbjojokjekmhaaGreatDoorW.PrintMore
set_option linter.unusedVariables false
set_option linter.unusedSimpArgs false

theorem wrong_pad {fl w p : Int} (h : wrongE fl w p = 0) : wrongE fl w (-1) = 0 := by
 unfold wrongE at *; split at h
 · cases h
 split at h
 · cases h
 rw [if_neg (by omega), if_neg (by omega)]
theorem pad_tot (v fl w p : Int) (hd bd : List UInt8) (z : Bool) (hw : wrongE fl w p = 0) (hl : hd.length + bd.length ≤ 8388608) : Ev (fun k => point_pad.f k v fl w p (S hd) (S bd) z) (S (padL fl w hd bd z), 0) := by
 unfold point_pad.f; exact Ev.bind (f := fun _ b => some (b.1, b.2)) (Pad_tot v fl w (-1) hd bd z (wrong_pad hw) hl) (Ev.now _)
/-- An infinity's or a NaN's name. -/
def nameL (v c : Int) : List UInt8 := if v = 69 ∨ v = 70 ∨ v = 71 ∨ v = 88 then (if c = 4 then [78, 65, 78] else [73, 78, 70]) else (if c = 4 then [110, 97, 110] else [105, 110, 102])
theorem sp_tot (v fl w p d c : Int) (hw : wrongE fl w p = 0) (t : List UInt8) (ht : t = if c = 4 then [110, 97, 110] else [105, 110, 102]) : Ev (fun k => point_Special.j0 k d (S t) v fl w p) (S (padL fl w (headL fl d) (nameL v c) false), true, 0) := by
 have hh := headL_len fl d; have hup : strings_ToUpper.f (S t) = some (S (if c = 4 then [78, 65, 78] else [73, 78, 70])) := by
  rw [ht]; by_cases h : c = 4
  · rw [if_pos h, if_pos h]; rfl
  rw [if_neg h, if_neg h]; rfl
 have fin : ∀ b : Bool, b = decide (v = 69 ∨ v = 70 ∨ v = 71 ∨ v = 88) → Ev (fun k => point_Special.j1 k d (S t) b v fl w p) (S (padL fl w (headL fl d) (nameL v c) false), true, 0) := by
  intro b hb; cases b with
  | true =>
   have hv := of_decide_eq_true hb.symm; have hn : nameL v c = if c = 4 then [78, 65, 78] else [73, 78, 70] := by unfold nameL; rw [if_pos hv]
   have hl : (nameL v c).length ≤ 3 := by rw [hn]; split <;> simp
   rw [← hn] at hup; refine Ev.step (fun k => by rw [point_Special.j1, if_pos rfl, hup, Option.bind_some, head_tot, Option.bind_some]) ?_; exact Ev.bind (f := fun _ b => some (b.1, b.2 == 0, b.2)) (pad_tot v fl w p (headL fl d) (nameL v c) false hw (by omega)) (Ev.now _)
  | false =>
   have hv := of_decide_eq_false hb.symm; have hn : nameL v c = t := by unfold nameL; rw [if_neg hv, ht]
   have hl : t.length ≤ 3 := by rw [ht]; split <;> simp
   rw [hn]; refine Ev.step (fun k => by rw [point_Special.j1, if_neg (by decide), head_tot, Option.bind_some]) ?_; exact Ev.bind (f := fun _ b => some (b.1, b.2 == 0, b.2)) (pad_tot v fl w p (headL fl d) t false hw (by omega)) (Ev.now _)
 by_cases h1 : v = 69
 · exact Ev.step (fun k => by rw [point_Special.j0, if_pos h1]) (fin (v == 69) (by subst h1; rfl))
 by_cases h2 : v = 70
 · exact Ev.step (fun k => by rw [point_Special.j0, if_neg h1, if_pos h2]) (fin (v == 70) (by subst h2; rfl))
 by_cases h3 : v = 71
 · exact Ev.step (fun k => by rw [point_Special.j0, if_neg h1, if_neg h2, if_pos h3]) (fin (v == 71) (by subst h3; rfl))
 refine Ev.step (fun k => by rw [point_Special.j0, if_neg h1, if_neg h2, if_neg h3]) (fin (v == 88) ?_); by_cases h4 : v = 88
 · subst h4; rfl
 rw [decide_eq_false (by omega)]; exact beq_eq_false_iff_ne.2 h4
theorem Special_bad {v fl w p d : Int} (hw : wrongE fl w p ≠ 0) : Ev (fun k => point_Special.f k v fl w p d) (S [], false, wrongE fl w p) := by
 unfold point_Special.f; exact Evx.bindc (h := fun _ => some (S [], false, wrongE fl w p)) (look_tot v fl w p) (fun k => if_neg hw) (Ev.now _)
theorem Special_fin {v fl w p d c : Int} (hw : wrongE fl w p = 0) (hc : ieee_Class.f d = some c) (hf : c < 3) : Ev (fun k => point_Special.f k v fl w p d) (S [], false, 0) := by
 unfold point_Special.f; refine Evx.bindc (h := fun _ => some (S [], false, 0)) (look_tot v fl w p) (fun k => ?_) (Ev.now _); rw [if_pos hw, hc, Option.bind_some, if_neg (by omega), if_neg (by omega)]
theorem Special_inf {v fl w p d c : Int} (hw : wrongE fl w p = 0) (hc : ieee_Class.f d = some c) (h34 : c = 3 ∨ c = 4) : Ev (fun k => point_Special.f k v fl w p d) (S (padL fl w (headL fl d) (nameL v c) false), true, 0) := by
 unfold point_Special.f; refine Evx.bindc (look_tot v fl w p) (fun k => ?_) (sp_tot v fl w p d c hw _ rfl); rw [if_pos hw, hc, Option.bind_some]; rcases h34 with h | h
 · rw [if_neg (by omega), if_pos h, if_neg (show ¬ c = 4 by omega)]
 rw [if_pos h, if_pos h]
/-- The verbs. -/
def verbOk (v : Int) : Prop := v = 101 ∨ v = 69 ∨ v = 102 ∨ v = 70 ∨ v = 103 ∨ v = 71
instance (v : Int) : Decidable (verbOk v) := by unfold verbOk; infer_instance
def markL (v : Int) : UInt8 := if v = 69 ∨ v = 71 then 69 else 101
theorem markL_ok (v : Int) : markL v = 101 ∨ markL v = 69 := by
 unfold markL; split
 · exact .inr rfl
 exact .inl rfl
theorem Render_verb {v fl w p d : Int} (hv : ¬ verbOk v) : Ev (fun k => point_Render.f k v fl w p d) (S [], 140) := by
 unfold verbOk at hv; unfold point_Render.f; have fin : Ev (fun k => point_Render.j0 k d 101 v false v fl w p) (S [], 140) := by
  refine Ev.step (f := fun _ => some (S [], 140)) (fun k => ?_) (Ev.now _); rw [point_Render.j0, if_neg (by decide), if_neg (by omega), if_neg (by omega), if_neg (by omega), if_neg (by omega)]
 refine Ev.congr (fun k => by rw [if_neg (by omega), show (v == 71) = false from beq_eq_false_iff_ne.2 (by omega)]) fin
theorem Render_in {v fl w p d : Int} (hv : verbOk v) {R : ByteArray × Int} (h : Ev (fun k => point_Render.j1 k d ((markL v).toNat : Int) v fl w p) R) : Ev (fun k => point_Render.f k v fl w p d) R := by
 unfold point_Render.f; unfold markL at h; by_cases h69 : v = 69
 · rw [if_pos (.inl h69)] at h; subst h69; exact Ev.congr (fun k => if_pos rfl) (Ev.step (fun k => by rw [point_Render.j0, if_pos (by decide)]; rfl) h)
 by_cases h71 : v = 71
 · rw [if_pos (.inr h71)] at h; subst h71; exact Ev.congr (fun k => if_neg (by decide)) (Ev.step (fun k => by rw [point_Render.j0, if_pos (by decide)]; rfl) h)
 rw [if_neg (by omega)] at h; refine Ev.congr (fun k => by rw [if_neg h69, show (v == 71) = false from beq_eq_false_iff_ne.2 h71]) (Ev.step (fun k => ?_) h); rw [point_Render.j0, if_neg (by decide)]; rcases hv with rfl | rfl | rfl | rfl | rfl | rfl
 · rfl
 · exact absurd rfl h69
 · rfl
 · rfl
 · rfl
 exact absurd rfl h71
theorem Render_bad {v fl w p d : Int} (hv : verbOk v) (hw : wrongE fl w p ≠ 0) : Ev (fun k => point_Render.f k v fl w p d) (S [], wrongE fl w p) := by
 refine Render_in hv (Ev.step (fun k => by rw [point_Render.j1]) ?_); refine Evx.bindc (Special_bad hw) (fun k => by rw [if_neg (show ¬ (false = true) by decide), show (wrongE fl w p != 0) = true from bne_iff_ne.2 hw]) ?_; exact Ev.step (f := fun _ => some (S [], wrongE fl w p)) (fun k => by rw [point_Render.j2, if_pos rfl]) (Ev.now _)
theorem Render_inf {v fl w p d c : Int} (hv : verbOk v) (hw : wrongE fl w p = 0) (hc : ieee_Class.f d = some c) (h34 : c = 3 ∨ c = 4) : Ev (fun k => point_Render.f k v fl w p d) (S (padL fl w (headL fl d) (nameL v c) false), 0) := by
 refine Render_in hv (Ev.step (fun k => by rw [point_Render.j1]) ?_); refine Evx.bindc (Special_inf hw hc h34) (fun k => by rw [if_pos rfl]) ?_; exact Ev.step (f := fun _ => some (S (padL fl w (headL fl d) (nameL v c) false), 0)) (fun k => by rw [point_Render.j2, if_pos rfl]) (Ev.now _)
/-- How many places are asked for. -/
def precN (p : Int) : Nat := if p < 0 then 6 else p.toNat
/-- What stands behind the sign. -/
def bodyL (v : Int) (ds : List UInt8) (x : Int) (n : Nat) (hash : Bool) : List UInt8 :=
 if v = 102 ∨ v = 70 then fBody ds x n hash
 else if v = 101 ∨ v = 69 then eBody (figD ds (n + 1)) (figX ds x (n + 1)) hash (markL v)
 else gBody (figD ds (max n 1)) (figX ds x (max n 1)) (max n 1) hash (markL v)
def hashF (fl : Int) : Bool := Go.bits .and .i64 fl 8 != 0
theorem bodyL_len {neg : Bool} {ds : List UInt8} {x : Int} (hD : Dec neg ds x) (v : Int) (n : Nat) (hn : n ≤ 4096) (hash : Bool) : (bodyL v ds x n hash).length ≤ 3200000 := by
 have hl := hD.len; unfold bodyL; split
 · have := fBody_len (ds := ds) (x := x) (n := n) hash (by omega) hD.hi; omega
 split
 · have hX := figX_rng hD (n + 1); have := eBody_len (figD ds (n + 1)) (figX ds x (n + 1)) hash (markL v) hX.1 hX.2; rw [figD_len] at this; omega
 have hX := figX_rng hD (max n 1); have := gBody_len (figD ds (max n 1)) (figX ds x (max n 1)) (max n 1) hash (markL v) hX.1 hX.2; rw [figD_len] at this; omega
theorem Render_fin {v fl w p d c : Int} (hv : verbOk v) (hw : wrongE fl w p = 0) (hc : ieee_Class.f d = some c) (hf : c < 3) {neg : Bool} {ds : List UInt8} {x : Int} (hA : Ev (fun k => fixed_All.f k d) (neg, S ds, x, 0)) (hD : Dec neg ds x) : Ev (fun k => point_Render.f k v fl w p d) (S (padL fl w (headL fl d) (bodyL v ds x (precN p) (hashF fl)) true), 0) := by
 have hpb : -1 ≤ p ∧ p ≤ 4096 := by
  unfold wrongE at hw; split at hw
  · cases hw
  split at hw
  · cases hw
  omega
 obtain ⟨n, hn⟩ : ∃ n, precN p = n := ⟨_, rfl⟩; have hn2 : n ≤ 4096 := by rw [← hn]; unfold precN; split <;> omega
 have hnp : (if p < 0 then (6 : Int) else p) = (n : Int) := by
  rw [← hn]; unfold precN; split <;> omega
 have hbl := bodyL_len hD v n hn2 (hashF fl); have hhl := headL_len fl d; have hm := markL_ok v; rw [hn]; refine Render_in hv (Ev.step (fun k => by rw [point_Render.j1]) ?_); refine Evx.bindc (Special_fin hw hc hf) (fun k => by rw [if_neg (by decide), show ((0 : Int) != 0) = false from rfl]) ?_; have fin : ∀ b : List UInt8, b = bodyL v ds x n (hashF fl) → Ev (fun k => (point_head.f v fl w p d).bind fun t => (point_pad.f k v fl w p t (S b) true).bind fun y => some (y.1, y.2)) (S (padL fl w (headL fl d) (bodyL v ds x n (hashF fl)) true), 0) := by
  intro b hb; rw [hb, head_tot]; exact Ev.bind (f := fun _ y => some (y.1, y.2)) (pad_tot v fl w p (headL fl d) (bodyL v ds x n (hashF fl)) true hw (by omega)) (Ev.now _)
 have h3 : Ev (fun k => point_Render.j3 k d ((markL v).toNat : Int) (n : Int) v fl w p) (S (padL fl w (headL fl d) (bodyL v ds x n (hashF fl)) true), 0) := by
  by_cases hvf : v = 102 ∨ v = 70
  ·
   have hb : fBody ds x n (hashF fl) = bodyL v ds x n (hashF fl) := by unfold bodyL; rw [if_pos hvf]
   have h4 : Ev (fun k => point_Render.j4 k d ((markL v).toNat : Int) (n : Int) (hashF fl) v true v fl w p) (S (padL fl w (headL fl d) (bodyL v ds x n (hashF fl)) true), 0) := by
    refine Ev.step (fun k => by rw [point_Render.j4, if_pos rfl]) ?_; exact Ev.bind (places_tot hA hD n (by omega) (hashF fl)) (fin _ hb)
   by_cases h102 : v = 102
   · exact Ev.step (fun k => by rw [point_Render.j3, if_pos h102, show (v == 102) = true from beq_iff_eq.2 h102]; rfl) h4
   exact Ev.step (fun k => by rw [point_Render.j3, if_neg h102, show (v == 70) = true from beq_iff_eq.2 (by omega)]; rfl) h4
  refine Ev.step (fun k => by rw [point_Render.j3, if_neg (by omega), show (v == 70) = false from beq_eq_false_iff_ne.2 (by omega)]) ?_; by_cases hve : v = 101 ∨ v = 69
  ·
   have hX := figX_rng hD (n + 1); have hb : eBody (figD ds (n + 1)) (figX ds x (n + 1)) (hashF fl) (markL v) = bodyL v ds x n (hashF fl) := by unfold bodyL; rw [if_neg hvf, if_pos hve]
   have hpw := power_tot (D := figD ds (n + 1)) (by rw [figD_len]; omega) (by rw [figD_len]; omega) (figX ds x (n + 1)) hX.1 hX.2 (markL v) hm (hashF fl); have e1 : wrap64 ((n : Int) + 1) = ((n + 1 : Nat) : Int) := by rw [w64 (by omega) (by omega)]; omega
   have h5 : Ev (fun k => point_Render.j5 k d ((markL v).toNat : Int) (n : Int) (hashF fl) true v fl w p) (S (padL fl w (headL fl d) (bodyL v ds x n (hashF fl)) true), 0) := by
    refine Ev.step (fun k => by rw [point_Render.j5, if_pos rfl, e1]) ?_; refine Evx.bindc (Figures_tot hA hD (n + 1) (by omega) (by omega)) (fun k => by rw [hpw, Option.bind_some]) (fin _ hb)
   by_cases h101 : v = 101
   · exact Ev.step (fun k => by rw [point_Render.j4, if_neg (by decide), if_pos h101, show (v == 101) = true from beq_iff_eq.2 h101]; rfl) h5
   exact Ev.step (fun k => by rw [point_Render.j4, if_neg (by decide), if_neg h101, show (v == 69) = true from beq_iff_eq.2 (by omega)]; rfl) h5
  have hb : gBody (figD ds (max n 1)) (figX ds x (max n 1)) (max n 1) (hashF fl) (markL v) = bodyL v ds x n (hashF fl) := by unfold bodyL; rw [if_neg hvf, if_neg hve]
  refine Ev.step (fun k => by rw [point_Render.j4, if_neg (by decide), if_neg (by omega), show (v == 69) = false from beq_eq_false_iff_ne.2 (by omega)]) ?_; refine Ev.step (fun k => by rw [point_Render.j5, if_neg (by decide)]) ?_; exact Ev.bind (general_tot hA hD n (by omega) (hashF fl) (markL v) hm) (fin _ hb)
 refine Ev.step (fun k => ?_) h3; rw [point_Render.j2, if_neg (by decide)]; by_cases hp0 : p < 0
 · rw [if_pos hp0] at hnp; rw [if_pos hp0, hnp]
 rw [if_neg hp0] at hnp; rw [if_neg hp0]; have : n = p.toNat := by omega
 rw [← hnp]
end Go.Proofs.YtgbjojokjekmhaaGreatDoor.Num
