/- The law of PointPads answers true; plain, no program; conditions: a Spec of machine numbers, a double's bits. -/
import Derived.Test.YtgbjojokjekmhaaGreatDoorPadsP
import Derived.Test.YtgbjojokjekmhaaGreatDoorPXCx14
namespace Go.Proofs.YtgbjojokjekmhaaGreatDoor.Num
open Go.RowKit Go.Proofs.YtgbjojokjekmhaaGreatDoor.PXC Go.Proofs.YtgbjojokjekmhaaGreatDoorW.PrintWords Go.Proofs.YtgbjojokjekmhaaGreatDoorW.PrintLast Go.Proofs.YtgbjojokjekmhaaGreatDoorW.PrintMore
set_option linter.unusedVariables false
set_option linter.unusedSimpArgs false

/-- What is filled with. -/
def fillB (fl : Int) (z : Bool) : UInt8 := if Go.bits .and .i64 fl 17 = 16 ∧ z = true then 48 else 32
theorem bt_head {b : UInt8} {r : List UInt8} : bt (S (b :: r)) 0 = (b.toNat : Int) := by
 have h : (0 : Int).toNat < (S (b :: r)).size := by rw [s_size]; simp
 rw [← bt_at _ _ h]
 rfl
theorem set_fill (f : Int) (i m : Nat) (L : List Int) (h : L = List.replicate i f ++ List.replicate (m + 1) 0) : L.set i f = List.replicate (i + 1) f ++ List.replicate m 0 := by
 subst h
 rw [List.set_append_right _ _ (by rw [List.length_replicate]; exact Nat.le_refl _), List.length_replicate, Nat.sub_self, List.replicate_succ, List.set_cons_zero, List.replicate_succ']
 simp
theorem pads_end {d fl w p v : Int} {z : Bool} {hd bd : List UInt8} (hfl : 0 ≤ fl ∧ fl ≤ 31) (hh : hd = [] ∨ ∃ b, hd = [b]) (n : Nat) (hn : 0 < n) (hnw : n = w.toNat - hd.length - bd.length) (hlen : hd.length + bd.length ≤ 8388608) (hn2 : n ≤ 8388608) (k : Nat) :
  (if Go.bits .and .i64 fl 1 = 0 then (if 0 < ((List.replicate n ((fillB fl z).toNat : Int)).length : Int) then (if (rd (List.replicate n ((fillB fl z).toNat : Int)) 0) = 48 then (if 0 ≤ ((hd.length : Nat) : Int) then (if ((hd.length : Nat) : Int) ≤ ((S (hd ++ bd)).size : Int) then (if ((S (hd ++ bd)).extract 0 (((hd.length : Nat) : Int)).toNat).size + (strOfNums (List.replicate n ((fillB fl z).toNat : Int))).size ≤ 9223372036854775807 then (if (((S (hd ++ bd)).extract 0 (((hd.length : Nat) : Int)).toNat) ++ (strOfNums (List.replicate n ((fillB fl z).toNat : Int)))).size + ((S (hd ++ bd)).extract (((hd.length : Nat) : Int)).toNat (S (hd ++ bd)).size).size ≤ 9223372036854775807 then (some ((S (padL fl w hd bd z)).toList == ((((S (hd ++ bd)).extract 0 (((hd.length : Nat) : Int)).toNat) ++ (strOfNums (List.replicate n ((fillB fl z).toNat : Int)))) ++ ((S (hd ++ bd)).extract (((hd.length : Nat) : Int)).toNat (S (hd ++ bd)).size)).toList)) else (none)) else (none)) else (none)) else (none)) else (if (strOfNums (List.replicate n ((fillB fl z).toNat : Int))).size + (S (hd ++ bd)).size ≤ 9223372036854775807 then (some ((S (padL fl w hd bd z)).toList == ((strOfNums (List.replicate n ((fillB fl z).toNat : Int))) ++ (S (hd ++ bd))).toList)) else (none))) else (none)) else (if (S (hd ++ bd)).size + (strOfNums (List.replicate n ((fillB fl z).toNat : Int))).size ≤ 9223372036854775807 then (some ((S (padL fl w hd bd z)).toList == ((S (hd ++ bd)) ++ (strOfNums (List.replicate n ((fillB fl z).toNat : Int)))).toList)) else (none))) = some true := by
 have h17 := fl17 hfl.1 hfl.2
 have hs : strOfNums (List.replicate n ((fillB fl z).toNat : Int)) = S (List.replicate n (fillB fl z)) := nums_rep n _
 have hr0 : rd (List.replicate n ((fillB fl z).toNat : Int)) 0 = ((fillB fl z).toNat : Int) := by
  obtain ⟨m, rfl⟩ : ∃ m, n = m + 1 := ⟨n - 1, by omega⟩
  rfl
 have hx : (S (hd ++ bd)).extract 0 hd.length = S hd := by rw [s_take, List.take_left]
 have hy : (S (hd ++ bd)).extract hd.length (S (hd ++ bd)).size = S bd := by rw [s_drop, List.drop_left]
 rw [hs, hr0, Int.toNat_natCast, hx, hy]
 unfold padL
 rw [← hnw]
 by_cases b1 : Go.bits .and .i64 fl 1 = 0
 ·
  rw [if_pos b1, if_pos b1, if_pos (by rw [List.length_replicate]; omega)]
  by_cases b2 : Go.bits .and .i64 fl 16 = 0 ∨ z = false
  ·
   have hf : fillB fl z = 32 := by
    unfold fillB
    rw [if_neg (fun h => b2.elim (fun h0 => (h17.1 h.1).2 h0) (fun h0 => by rw [h0] at h; cases h.2))]
   rw [hf, if_neg (by decide), if_pos b2, s_app, if_pos (by simp only [s_size, List.length_append, List.length_replicate]; omega), s_list, s_list, List.append_assoc]
   simp
  ·
   have hz : z = true := by cases z with | true => rfl | false => exact absurd (.inr rfl) b2
   have hf : fillB fl z = 48 := by
    unfold fillB
    rw [if_pos ⟨h17.2 ⟨b1, fun h => b2 (.inl h)⟩, hz⟩]
   rw [hf, if_pos (by decide), if_pos (by omega), if_pos (by rw [s_size, List.length_append]; omega), if_neg b2, if_pos (by simp only [s_size, List.length_replicate]; omega), s_app, if_pos (by simp only [s_size, List.length_append, List.length_replicate]; omega), s_app, s_list]
   simp
 ·
  have hf : fillB fl z = 32 := by
   unfold fillB
   rw [if_neg (fun h => b1 (h17.1 h.1).1)]
  rw [if_neg b1, if_neg b1, hf, if_pos (by simp only [s_size, List.length_append, List.length_replicate]; omega), s_app, s_list]
  simp
theorem pads_loop {d fl w p v : Int} {z : Bool} {hd bd : List UInt8} (hz : abacuslaw15_finite.f d = some z) (hfl : 0 ≤ fl ∧ fl ≤ 31) (hh : hd = [] ∨ ∃ b, hd = [b]) (n : Nat) (hn : 0 < n) (hnw : n = w.toNat - hd.length - bd.length) (hlen : hd.length + bd.length ≤ 8388608) (hn2 : n ≤ 8388608) :
  ∀ (m i : Nat) (L : List Int), i + m = n → L = List.replicate i ((fillB fl z).toNat : Int) ++ List.replicate m 0 → Ev (fun k => abacuslaw15_PointPads.l0 k d (S (padL fl w hd bd z)) (S (hd ++ bd)) (n : Int) ((hd.length : Nat) : Int) L (i : Int) v fl w p) true := by
 intro m
 induction m with
 | zero =>
  intro i L hi hL
  obtain rfl : i = n := by omega
  have hL2 : L = List.replicate i ((fillB fl z).toNat : Int) := by rw [hL]; simp
  subst hL2
  refine Ev.step (f := fun _ => some true) (fun k => ?_) (Ev.now _)
  rw [abacuslaw15_PointPads.l0, if_neg (by omega)]
  exact pads_end (d := d) (p := p) (v := v) hfl hh i hn hnw hlen hn2 k
 | succ m ih =>
  intro i L hi hL
  have hLl : L.length = n := by rw [hL, List.length_append, List.length_replicate, List.length_replicate]; omega
  have e1 : wrap64 ((i : Int) + 1) = ((i + 1 : Nat) : Int) := by rw [w64 (by omega) (by omega)]; omega
  by_cases h17 : Go.bits .and .i64 fl 17 = 16
  ·
   cases z with
   | true =>
    have hf : fillB fl true = 48 := by unfold fillB; rw [if_pos ⟨h17, rfl⟩]
    have hs : (L.set i 32).set i 48 = List.replicate (i + 1) ((fillB fl true).toNat : Int) ++ List.replicate m 0 := by
     rw [List.set_set]
     have h := set_fill ((fillB fl true).toNat : Int) i m L hL
     rw [hf] at h ⊢
     exact h
    refine Ev.step (fun k => ?_) (ih (i + 1) _ (by omega) hs)
    rw [abacuslaw15_PointPads.l0, if_pos (by omega), if_pos (by omega), if_pos (by omega), Option.bind_some, if_pos h17, hz, Option.bind_some, if_pos rfl, e1, Int.toNat_natCast]
   | false =>
    have hf : fillB fl false = 32 := by unfold fillB; rw [if_neg (fun h => by cases h.2)]
    have hs : L.set i 32 = List.replicate (i + 1) ((fillB fl false).toNat : Int) ++ List.replicate m 0 := by
     have h := set_fill ((fillB fl false).toNat : Int) i m L hL
     rw [hf] at h ⊢
     exact h
    refine Ev.step (fun k => ?_) (ih (i + 1) _ (by omega) hs)
    rw [abacuslaw15_PointPads.l0, if_pos (by omega), if_pos (by omega), if_pos (by omega), Option.bind_some, if_pos h17, hz, Option.bind_some, if_neg (by decide), e1, Int.toNat_natCast]
  ·
   have hf : fillB fl z = 32 := by unfold fillB; rw [if_neg (fun h => h17 h.1)]
   have hs : L.set i 32 = List.replicate (i + 1) ((fillB fl z).toNat : Int) ++ List.replicate m 0 := by
    have h := set_fill ((fillB fl z).toNat : Int) i m L hL
    rw [hf] at h ⊢
    exact h
   refine Ev.step (fun k => ?_) (ih (i + 1) _ (by omega) hs)
   rw [abacuslaw15_PointPads.l0, if_pos (by omega), if_pos (by omega), if_pos (by omega), Option.bind_some, if_neg h17, e1, Int.toNat_natCast]
theorem pads_core {d fl w p v : Int} {z : Bool} {hd bd : List UInt8} (hz : abacuslaw15_finite.f d = some z) (hfl : 0 ≤ fl ∧ fl ≤ 31) (hw : 0 ≤ w ∧ w ≤ 4096)
  (hh : hd = [] ∨ ∃ b, hd = [b] ∧ ((b.toNat : Int) = 45 ∨ (b.toNat : Int) = 43 ∨ (b.toNat : Int) = 32)) (hb : ∃ c r, bd = c :: r ∧ Plainb c) (hlen : hd.length + bd.length ≤ 4194304) :
  Ev (fun k => abacuslaw15_PointPads.j0 k d (S (padL fl w hd bd z)) (S (hd ++ bd)) false v fl w p) true := by
 obtain ⟨c, r, rfl, hc⟩ := hb
 have hUl : ((S (hd ++ c :: r)).size : Int) = ((hd.length : Nat) : Int) + (((c :: r).length : Nat) : Int) := by rw [s_size, List.length_append]; omega
 have e1 : wrap64 (w - ((S (hd ++ c :: r)).size : Int)) = w - ((hd.length : Nat) : Int) - (((c :: r).length : Nat) : Int) := by rw [hUl, w64 (by omega) (by omega)]; omega
 have hh2 : hd = [] ∨ ∃ b, hd = [b] := hh.imp id (fun ⟨b, h, _⟩ => ⟨b, h⟩)
 by_cases h0 : w - ((hd.length : Nat) : Int) - (((c :: r).length : Nat) : Int) ≤ 0
 ·
  have hp : padL fl w hd (c :: r) z = hd ++ c :: r := by
   have hm : w.toNat - hd.length - (c :: r).length = 0 := by omega
   unfold padL
   rw [hm]
   split
   ·
    split <;> simp
   ·
    simp
  refine Ev.step (f := fun _ => some true) (fun k => ?_) (Ev.now _)
  rw [abacuslaw15_PointPads.j0, if_neg (by decide), e1, if_pos h0, hp]
  simp
 ·
  obtain ⟨n, hn⟩ : ∃ n : Nat, w - ((hd.length : Nat) : Int) - (((c :: r).length : Nat) : Int) = (n : Int) := ⟨(w - ((hd.length : Nat) : Int) - (((c :: r).length : Nat) : Int)).toNat, by omega⟩
  have h2 : Ev (fun k => abacuslaw15_PointPads.j2 k d (S (padL fl w hd (c :: r) z)) (S (hd ++ c :: r)) (n : Int) ((hd.length : Nat) : Int) v fl w p) true := by
   refine Ev.step (fun k => ?_) (pads_loop (w := w) (bd := c :: r) (v := v) (p := p) hz hfl hh2 n (by omega) (by omega) (by omega) (by omega) n 0 (List.replicate n 0) (by omega) (by simp))
   rw [abacuslaw15_PointPads.j2, if_pos (by omega), Int.toNat_natCast, if_pos (by omega)]
   rfl
  have hsz : (0 : Int) < ((S (hd ++ c :: r)).size : Int) := by
   have : (c :: r).length = r.length + 1 := List.length_cons
   omega
  rcases hh with rfl | ⟨b, rfl, hb⟩
  ·
   have hbt : bt (S ([] ++ c :: r)) 0 = (c.toNat : Int) := bt_head
   obtain ⟨p1, p2, p3⟩ := hc
   have h1 : Ev (fun k => abacuslaw15_PointPads.j1 k d (S (padL fl w [] (c :: r) z)) (S ([] ++ c :: r)) (n : Int) 0 false v fl w p) true := Ev.step (fun k => by rw [abacuslaw15_PointPads.j1, if_neg (by decide)]; rfl) h2
   refine Ev.step (fun k => ?_) h1
   rw [abacuslaw15_PointPads.j0, if_neg (by decide), e1, hn, if_neg (by omega), if_pos hsz, hbt, if_neg (by omega), if_neg (by omega), show ((c.toNat : Int) == 32) = false from beq_eq_false_iff_ne.2 (by omega)]
  ·
   have hbt : bt (S ([b] ++ c :: r)) 0 = (b.toNat : Int) := bt_head
   have h1 : Ev (fun k => abacuslaw15_PointPads.j1 k d (S (padL fl w [b] (c :: r) z)) (S ([b] ++ c :: r)) (n : Int) 0 true v fl w p) true := Ev.step (fun k => by rw [abacuslaw15_PointPads.j1, if_pos rfl]; rfl) h2
   refine Ev.step (fun k => ?_) h1
   rw [abacuslaw15_PointPads.j0, if_neg (by decide), e1, hn, if_neg (by omega), if_pos hsz, hbt]
   rcases hb with hb | hb | hb
   ·
    rw [if_pos hb]
   ·
    rw [if_neg (by omega), if_pos hb]
   ·
    rw [if_neg (by omega), if_neg (by omega), show ((b.toNat : Int) == 32) = true from beq_iff_eq.2 hb]
/-- PointPads is true. -/
theorem PointPads_tot (v fl w p d : Int) (h0 : 0 ≤ d) (h1 : d < 18446744073709551616) : Ev (fun k => abacuslaw15_PointPads.f k v fl w p d) true := by
 unfold abacuslaw15_PointPads.f
 refine Evx.bindc awake_tot (fun k => by rw [if_pos rfl]) ?_
 have hwr := wrong_tot v fl w p
 by_cases hv : verbOk v
 ·
  rw [if_pos hv] at hwr
  by_cases hw : wrongE fl w p = 0
  ·
   have hb : (0 ≤ fl ∧ fl ≤ 31) ∧ (0 ≤ w ∧ w ≤ 4096) ∧ (-1 ≤ p ∧ p ≤ 4096) := by
    unfold wrongE at hw
    split at hw
    ·
     cases hw
    ·
     split at hw
     ·
      cases hw
     ·
      omega
   obtain ⟨g0, g1, g2, g4, g8⟩ := flno hb.1.1 hb.1.2
   have hw2 : wrongE (Go.bits .andNot .i64 fl 16) 0 p = 0 := by
    unfold wrongE
    rw [if_neg (by omega), if_neg (by omega)]
   have hhead : headL (Go.bits .andNot .i64 fl 16) d = headL fl d := by unfold headL; rw [g2, g4]
   have hhash : hashF (Go.bits .andNot .i64 fl 16) = hashF fl := by unfold hashF; rw [g8]
   obtain ⟨c, hc, hcc⟩ := class_fin h0 h1
   have hft : Int.tmod d 9223372036854775808 = d % 9223372036854775808 := Int.tmod_eq_emod_of_nonneg h0
   have key : ∀ (z : Bool) (bd : List UInt8), abacuslaw15_finite.f d = some z → (∃ c r, bd = c :: r ∧ Plainb c) → bd.length ≤ 3300000 → Ev (fun k => point_Render.f k v fl w p d) (S (padL fl w (headL fl d) bd z), 0) → Ev (fun k => point_Render.f k v (Go.bits .andNot .i64 fl 16) 0 p d) (S (padL (Go.bits .andNot .i64 fl 16) 0 (headL fl d) bd z), 0) → Ev (fun k => (point_Render.f k v fl w p d).bind fun bt329 => ((abacuslaw15_wrong.f k v fl w p).bind fun t331 => (if t331 = 0 then ((point_Render.f k v (Go.bits .andNot .i64 fl 16) 0 p d).bind fun bt332 => (if bt329.2 = 0 then (if bt332.2 = 0 then (abacuslaw15_PointPads.j0 k d bt329.1 bt332.1 ((bt332.1.size : Int) == 0) v fl w p) else (abacuslaw15_PointPads.j0 k d bt329.1 bt332.1 true v fl w p)) else (abacuslaw15_PointPads.j0 k d bt329.1 bt332.1 true v fl w p))) else (if bt329.2 = t331 then (some (bt329.1.toList == ([] : List UInt8))) else (some false))))) true := by
    intro z bd hz hbd hl hT hU
    have hhl := headL_len fl d
    have hp : padL (Go.bits .andNot .i64 fl 16) 0 (headL fl d) bd z = headL fl d ++ bd := by
     unfold padL
     have hm : (0 : Int).toNat - (headL fl d).length - bd.length = 0 := by
      rw [Int.toNat_zero, Nat.zero_sub, Nat.zero_sub]
     rw [hm]
     split
     ·
      split <;> simp
     ·
      simp
    rw [hp] at hU
    refine Ev.bind hT ?_
    refine Evx.bindc hwr (fun k => by rw [if_pos hw]) ?_
    refine Evx.bindc hU (fun k => ?_) (pads_core (v := v) (p := p) hz hb.1 hb.2.1 (headL_cases fl d) hbd (by omega))
    obtain ⟨b0, r0, rfl, _⟩ := hbd
    have hne : (((S (headL fl d ++ b0 :: r0)).size : Int) == 0) = false := beq_eq_false_iff_ne.2 (by rw [s_size, List.length_append, List.length_cons]; omega)
    rw [if_pos rfl, if_pos rfl, hne]
   rcases hcc with ⟨hc3, hfin⟩ | ⟨hc34, hfin⟩
   ·
    obtain ⟨neg, ds, x, hA, hD⟩ := All_tot d h0 h1 hc hc3
    have hz : abacuslaw15_finite.f d = some true := by unfold abacuslaw15_finite.f; rw [hft, decide_eq_true hfin]
    have hn2 : precN p ≤ 4096 := by unfold precN; split <;> omega
    have hT := Render_fin hv hw hc hc3 hA hD
    have hU := Render_fin hv hw2 hc hc3 hA hD
    rw [hhead, hhash] at hU
    have hbl := bodyL_len hD v (precN p) hn2 (hashF fl)
    exact key true _ hz (body_head hD v (precN p) (hashF fl)) (by omega) hT hU
   ·
    have hz : abacuslaw15_finite.f d = some false := by unfold abacuslaw15_finite.f; rw [hft, decide_eq_false hfin]
    have hT := Render_inf hv hw hc hc34
    have hU := Render_inf hv hw2 hc hc34
    rw [hhead] at hU
    have hnl : (nameL v c).length ≤ 3 := by unfold nameL; split <;> (split <;> simp)
    exact key false _ hz (name_head v c) (by omega) hT hU
  ·
   refine Ev.bind (Render_bad hv hw) ?_
   refine Evx.bindc (h := fun _ => some true) hwr (fun k => ?_) (Ev.now _)
   rw [if_neg hw, if_pos rfl, s_list]
   rfl
 ·
  rw [if_neg hv] at hwr
  refine Ev.bind (Render_verb hv) ?_
  refine Evx.bindc (h := fun _ => some true) hwr (fun k => ?_) (Ev.now _)
  rw [if_neg (by decide), if_pos rfl, s_list]
  rfl
end Go.Proofs.YtgbjojokjekmhaaGreatDoor.Num
