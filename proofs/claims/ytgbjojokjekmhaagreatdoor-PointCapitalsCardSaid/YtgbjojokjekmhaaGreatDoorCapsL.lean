/- The law of PointCapitals answers true; plain, no program; conditions: a Spec of machine numbers, a double's bits. -/
import Derived.Test.YtgbjojokjekmhaaGreatDoorPadsP
import Derived.Test.YtgbjojokjekmhaaGreatDoorLowerW
import Derived.Test.YtgbjojokjekmhaaGreatDoorPXKy
namespace Go.Proofs.YtgbjojokjekmhaaGreatDoor.Num
open Go.RowKit Go.Proofs.YtgbjojokjekmhaaGreatDoor.PXC Go.Proofs.YtgbjojokjekmhaaGreatDoor.PXK Go.Proofs.YtgbjojokjekmhaaGreatDoorW.PrintWords Go.Proofs.YtgbjojokjekmhaaGreatDoorW.PrintLast Go.Proofs.YtgbjojokjekmhaaGreatDoorW.PrintMore
set_option linter.unusedVariables false
set_option linter.unusedSimpArgs false

theorem dec_dg : ∀ (u : Nat), Dg (Lib.decDigits u) := by
 intro u
 induction u using Nat.strongRecOn with
 | _ u ih =>
  rw [Lib.decDigits]
  split
  ·
   rename_i h
   intro b hb
   rw [List.mem_singleton.1 hb, UInt8.toNat_ofNat']
   omega
  ·
   rename_i h
   refine dg_append.2 ⟨ih (u / 10) (by omega), fun b hb => ?_⟩
   rw [List.mem_singleton.1 hb, UInt8.toNat_ofNat']
   omega
/-- Rows without letters. -/
def Nl (l : List UInt8) : Prop := ∀ b ∈ l, b.toNat < 65
theorem nl_dg {l : List UInt8} (h : Dg l) : Nl l := fun b hb => by have := h b hb; omega
theorem nl_append {a b : List UInt8} : Nl (a ++ b) ↔ Nl a ∧ Nl b := by
 unfold Nl
 constructor
 ·
  intro h
  exact ⟨fun x hx => h x (List.mem_append_left _ hx), fun x hx => h x (List.mem_append_right _ hx)⟩
 ·
  rintro ⟨h1, h2⟩ x hx
  rcases List.mem_append.1 hx with hx | hx
  ·
   exact h1 x hx
  ·
   exact h2 x hx
theorem nl_rep (n : Nat) {b : UInt8} (h : b.toNat < 65) : Nl (List.replicate n b) := fun x hx => by
 obtain ⟨_, rfl⟩ := List.mem_replicate.1 hx
 exact h
theorem nl_cons {b : UInt8} {l : List UInt8} (h : b.toNat < 65) (hl : Nl l) : Nl (b :: l) := fun x hx => by
 rcases List.mem_cons.1 hx with rfl | hx
 ·
  exact h
 ·
  exact hl x hx
theorem nl_nil : Nl [] := fun _ h => by cases h
theorem low_nl {l : List UInt8} (h : Nl l) : lowL l = l := by
 unfold lowL
 conv => rhs; rw [← List.map_id l]
 refine List.map_congr_left fun b hb => ?_
 have := h b hb
 unfold lowB
 rw [if_neg (by omega)]
 rfl
theorem low_app (a b : List UInt8) : lowL (a ++ b) = lowL a ++ lowL b := List.map_append
/-- No small letter. -/
def Up (l : List UInt8) : Prop := ∀ b ∈ l, ¬ (97 ≤ b.toNat ∧ b.toNat ≤ 122)
theorem up_nl {l : List UInt8} (h : Nl l) : Up l := fun b hb => by have := h b hb; omega
theorem up_append {a b : List UInt8} (h1 : Up a) (h2 : Up b) : Up (a ++ b) := fun x hx => by
 rcases List.mem_append.1 hx with hx | hx
 ·
  exact h1 x hx
 ·
  exact h2 x hx
theorem head_nl (fl d : Int) : Nl (headL fl d) := by
 rcases headL_cases fl d with h | ⟨b, h, hb⟩
 ·
  rw [h]; exact nl_nil
 ·
  rw [h]
  exact nl_cons (by omega) nl_nil
theorem pad_low (fl w : Int) {hd bd bd' : List UInt8} (z : Bool) (hh : Nl hd) (h : lowL bd = bd') (hl : bd.length = bd'.length) : lowL (padL fl w hd bd z) = padL fl w hd bd' z := by
 unfold padL
 rw [hl]
 split
 ·
  split
  ·
   rw [low_app, low_app, h, low_nl hh, low_nl (nl_rep _ (by decide))]
  ·
   rw [low_app, low_app, h, low_nl hh, low_nl (nl_rep _ (by decide))]
 ·
  rw [low_app, low_app, h, low_nl hh, low_nl (nl_rep _ (by decide))]
theorem pad_up (fl w : Int) {hd bd : List UInt8} (z : Bool) (hh : Nl hd) (h : Up bd) : Up (padL fl w hd bd z) := by
 unfold padL
 split
 ·
  split
  ·
   exact up_append (up_append (up_nl (nl_rep _ (by decide))) (up_nl hh)) h
  ·
   exact up_append (up_append (up_nl hh) (up_nl (nl_rep _ (by decide)))) h
 ·
  exact up_append (up_append (up_nl hh) h) (up_nl (nl_rep _ (by decide)))
theorem tail_parts (e : Int) : ∃ r, Nl r ∧ ∀ c, tailL e c = c :: r := by
 refine ⟨(if e < 0 then (if -e < 10 then [45, 48] else [45]) else (if e < 10 then [43, 48] else [43])) ++ Lib.itoa (if e < 0 then -e else e), nl_append.2 ⟨?_, ?_⟩, fun c => by unfold tailL; rfl⟩
 ·
  split
  ·
   split
   ·
    exact nl_cons (by decide) (nl_cons (by decide) nl_nil)
   ·
    exact nl_cons (by decide) nl_nil
  ·
   split
   ·
    exact nl_cons (by decide) (nl_cons (by decide) nl_nil)
   ·
    exact nl_cons (by decide) nl_nil
 ·
  unfold Lib.itoa
  rw [if_neg (by split <;> omega)]
  exact nl_dg (dec_dg _)
theorem tail_low (e : Int) : lowL (tailL e 69) = tailL e 101 ∧ Up (tailL e 69) := by
 obtain ⟨r, hr, h⟩ := tail_parts e
 rw [h, h]
 refine ⟨?_, ?_⟩
 ·
  have : lowL (69 :: r) = lowB 69 :: lowL r := rfl
  rw [this, low_nl hr]
  rfl
 ·
  intro b hb
  rcases List.mem_cons.1 hb with rfl | hb
  ·
   decide
  ·
   exact up_nl hr b hb
theorem gMain_nl {D : List UInt8} (h : Dg D) (X : Int) (n : Nat) : Nl (gMain D X n) := by
 have h46 : Nl [46] := nl_cons (by decide) nl_nil
 unfold gMain
 split
 ·
  split
  ·
   exact nl_append.2 ⟨nl_append.2 ⟨nl_cons (by decide) h46, nl_rep _ (by decide)⟩, nl_dg h⟩
  ·
   exact nl_append.2 ⟨nl_append.2 ⟨nl_dg (dg_take h _), h46⟩, nl_dg (dg_drop h _)⟩
 ·
  exact nl_append.2 ⟨nl_append.2 ⟨nl_dg (dg_take h _), h46⟩, nl_dg (dg_drop h _)⟩
theorem strip_nl {m : List UInt8} (h : Nl m) : Nl (stripL m) := by
 obtain ⟨n, hn, e⟩ := trimR_sub m 48
 have h2 : Nl (Lib.trimRightB m 48) := by rw [e]; exact fun b hb => h b (List.mem_of_mem_take hb)
 unfold stripL
 split
 ·
  exact fun b hb => h2 b (List.dropLast_subset _ hb)
 ·
  exact h2
/-- The verb in capitals. -/
def small (v : Int) : Prop := v = 101 ∨ v = 102 ∨ v = 103
theorem body_low {neg : Bool} {ds : List UInt8} {x : Int} (hD : Dec neg ds x) {v : Int} (hv : small v) (n : Nat) (hash : Bool) : lowL (bodyL (v - 32) ds x n hash) = bodyL v ds x n hash ∧ Up (bodyL (v - 32) ds x n hash) := by
 rcases hv with rfl | rfl | rfl
 ·
  have e1 : bodyL (101 - 32) ds x n hash = eBody (figD ds (n + 1)) (figX ds x (n + 1)) hash 69 := rfl
  have e2 : bodyL 101 ds x n hash = eBody (figD ds (n + 1)) (figX ds x (n + 1)) hash 101 := rfl
  obtain ⟨t1, t2⟩ := tail_low (figX ds x (n + 1))
  have hF := figD_dg hD.dg (n + 1)
  have hA : Nl ((figD ds (n + 1)).take 1 ++ (if 1 < (figD ds (n + 1)).length ∨ hash = true then 46 :: (figD ds (n + 1)).drop 1 else [])) := by
   refine nl_append.2 ⟨nl_dg (dg_take hF _), ?_⟩
   split
   ·
    exact nl_cons (by decide) (nl_dg (dg_drop hF _))
   ·
    exact nl_nil
  rw [e1, e2]
  unfold eBody
  rw [low_app, low_nl hA, t1]
  exact ⟨rfl, up_append (up_nl hA) t2⟩
 ·
  have e1 : bodyL (102 - 32) ds x n hash = fBody ds x n hash := rfl
  have e2 : bodyL 102 ds x n hash = fBody ds x n hash := rfl
  have hA : Nl (fBody ds x n hash) := by
   unfold fBody
   refine nl_append.2 ⟨nl_dg (ahead_dg hD.dg _ _), ?_⟩
   split
   ·
    exact nl_nil
   ·
    exact nl_cons (by decide) (nl_dg (behind_dg hD.dg _ _))
  rw [e1, e2]
  exact ⟨low_nl hA, up_nl hA⟩
 ·
  have e1 : bodyL (103 - 32) ds x n hash = gBody (figD ds (max n 1)) (figX ds x (max n 1)) (max n 1) hash 69 := rfl
  have e2 : bodyL 103 ds x n hash = gBody (figD ds (max n 1)) (figX ds x (max n 1)) (max n 1) hash 101 := rfl
  have hm := gMain_nl (figD_dg hD.dg (max n 1)) (figX ds x (max n 1)) (max n 1)
  have hA : Nl (if hash = true then gMain (figD ds (max n 1)) (figX ds x (max n 1)) (max n 1) else stripL (gMain (figD ds (max n 1)) (figX ds x (max n 1)) (max n 1))) := by
   split
   ·
    exact hm
   ·
    exact strip_nl hm
  obtain ⟨t1, t2⟩ := tail_low (figX ds x (max n 1))
  have hE : lowL (gEnd (figX ds x (max n 1)) (max n 1) 69) = gEnd (figX ds x (max n 1)) (max n 1) 101 ∧ Up (gEnd (figX ds x (max n 1)) (max n 1) 69) := by
   unfold gEnd
   split
   ·
    exact ⟨rfl, up_nl nl_nil⟩
   ·
    exact ⟨t1, t2⟩
  rw [e1, e2]
  unfold gBody
  rw [low_app, low_nl hA, hE.1]
  exact ⟨rfl, up_append (up_nl hA) hE.2⟩
theorem name_low {v : Int} (hv : small v) (c : Int) : lowL (nameL (v - 32) c) = nameL v c ∧ Up (nameL (v - 32) c) ∧ (nameL (v - 32) c).length = (nameL v c).length := by
 have c1 : v - 32 = 69 ∨ v - 32 = 70 ∨ v - 32 = 71 ∨ v - 32 = 88 := by unfold small at hv; omega
 have c2 : ¬ (v = 69 ∨ v = 70 ∨ v = 71 ∨ v = 88) := by unfold small at hv; omega
 unfold nameL
 rw [if_pos c1, if_neg c2]
 by_cases h4 : c = 4
 ·
  rw [if_pos h4, if_pos h4]
  exact ⟨by decide, fun b hb => by simp at hb; rcases hb with rfl | rfl | rfl <;> decide, rfl⟩
 ·
  rw [if_neg h4, if_neg h4]
  exact ⟨by decide, fun b hb => by simp at hb; rcases hb with rfl | rfl | rfl <;> decide, rfl⟩
theorem low_len (l : List UInt8) : (lowL l).length = l.length := by unfold lowL; rw [List.length_map]
theorem bt_at' {U : List UInt8} {i : Nat} (h : i < U.length) : bt (S U) (i : Int) = ((U[i]'h).toNat : Int) := by
 have h2 : ((i : Int)).toNat < (S U).size := by rw [s_size, Int.toNat_natCast]; exact h
 rw [← bt_at _ _ h2]
 rfl
theorem caps_loop {d W : Int} {U X : List UInt8} {is : Bool} (hU : Up U) (hl : U.length ≤ 16777216) (hend : (if W = 0 then ((abacuslaw15_finite.f d).bind fun t => (if t = true then (if is = true then (some false) else (some ((S X).toList == ([] : List UInt8)))) else (if is = true then (some ((S X).toList == (S U).toList)) else (some false)))) else (if is = true then (some false) else (some ((S X).toList == ([] : List UInt8))))) = some true) :
  ∀ n i : Nat, i + n = U.length → Ev (fun k => abacuslaw15_PointCapitals.l0 k d W (S U) (S X) is (i : Int)) true := by
 intro n
 induction n with
 | zero =>
  intro i hi
  refine Ev.step (f := fun _ => some true) (fun k => ?_) (Ev.now _)
  rw [abacuslaw15_PointCapitals.l0, if_neg (by rw [s_size]; omega)]
  exact hend
 | succ n ih =>
  intro i hi
  have hlt : i < U.length := by omega
  have e1 : wrap64 ((i : Int) + 1) = ((i + 1 : Nat) : Int) := by rw [w64 (by omega) (by omega)]; omega
  have hb := hU _ (List.getElem_mem hlt)
  refine Ev.step (fun k => ?_) (ih (i + 1) (by omega))
  rw [abacuslaw15_PointCapitals.l0, if_pos (by rw [s_size]; omega), if_pos (by omega), bt_at' hlt, e1]
  by_cases h97 : ((U[i]'hlt).toNat : Int) ≥ 97
  ·
   rw [if_pos h97, if_neg (by omega)]
  ·
   rw [if_neg h97]
theorem caps_j1 {d W : Int} {U X : List UInt8} {is : Bool} (hU : Up U) (hl : U.length ≤ 16777216) (hend : (if W = 0 then ((abacuslaw15_finite.f d).bind fun t => (if t = true then (if is = true then (some false) else (some ((S X).toList == ([] : List UInt8)))) else (if is = true then (some ((S X).toList == (S U).toList)) else (some false)))) else (if is = true then (some false) else (some ((S X).toList == ([] : List UInt8))))) = some true) :
  Ev (fun k => abacuslaw15_PointCapitals.j1 k d W (S U) (S X) is false) true :=
 Ev.step (fun k => by rw [abacuslaw15_PointCapitals.j1, if_neg (by decide)]; rfl) (caps_loop hU hl hend U.length 0 (by omega))
theorem small_ok {v : Int} (hv : small v) : verbOk v ∧ verbOk (v - 32) := by
 unfold small at hv
 unfold verbOk
 omega
theorem caps_j0 {v : Int} (hv : small v) (fl w p d : Int) (h0 : 0 ≤ d) (h1 : d < 18446744073709551616) : Ev (fun k => abacuslaw15_PointCapitals.j0 k d (wrongE fl w p) v fl w p (v - 32) fl w p) true := by
 obtain ⟨hv1, hv2⟩ := small_ok hv
 have key : ∀ (T U X : List UInt8) (is : Bool), Ev (fun k => point_Render.f k v fl w p d) (S T, wrongE fl w p) → Ev (fun k => point_Render.f k (v - 32) fl w p d) (S U, wrongE fl w p) → Ev (fun k => point_Special.f k (v - 32) fl w p d) (S X, is, wrongE fl w p) → lowL U = T → Up U → U.length ≤ 16777216 →
   (if wrongE fl w p = 0 then ((abacuslaw15_finite.f d).bind fun t => (if t = true then (if is = true then (some false) else (some ((S X).toList == ([] : List UInt8)))) else (if is = true then (some ((S X).toList == (S U).toList)) else (some false)))) else (if is = true then (some false) else (some ((S X).toList == ([] : List UInt8))))) = some true →
   Ev (fun k => abacuslaw15_PointCapitals.j0 k d (wrongE fl w p) v fl w p (v - 32) fl w p) true := by
  intro T U X is hT hU hX hlow hup hl hend
  have hlw : abacuslaw15_lowered.f (S U) = some (S T) := by
   unfold abacuslaw15_lowered.f
   rw [if_pos (by rw [s_size]; omega), s_data, hlow]
  refine Ev.step (fun k => by rw [abacuslaw15_PointCapitals.j0]) ?_
  refine Ev.bind hT ?_
  refine Ev.bind hU ?_
  refine Evx.bindc hX (fun k => ?_) (caps_j1 hup hl hend)
  rw [if_pos rfl, if_pos rfl, if_pos rfl]
  show ((abacuslaw15_lowered.f (S U)).bind _) = _
  rw [hlw, Option.bind_some]
  simp
 by_cases hw : wrongE fl w p = 0
 ·
  have hb : (0 ≤ fl ∧ fl ≤ 31) ∧ (0 ≤ w ∧ w ≤ 4096) ∧ (-1 ≤ p ∧ p ≤ 4096) := by
   unfold wrongE at hw
   split at hw
   ·
    cases hw
   ·
    split at hw
    ·
     cases hw
    ·
     omega
  have hhl := headL_len fl d
  have hft : Int.tmod d 9223372036854775808 = d % 9223372036854775808 := Int.tmod_eq_emod_of_nonneg h0
  obtain ⟨c, hc, hcc⟩ := class_fin h0 h1
  have padlen : ∀ (bd : List UInt8) (z : Bool), bd.length ≤ 3300000 → (padL fl w (headL fl d) bd z).length ≤ 16777216 := by
   intro bd z hbl
   unfold padL
   split
   ·
    split <;> (simp only [List.length_append, List.length_replicate]; omega)
   ·
    simp only [List.length_append, List.length_replicate]; omega
  rcases hcc with ⟨hc3, hfin⟩ | ⟨hc34, hfin⟩
  ·
   obtain ⟨neg, ds, x, hA, hD⟩ := All_tot d h0 h1 hc hc3
   have hz : abacuslaw15_finite.f d = some true := by unfold abacuslaw15_finite.f; rw [hft, decide_eq_true hfin]
   have hn2 : precN p ≤ 4096 := by unfold precN; split <;> omega
   have hT := Render_fin hv1 hw hc hc3 hA hD
   have hU := Render_fin hv2 hw hc hc3 hA hD
   have hX := Special_fin (v := v - 32) (d := d) hw hc hc3
   obtain ⟨b1, b2⟩ := body_low hD hv (precN p) (hashF fl)
   have hbl := bodyL_len hD (v - 32) (precN p) hn2 (hashF fl)
   have hll : (bodyL (v - 32) ds x (precN p) (hashF fl)).length = (bodyL v ds x (precN p) (hashF fl)).length := by rw [← b1, low_len]
   refine key _ _ [] false (by rw [hw]; exact hT) (by rw [hw]; exact hU) (by rw [hw]; exact hX) (pad_low fl w true (head_nl fl d) b1 hll) (pad_up fl w true (head_nl fl d) b2) (padlen _ _ (by omega)) ?_
   rw [if_pos hw, hz, Option.bind_some, if_pos rfl, s_list]
   rfl
  ·
   have hz : abacuslaw15_finite.f d = some false := by unfold abacuslaw15_finite.f; rw [hft, decide_eq_false hfin]
   have hT := Render_inf (v := v) hv1 hw hc hc34
   have hU := Render_inf (v := v - 32) hv2 hw hc hc34
   have hX := Special_inf (v := v - 32) hw hc hc34
   obtain ⟨b1, b2, b3⟩ := name_low hv c
   have hnl : (nameL (v - 32) c).length ≤ 3 := by unfold nameL; split <;> (split <;> simp)
   refine key _ _ _ true (by rw [hw]; exact hT) (by rw [hw]; exact hU) (by rw [hw]; exact hX) (pad_low fl w false (head_nl fl d) b1 b3) (pad_up fl w false (head_nl fl d) b2) (padlen _ _ (by omega)) ?_
   rw [if_pos hw, hz, Option.bind_some]
   simp
 ·
  refine key [] [] [] false (Render_bad hv1 hw) (Render_bad hv2 hw) (Special_bad hw) rfl (up_nl nl_nil) (by simp) ?_
  rw [if_neg hw, if_neg (by decide), s_list]
  rfl
/-- PointCapitals is true. -/
theorem PointCapitals_tot (v fl w p d : Int) (h0 : 0 ≤ d) (h1 : d < 18446744073709551616) : Ev (fun k => abacuslaw15_PointCapitals.f k v fl w p d) true := by
 unfold abacuslaw15_PointCapitals.f
 refine Evx.bindc awake_tot (fun k => by rw [if_pos rfl]) ?_
 have hwr := wrong_tot v fl w p
 by_cases hv : verbOk v
 ·
  rw [if_pos hv] at hwr
  have hne : wrongE fl w p ≠ 140 := by
   unfold wrongE
   split
   ·
    omega
   ·
    split <;> omega
  by_cases h97 : v ≥ 97
  ·
   have hs : small v := by unfold verbOk at hv; unfold small; omega
   refine Evx.bindc hwr (fun k => ?_) (caps_j0 hs fl w p d h0 h1)
   rw [if_neg hne, if_pos h97, show ((((v - 97) % 256) + 65) % 256) = v - 32 by unfold small at hs; omega]
  ·
   have hs : small (v + 32) := by unfold verbOk at hv; unfold small; omega
   have hc := caps_j0 hs fl w p d h0 h1
   rw [show v + 32 - 32 = v by omega] at hc
   refine Evx.bindc hwr (fun k => ?_) hc
   rw [if_neg hne, if_neg h97, show ((((v - 65) % 256) + 97) % 256) = v + 32 by unfold verbOk at hv; omega]
 ·
  rw [if_neg hv] at hwr
  refine Evx.bindc hwr (fun k => by rw [if_pos rfl]) ?_
  exact Evx.bindc (h := fun _ => some true) (Render_verb hv) (fun k => rfl) (Ev.now _)
end Go.Proofs.YtgbjojokjekmhaaGreatDoor.Num
