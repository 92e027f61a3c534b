/- What the printed walks of the Record laws read of the package variables; conditions: none. -/
import Derived.Test.YtmbacdkpgfbclaaGreatDoorRecS
import Derived.Test.YtmbacdkpgfbclaaGreatDoorPXIx11
import Derived.Test.YtmbacdkpgfbclaaGreatDoorWMore
namespace Go.Proofs.YtmbacdkpgfbclaaGreatDoor
open Go.RowKit Go.Proofs.YtmbacdkpgfbclaaGreatDoorW.PrintWords Go.Proofs.YtmbacdkpgfbclaaGreatDoorW.PrintLast Heap
set_option linter.unusedVariables false
set_option linter.unusedSimpArgs false
theorem in10 : PXI.value_Input.f 200 ⟨#[49, 48]⟩ = some (3, 4621819117588971520, ⟨#[49, 48]⟩) := by decide +kernel
theorem inX : PXI.value_Input.f 200 ⟨#[120]⟩ = some (2, 0, ⟨#[120]⟩) := by decide +kernel
def V10 : Val := (3, 4621819117588971520, ⟨#[49, 48]⟩)
def Vx : Val := (2, 0, ⟨#[120]⟩)
def Vy : Val := (2, 0, ⟨#[121]⟩)
theorem aw_lines : linesOf ⟨#[97, 10, 98, 10]⟩ ⟨#[10]⟩ = [⟨#[97]⟩, ⟨#[98]⟩] := by
 have c0 : cutsFrom ⟨#[97, 10, 98, 10]⟩ ⟨#[10]⟩ 0 = [(0, 1), (2, 3), (4, 4)] := by
  rw [cutsFrom_hit (x := 1) (by decide) (by decide) (by decide), cutsFrom_hit (x := 1) (by decide) (by decide) (by decide), cutsFrom_miss (by decide)]; rfl
 unfold linesOf; rw [c0]; rfl
theorem aw_fields : fieldsOf ⟨#[97, 44, 98]⟩ ⟨#[44]⟩ = [⟨#[97]⟩, ⟨#[98]⟩] := by
 have c0 : cutsFrom ⟨#[97, 44, 98]⟩ ⟨#[44]⟩ 0 = [(0, 1), (2, 3)] := by
  rw [cutsFrom_hit (x := 1) (by decide) (by decide) (by decide), cutsFrom_miss (by decide)]; rfl
 unfold fieldsOf; rw [if_neg (by decide), if_neg (by decide), if_neg (by decide), c0]; rfl
theorem aw_runs : fieldsOf ⟨#[49, 48, 32, 120]⟩ ⟨#[32]⟩ = [⟨#[49, 48]⟩, ⟨#[120]⟩] := by
 have e0 : runEnd ⟨#[49, 48, 32, 120]⟩ 0 = 2 := by
  rw [runEnd_go (by decide) (by decide), runEnd_go (by decide) (by decide), runEnd_stop (by decide)]
 have e3 : runEnd ⟨#[49, 48, 32, 120]⟩ 3 = 4 := by
  rw [runEnd_go (by decide) (by decide), runEnd_stop (by decide)]
 have c0 : runs ⟨#[49, 48, 32, 120]⟩ = [(0, 2), (3, 4)] := by
  unfold runs; rw [runsFrom_run (by decide) (by decide), e0, runsFrom_blank (by decide) (by decide), runsFrom_run (by decide) (by decide), e3, runsFrom_end (by decide)]
 unfold fieldsOf; rw [if_neg (by decide), if_pos rfl, c0]; rfl
theorem aw_in : InC [⟨#[49, 48]⟩, ⟨#[120]⟩] [V10, Vx] := by
 refine ⟨rfl, fun i hi u hu => ?_⟩; rcases i with _ | _ | i
 · exact PXI.value_Input.calls 200 _ _ _ _ u in10 (HG := ⟨hu⟩)
 · exact PXI.value_Input.calls 200 _ _ _ _ u inX (HG := ⟨hu⟩)
 exact absurd hi (by show ¬ i + 1 + 1 < 2; omega)
theorem aw_str (cf : ByteArray) : StrC ((sized [V10, Vx] 4).set 3 Vy) [⟨#[49, 48]⟩, ⟨#[120]⟩, ⟨#[]⟩, ⟨#[121]⟩] cf := by
 refine ⟨rfl, fun i hi u hu => ?_⟩; rcases i with _ | _ | _ | _ | i
 · exact ToStr_3 _ _ cf u
 · exact ToStr_2 _ _ cf u
 · exact ToStr_0 0 _ _ cf u rfl rfl rfl
 · exact ToStr_2 _ _ cf u
 exact absurd hi (by show ¬ i + 1 + 1 + 1 + 1 < 4; omega)
theorem aw_join : joinB [⟨#[49, 48]⟩, ⟨#[120]⟩, ⟨#[]⟩, ⟨#[121]⟩] ⟨#[45]⟩ = ⟨#[49, 48, 45, 120, 45, 45, 121]⟩ := by decide +kernel
set_option maxRecDepth 100000 in
set_option maxHeartbeats 4000000 in
theorem awake_walk (w : World) (HG : GM w) : Calls Tryz.prog 30 #[] w fun e w' => e = .returned (.bool true) ∧ Below w.heap.size w w' := by
 go_enter Tryz.func30, Tryz.ntmps30; go_wp2_with fail; refine (Lines_walk _ _ (by decide) (by decide) w HG).mono ?_; rintro e w1 ⟨v1, rfl, ho1, hb1⟩; rw [aw_lines] at ho1; obtain ⟨A1, c1, rfl, hr1⟩ := sr_own ho1; have B1 := Lib.hid hb1; have S1 := Lib.hid hr1; clear ho1 hb1 hr1; go_wp2_with fail; refine (Fields_walk _ _ (by decide) w1 (HG.below B1.out)).mono ?_; rintro e w2 ⟨v2, rfl, ho2, hb2⟩; rw [aw_fields] at ho2; obtain ⟨A2, c2, rfl, hr2⟩ := sr_own ho2; have B2 := Lib.hid (B1.out.trans (hb2.mono B1.out.size)); obtain ⟨ad1, hA1, x0⟩ := (S1.out.below hb2) 0 (by decide); obtain ⟨_, hA1', x1⟩ := (S1.out.below hb2) 1 (by decide); subst hA1; cases hA1'
 obtain ⟨ad2, hA2, y1⟩ := hr2 1 (by decide); subst hA2; have x0' : w2.cell? ad1 = some (.string ⟨#[97]⟩) := (congrArg w2.cell? (show ad1 = ad1.add 0 by cases ad1; simp [Addr.add])).trans x0; have x1' : w2.cell? ⟨ad1.block, ad1.off + 1, none⟩ = some (.string ⟨#[98]⟩) := x1; have y1' : w2.cell? ⟨ad2.block, ad2.off + 1, none⟩ = some (.string ⟨#[98]⟩) := y1; clear ho2 hb2 hr2 x0 x1 y1 S1 B1; go_wp2_with fail; refine (New_walk ⟨#[49, 48, 32, 120]⟩ ⟨#[32]⟩ ⟨#[45]⟩ [V10, Vx] (by decide) (by rw [aw_runs]; decide) (by rw [aw_runs]; exact aw_in) w2 (HG.below B2.out)).mono ?_; rintro e w3 ⟨r, v3, rfl, hR3, hb3⟩; have B3 := Lib.hid (B2.out.trans (hb3.mono B2.out.size)); have R3 := Lib.hid hR3; have hbr : w2.heap.size ≤ r := hR3.hb; clear hR3 hb3 x0' x1' y1'; go_wp2_with fail; refine (Set_walk R3.out 4 3 (by decide) (by decide) Vy Vy (by decide) 4 (by decide) (by decide) [⟨#[49, 48]⟩, ⟨#[120]⟩, ⟨#[]⟩, ⟨#[121]⟩] _ (aw_str _) (by decide) (by decide) (HG.gw.below B3.out)).mono ?_; rintro e w4 ⟨rfl, ⟨v4, hR4⟩, hb4⟩; rw [aw_join] at hR4; have B4 := Lib.hid (B3.out.trans (hb4.mono B2.out.size)); have R4 := Lib.hid hR4; clear hR4 hb4 R3; go_wp2_with fail; refine (Text_walk R4.out).mono ?_; rintro e w5 ⟨rfl, rfl⟩; go_wp2_with fail; refine (Count_walk R4.out).mono ?_; rintro e w6 ⟨rfl, rfl⟩; have hlen : ((((sized [V10, Vx] 4).set 3 Vy).length : Nat) : Int) = 4 := by decide
 rw [hlen]; go_wp2_with fail; go_ret; exact ⟨rfl, B4.out⟩
end Go.Proofs.YtmbacdkpgfbclaaGreatDoor
namespace Go.Proofs.YtmbacdkpgfbclaaGreatDoor.PXJ
open Go.RowKit Go.Proofs.YtmbacdkpgfbclaaGreatDoor Go.Proofs.YtmbacdkpgfbclaaGreatDoorW.PrintWords Go.Proofs.YtmbacdkpgfbclaaGreatDoorW.PrintLast
abbrev GW (w : World) : Prop := GM w
theorem GW.below {w w' : World} (h : GW w) (hb : Below w.heap.size w w') : GW w' := GM.below h hb
theorem GW.drew {w : World} (h : GW w) : GW w.drew := h.below (Below.refl _ w).drew
theorem GW.drewN {w : World} (h : GW w) (n : Nat) : GW (w.drewN n) := h.below (pw_below_drewN (Below.refl _ w) n)
theorem GW.alloc {w : World} (h : GW w) (o : Obj) : GW (w.alloc o) := h.below ((Below.refl _ w).alloc (Nat.le_refl _) o)
end Go.Proofs.YtmbacdkpgfbclaaGreatDoor.PXJ
