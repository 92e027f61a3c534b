/- The machine's side of a law, printed by a program of this session out of the translation; conditions: none. -/
import Derived.Test.YtoanmnhkhookfaaGreatDoorPXRelateSortedd
namespace Go.Proofs.YtoanmnhkhookfaaGreatDoor.PXRelateSorted
open Go.Proofs.YtoanmnhkhookfaaGreatDoor Go.Proofs.YtoanmnhkhookfaaGreatDoor.PXRelateTexts
open Go.RowKit Go.Proofs.YtoanmnhkhookfaaGreatDoorW.PrintWords Go.Proofs.YtoanmnhkhookfaaGreatDoorW.PrintLast Go.Proofs.YtoanmnhkhookfaaGreatDoorW.PrintMore
attribute [local go_sem] max2_int min2_int max_two min_two max_three min_three max_four min_four   -- for this text's walks alone
set_option linter.unusedVariables false
set_option linter.unusedSimpArgs false

set_option maxHeartbeats 8000000 in
set_option maxRecDepth 100000 in
theorem abacuslaw18_RelateSorted.calls (k : Nat) (A0 : Option Addr) (c0 : Nat) (l0 : List (S29)) (a1 : Int) (r : Bool) (w : World) (hr0 : Kd.C k29 w A0 l0.length l0) (hc0 : l0.length ≤ c0) (h : abacuslaw18_RelateSorted.f k l0 a1 = some r) (HG : Aside0 (GW w) := by exact ph16) :
  Calls Tryz.prog 5 #[.slice A0 l0.length c0, .int .i64 a1] w fun e w' => e = .returned (.bool r) ∧ Below w.heap.size w w' := by
 have hu29 := Tryz.underlying29
 have HR0 := Aside0.mk hr0
 have HC0 := Aside0.mk hc0
 clear hr0 hc0
 have HB := Aside0.mk (Below.refl w.heap.size w)
 have H : ((abacuslaw18_awake.f k).bind fun t257 => (if t257 = true then ((abacuslaw18_values.f l0).bind fun t258 => ((relate_Sort.f t258).bind fun t261 => (if (t261.length : Int) = (l0.length : Int) then (if 0 ≤ (l0.length : Int) then (if ((l0.length : Int) : Int).toNat ≤ 281474976710656 then (if ((l0.length : Int) : Int).toNat ≤ 8796093022208 then (abacuslaw18_RelateSorted.l0 k l0 a1 t261 (List.replicate ((l0.length : Int) : Int).toNat false) (List.replicate 0 z29) 0) else (none)) else (none)) else (none)) else (some false)))) else (some false))) = some r := h
 clear h
 replace H := Option.bind_eq_some_iff.mp H
 obtain ⟨t257, A30, H⟩ := H
 try dsimp only at H
 have A3 := Aside0.mk A30
 clear A30
 by_cases c4 : t257 = true
 ·
  subst c4
  have H1 : ((abacuslaw18_values.f l0).bind fun t258 => ((relate_Sort.f t258).bind fun t261 => (if (t261.length : Int) = (l0.length : Int) then (if 0 ≤ (l0.length : Int) then (if ((l0.length : Int) : Int).toNat ≤ 281474976710656 then (if ((l0.length : Int) : Int).toNat ≤ 8796093022208 then (abacuslaw18_RelateSorted.l0 k l0 a1 t261 (List.replicate ((l0.length : Int) : Int).toNat false) (List.replicate 0 z29) 0) else (none)) else (none)) else (none)) else (some false)))) = some r := by rw [if_pos rfl] at H; exact H
  clear H
  have H := H1
  clear H1
  replace H := Option.bind_eq_some_iff.mp H
  obtain ⟨t258, A50, H⟩ := H
  try dsimp only at H
  have A5 := Aside0.mk A50
  clear A50
  replace H := Option.bind_eq_some_iff.mp H
  obtain ⟨t261, A60, H⟩ := H
  try dsimp only at H
  have A6 := Aside0.mk A60
  clear A60
  by_cases c7 : (t261.length : Int) = (l0.length : Int)
  ·
   rw [if_pos c7] at H
   have c7b0 : ((t261.length : Int) == (l0.length : Int)) = true := beq_iff_eq.mpr c7
   have c7b1 : ((t261.length : Int) != (l0.length : Int)) = false := bne_eq_false_iff_eq.mpr c7
   have c7b2 : (t261.length == l0.length) = true := by first | simpa using c7 | (simp at c7 ⊢; omega)
   clear c7
   by_cases c8 : 0 ≤ (l0.length : Int)
   ·
    rw [if_pos c8] at H
    have c8b0 := eq_true c8
    have c8b1 : decide (0 ≤ (l0.length : Int)) = true := decide_eq_true c8
    clear c8
    by_cases c9 : ((l0.length : Int) : Int).toNat ≤ 281474976710656
    ·
     rw [if_pos c9] at H
     have c9b0 := eq_true c9
     have c9b1 : decide (((l0.length : Int) : Int).toNat ≤ 281474976710656) = true := decide_eq_true c9
     clear c9
     obtain ⟨y264, hy264⟩ : ∃ y_ : List Bool, y_ = (List.replicate ((l0.length : Int) : Int).toNat false) := ⟨_, rfl⟩
     replace H : (if ((l0.length : Int) : Int).toNat ≤ 8796093022208 then (abacuslaw18_RelateSorted.l0 k l0 a1 t261 y264 (List.replicate 0 z29) 0) else (none)) = some r := by first | (rw [hy264]; with_reducible exact H) | (have H2_ := (Option.bind_some _ _).symm.trans H; rw [hy264]; with_reducible exact H2_) | (have H2_ := (Option.bind_some _ _).symm.trans H; with_reducible exact H2_) | with_reducible exact H | (rw [hy264]; exact H) | exact H
     have Ny264 := Aside0.mk hy264
     clear hy264
     by_cases c10 : ((l0.length : Int) : Int).toNat ≤ 8796093022208
     ·
      rw [if_pos c10] at H
      have c10b0 := eq_true c10
      have c10b1 : decide (((l0.length : Int) : Int).toNat ≤ 8796093022208) = true := decide_eq_true c10
      clear c10
      obtain ⟨y267, hy267⟩ : ∃ y_ : List (S29), y_ = (List.replicate 0 z29) := ⟨_, rfl⟩
      replace H : (abacuslaw18_RelateSorted.l0 k l0 a1 t261 y264 y267 0) = some r := by first | (rw [hy267]; with_reducible exact H) | (have H2_ := (Option.bind_some _ _).symm.trans H; rw [hy267]; with_reducible exact H2_) | (have H2_ := (Option.bind_some _ _).symm.trans H; with_reducible exact H2_) | with_reducible exact H | (rw [hy267]; exact H) | exact H
      have Ny267 := Aside0.mk hy267
      clear hy267
      have H' := Aside0.mk H
      clear H
      go_enter Tryz.func5, Tryz.ntmps5
      go_wp2_with (first | ((with_reducible refine gate_callee (f := 15) rfl ?_); refine goesL_ (some 14) rfl rfl Tryz.func15 (by kernel_rfl) rfl #[] rfl (by exact ph7) ?_; (with_reducible refine (abacuslaw18_awake.calls k  true _ A3.out).mono ?_); rintro e w11 ⟨rfl, hb⟩; refine ⟨_, rfl, ?_⟩; have n0_ := Aside0.mk (below_step (by exact ph2) hb); clear HB; have HB := n0_; clear n0_; (try clear hb); (try clear hb2); (try clear hk); (try clear hi)) | ((with_reducible refine gate_callee (f := 24) rfl ?_); refine goesL_ (some 18) rfl rfl Tryz.func24 (by kernel_rfl) rfl #[.slice A0 l0.length c0] rfl (by exact ph7) ?_; (with_reducible refine (abacuslaw18_values.calls _ _ l0 t258 _ ?side1 ?side2 A5.out).mono ?_); (case side1 => repeat (first | exact (Kd.C_below HR0.out HB.out) | (with_reducible refine Kd.C_alloc ?_ _) | (with_reducible refine Kd.C_drewN ?_ _) | (with_reducible refine Kd.C_drew ?_))); (case side2 => exact HC0.out); rintro e w12 ⟨v259, rfl, ho0, hb⟩; refine ⟨_, rfl, ?_⟩; have n0_ := Aside0.mk (Kd.R_lower ho0 (below_size (by exact ph2))); have n1_ := Aside0.mk (below_step (by exact ph2) hb); clear HB; have HO260 := n0_; have HB := n1_; clear n0_ n1_; (try clear hb); (try clear hb2); (try clear hk); (try clear hi); (try clear ho0); obtain ⟨Ao13, co13, eo13⟩ := Kd.R_slice HO260.out; subst eo13) | ((with_reducible refine gate_callee (f := 23) rfl ?_); refine goesL_ (some 19) rfl rfl Tryz.func23 (by kernel_rfl) rfl #[.slice Ao13 t258.length co13] rfl (by exact ph7) ?_; (with_reducible refine (relate_Sort.calls _ _ t258 t261 _ ?side1 ?side2 A6.out).mono ?_); (case side1 => repeat (first | exact (Kd.R_reads' HO260.out).2.2 | (with_reducible refine Kd.C_alloc ?_ _) | (with_reducible refine Kd.C_drewN ?_ _) | (with_reducible refine Kd.C_drew ?_))); (case side2 => exact (Kd.R_reads' HO260.out).2.1); rintro e w14 ⟨v262, rfl, ho0, hb⟩; refine ⟨_, rfl, ?_⟩; have n0_ := Aside0.mk (Kd.R_below (by exact ph9) hb); have n1_ := Aside0.mk (Kd.R_lower ho0 (below_size (by exact ph2))); have n2_ := Aside0.mk (below_step (by exact ph2) hb); clear HO260; clear HB; have HO260 := n0_; have HO263 := n1_; have HB := n2_; clear n0_ n1_ n2_; (try clear hb); (try clear hb2); (try clear hk); (try clear hi); (try clear ho0); obtain ⟨Ao15, co15, eo15⟩ := Kd.R_slice HO263.out; subst eo15) | ((with_reducible refine gate_dst (N := 27) rfl ?_); (try (refine gate_guard (by rfl) ?_; dsimp only)); refine Kd.R_make Kd.bool _ 4 rfl (N := 27) rfl 40 _ _ rfl (l0.length : Int) rfl rfl Tryz.underlying40 (.bool false) 1 info4 rfl (by decide) (by omega) false (ok := fun _ => True) (okp := fun _ => True) rfl (fun _ hk => hk) trivial (of_decide_eq_true (by exact ph1)) (Nat.le_trans (Nat.mul_le_mul_right _ (of_decide_eq_true (by exact ph1) : (l0.length : Int).toNat ≤ 281474976710656)) (by omega)) (Below.refl _ _) (Nat.le_refl _) ?_; intro v265 w16 ho17 hb hg_ hnew_; clear hg_ hnew_; (first | rw [← Ny264.out] at ho17 | (simp only [Int.reduceToNat] at ho17; rw [← Ny264.out] at ho17)); have n0_ := Aside0.mk (Kd.R_below (by exact ph9) hb); have n1_ := Aside0.mk (Kd.R_below (by exact ph12) hb); have n2_ := Aside0.mk (Kd.R_lower ho17 (below_size (by exact ph2))); have n3_ := Aside0.mk (below_step (by exact ph2) hb); clear HO260; clear HO263; clear HB; have HO260 := n0_; have HO263 := n1_; have HO266 := n2_; have HB := n3_; clear n0_ n1_ n2_ n3_; clear hb ho17) | ((with_reducible refine gate_dst (N := 30) rfl ?_); (try (refine gate_guard (by rfl) ?_; dsimp only)); refine Kd.R_makecap k29 _ 29 rfl (N := 30) rfl 36 _ _ rfl (l0.length : Int) rfl rfl Tryz.underlying36 (.agg #[(.int .i64 0), (.int .u64 0), (.string ⟨#[]⟩)]) 32 info29 rfl (by decide) (by omega) z29 (ok := fun _ => True) (okp := fun _ => True) (k29_mkM _ _ _ z29 ) (fun _ hk => hk) trivial (of_decide_eq_true (by exact ph1)) (Nat.le_trans (Nat.mul_le_mul_right _ (of_decide_eq_true (by exact ph1) : (l0.length : Int).toNat ≤ 8796093022208)) (by omega)) (Below.refl _ _) (Nat.le_refl _) ?_; intro v268 w18 ho19 hb hg_ hnew_; clear hg_ hnew_; (first | rw [← Ny267.out] at ho19 | (simp only [Int.reduceToNat] at ho19; rw [← Ny267.out] at ho19)); have n0_ := Aside0.mk (Kd.R_elder' (by exact ph9) (Kd.R_base ho19) hb); have n1_ := Aside0.mk (Kd.R_below (by exact ph12) hb); have n2_ := Aside0.mk (Kd.R_below (by (with_reducible repeat (first | apply Kd.R_alloc | apply Kd.R_drewN | apply Kd.R_drew)); exact HO266.out) hb); have n3_ := Aside0.mk (Kd.R_lower (Kd.R_new' ho19 (Kd.R_lt (by exact ph9))) (below_size (by exact ph2))); have n4_ := Aside0.mk (below_step (by exact ph2) hb); clear HO260; clear HO263; clear HO266; clear HB; have HO260 := n0_; have HO263 := n1_; have HO266 := n2_; have HO269 := n3_; have HB := n4_; clear n0_ n1_ n2_ n3_ n4_; clear hb ho19))
      go_loopg [8, 9] k (fun kq v8 v9 w' => ∃ (x7_1 : List Bool) (x8_1 : List (S29)) (x9_1 : Int), v9 = .int .i64 x9_1 ∧ Aside0 (abacuslaw18_RelateSorted.l0 kq l0 a1 t261 x7_1 x8_1 x9_1 = some r) ∧ Aside0 (kq ≤ k) ∧ Aside0 (Kd.R (Kd.int .i64) 3 w' w.heap.size (fun _ => True) (.slice Ao15 t261.length co15) t261) ∧ Aside0 (Kd.R Kd.bool 4 w' w.heap.size (fun _ => True) v265 x7_1) ∧ Aside0 (Kd.R k29 29 w' w.heap.size (fun _ => True) v8 x8_1) ∧ Aside0 (Below w.heap.size w w'))
      case atStart => exact ⟨(y264), (y267), (0), (by exact ph6), H', ⟨Nat.le_refl _⟩, ⟨by exact ph12⟩, ⟨by (with_reducible repeat (first | apply Kd.R_alloc | apply Kd.R_drewN | apply Kd.R_drew)); exact HO266.out⟩, ⟨by (with_reducible repeat (first | apply Kd.R_alloc | apply Kd.R_drewN | apply Kd.R_drew)); exact Kd.R_mono HO269.out (fun _ hk => trivial)⟩, ⟨by exact ph2⟩⟩
      case round =>
       clear H'
       try clear c1
       try clear c2
       try clear p2
       try clear c4
       try clear c5
       try clear c7
       try clear c7b0
       try clear c7b1
       try clear c7b2
       try clear c8
       try clear c8b0
       try clear c8b1
       try clear c9
       try clear c9b0
       try clear c9b1
       try clear c10
       try clear c10b0
       try clear c10b1
       try clear c15
       obtain ⟨x7_1, x8_1, x9_1, rfl, HA, HK1, HO_6, HO_7, HO_8, HB⟩ := hrel
       cases gk with
       | zero => exact absurd HA.out (by simp [abacuslaw18_RelateSorted.l0])
       | succ k1 =>
        have H := HA.out
        clear HA
        simp only [abacuslaw18_RelateSorted.l0] at H
        by_cases c20 : x9_1 < (t261.length : Int)
        ·
         rw [if_pos c20] at H
         have c20b0 : decide (x9_1 < (t261.length : Int)) = true := decide_eq_true c20
         clear c20
         have HC21 := Aside0.mk H
         clear H
         go_upto_region 12 with (fail)
         go_cut [59] (fun v59 wc => ∃ (kq : Nat) (x59_20 : Bool), v59 = .bool x59_20 ∧ Aside0 (abacuslaw18_RelateSorted.j1 kq l0 a1 t261 x7_1 x8_1 x9_1 x59_20 = some r) ∧ Aside0 (kq ≤ k1) ∧ Aside0 (Kd.R (Kd.int .i64) 3 wc w.heap.size (fun _ => True) (.slice Ao15 t261.length co15) t261) ∧ Aside0 (Kd.R Kd.bool 4 wc w.heap.size (fun _ => True) v265 x7_1) ∧ Aside0 (Kd.R k29 29 wc w.heap.size (fun _ => True) u8 x8_1) ∧ Aside0 (Below w.heap.size w wc))
         case first =>
          have H := HC21.out
          clear HC21
          by_cases c22 : 0 ≤ x9_1
          ·
           rw [if_pos c22] at H
           have c22b0 : decide (0 ≤ x9_1) = true := decide_eq_true c22
           clear c22
           (first | rw [c22b0] | (simp only [i64_w, i32_w]; rw [c22b0]) | skip)
           by_cases c23 : (rd t261 x9_1) < 0
           ·
            rw [if_pos c23] at H
            have c23b0 : decide ((rd t261 x9_1) < 0) = true := decide_eq_true c23
            clear c23
            have H' := Aside0.mk H
            clear H
            have p270 : 0 ≤ (x9_1 : Int) := of_decide_eq_true (by exact ph1)
            have q270 : x9_1 < (t261.length : Int) := of_decide_eq_true (by exact ph1)
            obtain ⟨ad270, e270, hx270_0⟩ := Kd.at_int (Kd.R_reads' HO_6.out).2.2 x9_1 p270 q270
            cases e270
            replace p270 := eq_true p270
            replace q270 := eq_true q270
            exact abacuslaw18_RelateSorted.w1
           ·
            rw [if_neg c23] at H
            have c23b0 : decide ((rd t261 x9_1) < 0) = false := decide_eq_false c23
            clear c23
            by_cases c24 : (rd t261 x9_1) ≥ (l0.length : Int)
            ·
             rw [if_pos c24] at H
             have c24b0 : decide ((l0.length : Int) ≤ (rd t261 x9_1)) = true := decide_eq_true c24
             clear c24
             have H' := Aside0.mk H
             clear H
             have p270 : 0 ≤ (x9_1 : Int) := of_decide_eq_true (by exact ph1)
             have q270 : x9_1 < (t261.length : Int) := of_decide_eq_true (by exact ph1)
             obtain ⟨ad270, e270, hx270_0⟩ := Kd.at_int (Kd.R_reads' HO_6.out).2.2 x9_1 p270 q270
             cases e270
             replace p270 := eq_true p270
             replace q270 := eq_true q270
             have p271 : 0 ≤ (x9_1 : Int) := of_decide_eq_true (by exact ph1)
             have q271 : x9_1 < (t261.length : Int) := of_decide_eq_true (by exact ph1)
             obtain ⟨ad271, e271, hx271_0⟩ := Kd.at_int (Kd.R_reads' HO_6.out).2.2 x9_1 p271 q271
             obtain rfl : ad270 = ad271 := (by injection e271)
             replace p271 := eq_true p271
             replace q271 := eq_true q271
             exact abacuslaw18_RelateSorted.w1
            ·
             rw [if_neg c24] at H
             have c24b0 : decide ((l0.length : Int) ≤ (rd t261 x9_1)) = false := decide_eq_false c24
             clear c24
             by_cases c25 : 0 ≤ (rd t261 x9_1)
             ·
              rw [if_pos c25] at H
              have c25b0 : decide (0 ≤ (rd t261 x9_1)) = true := decide_eq_true c25
              clear c25
              by_cases c26 : (rd t261 x9_1) < (x7_1.length : Int)
              ·
               rw [if_pos c26] at H
               have c26b0 : decide ((rd t261 x9_1) < (x7_1.length : Int)) = true := decide_eq_true c26
               clear c26
               have H' := Aside0.mk H
               clear H
               have p270 : 0 ≤ (x9_1 : Int) := of_decide_eq_true (by exact ph1)
               have q270 : x9_1 < (t261.length : Int) := of_decide_eq_true (by exact ph1)
               obtain ⟨ad270, e270, hx270_0⟩ := Kd.at_int (Kd.R_reads' HO_6.out).2.2 x9_1 p270 q270
               cases e270
               replace p270 := eq_true p270
               replace q270 := eq_true q270
               have p271 : 0 ≤ (x9_1 : Int) := of_decide_eq_true (by exact ph1)
               have q271 : x9_1 < (t261.length : Int) := of_decide_eq_true (by exact ph1)
               obtain ⟨ad271, e271, hx271_0⟩ := Kd.at_int (Kd.R_reads' HO_6.out).2.2 x9_1 p271 q271
               obtain rfl : ad270 = ad271 := (by injection e271)
               replace p271 := eq_true p271
               replace q271 := eq_true q271
               have p272 : 0 ≤ (x9_1 : Int) := of_decide_eq_true (by exact ph1)
               have q272 : x9_1 < (t261.length : Int) := of_decide_eq_true (by exact ph1)
               obtain ⟨ad272, e272, hx272_0⟩ := Kd.at_int (Kd.R_reads' HO_6.out).2.2 x9_1 p272 q272
               obtain rfl : ad270 = ad272 := (by injection e272)
               replace p272 := eq_true p272
               replace q272 := eq_true q272
               obtain ⟨Ao27, co27, eo27⟩ := Kd.R_slice HO_7.out
               subst eo27
               have p273 : 0 ≤ ((rd t261 x9_1) : Int) := of_decide_eq_true (by exact ph1)
               have q273 : (rd t261 x9_1) < (x7_1.length : Int) := of_decide_eq_true (by exact ph1)
               obtain ⟨ad273, e273, hx273_0⟩ := Kd.at_bool (Kd.R_reads' HO_7.out).2.2 (rd t261 x9_1) p273 q273
               cases e273
               replace p273 := eq_true p273
               replace q273 := eq_true q273
               go_wp2
               go_meet
               case rel => exact ⟨_, (rdOf false x7_1 (rd t261 x9_1)), (by exact ph6), H', ⟨by have := HK1.out; first | omega | exact Nat.le_refl _⟩, ⟨by exact ph3⟩, ⟨by exact ph5⟩, ⟨by exact ph4⟩, ⟨by exact ph2⟩⟩
              ·
               rw [if_neg c26] at H
               exact absurd H (by simp)
             ·
              rw [if_neg c25] at H
              exact absurd H (by simp)
          ·
           rw [if_neg c22] at H
           exact absurd H (by simp)
         case rest =>
          clear HC21
          try clear c1
          try clear c2
          try clear p2
          try clear q2
          try clear hx2
          try clear c4
          try clear c5
          try clear c7
          try clear c7b0
          try clear c7b1
          try clear c7b2
          try clear c8
          try clear c8b0
          try clear c8b1
          try clear c9
          try clear c9b0
          try clear c9b1
          try clear c10
          try clear c10b0
          try clear c10b1
          try clear c15
          try clear c20
          try clear c20b0
          try clear c22
          try clear c22b0
          try clear c23
          try clear c23b0
          try clear c24
          try clear c24b0
          try clear c25
          try clear c25b0
          try clear c26
          try clear c26b0
          try clear p27
          try clear q27
          try clear hx27
          try clear hx270_0
          try clear hx271_0
          try clear hx272_0
          try clear hx273_0
          try clear p2
          try clear p270
          try clear p271
          try clear p272
          try clear p273
          try clear q270
          try clear q271
          try clear q272
          try clear q273
          obtain ⟨kq, x59_20, rfl, HA, HJ20, HO_6, HO_7, HO_8, HB⟩ := hcut
          cases kq with
          | zero => exact absurd HA.out (by simp [abacuslaw18_RelateSorted.j1])
          | succ kj20 =>
           have H := HA.out
           clear HA
           simp only [abacuslaw18_RelateSorted.j1] at H
           by_cases c28 : x59_20 = true
           ·
            subst c28
            have H1 : (some false) = some r := by rw [if_pos rfl] at H; exact H
            clear H
            have H := H1
            clear H1
            obtain rfl := Option.some.inj H
            exact abacuslaw18_RelateSorted.w2
           ·
            replace c28 := Bool.eq_false_iff.mpr c28
            subst c28
            have H1 : (if 0 ≤ x9_1 then (if x9_1 < (t261.length : Int) then (if 0 ≤ (rd t261 x9_1) then (if (rd t261 x9_1) < (x7_1.length : Int) then ((some (x7_1.set ((rd t261 x9_1) : Int).toNat true : List Bool)).bind fun y275 => (if (rd t261 x9_1) < (l0.length : Int) then (if x8_1.length < 4398046511104 then ((some (x8_1 ++ [(⟨(rd_T29 l0 (rd t261 x9_1)).f0, (rd_T29 l0 (rd t261 x9_1)).f1, (rd_T29 l0 (rd t261 x9_1)).f2⟩ : S29)] : List (S29))).bind fun y278 => (if x9_1 > 0 then (if 0 ≤ (wrap64 (x9_1 - 1)) then (if (wrap64 (x9_1 - 1)) < (t261.length : Int) then (if 0 ≤ (rd t261 (wrap64 (x9_1 - 1))) then (if (rd t261 (wrap64 (x9_1 - 1))) < (l0.length : Int) then ((relate_Order.f kj20 ((rd_T29 l0 (rd t261 (wrap64 (x9_1 - 1)))).f0) ((rd_T29 l0 (rd t261 (wrap64 (x9_1 - 1)))).f1) ((rd_T29 l0 (rd t261 (wrap64 (x9_1 - 1)))).f2) ((rd_T29 l0 (rd t261 x9_1)).f0) ((rd_T29 l0 (rd t261 x9_1)).f1) ((rd_T29 l0 (rd t261 x9_1)).f2)).bind fun t285 => (if t285 > 0 then (some false) else (if t285 = 0 then (if (rd t261 (wrap64 (x9_1 - 1))) > (rd t261 x9_1) then (some false) else (abacuslaw18_RelateSorted.l0 kj20 l0 a1 t261 y275 y278 (wrap64 (x9_1 + 1)))) else (abacuslaw18_RelateSorted.l0 kj20 l0 a1 t261 y275 y278 (wrap64 (x9_1 + 1)))))) else (none)) else (none)) else (none)) else (none)) else (abacuslaw18_RelateSorted.l0 kj20 l0 a1 t261 y275 y278 (wrap64 (x9_1 + 1))))) else (none)) else (none))) else (none)) else (none)) else (none)) else (none)) = some r := by rw [if_neg (show ¬ (false = true) by decide)] at H; exact H
            clear H
            have H := H1
            clear H1
            by_cases c29 : 0 ≤ x9_1
            ·
             rw [if_pos c29] at H
             have c29b0 : decide (0 ≤ x9_1) = true := decide_eq_true c29
             clear c29
             by_cases c30 : x9_1 < (t261.length : Int)
             ·
              rw [if_pos c30] at H
              have c30b0 : decide (x9_1 < (t261.length : Int)) = true := decide_eq_true c30
              clear c30
              by_cases c31 : 0 ≤ (rd t261 x9_1)
              ·
               rw [if_pos c31] at H
               have c31b0 : decide (0 ≤ (rd t261 x9_1)) = true := decide_eq_true c31
               clear c31
               by_cases c32 : (rd t261 x9_1) < (x7_1.length : Int)
               ·
                rw [if_pos c32] at H
                have c32b0 : decide ((rd t261 x9_1) < (x7_1.length : Int)) = true := decide_eq_true c32
                clear c32
                obtain ⟨y275, hy275⟩ : ∃ y_ : List Bool, y_ = (x7_1.set ((rd t261 x9_1) : Int).toNat true) := ⟨_, rfl⟩
                replace H : (if (rd t261 x9_1) < (l0.length : Int) then (if x8_1.length < 4398046511104 then ((some (x8_1 ++ [(⟨(rd_T29 l0 (rd t261 x9_1)).f0, (rd_T29 l0 (rd t261 x9_1)).f1, (rd_T29 l0 (rd t261 x9_1)).f2⟩ : S29)] : List (S29))).bind fun y278 => (if x9_1 > 0 then (if 0 ≤ (wrap64 (x9_1 - 1)) then (if (wrap64 (x9_1 - 1)) < (t261.length : Int) then (if 0 ≤ (rd t261 (wrap64 (x9_1 - 1))) then (if (rd t261 (wrap64 (x9_1 - 1))) < (l0.length : Int) then ((relate_Order.f kj20 ((rd_T29 l0 (rd t261 (wrap64 (x9_1 - 1)))).f0) ((rd_T29 l0 (rd t261 (wrap64 (x9_1 - 1)))).f1) ((rd_T29 l0 (rd t261 (wrap64 (x9_1 - 1)))).f2) ((rd_T29 l0 (rd t261 x9_1)).f0) ((rd_T29 l0 (rd t261 x9_1)).f1) ((rd_T29 l0 (rd t261 x9_1)).f2)).bind fun t285 => (if t285 > 0 then (some false) else (if t285 = 0 then (if (rd t261 (wrap64 (x9_1 - 1))) > (rd t261 x9_1) then (some false) else (abacuslaw18_RelateSorted.l0 kj20 l0 a1 t261 y275 y278 (wrap64 (x9_1 + 1)))) else (abacuslaw18_RelateSorted.l0 kj20 l0 a1 t261 y275 y278 (wrap64 (x9_1 + 1)))))) else (none)) else (none)) else (none)) else (none)) else (abacuslaw18_RelateSorted.l0 kj20 l0 a1 t261 y275 y278 (wrap64 (x9_1 + 1))))) else (none)) else (none)) = some r := by first | (rw [hy275]; with_reducible exact H) | (have H2_ := (Option.bind_some _ _).symm.trans H; rw [hy275]; with_reducible exact H2_) | (have H2_ := (Option.bind_some _ _).symm.trans H; with_reducible exact H2_) | with_reducible exact H | (rw [hy275]; exact H) | exact H
                have Ny275 := Aside0.mk hy275
                clear hy275
                by_cases c34 : (rd t261 x9_1) < (l0.length : Int)
                ·
                 rw [if_pos c34] at H
                 have c34b0 : decide ((rd t261 x9_1) < (l0.length : Int)) = true := decide_eq_true c34
                 clear c34
                 by_cases c35 : x8_1.length < 4398046511104
                 ·
                  rw [if_pos c35] at H
                  have LMc35 := Aside0.mk c35
                  clear c35
                  obtain ⟨y278, hy278⟩ : ∃ y_ : List (S29), y_ = (x8_1 ++ [(⟨(rd_T29 l0 (rd t261 x9_1)).f0, (rd_T29 l0 (rd t261 x9_1)).f1, (rd_T29 l0 (rd t261 x9_1)).f2⟩ : S29)]) := ⟨_, rfl⟩
                  replace H : (if x9_1 > 0 then (if 0 ≤ (wrap64 (x9_1 - 1)) then (if (wrap64 (x9_1 - 1)) < (t261.length : Int) then (if 0 ≤ (rd t261 (wrap64 (x9_1 - 1))) then (if (rd t261 (wrap64 (x9_1 - 1))) < (l0.length : Int) then ((relate_Order.f kj20 ((rd_T29 l0 (rd t261 (wrap64 (x9_1 - 1)))).f0) ((rd_T29 l0 (rd t261 (wrap64 (x9_1 - 1)))).f1) ((rd_T29 l0 (rd t261 (wrap64 (x9_1 - 1)))).f2) ((rd_T29 l0 (rd t261 x9_1)).f0) ((rd_T29 l0 (rd t261 x9_1)).f1) ((rd_T29 l0 (rd t261 x9_1)).f2)).bind fun t285 => (if t285 > 0 then (some false) else (if t285 = 0 then (if (rd t261 (wrap64 (x9_1 - 1))) > (rd t261 x9_1) then (some false) else (abacuslaw18_RelateSorted.l0 kj20 l0 a1 t261 y275 y278 (wrap64 (x9_1 + 1)))) else (abacuslaw18_RelateSorted.l0 kj20 l0 a1 t261 y275 y278 (wrap64 (x9_1 + 1)))))) else (none)) else (none)) else (none)) else (none)) else (abacuslaw18_RelateSorted.l0 kj20 l0 a1 t261 y275 y278 (wrap64 (x9_1 + 1)))) = some r := by first | (rw [hy278]; with_reducible exact H) | (have H2_ := (Option.bind_some _ _).symm.trans H; rw [hy278]; with_reducible exact H2_) | (have H2_ := (Option.bind_some _ _).symm.trans H; with_reducible exact H2_) | with_reducible exact H | (rw [hy278]; exact H) | exact H
                  have Ny278 := Aside0.mk hy278
                  clear hy278
                  by_cases c36 : x9_1 > 0
                  ·
                   rw [if_pos c36] at H
                   have c36b0 : decide (0 < x9_1) = true := decide_eq_true c36
                   clear c36
                   obtain ⟨ji37, hji37⟩ : ∃ j_ : Int, (wrap64 (x9_1 - 1)) = j_ := ⟨_, rfl⟩
                   replace H : (if 0 ≤ (ji37) then (if (ji37) < (t261.length : Int) then (if 0 ≤ (rd t261 (ji37)) then (if (rd t261 (ji37)) < (l0.length : Int) then ((relate_Order.f kj20 ((rd_T29 l0 (rd t261 (ji37))).f0) ((rd_T29 l0 (rd t261 (ji37))).f1) ((rd_T29 l0 (rd t261 (ji37))).f2) ((rd_T29 l0 (rd t261 x9_1)).f0) ((rd_T29 l0 (rd t261 x9_1)).f1) ((rd_T29 l0 (rd t261 x9_1)).f2)).bind fun t285 => (if t285 > 0 then (some false) else (if t285 = 0 then (if (rd t261 (ji37)) > (rd t261 x9_1) then (some false) else (abacuslaw18_RelateSorted.l0 kj20 l0 a1 t261 y275 y278 (wrap64 (x9_1 + 1)))) else (abacuslaw18_RelateSorted.l0 kj20 l0 a1 t261 y275 y278 (wrap64 (x9_1 + 1)))))) else (none)) else (none)) else (none)) else (none)) = some r := by first | (rw [hji37] at H; exact H) | (simp only [hji37] at H ⊢; exact H)
                   have hji37w : (IntKind.i64.wrap (x9_1 - 1)) = ji37 := (i64_w _).trans hji37
                   by_cases c38 : 0 ≤ (ji37)
                   ·
                    rw [if_pos c38] at H
                    have c38b0 : decide (0 ≤ (ji37)) = true := decide_eq_true c38
                    clear c38
                    by_cases c39 : (ji37) < (t261.length : Int)
                    ·
                     rw [if_pos c39] at H
                     have c39b0 : decide ((ji37) < (t261.length : Int)) = true := decide_eq_true c39
                     clear c39
                     by_cases c40 : 0 ≤ (rd t261 (ji37))
                     ·
                      rw [if_pos c40] at H
                      have c40b0 : decide (0 ≤ (rd t261 (ji37))) = true := decide_eq_true c40
                      clear c40
                      by_cases c41 : (rd t261 (ji37)) < (l0.length : Int)
                      ·
                       rw [if_pos c41] at H
                       have c41b0 : decide ((rd t261 (ji37)) < (l0.length : Int)) = true := decide_eq_true c41
                       clear c41
                       replace H := Option.bind_eq_some_iff.mp H
                       obtain ⟨t285, A420, H⟩ := H
                       try dsimp only at H
                       have A42 := Aside0.mk A420
                       clear A420
                       by_cases c43 : t285 > 0
                       ·
                        rw [if_pos c43] at H
                        have c43b0 : decide (0 < t285) = true := decide_eq_true c43
                        clear c43
                        obtain rfl := Option.some.inj H
                        have p274 : 0 ≤ (x9_1 : Int) := of_decide_eq_true (by exact ph1)
                        have q274 : x9_1 < (t261.length : Int) := of_decide_eq_true (by exact ph1)
                        obtain ⟨ad274, e274, hx274_0⟩ := Kd.at_int (Kd.R_reads' HO_6.out).2.2 x9_1 p274 q274
                        cases e274
                        replace p274 := eq_true p274
                        replace q274 := eq_true q274
                        have p33 : 0 ≤ ((rd t261 x9_1) : Int) := of_decide_eq_true (by exact ph1)
                        have q33 : ((rd t261 x9_1) : Int) < ((x7_1.length : Int) : Int) := of_decide_eq_true (by exact ph1)
                        obtain ⟨go33, co33, eo33, gb33, gl33, cl33, HG33⟩ := Kd.R_form HO_7.out (by omega)
                        (first | cases eo33 | (injection eo33 with ea_ en_ ec_; (first | subst ea_ | (injection ea_ with ea_; subst ea_)); subst ec_; clear en_))
                        have GB33 := Aside0.mk gb33
                        have GG33 := Aside0.mk HG33
                        clear gb33 gl33 HG33
                        obtain ⟨hx33_0, hf33_0⟩ := Kd.R_celln false HO_7.out ((rd t261 x9_1) : Int) p33 q33
                        replace p33 := eq_true p33
                        replace q33 := eq_true q33
                        have HP44 := Kd.R_putg HO_7.out ((rd t261 x9_1) : Int) true
                        try go_wp2_with (first | ((with_reducible refine gate_store (t := 4) (p := 65) rfl ?_); refine store_event (t := 4) (p := 65) (v := ?vo_w45) (w1 := (wc.setCell ⟨go33, ((rd t261 x9_1) : Int).toNat, none⟩ (.bool true))) ?hg ?ho ?hn ?hr ?_; (case ho => rfl); (case hg => rfl); (case hn => rfl); (case hr => first | (go_simp; done) | (go_simp; rfl)); intro w45 hw; have hg : wc.grownBy w45 (some go33) := (by rw [hw]; exact HP44.2); have hp_ : Kd.R Kd.bool 4 w45 w.heap.size (fun _ => True) (.slice (some ⟨go33, 0, none⟩) x7_1.length co33) y275 := (by rw [hw, Ny275.out]; exact HP44.1); clear HP44; have n0_ := Aside0.mk (Kd.R_over' (v := (.slice (some ⟨go33, 0, none⟩) x7_1.length co33)) (by exact ph3) (Kd.R_typed HO_7.out) (by decide) hg); have n1_ := Aside0.mk (hp_); have n2_ := Aside0.mk (Kd.R_over' (v := (.slice (some ⟨go33, 0, none⟩) x7_1.length co33)) (by exact ph4) (Kd.R_typed HO_7.out) (by decide) hg); have n3_ := Aside0.mk ((by rw [hw]; exact below_set (HB.out) GB33.out : Below w.heap.size w w45)); clear HO_6; clear HO_7; clear HO_8; clear HB; have HO_6 := n0_; have HO_7 := n1_; have HO_8 := n2_; have HB := n3_; clear n0_ n1_ n2_ n3_; clear hg hw hp_; have p276 : 0 ≤ (x9_1 : Int) := of_decide_eq_true (by exact ph1); have q276 : x9_1 < (t261.length : Int) := of_decide_eq_true (by exact ph1); obtain ⟨ad276, e276, hx276_0⟩ := Kd.at_int (Kd.R_reads' HO_6.out).2.2 x9_1 p276 q276; obtain rfl : ad274 = ad276 := (by injection e276); replace p276 := eq_true p276; replace q276 := eq_true q276; have p277 : 0 ≤ ((rd t261 x9_1) : Int) := of_decide_eq_true (by exact ph1); have q277 : (rd t261 x9_1) < (l0.length : Int) := of_decide_eq_true (by exact ph1); obtain ⟨ad277, e277, hx277_0, hx277_1, hx277_2⟩ := at_T29 HR0.out (rd t261 x9_1) p277 q277; cases e277; replace hx277_0 := (HB.out.cell (World.block_lt_of_cell? w _ hx277_0)).trans hx277_0; replace hx277_1 := (HB.out.cell (World.block_lt_of_cell? w _ hx277_1)).trans hx277_1; replace hx277_2 := (HB.out.cell (World.block_lt_of_cell? w _ hx277_2)).trans hx277_2; replace p277 := eq_true p277; replace q277 := eq_true q277) | ((with_reducible refine gate_builtin (b := .append) (xs := #[.tmp 66, .tmp 74]) rfl ?_); (try (refine gate_guard (by rfl) ?_; dsimp only)); at_builtin; refine Kd.R_append k29 (w0 := w) w.heap.size rfl (.tmp 66) (.tmp 74) 36 29 (.agg #[(.int .i64 0), (.int .u64 0), (.string ⟨#[]⟩)]) 32 rfl Tryz.underlying36 info29 rfl (by decide) (by omega) u8 x8_1 (⟨(rd_T29 l0 (rd t261 x9_1)).f0, (rd_T29 l0 (rd t261 x9_1)).f1, (rd_T29 l0 (rd t261 x9_1)).f2⟩ : S29) [.int .i64 ((rd_T29 l0 (rd t261 x9_1)).f0), .int .u64 ((rd_T29 l0 (rd t261 x9_1)).f1), .string ((rd_T29 l0 (rd t261 x9_1)).f2)] (fun _ => True) (fun _ => False) rfl rfl ?aP (fun _ hk => hk.elim) ?aF ?aO ?aB ?aS ?aL ?_; (case aP => exact k29_mkM _ _ _ (⟨(rd_T29 l0 (rd t261 x9_1)).f0, (rd_T29 l0 (rd t261 x9_1)).f1, (rd_T29 l0 (rd t261 x9_1)).f2⟩ : S29)); (case aB => exact (by exact ph2)); (case aF => exact (fun _ _ => trivial)); (case aO => exact (by exact ph4)); (case aS => exact (below_size (by exact ph2))); (case aL => have := LMc35.out; omega); intro v279 w46 ho hb hg hat; rw [← Ny278.out] at ho; have n0_ := Aside0.mk (Kd.R_over' (by exact ph3) (Kd.R_typed (by exact ph4)) (by decide) hg); have n1_ := Aside0.mk (Kd.R_over' (by exact ph5) (Kd.R_typed (by exact ph4)) (by decide) hg); have n2_ := Aside0.mk (hb); have n3_ := Aside0.mk (ho); clear HO_6; clear HO_7; clear HB; clear HO_8; have HO_6 := n0_; have HO_7 := n1_; have HB := n2_; have HO280 := n3_; clear n0_ n1_ n2_ n3_; clear ho hb hg hat))
                        have n0_ := Aside0.mk (Kd.R_drew HO_6.out)
                        have n1_ := Aside0.mk (Kd.R_drew HO_7.out)
                        have n2_ := Aside0.mk (Kd.R_drew HO280.out)
                        have n3_ := Aside0.mk (below_drew1 HB.out)
                        clear HO_6
                        clear HO_7
                        clear HO280
                        clear HB
                        have HO_6 := n0_
                        have HO_7 := n1_
                        have HO280 := n2_
                        have HB := n3_
                        clear n0_ n1_ n2_ n3_
                        have p281 : 0 ≤ ((ji37) : Int) := of_decide_eq_true (by exact ph1)
                        have q281 : (ji37) < (t261.length : Int) := of_decide_eq_true (by exact ph1)
                        obtain ⟨ad281, e281, hx281_0⟩ := Kd.at_int (Kd.R_reads' HO_6.out).2.2 (ji37) p281 q281
                        obtain rfl : ad274 = ad281 := (by injection e281)
                        replace p281 := eq_true p281
                        replace q281 := eq_true q281
                        have p282 : 0 ≤ ((rd t261 (ji37)) : Int) := of_decide_eq_true (by exact ph1)
                        have q282 : (rd t261 (ji37)) < (l0.length : Int) := of_decide_eq_true (by exact ph1)
                        obtain ⟨ad282, e282, hx282_0, hx282_1, hx282_2⟩ := at_T29 HR0.out (rd t261 (ji37)) p282 q282
                        have hw282_2 := hx282_2
                        have hw282_1 := hx282_1
                        have hw282_0 := hx282_0
                        obtain rfl : ad277 = ad282 := (by injection e282)
                        replace hx282_0 := (HB.out.cell (World.block_lt_of_cell? w _ hx282_0)).trans hx282_0
                        replace hx282_1 := (HB.out.cell (World.block_lt_of_cell? w _ hx282_1)).trans hx282_1
                        replace hx282_2 := (HB.out.cell (World.block_lt_of_cell? w _ hx282_2)).trans hx282_2
                        replace p282 := eq_true p282
                        replace q282 := eq_true q282
                        have p283 : 0 ≤ (x9_1 : Int) := of_decide_eq_true (by exact ph1)
                        have q283 : x9_1 < (t261.length : Int) := of_decide_eq_true (by exact ph1)
                        obtain ⟨ad283, e283, hx283_0⟩ := Kd.at_int (Kd.R_reads' HO_6.out).2.2 x9_1 p283 q283
                        obtain rfl : ad274 = ad283 := (by injection e283)
                        replace p283 := eq_true p283
                        replace q283 := eq_true q283
                        have p284 : 0 ≤ ((rd t261 x9_1) : Int) := of_decide_eq_true (by exact ph1)
                        have q284 : (rd t261 x9_1) < (l0.length : Int) := of_decide_eq_true (by exact ph1)
                        obtain ⟨ad284, e284, hx284_0, hx284_1, hx284_2⟩ := at_T29 HR0.out (rd t261 x9_1) p284 q284
                        have hw284_2 := hx284_2
                        have hw284_1 := hx284_1
                        have hw284_0 := hx284_0
                        obtain rfl : ad277 = ad284 := (by injection e284)
                        replace hx284_0 := (HB.out.cell (World.block_lt_of_cell? w _ hx284_0)).trans hx284_0
                        replace hx284_1 := (HB.out.cell (World.block_lt_of_cell? w _ hx284_1)).trans hx284_1
                        replace hx284_2 := (HB.out.cell (World.block_lt_of_cell? w _ hx284_2)).trans hx284_2
                        replace p284 := eq_true p284
                        replace q284 := eq_true q284
                        refine start_ (n := 17) (S := fun w' => w'.cell? (ad274.add ((ji37)).toNat) = some (.int .i64 (rd t261 (ji37))) ∧ w'.cell? (ad277.add (((rd t261 (ji37))).toNat * 3)) = some (.int .i64 ((rd_T29 l0 (rd t261 (ji37))).f0)) ∧ w'.cell? ⟨(ad277.add (((rd t261 (ji37))).toNat * 3)).block, (ad277.add (((rd t261 (ji37))).toNat * 3)).off + 1, none⟩ = some (.int .u64 ((rd_T29 l0 (rd t261 (ji37))).f1)) ∧ w'.cell? ⟨(ad277.add (((rd t261 (ji37))).toNat * 3)).block, (ad277.add (((rd t261 (ji37))).toNat * 3)).off + 2, none⟩ = some (.string ((rd_T29 l0 (rd t261 (ji37))).f2)) ∧ w'.cell? (ad274.add (x9_1).toNat) = some (.int .i64 (rd t261 x9_1)) ∧ w'.cell? (ad277.add (((rd t261 x9_1)).toNat * 3)) = some (.int .i64 ((rd_T29 l0 (rd t261 x9_1)).f0)) ∧ w'.cell? ⟨(ad277.add (((rd t261 x9_1)).toNat * 3)).block, (ad277.add (((rd t261 x9_1)).toNat * 3)).off + 1, none⟩ = some (.int .u64 ((rd_T29 l0 (rd t261 x9_1)).f1)) ∧ w'.cell? ⟨(ad277.add (((rd t261 x9_1)).toNat * 3)).block, (ad277.add (((rd t261 x9_1)).toNat * 3)).off + 2, none⟩ = some (.string ((rd_T29 l0 (rd t261 x9_1)).f2))) (ds := []) #[false, false, false, false, false, false, false, false, false, false, false, false, false, false, false, false, false] (by kernel_rfl) rfl rfl ⟨hx281_0, ((HB.out.cell (World.block_lt_of_cell? w _ hw282_0)).trans hw282_0), ((HB.out.cell (World.block_lt_of_cell? w _ hw282_1)).trans hw282_1), ((HB.out.cell (World.block_lt_of_cell? w _ hw282_2)).trans hw282_2), hx283_0, ((HB.out.cell (World.block_lt_of_cell? w _ hw284_0)).trans hw284_0), ((HB.out.cell (World.block_lt_of_cell? w _ hw284_1)).trans hw284_1), ((HB.out.cell (World.block_lt_of_cell? w _ hw284_2)).trans hw284_2)⟩ (fun hHeld => ?_); refine with_tabW abacuslaw18_RelateSorted.tab17 abacuslaw18_RelateSorted.bits17 (fun HT_ HW_ => ?_)
                        generalize w46.drew = w47 at HO_6 HO_7 HO280 HB hx281_0 hx282_0 hx282_1 hx282_2 hx283_0 hx284_0 hx284_1 hx284_2 hHeld ⊢
                        refine pure_ (i := 0) (N := some 78) (v := ?_) (a' := ?_) #[true, false, false, false, false, false, false, false, false, false, false, false, false, false, false, false, false] rfl rfl (any_of HT_.out (by kernel_rfl)) (fun _ _ _ h => h) (Or.inl ⟨by rfl, ?_⟩) ?_ ?_
                        rotate_left
                        ·
                         intro w'
                         go_simp
                         with_reducible rfl
                        rotate_left
                        ·
                         simp only [Act.put, List.setIfInBounds_toArray, List.set_cons_zero, List.set_cons_succ, i64_w, i32_w]
                         rfl
                        refine pure_ (i := 1) (N := some 79) (v := ?_) (a' := ?_) #[true, true, false, false, false, false, false, false, false, false, false, false, false, false, false, false, false] rfl rfl (any_of HT_.out (by kernel_rfl)) (fun _ _ _ h => h) (Or.inl ⟨by rfl, ?_⟩) ?_ ?_
                        rotate_left
                        ·
                         intro w'
                         go_simp
                         with_reducible rfl
                        rotate_left
                        ·
                         simp only [Act.put, List.setIfInBounds_toArray, List.set_cons_zero, List.set_cons_succ, i64_w, i32_w]
                         rfl
                        refine pure_ (i := 2) (N := some 80) (v := ?_) (a' := ?_) #[true, true, true, false, false, false, false, false, false, false, false, false, false, false, false, false, false] rfl rfl (any_of HT_.out (by kernel_rfl)) (fun _ _ _ h => h) (Or.inl ⟨by rfl, ?_⟩) ?_ ?_
                        rotate_left
                        ·
                         intro w'
                         go_simp
                         with_reducible rfl
                        rotate_left
                        ·
                         simp only [Act.put, List.setIfInBounds_toArray, List.set_cons_zero, List.set_cons_succ, i64_w, i32_w]
                         rfl
                        refine pure_ (i := 3) (N := some 81) (v := ?_) (a' := ?_) #[true, true, true, true, false, false, false, false, false, false, false, false, false, false, false, false, false] rfl rfl (any_of HT_.out (by kernel_rfl)) (fun _ _ _ h => h) (Or.inl ⟨by rfl, ?_⟩) ?_ ?_
                        rotate_left
                        ·
                         intro w'
                         go_simp
                         with_reducible rfl
                        rotate_left
                        ·
                         simp only [Act.put, List.setIfInBounds_toArray, List.set_cons_zero, List.set_cons_succ, i64_w, i32_w]
                         rfl
                        refine pure_ (i := 4) (N := some 82) (v := ?_) (a' := ?_) #[true, true, true, true, true, false, false, false, false, false, false, false, false, false, false, false, false] rfl rfl (any_of HT_.out (by kernel_rfl)) (fun _ _ _ h => h) (Or.inl ⟨by rfl, ?_⟩) ?_ ?_
                        rotate_left
                        ·
                         intro w'
                         go_simp
                         with_reducible rfl
                        rotate_left
                        ·
                         simp only [Act.put, List.setIfInBounds_toArray, List.set_cons_zero, List.set_cons_succ, i64_w, i32_w]
                         rfl
                        refine pure_ (i := 8) (N := some 86) (v := ?_) (a' := ?_) #[true, true, true, true, true, false, false, false, true, false, false, false, false, false, false, false, false] rfl rfl (any_of HT_.out (by kernel_rfl)) (fun _ _ _ h => h) (Or.inl ⟨by rfl, ?_⟩) ?_ ?_
                        rotate_left
                        ·
                         intro w'
                         go_simp
                         with_reducible rfl
                        rotate_left
                        ·
                         simp only [Act.put, List.setIfInBounds_toArray, List.set_cons_zero, List.set_cons_succ, i64_w, i32_w]
                         rfl
                        refine pure_ (i := 9) (N := some 87) (v := ?_) (a' := ?_) #[true, true, true, true, true, false, false, false, true, true, false, false, false, false, false, false, false] rfl rfl (any_of HT_.out (by kernel_rfl)) (fun _ _ _ h => h) (Or.inl ⟨by rfl, ?_⟩) ?_ ?_
                        rotate_left
                        ·
                         intro w'
                         go_simp
                         with_reducible rfl
                        rotate_left
                        ·
                         simp only [Act.put, List.setIfInBounds_toArray, List.set_cons_zero, List.set_cons_succ, i64_w, i32_w]
                         rfl
                        refine pure_ (i := 10) (N := some 88) (v := ?_) (a' := ?_) #[true, true, true, true, true, false, false, false, true, true, true, false, false, false, false, false, false] rfl rfl (any_of HT_.out (by kernel_rfl)) (fun _ _ _ h => h) (Or.inl ⟨by rfl, ?_⟩) ?_ ?_
                        rotate_left
                        ·
                         intro w'
                         go_simp
                         with_reducible rfl
                        rotate_left
                        ·
                         simp only [Act.put, List.setIfInBounds_toArray, List.set_cons_zero, List.set_cons_succ, i64_w, i32_w]
                         rfl
                        refine pure_ (i := 11) (N := some 89) (v := ?_) (a' := ?_) #[true, true, true, true, true, false, false, false, true, true, true, true, false, false, false, false, false] rfl rfl (any_of HT_.out (by kernel_rfl)) (fun _ _ _ h => h) (Or.inl ⟨by rfl, ?_⟩) ?_ ?_
                        rotate_left
                        ·
                         intro w'
                         go_simp
                         with_reducible rfl
                        rotate_left
                        ·
                         simp only [Act.put, List.setIfInBounds_toArray, List.set_cons_zero, List.set_cons_succ, i64_w, i32_w]
                         rfl
                        refine take_ (i := 5) (N := some 83) (v := ?_) (a' := ?_) #[true, true, true, true, true, true, false, false, true, true, true, true, false, false, false, false, false] rfl rfl (take_ofW HT_.out HW_.out (by kernel_rfl)) (fun _ _ _ h => h) (Or.inl ⟨by rfl, ?_⟩) hHeld ?_ ?_
                        rotate_left
                        ·
                         rintro w' ⟨s0, s1, s2, s3, s4, s5, s6, s7⟩
                         go_simp
                         with_reducible rfl
                        rotate_left
                        ·
                         simp only [Act.put, List.setIfInBounds_toArray, List.set_cons_zero, List.set_cons_succ, i64_w, i32_w]
                         rfl
                        refine pure_ (i := 6) (N := some 84) (v := ?_) (a' := ?_) #[true, true, true, true, true, true, true, false, true, true, true, true, false, false, false, false, false] rfl rfl (any_of HT_.out (by kernel_rfl)) (fun _ _ _ h => h) (Or.inl ⟨by rfl, ?_⟩) ?_ ?_
                        rotate_left
                        ·
                         intro w'
                         go_simp
                         with_reducible rfl
                        rotate_left
                        ·
                         simp only [Act.put, List.setIfInBounds_toArray, List.set_cons_zero, List.set_cons_succ, i64_w, i32_w]
                         rfl
                        refine take_ (i := 7) (N := some 85) (v := ?_) (a' := ?_) #[true, true, true, true, true, true, true, true, true, true, true, true, false, false, false, false, false] rfl rfl (take_ofW HT_.out HW_.out (by kernel_rfl)) (fun _ _ _ h => h) (Or.inl ⟨by rfl, ?_⟩) hHeld ?_ ?_
                        rotate_left
                        ·
                         rintro w' ⟨s0, s1, s2, s3, s4, s5, s6, s7⟩
                         go_simp
                         with_reducible rfl
                        rotate_left
                        ·
                         simp only [Act.put, List.setIfInBounds_toArray, List.set_cons_zero, List.set_cons_succ, i64_w, i32_w]
                         rfl
                        refine take_ (i := 12) (N := some 90) (v := ?_) (a' := ?_) #[true, true, true, true, true, true, true, true, true, true, true, true, true, false, false, false, false] rfl rfl (take_ofW HT_.out HW_.out (by kernel_rfl)) (fun _ _ _ h => h) (Or.inl ⟨by rfl, ?_⟩) hHeld ?_ ?_
                        rotate_left
                        ·
                         rintro w' ⟨s0, s1, s2, s3, s4, s5, s6, s7⟩
                         go_simp
                         with_reducible rfl
                        rotate_left
                        ·
                         simp only [Act.put, List.setIfInBounds_toArray, List.set_cons_zero, List.set_cons_succ, i64_w, i32_w]
                         rfl
                        refine pure_ (i := 13) (N := some 91) (v := ?_) (a' := ?_) #[true, true, true, true, true, true, true, true, true, true, true, true, true, true, false, false, false] rfl rfl (any_of HT_.out (by kernel_rfl)) (fun _ _ _ h => h) (Or.inl ⟨by rfl, ?_⟩) ?_ ?_
                        rotate_left
                        ·
                         intro w'
                         go_simp
                         with_reducible rfl
                        rotate_left
                        ·
                         simp only [Act.put, List.setIfInBounds_toArray, List.set_cons_zero, List.set_cons_succ, i64_w, i32_w]
                         rfl
                        refine take_ (i := 14) (N := some 92) (v := ?_) (a' := ?_) #[true, true, true, true, true, true, true, true, true, true, true, true, true, true, true, false, false] rfl rfl (take_ofW HT_.out HW_.out (by kernel_rfl)) (fun _ _ _ h => h) (Or.inl ⟨by rfl, ?_⟩) hHeld ?_ ?_
                        rotate_left
                        ·
                         rintro w' ⟨s0, s1, s2, s3, s4, s5, s6, s7⟩
                         go_simp
                         with_reducible rfl
                        rotate_left
                        ·
                         simp only [Act.put, List.setIfInBounds_toArray, List.set_cons_zero, List.set_cons_succ, i64_w, i32_w]
                         rfl
                        refine one_ (i := 15) (N := some 93) #[true, true, true, true, true, true, true, true, true, true, true, true, true, true, true, true, false] rfl rfl (one_of HT_.out (by kernel_rfl)) (by decide) (fun K hK => ?_)
                        refine goes_ Tryz.func19 (by kernel_rfl) rfl #[.agg #[.int .i64 ((rd_T29 l0 (rd t261 (ji37))).f0), .int .u64 ((rd_T29 l0 (rd t261 (ji37))).f1), .string ((rd_T29 l0 (rd t261 (ji37))).f2)], .agg #[.int .i64 ((rd_T29 l0 (rd t261 x9_1)).f0), .int .u64 ((rd_T29 l0 (rd t261 x9_1)).f1), .string ((rd_T29 l0 (rd t261 x9_1)).f2)]] (by rfl) rfl rfl (by exact ph11) ?_
                        with_reducible refine (relate_Order.calls kj20 ((rd_T29 l0 (rd t261 (ji37))).f0) ((rd_T29 l0 (rd t261 (ji37))).f1) ((rd_T29 l0 (rd t261 (ji37))).f2) ((rd_T29 l0 (rd t261 x9_1)).f0) ((rd_T29 l0 (rd t261 x9_1)).f1) ((rd_T29 l0 (rd t261 x9_1)).f2) t285 _ A42.out).mono ?_
                        rintro e w48 ⟨rfl, hb⟩
                        have HS0_ := (hb.cell (World.block_lt_of_cell? _ _ (hHeld.1))).trans (hHeld.1)
                        have HS4_ := (hb.cell (World.block_lt_of_cell? _ _ (hHeld.2.2.2.2.1))).trans (hHeld.2.2.2.2.1)
                        refine ⟨_, rfl, ?_⟩
                        have n0_ := Aside0.mk (Kd.R_below (by exact ph3) hb)
                        have n1_ := Aside0.mk (Kd.R_below (by exact ph5) hb)
                        have n2_ := Aside0.mk (Kd.R_below (by exact ph8) hb)
                        have n3_ := Aside0.mk (below_step (by exact ph2) hb)
                        clear HO_6
                        clear HO_7
                        clear HO280
                        clear HB
                        have HO_6 := n0_
                        have HO_7 := n1_
                        have HO280 := n2_
                        have HB := n3_
                        clear n0_ n1_ n2_ n3_
                        (try clear hb)
                        (try clear hb2)
                        (try clear hk)
                        (try clear hi)
                        refine hK.out _ _ ⟨HS0_, ((HB.out.cell (World.block_lt_of_cell? w _ hw282_0)).trans hw282_0), ((HB.out.cell (World.block_lt_of_cell? w _ hw282_1)).trans hw282_1), ((HB.out.cell (World.block_lt_of_cell? w _ hw282_2)).trans hw282_2), HS4_, ((HB.out.cell (World.block_lt_of_cell? w _ hw284_0)).trans hw284_0), ((HB.out.cell (World.block_lt_of_cell? w _ hw284_1)).trans hw284_1), ((HB.out.cell (World.block_lt_of_cell? w _ hw284_2)).trans hw284_2)⟩ (fun hHeld => ?_)
                        clear hK K
                        refine norm_ (a' := ?_) ?_ ?_
                        rotate_left
                        ·
                         show Act.put _ (some 93) _ = _
                         simp only [Act.put, List.setIfInBounds_toArray, List.set_cons_zero, List.set_cons_succ, i64_w, i32_w]
                         rfl
                        refine pure_ (i := 16) (N := some 10) (v := ?_) (a' := ?_) #[true, true, true, true, true, true, true, true, true, true, true, true, true, true, true, true, true] rfl rfl (any_of HT_.out (by kernel_rfl)) (fun _ _ _ h => h) (Or.inl ⟨by rfl, ?_⟩) ?_ ?_
                        rotate_left
                        ·
                         intro w'
                         go_simp
                         with_reducible rfl
                        rotate_left
                        ·
                         simp only [Act.put, List.setIfInBounds_toArray, List.set_cons_zero, List.set_cons_succ, i64_w, i32_w]
                         rfl
                        refine done_ (done_of HT_.out (by kernel_rfl)) ?_
                        try go_wp2
                        have n0_ := Aside0.mk (Kd.R_drew HO_6.out)
                        have n1_ := Aside0.mk (Kd.R_drew HO_7.out)
                        have n2_ := Aside0.mk (Kd.R_drew HO280.out)
                        have n3_ := Aside0.mk (below_drew1 HB.out)
                        clear HO_6
                        clear HO_7
                        clear HO280
                        clear HB
                        have HO_6 := n0_
                        have HO_7 := n1_
                        have HO280 := n2_
                        have HB := n3_
                        clear n0_ n1_ n2_ n3_
                        refine start_ (n := 18) (S := fun w' => True) (ds := []) #[false, false, false, false, false, false, false, false, false, false, false, false, false, false, false, false, false, false] (by kernel_rfl) rfl rfl trivial (fun hHeld => ?_); refine with_tabW abacuslaw18_RelateSorted.tab18 abacuslaw18_RelateSorted.bits18 (fun HT_ HW_ => ?_)
                        generalize w48.drew = w49 at HO_6 HO_7 HO280 HB hHeld ⊢
                        refine pure_ (i := 0) (N := some 94) (v := ?_) (a' := ?_) #[true, false, false, false, false, false, false, false, false, false, false, false, false, false, false, false, false, false] rfl rfl (any_of HT_.out (by kernel_rfl)) (fun _ _ _ h => h) (Or.inl ⟨by rfl, ?_⟩) ?_ ?_
                        rotate_left
                        ·
                         intro w'
                         go_simp
                         with_reducible rfl
                        rotate_left
                        ·
                         simp only [Act.put, List.setIfInBounds_toArray, List.set_cons_zero, List.set_cons_succ, i64_w, i32_w]
                         rfl
                        refine pure_ (i := 1) (N := some 95) (v := ?_) (a' := ?_) #[true, true, false, false, false, false, false, false, false, false, false, false, false, false, false, false, false, false] rfl rfl (any_of HT_.out (by kernel_rfl)) (fun _ _ _ h => h) (Or.inl ⟨by rfl, ?_⟩) ?_ ?_
                        rotate_left
                        ·
                         intro w'
                         go_simp
                         with_reducible rfl
                        rotate_left
                        ·
                         simp only [Act.put, List.setIfInBounds_toArray, List.set_cons_zero, List.set_cons_succ, i64_w, i32_w]
                         rfl
                        refine pure_ (i := 2) (N := some 96) (v := ?_) (a' := ?_) #[true, true, true, false, false, false, false, false, false, false, false, false, false, false, false, false, false, false] rfl rfl (any_of HT_.out (by kernel_rfl)) (fun _ _ _ h => h) (Or.inl ⟨by rfl, ?_⟩) ?_ ?_
                        rotate_left
                        ·
                         intro w'
                         go_simp
                         with_reducible rfl
                        rotate_left
                        ·
                         simp only [Act.put, List.setIfInBounds_toArray, List.set_cons_zero, List.set_cons_succ, i64_w, i32_w]
                         rfl
                        refine pure_ (i := 3) (N := some 97) (v := undef) (a' := ?_) #[true, true, true, true, false, false, false, false, false, false, false, false, false, false, false, false, false, false] rfl rfl (any_of HT_.out (by kernel_rfl)) (fun _ _ _ h => h) (Or.inr ⟨by rfl, rfl⟩) ?_ ?_
                        rotate_left
                        ·
                         simp only [Act.put, List.setIfInBounds_toArray, List.set_cons_zero, List.set_cons_succ, i64_w, i32_w]
                         rfl
                        refine pure_ (i := 4) (N := some 98) (v := undef) (a' := ?_) #[true, true, true, true, true, false, false, false, false, false, false, false, false, false, false, false, false, false] rfl rfl (any_of HT_.out (by kernel_rfl)) (fun _ _ _ h => h) (Or.inr ⟨by rfl, rfl⟩) ?_ ?_
                        rotate_left
                        ·
                         simp only [Act.put, List.setIfInBounds_toArray, List.set_cons_zero, List.set_cons_succ, i64_w, i32_w]
                         rfl
                        refine pure_ (i := 5) (N := some 99) (v := undef) (a' := ?_) #[true, true, true, true, true, true, false, false, false, false, false, false, false, false, false, false, false, false] rfl rfl (any_of HT_.out (by kernel_rfl)) (fun _ _ _ h => h) (Or.inr ⟨by rfl, rfl⟩) ?_ ?_
                        rotate_left
                        ·
                         simp only [Act.put, List.setIfInBounds_toArray, List.set_cons_zero, List.set_cons_succ, i64_w, i32_w]
                         rfl
                        refine pure_ (i := 6) (N := some 100) (v := undef) (a' := ?_) #[true, true, true, true, true, true, true, false, false, false, false, false, false, false, false, false, false, false] rfl rfl (any_of HT_.out (by kernel_rfl)) (fun _ _ _ h => h) (Or.inr ⟨by rfl, rfl⟩) ?_ ?_
                        rotate_left
                        ·
                         simp only [Act.put, List.setIfInBounds_toArray, List.set_cons_zero, List.set_cons_succ, i64_w, i32_w]
                         rfl
                        refine pure_ (i := 7) (N := some 101) (v := undef) (a' := ?_) #[true, true, true, true, true, true, true, true, false, false, false, false, false, false, false, false, false, false] rfl rfl (any_of HT_.out (by kernel_rfl)) (fun _ _ _ h => h) (Or.inr ⟨by rfl, rfl⟩) ?_ ?_
                        rotate_left
                        ·
                         simp only [Act.put, List.setIfInBounds_toArray, List.set_cons_zero, List.set_cons_succ, i64_w, i32_w]
                         rfl
                        refine pure_ (i := 8) (N := some 102) (v := undef) (a' := ?_) #[true, true, true, true, true, true, true, true, true, false, false, false, false, false, false, false, false, false] rfl rfl (any_of HT_.out (by kernel_rfl)) (fun _ _ _ h => h) (Or.inr ⟨by rfl, rfl⟩) ?_ ?_
                        rotate_left
                        ·
                         simp only [Act.put, List.setIfInBounds_toArray, List.set_cons_zero, List.set_cons_succ, i64_w, i32_w]
                         rfl
                        refine pure_ (i := 9) (N := some 103) (v := undef) (a' := ?_) #[true, true, true, true, true, true, true, true, true, true, false, false, false, false, false, false, false, false] rfl rfl (any_of HT_.out (by kernel_rfl)) (fun _ _ _ h => h) (Or.inr ⟨by rfl, rfl⟩) ?_ ?_
                        rotate_left
                        ·
                         simp only [Act.put, List.setIfInBounds_toArray, List.set_cons_zero, List.set_cons_succ, i64_w, i32_w]
                         rfl
                        refine pure_ (i := 10) (N := some 104) (v := undef) (a' := ?_) #[true, true, true, true, true, true, true, true, true, true, true, false, false, false, false, false, false, false] rfl rfl (any_of HT_.out (by kernel_rfl)) (fun _ _ _ h => h) (Or.inr ⟨by rfl, rfl⟩) ?_ ?_
                        rotate_left
                        ·
                         simp only [Act.put, List.setIfInBounds_toArray, List.set_cons_zero, List.set_cons_succ, i64_w, i32_w]
                         rfl
                        refine pure_ (i := 11) (N := some 105) (v := undef) (a' := ?_) #[true, true, true, true, true, true, true, true, true, true, true, true, false, false, false, false, false, false] rfl rfl (any_of HT_.out (by kernel_rfl)) (fun _ _ _ h => h) (Or.inr ⟨by rfl, rfl⟩) ?_ ?_
                        rotate_left
                        ·
                         simp only [Act.put, List.setIfInBounds_toArray, List.set_cons_zero, List.set_cons_succ, i64_w, i32_w]
                         rfl
                        refine pure_ (i := 12) (N := some 106) (v := undef) (a' := ?_) #[true, true, true, true, true, true, true, true, true, true, true, true, true, false, false, false, false, false] rfl rfl (any_of HT_.out (by kernel_rfl)) (fun _ _ _ h => h) (Or.inr ⟨by rfl, rfl⟩) ?_ ?_
                        rotate_left
                        ·
                         simp only [Act.put, List.setIfInBounds_toArray, List.set_cons_zero, List.set_cons_succ, i64_w, i32_w]
                         rfl
                        refine pure_ (i := 13) (N := some 107) (v := undef) (a' := ?_) #[true, true, true, true, true, true, true, true, true, true, true, true, true, true, false, false, false, false] rfl rfl (any_of HT_.out (by kernel_rfl)) (fun _ _ _ h => h) (Or.inr ⟨by rfl, rfl⟩) ?_ ?_
                        rotate_left
                        ·
                         simp only [Act.put, List.setIfInBounds_toArray, List.set_cons_zero, List.set_cons_succ, i64_w, i32_w]
                         rfl
                        refine pure_ (i := 14) (N := some 108) (v := undef) (a' := ?_) #[true, true, true, true, true, true, true, true, true, true, true, true, true, true, true, false, false, false] rfl rfl (any_of HT_.out (by kernel_rfl)) (fun _ _ _ h => h) (Or.inr ⟨by rfl, rfl⟩) ?_ ?_
                        rotate_left
                        ·
                         simp only [Act.put, List.setIfInBounds_toArray, List.set_cons_zero, List.set_cons_succ, i64_w, i32_w]
                         rfl
                        refine pure_ (i := 15) (N := some 109) (v := undef) (a' := ?_) #[true, true, true, true, true, true, true, true, true, true, true, true, true, true, true, true, false, false] rfl rfl (any_of HT_.out (by kernel_rfl)) (fun _ _ _ h => h) (Or.inr ⟨by rfl, rfl⟩) ?_ ?_
                        rotate_left
                        ·
                         simp only [Act.put, List.setIfInBounds_toArray, List.set_cons_zero, List.set_cons_succ, i64_w, i32_w]
                         rfl
                        refine pure_ (i := 16) (N := some 110) (v := undef) (a' := ?_) #[true, true, true, true, true, true, true, true, true, true, true, true, true, true, true, true, true, false] rfl rfl (any_of HT_.out (by kernel_rfl)) (fun _ _ _ h => h) (Or.inr ⟨by rfl, rfl⟩) ?_ ?_
                        rotate_left
                        ·
                         simp only [Act.put, List.setIfInBounds_toArray, List.set_cons_zero, List.set_cons_succ, i64_w, i32_w]
                         rfl
                        refine pure_ (i := 17) (N := some 111) (v := ?_) (a' := ?_) #[true, true, true, true, true, true, true, true, true, true, true, true, true, true, true, true, true, true] rfl rfl (any_of HT_.out (by kernel_rfl)) (fun _ _ _ h => h) (Or.inl ⟨by rfl, ?_⟩) ?_ ?_
                        rotate_left
                        ·
                         intro w'
                         go_simp
                         with_reducible rfl
                        rotate_left
                        ·
                         simp only [Act.put, List.setIfInBounds_toArray, List.set_cons_zero, List.set_cons_succ, i64_w, i32_w]
                         rfl
                        refine done_ (done_of HT_.out (by kernel_rfl)) ?_
                        try go_wp2
                        go_ret
                        exact ⟨by exact ph18, by exact ph2⟩
                       ·
                        rw [if_neg c43] at H
                        have c43b0 : decide (0 < t285) = false := decide_eq_false c43
                        clear c43
                        by_cases c50 : t285 = 0
                        ·
                         rw [if_pos c50] at H
                         have c50b0 : (t285 == 0) = true := beq_iff_eq.mpr c50
                         have c50b1 : (t285 != 0) = false := bne_eq_false_iff_eq.mpr c50
                         clear c50
                         by_cases c51 : (rd t261 (ji37)) > (rd t261 x9_1)
                         ·
                          rw [if_pos c51] at H
                          have c51b0 : decide ((rd t261 x9_1) < (rd t261 (ji37))) = true := decide_eq_true c51
                          clear c51
                          obtain rfl := Option.some.inj H
                          have p274 : 0 ≤ (x9_1 : Int) := of_decide_eq_true (by exact ph1)
                          have q274 : x9_1 < (t261.length : Int) := of_decide_eq_true (by exact ph1)
                          obtain ⟨ad274, e274, hx274_0⟩ := Kd.at_int (Kd.R_reads' HO_6.out).2.2 x9_1 p274 q274
                          cases e274
                          replace p274 := eq_true p274
                          replace q274 := eq_true q274
                          have p33 : 0 ≤ ((rd t261 x9_1) : Int) := of_decide_eq_true (by exact ph1)
                          have q33 : ((rd t261 x9_1) : Int) < ((x7_1.length : Int) : Int) := of_decide_eq_true (by exact ph1)
                          obtain ⟨go33, co33, eo33, gb33, gl33, cl33, HG33⟩ := Kd.R_form HO_7.out (by omega)
                          (first | cases eo33 | (injection eo33 with ea_ en_ ec_; (first | subst ea_ | (injection ea_ with ea_; subst ea_)); subst ec_; clear en_))
                          have GB33 := Aside0.mk gb33
                          have GG33 := Aside0.mk HG33
                          clear gb33 gl33 HG33
                          obtain ⟨hx33_0, hf33_0⟩ := Kd.R_celln false HO_7.out ((rd t261 x9_1) : Int) p33 q33
                          replace p33 := eq_true p33
                          replace q33 := eq_true q33
                          have HP52 := Kd.R_putg HO_7.out ((rd t261 x9_1) : Int) true
                          try go_wp2_with (first | ((with_reducible refine gate_store (t := 4) (p := 65) rfl ?_); refine store_event (t := 4) (p := 65) (v := ?vo_w53) (w1 := (wc.setCell ⟨go33, ((rd t261 x9_1) : Int).toNat, none⟩ (.bool true))) ?hg ?ho ?hn ?hr ?_; (case ho => rfl); (case hg => rfl); (case hn => rfl); (case hr => first | (go_simp; done) | (go_simp; rfl)); intro w53 hw; have hg : wc.grownBy w53 (some go33) := (by rw [hw]; exact HP52.2); have hp_ : Kd.R Kd.bool 4 w53 w.heap.size (fun _ => True) (.slice (some ⟨go33, 0, none⟩) x7_1.length co33) y275 := (by rw [hw, Ny275.out]; exact HP52.1); clear HP52; have n0_ := Aside0.mk (Kd.R_over' (v := (.slice (some ⟨go33, 0, none⟩) x7_1.length co33)) (by exact ph3) (Kd.R_typed HO_7.out) (by decide) hg); have n1_ := Aside0.mk (hp_); have n2_ := Aside0.mk (Kd.R_over' (v := (.slice (some ⟨go33, 0, none⟩) x7_1.length co33)) (by exact ph4) (Kd.R_typed HO_7.out) (by decide) hg); have n3_ := Aside0.mk ((by rw [hw]; exact below_set (HB.out) GB33.out : Below w.heap.size w w53)); clear HO_6; clear HO_7; clear HO_8; clear HB; have HO_6 := n0_; have HO_7 := n1_; have HO_8 := n2_; have HB := n3_; clear n0_ n1_ n2_ n3_; clear hg hw hp_; have p276 : 0 ≤ (x9_1 : Int) := of_decide_eq_true (by exact ph1); have q276 : x9_1 < (t261.length : Int) := of_decide_eq_true (by exact ph1); obtain ⟨ad276, e276, hx276_0⟩ := Kd.at_int (Kd.R_reads' HO_6.out).2.2 x9_1 p276 q276; obtain rfl : ad274 = ad276 := (by injection e276); replace p276 := eq_true p276; replace q276 := eq_true q276; have p277 : 0 ≤ ((rd t261 x9_1) : Int) := of_decide_eq_true (by exact ph1); have q277 : (rd t261 x9_1) < (l0.length : Int) := of_decide_eq_true (by exact ph1); obtain ⟨ad277, e277, hx277_0, hx277_1, hx277_2⟩ := at_T29 HR0.out (rd t261 x9_1) p277 q277; cases e277; replace hx277_0 := (HB.out.cell (World.block_lt_of_cell? w _ hx277_0)).trans hx277_0; replace hx277_1 := (HB.out.cell (World.block_lt_of_cell? w _ hx277_1)).trans hx277_1; replace hx277_2 := (HB.out.cell (World.block_lt_of_cell? w _ hx277_2)).trans hx277_2; replace p277 := eq_true p277; replace q277 := eq_true q277) | ((with_reducible refine gate_builtin (b := .append) (xs := #[.tmp 66, .tmp 74]) rfl ?_); (try (refine gate_guard (by rfl) ?_; dsimp only)); at_builtin; refine Kd.R_append k29 (w0 := w) w.heap.size rfl (.tmp 66) (.tmp 74) 36 29 (.agg #[(.int .i64 0), (.int .u64 0), (.string ⟨#[]⟩)]) 32 rfl Tryz.underlying36 info29 rfl (by decide) (by omega) u8 x8_1 (⟨(rd_T29 l0 (rd t261 x9_1)).f0, (rd_T29 l0 (rd t261 x9_1)).f1, (rd_T29 l0 (rd t261 x9_1)).f2⟩ : S29) [.int .i64 ((rd_T29 l0 (rd t261 x9_1)).f0), .int .u64 ((rd_T29 l0 (rd t261 x9_1)).f1), .string ((rd_T29 l0 (rd t261 x9_1)).f2)] (fun _ => True) (fun _ => False) rfl rfl ?aP (fun _ hk => hk.elim) ?aF ?aO ?aB ?aS ?aL ?_; (case aP => exact k29_mkM _ _ _ (⟨(rd_T29 l0 (rd t261 x9_1)).f0, (rd_T29 l0 (rd t261 x9_1)).f1, (rd_T29 l0 (rd t261 x9_1)).f2⟩ : S29)); (case aB => exact (by exact ph2)); (case aF => exact (fun _ _ => trivial)); (case aO => exact (by exact ph4)); (case aS => exact (below_size (by exact ph2))); (case aL => have := LMc35.out; omega); intro v279 w54 ho hb hg hat; rw [← Ny278.out] at ho; have n0_ := Aside0.mk (Kd.R_over' (by exact ph3) (Kd.R_typed (by exact ph4)) (by decide) hg); have n1_ := Aside0.mk (Kd.R_over' (by exact ph5) (Kd.R_typed (by exact ph4)) (by decide) hg); have n2_ := Aside0.mk (hb); have n3_ := Aside0.mk (ho); clear HO_6; clear HO_7; clear HB; clear HO_8; have HO_6 := n0_; have HO_7 := n1_; have HB := n2_; have HO280 := n3_; clear n0_ n1_ n2_ n3_; clear ho hb hg hat))
                          have n0_ := Aside0.mk (Kd.R_drew HO_6.out)
                          have n1_ := Aside0.mk (Kd.R_drew HO_7.out)
                          have n2_ := Aside0.mk (Kd.R_drew HO280.out)
                          have n3_ := Aside0.mk (below_drew1 HB.out)
                          clear HO_6
                          clear HO_7
                          clear HO280
                          clear HB
                          have HO_6 := n0_
                          have HO_7 := n1_
                          have HO280 := n2_
                          have HB := n3_
                          clear n0_ n1_ n2_ n3_
                          have p281 : 0 ≤ ((ji37) : Int) := of_decide_eq_true (by exact ph1)
                          have q281 : (ji37) < (t261.length : Int) := of_decide_eq_true (by exact ph1)
                          obtain ⟨ad281, e281, hx281_0⟩ := Kd.at_int (Kd.R_reads' HO_6.out).2.2 (ji37) p281 q281
                          obtain rfl : ad274 = ad281 := (by injection e281)
                          replace p281 := eq_true p281
                          replace q281 := eq_true q281
                          have p282 : 0 ≤ ((rd t261 (ji37)) : Int) := of_decide_eq_true (by exact ph1)
                          have q282 : (rd t261 (ji37)) < (l0.length : Int) := of_decide_eq_true (by exact ph1)
                          obtain ⟨ad282, e282, hx282_0, hx282_1, hx282_2⟩ := at_T29 HR0.out (rd t261 (ji37)) p282 q282
                          have hw282_2 := hx282_2
                          have hw282_1 := hx282_1
                          have hw282_0 := hx282_0
                          obtain rfl : ad277 = ad282 := (by injection e282)
                          replace hx282_0 := (HB.out.cell (World.block_lt_of_cell? w _ hx282_0)).trans hx282_0
                          replace hx282_1 := (HB.out.cell (World.block_lt_of_cell? w _ hx282_1)).trans hx282_1
                          replace hx282_2 := (HB.out.cell (World.block_lt_of_cell? w _ hx282_2)).trans hx282_2
                          replace p282 := eq_true p282
                          replace q282 := eq_true q282
                          have p283 : 0 ≤ (x9_1 : Int) := of_decide_eq_true (by exact ph1)
                          have q283 : x9_1 < (t261.length : Int) := of_decide_eq_true (by exact ph1)
                          obtain ⟨ad283, e283, hx283_0⟩ := Kd.at_int (Kd.R_reads' HO_6.out).2.2 x9_1 p283 q283
                          obtain rfl : ad274 = ad283 := (by injection e283)
                          replace p283 := eq_true p283
                          replace q283 := eq_true q283
                          have p284 : 0 ≤ ((rd t261 x9_1) : Int) := of_decide_eq_true (by exact ph1)
                          have q284 : (rd t261 x9_1) < (l0.length : Int) := of_decide_eq_true (by exact ph1)
                          obtain ⟨ad284, e284, hx284_0, hx284_1, hx284_2⟩ := at_T29 HR0.out (rd t261 x9_1) p284 q284
                          have hw284_2 := hx284_2
                          have hw284_1 := hx284_1
                          have hw284_0 := hx284_0
                          obtain rfl : ad277 = ad284 := (by injection e284)
                          replace hx284_0 := (HB.out.cell (World.block_lt_of_cell? w _ hx284_0)).trans hx284_0
                          replace hx284_1 := (HB.out.cell (World.block_lt_of_cell? w _ hx284_1)).trans hx284_1
                          replace hx284_2 := (HB.out.cell (World.block_lt_of_cell? w _ hx284_2)).trans hx284_2
                          replace p284 := eq_true p284
                          replace q284 := eq_true q284
                          refine start_ (n := 17) (S := fun w' => w'.cell? (ad274.add ((ji37)).toNat) = some (.int .i64 (rd t261 (ji37))) ∧ w'.cell? (ad277.add (((rd t261 (ji37))).toNat * 3)) = some (.int .i64 ((rd_T29 l0 (rd t261 (ji37))).f0)) ∧ w'.cell? ⟨(ad277.add (((rd t261 (ji37))).toNat * 3)).block, (ad277.add (((rd t261 (ji37))).toNat * 3)).off + 1, none⟩ = some (.int .u64 ((rd_T29 l0 (rd t261 (ji37))).f1)) ∧ w'.cell? ⟨(ad277.add (((rd t261 (ji37))).toNat * 3)).block, (ad277.add (((rd t261 (ji37))).toNat * 3)).off + 2, none⟩ = some (.string ((rd_T29 l0 (rd t261 (ji37))).f2)) ∧ w'.cell? (ad274.add (x9_1).toNat) = some (.int .i64 (rd t261 x9_1)) ∧ w'.cell? (ad277.add (((rd t261 x9_1)).toNat * 3)) = some (.int .i64 ((rd_T29 l0 (rd t261 x9_1)).f0)) ∧ w'.cell? ⟨(ad277.add (((rd t261 x9_1)).toNat * 3)).block, (ad277.add (((rd t261 x9_1)).toNat * 3)).off + 1, none⟩ = some (.int .u64 ((rd_T29 l0 (rd t261 x9_1)).f1)) ∧ w'.cell? ⟨(ad277.add (((rd t261 x9_1)).toNat * 3)).block, (ad277.add (((rd t261 x9_1)).toNat * 3)).off + 2, none⟩ = some (.string ((rd_T29 l0 (rd t261 x9_1)).f2))) (ds := []) #[false, false, false, false, false, false, false, false, false, false, false, false, false, false, false, false, false] (by kernel_rfl) rfl rfl ⟨hx281_0, ((HB.out.cell (World.block_lt_of_cell? w _ hw282_0)).trans hw282_0), ((HB.out.cell (World.block_lt_of_cell? w _ hw282_1)).trans hw282_1), ((HB.out.cell (World.block_lt_of_cell? w _ hw282_2)).trans hw282_2), hx283_0, ((HB.out.cell (World.block_lt_of_cell? w _ hw284_0)).trans hw284_0), ((HB.out.cell (World.block_lt_of_cell? w _ hw284_1)).trans hw284_1), ((HB.out.cell (World.block_lt_of_cell? w _ hw284_2)).trans hw284_2)⟩ (fun hHeld => ?_); refine with_tabW abacuslaw18_RelateSorted.tab17 abacuslaw18_RelateSorted.bits17 (fun HT_ HW_ => ?_)
                          generalize w54.drew = w55 at HO_6 HO_7 HO280 HB hx281_0 hx282_0 hx282_1 hx282_2 hx283_0 hx284_0 hx284_1 hx284_2 hHeld ⊢
                          refine pure_ (i := 0) (N := some 78) (v := ?_) (a' := ?_) #[true, false, false, false, false, false, false, false, false, false, false, false, false, false, false, false, false] rfl rfl (any_of HT_.out (by kernel_rfl)) (fun _ _ _ h => h) (Or.inl ⟨by rfl, ?_⟩) ?_ ?_
                          rotate_left
                          ·
                           intro w'
                           go_simp
                           with_reducible rfl
                          rotate_left
                          ·
                           simp only [Act.put, List.setIfInBounds_toArray, List.set_cons_zero, List.set_cons_succ, i64_w, i32_w]
                           rfl
                          refine pure_ (i := 1) (N := some 79) (v := ?_) (a' := ?_) #[true, true, false, false, false, false, false, false, false, false, false, false, false, false, false, false, false] rfl rfl (any_of HT_.out (by kernel_rfl)) (fun _ _ _ h => h) (Or.inl ⟨by rfl, ?_⟩) ?_ ?_
                          rotate_left
                          ·
                           intro w'
                           go_simp
                           with_reducible rfl
                          rotate_left
                          ·
                           simp only [Act.put, List.setIfInBounds_toArray, List.set_cons_zero, List.set_cons_succ, i64_w, i32_w]
                           rfl
                          refine pure_ (i := 2) (N := some 80) (v := ?_) (a' := ?_) #[true, true, true, false, false, false, false, false, false, false, false, false, false, false, false, false, false] rfl rfl (any_of HT_.out (by kernel_rfl)) (fun _ _ _ h => h) (Or.inl ⟨by rfl, ?_⟩) ?_ ?_
                          rotate_left
                          ·
                           intro w'
                           go_simp
                           with_reducible rfl
                          rotate_left
                          ·
                           simp only [Act.put, List.setIfInBounds_toArray, List.set_cons_zero, List.set_cons_succ, i64_w, i32_w]
                           rfl
                          refine pure_ (i := 3) (N := some 81) (v := ?_) (a' := ?_) #[true, true, true, true, false, false, false, false, false, false, false, false, false, false, false, false, false] rfl rfl (any_of HT_.out (by kernel_rfl)) (fun _ _ _ h => h) (Or.inl ⟨by rfl, ?_⟩) ?_ ?_
                          rotate_left
                          ·
                           intro w'
                           go_simp
                           with_reducible rfl
                          rotate_left
                          ·
                           simp only [Act.put, List.setIfInBounds_toArray, List.set_cons_zero, List.set_cons_succ, i64_w, i32_w]
                           rfl
                          refine pure_ (i := 4) (N := some 82) (v := ?_) (a' := ?_) #[true, true, true, true, true, false, false, false, false, false, false, false, false, false, false, false, false] rfl rfl (any_of HT_.out (by kernel_rfl)) (fun _ _ _ h => h) (Or.inl ⟨by rfl, ?_⟩) ?_ ?_
                          rotate_left
                          ·
                           intro w'
                           go_simp
                           with_reducible rfl
                          rotate_left
                          ·
                           simp only [Act.put, List.setIfInBounds_toArray, List.set_cons_zero, List.set_cons_succ, i64_w, i32_w]
                           rfl
                          refine pure_ (i := 8) (N := some 86) (v := ?_) (a' := ?_) #[true, true, true, true, true, false, false, false, true, false, false, false, false, false, false, false, false] rfl rfl (any_of HT_.out (by kernel_rfl)) (fun _ _ _ h => h) (Or.inl ⟨by rfl, ?_⟩) ?_ ?_
                          rotate_left
                          ·
                           intro w'
                           go_simp
                           with_reducible rfl
                          rotate_left
                          ·
                           simp only [Act.put, List.setIfInBounds_toArray, List.set_cons_zero, List.set_cons_succ, i64_w, i32_w]
                           rfl
                          refine pure_ (i := 9) (N := some 87) (v := ?_) (a' := ?_) #[true, true, true, true, true, false, false, false, true, true, false, false, false, false, false, false, false] rfl rfl (any_of HT_.out (by kernel_rfl)) (fun _ _ _ h => h) (Or.inl ⟨by rfl, ?_⟩) ?_ ?_
                          rotate_left
                          ·
                           intro w'
                           go_simp
                           with_reducible rfl
                          rotate_left
                          ·
                           simp only [Act.put, List.setIfInBounds_toArray, List.set_cons_zero, List.set_cons_succ, i64_w, i32_w]
                           rfl
                          refine pure_ (i := 10) (N := some 88) (v := ?_) (a' := ?_) #[true, true, true, true, true, false, false, false, true, true, true, false, false, false, false, false, false] rfl rfl (any_of HT_.out (by kernel_rfl)) (fun _ _ _ h => h) (Or.inl ⟨by rfl, ?_⟩) ?_ ?_
                          rotate_left
                          ·
                           intro w'
                           go_simp
                           with_reducible rfl
                          rotate_left
                          ·
                           simp only [Act.put, List.setIfInBounds_toArray, List.set_cons_zero, List.set_cons_succ, i64_w, i32_w]
                           rfl
                          refine pure_ (i := 11) (N := some 89) (v := ?_) (a' := ?_) #[true, true, true, true, true, false, false, false, true, true, true, true, false, false, false, false, false] rfl rfl (any_of HT_.out (by kernel_rfl)) (fun _ _ _ h => h) (Or.inl ⟨by rfl, ?_⟩) ?_ ?_
                          rotate_left
                          ·
                           intro w'
                           go_simp
                           with_reducible rfl
                          rotate_left
                          ·
                           simp only [Act.put, List.setIfInBounds_toArray, List.set_cons_zero, List.set_cons_succ, i64_w, i32_w]
                           rfl
                          refine take_ (i := 5) (N := some 83) (v := ?_) (a' := ?_) #[true, true, true, true, true, true, false, false, true, true, true, true, false, false, false, false, false] rfl rfl (take_ofW HT_.out HW_.out (by kernel_rfl)) (fun _ _ _ h => h) (Or.inl ⟨by rfl, ?_⟩) hHeld ?_ ?_
                          rotate_left
                          ·
                           rintro w' ⟨s0, s1, s2, s3, s4, s5, s6, s7⟩
                           go_simp
                           with_reducible rfl
                          rotate_left
                          ·
                           simp only [Act.put, List.setIfInBounds_toArray, List.set_cons_zero, List.set_cons_succ, i64_w, i32_w]
                           rfl
                          refine pure_ (i := 6) (N := some 84) (v := ?_) (a' := ?_) #[true, true, true, true, true, true, true, false, true, true, true, true, false, false, false, false, false] rfl rfl (any_of HT_.out (by kernel_rfl)) (fun _ _ _ h => h) (Or.inl ⟨by rfl, ?_⟩) ?_ ?_
                          rotate_left
                          ·
                           intro w'
                           go_simp
                           with_reducible rfl
                          rotate_left
                          ·
                           simp only [Act.put, List.setIfInBounds_toArray, List.set_cons_zero, List.set_cons_succ, i64_w, i32_w]
                           rfl
                          refine take_ (i := 7) (N := some 85) (v := ?_) (a' := ?_) #[true, true, true, true, true, true, true, true, true, true, true, true, false, false, false, false, false] rfl rfl (take_ofW HT_.out HW_.out (by kernel_rfl)) (fun _ _ _ h => h) (Or.inl ⟨by rfl, ?_⟩) hHeld ?_ ?_
                          rotate_left
                          ·
                           rintro w' ⟨s0, s1, s2, s3, s4, s5, s6, s7⟩
                           go_simp
                           with_reducible rfl
                          rotate_left
                          ·
                           simp only [Act.put, List.setIfInBounds_toArray, List.set_cons_zero, List.set_cons_succ, i64_w, i32_w]
                           rfl
                          refine take_ (i := 12) (N := some 90) (v := ?_) (a' := ?_) #[true, true, true, true, true, true, true, true, true, true, true, true, true, false, false, false, false] rfl rfl (take_ofW HT_.out HW_.out (by kernel_rfl)) (fun _ _ _ h => h) (Or.inl ⟨by rfl, ?_⟩) hHeld ?_ ?_
                          rotate_left
                          ·
                           rintro w' ⟨s0, s1, s2, s3, s4, s5, s6, s7⟩
                           go_simp
                           with_reducible rfl
                          rotate_left
                          ·
                           simp only [Act.put, List.setIfInBounds_toArray, List.set_cons_zero, List.set_cons_succ, i64_w, i32_w]
                           rfl
                          refine pure_ (i := 13) (N := some 91) (v := ?_) (a' := ?_) #[true, true, true, true, true, true, true, true, true, true, true, true, true, true, false, false, false] rfl rfl (any_of HT_.out (by kernel_rfl)) (fun _ _ _ h => h) (Or.inl ⟨by rfl, ?_⟩) ?_ ?_
                          rotate_left
                          ·
                           intro w'
                           go_simp
                           with_reducible rfl
                          rotate_left
                          ·
                           simp only [Act.put, List.setIfInBounds_toArray, List.set_cons_zero, List.set_cons_succ, i64_w, i32_w]
                           rfl
                          refine take_ (i := 14) (N := some 92) (v := ?_) (a' := ?_) #[true, true, true, true, true, true, true, true, true, true, true, true, true, true, true, false, false] rfl rfl (take_ofW HT_.out HW_.out (by kernel_rfl)) (fun _ _ _ h => h) (Or.inl ⟨by rfl, ?_⟩) hHeld ?_ ?_
                          rotate_left
                          ·
                           rintro w' ⟨s0, s1, s2, s3, s4, s5, s6, s7⟩
                           go_simp
                           with_reducible rfl
                          rotate_left
                          ·
                           simp only [Act.put, List.setIfInBounds_toArray, List.set_cons_zero, List.set_cons_succ, i64_w, i32_w]
                           rfl
                          refine one_ (i := 15) (N := some 93) #[true, true, true, true, true, true, true, true, true, true, true, true, true, true, true, true, false] rfl rfl (one_of HT_.out (by kernel_rfl)) (by decide) (fun K hK => ?_)
                          refine goes_ Tryz.func19 (by kernel_rfl) rfl #[.agg #[.int .i64 ((rd_T29 l0 (rd t261 (ji37))).f0), .int .u64 ((rd_T29 l0 (rd t261 (ji37))).f1), .string ((rd_T29 l0 (rd t261 (ji37))).f2)], .agg #[.int .i64 ((rd_T29 l0 (rd t261 x9_1)).f0), .int .u64 ((rd_T29 l0 (rd t261 x9_1)).f1), .string ((rd_T29 l0 (rd t261 x9_1)).f2)]] (by rfl) rfl rfl (by exact ph11) ?_
                          with_reducible refine (relate_Order.calls kj20 ((rd_T29 l0 (rd t261 (ji37))).f0) ((rd_T29 l0 (rd t261 (ji37))).f1) ((rd_T29 l0 (rd t261 (ji37))).f2) ((rd_T29 l0 (rd t261 x9_1)).f0) ((rd_T29 l0 (rd t261 x9_1)).f1) ((rd_T29 l0 (rd t261 x9_1)).f2) t285 _ A42.out).mono ?_
                          rintro e w56 ⟨rfl, hb⟩
                          have HS0_ := (hb.cell (World.block_lt_of_cell? _ _ (hHeld.1))).trans (hHeld.1)
                          have HS4_ := (hb.cell (World.block_lt_of_cell? _ _ (hHeld.2.2.2.2.1))).trans (hHeld.2.2.2.2.1)
                          refine ⟨_, rfl, ?_⟩
                          have n0_ := Aside0.mk (Kd.R_below (by exact ph3) hb)
                          have n1_ := Aside0.mk (Kd.R_below (by exact ph5) hb)
                          have n2_ := Aside0.mk (Kd.R_below (by exact ph8) hb)
                          have n3_ := Aside0.mk (below_step (by exact ph2) hb)
                          clear HO_6
                          clear HO_7
                          clear HO280
                          clear HB
                          have HO_6 := n0_
                          have HO_7 := n1_
                          have HO280 := n2_
                          have HB := n3_
                          clear n0_ n1_ n2_ n3_
                          (try clear hb)
                          (try clear hb2)
                          (try clear hk)
                          (try clear hi)
                          refine hK.out _ _ ⟨HS0_, ((HB.out.cell (World.block_lt_of_cell? w _ hw282_0)).trans hw282_0), ((HB.out.cell (World.block_lt_of_cell? w _ hw282_1)).trans hw282_1), ((HB.out.cell (World.block_lt_of_cell? w _ hw282_2)).trans hw282_2), HS4_, ((HB.out.cell (World.block_lt_of_cell? w _ hw284_0)).trans hw284_0), ((HB.out.cell (World.block_lt_of_cell? w _ hw284_1)).trans hw284_1), ((HB.out.cell (World.block_lt_of_cell? w _ hw284_2)).trans hw284_2)⟩ (fun hHeld => ?_)
                          clear hK K
                          refine norm_ (a' := ?_) ?_ ?_
                          rotate_left
                          ·
                           show Act.put _ (some 93) _ = _
                           simp only [Act.put, List.setIfInBounds_toArray, List.set_cons_zero, List.set_cons_succ, i64_w, i32_w]
                           rfl
                          refine pure_ (i := 16) (N := some 10) (v := ?_) (a' := ?_) #[true, true, true, true, true, true, true, true, true, true, true, true, true, true, true, true, true] rfl rfl (any_of HT_.out (by kernel_rfl)) (fun _ _ _ h => h) (Or.inl ⟨by rfl, ?_⟩) ?_ ?_
                          rotate_left
                          ·
                           intro w'
                           go_simp
                           with_reducible rfl
                          rotate_left
                          ·
                           simp only [Act.put, List.setIfInBounds_toArray, List.set_cons_zero, List.set_cons_succ, i64_w, i32_w]
                           rfl
                          refine done_ (done_of HT_.out (by kernel_rfl)) ?_
                          try go_wp2
                          have n0_ := Aside0.mk (Kd.R_drew HO_6.out)
                          have n1_ := Aside0.mk (Kd.R_drew HO_7.out)
                          have n2_ := Aside0.mk (Kd.R_drew HO280.out)
                          have n3_ := Aside0.mk (below_drew1 HB.out)
                          clear HO_6
                          clear HO_7
                          clear HO280
                          clear HB
                          have HO_6 := n0_
                          have HO_7 := n1_
                          have HO280 := n2_
                          have HB := n3_
                          clear n0_ n1_ n2_ n3_
                          have p286 : 0 ≤ ((ji37) : Int) := of_decide_eq_true (by exact ph1)
                          have q286 : (ji37) < (t261.length : Int) := of_decide_eq_true (by exact ph1)
                          obtain ⟨ad286, e286, hx286_0⟩ := Kd.at_int (Kd.R_reads' HO_6.out).2.2 (ji37) p286 q286
                          obtain rfl : ad274 = ad286 := (by injection e286)
                          replace p286 := eq_true p286
                          replace q286 := eq_true q286
                          have p287 : 0 ≤ (x9_1 : Int) := of_decide_eq_true (by exact ph1)
                          have q287 : x9_1 < (t261.length : Int) := of_decide_eq_true (by exact ph1)
                          obtain ⟨ad287, e287, hx287_0⟩ := Kd.at_int (Kd.R_reads' HO_6.out).2.2 x9_1 p287 q287
                          obtain rfl : ad274 = ad287 := (by injection e287)
                          replace p287 := eq_true p287
                          replace q287 := eq_true q287
                          refine start_ (n := 18) (S := fun w' => w'.cell? (ad274.add ((ji37)).toNat) = some (.int .i64 (rd t261 (ji37))) ∧ w'.cell? (ad274.add (x9_1).toNat) = some (.int .i64 (rd t261 x9_1))) (ds := []) #[false, false, false, false, false, false, false, false, false, false, false, false, false, false, false, false, false, false] (by kernel_rfl) rfl rfl ⟨hx286_0, hx287_0⟩ (fun hHeld => ?_); refine with_tabW abacuslaw18_RelateSorted.tab18 abacuslaw18_RelateSorted.bits18 (fun HT_ HW_ => ?_)
                          generalize w56.drew = w57 at HO_6 HO_7 HO280 HB hx286_0 hx287_0 hHeld ⊢
                          refine pure_ (i := 0) (N := some 94) (v := ?_) (a' := ?_) #[true, false, false, false, false, false, false, false, false, false, false, false, false, false, false, false, false, false] rfl rfl (any_of HT_.out (by kernel_rfl)) (fun _ _ _ h => h) (Or.inl ⟨by rfl, ?_⟩) ?_ ?_
                          rotate_left
                          ·
                           intro w'
                           go_simp
                           with_reducible rfl
                          rotate_left
                          ·
                           simp only [Act.put, List.setIfInBounds_toArray, List.set_cons_zero, List.set_cons_succ, i64_w, i32_w]
                           rfl
                          refine pure_ (i := 1) (N := some 95) (v := ?_) (a' := ?_) #[true, true, false, false, false, false, false, false, false, false, false, false, false, false, false, false, false, false] rfl rfl (any_of HT_.out (by kernel_rfl)) (fun _ _ _ h => h) (Or.inl ⟨by rfl, ?_⟩) ?_ ?_
                          rotate_left
                          ·
                           intro w'
                           go_simp
                           with_reducible rfl
                          rotate_left
                          ·
                           simp only [Act.put, List.setIfInBounds_toArray, List.set_cons_zero, List.set_cons_succ, i64_w, i32_w]
                           rfl
                          refine pure_ (i := 2) (N := some 96) (v := ?_) (a' := ?_) #[true, true, true, false, false, false, false, false, false, false, false, false, false, false, false, false, false, false] rfl rfl (any_of HT_.out (by kernel_rfl)) (fun _ _ _ h => h) (Or.inl ⟨by rfl, ?_⟩) ?_ ?_
                          rotate_left
                          ·
                           intro w'
                           go_simp
                           with_reducible rfl
                          rotate_left
                          ·
                           simp only [Act.put, List.setIfInBounds_toArray, List.set_cons_zero, List.set_cons_succ, i64_w, i32_w]
                           rfl
                          refine pure_ (i := 3) (N := some 97) (v := ?_) (a' := ?_) #[true, true, true, true, false, false, false, false, false, false, false, false, false, false, false, false, false, false] rfl rfl (any_of HT_.out (by kernel_rfl)) (fun _ _ _ h => h) (Or.inl ⟨by rfl, ?_⟩) ?_ ?_
                          rotate_left
                          ·
                           intro w'
                           go_simp
                           with_reducible rfl
                          rotate_left
                          ·
                           simp only [Act.put, List.setIfInBounds_toArray, List.set_cons_zero, List.set_cons_succ, i64_w, i32_w]
                           rfl
                          refine pure_ (i := 4) (N := some 98) (v := ?_) (a' := ?_) #[true, true, true, true, true, false, false, false, false, false, false, false, false, false, false, false, false, false] rfl rfl (any_of HT_.out (by kernel_rfl)) (fun _ _ _ h => h) (Or.inl ⟨by rfl, ?_⟩) ?_ ?_
                          rotate_left
                          ·
                           intro w'
                           go_simp
                           with_reducible rfl
                          rotate_left
                          ·
                           simp only [Act.put, List.setIfInBounds_toArray, List.set_cons_zero, List.set_cons_succ, i64_w, i32_w]
                           rfl
                          refine pure_ (i := 5) (N := some 99) (v := ?_) (a' := ?_) #[true, true, true, true, true, true, false, false, false, false, false, false, false, false, false, false, false, false] rfl rfl (any_of HT_.out (by kernel_rfl)) (fun _ _ _ h => h) (Or.inl ⟨by rfl, ?_⟩) ?_ ?_
                          rotate_left
                          ·
                           intro w'
                           go_simp
                           with_reducible rfl
                          rotate_left
                          ·
                           simp only [Act.put, List.setIfInBounds_toArray, List.set_cons_zero, List.set_cons_succ, i64_w, i32_w]
                           rfl
                          refine pure_ (i := 6) (N := some 100) (v := ?_) (a' := ?_) #[true, true, true, true, true, true, true, false, false, false, false, false, false, false, false, false, false, false] rfl rfl (any_of HT_.out (by kernel_rfl)) (fun _ _ _ h => h) (Or.inl ⟨by rfl, ?_⟩) ?_ ?_
                          rotate_left
                          ·
                           intro w'
                           go_simp
                           with_reducible rfl
                          rotate_left
                          ·
                           simp only [Act.put, List.setIfInBounds_toArray, List.set_cons_zero, List.set_cons_succ, i64_w, i32_w]
                           rfl
                          refine pure_ (i := 7) (N := some 101) (v := ?_) (a' := ?_) #[true, true, true, true, true, true, true, true, false, false, false, false, false, false, false, false, false, false] rfl rfl (any_of HT_.out (by kernel_rfl)) (fun _ _ _ h => h) (Or.inl ⟨by rfl, ?_⟩) ?_ ?_
                          rotate_left
                          ·
                           intro w'
                           go_simp
                           with_reducible rfl
                          rotate_left
                          ·
                           simp only [Act.put, List.setIfInBounds_toArray, List.set_cons_zero, List.set_cons_succ, i64_w, i32_w]
                           rfl
                          refine pure_ (i := 8) (N := some 102) (v := ?_) (a' := ?_) #[true, true, true, true, true, true, true, true, true, false, false, false, false, false, false, false, false, false] rfl rfl (any_of HT_.out (by kernel_rfl)) (fun _ _ _ h => h) (Or.inl ⟨by rfl, ?_⟩) ?_ ?_
                          rotate_left
                          ·
                           intro w'
                           go_simp
                           with_reducible rfl
                          rotate_left
                          ·
                           simp only [Act.put, List.setIfInBounds_toArray, List.set_cons_zero, List.set_cons_succ, i64_w, i32_w]
                           rfl
                          refine pure_ (i := 9) (N := some 103) (v := ?_) (a' := ?_) #[true, true, true, true, true, true, true, true, true, true, false, false, false, false, false, false, false, false] rfl rfl (any_of HT_.out (by kernel_rfl)) (fun _ _ _ h => h) (Or.inl ⟨by rfl, ?_⟩) ?_ ?_
                          rotate_left
                          ·
                           intro w'
                           go_simp
                           with_reducible rfl
                          rotate_left
                          ·
                           simp only [Act.put, List.setIfInBounds_toArray, List.set_cons_zero, List.set_cons_succ, i64_w, i32_w]
                           rfl
                          refine pure_ (i := 11) (N := some 105) (v := ?_) (a' := ?_) #[true, true, true, true, true, true, true, true, true, true, false, true, false, false, false, false, false, false] rfl rfl (any_of HT_.out (by kernel_rfl)) (fun _ _ _ h => h) (Or.inl ⟨by rfl, ?_⟩) ?_ ?_
                          rotate_left
                          ·
                           intro w'
                           go_simp
                           with_reducible rfl
                          rotate_left
                          ·
                           simp only [Act.put, List.setIfInBounds_toArray, List.set_cons_zero, List.set_cons_succ, i64_w, i32_w]
                           rfl
                          refine pure_ (i := 12) (N := some 106) (v := ?_) (a' := ?_) #[true, true, true, true, true, true, true, true, true, true, false, true, true, false, false, false, false, false] rfl rfl (any_of HT_.out (by kernel_rfl)) (fun _ _ _ h => h) (Or.inl ⟨by rfl, ?_⟩) ?_ ?_
                          rotate_left
                          ·
                           intro w'
                           go_simp
                           with_reducible rfl
                          rotate_left
                          ·
                           simp only [Act.put, List.setIfInBounds_toArray, List.set_cons_zero, List.set_cons_succ, i64_w, i32_w]
                           rfl
                          refine pure_ (i := 13) (N := some 107) (v := ?_) (a' := ?_) #[true, true, true, true, true, true, true, true, true, true, false, true, true, true, false, false, false, false] rfl rfl (any_of HT_.out (by kernel_rfl)) (fun _ _ _ h => h) (Or.inl ⟨by rfl, ?_⟩) ?_ ?_
                          rotate_left
                          ·
                           intro w'
                           go_simp
                           with_reducible rfl
                          rotate_left
                          ·
                           simp only [Act.put, List.setIfInBounds_toArray, List.set_cons_zero, List.set_cons_succ, i64_w, i32_w]
                           rfl
                          refine take_ (i := 10) (N := some 104) (v := ?_) (a' := ?_) #[true, true, true, true, true, true, true, true, true, true, true, true, true, true, false, false, false, false] rfl rfl (take_ofW HT_.out HW_.out (by kernel_rfl)) (fun _ _ _ h => h) (Or.inl ⟨by rfl, ?_⟩) hHeld ?_ ?_
                          rotate_left
                          ·
                           rintro w' ⟨s0, s1⟩
                           go_simp
                           with_reducible rfl
                          rotate_left
                          ·
                           simp only [Act.put, List.setIfInBounds_toArray, List.set_cons_zero, List.set_cons_succ, i64_w, i32_w]
                           rfl
                          refine take_ (i := 14) (N := some 108) (v := ?_) (a' := ?_) #[true, true, true, true, true, true, true, true, true, true, true, true, true, true, true, false, false, false] rfl rfl (take_ofW HT_.out HW_.out (by kernel_rfl)) (fun _ _ _ h => h) (Or.inl ⟨by rfl, ?_⟩) hHeld ?_ ?_
                          rotate_left
                          ·
                           rintro w' ⟨s0, s1⟩
                           go_simp
                           with_reducible rfl
                          rotate_left
                          ·
                           simp only [Act.put, List.setIfInBounds_toArray, List.set_cons_zero, List.set_cons_succ, i64_w, i32_w]
                           rfl
                          refine pure_ (i := 15) (N := some 109) (v := ?_) (a' := ?_) #[true, true, true, true, true, true, true, true, true, true, true, true, true, true, true, true, false, false] rfl rfl (any_of HT_.out (by kernel_rfl)) (fun _ _ _ h => h) (Or.inl ⟨by rfl, ?_⟩) ?_ ?_
                          rotate_left
                          ·
                           intro w'
                           go_simp
                           with_reducible rfl
                          rotate_left
                          ·
                           simp only [Act.put, List.setIfInBounds_toArray, List.set_cons_zero, List.set_cons_succ, i64_w, i32_w]
                           rfl
                          refine pure_ (i := 16) (N := some 110) (v := ?_) (a' := ?_) #[true, true, true, true, true, true, true, true, true, true, true, true, true, true, true, true, true, false] rfl rfl (any_of HT_.out (by kernel_rfl)) (fun _ _ _ h => h) (Or.inl ⟨by rfl, ?_⟩) ?_ ?_
                          rotate_left
                          ·
                           intro w'
                           go_simp
                           with_reducible rfl
                          rotate_left
                          ·
                           simp only [Act.put, List.setIfInBounds_toArray, List.set_cons_zero, List.set_cons_succ, i64_w, i32_w]
                           rfl
                          refine pure_ (i := 17) (N := some 111) (v := ?_) (a' := ?_) #[true, true, true, true, true, true, true, true, true, true, true, true, true, true, true, true, true, true] rfl rfl (any_of HT_.out (by kernel_rfl)) (fun _ _ _ h => h) (Or.inl ⟨by rfl, ?_⟩) ?_ ?_
                          rotate_left
                          ·
                           intro w'
                           go_simp
                           with_reducible rfl
                          rotate_left
                          ·
                           simp only [Act.put, List.setIfInBounds_toArray, List.set_cons_zero, List.set_cons_succ, i64_w, i32_w]
                           rfl
                          refine done_ (done_of HT_.out (by kernel_rfl)) ?_
                          try go_wp2
                          go_ret
                          exact ⟨by exact ph18, by exact ph2⟩
                         ·
                          rw [if_neg c51] at H
                          have c51b0 : decide ((rd t261 x9_1) < (rd t261 (ji37))) = false := decide_eq_false c51
                          clear c51
                          have H' := Aside0.mk H
                          clear H
                          have p274 : 0 ≤ (x9_1 : Int) := of_decide_eq_true (by exact ph1)
                          have q274 : x9_1 < (t261.length : Int) := of_decide_eq_true (by exact ph1)
                          obtain ⟨ad274, e274, hx274_0⟩ := Kd.at_int (Kd.R_reads' HO_6.out).2.2 x9_1 p274 q274
                          cases e274
                          replace p274 := eq_true p274
                          replace q274 := eq_true q274
                          have p33 : 0 ≤ ((rd t261 x9_1) : Int) := of_decide_eq_true (by exact ph1)
                          have q33 : ((rd t261 x9_1) : Int) < ((x7_1.length : Int) : Int) := of_decide_eq_true (by exact ph1)
                          obtain ⟨go33, co33, eo33, gb33, gl33, cl33, HG33⟩ := Kd.R_form HO_7.out (by omega)
                          (first | cases eo33 | (injection eo33 with ea_ en_ ec_; (first | subst ea_ | (injection ea_ with ea_; subst ea_)); subst ec_; clear en_))
                          have GB33 := Aside0.mk gb33
                          have GG33 := Aside0.mk HG33
                          clear gb33 gl33 HG33
                          obtain ⟨hx33_0, hf33_0⟩ := Kd.R_celln false HO_7.out ((rd t261 x9_1) : Int) p33 q33
                          replace p33 := eq_true p33
                          replace q33 := eq_true q33
                          have HP58 := Kd.R_putg HO_7.out ((rd t261 x9_1) : Int) true
                          try go_wp2_with (first | ((with_reducible refine gate_store (t := 4) (p := 65) rfl ?_); refine store_event (t := 4) (p := 65) (v := ?vo_w59) (w1 := (wc.setCell ⟨go33, ((rd t261 x9_1) : Int).toNat, none⟩ (.bool true))) ?hg ?ho ?hn ?hr ?_; (case ho => rfl); (case hg => rfl); (case hn => rfl); (case hr => first | (go_simp; done) | (go_simp; rfl)); intro w59 hw; have hg : wc.grownBy w59 (some go33) := (by rw [hw]; exact HP58.2); have hp_ : Kd.R Kd.bool 4 w59 w.heap.size (fun _ => True) (.slice (some ⟨go33, 0, none⟩) x7_1.length co33) y275 := (by rw [hw, Ny275.out]; exact HP58.1); clear HP58; have n0_ := Aside0.mk (Kd.R_over' (v := (.slice (some ⟨go33, 0, none⟩) x7_1.length co33)) (by exact ph3) (Kd.R_typed HO_7.out) (by decide) hg); have n1_ := Aside0.mk (hp_); have n2_ := Aside0.mk (Kd.R_over' (v := (.slice (some ⟨go33, 0, none⟩) x7_1.length co33)) (by exact ph4) (Kd.R_typed HO_7.out) (by decide) hg); have n3_ := Aside0.mk ((by rw [hw]; exact below_set (HB.out) GB33.out : Below w.heap.size w w59)); clear HO_6; clear HO_7; clear HO_8; clear HB; have HO_6 := n0_; have HO_7 := n1_; have HO_8 := n2_; have HB := n3_; clear n0_ n1_ n2_ n3_; clear hg hw hp_; have p276 : 0 ≤ (x9_1 : Int) := of_decide_eq_true (by exact ph1); have q276 : x9_1 < (t261.length : Int) := of_decide_eq_true (by exact ph1); obtain ⟨ad276, e276, hx276_0⟩ := Kd.at_int (Kd.R_reads' HO_6.out).2.2 x9_1 p276 q276; obtain rfl : ad274 = ad276 := (by injection e276); replace p276 := eq_true p276; replace q276 := eq_true q276; have p277 : 0 ≤ ((rd t261 x9_1) : Int) := of_decide_eq_true (by exact ph1); have q277 : (rd t261 x9_1) < (l0.length : Int) := of_decide_eq_true (by exact ph1); obtain ⟨ad277, e277, hx277_0, hx277_1, hx277_2⟩ := at_T29 HR0.out (rd t261 x9_1) p277 q277; cases e277; replace hx277_0 := (HB.out.cell (World.block_lt_of_cell? w _ hx277_0)).trans hx277_0; replace hx277_1 := (HB.out.cell (World.block_lt_of_cell? w _ hx277_1)).trans hx277_1; replace hx277_2 := (HB.out.cell (World.block_lt_of_cell? w _ hx277_2)).trans hx277_2; replace p277 := eq_true p277; replace q277 := eq_true q277) | ((with_reducible refine gate_builtin (b := .append) (xs := #[.tmp 66, .tmp 74]) rfl ?_); (try (refine gate_guard (by rfl) ?_; dsimp only)); at_builtin; refine Kd.R_append k29 (w0 := w) w.heap.size rfl (.tmp 66) (.tmp 74) 36 29 (.agg #[(.int .i64 0), (.int .u64 0), (.string ⟨#[]⟩)]) 32 rfl Tryz.underlying36 info29 rfl (by decide) (by omega) u8 x8_1 (⟨(rd_T29 l0 (rd t261 x9_1)).f0, (rd_T29 l0 (rd t261 x9_1)).f1, (rd_T29 l0 (rd t261 x9_1)).f2⟩ : S29) [.int .i64 ((rd_T29 l0 (rd t261 x9_1)).f0), .int .u64 ((rd_T29 l0 (rd t261 x9_1)).f1), .string ((rd_T29 l0 (rd t261 x9_1)).f2)] (fun _ => True) (fun _ => False) rfl rfl ?aP (fun _ hk => hk.elim) ?aF ?aO ?aB ?aS ?aL ?_; (case aP => exact k29_mkM _ _ _ (⟨(rd_T29 l0 (rd t261 x9_1)).f0, (rd_T29 l0 (rd t261 x9_1)).f1, (rd_T29 l0 (rd t261 x9_1)).f2⟩ : S29)); (case aB => exact (by exact ph2)); (case aF => exact (fun _ _ => trivial)); (case aO => exact (by exact ph4)); (case aS => exact (below_size (by exact ph2))); (case aL => have := LMc35.out; omega); intro v279 w60 ho hb hg hat; rw [← Ny278.out] at ho; have n0_ := Aside0.mk (Kd.R_over' (by exact ph3) (Kd.R_typed (by exact ph4)) (by decide) hg); have n1_ := Aside0.mk (Kd.R_over' (by exact ph5) (Kd.R_typed (by exact ph4)) (by decide) hg); have n2_ := Aside0.mk (hb); have n3_ := Aside0.mk (ho); clear HO_6; clear HO_7; clear HB; clear HO_8; have HO_6 := n0_; have HO_7 := n1_; have HB := n2_; have HO280 := n3_; clear n0_ n1_ n2_ n3_; clear ho hb hg hat))
                          have n0_ := Aside0.mk (Kd.R_drew HO_6.out)
                          have n1_ := Aside0.mk (Kd.R_drew HO_7.out)
                          have n2_ := Aside0.mk (Kd.R_drew HO280.out)
                          have n3_ := Aside0.mk (below_drew1 HB.out)
                          clear HO_6
                          clear HO_7
                          clear HO280
                          clear HB
                          have HO_6 := n0_
                          have HO_7 := n1_
                          have HO280 := n2_
                          have HB := n3_
                          clear n0_ n1_ n2_ n3_
                          have p281 : 0 ≤ ((ji37) : Int) := of_decide_eq_true (by exact ph1)
                          have q281 : (ji37) < (t261.length : Int) := of_decide_eq_true (by exact ph1)
                          obtain ⟨ad281, e281, hx281_0⟩ := Kd.at_int (Kd.R_reads' HO_6.out).2.2 (ji37) p281 q281
                          obtain rfl : ad274 = ad281 := (by injection e281)
                          replace p281 := eq_true p281
                          replace q281 := eq_true q281
                          have p282 : 0 ≤ ((rd t261 (ji37)) : Int) := of_decide_eq_true (by exact ph1)
                          have q282 : (rd t261 (ji37)) < (l0.length : Int) := of_decide_eq_true (by exact ph1)
                          obtain ⟨ad282, e282, hx282_0, hx282_1, hx282_2⟩ := at_T29 HR0.out (rd t261 (ji37)) p282 q282
                          have hw282_2 := hx282_2
                          have hw282_1 := hx282_1
                          have hw282_0 := hx282_0
                          obtain rfl : ad277 = ad282 := (by injection e282)
                          replace hx282_0 := (HB.out.cell (World.block_lt_of_cell? w _ hx282_0)).trans hx282_0
                          replace hx282_1 := (HB.out.cell (World.block_lt_of_cell? w _ hx282_1)).trans hx282_1
                          replace hx282_2 := (HB.out.cell (World.block_lt_of_cell? w _ hx282_2)).trans hx282_2
                          replace p282 := eq_true p282
                          replace q282 := eq_true q282
                          have p283 : 0 ≤ (x9_1 : Int) := of_decide_eq_true (by exact ph1)
                          have q283 : x9_1 < (t261.length : Int) := of_decide_eq_true (by exact ph1)
                          obtain ⟨ad283, e283, hx283_0⟩ := Kd.at_int (Kd.R_reads' HO_6.out).2.2 x9_1 p283 q283
                          obtain rfl : ad274 = ad283 := (by injection e283)
                          replace p283 := eq_true p283
                          replace q283 := eq_true q283
                          have p284 : 0 ≤ ((rd t261 x9_1) : Int) := of_decide_eq_true (by exact ph1)
                          have q284 : (rd t261 x9_1) < (l0.length : Int) := of_decide_eq_true (by exact ph1)
                          obtain ⟨ad284, e284, hx284_0, hx284_1, hx284_2⟩ := at_T29 HR0.out (rd t261 x9_1) p284 q284
                          have hw284_2 := hx284_2
                          have hw284_1 := hx284_1
                          have hw284_0 := hx284_0
                          obtain rfl : ad277 = ad284 := (by injection e284)
                          replace hx284_0 := (HB.out.cell (World.block_lt_of_cell? w _ hx284_0)).trans hx284_0
                          replace hx284_1 := (HB.out.cell (World.block_lt_of_cell? w _ hx284_1)).trans hx284_1
                          replace hx284_2 := (HB.out.cell (World.block_lt_of_cell? w _ hx284_2)).trans hx284_2
                          replace p284 := eq_true p284
                          replace q284 := eq_true q284
                          refine start_ (n := 17) (S := fun w' => w'.cell? (ad274.add ((ji37)).toNat) = some (.int .i64 (rd t261 (ji37))) ∧ w'.cell? (ad277.add (((rd t261 (ji37))).toNat * 3)) = some (.int .i64 ((rd_T29 l0 (rd t261 (ji37))).f0)) ∧ w'.cell? ⟨(ad277.add (((rd t261 (ji37))).toNat * 3)).block, (ad277.add (((rd t261 (ji37))).toNat * 3)).off + 1, none⟩ = some (.int .u64 ((rd_T29 l0 (rd t261 (ji37))).f1)) ∧ w'.cell? ⟨(ad277.add (((rd t261 (ji37))).toNat * 3)).block, (ad277.add (((rd t261 (ji37))).toNat * 3)).off + 2, none⟩ = some (.string ((rd_T29 l0 (rd t261 (ji37))).f2)) ∧ w'.cell? (ad274.add (x9_1).toNat) = some (.int .i64 (rd t261 x9_1)) ∧ w'.cell? (ad277.add (((rd t261 x9_1)).toNat * 3)) = some (.int .i64 ((rd_T29 l0 (rd t261 x9_1)).f0)) ∧ w'.cell? ⟨(ad277.add (((rd t261 x9_1)).toNat * 3)).block, (ad277.add (((rd t261 x9_1)).toNat * 3)).off + 1, none⟩ = some (.int .u64 ((rd_T29 l0 (rd t261 x9_1)).f1)) ∧ w'.cell? ⟨(ad277.add (((rd t261 x9_1)).toNat * 3)).block, (ad277.add (((rd t261 x9_1)).toNat * 3)).off + 2, none⟩ = some (.string ((rd_T29 l0 (rd t261 x9_1)).f2))) (ds := []) #[false, false, false, false, false, false, false, false, false, false, false, false, false, false, false, false, false] (by kernel_rfl) rfl rfl ⟨hx281_0, ((HB.out.cell (World.block_lt_of_cell? w _ hw282_0)).trans hw282_0), ((HB.out.cell (World.block_lt_of_cell? w _ hw282_1)).trans hw282_1), ((HB.out.cell (World.block_lt_of_cell? w _ hw282_2)).trans hw282_2), hx283_0, ((HB.out.cell (World.block_lt_of_cell? w _ hw284_0)).trans hw284_0), ((HB.out.cell (World.block_lt_of_cell? w _ hw284_1)).trans hw284_1), ((HB.out.cell (World.block_lt_of_cell? w _ hw284_2)).trans hw284_2)⟩ (fun hHeld => ?_); refine with_tabW abacuslaw18_RelateSorted.tab17 abacuslaw18_RelateSorted.bits17 (fun HT_ HW_ => ?_)
                          generalize w60.drew = w61 at HO_6 HO_7 HO280 HB hx281_0 hx282_0 hx282_1 hx282_2 hx283_0 hx284_0 hx284_1 hx284_2 hHeld ⊢
                          refine pure_ (i := 0) (N := some 78) (v := ?_) (a' := ?_) #[true, false, false, false, false, false, false, false, false, false, false, false, false, false, false, false, false] rfl rfl (any_of HT_.out (by kernel_rfl)) (fun _ _ _ h => h) (Or.inl ⟨by rfl, ?_⟩) ?_ ?_
                          rotate_left
                          ·
                           intro w'
                           go_simp
                           with_reducible rfl
                          rotate_left
                          ·
                           simp only [Act.put, List.setIfInBounds_toArray, List.set_cons_zero, List.set_cons_succ, i64_w, i32_w]
                           rfl
                          refine pure_ (i := 1) (N := some 79) (v := ?_) (a' := ?_) #[true, true, false, false, false, false, false, false, false, false, false, false, false, false, false, false, false] rfl rfl (any_of HT_.out (by kernel_rfl)) (fun _ _ _ h => h) (Or.inl ⟨by rfl, ?_⟩) ?_ ?_
                          rotate_left
                          ·
                           intro w'
                           go_simp
                           with_reducible rfl
                          rotate_left
                          ·
                           simp only [Act.put, List.setIfInBounds_toArray, List.set_cons_zero, List.set_cons_succ, i64_w, i32_w]
                           rfl
                          refine pure_ (i := 2) (N := some 80) (v := ?_) (a' := ?_) #[true, true, true, false, false, false, false, false, false, false, false, false, false, false, false, false, false] rfl rfl (any_of HT_.out (by kernel_rfl)) (fun _ _ _ h => h) (Or.inl ⟨by rfl, ?_⟩) ?_ ?_
                          rotate_left
                          ·
                           intro w'
                           go_simp
                           with_reducible rfl
                          rotate_left
                          ·
                           simp only [Act.put, List.setIfInBounds_toArray, List.set_cons_zero, List.set_cons_succ, i64_w, i32_w]
                           rfl
                          refine pure_ (i := 3) (N := some 81) (v := ?_) (a' := ?_) #[true, true, true, true, false, false, false, false, false, false, false, false, false, false, false, false, false] rfl rfl (any_of HT_.out (by kernel_rfl)) (fun _ _ _ h => h) (Or.inl ⟨by rfl, ?_⟩) ?_ ?_
                          rotate_left
                          ·
                           intro w'
                           go_simp
                           with_reducible rfl
                          rotate_left
                          ·
                           simp only [Act.put, List.setIfInBounds_toArray, List.set_cons_zero, List.set_cons_succ, i64_w, i32_w]
                           rfl
                          refine pure_ (i := 4) (N := some 82) (v := ?_) (a' := ?_) #[true, true, true, true, true, false, false, false, false, false, false, false, false, false, false, false, false] rfl rfl (any_of HT_.out (by kernel_rfl)) (fun _ _ _ h => h) (Or.inl ⟨by rfl, ?_⟩) ?_ ?_
                          rotate_left
                          ·
                           intro w'
                           go_simp
                           with_reducible rfl
                          rotate_left
                          ·
                           simp only [Act.put, List.setIfInBounds_toArray, List.set_cons_zero, List.set_cons_succ, i64_w, i32_w]
                           rfl
                          refine pure_ (i := 8) (N := some 86) (v := ?_) (a' := ?_) #[true, true, true, true, true, false, false, false, true, false, false, false, false, false, false, false, false] rfl rfl (any_of HT_.out (by kernel_rfl)) (fun _ _ _ h => h) (Or.inl ⟨by rfl, ?_⟩) ?_ ?_
                          rotate_left
                          ·
                           intro w'
                           go_simp
                           with_reducible rfl
                          rotate_left
                          ·
                           simp only [Act.put, List.setIfInBounds_toArray, List.set_cons_zero, List.set_cons_succ, i64_w, i32_w]
                           rfl
                          refine pure_ (i := 9) (N := some 87) (v := ?_) (a' := ?_) #[true, true, true, true, true, false, false, false, true, true, false, false, false, false, false, false, false] rfl rfl (any_of HT_.out (by kernel_rfl)) (fun _ _ _ h => h) (Or.inl ⟨by rfl, ?_⟩) ?_ ?_
                          rotate_left
                          ·
                           intro w'
                           go_simp
                           with_reducible rfl
                          rotate_left
                          ·
                           simp only [Act.put, List.setIfInBounds_toArray, List.set_cons_zero, List.set_cons_succ, i64_w, i32_w]
                           rfl
                          refine pure_ (i := 10) (N := some 88) (v := ?_) (a' := ?_) #[true, true, true, true, true, false, false, false, true, true, true, false, false, false, false, false, false] rfl rfl (any_of HT_.out (by kernel_rfl)) (fun _ _ _ h => h) (Or.inl ⟨by rfl, ?_⟩) ?_ ?_
                          rotate_left
                          ·
                           intro w'
                           go_simp
                           with_reducible rfl
                          rotate_left
                          ·
                           simp only [Act.put, List.setIfInBounds_toArray, List.set_cons_zero, List.set_cons_succ, i64_w, i32_w]
                           rfl
                          refine pure_ (i := 11) (N := some 89) (v := ?_) (a' := ?_) #[true, true, true, true, true, false, false, false, true, true, true, true, false, false, false, false, false] rfl rfl (any_of HT_.out (by kernel_rfl)) (fun _ _ _ h => h) (Or.inl ⟨by rfl, ?_⟩) ?_ ?_
                          rotate_left
                          ·
                           intro w'
                           go_simp
                           with_reducible rfl
                          rotate_left
                          ·
                           simp only [Act.put, List.setIfInBounds_toArray, List.set_cons_zero, List.set_cons_succ, i64_w, i32_w]
                           rfl
                          refine take_ (i := 5) (N := some 83) (v := ?_) (a' := ?_) #[true, true, true, true, true, true, false, false, true, true, true, true, false, false, false, false, false] rfl rfl (take_ofW HT_.out HW_.out (by kernel_rfl)) (fun _ _ _ h => h) (Or.inl ⟨by rfl, ?_⟩) hHeld ?_ ?_
                          rotate_left
                          ·
                           rintro w' ⟨s0, s1, s2, s3, s4, s5, s6, s7⟩
                           go_simp
                           with_reducible rfl
                          rotate_left
                          ·
                           simp only [Act.put, List.setIfInBounds_toArray, List.set_cons_zero, List.set_cons_succ, i64_w, i32_w]
                           rfl
                          refine pure_ (i := 6) (N := some 84) (v := ?_) (a' := ?_) #[true, true, true, true, true, true, true, false, true, true, true, true, false, false, false, false, false] rfl rfl (any_of HT_.out (by kernel_rfl)) (fun _ _ _ h => h) (Or.inl ⟨by rfl, ?_⟩) ?_ ?_
                          rotate_left
                          ·
                           intro w'
                           go_simp
                           with_reducible rfl
                          rotate_left
                          ·
                           simp only [Act.put, List.setIfInBounds_toArray, List.set_cons_zero, List.set_cons_succ, i64_w, i32_w]
                           rfl
                          refine take_ (i := 7) (N := some 85) (v := ?_) (a' := ?_) #[true, true, true, true, true, true, true, true, true, true, true, true, false, false, false, false, false] rfl rfl (take_ofW HT_.out HW_.out (by kernel_rfl)) (fun _ _ _ h => h) (Or.inl ⟨by rfl, ?_⟩) hHeld ?_ ?_
                          rotate_left
                          ·
                           rintro w' ⟨s0, s1, s2, s3, s4, s5, s6, s7⟩
                           go_simp
                           with_reducible rfl
                          rotate_left
                          ·
                           simp only [Act.put, List.setIfInBounds_toArray, List.set_cons_zero, List.set_cons_succ, i64_w, i32_w]
                           rfl
                          refine take_ (i := 12) (N := some 90) (v := ?_) (a' := ?_) #[true, true, true, true, true, true, true, true, true, true, true, true, true, false, false, false, false] rfl rfl (take_ofW HT_.out HW_.out (by kernel_rfl)) (fun _ _ _ h => h) (Or.inl ⟨by rfl, ?_⟩) hHeld ?_ ?_
                          rotate_left
                          ·
                           rintro w' ⟨s0, s1, s2, s3, s4, s5, s6, s7⟩
                           go_simp
                           with_reducible rfl
                          rotate_left
                          ·
                           simp only [Act.put, List.setIfInBounds_toArray, List.set_cons_zero, List.set_cons_succ, i64_w, i32_w]
                           rfl
                          refine pure_ (i := 13) (N := some 91) (v := ?_) (a' := ?_) #[true, true, true, true, true, true, true, true, true, true, true, true, true, true, false, false, false] rfl rfl (any_of HT_.out (by kernel_rfl)) (fun _ _ _ h => h) (Or.inl ⟨by rfl, ?_⟩) ?_ ?_
                          rotate_left
                          ·
                           intro w'
                           go_simp
                           with_reducible rfl
                          rotate_left
                          ·
                           simp only [Act.put, List.setIfInBounds_toArray, List.set_cons_zero, List.set_cons_succ, i64_w, i32_w]
                           rfl
                          refine take_ (i := 14) (N := some 92) (v := ?_) (a' := ?_) #[true, true, true, true, true, true, true, true, true, true, true, true, true, true, true, false, false] rfl rfl (take_ofW HT_.out HW_.out (by kernel_rfl)) (fun _ _ _ h => h) (Or.inl ⟨by rfl, ?_⟩) hHeld ?_ ?_
                          rotate_left
                          ·
                           rintro w' ⟨s0, s1, s2, s3, s4, s5, s6, s7⟩
                           go_simp
                           with_reducible rfl
                          rotate_left
                          ·
                           simp only [Act.put, List.setIfInBounds_toArray, List.set_cons_zero, List.set_cons_succ, i64_w, i32_w]
                           rfl
                          refine one_ (i := 15) (N := some 93) #[true, true, true, true, true, true, true, true, true, true, true, true, true, true, true, true, false] rfl rfl (one_of HT_.out (by kernel_rfl)) (by decide) (fun K hK => ?_)
                          refine goes_ Tryz.func19 (by kernel_rfl) rfl #[.agg #[.int .i64 ((rd_T29 l0 (rd t261 (ji37))).f0), .int .u64 ((rd_T29 l0 (rd t261 (ji37))).f1), .string ((rd_T29 l0 (rd t261 (ji37))).f2)], .agg #[.int .i64 ((rd_T29 l0 (rd t261 x9_1)).f0), .int .u64 ((rd_T29 l0 (rd t261 x9_1)).f1), .string ((rd_T29 l0 (rd t261 x9_1)).f2)]] (by rfl) rfl rfl (by exact ph11) ?_
                          with_reducible refine (relate_Order.calls kj20 ((rd_T29 l0 (rd t261 (ji37))).f0) ((rd_T29 l0 (rd t261 (ji37))).f1) ((rd_T29 l0 (rd t261 (ji37))).f2) ((rd_T29 l0 (rd t261 x9_1)).f0) ((rd_T29 l0 (rd t261 x9_1)).f1) ((rd_T29 l0 (rd t261 x9_1)).f2) t285 _ A42.out).mono ?_
                          rintro e w62 ⟨rfl, hb⟩
                          have HS0_ := (hb.cell (World.block_lt_of_cell? _ _ (hHeld.1))).trans (hHeld.1)
                          have HS4_ := (hb.cell (World.block_lt_of_cell? _ _ (hHeld.2.2.2.2.1))).trans (hHeld.2.2.2.2.1)
                          refine ⟨_, rfl, ?_⟩
                          have n0_ := Aside0.mk (Kd.R_below (by exact ph3) hb)
                          have n1_ := Aside0.mk (Kd.R_below (by exact ph5) hb)
                          have n2_ := Aside0.mk (Kd.R_below (by exact ph8) hb)
                          have n3_ := Aside0.mk (below_step (by exact ph2) hb)
                          clear HO_6
                          clear HO_7
                          clear HO280
                          clear HB
                          have HO_6 := n0_
                          have HO_7 := n1_
                          have HO280 := n2_
                          have HB := n3_
                          clear n0_ n1_ n2_ n3_
                          (try clear hb)
                          (try clear hb2)
                          (try clear hk)
                          (try clear hi)
                          refine hK.out _ _ ⟨HS0_, ((HB.out.cell (World.block_lt_of_cell? w _ hw282_0)).trans hw282_0), ((HB.out.cell (World.block_lt_of_cell? w _ hw282_1)).trans hw282_1), ((HB.out.cell (World.block_lt_of_cell? w _ hw282_2)).trans hw282_2), HS4_, ((HB.out.cell (World.block_lt_of_cell? w _ hw284_0)).trans hw284_0), ((HB.out.cell (World.block_lt_of_cell? w _ hw284_1)).trans hw284_1), ((HB.out.cell (World.block_lt_of_cell? w _ hw284_2)).trans hw284_2)⟩ (fun hHeld => ?_)
                          clear hK K
                          refine norm_ (a' := ?_) ?_ ?_
                          rotate_left
                          ·
                           show Act.put _ (some 93) _ = _
                           simp only [Act.put, List.setIfInBounds_toArray, List.set_cons_zero, List.set_cons_succ, i64_w, i32_w]
                           rfl
                          refine pure_ (i := 16) (N := some 10) (v := ?_) (a' := ?_) #[true, true, true, true, true, true, true, true, true, true, true, true, true, true, true, true, true] rfl rfl (any_of HT_.out (by kernel_rfl)) (fun _ _ _ h => h) (Or.inl ⟨by rfl, ?_⟩) ?_ ?_
                          rotate_left
                          ·
                           intro w'
                           go_simp
                           with_reducible rfl
                          rotate_left
                          ·
                           simp only [Act.put, List.setIfInBounds_toArray, List.set_cons_zero, List.set_cons_succ, i64_w, i32_w]
                           rfl
                          refine done_ (done_of HT_.out (by kernel_rfl)) ?_
                          try go_wp2
                          have n0_ := Aside0.mk (Kd.R_drew HO_6.out)
                          have n1_ := Aside0.mk (Kd.R_drew HO_7.out)
                          have n2_ := Aside0.mk (Kd.R_drew HO280.out)
                          have n3_ := Aside0.mk (below_drew1 HB.out)
                          clear HO_6
                          clear HO_7
                          clear HO280
                          clear HB
                          have HO_6 := n0_
                          have HO_7 := n1_
                          have HO280 := n2_
                          have HB := n3_
                          clear n0_ n1_ n2_ n3_
                          have p286 : 0 ≤ ((ji37) : Int) := of_decide_eq_true (by exact ph1)
                          have q286 : (ji37) < (t261.length : Int) := of_decide_eq_true (by exact ph1)
                          obtain ⟨ad286, e286, hx286_0⟩ := Kd.at_int (Kd.R_reads' HO_6.out).2.2 (ji37) p286 q286
                          obtain rfl : ad274 = ad286 := (by injection e286)
                          replace p286 := eq_true p286
                          replace q286 := eq_true q286
                          have p287 : 0 ≤ (x9_1 : Int) := of_decide_eq_true (by exact ph1)
                          have q287 : x9_1 < (t261.length : Int) := of_decide_eq_true (by exact ph1)
                          obtain ⟨ad287, e287, hx287_0⟩ := Kd.at_int (Kd.R_reads' HO_6.out).2.2 x9_1 p287 q287
                          obtain rfl : ad274 = ad287 := (by injection e287)
                          replace p287 := eq_true p287
                          replace q287 := eq_true q287
                          refine start_ (n := 18) (S := fun w' => w'.cell? (ad274.add ((ji37)).toNat) = some (.int .i64 (rd t261 (ji37))) ∧ w'.cell? (ad274.add (x9_1).toNat) = some (.int .i64 (rd t261 x9_1))) (ds := []) #[false, false, false, false, false, false, false, false, false, false, false, false, false, false, false, false, false, false] (by kernel_rfl) rfl rfl ⟨hx286_0, hx287_0⟩ (fun hHeld => ?_); refine with_tabW abacuslaw18_RelateSorted.tab18 abacuslaw18_RelateSorted.bits18 (fun HT_ HW_ => ?_)
                          generalize w62.drew = w63 at HO_6 HO_7 HO280 HB hx286_0 hx287_0 hHeld ⊢
                          refine pure_ (i := 0) (N := some 94) (v := ?_) (a' := ?_) #[true, false, false, false, false, false, false, false, false, false, false, false, false, false, false, false, false, false] rfl rfl (any_of HT_.out (by kernel_rfl)) (fun _ _ _ h => h) (Or.inl ⟨by rfl, ?_⟩) ?_ ?_
                          rotate_left
                          ·
                           intro w'
                           go_simp
                           with_reducible rfl
                          rotate_left
                          ·
                           simp only [Act.put, List.setIfInBounds_toArray, List.set_cons_zero, List.set_cons_succ, i64_w, i32_w]
                           rfl
                          refine pure_ (i := 1) (N := some 95) (v := ?_) (a' := ?_) #[true, true, false, false, false, false, false, false, false, false, false, false, false, false, false, false, false, false] rfl rfl (any_of HT_.out (by kernel_rfl)) (fun _ _ _ h => h) (Or.inl ⟨by rfl, ?_⟩) ?_ ?_
                          rotate_left
                          ·
                           intro w'
                           go_simp
                           with_reducible rfl
                          rotate_left
                          ·
                           simp only [Act.put, List.setIfInBounds_toArray, List.set_cons_zero, List.set_cons_succ, i64_w, i32_w]
                           rfl
                          refine pure_ (i := 2) (N := some 96) (v := ?_) (a' := ?_) #[true, true, true, false, false, false, false, false, false, false, false, false, false, false, false, false, false, false] rfl rfl (any_of HT_.out (by kernel_rfl)) (fun _ _ _ h => h) (Or.inl ⟨by rfl, ?_⟩) ?_ ?_
                          rotate_left
                          ·
                           intro w'
                           go_simp
                           with_reducible rfl
                          rotate_left
                          ·
                           simp only [Act.put, List.setIfInBounds_toArray, List.set_cons_zero, List.set_cons_succ, i64_w, i32_w]
                           rfl
                          refine pure_ (i := 3) (N := some 97) (v := ?_) (a' := ?_) #[true, true, true, true, false, false, false, false, false, false, false, false, false, false, false, false, false, false] rfl rfl (any_of HT_.out (by kernel_rfl)) (fun _ _ _ h => h) (Or.inl ⟨by rfl, ?_⟩) ?_ ?_
                          rotate_left
                          ·
                           intro w'
                           go_simp
                           with_reducible rfl
                          rotate_left
                          ·
                           simp only [Act.put, List.setIfInBounds_toArray, List.set_cons_zero, List.set_cons_succ, i64_w, i32_w]
                           rfl
                          refine pure_ (i := 4) (N := some 98) (v := ?_) (a' := ?_) #[true, true, true, true, true, false, false, false, false, false, false, false, false, false, false, false, false, false] rfl rfl (any_of HT_.out (by kernel_rfl)) (fun _ _ _ h => h) (Or.inl ⟨by rfl, ?_⟩) ?_ ?_
                          rotate_left
                          ·
                           intro w'
                           go_simp
                           with_reducible rfl
                          rotate_left
                          ·
                           simp only [Act.put, List.setIfInBounds_toArray, List.set_cons_zero, List.set_cons_succ, i64_w, i32_w]
                           rfl
                          refine pure_ (i := 5) (N := some 99) (v := ?_) (a' := ?_) #[true, true, true, true, true, true, false, false, false, false, false, false, false, false, false, false, false, false] rfl rfl (any_of HT_.out (by kernel_rfl)) (fun _ _ _ h => h) (Or.inl ⟨by rfl, ?_⟩) ?_ ?_
                          rotate_left
                          ·
                           intro w'
                           go_simp
                           with_reducible rfl
                          rotate_left
                          ·
                           simp only [Act.put, List.setIfInBounds_toArray, List.set_cons_zero, List.set_cons_succ, i64_w, i32_w]
                           rfl
                          refine pure_ (i := 6) (N := some 100) (v := ?_) (a' := ?_) #[true, true, true, true, true, true, true, false, false, false, false, false, false, false, false, false, false, false] rfl rfl (any_of HT_.out (by kernel_rfl)) (fun _ _ _ h => h) (Or.inl ⟨by rfl, ?_⟩) ?_ ?_
                          rotate_left
                          ·
                           intro w'
                           go_simp
                           with_reducible rfl
                          rotate_left
                          ·
                           simp only [Act.put, List.setIfInBounds_toArray, List.set_cons_zero, List.set_cons_succ, i64_w, i32_w]
                           rfl
                          refine pure_ (i := 7) (N := some 101) (v := ?_) (a' := ?_) #[true, true, true, true, true, true, true, true, false, false, false, false, false, false, false, false, false, false] rfl rfl (any_of HT_.out (by kernel_rfl)) (fun _ _ _ h => h) (Or.inl ⟨by rfl, ?_⟩) ?_ ?_
                          rotate_left
                          ·
                           intro w'
                           go_simp
                           with_reducible rfl
                          rotate_left
                          ·
                           simp only [Act.put, List.setIfInBounds_toArray, List.set_cons_zero, List.set_cons_succ, i64_w, i32_w]
                           rfl
                          refine pure_ (i := 8) (N := some 102) (v := ?_) (a' := ?_) #[true, true, true, true, true, true, true, true, true, false, false, false, false, false, false, false, false, false] rfl rfl (any_of HT_.out (by kernel_rfl)) (fun _ _ _ h => h) (Or.inl ⟨by rfl, ?_⟩) ?_ ?_
                          rotate_left
                          ·
                           intro w'
                           go_simp
                           with_reducible rfl
                          rotate_left
                          ·
                           simp only [Act.put, List.setIfInBounds_toArray, List.set_cons_zero, List.set_cons_succ, i64_w, i32_w]
                           rfl
                          refine pure_ (i := 9) (N := some 103) (v := ?_) (a' := ?_) #[true, true, true, true, true, true, true, true, true, true, false, false, false, false, false, false, false, false] rfl rfl (any_of HT_.out (by kernel_rfl)) (fun _ _ _ h => h) (Or.inl ⟨by rfl, ?_⟩) ?_ ?_
                          rotate_left
                          ·
                           intro w'
                           go_simp
                           with_reducible rfl
                          rotate_left
                          ·
                           simp only [Act.put, List.setIfInBounds_toArray, List.set_cons_zero, List.set_cons_succ, i64_w, i32_w]
                           rfl
                          refine pure_ (i := 11) (N := some 105) (v := ?_) (a' := ?_) #[true, true, true, true, true, true, true, true, true, true, false, true, false, false, false, false, false, false] rfl rfl (any_of HT_.out (by kernel_rfl)) (fun _ _ _ h => h) (Or.inl ⟨by rfl, ?_⟩) ?_ ?_
                          rotate_left
                          ·
                           intro w'
                           go_simp
                           with_reducible rfl
                          rotate_left
                          ·
                           simp only [Act.put, List.setIfInBounds_toArray, List.set_cons_zero, List.set_cons_succ, i64_w, i32_w]
                           rfl
                          refine pure_ (i := 12) (N := some 106) (v := ?_) (a' := ?_) #[true, true, true, true, true, true, true, true, true, true, false, true, true, false, false, false, false, false] rfl rfl (any_of HT_.out (by kernel_rfl)) (fun _ _ _ h => h) (Or.inl ⟨by rfl, ?_⟩) ?_ ?_
                          rotate_left
                          ·
                           intro w'
                           go_simp
                           with_reducible rfl
                          rotate_left
                          ·
                           simp only [Act.put, List.setIfInBounds_toArray, List.set_cons_zero, List.set_cons_succ, i64_w, i32_w]
                           rfl
                          refine pure_ (i := 13) (N := some 107) (v := ?_) (a' := ?_) #[true, true, true, true, true, true, true, true, true, true, false, true, true, true, false, false, false, false] rfl rfl (any_of HT_.out (by kernel_rfl)) (fun _ _ _ h => h) (Or.inl ⟨by rfl, ?_⟩) ?_ ?_
                          rotate_left
                          ·
                           intro w'
                           go_simp
                           with_reducible rfl
                          rotate_left
                          ·
                           simp only [Act.put, List.setIfInBounds_toArray, List.set_cons_zero, List.set_cons_succ, i64_w, i32_w]
                           rfl
                          refine take_ (i := 10) (N := some 104) (v := ?_) (a' := ?_) #[true, true, true, true, true, true, true, true, true, true, true, true, true, true, false, false, false, false] rfl rfl (take_ofW HT_.out HW_.out (by kernel_rfl)) (fun _ _ _ h => h) (Or.inl ⟨by rfl, ?_⟩) hHeld ?_ ?_
                          rotate_left
                          ·
                           rintro w' ⟨s0, s1⟩
                           go_simp
                           with_reducible rfl
                          rotate_left
                          ·
                           simp only [Act.put, List.setIfInBounds_toArray, List.set_cons_zero, List.set_cons_succ, i64_w, i32_w]
                           rfl
                          refine take_ (i := 14) (N := some 108) (v := ?_) (a' := ?_) #[true, true, true, true, true, true, true, true, true, true, true, true, true, true, true, false, false, false] rfl rfl (take_ofW HT_.out HW_.out (by kernel_rfl)) (fun _ _ _ h => h) (Or.inl ⟨by rfl, ?_⟩) hHeld ?_ ?_
                          rotate_left
                          ·
                           rintro w' ⟨s0, s1⟩
                           go_simp
                           with_reducible rfl
                          rotate_left
                          ·
                           simp only [Act.put, List.setIfInBounds_toArray, List.set_cons_zero, List.set_cons_succ, i64_w, i32_w]
                           rfl
                          refine pure_ (i := 15) (N := some 109) (v := ?_) (a' := ?_) #[true, true, true, true, true, true, true, true, true, true, true, true, true, true, true, true, false, false] rfl rfl (any_of HT_.out (by kernel_rfl)) (fun _ _ _ h => h) (Or.inl ⟨by rfl, ?_⟩) ?_ ?_
                          rotate_left
                          ·
                           intro w'
                           go_simp
                           with_reducible rfl
                          rotate_left
                          ·
                           simp only [Act.put, List.setIfInBounds_toArray, List.set_cons_zero, List.set_cons_succ, i64_w, i32_w]
                           rfl
                          refine pure_ (i := 16) (N := some 110) (v := ?_) (a' := ?_) #[true, true, true, true, true, true, true, true, true, true, true, true, true, true, true, true, true, false] rfl rfl (any_of HT_.out (by kernel_rfl)) (fun _ _ _ h => h) (Or.inl ⟨by rfl, ?_⟩) ?_ ?_
                          rotate_left
                          ·
                           intro w'
                           go_simp
                           with_reducible rfl
                          rotate_left
                          ·
                           simp only [Act.put, List.setIfInBounds_toArray, List.set_cons_zero, List.set_cons_succ, i64_w, i32_w]
                           rfl
                          refine pure_ (i := 17) (N := some 111) (v := ?_) (a' := ?_) #[true, true, true, true, true, true, true, true, true, true, true, true, true, true, true, true, true, true] rfl rfl (any_of HT_.out (by kernel_rfl)) (fun _ _ _ h => h) (Or.inl ⟨by rfl, ?_⟩) ?_ ?_
                          rotate_left
                          ·
                           intro w'
                           go_simp
                           with_reducible rfl
                          rotate_left
                          ·
                           simp only [Act.put, List.setIfInBounds_toArray, List.set_cons_zero, List.set_cons_succ, i64_w, i32_w]
                           rfl
                          refine done_ (done_of HT_.out (by kernel_rfl)) ?_
                          try go_wp2
                          (try simp only [← hji37])
                          go_roundg kj20
                          case measure => have := HK1.out; have := HJ20.out; omega
                          case rel => exact ⟨(y275), (y278), (wrap64 (x9_1 + 1)), (by exact ph6), (by first | exact H' | ((try rw [hji37]); exact H')), ⟨by have := HK1.out; have := HJ20.out; omega⟩, ⟨by exact ph3⟩, ⟨by exact ph5⟩, ⟨by exact ph8⟩, ⟨by exact ph2⟩⟩
                        ·
                         rw [if_neg c50] at H
                         have c50b0 : (t285 == 0) = false := beq_eq_false_iff_ne.mpr c50
                         have c50b1 : (t285 != 0) = true := bne_iff_ne.mpr c50
                         have H' := Aside0.mk H
                         clear H
                         have p274 : 0 ≤ (x9_1 : Int) := of_decide_eq_true (by exact ph1)
                         have q274 : x9_1 < (t261.length : Int) := of_decide_eq_true (by exact ph1)
                         obtain ⟨ad274, e274, hx274_0⟩ := Kd.at_int (Kd.R_reads' HO_6.out).2.2 x9_1 p274 q274
                         cases e274
                         replace p274 := eq_true p274
                         replace q274 := eq_true q274
                         have p33 : 0 ≤ ((rd t261 x9_1) : Int) := of_decide_eq_true (by exact ph1)
                         have q33 : ((rd t261 x9_1) : Int) < ((x7_1.length : Int) : Int) := of_decide_eq_true (by exact ph1)
                         obtain ⟨go33, co33, eo33, gb33, gl33, cl33, HG33⟩ := Kd.R_form HO_7.out (by omega)
                         (first | cases eo33 | (injection eo33 with ea_ en_ ec_; (first | subst ea_ | (injection ea_ with ea_; subst ea_)); subst ec_; clear en_))
                         have GB33 := Aside0.mk gb33
                         have GG33 := Aside0.mk HG33
                         clear gb33 gl33 HG33
                         obtain ⟨hx33_0, hf33_0⟩ := Kd.R_celln false HO_7.out ((rd t261 x9_1) : Int) p33 q33
                         replace p33 := eq_true p33
                         replace q33 := eq_true q33
                         have HP64 := Kd.R_putg HO_7.out ((rd t261 x9_1) : Int) true
                         try go_wp2_with (first | ((with_reducible refine gate_store (t := 4) (p := 65) rfl ?_); refine store_event (t := 4) (p := 65) (v := ?vo_w65) (w1 := (wc.setCell ⟨go33, ((rd t261 x9_1) : Int).toNat, none⟩ (.bool true))) ?hg ?ho ?hn ?hr ?_; (case ho => rfl); (case hg => rfl); (case hn => rfl); (case hr => first | (go_simp; done) | (go_simp; rfl)); intro w65 hw; have hg : wc.grownBy w65 (some go33) := (by rw [hw]; exact HP64.2); have hp_ : Kd.R Kd.bool 4 w65 w.heap.size (fun _ => True) (.slice (some ⟨go33, 0, none⟩) x7_1.length co33) y275 := (by rw [hw, Ny275.out]; exact HP64.1); clear HP64; have n0_ := Aside0.mk (Kd.R_over' (v := (.slice (some ⟨go33, 0, none⟩) x7_1.length co33)) (by exact ph3) (Kd.R_typed HO_7.out) (by decide) hg); have n1_ := Aside0.mk (hp_); have n2_ := Aside0.mk (Kd.R_over' (v := (.slice (some ⟨go33, 0, none⟩) x7_1.length co33)) (by exact ph4) (Kd.R_typed HO_7.out) (by decide) hg); have n3_ := Aside0.mk ((by rw [hw]; exact below_set (HB.out) GB33.out : Below w.heap.size w w65)); clear HO_6; clear HO_7; clear HO_8; clear HB; have HO_6 := n0_; have HO_7 := n1_; have HO_8 := n2_; have HB := n3_; clear n0_ n1_ n2_ n3_; clear hg hw hp_; have p276 : 0 ≤ (x9_1 : Int) := of_decide_eq_true (by exact ph1); have q276 : x9_1 < (t261.length : Int) := of_decide_eq_true (by exact ph1); obtain ⟨ad276, e276, hx276_0⟩ := Kd.at_int (Kd.R_reads' HO_6.out).2.2 x9_1 p276 q276; obtain rfl : ad274 = ad276 := (by injection e276); replace p276 := eq_true p276; replace q276 := eq_true q276; have p277 : 0 ≤ ((rd t261 x9_1) : Int) := of_decide_eq_true (by exact ph1); have q277 : (rd t261 x9_1) < (l0.length : Int) := of_decide_eq_true (by exact ph1); obtain ⟨ad277, e277, hx277_0, hx277_1, hx277_2⟩ := at_T29 HR0.out (rd t261 x9_1) p277 q277; cases e277; replace hx277_0 := (HB.out.cell (World.block_lt_of_cell? w _ hx277_0)).trans hx277_0; replace hx277_1 := (HB.out.cell (World.block_lt_of_cell? w _ hx277_1)).trans hx277_1; replace hx277_2 := (HB.out.cell (World.block_lt_of_cell? w _ hx277_2)).trans hx277_2; replace p277 := eq_true p277; replace q277 := eq_true q277) | ((with_reducible refine gate_builtin (b := .append) (xs := #[.tmp 66, .tmp 74]) rfl ?_); (try (refine gate_guard (by rfl) ?_; dsimp only)); at_builtin; refine Kd.R_append k29 (w0 := w) w.heap.size rfl (.tmp 66) (.tmp 74) 36 29 (.agg #[(.int .i64 0), (.int .u64 0), (.string ⟨#[]⟩)]) 32 rfl Tryz.underlying36 info29 rfl (by decide) (by omega) u8 x8_1 (⟨(rd_T29 l0 (rd t261 x9_1)).f0, (rd_T29 l0 (rd t261 x9_1)).f1, (rd_T29 l0 (rd t261 x9_1)).f2⟩ : S29) [.int .i64 ((rd_T29 l0 (rd t261 x9_1)).f0), .int .u64 ((rd_T29 l0 (rd t261 x9_1)).f1), .string ((rd_T29 l0 (rd t261 x9_1)).f2)] (fun _ => True) (fun _ => False) rfl rfl ?aP (fun _ hk => hk.elim) ?aF ?aO ?aB ?aS ?aL ?_; (case aP => exact k29_mkM _ _ _ (⟨(rd_T29 l0 (rd t261 x9_1)).f0, (rd_T29 l0 (rd t261 x9_1)).f1, (rd_T29 l0 (rd t261 x9_1)).f2⟩ : S29)); (case aB => exact (by exact ph2)); (case aF => exact (fun _ _ => trivial)); (case aO => exact (by exact ph4)); (case aS => exact (below_size (by exact ph2))); (case aL => have := LMc35.out; omega); intro v279 w66 ho hb hg hat; rw [← Ny278.out] at ho; have n0_ := Aside0.mk (Kd.R_over' (by exact ph3) (Kd.R_typed (by exact ph4)) (by decide) hg); have n1_ := Aside0.mk (Kd.R_over' (by exact ph5) (Kd.R_typed (by exact ph4)) (by decide) hg); have n2_ := Aside0.mk (hb); have n3_ := Aside0.mk (ho); clear HO_6; clear HO_7; clear HB; clear HO_8; have HO_6 := n0_; have HO_7 := n1_; have HB := n2_; have HO280 := n3_; clear n0_ n1_ n2_ n3_; clear ho hb hg hat))
                         have n0_ := Aside0.mk (Kd.R_drew HO_6.out)
                         have n1_ := Aside0.mk (Kd.R_drew HO_7.out)
                         have n2_ := Aside0.mk (Kd.R_drew HO280.out)
                         have n3_ := Aside0.mk (below_drew1 HB.out)
                         clear HO_6
                         clear HO_7
                         clear HO280
                         clear HB
                         have HO_6 := n0_
                         have HO_7 := n1_
                         have HO280 := n2_
                         have HB := n3_
                         clear n0_ n1_ n2_ n3_
                         have p281 : 0 ≤ ((ji37) : Int) := of_decide_eq_true (by exact ph1)
                         have q281 : (ji37) < (t261.length : Int) := of_decide_eq_true (by exact ph1)
                         obtain ⟨ad281, e281, hx281_0⟩ := Kd.at_int (Kd.R_reads' HO_6.out).2.2 (ji37) p281 q281
                         obtain rfl : ad274 = ad281 := (by injection e281)
                         replace p281 := eq_true p281
                         replace q281 := eq_true q281
                         have p282 : 0 ≤ ((rd t261 (ji37)) : Int) := of_decide_eq_true (by exact ph1)
                         have q282 : (rd t261 (ji37)) < (l0.length : Int) := of_decide_eq_true (by exact ph1)
                         obtain ⟨ad282, e282, hx282_0, hx282_1, hx282_2⟩ := at_T29 HR0.out (rd t261 (ji37)) p282 q282
                         have hw282_2 := hx282_2
                         have hw282_1 := hx282_1
                         have hw282_0 := hx282_0
                         obtain rfl : ad277 = ad282 := (by injection e282)
                         replace hx282_0 := (HB.out.cell (World.block_lt_of_cell? w _ hx282_0)).trans hx282_0
                         replace hx282_1 := (HB.out.cell (World.block_lt_of_cell? w _ hx282_1)).trans hx282_1
                         replace hx282_2 := (HB.out.cell (World.block_lt_of_cell? w _ hx282_2)).trans hx282_2
                         replace p282 := eq_true p282
                         replace q282 := eq_true q282
                         have p283 : 0 ≤ (x9_1 : Int) := of_decide_eq_true (by exact ph1)
                         have q283 : x9_1 < (t261.length : Int) := of_decide_eq_true (by exact ph1)
                         obtain ⟨ad283, e283, hx283_0⟩ := Kd.at_int (Kd.R_reads' HO_6.out).2.2 x9_1 p283 q283
                         obtain rfl : ad274 = ad283 := (by injection e283)
                         replace p283 := eq_true p283
                         replace q283 := eq_true q283
                         have p284 : 0 ≤ ((rd t261 x9_1) : Int) := of_decide_eq_true (by exact ph1)
                         have q284 : (rd t261 x9_1) < (l0.length : Int) := of_decide_eq_true (by exact ph1)
                         obtain ⟨ad284, e284, hx284_0, hx284_1, hx284_2⟩ := at_T29 HR0.out (rd t261 x9_1) p284 q284
                         have hw284_2 := hx284_2
                         have hw284_1 := hx284_1
                         have hw284_0 := hx284_0
                         obtain rfl : ad277 = ad284 := (by injection e284)
                         replace hx284_0 := (HB.out.cell (World.block_lt_of_cell? w _ hx284_0)).trans hx284_0
                         replace hx284_1 := (HB.out.cell (World.block_lt_of_cell? w _ hx284_1)).trans hx284_1
                         replace hx284_2 := (HB.out.cell (World.block_lt_of_cell? w _ hx284_2)).trans hx284_2
                         replace p284 := eq_true p284
                         replace q284 := eq_true q284
                         refine start_ (n := 17) (S := fun w' => w'.cell? (ad274.add ((ji37)).toNat) = some (.int .i64 (rd t261 (ji37))) ∧ w'.cell? (ad277.add (((rd t261 (ji37))).toNat * 3)) = some (.int .i64 ((rd_T29 l0 (rd t261 (ji37))).f0)) ∧ w'.cell? ⟨(ad277.add (((rd t261 (ji37))).toNat * 3)).block, (ad277.add (((rd t261 (ji37))).toNat * 3)).off + 1, none⟩ = some (.int .u64 ((rd_T29 l0 (rd t261 (ji37))).f1)) ∧ w'.cell? ⟨(ad277.add (((rd t261 (ji37))).toNat * 3)).block, (ad277.add (((rd t261 (ji37))).toNat * 3)).off + 2, none⟩ = some (.string ((rd_T29 l0 (rd t261 (ji37))).f2)) ∧ w'.cell? (ad274.add (x9_1).toNat) = some (.int .i64 (rd t261 x9_1)) ∧ w'.cell? (ad277.add (((rd t261 x9_1)).toNat * 3)) = some (.int .i64 ((rd_T29 l0 (rd t261 x9_1)).f0)) ∧ w'.cell? ⟨(ad277.add (((rd t261 x9_1)).toNat * 3)).block, (ad277.add (((rd t261 x9_1)).toNat * 3)).off + 1, none⟩ = some (.int .u64 ((rd_T29 l0 (rd t261 x9_1)).f1)) ∧ w'.cell? ⟨(ad277.add (((rd t261 x9_1)).toNat * 3)).block, (ad277.add (((rd t261 x9_1)).toNat * 3)).off + 2, none⟩ = some (.string ((rd_T29 l0 (rd t261 x9_1)).f2))) (ds := []) #[false, false, false, false, false, false, false, false, false, false, false, false, false, false, false, false, false] (by kernel_rfl) rfl rfl ⟨hx281_0, ((HB.out.cell (World.block_lt_of_cell? w _ hw282_0)).trans hw282_0), ((HB.out.cell (World.block_lt_of_cell? w _ hw282_1)).trans hw282_1), ((HB.out.cell (World.block_lt_of_cell? w _ hw282_2)).trans hw282_2), hx283_0, ((HB.out.cell (World.block_lt_of_cell? w _ hw284_0)).trans hw284_0), ((HB.out.cell (World.block_lt_of_cell? w _ hw284_1)).trans hw284_1), ((HB.out.cell (World.block_lt_of_cell? w _ hw284_2)).trans hw284_2)⟩ (fun hHeld => ?_); refine with_tabW abacuslaw18_RelateSorted.tab17 abacuslaw18_RelateSorted.bits17 (fun HT_ HW_ => ?_)
                         generalize w66.drew = w67 at HO_6 HO_7 HO280 HB hx281_0 hx282_0 hx282_1 hx282_2 hx283_0 hx284_0 hx284_1 hx284_2 hHeld ⊢
                         refine pure_ (i := 0) (N := some 78) (v := ?_) (a' := ?_) #[true, false, false, false, false, false, false, false, false, false, false, false, false, false, false, false, false] rfl rfl (any_of HT_.out (by kernel_rfl)) (fun _ _ _ h => h) (Or.inl ⟨by rfl, ?_⟩) ?_ ?_
                         rotate_left
                         ·
                          intro w'
                          go_simp
                          with_reducible rfl
                         rotate_left
                         ·
                          simp only [Act.put, List.setIfInBounds_toArray, List.set_cons_zero, List.set_cons_succ, i64_w, i32_w]
                          rfl
                         refine pure_ (i := 1) (N := some 79) (v := ?_) (a' := ?_) #[true, true, false, false, false, false, false, false, false, false, false, false, false, false, false, false, false] rfl rfl (any_of HT_.out (by kernel_rfl)) (fun _ _ _ h => h) (Or.inl ⟨by rfl, ?_⟩) ?_ ?_
                         rotate_left
                         ·
                          intro w'
                          go_simp
                          with_reducible rfl
                         rotate_left
                         ·
                          simp only [Act.put, List.setIfInBounds_toArray, List.set_cons_zero, List.set_cons_succ, i64_w, i32_w]
                          rfl
                         refine pure_ (i := 2) (N := some 80) (v := ?_) (a' := ?_) #[true, true, true, false, false, false, false, false, false, false, false, false, false, false, false, false, false] rfl rfl (any_of HT_.out (by kernel_rfl)) (fun _ _ _ h => h) (Or.inl ⟨by rfl, ?_⟩) ?_ ?_
                         rotate_left
                         ·
                          intro w'
                          go_simp
                          with_reducible rfl
                         rotate_left
                         ·
                          simp only [Act.put, List.setIfInBounds_toArray, List.set_cons_zero, List.set_cons_succ, i64_w, i32_w]
                          rfl
                         refine pure_ (i := 3) (N := some 81) (v := ?_) (a' := ?_) #[true, true, true, true, false, false, false, false, false, false, false, false, false, false, false, false, false] rfl rfl (any_of HT_.out (by kernel_rfl)) (fun _ _ _ h => h) (Or.inl ⟨by rfl, ?_⟩) ?_ ?_
                         rotate_left
                         ·
                          intro w'
                          go_simp
                          with_reducible rfl
                         rotate_left
                         ·
                          simp only [Act.put, List.setIfInBounds_toArray, List.set_cons_zero, List.set_cons_succ, i64_w, i32_w]
                          rfl
                         refine pure_ (i := 4) (N := some 82) (v := ?_) (a' := ?_) #[true, true, true, true, true, false, false, false, false, false, false, false, false, false, false, false, false] rfl rfl (any_of HT_.out (by kernel_rfl)) (fun _ _ _ h => h) (Or.inl ⟨by rfl, ?_⟩) ?_ ?_
                         rotate_left
                         ·
                          intro w'
                          go_simp
                          with_reducible rfl
                         rotate_left
                         ·
                          simp only [Act.put, List.setIfInBounds_toArray, List.set_cons_zero, List.set_cons_succ, i64_w, i32_w]
                          rfl
                         refine pure_ (i := 8) (N := some 86) (v := ?_) (a' := ?_) #[true, true, true, true, true, false, false, false, true, false, false, false, false, false, false, false, false] rfl rfl (any_of HT_.out (by kernel_rfl)) (fun _ _ _ h => h) (Or.inl ⟨by rfl, ?_⟩) ?_ ?_
                         rotate_left
                         ·
                          intro w'
                          go_simp
                          with_reducible rfl
                         rotate_left
                         ·
                          simp only [Act.put, List.setIfInBounds_toArray, List.set_cons_zero, List.set_cons_succ, i64_w, i32_w]
                          rfl
                         refine pure_ (i := 9) (N := some 87) (v := ?_) (a' := ?_) #[true, true, true, true, true, false, false, false, true, true, false, false, false, false, false, false, false] rfl rfl (any_of HT_.out (by kernel_rfl)) (fun _ _ _ h => h) (Or.inl ⟨by rfl, ?_⟩) ?_ ?_
                         rotate_left
                         ·
                          intro w'
                          go_simp
                          with_reducible rfl
                         rotate_left
                         ·
                          simp only [Act.put, List.setIfInBounds_toArray, List.set_cons_zero, List.set_cons_succ, i64_w, i32_w]
                          rfl
                         refine pure_ (i := 10) (N := some 88) (v := ?_) (a' := ?_) #[true, true, true, true, true, false, false, false, true, true, true, false, false, false, false, false, false] rfl rfl (any_of HT_.out (by kernel_rfl)) (fun _ _ _ h => h) (Or.inl ⟨by rfl, ?_⟩) ?_ ?_
                         rotate_left
                         ·
                          intro w'
                          go_simp
                          with_reducible rfl
                         rotate_left
                         ·
                          simp only [Act.put, List.setIfInBounds_toArray, List.set_cons_zero, List.set_cons_succ, i64_w, i32_w]
                          rfl
                         refine pure_ (i := 11) (N := some 89) (v := ?_) (a' := ?_) #[true, true, true, true, true, false, false, false, true, true, true, true, false, false, false, false, false] rfl rfl (any_of HT_.out (by kernel_rfl)) (fun _ _ _ h => h) (Or.inl ⟨by rfl, ?_⟩) ?_ ?_
                         rotate_left
                         ·
                          intro w'
                          go_simp
                          with_reducible rfl
                         rotate_left
                         ·
                          simp only [Act.put, List.setIfInBounds_toArray, List.set_cons_zero, List.set_cons_succ, i64_w, i32_w]
                          rfl
                         refine take_ (i := 5) (N := some 83) (v := ?_) (a' := ?_) #[true, true, true, true, true, true, false, false, true, true, true, true, false, false, false, false, false] rfl rfl (take_ofW HT_.out HW_.out (by kernel_rfl)) (fun _ _ _ h => h) (Or.inl ⟨by rfl, ?_⟩) hHeld ?_ ?_
                         rotate_left
                         ·
                          rintro w' ⟨s0, s1, s2, s3, s4, s5, s6, s7⟩
                          go_simp
                          with_reducible rfl
                         rotate_left
                         ·
                          simp only [Act.put, List.setIfInBounds_toArray, List.set_cons_zero, List.set_cons_succ, i64_w, i32_w]
                          rfl
                         refine pure_ (i := 6) (N := some 84) (v := ?_) (a' := ?_) #[true, true, true, true, true, true, true, false, true, true, true, true, false, false, false, false, false] rfl rfl (any_of HT_.out (by kernel_rfl)) (fun _ _ _ h => h) (Or.inl ⟨by rfl, ?_⟩) ?_ ?_
                         rotate_left
                         ·
                          intro w'
                          go_simp
                          with_reducible rfl
                         rotate_left
                         ·
                          simp only [Act.put, List.setIfInBounds_toArray, List.set_cons_zero, List.set_cons_succ, i64_w, i32_w]
                          rfl
                         refine take_ (i := 7) (N := some 85) (v := ?_) (a' := ?_) #[true, true, true, true, true, true, true, true, true, true, true, true, false, false, false, false, false] rfl rfl (take_ofW HT_.out HW_.out (by kernel_rfl)) (fun _ _ _ h => h) (Or.inl ⟨by rfl, ?_⟩) hHeld ?_ ?_
                         rotate_left
                         ·
                          rintro w' ⟨s0, s1, s2, s3, s4, s5, s6, s7⟩
                          go_simp
                          with_reducible rfl
                         rotate_left
                         ·
                          simp only [Act.put, List.setIfInBounds_toArray, List.set_cons_zero, List.set_cons_succ, i64_w, i32_w]
                          rfl
                         refine take_ (i := 12) (N := some 90) (v := ?_) (a' := ?_) #[true, true, true, true, true, true, true, true, true, true, true, true, true, false, false, false, false] rfl rfl (take_ofW HT_.out HW_.out (by kernel_rfl)) (fun _ _ _ h => h) (Or.inl ⟨by rfl, ?_⟩) hHeld ?_ ?_
                         rotate_left
                         ·
                          rintro w' ⟨s0, s1, s2, s3, s4, s5, s6, s7⟩
                          go_simp
                          with_reducible rfl
                         rotate_left
                         ·
                          simp only [Act.put, List.setIfInBounds_toArray, List.set_cons_zero, List.set_cons_succ, i64_w, i32_w]
                          rfl
                         refine pure_ (i := 13) (N := some 91) (v := ?_) (a' := ?_) #[true, true, true, true, true, true, true, true, true, true, true, true, true, true, false, false, false] rfl rfl (any_of HT_.out (by kernel_rfl)) (fun _ _ _ h => h) (Or.inl ⟨by rfl, ?_⟩) ?_ ?_
                         rotate_left
                         ·
                          intro w'
                          go_simp
                          with_reducible rfl
                         rotate_left
                         ·
                          simp only [Act.put, List.setIfInBounds_toArray, List.set_cons_zero, List.set_cons_succ, i64_w, i32_w]
                          rfl
                         refine take_ (i := 14) (N := some 92) (v := ?_) (a' := ?_) #[true, true, true, true, true, true, true, true, true, true, true, true, true, true, true, false, false] rfl rfl (take_ofW HT_.out HW_.out (by kernel_rfl)) (fun _ _ _ h => h) (Or.inl ⟨by rfl, ?_⟩) hHeld ?_ ?_
                         rotate_left
                         ·
                          rintro w' ⟨s0, s1, s2, s3, s4, s5, s6, s7⟩
                          go_simp
                          with_reducible rfl
                         rotate_left
                         ·
                          simp only [Act.put, List.setIfInBounds_toArray, List.set_cons_zero, List.set_cons_succ, i64_w, i32_w]
                          rfl
                         refine one_ (i := 15) (N := some 93) #[true, true, true, true, true, true, true, true, true, true, true, true, true, true, true, true, false] rfl rfl (one_of HT_.out (by kernel_rfl)) (by decide) (fun K hK => ?_)
                         refine goes_ Tryz.func19 (by kernel_rfl) rfl #[.agg #[.int .i64 ((rd_T29 l0 (rd t261 (ji37))).f0), .int .u64 ((rd_T29 l0 (rd t261 (ji37))).f1), .string ((rd_T29 l0 (rd t261 (ji37))).f2)], .agg #[.int .i64 ((rd_T29 l0 (rd t261 x9_1)).f0), .int .u64 ((rd_T29 l0 (rd t261 x9_1)).f1), .string ((rd_T29 l0 (rd t261 x9_1)).f2)]] (by rfl) rfl rfl (by exact ph11) ?_
                         with_reducible refine (relate_Order.calls kj20 ((rd_T29 l0 (rd t261 (ji37))).f0) ((rd_T29 l0 (rd t261 (ji37))).f1) ((rd_T29 l0 (rd t261 (ji37))).f2) ((rd_T29 l0 (rd t261 x9_1)).f0) ((rd_T29 l0 (rd t261 x9_1)).f1) ((rd_T29 l0 (rd t261 x9_1)).f2) t285 _ A42.out).mono ?_
                         rintro e w68 ⟨rfl, hb⟩
                         have HS0_ := (hb.cell (World.block_lt_of_cell? _ _ (hHeld.1))).trans (hHeld.1)
                         have HS4_ := (hb.cell (World.block_lt_of_cell? _ _ (hHeld.2.2.2.2.1))).trans (hHeld.2.2.2.2.1)
                         refine ⟨_, rfl, ?_⟩
                         have n0_ := Aside0.mk (Kd.R_below (by exact ph3) hb)
                         have n1_ := Aside0.mk (Kd.R_below (by exact ph5) hb)
                         have n2_ := Aside0.mk (Kd.R_below (by exact ph8) hb)
                         have n3_ := Aside0.mk (below_step (by exact ph2) hb)
                         clear HO_6
                         clear HO_7
                         clear HO280
                         clear HB
                         have HO_6 := n0_
                         have HO_7 := n1_
                         have HO280 := n2_
                         have HB := n3_
                         clear n0_ n1_ n2_ n3_
                         (try clear hb)
                         (try clear hb2)
                         (try clear hk)
                         (try clear hi)
                         refine hK.out _ _ ⟨HS0_, ((HB.out.cell (World.block_lt_of_cell? w _ hw282_0)).trans hw282_0), ((HB.out.cell (World.block_lt_of_cell? w _ hw282_1)).trans hw282_1), ((HB.out.cell (World.block_lt_of_cell? w _ hw282_2)).trans hw282_2), HS4_, ((HB.out.cell (World.block_lt_of_cell? w _ hw284_0)).trans hw284_0), ((HB.out.cell (World.block_lt_of_cell? w _ hw284_1)).trans hw284_1), ((HB.out.cell (World.block_lt_of_cell? w _ hw284_2)).trans hw284_2)⟩ (fun hHeld => ?_)
                         clear hK K
                         refine norm_ (a' := ?_) ?_ ?_
                         rotate_left
                         ·
                          show Act.put _ (some 93) _ = _
                          simp only [Act.put, List.setIfInBounds_toArray, List.set_cons_zero, List.set_cons_succ, i64_w, i32_w]
                          rfl
                         refine pure_ (i := 16) (N := some 10) (v := ?_) (a' := ?_) #[true, true, true, true, true, true, true, true, true, true, true, true, true, true, true, true, true] rfl rfl (any_of HT_.out (by kernel_rfl)) (fun _ _ _ h => h) (Or.inl ⟨by rfl, ?_⟩) ?_ ?_
                         rotate_left
                         ·
                          intro w'
                          go_simp
                          with_reducible rfl
                         rotate_left
                         ·
                          simp only [Act.put, List.setIfInBounds_toArray, List.set_cons_zero, List.set_cons_succ, i64_w, i32_w]
                          rfl
                         refine done_ (done_of HT_.out (by kernel_rfl)) ?_
                         try go_wp2
                         have n0_ := Aside0.mk (Kd.R_drew HO_6.out)
                         have n1_ := Aside0.mk (Kd.R_drew HO_7.out)
                         have n2_ := Aside0.mk (Kd.R_drew HO280.out)
                         have n3_ := Aside0.mk (below_drew1 HB.out)
                         clear HO_6
                         clear HO_7
                         clear HO280
                         clear HB
                         have HO_6 := n0_
                         have HO_7 := n1_
                         have HO280 := n2_
                         have HB := n3_
                         clear n0_ n1_ n2_ n3_
                         refine start_ (n := 18) (S := fun w' => True) (ds := []) #[false, false, false, false, false, false, false, false, false, false, false, false, false, false, false, false, false, false] (by kernel_rfl) rfl rfl trivial (fun hHeld => ?_); refine with_tabW abacuslaw18_RelateSorted.tab18 abacuslaw18_RelateSorted.bits18 (fun HT_ HW_ => ?_)
                         generalize w68.drew = w69 at HO_6 HO_7 HO280 HB hHeld ⊢
                         refine pure_ (i := 0) (N := some 94) (v := ?_) (a' := ?_) #[true, false, false, false, false, false, false, false, false, false, false, false, false, false, false, false, false, false] rfl rfl (any_of HT_.out (by kernel_rfl)) (fun _ _ _ h => h) (Or.inl ⟨by rfl, ?_⟩) ?_ ?_
                         rotate_left
                         ·
                          intro w'
                          go_simp
                          with_reducible rfl
                         rotate_left
                         ·
                          simp only [Act.put, List.setIfInBounds_toArray, List.set_cons_zero, List.set_cons_succ, i64_w, i32_w]
                          rfl
                         refine pure_ (i := 1) (N := some 95) (v := ?_) (a' := ?_) #[true, true, false, false, false, false, false, false, false, false, false, false, false, false, false, false, false, false] rfl rfl (any_of HT_.out (by kernel_rfl)) (fun _ _ _ h => h) (Or.inl ⟨by rfl, ?_⟩) ?_ ?_
                         rotate_left
                         ·
                          intro w'
                          go_simp
                          with_reducible rfl
                         rotate_left
                         ·
                          simp only [Act.put, List.setIfInBounds_toArray, List.set_cons_zero, List.set_cons_succ, i64_w, i32_w]
                          rfl
                         refine pure_ (i := 2) (N := some 96) (v := ?_) (a' := ?_) #[true, true, true, false, false, false, false, false, false, false, false, false, false, false, false, false, false, false] rfl rfl (any_of HT_.out (by kernel_rfl)) (fun _ _ _ h => h) (Or.inl ⟨by rfl, ?_⟩) ?_ ?_
                         rotate_left
                         ·
                          intro w'
                          go_simp
                          with_reducible rfl
                         rotate_left
                         ·
                          simp only [Act.put, List.setIfInBounds_toArray, List.set_cons_zero, List.set_cons_succ, i64_w, i32_w]
                          rfl
                         refine pure_ (i := 3) (N := some 97) (v := ?_) (a' := ?_) #[true, true, true, true, false, false, false, false, false, false, false, false, false, false, false, false, false, false] rfl rfl (any_of HT_.out (by kernel_rfl)) (fun _ _ _ h => h) (Or.inl ⟨by rfl, ?_⟩) ?_ ?_
                         rotate_left
                         ·
                          intro w'
                          go_simp
                          with_reducible rfl
                         rotate_left
                         ·
                          simp only [Act.put, List.setIfInBounds_toArray, List.set_cons_zero, List.set_cons_succ, i64_w, i32_w]
                          rfl
                         refine pure_ (i := 4) (N := some 98) (v := ?_) (a' := ?_) #[true, true, true, true, true, false, false, false, false, false, false, false, false, false, false, false, false, false] rfl rfl (any_of HT_.out (by kernel_rfl)) (fun _ _ _ h => h) (Or.inl ⟨by rfl, ?_⟩) ?_ ?_
                         rotate_left
                         ·
                          intro w'
                          go_simp
                          with_reducible rfl
                         rotate_left
                         ·
                          simp only [Act.put, List.setIfInBounds_toArray, List.set_cons_zero, List.set_cons_succ, i64_w, i32_w]
                          rfl
                         refine pure_ (i := 5) (N := some 99) (v := ?_) (a' := ?_) #[true, true, true, true, true, true, false, false, false, false, false, false, false, false, false, false, false, false] rfl rfl (any_of HT_.out (by kernel_rfl)) (fun _ _ _ h => h) (Or.inl ⟨by rfl, ?_⟩) ?_ ?_
                         rotate_left
                         ·
                          intro w'
                          go_simp
                          with_reducible rfl
                         rotate_left
                         ·
                          simp only [Act.put, List.setIfInBounds_toArray, List.set_cons_zero, List.set_cons_succ, i64_w, i32_w]
                          rfl
                         refine pure_ (i := 6) (N := some 100) (v := undef) (a' := ?_) #[true, true, true, true, true, true, true, false, false, false, false, false, false, false, false, false, false, false] rfl rfl (any_of HT_.out (by kernel_rfl)) (fun _ _ _ h => h) (Or.inr ⟨by rfl, rfl⟩) ?_ ?_
                         rotate_left
                         ·
                          simp only [Act.put, List.setIfInBounds_toArray, List.set_cons_zero, List.set_cons_succ, i64_w, i32_w]
                          rfl
                         refine pure_ (i := 7) (N := some 101) (v := undef) (a' := ?_) #[true, true, true, true, true, true, true, true, false, false, false, false, false, false, false, false, false, false] rfl rfl (any_of HT_.out (by kernel_rfl)) (fun _ _ _ h => h) (Or.inr ⟨by rfl, rfl⟩) ?_ ?_
                         rotate_left
                         ·
                          simp only [Act.put, List.setIfInBounds_toArray, List.set_cons_zero, List.set_cons_succ, i64_w, i32_w]
                          rfl
                         refine pure_ (i := 8) (N := some 102) (v := undef) (a' := ?_) #[true, true, true, true, true, true, true, true, true, false, false, false, false, false, false, false, false, false] rfl rfl (any_of HT_.out (by kernel_rfl)) (fun _ _ _ h => h) (Or.inr ⟨by rfl, rfl⟩) ?_ ?_
                         rotate_left
                         ·
                          simp only [Act.put, List.setIfInBounds_toArray, List.set_cons_zero, List.set_cons_succ, i64_w, i32_w]
                          rfl
                         refine pure_ (i := 9) (N := some 103) (v := undef) (a' := ?_) #[true, true, true, true, true, true, true, true, true, true, false, false, false, false, false, false, false, false] rfl rfl (any_of HT_.out (by kernel_rfl)) (fun _ _ _ h => h) (Or.inr ⟨by rfl, rfl⟩) ?_ ?_
                         rotate_left
                         ·
                          simp only [Act.put, List.setIfInBounds_toArray, List.set_cons_zero, List.set_cons_succ, i64_w, i32_w]
                          rfl
                         refine pure_ (i := 10) (N := some 104) (v := undef) (a' := ?_) #[true, true, true, true, true, true, true, true, true, true, true, false, false, false, false, false, false, false] rfl rfl (any_of HT_.out (by kernel_rfl)) (fun _ _ _ h => h) (Or.inr ⟨by rfl, rfl⟩) ?_ ?_
                         rotate_left
                         ·
                          simp only [Act.put, List.setIfInBounds_toArray, List.set_cons_zero, List.set_cons_succ, i64_w, i32_w]
                          rfl
                         refine pure_ (i := 11) (N := some 105) (v := undef) (a' := ?_) #[true, true, true, true, true, true, true, true, true, true, true, true, false, false, false, false, false, false] rfl rfl (any_of HT_.out (by kernel_rfl)) (fun _ _ _ h => h) (Or.inr ⟨by rfl, rfl⟩) ?_ ?_
                         rotate_left
                         ·
                          simp only [Act.put, List.setIfInBounds_toArray, List.set_cons_zero, List.set_cons_succ, i64_w, i32_w]
                          rfl
                         refine pure_ (i := 12) (N := some 106) (v := undef) (a' := ?_) #[true, true, true, true, true, true, true, true, true, true, true, true, true, false, false, false, false, false] rfl rfl (any_of HT_.out (by kernel_rfl)) (fun _ _ _ h => h) (Or.inr ⟨by rfl, rfl⟩) ?_ ?_
                         rotate_left
                         ·
                          simp only [Act.put, List.setIfInBounds_toArray, List.set_cons_zero, List.set_cons_succ, i64_w, i32_w]
                          rfl
                         refine pure_ (i := 13) (N := some 107) (v := undef) (a' := ?_) #[true, true, true, true, true, true, true, true, true, true, true, true, true, true, false, false, false, false] rfl rfl (any_of HT_.out (by kernel_rfl)) (fun _ _ _ h => h) (Or.inr ⟨by rfl, rfl⟩) ?_ ?_
                         rotate_left
                         ·
                          simp only [Act.put, List.setIfInBounds_toArray, List.set_cons_zero, List.set_cons_succ, i64_w, i32_w]
                          rfl
                         refine pure_ (i := 14) (N := some 108) (v := undef) (a' := ?_) #[true, true, true, true, true, true, true, true, true, true, true, true, true, true, true, false, false, false] rfl rfl (any_of HT_.out (by kernel_rfl)) (fun _ _ _ h => h) (Or.inr ⟨by rfl, rfl⟩) ?_ ?_
                         rotate_left
                         ·
                          simp only [Act.put, List.setIfInBounds_toArray, List.set_cons_zero, List.set_cons_succ, i64_w, i32_w]
                          rfl
                         refine pure_ (i := 15) (N := some 109) (v := undef) (a' := ?_) #[true, true, true, true, true, true, true, true, true, true, true, true, true, true, true, true, false, false] rfl rfl (any_of HT_.out (by kernel_rfl)) (fun _ _ _ h => h) (Or.inr ⟨by rfl, rfl⟩) ?_ ?_
                         rotate_left
                         ·
                          simp only [Act.put, List.setIfInBounds_toArray, List.set_cons_zero, List.set_cons_succ, i64_w, i32_w]
                          rfl
                         refine pure_ (i := 16) (N := some 110) (v := ?_) (a' := ?_) #[true, true, true, true, true, true, true, true, true, true, true, true, true, true, true, true, true, false] rfl rfl (any_of HT_.out (by kernel_rfl)) (fun _ _ _ h => h) (Or.inl ⟨by rfl, ?_⟩) ?_ ?_
                         rotate_left
                         ·
                          intro w'
                          go_simp
                          with_reducible rfl
                         rotate_left
                         ·
                          simp only [Act.put, List.setIfInBounds_toArray, List.set_cons_zero, List.set_cons_succ, i64_w, i32_w]
                          rfl
                         refine pure_ (i := 17) (N := some 111) (v := ?_) (a' := ?_) #[true, true, true, true, true, true, true, true, true, true, true, true, true, true, true, true, true, true] rfl rfl (any_of HT_.out (by kernel_rfl)) (fun _ _ _ h => h) (Or.inl ⟨by rfl, ?_⟩) ?_ ?_
                         rotate_left
                         ·
                          intro w'
                          go_simp
                          with_reducible rfl
                         rotate_left
                         ·
                          simp only [Act.put, List.setIfInBounds_toArray, List.set_cons_zero, List.set_cons_succ, i64_w, i32_w]
                          rfl
                         refine done_ (done_of HT_.out (by kernel_rfl)) ?_
                         try go_wp2
                         (try simp only [← hji37])
                         go_roundg kj20
                         case measure => have := HK1.out; have := HJ20.out; omega
                         case rel => exact ⟨(y275), (y278), (wrap64 (x9_1 + 1)), (by exact ph6), (by first | exact H' | ((try rw [hji37]); exact H')), ⟨by have := HK1.out; have := HJ20.out; omega⟩, ⟨by exact ph3⟩, ⟨by exact ph5⟩, ⟨by exact ph8⟩, ⟨by exact ph2⟩⟩
                      ·
                       rw [if_neg c41] at H
                       exact absurd H (by simp)
                     ·
                      rw [if_neg c40] at H
                      exact absurd H (by simp)
                    ·
                     rw [if_neg c39] at H
                     exact absurd H (by simp)
                   ·
                    rw [if_neg c38] at H
                    exact absurd H (by simp)
                  ·
                   rw [if_neg c36] at H
                   have c36b0 : decide (0 < x9_1) = false := decide_eq_false c36
                   clear c36
                   have H' := Aside0.mk H
                   clear H
                   have p274 : 0 ≤ (x9_1 : Int) := of_decide_eq_true (by exact ph1)
                   have q274 : x9_1 < (t261.length : Int) := of_decide_eq_true (by exact ph1)
                   obtain ⟨ad274, e274, hx274_0⟩ := Kd.at_int (Kd.R_reads' HO_6.out).2.2 x9_1 p274 q274
                   cases e274
                   replace p274 := eq_true p274
                   replace q274 := eq_true q274
                   have p33 : 0 ≤ ((rd t261 x9_1) : Int) := of_decide_eq_true (by exact ph1)
                   have q33 : ((rd t261 x9_1) : Int) < ((x7_1.length : Int) : Int) := of_decide_eq_true (by exact ph1)
                   obtain ⟨go33, co33, eo33, gb33, gl33, cl33, HG33⟩ := Kd.R_form HO_7.out (by omega)
                   (first | cases eo33 | (injection eo33 with ea_ en_ ec_; (first | subst ea_ | (injection ea_ with ea_; subst ea_)); subst ec_; clear en_))
                   have GB33 := Aside0.mk gb33
                   have GG33 := Aside0.mk HG33
                   clear gb33 gl33 HG33
                   obtain ⟨hx33_0, hf33_0⟩ := Kd.R_celln false HO_7.out ((rd t261 x9_1) : Int) p33 q33
                   replace p33 := eq_true p33
                   replace q33 := eq_true q33
                   have HP70 := Kd.R_putg HO_7.out ((rd t261 x9_1) : Int) true
                   go_wp2_with (first | ((with_reducible refine gate_store (t := 4) (p := 65) rfl ?_); refine store_event (t := 4) (p := 65) (v := ?vo_w71) (w1 := (wc.setCell ⟨go33, ((rd t261 x9_1) : Int).toNat, none⟩ (.bool true))) ?hg ?ho ?hn ?hr ?_; (case ho => rfl); (case hg => rfl); (case hn => rfl); (case hr => first | (go_simp; done) | (go_simp; rfl)); intro w71 hw; have hg : wc.grownBy w71 (some go33) := (by rw [hw]; exact HP70.2); have hp_ : Kd.R Kd.bool 4 w71 w.heap.size (fun _ => True) (.slice (some ⟨go33, 0, none⟩) x7_1.length co33) y275 := (by rw [hw, Ny275.out]; exact HP70.1); clear HP70; have n0_ := Aside0.mk (Kd.R_over' (v := (.slice (some ⟨go33, 0, none⟩) x7_1.length co33)) (by exact ph3) (Kd.R_typed HO_7.out) (by decide) hg); have n1_ := Aside0.mk (hp_); have n2_ := Aside0.mk (Kd.R_over' (v := (.slice (some ⟨go33, 0, none⟩) x7_1.length co33)) (by exact ph4) (Kd.R_typed HO_7.out) (by decide) hg); have n3_ := Aside0.mk ((by rw [hw]; exact below_set (HB.out) GB33.out : Below w.heap.size w w71)); clear HO_6; clear HO_7; clear HO_8; clear HB; have HO_6 := n0_; have HO_7 := n1_; have HO_8 := n2_; have HB := n3_; clear n0_ n1_ n2_ n3_; clear hg hw hp_; have p276 : 0 ≤ (x9_1 : Int) := of_decide_eq_true (by exact ph1); have q276 : x9_1 < (t261.length : Int) := of_decide_eq_true (by exact ph1); obtain ⟨ad276, e276, hx276_0⟩ := Kd.at_int (Kd.R_reads' HO_6.out).2.2 x9_1 p276 q276; obtain rfl : ad274 = ad276 := (by injection e276); replace p276 := eq_true p276; replace q276 := eq_true q276; have p277 : 0 ≤ ((rd t261 x9_1) : Int) := of_decide_eq_true (by exact ph1); have q277 : (rd t261 x9_1) < (l0.length : Int) := of_decide_eq_true (by exact ph1); obtain ⟨ad277, e277, hx277_0, hx277_1, hx277_2⟩ := at_T29 HR0.out (rd t261 x9_1) p277 q277; cases e277; replace hx277_0 := (HB.out.cell (World.block_lt_of_cell? w _ hx277_0)).trans hx277_0; replace hx277_1 := (HB.out.cell (World.block_lt_of_cell? w _ hx277_1)).trans hx277_1; replace hx277_2 := (HB.out.cell (World.block_lt_of_cell? w _ hx277_2)).trans hx277_2; replace p277 := eq_true p277; replace q277 := eq_true q277) | ((with_reducible refine gate_builtin (b := .append) (xs := #[.tmp 66, .tmp 74]) rfl ?_); (try (refine gate_guard (by rfl) ?_; dsimp only)); at_builtin; refine Kd.R_append k29 (w0 := w) w.heap.size rfl (.tmp 66) (.tmp 74) 36 29 (.agg #[(.int .i64 0), (.int .u64 0), (.string ⟨#[]⟩)]) 32 rfl Tryz.underlying36 info29 rfl (by decide) (by omega) u8 x8_1 (⟨(rd_T29 l0 (rd t261 x9_1)).f0, (rd_T29 l0 (rd t261 x9_1)).f1, (rd_T29 l0 (rd t261 x9_1)).f2⟩ : S29) [.int .i64 ((rd_T29 l0 (rd t261 x9_1)).f0), .int .u64 ((rd_T29 l0 (rd t261 x9_1)).f1), .string ((rd_T29 l0 (rd t261 x9_1)).f2)] (fun _ => True) (fun _ => False) rfl rfl ?aP (fun _ hk => hk.elim) ?aF ?aO ?aB ?aS ?aL ?_; (case aP => exact k29_mkM _ _ _ (⟨(rd_T29 l0 (rd t261 x9_1)).f0, (rd_T29 l0 (rd t261 x9_1)).f1, (rd_T29 l0 (rd t261 x9_1)).f2⟩ : S29)); (case aB => exact (by exact ph2)); (case aF => exact (fun _ _ => trivial)); (case aO => exact (by exact ph4)); (case aS => exact (below_size (by exact ph2))); (case aL => have := LMc35.out; omega); intro v279 w72 ho hb hg hat; rw [← Ny278.out] at ho; have n0_ := Aside0.mk (Kd.R_over' (by exact ph3) (Kd.R_typed (by exact ph4)) (by decide) hg); have n1_ := Aside0.mk (Kd.R_over' (by exact ph5) (Kd.R_typed (by exact ph4)) (by decide) hg); have n2_ := Aside0.mk (hb); have n3_ := Aside0.mk (ho); clear HO_6; clear HO_7; clear HB; clear HO_8; have HO_6 := n0_; have HO_7 := n1_; have HB := n2_; have HO280 := n3_; clear n0_ n1_ n2_ n3_; clear ho hb hg hat))
                   (try simp only [← hji37])
                   go_roundg kj20
                   case measure => have := HK1.out; have := HJ20.out; omega
                   case rel => exact ⟨(y275), (y278), (wrap64 (x9_1 + 1)), (by exact ph6), (by first | exact H' | ((try rw [hji37]); exact H')), ⟨by have := HK1.out; have := HJ20.out; omega⟩, ⟨by exact ph3⟩, ⟨by exact ph5⟩, ⟨by exact ph8⟩, ⟨by exact ph2⟩⟩
                 ·
                  rw [if_neg c35] at H
                  exact absurd H (by simp)
                ·
                 rw [if_neg c34] at H
                 exact absurd H (by simp)
               ·
                rw [if_neg c32] at H
                exact absurd H (by simp)
              ·
               rw [if_neg c31] at H
               exact absurd H (by simp)
             ·
              rw [if_neg c30] at H
              exact absurd H (by simp)
            ·
             rw [if_neg c29] at H
             exact absurd H (by simp)
        ·
         rw [if_neg c20] at H
         have c20b0 : decide (x9_1 < (t261.length : Int)) = false := decide_eq_false c20
         clear c20
         replace H := Option.bind_eq_some_iff.mp H
         obtain ⟨t288, A730, H⟩ := H
         try dsimp only at H
         have A73 := Aside0.mk A730
         clear A730
         replace H := Option.bind_eq_some_iff.mp H
         obtain ⟨t291, A740, H⟩ := H
         try dsimp only at H
         have A74 := Aside0.mk A740
         clear A740
         replace H := Option.bind_eq_some_iff.mp H
         obtain ⟨t294, A750, H⟩ := H
         try dsimp only at H
         have A75 := Aside0.mk A750
         clear A750
         have HC76 := Aside0.mk H
         clear H
         obtain ⟨Ao77, co77, eo77⟩ := Kd.R_slice HO_8.out
         subst eo77
         go_upto_region 22 with (first | ((with_reducible refine gate_callee (f := 23) rfl ?_); refine goesL_ (some 113) rfl rfl Tryz.func23 (by kernel_rfl) rfl #[.slice Ao77 x8_1.length co77] rfl (by exact ph7) ?_; (with_reducible refine (relate_Sort.calls _ _ x8_1 t288 _ ?side1 ?side2 A73.out).mono ?_); (case side1 => repeat (first | exact (Kd.R_reads' HO_8.out).2.2 | (with_reducible refine Kd.C_alloc ?_ _) | (with_reducible refine Kd.C_drewN ?_ _) | (with_reducible refine Kd.C_drew ?_))); (case side2 => exact (Kd.R_reads' HO_8.out).2.1); rintro e w78 ⟨v289, rfl, ho0, hb⟩; refine ⟨_, rfl, ?_⟩; have n0_ := Aside0.mk (Kd.R_elder' (by exact ph3) (Kd.R_base ho0) hb); have n1_ := Aside0.mk (Kd.R_below (by exact ph5) hb); have n2_ := Aside0.mk (Kd.R_below (by exact ph4) hb); have n3_ := Aside0.mk (Kd.R_lower (Kd.R_new' ho0 (Kd.R_lt (by exact ph3))) (below_size (by exact ph2))); have n4_ := Aside0.mk (below_step (by exact ph2) hb); clear HO_6; clear HO_7; clear HO_8; clear HB; have HO_6 := n0_; have HO_7 := n1_; have HO_8 := n2_; have HO290 := n3_; have HB := n4_; clear n0_ n1_ n2_ n3_ n4_; (try clear hb); (try clear hb2); (try clear hk); (try clear hi); (try clear ho0)) | ((with_reducible refine gate_callee (f := 24) rfl ?_); refine goesL_ (some 115) rfl rfl Tryz.func24 (by kernel_rfl) rfl #[.slice A0 l0.length c0] rfl (by exact ph7) ?_; (with_reducible refine (abacuslaw18_values.calls _ _ l0 t291 _ ?side1 ?side2 A74.out).mono ?_); (case side1 => repeat (first | exact (Kd.C_below HR0.out HB.out) | (with_reducible refine Kd.C_alloc ?_ _) | (with_reducible refine Kd.C_drewN ?_ _) | (with_reducible refine Kd.C_drew ?_))); (case side2 => exact HC0.out); rintro e w79 ⟨v292, rfl, ho0, hb⟩; refine ⟨_, rfl, ?_⟩; have n0_ := Aside0.mk (Kd.R_below (by exact ph3) hb); have n1_ := Aside0.mk (Kd.R_below (by exact ph5) hb); have n2_ := Aside0.mk (Kd.R_elder' (by exact ph4) (Kd.R_base ho0) hb); have n3_ := Aside0.mk (Kd.R_below (by exact ph13) hb); have n4_ := Aside0.mk (Kd.R_lower (Kd.R_new' ho0 (Kd.R_lt (by exact ph4))) (below_size (by exact ph2))); have n5_ := Aside0.mk (below_step (by exact ph2) hb); clear HO_6; clear HO_7; clear HO_8; clear HO290; clear HB; have HO_6 := n0_; have HO_7 := n1_; have HO_8 := n2_; have HO290 := n3_; have HO293 := n4_; have HB := n5_; clear n0_ n1_ n2_ n3_ n4_ n5_; (try clear hb); (try clear hb2); (try clear hk); (try clear hi); (try clear ho0); obtain ⟨Ao80, co80, eo80⟩ := Kd.R_slice HO293.out; subst eo80) | ((with_reducible refine gate_callee (f := 25) rfl ?_); refine goesL_ (some 117) rfl rfl Tryz.func25 (by kernel_rfl) rfl #[.slice Ao80 t291.length co80, .int .i64 a1] rfl (by exact ph7) ?_; (with_reducible refine (relate_Top.calls _ _ t291 a1 t294 _ ?side1 ?side2 A75.out).mono ?_); (case side1 => repeat (first | exact (Kd.R_reads' HO293.out).2.2 | (with_reducible refine Kd.C_alloc ?_ _) | (with_reducible refine Kd.C_drewN ?_ _) | (with_reducible refine Kd.C_drew ?_))); (case side2 => exact (Kd.R_reads' HO293.out).2.1); rintro e w81 ⟨v295, rfl, ho0, hb⟩; refine ⟨_, rfl, ?_⟩; have n0_ := Aside0.mk (Kd.R_elder' (by exact ph3) (Kd.R_base ho0) hb); have n1_ := Aside0.mk (Kd.R_below (by exact ph5) hb); have n2_ := Aside0.mk (Kd.R_below (by exact ph4) hb); have n3_ := Aside0.mk (Kd.R_elder' (by exact ph13) (Kd.R_base ho0) hb); have n4_ := Aside0.mk (Kd.R_below (by (with_reducible repeat (first | apply Kd.R_alloc | apply Kd.R_drewN | apply Kd.R_drew)); exact HO293.out) hb); have n5_ := Aside0.mk (Kd.R_lower (Kd.R_new' (Kd.R_new' ho0 (Kd.R_lt (by exact ph3))) (Kd.R_lt (by exact ph13))) (below_size (by exact ph2))); have n6_ := Aside0.mk (below_step (by exact ph2) hb); clear HO_6; clear HO_7; clear HO_8; clear HO290; clear HO293; clear HB; have HO_6 := n0_; have HO_7 := n1_; have HO_8 := n2_; have HO290 := n3_; have HO293 := n4_; have HO296 := n5_; have HB := n6_; clear n0_ n1_ n2_ n3_ n4_ n5_ n6_; (try clear hb); (try clear hb2); (try clear hk); (try clear hi); (try clear ho0)))
         (try simp only [Act.put, List.setIfInBounds_toArray, List.set_cons_zero, List.set_cons_succ])
         go_cut [132] (fun v132 wc => ∃ (kq : Nat) (x132_75 : Bool), v132 = .bool x132_75 ∧ Aside0 (abacuslaw18_RelateSorted.j2 kq t261 t288 t294 x132_75 = some r) ∧ Aside0 (kq ≤ k1) ∧ Aside0 (Kd.R (Kd.int .i64) 3 wc w.heap.size (fun k_ => some k_ ≠ (v289 : Value).ownBlock ∧ some k_ ≠ (v295 : Value).ownBlock) (.slice Ao15 t261.length co15) t261) ∧ Aside0 (Kd.R (Kd.int .i64) 3 wc w.heap.size (fun k_ => some k_ ≠ ((.slice Ao15 t261.length co15) : Value).ownBlock ∧ some k_ ≠ (v295 : Value).ownBlock) v289 t288) ∧ Aside0 (Kd.R (Kd.int .i64) 3 wc w.heap.size (fun k_ => some k_ ≠ ((.slice Ao15 t261.length co15) : Value).ownBlock ∧ some k_ ≠ (v289 : Value).ownBlock) v295 t294) ∧ Aside0 (Below w.heap.size w wc))
         case first =>
          have H := HC76.out
          clear HC76
          by_cases c82 : (t288.length : Int) = (t261.length : Int)
          ·
           rw [if_pos c82] at H
           have c82b0 : ((t288.length : Int) == (t261.length : Int)) = true := beq_iff_eq.mpr c82
           have c82b1 : ((t288.length : Int) != (t261.length : Int)) = false := bne_eq_false_iff_eq.mpr c82
           have c82b2 : (t288.length == t261.length) = true := by first | simpa using c82 | (simp at c82 ⊢; omega)
           clear c82
           (first | rw [c82b0] | (simp only [i64_w, i32_w]; rw [c82b0]) | skip)
           obtain ⟨ji83, hji83⟩ : ∃ j_ : Int, (mx a1 0) = j_ := ⟨_, rfl⟩
           replace H : (abacuslaw18_RelateSorted.j2 k1 t261 t288 t294 ((t294.length : Int) != (mn (ji83) (t261.length : Int)))) = some r := by first | (rw [hji83] at H; exact H) | (simp only [hji83] at H ⊢; exact H)
           have hji83_ : (if a1 < 0 then 0 else a1) = ji83 := hji83
           obtain ⟨ji84, hji84⟩ : ∃ j_ : Int, (mn (ji83) (t261.length : Int)) = j_ := ⟨_, rfl⟩
           replace H : (abacuslaw18_RelateSorted.j2 k1 t261 t288 t294 ((t294.length : Int) != (ji84))) = some r := by first | (rw [hji84] at H; exact H) | (simp only [hji84] at H ⊢; exact H)
           have hji84_ : (if (t261.length : Int) < (ji83) then (t261.length : Int) else (ji83)) = ji84 := hji84
           have H' := Aside0.mk H
           clear H
           obtain ⟨Ao85, co85, eo85⟩ := Kd.R_slice HO290.out
           subst eo85
           obtain ⟨Ao86, co86, eo86⟩ := Kd.R_slice HO296.out
           subst eo86
           go_wp2
           go_meet
           case rel => exact ⟨_, (((t294.length : Int) != (ji84))), (by first | rfl | (simp; done) | (simp only [← hji84] <;> (first | rfl | simp)) | (simp [*]; done)), H', ⟨by have := HK1.out; first | omega | exact Nat.le_refl _⟩, ⟨by (with_reducible repeat (first | apply Kd.R_alloc | apply Kd.R_drewN | apply Kd.R_drew)); exact Kd.R_mono HO_6.out (fun _ hk => ⟨hk.1.2, hk.2⟩)⟩, ⟨by (with_reducible repeat (first | apply Kd.R_alloc | apply Kd.R_drewN | apply Kd.R_drew)); exact Kd.R_mono HO290.out (fun _ hk => ⟨hk.1.2, hk.2⟩)⟩, ⟨by (with_reducible repeat (first | apply Kd.R_alloc | apply Kd.R_drewN | apply Kd.R_drew)); exact Kd.R_mono HO296.out (fun _ hk => ⟨hk.1.2, hk.2⟩)⟩, ⟨by exact ph2⟩⟩
          ·
           rw [if_neg c82] at H
           have c82b0 : ((t288.length : Int) == (t261.length : Int)) = false := beq_eq_false_iff_ne.mpr c82
           have c82b1 : ((t288.length : Int) != (t261.length : Int)) = true := bne_iff_ne.mpr c82
           have c82b2 : (t288.length == t261.length) = false := by first | simpa using c82 | (simp at c82 ⊢; omega)
           (first | rw [c82b0] | (simp only [i64_w, i32_w]; rw [c82b0]) | skip)
           have H' := Aside0.mk H
           clear H
           obtain ⟨Ao87, co87, eo87⟩ := Kd.R_slice HO290.out
           subst eo87
           go_wp2
           go_meet
           case rel => exact ⟨_, (true), (by exact ph6), H', ⟨by have := HK1.out; first | omega | exact Nat.le_refl _⟩, ⟨by (with_reducible repeat (first | apply Kd.R_alloc | apply Kd.R_drewN | apply Kd.R_drew)); exact Kd.R_mono HO_6.out (fun _ hk => ⟨hk.1.2, hk.2⟩)⟩, ⟨by (with_reducible repeat (first | apply Kd.R_alloc | apply Kd.R_drewN | apply Kd.R_drew)); exact Kd.R_mono HO290.out (fun _ hk => ⟨hk.1.2, hk.2⟩)⟩, ⟨by (with_reducible repeat (first | apply Kd.R_alloc | apply Kd.R_drewN | apply Kd.R_drew)); exact Kd.R_mono HO296.out (fun _ hk => ⟨hk.1.2, hk.2⟩)⟩, ⟨by exact ph2⟩⟩
         case rest =>
          clear HC76
          try clear c1
          try clear c2
          try clear p2
          try clear q2
          try clear hx2
          try clear c3
          try clear p3
          try clear q3
          try clear hx3
          try clear hf3
          try clear c4
          try clear c5
          try clear p6
          try clear c8
          try clear c19
          try clear c20
          try clear c20b0
          try clear c23
          try clear c24
          try clear c25
          try clear p27
          try clear q27
          try clear hx27
          try clear p28
          try clear q28
          try clear hx28
          try clear c29
          try clear c30
          try clear c31
          try clear c32
          try clear p33
          try clear q33
          try clear hx33
          try clear hf33
          try clear c34
          try clear c35
          try clear c36
          try clear c36b0
          try clear c38
          try clear c39
          try clear c40
          try clear c41
          try clear c50
          try clear c50b0
          try clear c50b1
          try clear p64
          try clear c82
          try clear c82b0
          try clear c82b1
          try clear c82b2
          try clear hx274_0
          try clear hx276_0
          try clear hx277_0
          try clear hx277_1
          try clear hx277_2
          try clear hx281_0
          try clear hx282_0
          try clear hx282_1
          try clear hx282_2
          try clear hx283_0
          try clear hx284_0
          try clear hx284_1
          try clear hx284_2
          try clear hx33_0
          try clear p274
          try clear p276
          try clear p277
          try clear p281
          try clear p282
          try clear p283
          try clear p284
          try clear p33
          try clear q274
          try clear q276
          try clear q277
          try clear q281
          try clear q282
          try clear q283
          try clear q284
          try clear q33
          obtain ⟨kq, x132_75, rfl, HA, HJ75, HO_6, HO_11, HO_12, HB⟩ := hcut
          cases kq with
          | zero => exact absurd HA.out (by simp [abacuslaw18_RelateSorted.j2])
          | succ kj75 =>
           have H := HA.out
           clear HA
           simp only [abacuslaw18_RelateSorted.j2] at H
           by_cases c88 : x132_75 = true
           ·
            subst c88
            have H1 : (some false) = some r := by rw [if_pos rfl] at H; exact H
            clear H
            have H := H1
            clear H1
            obtain rfl := Option.some.inj H
            exact abacuslaw18_RelateSorted.w2
           ·
            replace c88 := Bool.eq_false_iff.mpr c88
            subst c88
            have H1 : (abacuslaw18_RelateSorted.l1 kj75 t261 t288 t294 0) = some r := by rw [if_neg (show ¬ (false = true) by decide)] at H; exact H
            clear H
            have H := H1
            clear H1
            have H' := Aside0.mk H
            clear H
            go_wp2
            go_loopg [13] kj75 (fun kq v13 w' => ∃ (x13_3 : Int), v13 = .int .i64 x13_3 ∧ Aside0 (abacuslaw18_RelateSorted.l1 kq t261 t288 t294 x13_3 = some r) ∧ Aside0 (kq ≤ kj75) ∧ Aside0 (Kd.R (Kd.int .i64) 3 w' w.heap.size (fun k_ => some k_ ≠ (v289 : Value).ownBlock ∧ some k_ ≠ (v295 : Value).ownBlock) (.slice Ao15 t261.length co15) t261) ∧ Aside0 (Kd.R (Kd.int .i64) 3 w' w.heap.size (fun k_ => some k_ ≠ ((.slice Ao15 t261.length co15) : Value).ownBlock ∧ some k_ ≠ (v295 : Value).ownBlock) v289 t288) ∧ Aside0 (Kd.R (Kd.int .i64) 3 w' w.heap.size (fun k_ => some k_ ≠ ((.slice Ao15 t261.length co15) : Value).ownBlock ∧ some k_ ≠ (v289 : Value).ownBlock) v295 t294) ∧ Aside0 (Below w.heap.size w w'))
            case atStart => exact ⟨(0), (by exact ph6), H', ⟨Nat.le_refl _⟩, ⟨by exact ph3⟩, ⟨by exact ph14⟩, ⟨by exact ph15⟩, ⟨by exact ph2⟩⟩
            case round =>
             clear H'
             try clear c1
             try clear c2
             try clear p2
             try clear q2
             try clear hx2
             try clear c3
             try clear p3
             try clear q3
             try clear hx3
             try clear hf3
             try clear c4
             try clear c5
             try clear p6
             try clear c8
             try clear c19
             try clear c20
             try clear c20b0
             try clear c23
             try clear c24
             try clear c25
             try clear p27
             try clear q27
             try clear hx27
             try clear p28
             try clear q28
             try clear hx28
             try clear c29
             try clear c30
             try clear c31
             try clear c32
             try clear p33
             try clear q33
             try clear hx33
             try clear hf33
             try clear c34
             try clear c35
             try clear c36
             try clear c36b0
             try clear c38
             try clear c39
             try clear c40
             try clear c41
             try clear c50
             try clear c50b0
             try clear c50b1
             try clear p64
             try clear c82
             try clear c82b0
             try clear c82b1
             try clear c82b2
             try clear c88
             try clear hx274_0
             try clear hx276_0
             try clear hx277_0
             try clear hx277_1
             try clear hx277_2
             try clear hx281_0
             try clear hx282_0
             try clear hx282_1
             try clear hx282_2
             try clear hx283_0
             try clear hx284_0
             try clear hx284_1
             try clear hx284_2
             try clear hx33_0
             try clear p2
             try clear p27
             try clear p274
             try clear p276
             try clear p277
             try clear p28
             try clear p281
             try clear p282
             try clear p283
             try clear p284
             try clear p3
             try clear p33
             try clear p6
             try clear p64
             try clear q2
             try clear q27
             try clear q274
             try clear q276
             try clear q277
             try clear q28
             try clear q281
             try clear q282
             try clear q283
             try clear q284
             try clear q3
             try clear q33
             obtain ⟨x13_3, rfl, HA, HK3, HO_6, HO_11, HO_12, HB⟩ := hrel
             cases gk with
             | zero => exact absurd HA.out (by simp [abacuslaw18_RelateSorted.l1])
             | succ k3 =>
              have H := HA.out
              clear HA
              simp only [abacuslaw18_RelateSorted.l1] at H
              by_cases c89 : x13_3 < (t288.length : Int)
              ·
               rw [if_pos c89] at H
               have c89b0 : decide (x13_3 < (t288.length : Int)) = true := decide_eq_true c89
               clear c89
               by_cases c90 : 0 ≤ x13_3
               ·
                rw [if_pos c90] at H
                have c90b0 : decide (0 ≤ x13_3) = true := decide_eq_true c90
                clear c90
                by_cases c91 : (rd t288 x13_3) = x13_3
                ·
                 rw [if_pos c91] at H
                 have c91b0 : ((rd t288 x13_3) == x13_3) = true := beq_iff_eq.mpr c91
                 have c91b1 : ((rd t288 x13_3) != x13_3) = false := bne_eq_false_iff_eq.mpr c91
                 clear c91
                 by_cases c92 : x13_3 < (t294.length : Int)
                 ·
                  rw [if_pos c92] at H
                  have c92b0 : decide (x13_3 < (t294.length : Int)) = true := decide_eq_true c92
                  clear c92
                  by_cases c93 : x13_3 < (t261.length : Int)
                  ·
                   rw [if_pos c93] at H
                   have c93b0 : decide (x13_3 < (t261.length : Int)) = true := decide_eq_true c93
                   clear c93
                   by_cases c94 : (rd t294 x13_3) = (rd t261 x13_3)
                   ·
                    rw [if_pos c94] at H
                    have c94b0 : ((rd t294 x13_3) == (rd t261 x13_3)) = true := beq_iff_eq.mpr c94
                    have c94b1 : ((rd t294 x13_3) != (rd t261 x13_3)) = false := bne_eq_false_iff_eq.mpr c94
                    clear c94
                    have H' := Aside0.mk H
                    clear H
                    obtain ⟨Ao95, co95, eo95⟩ := Kd.R_slice HO_11.out
                    subst eo95
                    try go_wp2
                    have n0_ := Aside0.mk (Kd.R_drew HO_6.out)
                    have n1_ := Aside0.mk (Kd.R_drew HO_11.out)
                    have n2_ := Aside0.mk (Kd.R_drew HO_12.out)
                    have n3_ := Aside0.mk (below_drew1 HB.out)
                    clear HO_6
                    clear HO_11
                    clear HO_12
                    clear HB
                    have HO_6 := n0_
                    have HO_11 := n1_
                    have HO_12 := n2_
                    have HB := n3_
                    clear n0_ n1_ n2_ n3_
                    have p297 : 0 ≤ (x13_3 : Int) := of_decide_eq_true (by exact ph1)
                    have q297 : x13_3 < (t288.length : Int) := of_decide_eq_true (by exact ph1)
                    obtain ⟨ad297, e297, hx297_0⟩ := Kd.at_int (Kd.R_reads' HO_11.out).2.2 x13_3 p297 q297
                    cases e297
                    replace p297 := eq_true p297
                    replace q297 := eq_true q297
                    obtain ⟨Ao97, co97, eo97⟩ := Kd.R_slice HO_12.out
                    (first | subst eo97 | (injection eo97 with f1_ f2_ f3_; have f4_ := f1_.symm; have f5_ := f3_.symm; clear f1_ f2_ f3_; subst f4_; subst f5_))
                    have p298 : 0 ≤ (x13_3 : Int) := of_decide_eq_true (by exact ph1)
                    have q298 : x13_3 < (t294.length : Int) := of_decide_eq_true (by exact ph1)
                    obtain ⟨ad298, e298, hx298_0⟩ := Kd.at_int (Kd.R_reads' HO_12.out).2.2 x13_3 p298 q298
                    cases e298
                    replace p298 := eq_true p298
                    replace q298 := eq_true q298
                    have p299 : 0 ≤ (x13_3 : Int) := of_decide_eq_true (by exact ph1)
                    have q299 : x13_3 < (t261.length : Int) := of_decide_eq_true (by exact ph1)
                    obtain ⟨ad299, e299, hx299_0⟩ := Kd.at_int (Kd.R_reads' HO_6.out).2.2 x13_3 p299 q299
                    cases e299
                    replace p299 := eq_true p299
                    replace q299 := eq_true q299
                    refine start_ (n := 23) (S := fun w' => w'.cell? (ad297.add (x13_3).toNat) = some (.int .i64 (rd t288 x13_3)) ∧ w'.cell? (ad298.add (x13_3).toNat) = some (.int .i64 (rd t294 x13_3)) ∧ w'.cell? (ad299.add (x13_3).toNat) = some (.int .i64 (rd t261 x13_3))) (ds := []) #[false, false, false, false, false, false, false, false, false, false, false, false, false, false, false, false, false, false, false, false, false, false, false] (by kernel_rfl) rfl rfl ⟨hx297_0, hx298_0, hx299_0⟩ (fun hHeld => ?_); refine with_tabW abacuslaw18_RelateSorted.tab27 abacuslaw18_RelateSorted.bits27 (fun HT_ HW_ => ?_)
                    generalize wr.drew = w96 at HO_6 HO_11 HO_12 HB hx297_0 hx298_0 hx299_0 hHeld ⊢
                    refine pure_ (i := 0) (N := some 139) (v := ?_) (a' := ?_) #[true, false, false, false, false, false, false, false, false, false, false, false, false, false, false, false, false, false, false, false, false, false, false] rfl rfl (any_of HT_.out (by kernel_rfl)) (fun _ _ _ h => h) (Or.inl ⟨by rfl, ?_⟩) ?_ ?_
                    rotate_left
                    ·
                     intro w'
                     go_simp
                     with_reducible rfl
                    rotate_left
                    ·
                     simp only [Act.put, List.setIfInBounds_toArray, List.set_cons_zero, List.set_cons_succ, i64_w, i32_w]
                     rfl
                    refine pure_ (i := 1) (N := some 140) (v := ?_) (a' := ?_) #[true, true, false, false, false, false, false, false, false, false, false, false, false, false, false, false, false, false, false, false, false, false, false] rfl rfl (any_of HT_.out (by kernel_rfl)) (fun _ _ _ h => h) (Or.inl ⟨by rfl, ?_⟩) ?_ ?_
                    rotate_left
                    ·
                     intro w'
                     go_simp
                     with_reducible rfl
                    rotate_left
                    ·
                     simp only [Act.put, List.setIfInBounds_toArray, List.set_cons_zero, List.set_cons_succ, i64_w, i32_w]
                     rfl
                    refine pure_ (i := 2) (N := some 141) (v := ?_) (a' := ?_) #[true, true, true, false, false, false, false, false, false, false, false, false, false, false, false, false, false, false, false, false, false, false, false] rfl rfl (any_of HT_.out (by kernel_rfl)) (fun _ _ _ h => h) (Or.inl ⟨by rfl, ?_⟩) ?_ ?_
                    rotate_left
                    ·
                     intro w'
                     go_simp
                     with_reducible rfl
                    rotate_left
                    ·
                     simp only [Act.put, List.setIfInBounds_toArray, List.set_cons_zero, List.set_cons_succ, i64_w, i32_w]
                     rfl
                    refine pure_ (i := 4) (N := some 143) (v := ?_) (a' := ?_) #[true, true, true, false, true, false, false, false, false, false, false, false, false, false, false, false, false, false, false, false, false, false, false] rfl rfl (any_of HT_.out (by kernel_rfl)) (fun _ _ _ h => h) (Or.inl ⟨by rfl, ?_⟩) ?_ ?_
                    rotate_left
                    ·
                     intro w'
                     go_simp
                     with_reducible rfl
                    rotate_left
                    ·
                     simp only [Act.put, List.setIfInBounds_toArray, List.set_cons_zero, List.set_cons_succ, i64_w, i32_w]
                     rfl
                    refine take_ (i := 3) (N := some 142) (v := ?_) (a' := ?_) #[true, true, true, true, true, false, false, false, false, false, false, false, false, false, false, false, false, false, false, false, false, false, false] rfl rfl (take_ofW HT_.out HW_.out (by kernel_rfl)) (fun _ _ _ h => h) (Or.inl ⟨by rfl, ?_⟩) hHeld ?_ ?_
                    rotate_left
                    ·
                     rintro w' ⟨s0, s1, s2⟩
                     go_simp
                     with_reducible rfl
                    rotate_left
                    ·
                     simp only [Act.put, List.setIfInBounds_toArray, List.set_cons_zero, List.set_cons_succ, i64_w, i32_w]
                     rfl
                    refine pure_ (i := 5) (N := some 144) (v := ?_) (a' := ?_) #[true, true, true, true, true, true, false, false, false, false, false, false, false, false, false, false, false, false, false, false, false, false, false] rfl rfl (any_of HT_.out (by kernel_rfl)) (fun _ _ _ h => h) (Or.inl ⟨by rfl, ?_⟩) ?_ ?_
                    rotate_left
                    ·
                     intro w'
                     go_simp
                     with_reducible rfl
                    rotate_left
                    ·
                     simp only [Act.put, List.setIfInBounds_toArray, List.set_cons_zero, List.set_cons_succ, i64_w, i32_w]
                     rfl
                    refine pure_ (i := 6) (N := some 145) (v := ?_) (a' := ?_) #[true, true, true, true, true, true, true, false, false, false, false, false, false, false, false, false, false, false, false, false, false, false, false] rfl rfl (any_of HT_.out (by kernel_rfl)) (fun _ _ _ h => h) (Or.inl ⟨by rfl, ?_⟩) ?_ ?_
                    rotate_left
                    ·
                     intro w'
                     go_simp
                     with_reducible rfl
                    rotate_left
                    ·
                     simp only [Act.put, List.setIfInBounds_toArray, List.set_cons_zero, List.set_cons_succ, i64_w, i32_w]
                     rfl
                    refine pure_ (i := 7) (N := some 146) (v := ?_) (a' := ?_) #[true, true, true, true, true, true, true, true, false, false, false, false, false, false, false, false, false, false, false, false, false, false, false] rfl rfl (any_of HT_.out (by kernel_rfl)) (fun _ _ _ h => h) (Or.inl ⟨by rfl, ?_⟩) ?_ ?_
                    rotate_left
                    ·
                     intro w'
                     go_simp
                     with_reducible rfl
                    rotate_left
                    ·
                     simp only [Act.put, List.setIfInBounds_toArray, List.set_cons_zero, List.set_cons_succ, i64_w, i32_w]
                     rfl
                    refine pure_ (i := 8) (N := some 147) (v := ?_) (a' := ?_) #[true, true, true, true, true, true, true, true, true, false, false, false, false, false, false, false, false, false, false, false, false, false, false] rfl rfl (any_of HT_.out (by kernel_rfl)) (fun _ _ _ h => h) (Or.inl ⟨by rfl, ?_⟩) ?_ ?_
                    rotate_left
                    ·
                     intro w'
                     go_simp
                     with_reducible rfl
                    rotate_left
                    ·
                     simp only [Act.put, List.setIfInBounds_toArray, List.set_cons_zero, List.set_cons_succ, i64_w, i32_w]
                     rfl
                    refine pure_ (i := 9) (N := some 148) (v := ?_) (a' := ?_) #[true, true, true, true, true, true, true, true, true, true, false, false, false, false, false, false, false, false, false, false, false, false, false] rfl rfl (any_of HT_.out (by kernel_rfl)) (fun _ _ _ h => h) (Or.inl ⟨by rfl, ?_⟩) ?_ ?_
                    rotate_left
                    ·
                     intro w'
                     go_simp
                     with_reducible rfl
                    rotate_left
                    ·
                     simp only [Act.put, List.setIfInBounds_toArray, List.set_cons_zero, List.set_cons_succ, i64_w, i32_w]
                     rfl
                    refine pure_ (i := 10) (N := some 149) (v := ?_) (a' := ?_) #[true, true, true, true, true, true, true, true, true, true, true, false, false, false, false, false, false, false, false, false, false, false, false] rfl rfl (any_of HT_.out (by kernel_rfl)) (fun _ _ _ h => h) (Or.inl ⟨by rfl, ?_⟩) ?_ ?_
                    rotate_left
                    ·
                     intro w'
                     go_simp
                     with_reducible rfl
                    rotate_left
                    ·
                     simp only [Act.put, List.setIfInBounds_toArray, List.set_cons_zero, List.set_cons_succ, i64_w, i32_w]
                     rfl
                    refine pure_ (i := 11) (N := some 150) (v := ?_) (a' := ?_) #[true, true, true, true, true, true, true, true, true, true, true, true, false, false, false, false, false, false, false, false, false, false, false] rfl rfl (any_of HT_.out (by kernel_rfl)) (fun _ _ _ h => h) (Or.inl ⟨by rfl, ?_⟩) ?_ ?_
                    rotate_left
                    ·
                     intro w'
                     go_simp
                     with_reducible rfl
                    rotate_left
                    ·
                     simp only [Act.put, List.setIfInBounds_toArray, List.set_cons_zero, List.set_cons_succ, i64_w, i32_w]
                     rfl
                    refine pure_ (i := 12) (N := some 151) (v := ?_) (a' := ?_) #[true, true, true, true, true, true, true, true, true, true, true, true, true, false, false, false, false, false, false, false, false, false, false] rfl rfl (any_of HT_.out (by kernel_rfl)) (fun _ _ _ h => h) (Or.inl ⟨by rfl, ?_⟩) ?_ ?_
                    rotate_left
                    ·
                     intro w'
                     go_simp
                     with_reducible rfl
                    rotate_left
                    ·
                     simp only [Act.put, List.setIfInBounds_toArray, List.set_cons_zero, List.set_cons_succ, i64_w, i32_w]
                     rfl
                    refine pure_ (i := 13) (N := some 152) (v := ?_) (a' := ?_) #[true, true, true, true, true, true, true, true, true, true, true, true, true, true, false, false, false, false, false, false, false, false, false] rfl rfl (any_of HT_.out (by kernel_rfl)) (fun _ _ _ h => h) (Or.inl ⟨by rfl, ?_⟩) ?_ ?_
                    rotate_left
                    ·
                     intro w'
                     go_simp
                     with_reducible rfl
                    rotate_left
                    ·
                     simp only [Act.put, List.setIfInBounds_toArray, List.set_cons_zero, List.set_cons_succ, i64_w, i32_w]
                     rfl
                    refine pure_ (i := 14) (N := some 153) (v := ?_) (a' := ?_) #[true, true, true, true, true, true, true, true, true, true, true, true, true, true, true, false, false, false, false, false, false, false, false] rfl rfl (any_of HT_.out (by kernel_rfl)) (fun _ _ _ h => h) (Or.inl ⟨by rfl, ?_⟩) ?_ ?_
                    rotate_left
                    ·
                     intro w'
                     go_simp
                     with_reducible rfl
                    rotate_left
                    ·
                     simp only [Act.put, List.setIfInBounds_toArray, List.set_cons_zero, List.set_cons_succ, i64_w, i32_w]
                     rfl
                    refine pure_ (i := 16) (N := some 155) (v := ?_) (a' := ?_) #[true, true, true, true, true, true, true, true, true, true, true, true, true, true, true, false, true, false, false, false, false, false, false] rfl rfl (any_of HT_.out (by kernel_rfl)) (fun _ _ _ h => h) (Or.inl ⟨by rfl, ?_⟩) ?_ ?_
                    rotate_left
                    ·
                     intro w'
                     go_simp
                     with_reducible rfl
                    rotate_left
                    ·
                     simp only [Act.put, List.setIfInBounds_toArray, List.set_cons_zero, List.set_cons_succ, i64_w, i32_w]
                     rfl
                    refine pure_ (i := 17) (N := some 156) (v := ?_) (a' := ?_) #[true, true, true, true, true, true, true, true, true, true, true, true, true, true, true, false, true, true, false, false, false, false, false] rfl rfl (any_of HT_.out (by kernel_rfl)) (fun _ _ _ h => h) (Or.inl ⟨by rfl, ?_⟩) ?_ ?_
                    rotate_left
                    ·
                     intro w'
                     go_simp
                     with_reducible rfl
                    rotate_left
                    ·
                     simp only [Act.put, List.setIfInBounds_toArray, List.set_cons_zero, List.set_cons_succ, i64_w, i32_w]
                     rfl
                    refine pure_ (i := 18) (N := some 157) (v := ?_) (a' := ?_) #[true, true, true, true, true, true, true, true, true, true, true, true, true, true, true, false, true, true, true, false, false, false, false] rfl rfl (any_of HT_.out (by kernel_rfl)) (fun _ _ _ h => h) (Or.inl ⟨by rfl, ?_⟩) ?_ ?_
                    rotate_left
                    ·
                     intro w'
                     go_simp
                     with_reducible rfl
                    rotate_left
                    ·
                     simp only [Act.put, List.setIfInBounds_toArray, List.set_cons_zero, List.set_cons_succ, i64_w, i32_w]
                     rfl
                    refine take_ (i := 15) (N := some 154) (v := ?_) (a' := ?_) #[true, true, true, true, true, true, true, true, true, true, true, true, true, true, true, true, true, true, true, false, false, false, false] rfl rfl (take_ofW HT_.out HW_.out (by kernel_rfl)) (fun _ _ _ h => h) (Or.inl ⟨by rfl, ?_⟩) hHeld ?_ ?_
                    rotate_left
                    ·
                     rintro w' ⟨s0, s1, s2⟩
                     go_simp
                     with_reducible rfl
                    rotate_left
                    ·
                     simp only [Act.put, List.setIfInBounds_toArray, List.set_cons_zero, List.set_cons_succ, i64_w, i32_w]
                     rfl
                    refine take_ (i := 19) (N := some 158) (v := ?_) (a' := ?_) #[true, true, true, true, true, true, true, true, true, true, true, true, true, true, true, true, true, true, true, true, false, false, false] rfl rfl (take_ofW HT_.out HW_.out (by kernel_rfl)) (fun _ _ _ h => h) (Or.inl ⟨by rfl, ?_⟩) hHeld ?_ ?_
                    rotate_left
                    ·
                     rintro w' ⟨s0, s1, s2⟩
                     go_simp
                     with_reducible rfl
                    rotate_left
                    ·
                     simp only [Act.put, List.setIfInBounds_toArray, List.set_cons_zero, List.set_cons_succ, i64_w, i32_w]
                     rfl
                    refine pure_ (i := 20) (N := some 159) (v := ?_) (a' := ?_) #[true, true, true, true, true, true, true, true, true, true, true, true, true, true, true, true, true, true, true, true, true, false, false] rfl rfl (any_of HT_.out (by kernel_rfl)) (fun _ _ _ h => h) (Or.inl ⟨by rfl, ?_⟩) ?_ ?_
                    rotate_left
                    ·
                     intro w'
                     go_simp
                     with_reducible rfl
                    rotate_left
                    ·
                     simp only [Act.put, List.setIfInBounds_toArray, List.set_cons_zero, List.set_cons_succ, i64_w, i32_w]
                     rfl
                    refine pure_ (i := 21) (N := some 160) (v := ?_) (a' := ?_) #[true, true, true, true, true, true, true, true, true, true, true, true, true, true, true, true, true, true, true, true, true, true, false] rfl rfl (any_of HT_.out (by kernel_rfl)) (fun _ _ _ h => h) (Or.inl ⟨by rfl, ?_⟩) ?_ ?_
                    rotate_left
                    ·
                     intro w'
                     go_simp
                     with_reducible rfl
                    rotate_left
                    ·
                     simp only [Act.put, List.setIfInBounds_toArray, List.set_cons_zero, List.set_cons_succ, i64_w, i32_w]
                     rfl
                    refine pure_ (i := 22) (N := some 161) (v := ?_) (a' := ?_) #[true, true, true, true, true, true, true, true, true, true, true, true, true, true, true, true, true, true, true, true, true, true, true] rfl rfl (any_of HT_.out (by kernel_rfl)) (fun _ _ _ h => h) (Or.inl ⟨by rfl, ?_⟩) ?_ ?_
                    rotate_left
                    ·
                     intro w'
                     go_simp
                     with_reducible rfl
                    rotate_left
                    ·
                     simp only [Act.put, List.setIfInBounds_toArray, List.set_cons_zero, List.set_cons_succ, i64_w, i32_w]
                     rfl
                    refine done_ (done_of HT_.out (by kernel_rfl)) ?_
                    try go_wp2
                    go_roundg k3
                    case measure => have := HK1.out; have := HJ75.out; have := HK3.out; omega
                    case rel => exact ⟨(wrap64 (x13_3 + 1)), (by exact ph6), H', ⟨by have := HK1.out; have := HJ75.out; have := HK3.out; omega⟩, ⟨by exact ph3⟩, ⟨by exact ph14⟩, ⟨by exact ph15⟩, ⟨by exact ph2⟩⟩
                   ·
                    rw [if_neg c94] at H
                    have c94b0 : ((rd t294 x13_3) == (rd t261 x13_3)) = false := beq_eq_false_iff_ne.mpr c94
                    have c94b1 : ((rd t294 x13_3) != (rd t261 x13_3)) = true := bne_iff_ne.mpr c94
                    obtain rfl := Option.some.inj H
                    obtain ⟨Ao98, co98, eo98⟩ := Kd.R_slice HO_11.out
                    subst eo98
                    try go_wp2
                    have n0_ := Aside0.mk (Kd.R_drew HO_6.out)
                    have n1_ := Aside0.mk (Kd.R_drew HO_11.out)
                    have n2_ := Aside0.mk (Kd.R_drew HO_12.out)
                    have n3_ := Aside0.mk (below_drew1 HB.out)
                    clear HO_6
                    clear HO_11
                    clear HO_12
                    clear HB
                    have HO_6 := n0_
                    have HO_11 := n1_
                    have HO_12 := n2_
                    have HB := n3_
                    clear n0_ n1_ n2_ n3_
                    have p297 : 0 ≤ (x13_3 : Int) := of_decide_eq_true (by exact ph1)
                    have q297 : x13_3 < (t288.length : Int) := of_decide_eq_true (by exact ph1)
                    obtain ⟨ad297, e297, hx297_0⟩ := Kd.at_int (Kd.R_reads' HO_11.out).2.2 x13_3 p297 q297
                    cases e297
                    replace p297 := eq_true p297
                    replace q297 := eq_true q297
                    obtain ⟨Ao100, co100, eo100⟩ := Kd.R_slice HO_12.out
                    (first | subst eo100 | (injection eo100 with f1_ f2_ f3_; have f4_ := f1_.symm; have f5_ := f3_.symm; clear f1_ f2_ f3_; subst f4_; subst f5_))
                    have p298 : 0 ≤ (x13_3 : Int) := of_decide_eq_true (by exact ph1)
                    have q298 : x13_3 < (t294.length : Int) := of_decide_eq_true (by exact ph1)
                    obtain ⟨ad298, e298, hx298_0⟩ := Kd.at_int (Kd.R_reads' HO_12.out).2.2 x13_3 p298 q298
                    cases e298
                    replace p298 := eq_true p298
                    replace q298 := eq_true q298
                    have p299 : 0 ≤ (x13_3 : Int) := of_decide_eq_true (by exact ph1)
                    have q299 : x13_3 < (t261.length : Int) := of_decide_eq_true (by exact ph1)
                    obtain ⟨ad299, e299, hx299_0⟩ := Kd.at_int (Kd.R_reads' HO_6.out).2.2 x13_3 p299 q299
                    cases e299
                    replace p299 := eq_true p299
                    replace q299 := eq_true q299
                    refine start_ (n := 23) (S := fun w' => w'.cell? (ad297.add (x13_3).toNat) = some (.int .i64 (rd t288 x13_3)) ∧ w'.cell? (ad298.add (x13_3).toNat) = some (.int .i64 (rd t294 x13_3)) ∧ w'.cell? (ad299.add (x13_3).toNat) = some (.int .i64 (rd t261 x13_3))) (ds := []) #[false, false, false, false, false, false, false, false, false, false, false, false, false, false, false, false, false, false, false, false, false, false, false] (by kernel_rfl) rfl rfl ⟨hx297_0, hx298_0, hx299_0⟩ (fun hHeld => ?_); refine with_tabW abacuslaw18_RelateSorted.tab27 abacuslaw18_RelateSorted.bits27 (fun HT_ HW_ => ?_)
                    generalize wr.drew = w99 at HO_6 HO_11 HO_12 HB hx297_0 hx298_0 hx299_0 hHeld ⊢
                    refine pure_ (i := 0) (N := some 139) (v := ?_) (a' := ?_) #[true, false, false, false, false, false, false, false, false, false, false, false, false, false, false, false, false, false, false, false, false, false, false] rfl rfl (any_of HT_.out (by kernel_rfl)) (fun _ _ _ h => h) (Or.inl ⟨by rfl, ?_⟩) ?_ ?_
                    rotate_left
                    ·
                     intro w'
                     go_simp
                     with_reducible rfl
                    rotate_left
                    ·
                     simp only [Act.put, List.setIfInBounds_toArray, List.set_cons_zero, List.set_cons_succ, i64_w, i32_w]
                     rfl
                    refine pure_ (i := 1) (N := some 140) (v := ?_) (a' := ?_) #[true, true, false, false, false, false, false, false, false, false, false, false, false, false, false, false, false, false, false, false, false, false, false] rfl rfl (any_of HT_.out (by kernel_rfl)) (fun _ _ _ h => h) (Or.inl ⟨by rfl, ?_⟩) ?_ ?_
                    rotate_left
                    ·
                     intro w'
                     go_simp
                     with_reducible rfl
                    rotate_left
                    ·
                     simp only [Act.put, List.setIfInBounds_toArray, List.set_cons_zero, List.set_cons_succ, i64_w, i32_w]
                     rfl
                    refine pure_ (i := 2) (N := some 141) (v := ?_) (a' := ?_) #[true, true, true, false, false, false, false, false, false, false, false, false, false, false, false, false, false, false, false, false, false, false, false] rfl rfl (any_of HT_.out (by kernel_rfl)) (fun _ _ _ h => h) (Or.inl ⟨by rfl, ?_⟩) ?_ ?_
                    rotate_left
                    ·
                     intro w'
                     go_simp
                     with_reducible rfl
                    rotate_left
                    ·
                     simp only [Act.put, List.setIfInBounds_toArray, List.set_cons_zero, List.set_cons_succ, i64_w, i32_w]
                     rfl
                    refine pure_ (i := 4) (N := some 143) (v := ?_) (a' := ?_) #[true, true, true, false, true, false, false, false, false, false, false, false, false, false, false, false, false, false, false, false, false, false, false] rfl rfl (any_of HT_.out (by kernel_rfl)) (fun _ _ _ h => h) (Or.inl ⟨by rfl, ?_⟩) ?_ ?_
                    rotate_left
                    ·
                     intro w'
                     go_simp
                     with_reducible rfl
                    rotate_left
                    ·
                     simp only [Act.put, List.setIfInBounds_toArray, List.set_cons_zero, List.set_cons_succ, i64_w, i32_w]
                     rfl
                    refine take_ (i := 3) (N := some 142) (v := ?_) (a' := ?_) #[true, true, true, true, true, false, false, false, false, false, false, false, false, false, false, false, false, false, false, false, false, false, false] rfl rfl (take_ofW HT_.out HW_.out (by kernel_rfl)) (fun _ _ _ h => h) (Or.inl ⟨by rfl, ?_⟩) hHeld ?_ ?_
                    rotate_left
                    ·
                     rintro w' ⟨s0, s1, s2⟩
                     go_simp
                     with_reducible rfl
                    rotate_left
                    ·
                     simp only [Act.put, List.setIfInBounds_toArray, List.set_cons_zero, List.set_cons_succ, i64_w, i32_w]
                     rfl
                    refine pure_ (i := 5) (N := some 144) (v := ?_) (a' := ?_) #[true, true, true, true, true, true, false, false, false, false, false, false, false, false, false, false, false, false, false, false, false, false, false] rfl rfl (any_of HT_.out (by kernel_rfl)) (fun _ _ _ h => h) (Or.inl ⟨by rfl, ?_⟩) ?_ ?_
                    rotate_left
                    ·
                     intro w'
                     go_simp
                     with_reducible rfl
                    rotate_left
                    ·
                     simp only [Act.put, List.setIfInBounds_toArray, List.set_cons_zero, List.set_cons_succ, i64_w, i32_w]
                     rfl
                    refine pure_ (i := 6) (N := some 145) (v := ?_) (a' := ?_) #[true, true, true, true, true, true, true, false, false, false, false, false, false, false, false, false, false, false, false, false, false, false, false] rfl rfl (any_of HT_.out (by kernel_rfl)) (fun _ _ _ h => h) (Or.inl ⟨by rfl, ?_⟩) ?_ ?_
                    rotate_left
                    ·
                     intro w'
                     go_simp
                     with_reducible rfl
                    rotate_left
                    ·
                     simp only [Act.put, List.setIfInBounds_toArray, List.set_cons_zero, List.set_cons_succ, i64_w, i32_w]
                     rfl
                    refine pure_ (i := 7) (N := some 146) (v := ?_) (a' := ?_) #[true, true, true, true, true, true, true, true, false, false, false, false, false, false, false, false, false, false, false, false, false, false, false] rfl rfl (any_of HT_.out (by kernel_rfl)) (fun _ _ _ h => h) (Or.inl ⟨by rfl, ?_⟩) ?_ ?_
                    rotate_left
                    ·
                     intro w'
                     go_simp
                     with_reducible rfl
                    rotate_left
                    ·
                     simp only [Act.put, List.setIfInBounds_toArray, List.set_cons_zero, List.set_cons_succ, i64_w, i32_w]
                     rfl
                    refine pure_ (i := 8) (N := some 147) (v := ?_) (a' := ?_) #[true, true, true, true, true, true, true, true, true, false, false, false, false, false, false, false, false, false, false, false, false, false, false] rfl rfl (any_of HT_.out (by kernel_rfl)) (fun _ _ _ h => h) (Or.inl ⟨by rfl, ?_⟩) ?_ ?_
                    rotate_left
                    ·
                     intro w'
                     go_simp
                     with_reducible rfl
                    rotate_left
                    ·
                     simp only [Act.put, List.setIfInBounds_toArray, List.set_cons_zero, List.set_cons_succ, i64_w, i32_w]
                     rfl
                    refine pure_ (i := 9) (N := some 148) (v := ?_) (a' := ?_) #[true, true, true, true, true, true, true, true, true, true, false, false, false, false, false, false, false, false, false, false, false, false, false] rfl rfl (any_of HT_.out (by kernel_rfl)) (fun _ _ _ h => h) (Or.inl ⟨by rfl, ?_⟩) ?_ ?_
                    rotate_left
                    ·
                     intro w'
                     go_simp
                     with_reducible rfl
                    rotate_left
                    ·
                     simp only [Act.put, List.setIfInBounds_toArray, List.set_cons_zero, List.set_cons_succ, i64_w, i32_w]
                     rfl
                    refine pure_ (i := 10) (N := some 149) (v := ?_) (a' := ?_) #[true, true, true, true, true, true, true, true, true, true, true, false, false, false, false, false, false, false, false, false, false, false, false] rfl rfl (any_of HT_.out (by kernel_rfl)) (fun _ _ _ h => h) (Or.inl ⟨by rfl, ?_⟩) ?_ ?_
                    rotate_left
                    ·
                     intro w'
                     go_simp
                     with_reducible rfl
                    rotate_left
                    ·
                     simp only [Act.put, List.setIfInBounds_toArray, List.set_cons_zero, List.set_cons_succ, i64_w, i32_w]
                     rfl
                    refine pure_ (i := 11) (N := some 150) (v := ?_) (a' := ?_) #[true, true, true, true, true, true, true, true, true, true, true, true, false, false, false, false, false, false, false, false, false, false, false] rfl rfl (any_of HT_.out (by kernel_rfl)) (fun _ _ _ h => h) (Or.inl ⟨by rfl, ?_⟩) ?_ ?_
                    rotate_left
                    ·
                     intro w'
                     go_simp
                     with_reducible rfl
                    rotate_left
                    ·
                     simp only [Act.put, List.setIfInBounds_toArray, List.set_cons_zero, List.set_cons_succ, i64_w, i32_w]
                     rfl
                    refine pure_ (i := 12) (N := some 151) (v := ?_) (a' := ?_) #[true, true, true, true, true, true, true, true, true, true, true, true, true, false, false, false, false, false, false, false, false, false, false] rfl rfl (any_of HT_.out (by kernel_rfl)) (fun _ _ _ h => h) (Or.inl ⟨by rfl, ?_⟩) ?_ ?_
                    rotate_left
                    ·
                     intro w'
                     go_simp
                     with_reducible rfl
                    rotate_left
                    ·
                     simp only [Act.put, List.setIfInBounds_toArray, List.set_cons_zero, List.set_cons_succ, i64_w, i32_w]
                     rfl
                    refine pure_ (i := 13) (N := some 152) (v := ?_) (a' := ?_) #[true, true, true, true, true, true, true, true, true, true, true, true, true, true, false, false, false, false, false, false, false, false, false] rfl rfl (any_of HT_.out (by kernel_rfl)) (fun _ _ _ h => h) (Or.inl ⟨by rfl, ?_⟩) ?_ ?_
                    rotate_left
                    ·
                     intro w'
                     go_simp
                     with_reducible rfl
                    rotate_left
                    ·
                     simp only [Act.put, List.setIfInBounds_toArray, List.set_cons_zero, List.set_cons_succ, i64_w, i32_w]
                     rfl
                    refine pure_ (i := 14) (N := some 153) (v := ?_) (a' := ?_) #[true, true, true, true, true, true, true, true, true, true, true, true, true, true, true, false, false, false, false, false, false, false, false] rfl rfl (any_of HT_.out (by kernel_rfl)) (fun _ _ _ h => h) (Or.inl ⟨by rfl, ?_⟩) ?_ ?_
                    rotate_left
                    ·
                     intro w'
                     go_simp
                     with_reducible rfl
                    rotate_left
                    ·
                     simp only [Act.put, List.setIfInBounds_toArray, List.set_cons_zero, List.set_cons_succ, i64_w, i32_w]
                     rfl
                    refine pure_ (i := 16) (N := some 155) (v := ?_) (a' := ?_) #[true, true, true, true, true, true, true, true, true, true, true, true, true, true, true, false, true, false, false, false, false, false, false] rfl rfl (any_of HT_.out (by kernel_rfl)) (fun _ _ _ h => h) (Or.inl ⟨by rfl, ?_⟩) ?_ ?_
                    rotate_left
                    ·
                     intro w'
                     go_simp
                     with_reducible rfl
                    rotate_left
                    ·
                     simp only [Act.put, List.setIfInBounds_toArray, List.set_cons_zero, List.set_cons_succ, i64_w, i32_w]
                     rfl
                    refine pure_ (i := 17) (N := some 156) (v := ?_) (a' := ?_) #[true, true, true, true, true, true, true, true, true, true, true, true, true, true, true, false, true, true, false, false, false, false, false] rfl rfl (any_of HT_.out (by kernel_rfl)) (fun _ _ _ h => h) (Or.inl ⟨by rfl, ?_⟩) ?_ ?_
                    rotate_left
                    ·
                     intro w'
                     go_simp
                     with_reducible rfl
                    rotate_left
                    ·
                     simp only [Act.put, List.setIfInBounds_toArray, List.set_cons_zero, List.set_cons_succ, i64_w, i32_w]
                     rfl
                    refine pure_ (i := 18) (N := some 157) (v := ?_) (a' := ?_) #[true, true, true, true, true, true, true, true, true, true, true, true, true, true, true, false, true, true, true, false, false, false, false] rfl rfl (any_of HT_.out (by kernel_rfl)) (fun _ _ _ h => h) (Or.inl ⟨by rfl, ?_⟩) ?_ ?_
                    rotate_left
                    ·
                     intro w'
                     go_simp
                     with_reducible rfl
                    rotate_left
                    ·
                     simp only [Act.put, List.setIfInBounds_toArray, List.set_cons_zero, List.set_cons_succ, i64_w, i32_w]
                     rfl
                    refine take_ (i := 15) (N := some 154) (v := ?_) (a' := ?_) #[true, true, true, true, true, true, true, true, true, true, true, true, true, true, true, true, true, true, true, false, false, false, false] rfl rfl (take_ofW HT_.out HW_.out (by kernel_rfl)) (fun _ _ _ h => h) (Or.inl ⟨by rfl, ?_⟩) hHeld ?_ ?_
                    rotate_left
                    ·
                     rintro w' ⟨s0, s1, s2⟩
                     go_simp
                     with_reducible rfl
                    rotate_left
                    ·
                     simp only [Act.put, List.setIfInBounds_toArray, List.set_cons_zero, List.set_cons_succ, i64_w, i32_w]
                     rfl
                    refine take_ (i := 19) (N := some 158) (v := ?_) (a' := ?_) #[true, true, true, true, true, true, true, true, true, true, true, true, true, true, true, true, true, true, true, true, false, false, false] rfl rfl (take_ofW HT_.out HW_.out (by kernel_rfl)) (fun _ _ _ h => h) (Or.inl ⟨by rfl, ?_⟩) hHeld ?_ ?_
                    rotate_left
                    ·
                     rintro w' ⟨s0, s1, s2⟩
                     go_simp
                     with_reducible rfl
                    rotate_left
                    ·
                     simp only [Act.put, List.setIfInBounds_toArray, List.set_cons_zero, List.set_cons_succ, i64_w, i32_w]
                     rfl
                    refine pure_ (i := 20) (N := some 159) (v := ?_) (a' := ?_) #[true, true, true, true, true, true, true, true, true, true, true, true, true, true, true, true, true, true, true, true, true, false, false] rfl rfl (any_of HT_.out (by kernel_rfl)) (fun _ _ _ h => h) (Or.inl ⟨by rfl, ?_⟩) ?_ ?_
                    rotate_left
                    ·
                     intro w'
                     go_simp
                     with_reducible rfl
                    rotate_left
                    ·
                     simp only [Act.put, List.setIfInBounds_toArray, List.set_cons_zero, List.set_cons_succ, i64_w, i32_w]
                     rfl
                    refine pure_ (i := 21) (N := some 160) (v := ?_) (a' := ?_) #[true, true, true, true, true, true, true, true, true, true, true, true, true, true, true, true, true, true, true, true, true, true, false] rfl rfl (any_of HT_.out (by kernel_rfl)) (fun _ _ _ h => h) (Or.inl ⟨by rfl, ?_⟩) ?_ ?_
                    rotate_left
                    ·
                     intro w'
                     go_simp
                     with_reducible rfl
                    rotate_left
                    ·
                     simp only [Act.put, List.setIfInBounds_toArray, List.set_cons_zero, List.set_cons_succ, i64_w, i32_w]
                     rfl
                    refine pure_ (i := 22) (N := some 161) (v := ?_) (a' := ?_) #[true, true, true, true, true, true, true, true, true, true, true, true, true, true, true, true, true, true, true, true, true, true, true] rfl rfl (any_of HT_.out (by kernel_rfl)) (fun _ _ _ h => h) (Or.inl ⟨by rfl, ?_⟩) ?_ ?_
                    rotate_left
                    ·
                     intro w'
                     go_simp
                     with_reducible rfl
                    rotate_left
                    ·
                     simp only [Act.put, List.setIfInBounds_toArray, List.set_cons_zero, List.set_cons_succ, i64_w, i32_w]
                     rfl
                    refine done_ (done_of HT_.out (by kernel_rfl)) ?_
                    try go_wp2
                    go_ret
                    exact ⟨by exact ph10, by exact ph2⟩
                  ·
                   rw [if_neg c93] at H
                   exact absurd H (by simp)
                 ·
                  rw [if_neg c92] at H
                  have c92b0 : decide (x13_3 < (t294.length : Int)) = false := decide_eq_false c92
                  clear c92
                  have H' := Aside0.mk H
                  clear H
                  obtain ⟨Ao101, co101, eo101⟩ := Kd.R_slice HO_11.out
                  subst eo101
                  try go_wp2
                  have n0_ := Aside0.mk (Kd.R_drew HO_6.out)
                  have n1_ := Aside0.mk (Kd.R_drew HO_11.out)
                  have n2_ := Aside0.mk (Kd.R_drew HO_12.out)
                  have n3_ := Aside0.mk (below_drew1 HB.out)
                  clear HO_6
                  clear HO_11
                  clear HO_12
                  clear HB
                  have HO_6 := n0_
                  have HO_11 := n1_
                  have HO_12 := n2_
                  have HB := n3_
                  clear n0_ n1_ n2_ n3_
                  have p297 : 0 ≤ (x13_3 : Int) := of_decide_eq_true (by exact ph1)
                  have q297 : x13_3 < (t288.length : Int) := of_decide_eq_true (by exact ph1)
                  obtain ⟨ad297, e297, hx297_0⟩ := Kd.at_int (Kd.R_reads' HO_11.out).2.2 x13_3 p297 q297
                  cases e297
                  replace p297 := eq_true p297
                  replace q297 := eq_true q297
                  obtain ⟨Ao103, co103, eo103⟩ := Kd.R_slice HO_12.out
                  (first | subst eo103 | (injection eo103 with f1_ f2_ f3_; have f4_ := f1_.symm; have f5_ := f3_.symm; clear f1_ f2_ f3_; subst f4_; subst f5_))
                  refine start_ (n := 23) (S := fun w' => w'.cell? (ad297.add (x13_3).toNat) = some (.int .i64 (rd t288 x13_3))) (ds := []) #[false, false, false, false, false, false, false, false, false, false, false, false, false, false, false, false, false, false, false, false, false, false, false] (by kernel_rfl) rfl rfl (hx297_0) (fun hHeld => ?_); refine with_tabW abacuslaw18_RelateSorted.tab27 abacuslaw18_RelateSorted.bits27 (fun HT_ HW_ => ?_)
                  generalize wr.drew = w102 at HO_6 HO_11 HO_12 HB hx297_0 hHeld ⊢
                  refine pure_ (i := 0) (N := some 139) (v := ?_) (a' := ?_) #[true, false, false, false, false, false, false, false, false, false, false, false, false, false, false, false, false, false, false, false, false, false, false] rfl rfl (any_of HT_.out (by kernel_rfl)) (fun _ _ _ h => h) (Or.inl ⟨by rfl, ?_⟩) ?_ ?_
                  rotate_left
                  ·
                   intro w'
                   go_simp
                   with_reducible rfl
                  rotate_left
                  ·
                   simp only [Act.put, List.setIfInBounds_toArray, List.set_cons_zero, List.set_cons_succ, i64_w, i32_w]
                   rfl
                  refine pure_ (i := 1) (N := some 140) (v := ?_) (a' := ?_) #[true, true, false, false, false, false, false, false, false, false, false, false, false, false, false, false, false, false, false, false, false, false, false] rfl rfl (any_of HT_.out (by kernel_rfl)) (fun _ _ _ h => h) (Or.inl ⟨by rfl, ?_⟩) ?_ ?_
                  rotate_left
                  ·
                   intro w'
                   go_simp
                   with_reducible rfl
                  rotate_left
                  ·
                   simp only [Act.put, List.setIfInBounds_toArray, List.set_cons_zero, List.set_cons_succ, i64_w, i32_w]
                   rfl
                  refine pure_ (i := 2) (N := some 141) (v := ?_) (a' := ?_) #[true, true, true, false, false, false, false, false, false, false, false, false, false, false, false, false, false, false, false, false, false, false, false] rfl rfl (any_of HT_.out (by kernel_rfl)) (fun _ _ _ h => h) (Or.inl ⟨by rfl, ?_⟩) ?_ ?_
                  rotate_left
                  ·
                   intro w'
                   go_simp
                   with_reducible rfl
                  rotate_left
                  ·
                   simp only [Act.put, List.setIfInBounds_toArray, List.set_cons_zero, List.set_cons_succ, i64_w, i32_w]
                   rfl
                  refine pure_ (i := 4) (N := some 143) (v := ?_) (a' := ?_) #[true, true, true, false, true, false, false, false, false, false, false, false, false, false, false, false, false, false, false, false, false, false, false] rfl rfl (any_of HT_.out (by kernel_rfl)) (fun _ _ _ h => h) (Or.inl ⟨by rfl, ?_⟩) ?_ ?_
                  rotate_left
                  ·
                   intro w'
                   go_simp
                   with_reducible rfl
                  rotate_left
                  ·
                   simp only [Act.put, List.setIfInBounds_toArray, List.set_cons_zero, List.set_cons_succ, i64_w, i32_w]
                   rfl
                  refine take_ (i := 3) (N := some 142) (v := ?_) (a' := ?_) #[true, true, true, true, true, false, false, false, false, false, false, false, false, false, false, false, false, false, false, false, false, false, false] rfl rfl (take_ofW HT_.out HW_.out (by kernel_rfl)) (fun _ _ _ h => h) (Or.inl ⟨by rfl, ?_⟩) hHeld ?_ ?_
                  rotate_left
                  ·
                   intro w' s0
                   go_simp
                   with_reducible rfl
                  rotate_left
                  ·
                   simp only [Act.put, List.setIfInBounds_toArray, List.set_cons_zero, List.set_cons_succ, i64_w, i32_w]
                   rfl
                  refine pure_ (i := 5) (N := some 144) (v := ?_) (a' := ?_) #[true, true, true, true, true, true, false, false, false, false, false, false, false, false, false, false, false, false, false, false, false, false, false] rfl rfl (any_of HT_.out (by kernel_rfl)) (fun _ _ _ h => h) (Or.inl ⟨by rfl, ?_⟩) ?_ ?_
                  rotate_left
                  ·
                   intro w'
                   go_simp
                   with_reducible rfl
                  rotate_left
                  ·
                   simp only [Act.put, List.setIfInBounds_toArray, List.set_cons_zero, List.set_cons_succ, i64_w, i32_w]
                   rfl
                  refine pure_ (i := 6) (N := some 145) (v := ?_) (a' := ?_) #[true, true, true, true, true, true, true, false, false, false, false, false, false, false, false, false, false, false, false, false, false, false, false] rfl rfl (any_of HT_.out (by kernel_rfl)) (fun _ _ _ h => h) (Or.inl ⟨by rfl, ?_⟩) ?_ ?_
                  rotate_left
                  ·
                   intro w'
                   go_simp
                   with_reducible rfl
                  rotate_left
                  ·
                   simp only [Act.put, List.setIfInBounds_toArray, List.set_cons_zero, List.set_cons_succ, i64_w, i32_w]
                   rfl
                  refine pure_ (i := 7) (N := some 146) (v := ?_) (a' := ?_) #[true, true, true, true, true, true, true, true, false, false, false, false, false, false, false, false, false, false, false, false, false, false, false] rfl rfl (any_of HT_.out (by kernel_rfl)) (fun _ _ _ h => h) (Or.inl ⟨by rfl, ?_⟩) ?_ ?_
                  rotate_left
                  ·
                   intro w'
                   go_simp
                   with_reducible rfl
                  rotate_left
                  ·
                   simp only [Act.put, List.setIfInBounds_toArray, List.set_cons_zero, List.set_cons_succ, i64_w, i32_w]
                   rfl
                  refine pure_ (i := 8) (N := some 147) (v := ?_) (a' := ?_) #[true, true, true, true, true, true, true, true, true, false, false, false, false, false, false, false, false, false, false, false, false, false, false] rfl rfl (any_of HT_.out (by kernel_rfl)) (fun _ _ _ h => h) (Or.inl ⟨by rfl, ?_⟩) ?_ ?_
                  rotate_left
                  ·
                   intro w'
                   go_simp
                   with_reducible rfl
                  rotate_left
                  ·
                   simp only [Act.put, List.setIfInBounds_toArray, List.set_cons_zero, List.set_cons_succ, i64_w, i32_w]
                   rfl
                  refine pure_ (i := 9) (N := some 148) (v := ?_) (a' := ?_) #[true, true, true, true, true, true, true, true, true, true, false, false, false, false, false, false, false, false, false, false, false, false, false] rfl rfl (any_of HT_.out (by kernel_rfl)) (fun _ _ _ h => h) (Or.inl ⟨by rfl, ?_⟩) ?_ ?_
                  rotate_left
                  ·
                   intro w'
                   go_simp
                   with_reducible rfl
                  rotate_left
                  ·
                   simp only [Act.put, List.setIfInBounds_toArray, List.set_cons_zero, List.set_cons_succ, i64_w, i32_w]
                   rfl
                  refine pure_ (i := 10) (N := some 149) (v := ?_) (a' := ?_) #[true, true, true, true, true, true, true, true, true, true, true, false, false, false, false, false, false, false, false, false, false, false, false] rfl rfl (any_of HT_.out (by kernel_rfl)) (fun _ _ _ h => h) (Or.inl ⟨by rfl, ?_⟩) ?_ ?_
                  rotate_left
                  ·
                   intro w'
                   go_simp
                   with_reducible rfl
                  rotate_left
                  ·
                   simp only [Act.put, List.setIfInBounds_toArray, List.set_cons_zero, List.set_cons_succ, i64_w, i32_w]
                   rfl
                  refine pure_ (i := 11) (N := some 150) (v := ?_) (a' := ?_) #[true, true, true, true, true, true, true, true, true, true, true, true, false, false, false, false, false, false, false, false, false, false, false] rfl rfl (any_of HT_.out (by kernel_rfl)) (fun _ _ _ h => h) (Or.inl ⟨by rfl, ?_⟩) ?_ ?_
                  rotate_left
                  ·
                   intro w'
                   go_simp
                   with_reducible rfl
                  rotate_left
                  ·
                   simp only [Act.put, List.setIfInBounds_toArray, List.set_cons_zero, List.set_cons_succ, i64_w, i32_w]
                   rfl
                  refine pure_ (i := 12) (N := some 151) (v := undef) (a' := ?_) #[true, true, true, true, true, true, true, true, true, true, true, true, true, false, false, false, false, false, false, false, false, false, false] rfl rfl (any_of HT_.out (by kernel_rfl)) (fun _ _ _ h => h) (Or.inr ⟨by rfl, rfl⟩) ?_ ?_
                  rotate_left
                  ·
                   simp only [Act.put, List.setIfInBounds_toArray, List.set_cons_zero, List.set_cons_succ, i64_w, i32_w]
                   rfl
                  refine pure_ (i := 13) (N := some 152) (v := undef) (a' := ?_) #[true, true, true, true, true, true, true, true, true, true, true, true, true, true, false, false, false, false, false, false, false, false, false] rfl rfl (any_of HT_.out (by kernel_rfl)) (fun _ _ _ h => h) (Or.inr ⟨by rfl, rfl⟩) ?_ ?_
                  rotate_left
                  ·
                   simp only [Act.put, List.setIfInBounds_toArray, List.set_cons_zero, List.set_cons_succ, i64_w, i32_w]
                   rfl
                  refine pure_ (i := 14) (N := some 153) (v := undef) (a' := ?_) #[true, true, true, true, true, true, true, true, true, true, true, true, true, true, true, false, false, false, false, false, false, false, false] rfl rfl (any_of HT_.out (by kernel_rfl)) (fun _ _ _ h => h) (Or.inr ⟨by rfl, rfl⟩) ?_ ?_
                  rotate_left
                  ·
                   simp only [Act.put, List.setIfInBounds_toArray, List.set_cons_zero, List.set_cons_succ, i64_w, i32_w]
                   rfl
                  refine pure_ (i := 15) (N := some 154) (v := undef) (a' := ?_) #[true, true, true, true, true, true, true, true, true, true, true, true, true, true, true, true, false, false, false, false, false, false, false] rfl rfl (any_of HT_.out (by kernel_rfl)) (fun _ _ _ h => h) (Or.inr ⟨by rfl, rfl⟩) ?_ ?_
                  rotate_left
                  ·
                   simp only [Act.put, List.setIfInBounds_toArray, List.set_cons_zero, List.set_cons_succ, i64_w, i32_w]
                   rfl
                  refine pure_ (i := 16) (N := some 155) (v := undef) (a' := ?_) #[true, true, true, true, true, true, true, true, true, true, true, true, true, true, true, true, true, false, false, false, false, false, false] rfl rfl (any_of HT_.out (by kernel_rfl)) (fun _ _ _ h => h) (Or.inr ⟨by rfl, rfl⟩) ?_ ?_
                  rotate_left
                  ·
                   simp only [Act.put, List.setIfInBounds_toArray, List.set_cons_zero, List.set_cons_succ, i64_w, i32_w]
                   rfl
                  refine pure_ (i := 17) (N := some 156) (v := undef) (a' := ?_) #[true, true, true, true, true, true, true, true, true, true, true, true, true, true, true, true, true, true, false, false, false, false, false] rfl rfl (any_of HT_.out (by kernel_rfl)) (fun _ _ _ h => h) (Or.inr ⟨by rfl, rfl⟩) ?_ ?_
                  rotate_left
                  ·
                   simp only [Act.put, List.setIfInBounds_toArray, List.set_cons_zero, List.set_cons_succ, i64_w, i32_w]
                   rfl
                  refine pure_ (i := 18) (N := some 157) (v := undef) (a' := ?_) #[true, true, true, true, true, true, true, true, true, true, true, true, true, true, true, true, true, true, true, false, false, false, false] rfl rfl (any_of HT_.out (by kernel_rfl)) (fun _ _ _ h => h) (Or.inr ⟨by rfl, rfl⟩) ?_ ?_
                  rotate_left
                  ·
                   simp only [Act.put, List.setIfInBounds_toArray, List.set_cons_zero, List.set_cons_succ, i64_w, i32_w]
                   rfl
                  refine pure_ (i := 19) (N := some 158) (v := undef) (a' := ?_) #[true, true, true, true, true, true, true, true, true, true, true, true, true, true, true, true, true, true, true, true, false, false, false] rfl rfl (any_of HT_.out (by kernel_rfl)) (fun _ _ _ h => h) (Or.inr ⟨by rfl, rfl⟩) ?_ ?_
                  rotate_left
                  ·
                   simp only [Act.put, List.setIfInBounds_toArray, List.set_cons_zero, List.set_cons_succ, i64_w, i32_w]
                   rfl
                  refine pure_ (i := 20) (N := some 159) (v := undef) (a' := ?_) #[true, true, true, true, true, true, true, true, true, true, true, true, true, true, true, true, true, true, true, true, true, false, false] rfl rfl (any_of HT_.out (by kernel_rfl)) (fun _ _ _ h => h) (Or.inr ⟨by rfl, rfl⟩) ?_ ?_
                  rotate_left
                  ·
                   simp only [Act.put, List.setIfInBounds_toArray, List.set_cons_zero, List.set_cons_succ, i64_w, i32_w]
                   rfl
                  refine pure_ (i := 21) (N := some 160) (v := ?_) (a' := ?_) #[true, true, true, true, true, true, true, true, true, true, true, true, true, true, true, true, true, true, true, true, true, true, false] rfl rfl (any_of HT_.out (by kernel_rfl)) (fun _ _ _ h => h) (Or.inl ⟨by rfl, ?_⟩) ?_ ?_
                  rotate_left
                  ·
                   intro w'
                   go_simp
                   with_reducible rfl
                  rotate_left
                  ·
                   simp only [Act.put, List.setIfInBounds_toArray, List.set_cons_zero, List.set_cons_succ, i64_w, i32_w]
                   rfl
                  refine pure_ (i := 22) (N := some 161) (v := ?_) (a' := ?_) #[true, true, true, true, true, true, true, true, true, true, true, true, true, true, true, true, true, true, true, true, true, true, true] rfl rfl (any_of HT_.out (by kernel_rfl)) (fun _ _ _ h => h) (Or.inl ⟨by rfl, ?_⟩) ?_ ?_
                  rotate_left
                  ·
                   intro w'
                   go_simp
                   with_reducible rfl
                  rotate_left
                  ·
                   simp only [Act.put, List.setIfInBounds_toArray, List.set_cons_zero, List.set_cons_succ, i64_w, i32_w]
                   rfl
                  refine done_ (done_of HT_.out (by kernel_rfl)) ?_
                  try go_wp2
                  go_roundg k3
                  case measure => have := HK1.out; have := HJ75.out; have := HK3.out; omega
                  case rel => exact ⟨(wrap64 (x13_3 + 1)), (by exact ph6), H', ⟨by have := HK1.out; have := HJ75.out; have := HK3.out; omega⟩, ⟨by exact ph3⟩, ⟨by exact ph14⟩, ⟨by exact ph15⟩, ⟨by exact ph2⟩⟩
                ·
                 rw [if_neg c91] at H
                 have c91b0 : ((rd t288 x13_3) == x13_3) = false := beq_eq_false_iff_ne.mpr c91
                 have c91b1 : ((rd t288 x13_3) != x13_3) = true := bne_iff_ne.mpr c91
                 obtain rfl := Option.some.inj H
                 obtain ⟨Ao104, co104, eo104⟩ := Kd.R_slice HO_11.out
                 subst eo104
                 try go_wp2
                 have n0_ := Aside0.mk (Kd.R_drew HO_6.out)
                 have n1_ := Aside0.mk (Kd.R_drew HO_11.out)
                 have n2_ := Aside0.mk (Kd.R_drew HO_12.out)
                 have n3_ := Aside0.mk (below_drew1 HB.out)
                 clear HO_6
                 clear HO_11
                 clear HO_12
                 clear HB
                 have HO_6 := n0_
                 have HO_11 := n1_
                 have HO_12 := n2_
                 have HB := n3_
                 clear n0_ n1_ n2_ n3_
                 have p297 : 0 ≤ (x13_3 : Int) := of_decide_eq_true (by exact ph1)
                 have q297 : x13_3 < (t288.length : Int) := of_decide_eq_true (by exact ph1)
                 obtain ⟨ad297, e297, hx297_0⟩ := Kd.at_int (Kd.R_reads' HO_11.out).2.2 x13_3 p297 q297
                 cases e297
                 replace p297 := eq_true p297
                 replace q297 := eq_true q297
                 refine start_ (n := 23) (S := fun w' => w'.cell? (ad297.add (x13_3).toNat) = some (.int .i64 (rd t288 x13_3))) (ds := []) #[false, false, false, false, false, false, false, false, false, false, false, false, false, false, false, false, false, false, false, false, false, false, false] (by kernel_rfl) rfl rfl (hx297_0) (fun hHeld => ?_); refine with_tabW abacuslaw18_RelateSorted.tab27 abacuslaw18_RelateSorted.bits27 (fun HT_ HW_ => ?_)
                 generalize wr.drew = w105 at HO_6 HO_11 HO_12 HB hx297_0 hHeld ⊢
                 refine pure_ (i := 0) (N := some 139) (v := ?_) (a' := ?_) #[true, false, false, false, false, false, false, false, false, false, false, false, false, false, false, false, false, false, false, false, false, false, false] rfl rfl (any_of HT_.out (by kernel_rfl)) (fun _ _ _ h => h) (Or.inl ⟨by rfl, ?_⟩) ?_ ?_
                 rotate_left
                 ·
                  intro w'
                  go_simp
                  with_reducible rfl
                 rotate_left
                 ·
                  simp only [Act.put, List.setIfInBounds_toArray, List.set_cons_zero, List.set_cons_succ, i64_w, i32_w]
                  rfl
                 refine pure_ (i := 1) (N := some 140) (v := ?_) (a' := ?_) #[true, true, false, false, false, false, false, false, false, false, false, false, false, false, false, false, false, false, false, false, false, false, false] rfl rfl (any_of HT_.out (by kernel_rfl)) (fun _ _ _ h => h) (Or.inl ⟨by rfl, ?_⟩) ?_ ?_
                 rotate_left
                 ·
                  intro w'
                  go_simp
                  with_reducible rfl
                 rotate_left
                 ·
                  simp only [Act.put, List.setIfInBounds_toArray, List.set_cons_zero, List.set_cons_succ, i64_w, i32_w]
                  rfl
                 refine pure_ (i := 2) (N := some 141) (v := ?_) (a' := ?_) #[true, true, true, false, false, false, false, false, false, false, false, false, false, false, false, false, false, false, false, false, false, false, false] rfl rfl (any_of HT_.out (by kernel_rfl)) (fun _ _ _ h => h) (Or.inl ⟨by rfl, ?_⟩) ?_ ?_
                 rotate_left
                 ·
                  intro w'
                  go_simp
                  with_reducible rfl
                 rotate_left
                 ·
                  simp only [Act.put, List.setIfInBounds_toArray, List.set_cons_zero, List.set_cons_succ, i64_w, i32_w]
                  rfl
                 refine pure_ (i := 4) (N := some 143) (v := ?_) (a' := ?_) #[true, true, true, false, true, false, false, false, false, false, false, false, false, false, false, false, false, false, false, false, false, false, false] rfl rfl (any_of HT_.out (by kernel_rfl)) (fun _ _ _ h => h) (Or.inl ⟨by rfl, ?_⟩) ?_ ?_
                 rotate_left
                 ·
                  intro w'
                  go_simp
                  with_reducible rfl
                 rotate_left
                 ·
                  simp only [Act.put, List.setIfInBounds_toArray, List.set_cons_zero, List.set_cons_succ, i64_w, i32_w]
                  rfl
                 refine take_ (i := 3) (N := some 142) (v := ?_) (a' := ?_) #[true, true, true, true, true, false, false, false, false, false, false, false, false, false, false, false, false, false, false, false, false, false, false] rfl rfl (take_ofW HT_.out HW_.out (by kernel_rfl)) (fun _ _ _ h => h) (Or.inl ⟨by rfl, ?_⟩) hHeld ?_ ?_
                 rotate_left
                 ·
                  intro w' s0
                  go_simp
                  with_reducible rfl
                 rotate_left
                 ·
                  simp only [Act.put, List.setIfInBounds_toArray, List.set_cons_zero, List.set_cons_succ, i64_w, i32_w]
                  rfl
                 refine pure_ (i := 5) (N := some 144) (v := ?_) (a' := ?_) #[true, true, true, true, true, true, false, false, false, false, false, false, false, false, false, false, false, false, false, false, false, false, false] rfl rfl (any_of HT_.out (by kernel_rfl)) (fun _ _ _ h => h) (Or.inl ⟨by rfl, ?_⟩) ?_ ?_
                 rotate_left
                 ·
                  intro w'
                  go_simp
                  with_reducible rfl
                 rotate_left
                 ·
                  simp only [Act.put, List.setIfInBounds_toArray, List.set_cons_zero, List.set_cons_succ, i64_w, i32_w]
                  rfl
                 refine pure_ (i := 6) (N := some 145) (v := ?_) (a' := ?_) #[true, true, true, true, true, true, true, false, false, false, false, false, false, false, false, false, false, false, false, false, false, false, false] rfl rfl (any_of HT_.out (by kernel_rfl)) (fun _ _ _ h => h) (Or.inl ⟨by rfl, ?_⟩) ?_ ?_
                 rotate_left
                 ·
                  intro w'
                  go_simp
                  with_reducible rfl
                 rotate_left
                 ·
                  simp only [Act.put, List.setIfInBounds_toArray, List.set_cons_zero, List.set_cons_succ, i64_w, i32_w]
                  rfl
                 refine pure_ (i := 7) (N := some 146) (v := undef) (a' := ?_) #[true, true, true, true, true, true, true, true, false, false, false, false, false, false, false, false, false, false, false, false, false, false, false] rfl rfl (any_of HT_.out (by kernel_rfl)) (fun _ _ _ h => h) (Or.inr ⟨by rfl, rfl⟩) ?_ ?_
                 rotate_left
                 ·
                  simp only [Act.put, List.setIfInBounds_toArray, List.set_cons_zero, List.set_cons_succ, i64_w, i32_w]
                  rfl
                 refine pure_ (i := 8) (N := some 147) (v := undef) (a' := ?_) #[true, true, true, true, true, true, true, true, true, false, false, false, false, false, false, false, false, false, false, false, false, false, false] rfl rfl (any_of HT_.out (by kernel_rfl)) (fun _ _ _ h => h) (Or.inr ⟨by rfl, rfl⟩) ?_ ?_
                 rotate_left
                 ·
                  simp only [Act.put, List.setIfInBounds_toArray, List.set_cons_zero, List.set_cons_succ, i64_w, i32_w]
                  rfl
                 refine pure_ (i := 9) (N := some 148) (v := undef) (a' := ?_) #[true, true, true, true, true, true, true, true, true, true, false, false, false, false, false, false, false, false, false, false, false, false, false] rfl rfl (any_of HT_.out (by kernel_rfl)) (fun _ _ _ h => h) (Or.inr ⟨by rfl, rfl⟩) ?_ ?_
                 rotate_left
                 ·
                  simp only [Act.put, List.setIfInBounds_toArray, List.set_cons_zero, List.set_cons_succ, i64_w, i32_w]
                  rfl
                 refine pure_ (i := 10) (N := some 149) (v := undef) (a' := ?_) #[true, true, true, true, true, true, true, true, true, true, true, false, false, false, false, false, false, false, false, false, false, false, false] rfl rfl (any_of HT_.out (by kernel_rfl)) (fun _ _ _ h => h) (Or.inr ⟨by rfl, rfl⟩) ?_ ?_
                 rotate_left
                 ·
                  simp only [Act.put, List.setIfInBounds_toArray, List.set_cons_zero, List.set_cons_succ, i64_w, i32_w]
                  rfl
                 refine pure_ (i := 11) (N := some 150) (v := undef) (a' := ?_) #[true, true, true, true, true, true, true, true, true, true, true, true, false, false, false, false, false, false, false, false, false, false, false] rfl rfl (any_of HT_.out (by kernel_rfl)) (fun _ _ _ h => h) (Or.inr ⟨by rfl, rfl⟩) ?_ ?_
                 rotate_left
                 ·
                  simp only [Act.put, List.setIfInBounds_toArray, List.set_cons_zero, List.set_cons_succ, i64_w, i32_w]
                  rfl
                 refine pure_ (i := 12) (N := some 151) (v := undef) (a' := ?_) #[true, true, true, true, true, true, true, true, true, true, true, true, true, false, false, false, false, false, false, false, false, false, false] rfl rfl (any_of HT_.out (by kernel_rfl)) (fun _ _ _ h => h) (Or.inr ⟨by rfl, rfl⟩) ?_ ?_
                 rotate_left
                 ·
                  simp only [Act.put, List.setIfInBounds_toArray, List.set_cons_zero, List.set_cons_succ, i64_w, i32_w]
                  rfl
                 refine pure_ (i := 13) (N := some 152) (v := undef) (a' := ?_) #[true, true, true, true, true, true, true, true, true, true, true, true, true, true, false, false, false, false, false, false, false, false, false] rfl rfl (any_of HT_.out (by kernel_rfl)) (fun _ _ _ h => h) (Or.inr ⟨by rfl, rfl⟩) ?_ ?_
                 rotate_left
                 ·
                  simp only [Act.put, List.setIfInBounds_toArray, List.set_cons_zero, List.set_cons_succ, i64_w, i32_w]
                  rfl
                 refine pure_ (i := 14) (N := some 153) (v := undef) (a' := ?_) #[true, true, true, true, true, true, true, true, true, true, true, true, true, true, true, false, false, false, false, false, false, false, false] rfl rfl (any_of HT_.out (by kernel_rfl)) (fun _ _ _ h => h) (Or.inr ⟨by rfl, rfl⟩) ?_ ?_
                 rotate_left
                 ·
                  simp only [Act.put, List.setIfInBounds_toArray, List.set_cons_zero, List.set_cons_succ, i64_w, i32_w]
                  rfl
                 refine pure_ (i := 15) (N := some 154) (v := undef) (a' := ?_) #[true, true, true, true, true, true, true, true, true, true, true, true, true, true, true, true, false, false, false, false, false, false, false] rfl rfl (any_of HT_.out (by kernel_rfl)) (fun _ _ _ h => h) (Or.inr ⟨by rfl, rfl⟩) ?_ ?_
                 rotate_left
                 ·
                  simp only [Act.put, List.setIfInBounds_toArray, List.set_cons_zero, List.set_cons_succ, i64_w, i32_w]
                  rfl
                 refine pure_ (i := 16) (N := some 155) (v := undef) (a' := ?_) #[true, true, true, true, true, true, true, true, true, true, true, true, true, true, true, true, true, false, false, false, false, false, false] rfl rfl (any_of HT_.out (by kernel_rfl)) (fun _ _ _ h => h) (Or.inr ⟨by rfl, rfl⟩) ?_ ?_
                 rotate_left
                 ·
                  simp only [Act.put, List.setIfInBounds_toArray, List.set_cons_zero, List.set_cons_succ, i64_w, i32_w]
                  rfl
                 refine pure_ (i := 17) (N := some 156) (v := undef) (a' := ?_) #[true, true, true, true, true, true, true, true, true, true, true, true, true, true, true, true, true, true, false, false, false, false, false] rfl rfl (any_of HT_.out (by kernel_rfl)) (fun _ _ _ h => h) (Or.inr ⟨by rfl, rfl⟩) ?_ ?_
                 rotate_left
                 ·
                  simp only [Act.put, List.setIfInBounds_toArray, List.set_cons_zero, List.set_cons_succ, i64_w, i32_w]
                  rfl
                 refine pure_ (i := 18) (N := some 157) (v := undef) (a' := ?_) #[true, true, true, true, true, true, true, true, true, true, true, true, true, true, true, true, true, true, true, false, false, false, false] rfl rfl (any_of HT_.out (by kernel_rfl)) (fun _ _ _ h => h) (Or.inr ⟨by rfl, rfl⟩) ?_ ?_
                 rotate_left
                 ·
                  simp only [Act.put, List.setIfInBounds_toArray, List.set_cons_zero, List.set_cons_succ, i64_w, i32_w]
                  rfl
                 refine pure_ (i := 19) (N := some 158) (v := undef) (a' := ?_) #[true, true, true, true, true, true, true, true, true, true, true, true, true, true, true, true, true, true, true, true, false, false, false] rfl rfl (any_of HT_.out (by kernel_rfl)) (fun _ _ _ h => h) (Or.inr ⟨by rfl, rfl⟩) ?_ ?_
                 rotate_left
                 ·
                  simp only [Act.put, List.setIfInBounds_toArray, List.set_cons_zero, List.set_cons_succ, i64_w, i32_w]
                  rfl
                 refine pure_ (i := 20) (N := some 159) (v := undef) (a' := ?_) #[true, true, true, true, true, true, true, true, true, true, true, true, true, true, true, true, true, true, true, true, true, false, false] rfl rfl (any_of HT_.out (by kernel_rfl)) (fun _ _ _ h => h) (Or.inr ⟨by rfl, rfl⟩) ?_ ?_
                 rotate_left
                 ·
                  simp only [Act.put, List.setIfInBounds_toArray, List.set_cons_zero, List.set_cons_succ, i64_w, i32_w]
                  rfl
                 refine pure_ (i := 21) (N := some 160) (v := undef) (a' := ?_) #[true, true, true, true, true, true, true, true, true, true, true, true, true, true, true, true, true, true, true, true, true, true, false] rfl rfl (any_of HT_.out (by kernel_rfl)) (fun _ _ _ h => h) (Or.inr ⟨by rfl, rfl⟩) ?_ ?_
                 rotate_left
                 ·
                  simp only [Act.put, List.setIfInBounds_toArray, List.set_cons_zero, List.set_cons_succ, i64_w, i32_w]
                  rfl
                 refine pure_ (i := 22) (N := some 161) (v := ?_) (a' := ?_) #[true, true, true, true, true, true, true, true, true, true, true, true, true, true, true, true, true, true, true, true, true, true, true] rfl rfl (any_of HT_.out (by kernel_rfl)) (fun _ _ _ h => h) (Or.inl ⟨by rfl, ?_⟩) ?_ ?_
                 rotate_left
                 ·
                  intro w'
                  go_simp
                  with_reducible rfl
                 rotate_left
                 ·
                  simp only [Act.put, List.setIfInBounds_toArray, List.set_cons_zero, List.set_cons_succ, i64_w, i32_w]
                  rfl
                 refine done_ (done_of HT_.out (by kernel_rfl)) ?_
                 try go_wp2
                 go_ret
                 exact ⟨by exact ph10, by exact ph2⟩
               ·
                rw [if_neg c90] at H
                exact absurd H (by simp)
              ·
               rw [if_neg c89] at H
               have c89b0 : decide (x13_3 < (t288.length : Int)) = false := decide_eq_false c89
               clear c89
               obtain rfl := Option.some.inj H
               obtain ⟨Ao106, co106, eo106⟩ := Kd.R_slice HO_11.out
               subst eo106
               exact abacuslaw18_RelateSorted.w2
     ·
      rw [if_neg c10] at H
      exact absurd H (by simp)
    ·
     rw [if_neg c9] at H
     exact absurd H (by simp)
   ·
    rw [if_neg c8] at H
    exact absurd H (by simp)
  ·
   rw [if_neg c7] at H
   have c7b0 : ((t261.length : Int) == (l0.length : Int)) = false := beq_eq_false_iff_ne.mpr c7
   have c7b1 : ((t261.length : Int) != (l0.length : Int)) = true := bne_iff_ne.mpr c7
   have c7b2 : (t261.length == l0.length) = false := by first | simpa using c7 | (simp at c7 ⊢; omega)
   obtain rfl := Option.some.inj H
   exact abacuslaw18_RelateSorted.w3
 ·
  replace c4 := Bool.eq_false_iff.mpr c4
  subst c4
  have H1 : (some false) = some r := by rw [if_neg (show ¬ (false = true) by decide)] at H; exact H
  clear H
  have H := H1
  clear H1
  obtain rfl := Option.some.inj H
  exact abacuslaw18_RelateSorted.w3
end Go.Proofs.YtoanmnhkhookfaaGreatDoor.PXRelateSorted
