/- relate: heap.push walked; conditions: none. -/
import Derived.Test.YtoanmnhkhookfaaGreatDoorHeapW
import Derived.Test.YtoanmnhkhookfaaGreatDoorAppW
import Derived.BigRegion
import Derived.BigQuiet
import Derived.Deep.QuietTactic
import Derived.Deep.RegionLaw
import Derived.Deep.RegionWith
import Derived.Deep.DeepCutAuto
import Derived.StillTailTactics
import Derived.Deep.LoopGhost
namespace Go.Proofs.YtoanmnhkhookfaaGreatDoor
open Go.RowKit Go.Proofs.YtoanmnhkhookfaaGreatDoorW.PrintWords Heap
set_option linter.unusedVariables false
set_option linter.unusedSimpArgs false
theorem infoE : (Tryz.prog.info? 102).map (fun i => (i.zero, i.size, i.bytes)) = some (some (.agg #[.int .i64 0, .int .u64 0, .string ⟨#[]⟩, .int .i64 0]), 4, 40) := by kernel_rfl
theorem own_form {w : World} {base n size : Nat} {e : TypeId} {v : Value} {xs : List Value} (h : w.ownsRow base e size v n xs) (hn : 0 < n) : ∃ g c, v = .slice (some ⟨g, 0, none⟩) n c := by
  rcases h.2 with ⟨_, h0⟩ | ⟨g, cap, cur, rfl, _⟩
  · omega
  · exact ⟨g, cap, rfl⟩
theorem push_met {base b T : Nat} {cs : Array Value} {v : Value} {L : List Ent} {x : Ent} {w w1 : World} {o : Obj} (hH : HeapAt base b T cs v L w) {g1 c1 : Nat}
    (P1 : w1.ownsRow base 102 4 (.slice (some ⟨g1, 0, none⟩) (L.length + 1) c1) (L.length + 1) (flatE L ++ encE x)) (P2 : Below base ((w.alloc o).drew) w1) (P3 : ((w.alloc o).drew).grownBy w1 v.ownBlock)
    (P4 : (Value.slice (some ⟨g1, 0, none⟩) (L.length + 1) c1).ownBlock = v.ownBlock ∨ ∃ q, (Value.slice (some ⟨g1, 0, none⟩) (L.length + 1) c1).ownBlock = some q ∧ ((w.alloc o).drew).heap.size ≤ q) :
    HeapAt base b T (cs.setIfInBounds 0 (.slice (some ⟨g1, 0, none⟩) (L.length + 1) c1)) (.slice (some ⟨g1, 0, none⟩) (L.length + 1) c1) (L ++ [x]) (w1.setCell ⟨b, 0, none⟩ (.slice (some ⟨g1, 0, none⟩) (L.length + 1) c1)) ∧
      Turned base b v (.slice (some ⟨g1, 0, none⟩) (L.length + 1) c1) w (w1.setCell ⟨b, 0, none⟩ (.slice (some ⟨g1, 0, none⟩) (L.length + 1) c1)) := by
  have hb1 : Below w.heap.size w ((w.alloc o).drew) := below_drew (below_alloc (Below.refl _ _) _)
  have hH1 := hH.below hb1
  have hbw : base ≤ w.heap.size := Nat.le_trans hH.hb (Nat.le_of_lt hH.lt)
  have hblk := blk_grown hH1.blk P3 hH1.apart
  have h0 : 0 < cs.size := by
    rcases Nat.lt_or_ge 0 cs.size with h | h
    · exact h
    · have := hH.c0; rw [Array.getElem?_eq_none h] at this; cases this
  refine ⟨⟨blk_set hblk 0 _, ?_, ?_, ?_, hH.ne, hH.hb⟩, ?_⟩
  · rw [Array.getElem?_setIfInBounds]; simp [h0]
  · rw [Array.getElem?_setIfInBounds]; simp; exact hH.c1
  · have h1 := own_setCell P1 (p := ⟨b, 0, none⟩) (own_ne P1 hblk hH.ne) (.slice (some ⟨g1, 0, none⟩) (L.length + 1) c1)
    rw [flatE_append, List.length_append]
    simpa [flatE] using h1
  · exact ((Turned.of_below hb1 hbw).trans (Turned.row P3 P2 _ P4)).trans (Turned.cell hH.hb (.inl rfl) 0 _)
set_option maxRecDepth 100000 in
set_option maxHeartbeats 2000000 in
theorem push_any (lt : Ent → Ent → Bool) (HL : Less lt) (base b T : Nat) (cs : Array Value) (v : Value) (L : List Ent) (x : Ent) (w : World) (hH : HeapAt base b T cs v L w) (hS : SmL L) (hx : Sm x) (hl : L.length < 4398046511104) (h5 : 5 ≤ base) (HG : GW w) :
    Calls Tryz.prog 66 #[.pointer (some ⟨b, 0, none⟩), entV x] w fun e w' => e = .returned (.tuple #[]) ∧ ∃ v', HeapAt base b T (cs.setIfInBounds 0 v') v' (push lt L x) w' ∧ Turned base b v v' w w' := by
  obtain ⟨k, n, s, id⟩ := x
  have HS := Lib.hid hS
  have HSx := Lib.hid hx
  clear hS hx
  have hc0 := hH.cell0
  have hf0 := hH.frozen 0
  have hca : ∀ o, (w.alloc o).cell? ⟨b, 0, none⟩ = some v := fun o => pw_cell_below (below_alloc (Below.refl _ _) o) hc0
  have hca2 : ∀ o o2, ((w.alloc o).alloc o2).cell? ⟨b, 0, none⟩ = some v := fun o o2 => pw_cell_below (below_alloc (below_alloc (Below.refl _ _) o) o2) hc0
  obtain ⟨E, hE⟩ : ∃ E : Ent, E = (k, n, s, id) := ⟨_, rfl⟩
  obtain ⟨W1, hW1⟩ : ∃ W1, W1 = (w.alloc (.cells #[.int .i64 k, .int .u64 n, .string s, .int .i64 id] 102)).drew := ⟨_, rfl⟩
  have hB1 : Below w.heap.size w W1 := by rw [hW1]; exact below_drew (below_alloc (Below.refl _ _) _)
  have hbw : base ≤ w.heap.size := Nat.le_trans hH.hb (Nat.le_of_lt hH.lt)
  have H1 := Lib.hid (hH.below hB1)
  have H2 := Lib.hid (Nat.le_trans hbw hB1.size)
  have H3 : Hid (((L.length + 1) + (L.length + 1) / 4 + 192) * 40 ≤ 281474976710656) := Lib.hid (by omega)
  have HH := Lib.hid hH
  have HB1 := Lib.hid hB1
  have HW := Lib.hid hW1
  have HE := Lib.hid hE
  clear hH hB1 hbw hE
  go_enter Tryz.func66, Tryz.ntmps66
  go_upto_region 1 with fail
  go_cut [] (fun wx => ∃ g1 c1 : Nat, HeapAt base b T (cs.setIfInBounds 0 (.slice (some ⟨g1, 0, none⟩) (L.length + 1) c1)) (.slice (some ⟨g1, 0, none⟩) (L.length + 1) c1) (L ++ [(k, n, s, id)]) wx ∧ Turned base b v (.slice (some ⟨g1, 0, none⟩) (L.length + 1) c1) w wx)
  case first =>
    have hr1 : ((w.alloc (.cells #[.int .i64 k, .int .u64 n, .string s, .int .i64 id] 102)).drew).ownsRow base 102 4 v L.length (flatE L) := hW1 ▸ H1.out.row
    have hr2 : base ≤ ((w.alloc (.cells #[.int .i64 k, .int .u64 n, .string s, .int .i64 id] 102)).drew).heap.size := hW1 ▸ H2.out
    have hr3 : ((w.alloc (.cells #[.int .i64 k, .int .u64 n, .string s, .int .i64 id] 102)).drew).heap[b]? = some (.cells cs T (0, 0)) := hW1 ▸ H1.out.blk
    have R1 := Lib.hid hr1
    have R2 := Lib.hid hr2
    have R3 := Lib.hid hr3
    clear hr1 hr2 hr3 hW1
    go_region_law (refine step_append_wide (W := (w.alloc (.cells #[.int .i64 k, .int .u64 n, .string s, .int .i64 id] 102)).drew) (w0 := (w.alloc (.cells #[.int .i64 k, .int .u64 n, .string s, .int .i64 id] 102)).drew) base rfl (.tmp 10) (.tmp 12) 97 102 _ 4 40 rfl Tryz.underlying97 infoE rfl (by omega) (by omega) v L.length (flatE L) [.int .i64 k, .int .u64 n, .string s, .int .i64 id] (by simp [Act.eval, Act.put]) (by simp [Act.eval, Act.put]) rfl (by simp [Value.oneCell']) R1.out (Below.refl _ _) R2.out H3.out ?_; intro v1 w1 hrow1 hb1 hg1 hat1; (have B1 := Lib.hid (blk_grown R3.out hg1 (own_ne R1.out R3.out HH.out.ne))); (have F1 := blk_frozen B1.out 0); (have C1 := (blk_cell B1.out 0).trans HH.out.c0); (have hs1 := own_slice hrow1); (have hv1 := own_form hrow1 (by omega)); (have P1 := Lib.hid hrow1); (have P2 := Lib.hid hb1); (have P3 := Lib.hid hg1); (have P4 := Lib.hid hat1); (obtain ⟨g1, c1, hv1⟩ := hv1); subst hv1; clear hrow1 hb1 hg1 hat1 hs1)
    all_goals
      go_wp2_with fail
      go_meet
      exact ⟨_, _, push_met HH.out P1.out P2.out P3.out P4.out⟩
  case rest =>
    obtain ⟨g1, c1, hH1, hT1⟩ := hcut
    clear hca hca2 hc0 hf0
    have hc0 := hH1.cell0
    have hz : L.length + 1 ≤ 4398046511104 := by omega
    have K1 := Lib.hid hH1
    have K2 := Lib.hid hT1
    clear hH1 hT1 H1 H2 H3 HB1 HW HE HH hW1
    obtain ⟨V1, hV1⟩ : ∃ V1, V1 = (Value.slice (some ⟨g1, 0, none⟩) (L.length + 1) c1) := ⟨_, rfl⟩
    obtain ⟨cs1, hcs1⟩ : ∃ c, c = cs.setIfInBounds 0 V1 := ⟨_, rfl⟩
    have K1' := K1.out
    have K2' := K2.out
    rw [← hV1, ← hcs1] at K1'
    rw [← hV1] at K2'
    have K3 := Lib.hid K1'
    have K4 := Lib.hid K2'
    have KV := Lib.hid hV1
    have KC := Lib.hid hcs1
    clear K1' K2' K1 K2 hV1 hcs1
    go_wp2_with fail
    go_loopg [4, 5] L.length (fun i s4 s5 w' => ∃ L1 : List Ent, s4 = .int .i64 (i : Int) ∧ Aside0 (HeapAt base b T cs1 V1 L1 w') ∧ Aside0 (Turned base b v V1 w w') ∧ Aside0 (siftUp lt L1 i = push lt L (k, n, s, id)) ∧ Aside0 (L1.length = L.length + 1) ∧ Aside0 (SmL L1) ∧ i ≤ L.length)
    case atStart => exact ⟨L ++ [(k, n, s, id)], (by first | rfl | simp), ⟨K3.out⟩, ⟨K4.out⟩, ⟨rfl⟩, ⟨by simp⟩, ⟨fun e he => by rcases List.mem_append.mp he with h | h; exact HS.out e h; rw [List.mem_singleton.mp h]; exact HSx.out⟩, Nat.le_refl _⟩
    case round =>
      obtain ⟨L1, rfl, R1, R2, R3, R4, R5, hi⟩ := hrel
      clear hc0 K3 K4
      by_cases h0 : gk = 0
      · subst h0
        have hd : decide ((0 : Int) < 0) = false := rfl
        go_wp2_with fail
        first | go_end0 | refine bodyPost_ret (results_none rfl _ _ _) rfl ?_
        refine ⟨rfl, V1, ?_, R2.out⟩
        have e := R3.out
        unfold siftUp at e
        rw [dif_pos rfl] at e
        have hh := R1.out
        rw [e, KC.out] at hh
        exact hh
      · have hd : decide ((0 : Int) < (gk : Int)) = true := decide_eq_true (by omega)
        obtain ⟨p, hp⟩ : ∃ p, (gk - 1) / 2 = p := ⟨_, rfl⟩
        have hp1 : ((gk : Int) - 1) / 2 = (p : Int) := by omega
        have hb0 : 0 ≤ (gk : Int) - 1 := by omega
        have hb1 : (gk : Int) ≤ 4398046511104 := by omega
        have hb2 : (p : Int) ≤ 4398046511104 := by omega
        go_upto_region 5 with fail
        simp only [hp1]
        have hc0 := R1.out.cell0
        have hc1 := R1.out.cell1
        rw [KV.out] at hc0
        have hR := R1.out
        rw [KV.out] at hR
        obtain ⟨X, hX⟩ : ∃ X, g L1 gk = X := ⟨_, rfl⟩
        obtain ⟨Y, hY⟩ : ∃ Y, g L1 p = Y := ⟨_, rfl⟩
        obtain ⟨⟨x0, x1, x2, x3⟩, -⟩ := hR.elem gk (by rw [R4.out]; omega) X hX
        obtain ⟨⟨y0, y1, y2, y3⟩, -⟩ := hR.elem p (by rw [R4.out]; omega) Y hY
        have hSX := R5.out.at_ (by rw [R4.out]; omega) hX
        have hSY := R5.out.at_ (by rw [R4.out]; omega) hY
        obtain ⟨xa, xb, xc, xd⟩ := X
        obtain ⟨ya, yb, yc, yd⟩ := Y
        have HSX := Lib.hid hSX
        have HSY := Lib.hid hSY
        clear hSX hSY
        have HX := Lib.hid hX
        have HY := Lib.hid hY
        have hg1 : (gk : Int) < (L.length : Int) + 1 := by omega
        have hg2 : (p : Int) < (L.length : Int) + 1 := by omega
        have hpk : p < gk := by omega
        have hG := Lib.hid (HG.high (B := base) (by omega) (by omega) R2.out.below)
        have HP := Lib.hid hp
        have H0 := Lib.hid h0
        clear hX hY hR hp1 h0 hp
        go_still_tail 18, (by kernel_rfl)
        change wpList _ _ _ _ _ wr.drew
        cases hB : lt (xa, xb, xc, xd) (ya, yb, yc, yd) with
        | false =>
          have HB := Lib.hid hB
          clear hB
          have HC := Lib.hid (HL (xa, xb, xc, xd) (ya, yb, yc, yd) wr.drew HSX.out HSY.out (hG.out.drew))
          rw [HB.out] at HC
          go_wp2_with fail
          refine HC.out.mono ?_
          rintro e w2 ⟨rfl, hb2⟩
          have HW2 := Lib.hid hb2
          clear hb2
          go_wp2_with fail
          first | go_end0 | refine bodyPost_ret (results_none rfl _ _ _) rfl ?_
          have hb : Below wr.heap.size wr w2 := (below_drew (Below.refl _ _)).trans HW2.out
          refine ⟨rfl, V1, ?_, R2.out.trans (Turned.of_below hb (Nat.le_trans R1.out.hb (Nat.le_of_lt R1.out.lt)))⟩
          have e := R3.out
          unfold siftUp at e
          rw [dif_neg H0.out, HP.out, HX.out, HY.out, if_neg (by rw [HB.out]; simp)] at e
          have hh := R1.out.below hb
          rw [e, KC.out] at hh
          exact hh
        | true =>
          have HB := Lib.hid hB
          clear hB
          have HC := Lib.hid (HL (xa, xb, xc, xd) (ya, yb, yc, yd) wr.drew HSX.out HSY.out (hG.out.drew))
          rw [HB.out] at HC
          go_wp2_with fail
          refine HC.out.mono ?_
          rintro e w2 ⟨rfl, hb2⟩
          have hb : Below wr.heap.size wr w2 := (below_drew (Below.refl _ _)).trans hb2
          have hH2 := R1.out.below hb
          have hT2 := R2.out.trans (Turned.of_below hb (Nat.le_trans R1.out.hb (Nat.le_of_lt R1.out.lt)))
          have hc0' := hH2.cell0
          have hR := hH2
          rw [KV.out] at hR hc0'
          obtain ⟨⟨x0', x1', x2', x3'⟩, fz⟩ := hR.elem gk (by rw [R4.out]; omega) _ HX.out
          obtain ⟨⟨y0', y1', y2', y3'⟩, -⟩ := hR.elem p (by rw [R4.out]; omega) _ HY.out
          have HH2 := Lib.hid hH2
          have HT2 := Lib.hid hT2
          clear hb2 hb hH2 hT2 hR hc0 hc1 x0 x1 x2 x3 y0 y1 y2 y3 HC R1 R2
          go_upto_region 6 with fail
          go_region
          go_wp2_with fail
          obtain ⟨hs1, hs2⟩ := HeapAt.swpE (by have := HH2.out; rw [KV.out] at this; exact this) R4.out.symm gk p (by rw [R4.out]; omega) (by rw [R4.out]; omega) _ _ HX.out HY.out
          have S1 := Lib.hid hs1
          have S2 := Lib.hid hs2
          clear hs1 hs2
          go_roundg p
          case measure => exact hpk
          case rel =>
            refine ⟨swp L1 gk p, rfl, ⟨by rw [KV.out]; exact S1.out⟩, ⟨by have := HT2.out; rw [KV.out] at this ⊢; exact this.trans S2.out⟩, ⟨?_⟩, ⟨by rw [swp_length]; exact R4.out⟩, ⟨R5.out.perm (swp_perm L1 gk p (by rw [R4.out]; omega) (by rw [R4.out]; omega))⟩, by omega⟩
            have e := R3.out
            rw [← e]
            conv => rhs; unfold siftUp
            rw [dif_neg H0.out, HP.out, HX.out, HY.out, if_pos HB.out]
end Go.Proofs.YtoanmnhkhookfaaGreatDoor
