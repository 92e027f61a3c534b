/- relate: heap.pop walked; conditions: none. -/
import Derived.Test.YtoanmnhkhookfaaGreatDoorHeapW
import Derived.BigRegion
import Derived.BigQuiet
import Derived.Deep.QuietTactic
import Derived.Deep.RegionLaw
import Derived.Deep.RegionWith
import Derived.Deep.DeepCutAuto
import Derived.StillTailTactics
import Derived.Deep.LoopGhost
import Derived.IntWalk
namespace Go.Proofs.YtoanmnhkhookfaaGreatDoor
open Go.RowKit Go.Proofs.YtoanmnhkhookfaaGreatDoorW.PrintWords Heap
set_option linter.unusedVariables false
set_option linter.unusedSimpArgs false
def zeroE : Ent := (0, 0, ⟨#[]⟩, 0)
/-- Where pop stands: the heap, its result's box r, the box f of the first entry. -/
structure Popping (base b T r f : Nat) (v0 v : Value) (cs : Array Value) (L : List Ent) (X : Ent) (w wx : World) : Prop where
  heap : HeapAt base b T cs v L wx
  turned : Turned base b v0 v w wx
  res : wx.heap[r]? = some (.cells (encE zeroE).toArray 102 (0, 0))
  first : wx.heap[f]? = some (.cells (encE X).toArray 102 (0, 0))
  rlt : w.heap.size ≤ r
  flt : r < f
namespace Popping
variable {base b T r f : Nat} {v0 v v' : Value} {cs cs' : Array Value} {L L' : List Ent} {X : Ent} {w wx wy : World}
theorem step (h : Popping base b T r f v0 v cs L X w wx) (hH : HeapAt base b T cs' v' L' wy) (hT : Turned base b v v' wx wy) (hb : b < w.heap.size) (hg : ∀ q, v.ownBlock = some q → q < w.heap.size) : Popping base b T r f v0 v' cs' L' X w wy := by
  refine ⟨hH, h.turned.trans hT, ?_, ?_, h.rlt, h.flt⟩
  · have := h.rlt
    exact (hT.keep r (blk_lt h.res) (by omega) (fun e => by have := hg r e.symm; omega)).trans h.res
  · have := h.rlt; have := h.flt
    exact (hT.keep f (blk_lt h.first) (by omega) (fun e => by have := hg f e.symm; omega)).trans h.first
theorem below (h : Popping base b T r f v0 v cs L X w wx) (hb : Below wx.heap.size wx wy) : Popping base b T r f v0 v cs L X w wy :=
  ⟨h.heap.below hb, h.turned.trans (Turned.of_below hb (Nat.le_trans h.heap.hb (Nat.le_of_lt h.heap.lt))), blk_below h.res hb, blk_below h.first hb, h.rlt, h.flt⟩
theorem done (h : Popping base b T r f v0 v cs L X w wx) (hb : b < w.heap.size) (hg : ∀ q, v.ownBlock = some q → q < w.heap.size) :
    HeapAt base b T cs v L ((((wx.setCell ⟨r, 0, none⟩ (.int .i64 X.1)).setCell ⟨r, 1, none⟩ (.int .u64 X.2.1)).setCell ⟨r, 2, none⟩ (.string X.2.2.1)).setCell ⟨r, 3, none⟩ (.int .i64 X.2.2.2)) ∧
      Turned base b v0 v w ((((wx.setCell ⟨r, 0, none⟩ (.int .i64 X.1)).setCell ⟨r, 1, none⟩ (.int .u64 X.2.1)).setCell ⟨r, 2, none⟩ (.string X.2.2.1)).setCell ⟨r, 3, none⟩ (.int .i64 X.2.2.2)) ∧
      ((((wx.setCell ⟨r, 0, none⟩ (.int .i64 X.1)).setCell ⟨r, 1, none⟩ (.int .u64 X.2.1)).setCell ⟨r, 2, none⟩ (.string X.2.2.1)).setCell ⟨r, 3, none⟩ (.int .i64 X.2.2.2)).heap[r]? = some (.cells #[.int .i64 X.1, .int .u64 X.2.1, .string X.2.2.1, .int .i64 X.2.2.2] 102 (0, 0)) := by
  have h1 : b ≠ r := by have := h.rlt; omega
  have h2 : some r ≠ v.ownBlock := fun e => by have := hg r e.symm; have := h.rlt; omega
  have h3 : base ≤ r := Nat.le_trans h.heap.hb (Nat.le_trans (Nat.le_of_lt hb) h.rlt)
  exact ⟨(((h.heap.far h1 h2 _ _).far h1 h2 _ _).far h1 h2 _ _).far h1 h2 _ _, (((h.turned.fresh h.rlt h3 _ _).fresh h.rlt h3 _ _).fresh h.rlt h3 _ _).fresh h.rlt h3 _ _, entBox h.res _ _ _ _⟩
end Popping
theorem own_q {g1 n c q N : Nat} (h : (Value.slice (some ⟨g1, 0, none⟩) n c).ownBlock = some q) (hg : g1 < N) : q < N := by
  have : g1 = q := by simpa [Value.ownBlock] using h
  omega
theorem cellA {w : World} {p : Addr} {v : Value} (h : w.cell? p = some v) : ∀ o, (w.alloc o).cell? p = some v := fun o => pw_cell_below (below_alloc (Below.refl _ _) o) h
theorem frozenA {w : World} {p : Addr} {b : Bool} (hp : p.block < w.heap.size) (h : w.frozen? p = b) : ∀ o, (w.alloc o).frozen? p = b := fun o => ((below_alloc (Below.refl _ _) o).frozen hp).trans h
set_option maxRecDepth 100000 in
set_option maxHeartbeats 4000000 in
theorem pop_any (lt : Ent → Ent → Bool) (HL : Less lt) (base b T : Nat) (cs : Array Value) (g1 m c1 : Nat) (L : List Ent) (w : World) (hH : HeapAt base b T cs (.slice (some ⟨g1, 0, none⟩) (m + 1) c1) L w) (hm : L.length = m + 1) (hS : SmL L) (hl : L.length < 4398046511104) (h5 : 5 ≤ base) (HG : GW w) :
    Calls Tryz.prog 67 #[.pointer (some ⟨b, 0, none⟩)] w fun e w' => e = .returned (entV (g L 0)) ∧ ∃ v', HeapAt base b T (cs.setIfInBounds 0 v') v' (pop lt L) w' ∧ Turned base b (.slice (some ⟨g1, 0, none⟩) (m + 1) c1) v' w w' := by
  have HS := Lib.hid hS
  clear hS
  have hml : (m : Int) < 4398046511104 := by omega
  have hm0 : (0 : Int) ≤ (m : Int) := by omega
  obtain ⟨X, hX⟩ : ∃ X, g L 0 = X := ⟨_, rfl⟩
  obtain ⟨Z, hZ⟩ : ∃ Z, g L m = Z := ⟨_, rfl⟩
  have hc0 := cellA hH.cell0
  obtain ⟨⟨x0, x1, x2, x3⟩, hfz⟩ := hH.elem 0 (by omega) X hX
  have x0 := cellA x0
  have x1 := cellA x1
  have x2 := cellA x2
  have x3 := cellA x3
  simp only [Nat.zero_mul, Nat.zero_add] at x0 x1 x2 x3
  obtain ⟨xa, xb, xc, xd⟩ := X
  obtain ⟨za, zb, zc, zd⟩ := Z
  simp only [] at x0 x1 x2 x3
  have hgw : g1 < w.heap.size := own_lt hH.row g1 rfl
  have hg0 : (0 : Int) < (m : Int) + 1 := by omega
  have HX := Lib.hid hX
  have HZ := Lib.hid hZ
  have HM := Lib.hid hm
  have HH := Lib.hid hH
  have HLn := Lib.hid hl
  clear hX hZ hm hH hl hfz
  go_enter Tryz.func67, Tryz.ntmps67
  go_upto_region 1 with fail
  go_cut [3] (fun s3 wx => s3 = .pointer (some ⟨w.heap.size + 1, 0, none⟩) ∧ Aside0 (Popping base b T w.heap.size (w.heap.size + 1) (.slice (some ⟨g1, 0, none⟩) (m + 1) c1) (.slice (some ⟨g1, 0, none⟩) (m + 1) c1) cs L (xa, xb, xc, xd) w wx))
  case first =>
    go_wp2_with fail
    go_meet
    refine ⟨rfl, ⟨?_⟩⟩
    have hb2 : ∀ o1 o2 : Obj, Below w.heap.size w ((w.alloc o1).alloc o2) := fun o1 o2 => below_alloc (below_alloc (Below.refl _ _) _) _
    refine ⟨HH.out.below (hb2 _ _), Turned.of_below (hb2 _ _) (Nat.le_trans HH.out.hb (Nat.le_of_lt HH.out.lt)), blk_alloc (blk_new _ _) _, new2 _ _ _, Nat.le_refl _, Nat.lt_succ_self _⟩
  case rest =>
    obtain ⟨rfl, hP⟩ := hcut
    clear hc0 x0 x1 x2 x3
    have hc0 := hP.out.heap.cell0
    obtain ⟨⟨x0, x1, x2, x3⟩, hfz⟩ := hP.out.heap.elem 0 (by rw [HM.out]; omega) _ HX.out
    obtain ⟨⟨z0, z1, z2, z3⟩, -⟩ := hP.out.heap.elem m (by rw [HM.out]; omega) _ HZ.out
    simp only [Nat.zero_mul, Nat.zero_add] at x0 x1 x2 x3
    have hgm : (m : Int) < (m : Int) + 1 := by omega
    go_upto_region 3 with fail
    go_cut [] (fun wx => Aside0 (Popping base b T w.heap.size (w.heap.size + 1) (.slice (some ⟨g1, 0, none⟩) (m + 1) c1) (.slice (some ⟨g1, 0, none⟩) (m + 1) c1) cs (L.set 0 (za, zb, zc, zd)) (xa, xb, xc, xd) w wx))
    case first =>
      go_still_tail 12, (by kernel_rfl)
      change wpList _ _ _ _ _ wc.drew
      go_wp2_with fail
      go_meet
      have hown : ∀ q, (Value.slice (some ⟨g1, 0, none⟩) (m + 1) c1).ownBlock = some q → q < w.heap.size := fun q hq => own_q hq hgw
      obtain ⟨q1, q2⟩ := HeapAt.drewT (hP.out.heap.putE HM.out.symm 0 (by rw [HM.out]; omega) (za, zb, zc, zd))
      exact ⟨hP.out.step q1 q2 HH.out.lt hown⟩
    case rest =>
      have hown : ∀ q, (Value.slice (some ⟨g1, 0, none⟩) (m + 1) c1).ownBlock = some q → q < w.heap.size := fun q hq => own_q hq hgw
      have HO := Lib.hid hown
      have hP2 := hcut
      clear hc0 x0 x1 x2 x3 z0 z1 z2 z3 hfz hP hown hcut
      have hc0 := cellA hP2.out.heap.cell0
      obtain ⟨M, hM⟩ : ∃ M, g (L.set 0 (za, zb, zc, zd)) m = M := ⟨_, rfl⟩
      obtain ⟨⟨z0, z1, z2, z3⟩, hfz⟩ := hP2.out.heap.elem m (by rw [List.length_set, HM.out]; omega) M hM
      obtain ⟨ma, mb, mc, md⟩ := M
      have z0 := cellA z0
      have z1 := cellA z1
      have z2 := cellA z2
      have z3 := cellA z3
      have hglt := own_lt hP2.out.heap.row g1 rfl
      have f0 := frozenA hglt (hfz (m * 4))
      have f1 := frozenA hglt (hfz (m * 4 + 1))
      have f2 := frozenA hglt (hfz (m * 4 + 2))
      have f3 := frozenA hglt (hfz (m * 4 + 3))
      have HMM := Lib.hid hM
      clear hM hfz
      obtain ⟨W2, hW2⟩ : ∃ W2, W2 = wc.alloc (.cells #[.int .i64 0, .int .u64 0, .string ⟨#[]⟩, .int .i64 0] 102) := ⟨_, rfl⟩
      have hn : W2.heap[wc.heap.size]? = some (.cells #[.int .i64 0, .int .u64 0, .string ⟨#[]⟩, .int .i64 0] 102 (0, 0)) := by rw [hW2]; exact blk_new _ _
      have n0 : W2.cell? ⟨wc.heap.size, 0, none⟩ = some (.int .i64 0) := (blk_cell hn 0).trans rfl
      have n1 : W2.cell? ⟨wc.heap.size, 1, none⟩ = some (.int .u64 0) := (blk_cell hn 1).trans rfl
      have n2 : W2.cell? ⟨wc.heap.size, 2, none⟩ = some (.string ⟨#[]⟩) := (blk_cell hn 2).trans rfl
      have n3 : W2.cell? ⟨wc.heap.size, 3, none⟩ = some (.int .i64 0) := (blk_cell hn 3).trans rfl
      have hP3 := hP2.out.below (wy := W2) (by rw [hW2]; exact below_alloc (Below.refl _ _) _)
      have hc0 := hP3.heap.cell0
      have z0 : W2.cell? ⟨g1, m * 4, none⟩ = some (.int .i64 ma) := by rw [hW2]; exact z0 _
      have z1 : W2.cell? ⟨g1, m * 4 + 1, none⟩ = some (.int .u64 mb) := by rw [hW2]; exact z1 _
      have z2 : W2.cell? ⟨g1, m * 4 + 2, none⟩ = some (.string mc) := by rw [hW2]; exact z2 _
      have z3 : W2.cell? ⟨g1, m * 4 + 3, none⟩ = some (.int .i64 md) := by rw [hW2]; exact z3 _
      have f0 : W2.frozen? ⟨g1, m * 4, none⟩ = false := by rw [hW2]; exact f0 _
      have f1 : W2.frozen? ⟨g1, m * 4 + 1, none⟩ = false := by rw [hW2]; exact f1 _
      have f2 : W2.frozen? ⟨g1, m * 4 + 2, none⟩ = false := by rw [hW2]; exact f2 _
      have f3 : W2.frozen? ⟨g1, m * 4 + 3, none⟩ = false := by rw [hW2]; exact f3 _
      have HP3 := Lib.hid hP3
      have HW2 := Lib.hid hW2
      clear hP3 hW2 hn
      go_upto_region 5 with fail
      rw [← HW2.out]
      go_cut [] (fun wx => Aside0 (Popping base b T w.heap.size (w.heap.size + 1) (.slice (some ⟨g1, 0, none⟩) (m + 1) c1) (.slice (some ⟨g1, 0, none⟩) (m + 1) c1) cs ((L.set 0 (za, zb, zc, zd)).set m zeroE) (xa, xb, xc, xd) w wx))
      case first =>
        go_still_tail 7, (by kernel_rfl)
        change wpList _ _ _ _ _ W2.drew
        go_wp2_with fail
        go_meet
        obtain ⟨q1, q2⟩ := HeapAt.drewT (HP3.out.heap.putE (by rw [List.length_set, HM.out]) m (by rw [List.length_set, HM.out]; omega) zeroE)
        exact ⟨HP3.out.step q1 q2 HH.out.lt HO.out⟩
      case rest =>
        have hP4 := hcut
        clear hc0 z0 z1 z2 z3 n0 n1 n2 n3 f0 f1 f2 f3 hcut
        have hc0 := hP4.out.heap.cell0
        have hf0 := hP4.out.heap.frozen 0
        have hcap := hP4.out.heap.cap (by rw [List.length_set, List.length_set, HM.out])
        have hcp : (m : Int) ≤ (c1 : Int) := by omega
        have hcq : m ≤ c1 := by omega
        go_upto_region 8 with fail
        obtain ⟨V2, hV2⟩ : ∃ V2, V2 = (Value.slice (some ⟨g1, 0, none⟩) m c1) := ⟨_, rfl⟩
        obtain ⟨cs2, hcs2⟩ : ∃ c, c = cs.setIfInBounds 0 V2 := ⟨_, rfl⟩
        obtain ⟨L0, hL0⟩ : ∃ L0, L0 = ((L.set 0 (za, zb, zc, zd)).set m zeroE).take m := ⟨_, rfl⟩
        obtain ⟨q1, q2⟩ := hP4.out.heap.cutE (by rw [List.length_set, List.length_set, HM.out])
        rw [← hV2, ← hcs2, ← hL0] at q1
        rw [← hV2] at q2
        have hP5 := Lib.hid (hP4.out.step q1 q2 HH.out.lt HO.out)
        have hL0l : L0.length = m := by rw [hL0, List.length_take, List.length_set, List.length_set, HM.out]; omega
        have hpop : siftDown lt L0 m 0 = pop lt L := by
          unfold pop
          rw [HM.out, show m + 1 - 1 = m by omega, HZ.out, hL0]
          congr 1
          apply List.ext_getElem?
          intro k
          by_cases hk : k < m
          · rw [List.getElem?_take_of_lt hk, List.getElem?_take_of_lt hk, List.getElem?_set_ne (by omega)]
          · rw [List.getElem?_eq_none (by simp; omega), List.getElem?_eq_none (by simp; omega)]
        have hsm : SmL L0 := by
          intro e he
          rw [hL0] at he
          have h1 := List.mem_of_mem_take he
          rcases List.mem_or_eq_of_mem_set h1 with h2 | h2
          · rcases List.mem_or_eq_of_mem_set h2 with h3 | h3
            · exact HS.out e h3
            · rw [h3, ← HZ.out]
              exact HS.out _ (g_mem L m (by rw [HM.out]; omega))
          · rw [h2]
            show (0 : Nat) ≤ _
            omega
        have HSm := Lib.hid hsm
        have HL0 := Lib.hid hL0l
        have HPop := Lib.hid hpop
        have HV2 := Lib.hid hV2
        have HC2 := Lib.hid hcs2
        have HO2 : Hid (∀ q, V2.ownBlock = some q → q < w.heap.size) := Lib.hid (by rw [hV2]; exact fun q hq => own_q hq hgw)
        clear hL0l hpop hL0 hV2 hcs2 hsm hP4 q1 q2 hc0 hf0 hcap hcp hcq
        go_loopg [6, 7] m (fun d s6 s7 wx => ∃ (i : Nat) (L1 : List Ent), s6 = .int .i64 (i : Int) ∧ Aside0 (Popping base b T w.heap.size (w.heap.size + 1) (.slice (some ⟨g1, 0, none⟩) (m + 1) c1) V2 cs2 L1 (xa, xb, xc, xd) w wx) ∧ Aside0 (siftDown lt L1 m i = pop lt L) ∧ Aside0 (L1.length = m) ∧ Aside0 (d = m - i) ∧ Aside0 (SmL L1) ∧ i ≤ m)
        case atStart => exact ⟨0, L0, rfl, ⟨by rw [← HV2.out]; exact hP5.out⟩, ⟨HPop.out⟩, ⟨HL0.out⟩, ⟨rfl⟩, ⟨HSm.out⟩, Nat.zero_le _⟩
        case round =>
          clear hP5 HPop HL0
          obtain ⟨i, L1, rfl, R1, R2, R3, R4, R5, hi⟩ := hrel
          have hi2 : (i : Int) ≤ 4398046511104 := by omega
          by_cases hc : m ≤ 2 * i + 1
          · have hcd : decide ((2 * (i : Int) + 1) < (m : Int)) = false := decide_eq_false (by omega)
            have hce : decide ((m : Int) ≤ 2 * (i : Int) + 1) = true := decide_eq_true (by omega)
            have e0 := (blk_cell R1.out.first 0)
            have e1 := (blk_cell R1.out.first 1)
            have e2 := (blk_cell R1.out.first 2)
            have e3 := (blk_cell R1.out.first 3)
            have r0 := (blk_cell R1.out.res 0)
            have r1 := (blk_cell R1.out.res 1)
            have r2 := (blk_cell R1.out.res 2)
            have r3 := (blk_cell R1.out.res 3)
            have rf := blk_frozen R1.out.res
            simp only [encE, zeroE, List.getElem?_toArray, List.getElem?_cons_zero, List.getElem?_cons_succ] at e0 e1 e2 e3 r0 r1 r2 r3
            go_wp2_with fail
            obtain ⟨d1, d2, d3⟩ := R1.out.done HH.out.lt HO2.out
            refine bodyPost_ret (results_cell_row rfl _ _ w.heap.size 102 #[.int .i64 xa, .int .u64 xb, .string xc, .int .i64 xd] (0, 0) _ rfl d3 Tryz.underlying102 rfl (by kernel_rfl)) rfl ?_
            refine ⟨by rw [HX.out], V2, ?_, d2⟩
            have e := R2.out
            unfold siftDown at e
            rw [dif_pos hc] at e
            rw [← e, ← HC2.out]
            exact d1
          · have hcn : 2 * i + 1 < m := by omega
            have hcd : decide ((m : Int) ≤ 2 * (i : Int) + 1) = false := decide_eq_false (by omega)
            obtain ⟨B, hB⟩ : ∃ B, decide (2 * i + 2 < m ∧ lt (g L1 (2 * i + 2)) (g L1 (2 * i + 1)) = true) = B := ⟨_, rfl⟩
            have HB := Lib.hid hB
            clear hB
            have hi1 : (0 : Int) ≤ (i : Int) := by omega
            have hi3 : (i : Int) ≤ 2199023255552 := by omega
            go_upto_region 11 with fail
            go_cut [80] (fun s80 wx => s80 = .bool B ∧ Aside0 (Popping base b T w.heap.size (w.heap.size + 1) (.slice (some ⟨g1, 0, none⟩) (m + 1) c1) V2 cs2 L1 (xa, xb, xc, xd) w wx))
            case first =>
              by_cases h2 : 2 * i + 2 < m
              · have h2d : decide ((2 * (i : Int) + 1) + 1 < (m : Int)) = true := decide_eq_true (by omega)
                have h2e : decide (2 * (i : Int) + 2 < (m : Int)) = true := decide_eq_true (by omega)
                have hc0 := R1.out.heap.cell0
                have hc1 := R1.out.heap.cell1
                have hR := R1.out.heap
                rw [HV2.out] at hc0 hR
                obtain ⟨X1, hX1⟩ : ∃ X1, g L1 (2 * i + 2) = X1 := ⟨_, rfl⟩
                obtain ⟨Y1, hY1⟩ : ∃ Y1, g L1 (2 * i + 1) = Y1 := ⟨_, rfl⟩
                obtain ⟨⟨x0, x1, x2, x3⟩, -⟩ := hR.elem (2 * i + 1 + 1) (by rw [R3.out]; omega) X1 hX1
                obtain ⟨⟨y0, y1, y2, y3⟩, -⟩ := hR.elem (2 * i + 1) (by rw [R3.out]; omega) Y1 hY1
                have hSX := Lib.hid (R5.out.at_ (by rw [R3.out]; omega) hX1)
                have hSY := Lib.hid (R5.out.at_ (by rw [R3.out]; omega) hY1)
                obtain ⟨p1, q1, s1, t1⟩ := X1
                obtain ⟨p2, q2, s2, t2⟩ := Y1
                have HX1 := Lib.hid hX1
                have HY1 := Lib.hid hY1
                have hG := Lib.hid (HG.high (B := base) (by omega) (by omega) R1.out.turned.below)
                have hl1 : 2 * (i : Int) + 1 + 1 < (m : Int) := by omega
                have hl2 : 2 * (i : Int) + 1 < (m : Int) := by omega
                have hl3 : (0 : Int) ≤ 2 * (i : Int) + 1 + 1 := by omega
                have hl4 : (0 : Int) ≤ 2 * (i : Int) + 1 := by omega
                have ht1 : (2 * (i : Int) + 1 + 1).toNat = 2 * i + 1 + 1 := by omega
                have ht2 : (2 * (i : Int) + 1).toNat = 2 * i + 1 := by omega
                clear hX1 hY1 hR
                have hw1 : IntKind.i64.wrap (2 * (i : Int) + 1 + 1) = 2 * (i : Int) + 1 + 1 := IntWalk.i64_in _ (by omega)
                go_still_tail 24, (by kernel_rfl)
                change wpList _ _ _ _ _ wr.drew
                have HC := Lib.hid (HL (p1, q1, s1, t1) (p2, q2, s2, t2) wr.drew hSX.out hSY.out (hG.out.drew))
                go_wp2_with fail
                refine HC.out.mono ?_
                rintro e w2 ⟨rfl, hb2⟩
                have hb := Lib.hid ((below_drew (Below.refl _ _)).trans hb2 : Below wr.heap.size wr w2)
                clear hb2
                go_wp2_with fail
                go_meet
                refine ⟨?_, ⟨R1.out.below hb.out⟩⟩
                have e := HB.out
                rw [HX1.out, HY1.out] at e
                rw [← e]
                simp [h2]
              · have h2d : decide ((2 * (i : Int) + 1) + 1 < (m : Int)) = false := decide_eq_false (by omega)
                have h2e : decide (2 * (i : Int) + 2 < (m : Int)) = false := decide_eq_false (by omega)
                have hc0 := R1.out.heap.cell0
                go_quiet (fail)
                go_wp2_with fail
                go_meet
                refine ⟨?_, ⟨R1.out.below (pw_below_drewN (Below.refl _ _) _)⟩⟩
                have e := HB.out
                rw [← e]
                simp [h2]
            case rest =>
              obtain ⟨rfl, hQ⟩ := hcut
              clear R1
              obtain ⟨C, hC⟩ : ∃ C, child lt L1 m i = C := ⟨_, rfl⟩
              obtain ⟨hc1, hc2, hc3⟩ := child_of lt L1 m i hcn
              rw [hC] at hc1 hc2 hc3
              have HCc := Lib.hid hC
              clear hC hc2
              go_upto_if 80 with fail
              go_cut [7] (fun s7 wx => s7 = .int .i64 (C : Int) ∧ Aside0 (Popping base b T w.heap.size (w.heap.size + 1) (.slice (some ⟨g1, 0, none⟩) (m + 1) c1) V2 cs2 L1 (xa, xb, xc, xd) w wx))
              case first =>
                cases hBB : B with
                | true =>
                  subst hBB
                  have hCv : C = 2 * i + 1 + 1 := by
                    have e := HCc.out
                    unfold child at e
                    rw [if_pos (of_decide_eq_true HB.out)] at e
                    omega
                  have HCv := Lib.hid hCv
                  clear hCv
                  go_wp2_with fail
                  go_meet
                  exact ⟨by rw [HCv.out]; first | rfl | simp, hQ⟩
                | false =>
                  subst hBB
                  have hCv : C = 2 * i + 1 := by
                    have e := HCc.out
                    unfold child at e
                    rw [if_neg (of_decide_eq_false HB.out)] at e
                    omega
                  have HCv := Lib.hid hCv
                  clear hCv
                  go_wp2_with fail
                  go_meet
                  exact ⟨by rw [HCv.out]; first | rfl | simp, hQ⟩
              case rest =>
                obtain ⟨rfl, hS⟩ := hcut
                clear hQ
                have hc0 := hS.out.heap.cell0
                have hc1' := hS.out.heap.cell1
                have hR := hS.out.heap
                rw [HV2.out] at hc0 hR
                obtain ⟨X1, hX1⟩ : ∃ X1, g L1 C = X1 := ⟨_, rfl⟩
                obtain ⟨Y1, hY1⟩ : ∃ Y1, g L1 i = Y1 := ⟨_, rfl⟩
                obtain ⟨⟨x0, x1, x2, x3⟩, -⟩ := hR.elem C (by rw [R3.out]; omega) X1 hX1
                obtain ⟨⟨y0, y1, y2, y3⟩, -⟩ := hR.elem i (by rw [R3.out]; omega) Y1 hY1
                have hSX := Lib.hid (R5.out.at_ (by rw [R3.out]; omega) hX1)
                have hSY := Lib.hid (R5.out.at_ (by rw [R3.out]; omega) hY1)
                obtain ⟨p1, q1, s1, t1⟩ := X1
                obtain ⟨p2, q2, s2, t2⟩ := Y1
                have HX1 := Lib.hid hX1
                have HY1 := Lib.hid hY1
                have hG := Lib.hid (HG.high (B := base) (by omega) (by omega) hS.out.turned.below)
                have hl1 : (C : Int) < (m : Int) := by omega
                have hl2 : (i : Int) < (m : Int) := by omega
                have hl5 : i < C := hc3
                have hl6 : C < m := hc1
                have hl7 : ¬ m ≤ 2 * i + 1 := hc
                have Hlc := Lib.hid hl7
                clear hX1 hY1 hR hl7 hc hcd hcn hc1 hc3
                go_upto_region 13 with fail
                go_still_tail 18, (by kernel_rfl)
                change wpList _ _ _ _ _ wc.drew
                cases hL : lt (p1, q1, s1, t1) (p2, q2, s2, t2) with
                | false =>
                  have HLt := Lib.hid hL
                  clear hL
                  have HC := Lib.hid (HL (p1, q1, s1, t1) (p2, q2, s2, t2) wc.drew hSX.out hSY.out (hG.out.drew))
                  rw [HLt.out] at HC
                  go_wp2_with fail
                  refine HC.out.mono ?_
                  rintro e w2 ⟨rfl, hb2⟩
                  have hb := Lib.hid ((below_drew (Below.refl _ _)).trans hb2 : Below wc.heap.size wc w2)
                  clear hb2
                  have hS2 := Lib.hid (hS.out.below hb.out)
                  have e0 := (blk_cell hS2.out.first 0)
                  have e1 := (blk_cell hS2.out.first 1)
                  have e2 := (blk_cell hS2.out.first 2)
                  have e3 := (blk_cell hS2.out.first 3)
                  have r0 := (blk_cell hS2.out.res 0)
                  have r1 := (blk_cell hS2.out.res 1)
                  have r2 := (blk_cell hS2.out.res 2)
                  have r3 := (blk_cell hS2.out.res 3)
                  have rf := blk_frozen hS2.out.res
                  simp only [encE, zeroE, List.getElem?_toArray, List.getElem?_cons_zero, List.getElem?_cons_succ] at e0 e1 e2 e3 r0 r1 r2 r3
                  clear x0 x1 x2 x3 y0 y1 y2 y3 hc0 hc1'
                  go_wp2_with fail
                  obtain ⟨d1, d2, d3⟩ := hS2.out.done HH.out.lt HO2.out
                  refine bodyPost_ret (results_cell_row rfl _ _ w.heap.size 102 #[.int .i64 xa, .int .u64 xb, .string xc, .int .i64 xd] (0, 0) _ rfl d3 Tryz.underlying102 rfl (by kernel_rfl)) rfl ?_
                  refine ⟨by rw [HX.out], V2, ?_, d2⟩
                  have e := R2.out
                  unfold siftDown at e
                  rw [dif_neg Hlc.out, HCc.out, HX1.out, HY1.out, if_neg (by rw [HLt.out]; simp)] at e
                  rw [← e, ← HC2.out]
                  exact d1
                | true =>
                  have HLt := Lib.hid hL
                  clear hL
                  have HC := Lib.hid (HL (p1, q1, s1, t1) (p2, q2, s2, t2) wc.drew hSX.out hSY.out (hG.out.drew))
                  rw [HLt.out] at HC
                  go_wp2_with fail
                  refine HC.out.mono ?_
                  rintro e w2 ⟨rfl, hb2⟩
                  have hS2 := Lib.hid (hS.out.below ((below_drew (Below.refl _ _)).trans hb2 : Below wc.heap.size wc w2))
                  clear hb2 hS x0 x1 x2 x3 y0 y1 y2 y3 hc0 hc1'
                  have hc0 := hS2.out.heap.cell0
                  have hR := hS2.out.heap
                  rw [HV2.out] at hc0 hR
                  obtain ⟨⟨x0, x1, x2, x3⟩, fz⟩ := hR.elem C (by rw [R3.out]; omega) _ HX1.out
                  obtain ⟨⟨y0, y1, y2, y3⟩, -⟩ := hR.elem i (by rw [R3.out]; omega) _ HY1.out
                  clear hR
                  go_upto_region 15 with fail
                  go_region
                  go_wp2_with fail
                  obtain ⟨hs1, hs2⟩ := HeapAt.swpE (by have := hS2.out.heap; rw [HV2.out] at this; exact this) R3.out.symm i C (by rw [R3.out]; omega) (by rw [R3.out]; omega) _ _ HY1.out HX1.out
                  have S1 := Lib.hid hs1
                  have S2 := Lib.hid hs2
                  clear hs1 hs2
                  go_roundg (m - C)
                  case measure => rw [R4.out]; omega
                  case rel =>
                    refine ⟨C, swp L1 i C, rfl, ⟨hS2.out.step (by rw [HV2.out]; exact S1.out) (by rw [HV2.out]; exact S2.out) HH.out.lt HO2.out⟩, ⟨?_⟩, ⟨by rw [swp_length]; exact R3.out⟩, ⟨rfl⟩, ⟨R5.out.perm (swp_perm L1 i C (by rw [R3.out]; omega) (by rw [R3.out]; omega))⟩, by omega⟩
                    have e := R2.out
                    rw [← e]
                    conv => rhs; unfold siftDown
                    rw [dif_neg Hlc.out, HCc.out, HX1.out, HY1.out, if_pos HLt.out, swp_comm L1 i C (by omega)]
end Go.Proofs.YtoanmnhkhookfaaGreatDoor
