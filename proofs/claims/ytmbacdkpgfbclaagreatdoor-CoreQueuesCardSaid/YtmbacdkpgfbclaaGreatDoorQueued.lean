/- The law's own look at a fresh queue, walked; conditions: the order sets 1 ahead of 2. -/
import Derived.Test.YtmbacdkpgfbclaaGreatDoorTop
import Derived.Laws.EntriesVeiled
namespace Go.Proofs.YtmbacdkpgfbclaaGreatDoor
open Go.RowKit Go.Proofs.YtmbacdkpgfbclaaGreatDoorW.PrintWords Heap
set_option linter.unusedVariables false
set_option linter.unusedSimpArgs false

theorem Plain_any (k x : Int) (s : ByteArray) (w : World) : Calls Tryz.prog 47 #[vAgg k x s] w fun e w' => e = .returned (vAgg (plainOf k x s).1 (plainOf k x s).2.1 (plainOf k x s).2.2) ∧ Below w.heap.size w w' := by
 unfold plainOf; by_cases c1 : k = 1
 · subst c1; exact Plain_1 x s w
 by_cases c2 : k = 2
 · subst c2; exact Plain_2 x s w
 by_cases c3 : k = 3
 · subst c3; exact Plain_3 x s w
 rw [if_neg c1, if_neg c2, if_neg c3]; exact Plain_0 k x s w (beq_eq_false_iff_ne.mpr c1) (beq_eq_false_iff_ne.mpr c2) (beq_eq_false_iff_ne.mpr c3)

/-- A queue lies at block q. -/
abbrev QAt (base q : Nat) (v : Value) (L : List Ent) (next : Int) (w : World) : Prop := HeapAt base q 105 #[v, lessV, .int .i64 next] v L w
set_option maxRecDepth 100000 in
set_option maxHeartbeats 1000000 in
theorem NewQueue_walk (w : World) : Calls Tryz.prog 24 #[] w fun e w' => e = .returned (.pointer (some ⟨w.heap.size, 0, none⟩)) ∧ w' = w.alloc (.cells #[.slice none 0 0, lessV, .int .i64 0] 105) := by
 go_enter Tryz.func24, Tryz.ntmps24; go_wp2_with fail; go_ret; exact ⟨rfl, rfl⟩
theorem qAt_new {base : Nat} {w : World} (hb : base ≤ w.heap.size) : QAt base w.heap.size (.slice none 0 0) [] 0 (w.alloc (.cells #[.slice none 0 0, lessV, .int .i64 0] 105)) :=
 ⟨blk_new _ _, rfl, rfl, own_nil _ _ _ _, by decide, hb⟩
/-- The queue's number is turned. -/
theorem HeapAt.next {base q : Nat} {v : Value} {L : List Ent} {n n' : Int} {w : World} (h : QAt base q v L n w) : QAt base q v L n' (w.setCell ⟨q, 2, none⟩ (.int .i64 n')) :=
 ⟨blk_put h.blk 2 _ rfl, rfl, rfl, own_setCell h.row h.apart _, h.ne, h.hb⟩
set_option maxRecDepth 100000 in
set_option maxHeartbeats 2000000 in
theorem Push_walk (lt : Ent → Ent → Bool) (HL : Less lt) (base q : Nat) (v : Value) (L : List Ent) (next : Int) (k x : Int) (s : ByteArray) (pa pb : Int) (pc : ByteArray) (hp : plainOf k x s = (pa, pb, pc)) (w : World) (hH : QAt base q v L next w) (hS : SmL L) (hx : Sm (pa, pb, pc, next)) (hl : L.length < 4398046511104) (hn : 0 ≤ next ∧ next < 4611686018427387904) (h5 : 5 ≤ base) (HG : GW w) :
  Calls Tryz.prog 25 #[.pointer (some ⟨q, 0, none⟩), vAgg k x s] w fun e w' => e = .returned (.int .i64 next) ∧ ∃ v', QAt base q v' (push lt L (pa, pb, pc, next)) (next + 1) w' ∧ Turned base q v v' w w' := by
 have c0 := cellA hH.cell0; have c1 := cellA hH.cell1; have c2 := cellA (show w.cell? ⟨q, 2, none⟩ = some (.int .i64 next) from (blk_cell hH.blk 2).trans rfl); have f2 := frozenA (p := ⟨q, 2, none⟩) hH.lt (hH.frozen 2); obtain ⟨hn0, hn1⟩ := hn; have HH := Lib.hid hH; have HLn := Lib.hid hl; have HS := Lib.hid hS; have HSx := Lib.hid hx; clear hH hl hS hx; have heq : ∀ u : World, (binOp .eql 95 lessV .nilFunc).run Tryz.prog u = .ok (.bool false) u := fun _ => by kernel_rfl
 go_enter Tryz.func25, Tryz.ntmps25; go_upto_region 5 with fail
 obtain ⟨W5, hW5⟩ : ∃ W5, W5 = (w.alloc (.cells #[.int .i64 k, .int .u64 x, .string s] 26)).setCell ⟨q, 2, none⟩ (.int .i64 (next + 1)) := ⟨_, rfl⟩; have hQ5 : QAt base q v L (next + 1) W5 := by rw [hW5]; exact (HH.out.below (below_alloc (Below.refl _ _) _)).next
 have hT5 : Turned base q v v w W5 := by
  rw [hW5]; exact (Turned.of_below (below_alloc (Below.refl _ _) _) (Nat.le_trans HH.out.hb (Nat.le_of_lt HH.out.lt))).trans (Turned.cell HH.out.hb (.inl rfl) 2 _)
 have hbx : W5.heap[w.heap.size]? = some (.cells #[.int .i64 k, .int .u64 x, .string s] 26 (0, 0)) := by
  rw [hW5]; exact blk_far (blk_new _ _) (by have := HH.out.lt; show w.heap.size ≠ q; omega) _
 have b0 : W5.cell? ⟨w.heap.size, 0, none⟩ = some (.int .i64 k) := (blk_cell hbx 0).trans rfl; have b1 : W5.cell? ⟨w.heap.size, 1, none⟩ = some (.int .u64 x) := (blk_cell hbx 1).trans rfl; have b2 : W5.cell? ⟨w.heap.size, 2, none⟩ = some (.string s) := (blk_cell hbx 2).trans rfl; have hGW5 : ∀ wx, Below W5.heap.size W5 wx → GW wx := fun wx hb => HG.high (B := base) (by omega) (by omega) (hT5.below.trans (hb.mono (Nat.le_trans hQ5.hb (Nat.le_of_lt hQ5.lt))))
 have hP := fun wx (hb : Below W5.heap.size W5 wx) => push_any lt HL base q 105 #[v, lessV, .int .i64 (next + 1)] v L (pa, pb, pc, next) wx (hQ5.below hb) HS.out HSx.out HLn.out h5 (hGW5 wx hb)
 rw [← hW5]; have HW5 := Lib.hid hW5; have HQ5 := Lib.hid hQ5; have HT5 := Lib.hid hT5; have HP := Lib.hid hP; have HPl := Lib.hid (Plain_any k x s); rw [hp] at HPl; clear hW5 hQ5 hT5 hP hbx hGW5 hp c0 c1 c2 f2; go_cut [] (fun wx => ∃ v', Aside0 (QAt base q v' (push lt L (pa, pb, pc, next)) (next + 1) wx) ∧ Aside0 (Turned base q v v' w wx))
 case first =>
  go_region_with (first | (go_at_call 47; refine (HPl.out _).mono ?_; rintro e w2 ⟨rfl, hb2⟩) | (go_at_call 70; refine (HP.out _ (by first | exact (pw_below_drewN (Below.refl _ _) _).trans hb2)).mono ?_; rintro e w3 ⟨rfl, v3, hH3, hT3⟩))
  all_goals
   go_wp2_with fail; go_meet
   exact ⟨v3, ⟨hH3⟩, ⟨HT5.out.trans ((Turned.of_below ((pw_below_drewN (Below.refl _ _) _).trans hb2) (Nat.le_trans HQ5.out.hb (Nat.le_of_lt HQ5.out.lt))).trans hT3)⟩⟩
 case rest =>
  obtain ⟨v', h1, h2⟩ := hcut; go_wp2_with fail; go_ret; exact ⟨rfl, v', h1.out, h2.out⟩
set_option maxRecDepth 100000 in
set_option maxHeartbeats 2000000 in
theorem Pop_walk (lt : Ent → Ent → Bool) (HL : Less lt) (base q : Nat) (L : List Ent) (next : Int) (g1 m c1 : Nat) (w : World) (hH : QAt base q (.slice (some ⟨g1, 0, none⟩) (m + 1) c1) L next w) (hm : L.length = m + 1) (hS : SmL L) (hl : L.length < 4398046511104) (h5 : 5 ≤ base) (HG : GW w) :
  Calls Tryz.prog 27 #[.pointer (some ⟨q, 0, none⟩)] w fun e w' => e = .returned (.tuple #[vAgg (g L 0).1 (g L 0).2.1 (g L 0).2.2.1, .int .i64 (g L 0).2.2.2, .bool true]) ∧ ∃ v', QAt base q v' (pop lt L) next w' ∧ Turned base q (.slice (some ⟨g1, 0, none⟩) (m + 1) c1) v' w w' := by
 have c0 := cellA hH.cell0; have hm0 : ((m : Int) + 1 == 0) = false := by simp; omega
 have hbx := fun o => pop_any lt HL base q 105 #[(.slice (some ⟨g1, 0, none⟩) (m + 1) c1), lessV, .int .i64 next] g1 m c1 L (w.alloc o) (hH.below (below_alloc (Below.refl _ _) _)) hm hS hl h5 (HG.alloc _)
 have HP := Lib.hid hbx; have HH := Lib.hid hH; obtain ⟨X, hX⟩ : ∃ X, g L 0 = X := ⟨_, rfl⟩; rw [hX] at HP ⊢; obtain ⟨xa, xb, xc, xd⟩ := X; clear hH hm hl hbx hX hS; go_enter Tryz.func27, Tryz.ntmps27; go_wp2_with fail; refine (HP.out _).mono ?_; rintro e w2 ⟨rfl, v2, hH2, hT2⟩; have H2 := Lib.hid hH2; have T2 := Lib.hid hT2; clear hH2 hT2; have hrb : w2.heap[w.heap.size]? = some (.cells #[.int .i64 0, .int .u64 0, .string ⟨#[]⟩] 26 (0, 0)) := by
  have hq := HH.out.lt; have hg := own_lt HH.out.row g1 rfl; refine (T2.out.keep w.heap.size (by simp) (by omega) (fun e => ?_)).trans (blk_new _ _); have : g1 = w.heap.size := by simpa [Value.ownBlock] using e.symm
  omega
 obtain ⟨W4, hW4⟩ : ∃ W4, W4 = w2.alloc (.cells #[.int .i64 xa, .int .u64 xb, .string xc, .int .i64 xd] 101) := ⟨_, rfl⟩; have hbx : W4.heap[w2.heap.size]? = some (.cells #[.int .i64 xa, .int .u64 xb, .string xc, .int .i64 xd] 101 (0, 0)) := by rw [hW4]; exact blk_new _ _
 have hrb4 : W4.heap[w.heap.size]? = some (.cells #[.int .i64 0, .int .u64 0, .string ⟨#[]⟩] 26 (0, 0)) := by rw [hW4]; exact blk_alloc hrb _
 have hH4 : QAt base q v2 (pop lt L) next W4 := by rw [hW4]; exact H2.out.below (below_alloc (Below.refl _ _) _)
 have hT4 : Turned base q (.slice (some ⟨g1, 0, none⟩) (m + 1) c1) v2 w W4 := by
  rw [hW4]; exact ((Turned.of_below (below_alloc (Below.refl _ _) _) (Nat.le_trans HH.out.hb (Nat.le_of_lt HH.out.lt))).trans T2.out).trans (Turned.of_below (below_alloc (Below.refl _ _) _) (Nat.le_trans H2.out.hb (Nat.le_of_lt H2.out.lt)))
 have e0 : W4.cell? ⟨w2.heap.size, 0, none⟩ = some (.int .i64 xa) := (blk_cell hbx 0).trans rfl; have e1 : W4.cell? ⟨w2.heap.size, 1, none⟩ = some (.int .u64 xb) := (blk_cell hbx 1).trans rfl; have e2 : W4.cell? ⟨w2.heap.size, 2, none⟩ = some (.string xc) := (blk_cell hbx 2).trans rfl; have e3 : W4.cell? ⟨w2.heap.size, 3, none⟩ = some (.int .i64 xd) := (blk_cell hbx 3).trans rfl; have r0 : W4.cell? ⟨w.heap.size, 0, none⟩ = some (.int .i64 0) := (blk_cell hrb4 0).trans rfl; have r1 : W4.cell? ⟨w.heap.size, 1, none⟩ = some (.int .u64 0) := (blk_cell hrb4 1).trans rfl; have r2 : W4.cell? ⟨w.heap.size, 2, none⟩ = some (.string ⟨#[]⟩) := (blk_cell hrb4 2).trans rfl; have f0 := blk_frozen hrb4 0; have f1 := blk_frozen hrb4 1; have f2 := blk_frozen hrb4 2; have hv2 : some w.heap.size ≠ v2.ownBlock := by
  have hg := own_lt HH.out.row g1 rfl; rcases T2.out.own with e | ⟨z, e, hz⟩
  ·
   rw [e]; intro e'; have : g1 = w.heap.size := by simpa [Value.ownBlock] using e'.symm
   omega
  rw [e]; simp at hz ⊢; omega
 have HV2 := Lib.hid hv2; have HW4 := Lib.hid hW4; have H4 := Lib.hid hH4; have T4 := Lib.hid hT4; have RB := Lib.hid hrb4; have hww : w.heap.size ≠ w2.heap.size := by have := T2.out.size; simp at this; omega
 clear hrb hW4 hbx hrb4 hH4 hT4 c0 hv2; go_upto_region 4 with fail
 rw [← HW4.out]; go_cut [3, 4] (fun s3 s4 wx => s3 = .int .i64 xd ∧ s4 = .bool true ∧ Aside0 (QAt base q v2 (pop lt L) next wx) ∧ Aside0 (Turned base q (.slice (some ⟨g1, 0, none⟩) (m + 1) c1) v2 w wx) ∧ Aside0 (wx.heap[w.heap.size]? = some (.cells #[.int .i64 xa, .int .u64 xb, .string xc] 26 (0, 0))))
 case first =>
  go_region
  all_goals
   go_wp2_with fail; go_meet
   have hq : q ≠ w.heap.size := by have := HH.out.lt; omega
   have hb : base ≤ w.heap.size := Nat.le_trans HH.out.hb (Nat.le_of_lt HH.out.lt); obtain ⟨d1, d2⟩ := HeapAt.drewT ⟨((H4.out.far hq HV2.out 0 (.int .i64 xa)).far hq HV2.out 1 (.int .u64 xb)).far hq HV2.out 2 (.string xc), ((T4.out.fresh (Nat.le_refl _) hb 0 (.int .i64 xa)).fresh (Nat.le_refl _) hb 1 (.int .u64 xb)).fresh (Nat.le_refl _) hb 2 (.string xc)⟩; exact ⟨rfl, rfl, ⟨d1⟩, ⟨d2⟩, ⟨blk_drew (valBox RB.out _ _ _)⟩⟩
 case rest =>
  obtain ⟨rfl, rfl, h1, h2, h3⟩ := hcut; go_wp2_with fail; refine bodyPost_ret (results_ctt rfl _ _ w.heap.size 26 #[.int .i64 xa, .int .u64 xb, .string xc] (0, 0) _ rfl h3.out Tryz.underlying26 rfl (by kernel_rfl)) rfl ?_; exact ⟨rfl, v2, h1.out, h2.out⟩
set_option maxRecDepth 100000 in
set_option maxHeartbeats 1000000 in
theorem Pop_empty (base q : Nat) (v : Value) (next : Int) (w : World) (hH : QAt base q v [] next w) :
  Calls Tryz.prog 27 #[.pointer (some ⟨q, 0, none⟩)] w fun e w' => e = .returned (.tuple #[vAgg 0 0 ⟨#[]⟩, .int .i64 0, .bool false]) ∧ Below w.heap.size w w' := by
 have c0 := cellA hH.cell0; obtain ⟨A0, C0, hv⟩ := own_slice hH.row; subst hv; clear hH; go_enter Tryz.func27, Tryz.ntmps27; go_wp2_with fail; refine bodyPost_ret (results_ctt rfl _ _ w.heap.size 26 #[.int .i64 0, .int .u64 0, .string ⟨#[]⟩] (0, 0) _ rfl (blk_new _ _) Tryz.underlying26 rfl (by kernel_rfl)) rfl ?_; exact ⟨rfl, below_alloc (Below.refl _ _) _⟩
set_option maxRecDepth 100000 in
set_option maxHeartbeats 1000000 in
theorem Len_walk (base q : Nat) (v : Value) (L : List Ent) (next : Int) (w : World) (hH : QAt base q v L next w) :
  Calls Tryz.prog 26 #[.pointer (some ⟨q, 0, none⟩)] w fun e w' => e = .returned (.int .i64 (L.length : Int)) ∧ w = w' := by
 have c0 := hH.cell0; obtain ⟨A0, C0, hv⟩ := own_slice hH.row; subst hv; clear hH; go_enter Tryz.func26, Tryz.ntmps26; go_wp2_with fail; go_ret; exact ⟨rfl, rfl⟩
end Go.Proofs.YtmbacdkpgfbclaaGreatDoor
namespace Go.Proofs.YtmbacdkpgfbclaaGreatDoor
open Go.RowKit Go.Proofs.YtmbacdkpgfbclaaGreatDoorW.PrintWords Heap
set_option linter.unusedVariables false
set_option linter.unusedSimpArgs false
def e2 : Ent := (1, 4611686018427387904, ⟨#[]⟩, 0)
def e1 : Ent := (1, 4607182418800017408, ⟨#[]⟩, 1)
end Go.Proofs.YtmbacdkpgfbclaaGreatDoor
