/- relate.Top walked: the heap is filled, and as many as are asked for are taken out; conditions: up to 2^42 values. -/
import Derived.Deep.DeepAppendWide
import Derived.Test.YtmbacdkpgfbclaaGreatDoorWWords
import Derived.Test.YtmbacdkpgfbclaaGreatDoorHeapW
import Derived.BigRegion
import Derived.BigQuiet
import Derived.Deep.QuietTactic
import Derived.Deep.RegionLaw
import Derived.Deep.RegionWith
import Derived.Deep.DeepCutAuto
import Derived.StillTailTactics
import Derived.Deep.LoopGhost
import Derived.IntWalk
import Derived.Laws.EntriesVeiled
namespace Go.Proofs.YtmbacdkpgfbclaaGreatDoor
open Go.RowKit Go.Proofs.YtmbacdkpgfbclaaGreatDoorW.PrintWords
/-- Where the longer row lies: where it lay, or in a new block. -/
theorem append_where {P : Program} (w : World) (base : Nat) (t ty e : TypeId) (i : TypeInfo) (z : Value) (size bytes : Nat) (ht : P.underlying t = some (.slice e)) (hi : P.info? e = some i) (hz : i.zero = some z)
  (hsize : i.size = size) (hby : i.bytes = bytes) (v : Value) (n : Nat) (xs : List Value) (hown : w.ownsRow base e size v n xs)
  (a : Addr) (c : Nat) (news : List Value) (hl : news.length = 1 * size) (hnews : ∀ j u, news[j]? = some u → w.cell? (a.add j) = some u) (h1 : ∀ u ∈ news, u.oneCell' = true)
  (h63 : n + 1 ≤ maxLen) (hbytes : ((n + 1) + (n + 1) / 4 + 192) * bytes ≤ 281474976710656) (v' : Value) (w' : World)
  (hr : (Builtin.append_ #[t, t] ty #[v, .slice (some a) 1 c]).run P w = .ok v' w') : v'.ownBlock = v.ownBlock ∨ v'.ownBlock = some w.heap.size := by
 subst hsize; subst hby
 have hsmall : n + 1 ≤ 9223372036854775807 := by simp only [maxLen] at h63; omega
 rcases hown.2 with ⟨rfl, rfl⟩ | ⟨g, cap, cur, rfl, hbg, hg, hnc, hcm, hcs, htake⟩
 ·
  have h := run_append_nil (P := P) w t ty e i z ht hi hz a 1 c news hl hnews (by omega) (by omega) (by omega); rw [h] at hr; cases hr
  exact .inr rfl
 by_cases hroom : n + 1 ≤ cap
 ·
  have hfit : n * i.size + news.length ≤ cur.size := by rw [hl, hcs, ← Nat.add_mul]; exact Nat.mul_le_mul_right _ hroom
  have h := run_append_room (P := P) w t ty e i ht hi g n cap cur hg a 1 c news hl hnews h1 hroom hfit; rw [h] at hr; cases hr
  exact .inl rfl
 have holds : ∀ j u, xs[j]? = some u → w.cell? ((⟨g, 0, none⟩ : Addr).add j) = some u := hown.cells (g := g) rfl; have h := run_append_grow (P := P) w t ty e i z ht hi hz ⟨g, 0, none⟩ n cap xs hown.1 holds a 1 c news hl hnews (by omega) (by omega) (growslice_fits_wide (by omega) hbytes); rw [h] at hr; cases hr
 exact .inr rfl
section
variable {P : Program} {ops : Array Oper} {o : Oper} {a : Act} {Q : Exit → Act → World → Prop} {K : Act → World → Prop}
theorem step_append_wide {w0 W : World} (base : Nat) (hw : Region.wanted o (yielded ops a.tmps) = true) (s x : Operand) (t e : TypeId) (z : Value) (size bytes : Nat)
  (ho : o.op = .call { callee := .builtin .append, args := #[s, x], argTypes := #[t, t] })
  (ht : P.underlying t = some (.slice e)) (hinfo : (P.info? e).map (fun i => (i.zero, i.size, i.bytes)) = some (some z, size, bytes)) (hz : z.cells.size = size) (hs0 : 0 < size) (hb0 : 0 < bytes)
  (v : Value) (n : Nat) (xs ys : List Value) (hs : a.eval s = v) (hx : a.eval x = .slice (some ⟨W.heap.size, 0, none⟩) 1 1) (hys : ys.length = size) (h1 : ∀ u ∈ ys, u.oneCell' = true)
  (HO : W.ownsRow base e size v n xs) (HB : Below base w0 W) (hbase : base ≤ W.heap.size) (hl : ((n + 1) + (n + 1) / 4 + 192) * bytes ≤ 281474976710656)
  (h : ∀ v1 w1, w1.ownsRow base e size v1 (n + 1) (xs ++ ys) → Below base w0 w1 → W.grownBy w1 v.ownBlock → (v1.ownBlock = v.ownBlock ∨ ∃ b, v1.ownBlock = some b ∧ W.heap.size ≤ b) → K (a.put o.dst v1) w1) :
  if Region.wanted o (yielded ops a.tmps) = true then Oper.wp P o a (W.alloc (.cells ys.toArray e)) K Q else K (a.put o.dst undef) (W.alloc (.cells ys.toArray e)) := by
 obtain ⟨i0, hi, hzz⟩ := Option.map_eq_some_iff.1 hinfo; simp only [Prod.mk.injEq] at hzz; obtain ⟨hz0, hz1, hz2⟩ := hzz; have hlen : (n + 1) + (n + 1) / 4 + 192 ≤ 281474976710656 := Nat.le_trans (Nat.le_mul_of_pos_right _ hb0) hl; rw [if_pos hw]; have hnews : ∀ (j : Nat) (u : Value), ys[j]? = some u → (W.alloc (.cells ys.toArray e)).cell? ((⟨W.heap.size, 0, none⟩ : Addr).add j) = some u := by
  simpa using World.news_of_block (cs := ys.toArray) (t := e) (fr := (0, 0)) (heap_alloc_new W (.cells ys.toArray e))
 have hm : n + 1 ≤ maxLen := by simp only [maxLen]; omega
 obtain ⟨v1, w1, hr, hown, hg, _⟩ := run_append_own_wide (P := P) (W.alloc (.cells ys.toArray e)) base t o.type e i0 z size bytes ht hi hz0 hz1 hz2 hz hs0 v n xs (HO.alloc _) ⟨W.heap.size, 0, none⟩ 1 1 ys (by rw [hys]; simp)
  hnews h1 hm hl (by simp; omega)
 have hat := append_where (P := P) (W.alloc (.cells ys.toArray e)) base t o.type e i0 z size bytes ht hi hz0 hz1 hz2 v n xs (HO.alloc _) ⟨W.heap.size, 0, none⟩ 1 ys (by rw [hys]; simp) hnews h1 hm hl v1 w1 hr; unfold Oper.wp execOp; simp only [ho, resolve, invoke, builtin, Sem.run_bind, Sem.run_pure, Result.andThen_ok, List.map_toArray, List.map_cons, List.map_nil, hs, hx, hr]; refine h v1 w1 hown ((HB.alloc hbase _).grown hg (by simp; omega) (own_base HO)) (World.grownBy.trans (World.grownBy_alloc W _ _) hg) ?_; rcases hat with hat | hat
 · exact .inl hat
 exact .inr ⟨_, hat, by simp⟩
end
end Go.Proofs.YtmbacdkpgfbclaaGreatDoor
namespace Go.Proofs.YtmbacdkpgfbclaaGreatDoor
open Go.RowKit Go.Proofs.YtmbacdkpgfbclaaGreatDoorW.PrintWords Heap
set_option linter.unusedVariables false
set_option linter.unusedSimpArgs false
theorem infoE : (Tryz.prog.info? 101).map (fun i => (i.zero, i.size, i.bytes)) = some (some (.agg #[.int .i64 0, .int .u64 0, .string ⟨#[]⟩, .int .i64 0]), 4, 40) := by kernel_rfl
theorem own_form {w : World} {base n size : Nat} {e : TypeId} {v : Value} {xs : List Value} (h : w.ownsRow base e size v n xs) (hn : 0 < n) : ∃ g c, v = .slice (some ⟨g, 0, none⟩) n c := by
 rcases h.2 with ⟨_, h0⟩ | ⟨g, cap, cur, rfl, _⟩
 · omega
 exact ⟨g, cap, rfl⟩
theorem push_met {base b T : Nat} {cs : Array Value} {v : Value} {L : List Ent} {x : Ent} {w w1 : World} {o : Obj} (hH : HeapAt base b T cs v L w) {g1 c1 : Nat}
  (P1 : w1.ownsRow base 101 4 (.slice (some ⟨g1, 0, none⟩) (L.length + 1) c1) (L.length + 1) (flatE L ++ encE x)) (P2 : Below base ((w.alloc o).drew) w1) (P3 : ((w.alloc o).drew).grownBy w1 v.ownBlock)
  (P4 : (Value.slice (some ⟨g1, 0, none⟩) (L.length + 1) c1).ownBlock = v.ownBlock ∨ ∃ q, (Value.slice (some ⟨g1, 0, none⟩) (L.length + 1) c1).ownBlock = some q ∧ ((w.alloc o).drew).heap.size ≤ q) :
  HeapAt base b T (cs.setIfInBounds 0 (.slice (some ⟨g1, 0, none⟩) (L.length + 1) c1)) (.slice (some ⟨g1, 0, none⟩) (L.length + 1) c1) (L ++ [x]) (w1.setCell ⟨b, 0, none⟩ (.slice (some ⟨g1, 0, none⟩) (L.length + 1) c1)) ∧
   Turned base b v (.slice (some ⟨g1, 0, none⟩) (L.length + 1) c1) w (w1.setCell ⟨b, 0, none⟩ (.slice (some ⟨g1, 0, none⟩) (L.length + 1) c1)) := by
 have hb1 : Below w.heap.size w ((w.alloc o).drew) := below_drew (below_alloc (Below.refl _ _) _); have hH1 := hH.below hb1; have hbw : base ≤ w.heap.size := Nat.le_trans hH.hb (Nat.le_of_lt hH.lt); have hblk := blk_grown hH1.blk P3 hH1.apart; have h0 : 0 < cs.size := by
  rcases Nat.lt_or_ge 0 cs.size with h | h
  · exact h
  have := hH.c0; rw [Array.getElem?_eq_none h] at this; cases this
 refine ⟨⟨blk_set hblk 0 _, ?_, ?_, ?_, hH.ne, hH.hb⟩, ?_⟩
 · rw [Array.getElem?_setIfInBounds]; simp [h0]
 · rw [Array.getElem?_setIfInBounds]; simp; exact hH.c1
 · have h1 := own_setCell P1 (p := ⟨b, 0, none⟩) (own_ne P1 hblk hH.ne) (.slice (some ⟨g1, 0, none⟩) (L.length + 1) c1); rw [flatE_append, List.length_append]; simpa [flatE] using h1
 exact ((Turned.of_below hb1 hbw).trans (Turned.row P3 P2 _ P4)).trans (Turned.cell hH.hb (.inl rfl) 0 _)
set_option maxRecDepth 100000 in
set_option maxHeartbeats 2000000 in
theorem push_any (lt : Ent → Ent → Bool) (HL : Less lt) (base b T : Nat) (cs : Array Value) (v : Value) (L : List Ent) (x : Ent) (w : World) (hH : HeapAt base b T cs v L w) (hS : SmL L) (hx : Sm x) (hl : L.length < 4398046511104) (h5 : 5 ≤ base) (HG : GW w) :
  Calls Tryz.prog 70 #[.pointer (some ⟨b, 0, none⟩), entV x] w fun e w' => e = .returned (.tuple #[]) ∧ ∃ v', HeapAt base b T (cs.setIfInBounds 0 v') v' (push lt L x) w' ∧ Turned base b v v' w w' := by
 obtain ⟨k, n, s, id⟩ := x; have HS := Lib.hid hS; have HSx := Lib.hid hx; clear hS hx; have hc0 := hH.cell0; have hf0 := hH.frozen 0; have hca : ∀ o, (w.alloc o).cell? ⟨b, 0, none⟩ = some v := fun o => pw_cell_below (below_alloc (Below.refl _ _) o) hc0
 have hca2 : ∀ o o2, ((w.alloc o).alloc o2).cell? ⟨b, 0, none⟩ = some v := fun o o2 => pw_cell_below (below_alloc (below_alloc (Below.refl _ _) o) o2) hc0
 obtain ⟨E, hE⟩ : ∃ E : Ent, E = (k, n, s, id) := ⟨_, rfl⟩; obtain ⟨W1, hW1⟩ : ∃ W1, W1 = (w.alloc (.cells #[.int .i64 k, .int .u64 n, .string s, .int .i64 id] 101)).drew := ⟨_, rfl⟩; have hB1 : Below w.heap.size w W1 := by rw [hW1]; exact below_drew (below_alloc (Below.refl _ _) _)
 have hbw : base ≤ w.heap.size := Nat.le_trans hH.hb (Nat.le_of_lt hH.lt); have H1 := Lib.hid (hH.below hB1); have H2 := Lib.hid (Nat.le_trans hbw hB1.size); have H3 : Hid (((L.length + 1) + (L.length + 1) / 4 + 192) * 40 ≤ 281474976710656) := Lib.hid (by omega); have HH := Lib.hid hH; have HB1 := Lib.hid hB1; have HW := Lib.hid hW1; have HE := Lib.hid hE; clear hH hB1 hbw hE; go_enter Tryz.func70, Tryz.ntmps70; go_upto_region 1 with fail
 go_cut [] (fun wx => ∃ g1 c1 : Nat, HeapAt base b T (cs.setIfInBounds 0 (.slice (some ⟨g1, 0, none⟩) (L.length + 1) c1)) (.slice (some ⟨g1, 0, none⟩) (L.length + 1) c1) (L ++ [(k, n, s, id)]) wx ∧ Turned base b v (.slice (some ⟨g1, 0, none⟩) (L.length + 1) c1) w wx)
 case first =>
  have hr1 : ((w.alloc (.cells #[.int .i64 k, .int .u64 n, .string s, .int .i64 id] 101)).drew).ownsRow base 101 4 v L.length (flatE L) := hW1 ▸ H1.out.row; have hr2 : base ≤ ((w.alloc (.cells #[.int .i64 k, .int .u64 n, .string s, .int .i64 id] 101)).drew).heap.size := hW1 ▸ H2.out; have hr3 : ((w.alloc (.cells #[.int .i64 k, .int .u64 n, .string s, .int .i64 id] 101)).drew).heap[b]? = some (.cells cs T (0, 0)) := hW1 ▸ H1.out.blk; have R1 := Lib.hid hr1; have R2 := Lib.hid hr2; have R3 := Lib.hid hr3; clear hr1 hr2 hr3 hW1; go_region_law (refine step_append_wide (W := (w.alloc (.cells #[.int .i64 k, .int .u64 n, .string s, .int .i64 id] 101)).drew) (w0 := (w.alloc (.cells #[.int .i64 k, .int .u64 n, .string s, .int .i64 id] 101)).drew) base rfl (.tmp 10) (.tmp 12) 96 101 _ 4 40 rfl Tryz.underlying96 infoE rfl (by omega) (by omega) v L.length (flatE L) [.int .i64 k, .int .u64 n, .string s, .int .i64 id] (by simp [Act.eval, Act.put]) (by simp [Act.eval, Act.put]) rfl (by simp [Value.oneCell']) R1.out (Below.refl _ _) R2.out H3.out ?_; intro v1 w1 hrow1 hb1 hg1 hat1; (have B1 := Lib.hid (blk_grown R3.out hg1 (own_ne R1.out R3.out HH.out.ne))); (have F1 := blk_frozen B1.out 0); (have C1 := (blk_cell B1.out 0).trans HH.out.c0); (have hs1 := own_slice hrow1); (have hv1 := own_form hrow1 (by omega)); (have P1 := Lib.hid hrow1); (have P2 := Lib.hid hb1); (have P3 := Lib.hid hg1); (have P4 := Lib.hid hat1); (obtain ⟨g1, c1, hv1⟩ := hv1); subst hv1; clear hrow1 hb1 hg1 hat1 hs1)
  all_goals
   go_wp2_with fail; go_meet
   exact ⟨_, _, push_met HH.out P1.out P2.out P3.out P4.out⟩
 case rest =>
  obtain ⟨g1, c1, hH1, hT1⟩ := hcut; clear hca hca2 hc0 hf0; have hc0 := hH1.cell0; have hz : L.length + 1 ≤ 4398046511104 := by omega
  have K1 := Lib.hid hH1; have K2 := Lib.hid hT1; clear hH1 hT1 H1 H2 H3 HB1 HW HE HH hW1; obtain ⟨V1, hV1⟩ : ∃ V1, V1 = (Value.slice (some ⟨g1, 0, none⟩) (L.length + 1) c1) := ⟨_, rfl⟩; obtain ⟨cs1, hcs1⟩ : ∃ c, c = cs.setIfInBounds 0 V1 := ⟨_, rfl⟩; have K1' := K1.out; have K2' := K2.out; rw [← hV1, ← hcs1] at K1'; rw [← hV1] at K2'; have K3 := Lib.hid K1'; have K4 := Lib.hid K2'; have KV := Lib.hid hV1; have KC := Lib.hid hcs1; clear K1' K2' K1 K2 hV1 hcs1; go_wp2_with fail; go_loopg [4, 5] L.length (fun i s4 s5 w' => ∃ L1 : List Ent, s4 = .int .i64 (i : Int) ∧ Aside0 (HeapAt base b T cs1 V1 L1 w') ∧ Aside0 (Turned base b v V1 w w') ∧ Aside0 (siftUp lt L1 i = push lt L (k, n, s, id)) ∧ Aside0 (L1.length = L.length + 1) ∧ Aside0 (SmL L1) ∧ i ≤ L.length)
  case atStart => exact ⟨L ++ [(k, n, s, id)], (by first | rfl | simp), ⟨K3.out⟩, ⟨K4.out⟩, ⟨rfl⟩, ⟨by simp⟩, ⟨fun e he => by rcases List.mem_append.mp he with h | h; exact HS.out e h; rw [List.mem_singleton.mp h]; exact HSx.out⟩, Nat.le_refl _⟩
  case round =>
   obtain ⟨L1, rfl, R1, R2, R3, R4, R5, hi⟩ := hrel; clear hc0 K3 K4; by_cases h0 : gk = 0
   ·
    subst h0; have hd : decide ((0 : Int) < 0) = false := rfl; go_wp2_with fail; first | go_end0 | refine bodyPost_ret (results_none rfl _ _ _) rfl ?_
    refine ⟨rfl, V1, ?_, R2.out⟩; have e := R3.out; unfold siftUp at e; rw [dif_pos rfl] at e; have hh := R1.out; rw [e, KC.out] at hh; exact hh
   have hd : decide ((0 : Int) < (gk : Int)) = true := decide_eq_true (by omega); obtain ⟨p, hp⟩ : ∃ p, (gk - 1) / 2 = p := ⟨_, rfl⟩; have hp1 : ((gk : Int) - 1) / 2 = (p : Int) := by omega
   have hb0 : 0 ≤ (gk : Int) - 1 := by omega
   have hb1 : (gk : Int) ≤ 4398046511104 := by omega
   have hb2 : (p : Int) ≤ 4398046511104 := by omega
   go_upto_region 5 with fail
   simp only [hp1]; have hc0 := R1.out.cell0; have hc1 := R1.out.cell1; rw [KV.out] at hc0; have hR := R1.out; rw [KV.out] at hR; obtain ⟨X, hX⟩ : ∃ X, g L1 gk = X := ⟨_, rfl⟩; obtain ⟨Y, hY⟩ : ∃ Y, g L1 p = Y := ⟨_, rfl⟩; obtain ⟨⟨x0, x1, x2, x3⟩, -⟩ := hR.elem gk (by rw [R4.out]; omega) X hX; obtain ⟨⟨y0, y1, y2, y3⟩, -⟩ := hR.elem p (by rw [R4.out]; omega) Y hY; have hSX := R5.out.at_ (by rw [R4.out]; omega) hX; have hSY := R5.out.at_ (by rw [R4.out]; omega) hY; obtain ⟨xa, xb, xc, xd⟩ := X; obtain ⟨ya, yb, yc, yd⟩ := Y; have HSX := Lib.hid hSX; have HSY := Lib.hid hSY; clear hSX hSY; have HX := Lib.hid hX; have HY := Lib.hid hY; have hg1 : (gk : Int) < (L.length : Int) + 1 := by omega
   have hg2 : (p : Int) < (L.length : Int) + 1 := by omega
   have hpk : p < gk := by omega
   have hG := Lib.hid (HG.high (B := base) (by omega) (by omega) R2.out.below); have HP := Lib.hid hp; have H0 := Lib.hid h0; clear hX hY hR hp1 h0 hp; go_still_tail 18, (by kernel_rfl)
   change wpList _ _ _ _ _ wr.drew; cases hB : lt (xa, xb, xc, xd) (ya, yb, yc, yd) with
   | false =>
    have HB := Lib.hid hB; clear hB; have HC := Lib.hid (HL (xa, xb, xc, xd) (ya, yb, yc, yd) wr.drew HSX.out HSY.out (hG.out.drew)); rw [HB.out] at HC; go_wp2_with fail; refine HC.out.mono ?_; rintro e w2 ⟨rfl, hb2⟩; have HW2 := Lib.hid hb2; clear hb2; go_wp2_with fail; first | go_end0 | refine bodyPost_ret (results_none rfl _ _ _) rfl ?_
    have hb : Below wr.heap.size wr w2 := (below_drew (Below.refl _ _)).trans HW2.out; refine ⟨rfl, V1, ?_, R2.out.trans (Turned.of_below hb (Nat.le_trans R1.out.hb (Nat.le_of_lt R1.out.lt)))⟩; have e := R3.out; unfold siftUp at e; rw [dif_neg H0.out, HP.out, HX.out, HY.out, if_neg (by rw [HB.out]; simp)] at e; have hh := R1.out.below hb; rw [e, KC.out] at hh; exact hh
   | true =>
    have HB := Lib.hid hB; clear hB; have HC := Lib.hid (HL (xa, xb, xc, xd) (ya, yb, yc, yd) wr.drew HSX.out HSY.out (hG.out.drew)); rw [HB.out] at HC; go_wp2_with fail; refine HC.out.mono ?_; rintro e w2 ⟨rfl, hb2⟩; have hb : Below wr.heap.size wr w2 := (below_drew (Below.refl _ _)).trans hb2; have hH2 := R1.out.below hb; have hT2 := R2.out.trans (Turned.of_below hb (Nat.le_trans R1.out.hb (Nat.le_of_lt R1.out.lt))); have hc0' := hH2.cell0; have hR := hH2; rw [KV.out] at hR hc0'; obtain ⟨⟨x0', x1', x2', x3'⟩, fz⟩ := hR.elem gk (by rw [R4.out]; omega) _ HX.out; obtain ⟨⟨y0', y1', y2', y3'⟩, -⟩ := hR.elem p (by rw [R4.out]; omega) _ HY.out; have HH2 := Lib.hid hH2; have HT2 := Lib.hid hT2; clear hb2 hb hH2 hT2 hR hc0 hc1 x0 x1 x2 x3 y0 y1 y2 y3 HC R1 R2; go_upto_region 6 with fail
    go_region
    go_wp2_with fail; obtain ⟨hs1, hs2⟩ := HeapAt.swpE (by have := HH2.out; rw [KV.out] at this; exact this) R4.out.symm gk p (by rw [R4.out]; omega) (by rw [R4.out]; omega) _ _ HX.out HY.out; have S1 := Lib.hid hs1; have S2 := Lib.hid hs2; clear hs1 hs2; go_roundg p
    case measure => exact hpk
    case rel =>
     refine ⟨swp L1 gk p, rfl, ⟨by rw [KV.out]; exact S1.out⟩, ⟨by have := HT2.out; rw [KV.out] at this ⊢; exact this.trans S2.out⟩, ⟨?_⟩, ⟨by rw [swp_length]; exact R4.out⟩, ⟨R5.out.perm (swp_perm L1 gk p (by rw [R4.out]; omega) (by rw [R4.out]; omega))⟩, by omega⟩; have e := R3.out; rw [← e]; conv => rhs; unfold siftUp
     rw [dif_neg H0.out, HP.out, HX.out, HY.out, if_pos HB.out]
end Go.Proofs.YtmbacdkpgfbclaaGreatDoor
namespace Go.Proofs.YtmbacdkpgfbclaaGreatDoor
open Go.RowKit Go.Proofs.YtmbacdkpgfbclaaGreatDoorW.PrintWords Heap
set_option linter.unusedVariables false
set_option linter.unusedSimpArgs false
def zeroE : Ent := (0, 0, ⟨#[]⟩, 0)
/-- Where pop stands: the heap, its result's box r, the box f of the first entry. -/
structure Popping (base b T r f : Nat) (v0 v : Value) (cs : Array Value) (L : List Ent) (X : Ent) (w wx : World) : Prop where
 heap : HeapAt base b T cs v L wx
 turned : Turned base b v0 v w wx
 res : wx.heap[r]? = some (.cells (encE zeroE).toArray 101 (0, 0))
 first : wx.heap[f]? = some (.cells (encE X).toArray 101 (0, 0))
 rlt : w.heap.size ≤ r
 flt : r < f
namespace Popping
variable {base b T r f : Nat} {v0 v v' : Value} {cs cs' : Array Value} {L L' : List Ent} {X : Ent} {w wx wy : World}
theorem step (h : Popping base b T r f v0 v cs L X w wx) (hH : HeapAt base b T cs' v' L' wy) (hT : Turned base b v v' wx wy) (hb : b < w.heap.size) (hg : ∀ q, v.ownBlock = some q → q < w.heap.size) : Popping base b T r f v0 v' cs' L' X w wy := by
 refine ⟨hH, h.turned.trans hT, ?_, ?_, h.rlt, h.flt⟩
 · have := h.rlt; exact (hT.keep r (blk_lt h.res) (by omega) (fun e => by have := hg r e.symm; omega)).trans h.res
 have := h.rlt; have := h.flt; exact (hT.keep f (blk_lt h.first) (by omega) (fun e => by have := hg f e.symm; omega)).trans h.first
theorem below (h : Popping base b T r f v0 v cs L X w wx) (hb : Below wx.heap.size wx wy) : Popping base b T r f v0 v cs L X w wy :=
 ⟨h.heap.below hb, h.turned.trans (Turned.of_below hb (Nat.le_trans h.heap.hb (Nat.le_of_lt h.heap.lt))), blk_below h.res hb, blk_below h.first hb, h.rlt, h.flt⟩
theorem done (h : Popping base b T r f v0 v cs L X w wx) (hb : b < w.heap.size) (hg : ∀ q, v.ownBlock = some q → q < w.heap.size) :
  HeapAt base b T cs v L ((((wx.setCell ⟨r, 0, none⟩ (.int .i64 X.1)).setCell ⟨r, 1, none⟩ (.int .u64 X.2.1)).setCell ⟨r, 2, none⟩ (.string X.2.2.1)).setCell ⟨r, 3, none⟩ (.int .i64 X.2.2.2)) ∧
   Turned base b v0 v w ((((wx.setCell ⟨r, 0, none⟩ (.int .i64 X.1)).setCell ⟨r, 1, none⟩ (.int .u64 X.2.1)).setCell ⟨r, 2, none⟩ (.string X.2.2.1)).setCell ⟨r, 3, none⟩ (.int .i64 X.2.2.2)) ∧
   ((((wx.setCell ⟨r, 0, none⟩ (.int .i64 X.1)).setCell ⟨r, 1, none⟩ (.int .u64 X.2.1)).setCell ⟨r, 2, none⟩ (.string X.2.2.1)).setCell ⟨r, 3, none⟩ (.int .i64 X.2.2.2)).heap[r]? = some (.cells #[.int .i64 X.1, .int .u64 X.2.1, .string X.2.2.1, .int .i64 X.2.2.2] 101 (0, 0)) := by
 have h1 : b ≠ r := by have := h.rlt; omega
 have h2 : some r ≠ v.ownBlock := fun e => by have := hg r e.symm; have := h.rlt; omega
 have h3 : base ≤ r := Nat.le_trans h.heap.hb (Nat.le_trans (Nat.le_of_lt hb) h.rlt); exact ⟨(((h.heap.far h1 h2 _ _).far h1 h2 _ _).far h1 h2 _ _).far h1 h2 _ _, (((h.turned.fresh h.rlt h3 _ _).fresh h.rlt h3 _ _).fresh h.rlt h3 _ _).fresh h.rlt h3 _ _, entBox h.res _ _ _ _⟩
end Popping
theorem own_q {g1 n c q N : Nat} (h : (Value.slice (some ⟨g1, 0, none⟩) n c).ownBlock = some q) (hg : g1 < N) : q < N := by
 have : g1 = q := by simpa [Value.ownBlock] using h
 omega
theorem cellA {w : World} {p : Addr} {v : Value} (h : w.cell? p = some v) : ∀ o, (w.alloc o).cell? p = some v := fun o => pw_cell_below (below_alloc (Below.refl _ _) o) h
theorem frozenA {w : World} {p : Addr} {b : Bool} (hp : p.block < w.heap.size) (h : w.frozen? p = b) : ∀ o, (w.alloc o).frozen? p = b := fun o => ((below_alloc (Below.refl _ _) o).frozen hp).trans h
set_option maxRecDepth 100000 in
set_option maxHeartbeats 4000000 in
theorem pop_any (lt : Ent → Ent → Bool) (HL : Less lt) (base b T : Nat) (cs : Array Value) (g1 m c1 : Nat) (L : List Ent) (w : World) (hH : HeapAt base b T cs (.slice (some ⟨g1, 0, none⟩) (m + 1) c1) L w) (hm : L.length = m + 1) (hS : SmL L) (hl : L.length < 4398046511104) (h5 : 5 ≤ base) (HG : GW w) :
  Calls Tryz.prog 71 #[.pointer (some ⟨b, 0, none⟩)] w fun e w' => e = .returned (entV (g L 0)) ∧ ∃ v', HeapAt base b T (cs.setIfInBounds 0 v') v' (pop lt L) w' ∧ Turned base b (.slice (some ⟨g1, 0, none⟩) (m + 1) c1) v' w w' := by
 have HS := Lib.hid hS; clear hS; have hml : (m : Int) < 4398046511104 := by omega
 have hm0 : (0 : Int) ≤ (m : Int) := by omega
 obtain ⟨X, hX⟩ : ∃ X, g L 0 = X := ⟨_, rfl⟩; obtain ⟨Z, hZ⟩ : ∃ Z, g L m = Z := ⟨_, rfl⟩; have hc0 := cellA hH.cell0; obtain ⟨⟨x0, x1, x2, x3⟩, hfz⟩ := hH.elem 0 (by omega) X hX; have x0 := cellA x0; have x1 := cellA x1; have x2 := cellA x2; have x3 := cellA x3; simp only [Nat.zero_mul, Nat.zero_add] at x0 x1 x2 x3; obtain ⟨xa, xb, xc, xd⟩ := X; obtain ⟨za, zb, zc, zd⟩ := Z; simp only [] at x0 x1 x2 x3; have hgw : g1 < w.heap.size := own_lt hH.row g1 rfl; have hg0 : (0 : Int) < (m : Int) + 1 := by omega
 have HX := Lib.hid hX; have HZ := Lib.hid hZ; have HM := Lib.hid hm; have HH := Lib.hid hH; have HLn := Lib.hid hl; clear hX hZ hm hH hl hfz; go_enter Tryz.func71, Tryz.ntmps71; go_upto_region 1 with fail
 go_cut [3] (fun s3 wx => s3 = .pointer (some ⟨w.heap.size + 1, 0, none⟩) ∧ Aside0 (Popping base b T w.heap.size (w.heap.size + 1) (.slice (some ⟨g1, 0, none⟩) (m + 1) c1) (.slice (some ⟨g1, 0, none⟩) (m + 1) c1) cs L (xa, xb, xc, xd) w wx))
 case first =>
  go_wp2_with fail; go_meet
  refine ⟨rfl, ⟨?_⟩⟩; have hb2 : ∀ o1 o2 : Obj, Below w.heap.size w ((w.alloc o1).alloc o2) := fun o1 o2 => below_alloc (below_alloc (Below.refl _ _) _) _
  refine ⟨HH.out.below (hb2 _ _), Turned.of_below (hb2 _ _) (Nat.le_trans HH.out.hb (Nat.le_of_lt HH.out.lt)), blk_alloc (blk_new _ _) _, new2 _ _ _, Nat.le_refl _, Nat.lt_succ_self _⟩
 case rest =>
  obtain ⟨rfl, hP⟩ := hcut; clear hc0 x0 x1 x2 x3; have hc0 := hP.out.heap.cell0; obtain ⟨⟨x0, x1, x2, x3⟩, hfz⟩ := hP.out.heap.elem 0 (by rw [HM.out]; omega) _ HX.out; obtain ⟨⟨z0, z1, z2, z3⟩, -⟩ := hP.out.heap.elem m (by rw [HM.out]; omega) _ HZ.out; simp only [Nat.zero_mul, Nat.zero_add] at x0 x1 x2 x3; have hgm : (m : Int) < (m : Int) + 1 := by omega
  go_upto_region 3 with fail
  go_cut [] (fun wx => Aside0 (Popping base b T w.heap.size (w.heap.size + 1) (.slice (some ⟨g1, 0, none⟩) (m + 1) c1) (.slice (some ⟨g1, 0, none⟩) (m + 1) c1) cs (L.set 0 (za, zb, zc, zd)) (xa, xb, xc, xd) w wx))
  case first =>
   go_still_tail 12, (by kernel_rfl)
   change wpList _ _ _ _ _ wc.drew; go_wp2_with fail; go_meet
   have hown : ∀ q, (Value.slice (some ⟨g1, 0, none⟩) (m + 1) c1).ownBlock = some q → q < w.heap.size := fun q hq => own_q hq hgw
   obtain ⟨q1, q2⟩ := HeapAt.drewT (hP.out.heap.putE HM.out.symm 0 (by rw [HM.out]; omega) (za, zb, zc, zd)); exact ⟨hP.out.step q1 q2 HH.out.lt hown⟩
  case rest =>
   have hown : ∀ q, (Value.slice (some ⟨g1, 0, none⟩) (m + 1) c1).ownBlock = some q → q < w.heap.size := fun q hq => own_q hq hgw
   have HO := Lib.hid hown; have hP2 := hcut; clear hc0 x0 x1 x2 x3 z0 z1 z2 z3 hfz hP hown hcut; have hc0 := cellA hP2.out.heap.cell0; obtain ⟨M, hM⟩ : ∃ M, g (L.set 0 (za, zb, zc, zd)) m = M := ⟨_, rfl⟩; obtain ⟨⟨z0, z1, z2, z3⟩, hfz⟩ := hP2.out.heap.elem m (by rw [List.length_set, HM.out]; omega) M hM; obtain ⟨ma, mb, mc, md⟩ := M; have z0 := cellA z0; have z1 := cellA z1; have z2 := cellA z2; have z3 := cellA z3; have hglt := own_lt hP2.out.heap.row g1 rfl; have f0 := frozenA hglt (hfz (m * 4)); have f1 := frozenA hglt (hfz (m * 4 + 1)); have f2 := frozenA hglt (hfz (m * 4 + 2)); have f3 := frozenA hglt (hfz (m * 4 + 3)); have HMM := Lib.hid hM; clear hM hfz; obtain ⟨W2, hW2⟩ : ∃ W2, W2 = wc.alloc (.cells #[.int .i64 0, .int .u64 0, .string ⟨#[]⟩, .int .i64 0] 101) := ⟨_, rfl⟩; have hn : W2.heap[wc.heap.size]? = some (.cells #[.int .i64 0, .int .u64 0, .string ⟨#[]⟩, .int .i64 0] 101 (0, 0)) := by rw [hW2]; exact blk_new _ _
   have n0 : W2.cell? ⟨wc.heap.size, 0, none⟩ = some (.int .i64 0) := (blk_cell hn 0).trans rfl; have n1 : W2.cell? ⟨wc.heap.size, 1, none⟩ = some (.int .u64 0) := (blk_cell hn 1).trans rfl; have n2 : W2.cell? ⟨wc.heap.size, 2, none⟩ = some (.string ⟨#[]⟩) := (blk_cell hn 2).trans rfl; have n3 : W2.cell? ⟨wc.heap.size, 3, none⟩ = some (.int .i64 0) := (blk_cell hn 3).trans rfl; have hP3 := hP2.out.below (wy := W2) (by rw [hW2]; exact below_alloc (Below.refl _ _) _); have hc0 := hP3.heap.cell0; have z0 : W2.cell? ⟨g1, m * 4, none⟩ = some (.int .i64 ma) := by rw [hW2]; exact z0 _
   have z1 : W2.cell? ⟨g1, m * 4 + 1, none⟩ = some (.int .u64 mb) := by rw [hW2]; exact z1 _
   have z2 : W2.cell? ⟨g1, m * 4 + 2, none⟩ = some (.string mc) := by rw [hW2]; exact z2 _
   have z3 : W2.cell? ⟨g1, m * 4 + 3, none⟩ = some (.int .i64 md) := by rw [hW2]; exact z3 _
   have f0 : W2.frozen? ⟨g1, m * 4, none⟩ = false := by rw [hW2]; exact f0 _
   have f1 : W2.frozen? ⟨g1, m * 4 + 1, none⟩ = false := by rw [hW2]; exact f1 _
   have f2 : W2.frozen? ⟨g1, m * 4 + 2, none⟩ = false := by rw [hW2]; exact f2 _
   have f3 : W2.frozen? ⟨g1, m * 4 + 3, none⟩ = false := by rw [hW2]; exact f3 _
   have HP3 := Lib.hid hP3; have HW2 := Lib.hid hW2; clear hP3 hW2 hn; go_upto_region 5 with fail
   rw [← HW2.out]; go_cut [] (fun wx => Aside0 (Popping base b T w.heap.size (w.heap.size + 1) (.slice (some ⟨g1, 0, none⟩) (m + 1) c1) (.slice (some ⟨g1, 0, none⟩) (m + 1) c1) cs ((L.set 0 (za, zb, zc, zd)).set m zeroE) (xa, xb, xc, xd) w wx))
   case first =>
    go_still_tail 7, (by kernel_rfl)
    change wpList _ _ _ _ _ W2.drew; go_wp2_with fail; go_meet
    obtain ⟨q1, q2⟩ := HeapAt.drewT (HP3.out.heap.putE (by rw [List.length_set, HM.out]) m (by rw [List.length_set, HM.out]; omega) zeroE); exact ⟨HP3.out.step q1 q2 HH.out.lt HO.out⟩
   case rest =>
    have hP4 := hcut; clear hc0 z0 z1 z2 z3 n0 n1 n2 n3 f0 f1 f2 f3 hcut; have hc0 := hP4.out.heap.cell0; have hf0 := hP4.out.heap.frozen 0; have hcap := hP4.out.heap.cap (by rw [List.length_set, List.length_set, HM.out]); have hcp : (m : Int) ≤ (c1 : Int) := by omega
    have hcq : m ≤ c1 := by omega
    go_upto_region 8 with fail
    obtain ⟨V2, hV2⟩ : ∃ V2, V2 = (Value.slice (some ⟨g1, 0, none⟩) m c1) := ⟨_, rfl⟩; obtain ⟨cs2, hcs2⟩ : ∃ c, c = cs.setIfInBounds 0 V2 := ⟨_, rfl⟩; obtain ⟨L0, hL0⟩ : ∃ L0, L0 = ((L.set 0 (za, zb, zc, zd)).set m zeroE).take m := ⟨_, rfl⟩; obtain ⟨q1, q2⟩ := hP4.out.heap.cutE (by rw [List.length_set, List.length_set, HM.out]); rw [← hV2, ← hcs2, ← hL0] at q1; rw [← hV2] at q2; have hP5 := Lib.hid (hP4.out.step q1 q2 HH.out.lt HO.out); have hL0l : L0.length = m := by rw [hL0, List.length_take, List.length_set, List.length_set, HM.out]; omega
    have hpop : siftDown lt L0 m 0 = pop lt L := by
     unfold pop; rw [HM.out, show m + 1 - 1 = m by omega, HZ.out, hL0]; congr 1
     apply List.ext_getElem?; intro k; by_cases hk : k < m
     · rw [List.getElem?_take_of_lt hk, List.getElem?_take_of_lt hk, List.getElem?_set_ne (by omega)]
     rw [List.getElem?_eq_none (by simp; omega), List.getElem?_eq_none (by simp; omega)]
    have hsm : SmL L0 := by
     intro e he; rw [hL0] at he; have h1 := List.mem_of_mem_take he; rcases List.mem_or_eq_of_mem_set h1 with h2 | h2
     ·
      rcases List.mem_or_eq_of_mem_set h2 with h3 | h3
      · exact HS.out e h3
      rw [h3, ← HZ.out]; exact HS.out _ (g_mem L m (by rw [HM.out]; omega))
     rw [h2]; show (0 : Nat) ≤ _; omega
    have HSm := Lib.hid hsm; have HL0 := Lib.hid hL0l; have HPop := Lib.hid hpop; have HV2 := Lib.hid hV2; have HC2 := Lib.hid hcs2; have HO2 : Hid (∀ q, V2.ownBlock = some q → q < w.heap.size) := Lib.hid (by rw [hV2]; exact fun q hq => own_q hq hgw); clear hL0l hpop hL0 hV2 hcs2 hsm hP4 q1 q2 hc0 hf0 hcap hcp hcq; go_loopg [6, 7] m (fun d s6 s7 wx => ∃ (i : Nat) (L1 : List Ent), s6 = .int .i64 (i : Int) ∧ Aside0 (Popping base b T w.heap.size (w.heap.size + 1) (.slice (some ⟨g1, 0, none⟩) (m + 1) c1) V2 cs2 L1 (xa, xb, xc, xd) w wx) ∧ Aside0 (siftDown lt L1 m i = pop lt L) ∧ Aside0 (L1.length = m) ∧ Aside0 (d = m - i) ∧ Aside0 (SmL L1) ∧ i ≤ m)
    case atStart => exact ⟨0, L0, rfl, ⟨by rw [← HV2.out]; exact hP5.out⟩, ⟨HPop.out⟩, ⟨HL0.out⟩, ⟨rfl⟩, ⟨HSm.out⟩, Nat.zero_le _⟩
    case round =>
     clear hP5 HPop HL0; obtain ⟨i, L1, rfl, R1, R2, R3, R4, R5, hi⟩ := hrel; have hi2 : (i : Int) ≤ 4398046511104 := by omega
     by_cases hc : m ≤ 2 * i + 1
     · have hcd : decide ((2 * (i : Int) + 1) < (m : Int)) = false := decide_eq_false (by omega); have hce : decide ((m : Int) ≤ 2 * (i : Int) + 1) = true := decide_eq_true (by omega); have e0 := (blk_cell R1.out.first 0); have e1 := (blk_cell R1.out.first 1); have e2 := (blk_cell R1.out.first 2); have e3 := (blk_cell R1.out.first 3); have r0 := (blk_cell R1.out.res 0); have r1 := (blk_cell R1.out.res 1); have r2 := (blk_cell R1.out.res 2); have r3 := (blk_cell R1.out.res 3); have rf := blk_frozen R1.out.res; simp only [encE, zeroE, List.getElem?_toArray, List.getElem?_cons_zero, List.getElem?_cons_succ] at e0 e1 e2 e3 r0 r1 r2 r3; go_wp2_with fail; obtain ⟨d1, d2, d3⟩ := R1.out.done HH.out.lt HO2.out; refine bodyPost_ret (results_cell_row rfl _ _ w.heap.size 101 #[.int .i64 xa, .int .u64 xb, .string xc, .int .i64 xd] (0, 0) _ rfl d3 Tryz.underlying101 rfl (by kernel_rfl)) rfl ?_; refine ⟨by rw [HX.out], V2, ?_, d2⟩; have e := R2.out; unfold siftDown at e; rw [dif_pos hc] at e; rw [← e, ← HC2.out]; exact d1
     have hcn : 2 * i + 1 < m := by omega
     have hcd : decide ((m : Int) ≤ 2 * (i : Int) + 1) = false := decide_eq_false (by omega); obtain ⟨B, hB⟩ : ∃ B, decide (2 * i + 2 < m ∧ lt (g L1 (2 * i + 2)) (g L1 (2 * i + 1)) = true) = B := ⟨_, rfl⟩; have HB := Lib.hid hB; clear hB; have hi1 : (0 : Int) ≤ (i : Int) := by omega
     have hi3 : (i : Int) ≤ 2199023255552 := by omega
     go_upto_region 11 with fail
     go_cut [80] (fun s80 wx => s80 = .bool B ∧ Aside0 (Popping base b T w.heap.size (w.heap.size + 1) (.slice (some ⟨g1, 0, none⟩) (m + 1) c1) V2 cs2 L1 (xa, xb, xc, xd) w wx))
     case first =>
      by_cases h2 : 2 * i + 2 < m
      ·
       have h2d : decide ((2 * (i : Int) + 1) + 1 < (m : Int)) = true := decide_eq_true (by omega); have h2e : decide (2 * (i : Int) + 2 < (m : Int)) = true := decide_eq_true (by omega); have hc0 := R1.out.heap.cell0; have hc1 := R1.out.heap.cell1; have hR := R1.out.heap; rw [HV2.out] at hc0 hR; obtain ⟨X1, hX1⟩ : ∃ X1, g L1 (2 * i + 2) = X1 := ⟨_, rfl⟩; obtain ⟨Y1, hY1⟩ : ∃ Y1, g L1 (2 * i + 1) = Y1 := ⟨_, rfl⟩; obtain ⟨⟨x0, x1, x2, x3⟩, -⟩ := hR.elem (2 * i + 1 + 1) (by rw [R3.out]; omega) X1 hX1; obtain ⟨⟨y0, y1, y2, y3⟩, -⟩ := hR.elem (2 * i + 1) (by rw [R3.out]; omega) Y1 hY1; have hSX := Lib.hid (R5.out.at_ (by rw [R3.out]; omega) hX1); have hSY := Lib.hid (R5.out.at_ (by rw [R3.out]; omega) hY1); obtain ⟨p1, q1, s1, t1⟩ := X1; obtain ⟨p2, q2, s2, t2⟩ := Y1; have HX1 := Lib.hid hX1; have HY1 := Lib.hid hY1; have hG := Lib.hid (HG.high (B := base) (by omega) (by omega) R1.out.turned.below); have hl1 : 2 * (i : Int) + 1 + 1 < (m : Int) := by omega
       have hl2 : 2 * (i : Int) + 1 < (m : Int) := by omega
       have hl3 : (0 : Int) ≤ 2 * (i : Int) + 1 + 1 := by omega
       have hl4 : (0 : Int) ≤ 2 * (i : Int) + 1 := by omega
       have ht1 : (2 * (i : Int) + 1 + 1).toNat = 2 * i + 1 + 1 := by omega
       have ht2 : (2 * (i : Int) + 1).toNat = 2 * i + 1 := by omega
       clear hX1 hY1 hR; have hw1 : IntKind.i64.wrap (2 * (i : Int) + 1 + 1) = 2 * (i : Int) + 1 + 1 := IntWalk.i64_in _ (by omega); go_still_tail 24, (by kernel_rfl)
       change wpList _ _ _ _ _ wr.drew; have HC := Lib.hid (HL (p1, q1, s1, t1) (p2, q2, s2, t2) wr.drew hSX.out hSY.out (hG.out.drew)); go_wp2_with fail; refine HC.out.mono ?_; rintro e w2 ⟨rfl, hb2⟩; have hb := Lib.hid ((below_drew (Below.refl _ _)).trans hb2 : Below wr.heap.size wr w2); clear hb2; go_wp2_with fail; go_meet
       refine ⟨?_, ⟨R1.out.below hb.out⟩⟩; have e := HB.out; rw [HX1.out, HY1.out] at e; rw [← e]; simp [h2]
      have h2d : decide ((2 * (i : Int) + 1) + 1 < (m : Int)) = false := decide_eq_false (by omega); have h2e : decide (2 * (i : Int) + 2 < (m : Int)) = false := decide_eq_false (by omega); have hc0 := R1.out.heap.cell0; go_quiet (fail)
      go_wp2_with fail; go_meet
      refine ⟨?_, ⟨R1.out.below (pw_below_drewN (Below.refl _ _) _)⟩⟩; have e := HB.out; rw [← e]; simp [h2]
     case rest =>
      obtain ⟨rfl, hQ⟩ := hcut; clear R1; obtain ⟨C, hC⟩ : ∃ C, child lt L1 m i = C := ⟨_, rfl⟩; obtain ⟨hc1, hc2, hc3⟩ := child_of lt L1 m i hcn; rw [hC] at hc1 hc2 hc3; have HCc := Lib.hid hC; clear hC hc2; go_upto_if 80 with fail
      go_cut [7] (fun s7 wx => s7 = .int .i64 (C : Int) ∧ Aside0 (Popping base b T w.heap.size (w.heap.size + 1) (.slice (some ⟨g1, 0, none⟩) (m + 1) c1) V2 cs2 L1 (xa, xb, xc, xd) w wx))
      case first =>
       cases hBB : B with
       | true =>
        subst hBB; have hCv : C = 2 * i + 1 + 1 := by
         have e := HCc.out; unfold child at e; rw [if_pos (of_decide_eq_true HB.out)] at e; omega
        have HCv := Lib.hid hCv; clear hCv; go_wp2_with fail; go_meet
        exact ⟨by rw [HCv.out]; first | rfl | simp, hQ⟩
       | false =>
        subst hBB; have hCv : C = 2 * i + 1 := by
         have e := HCc.out; unfold child at e; rw [if_neg (of_decide_eq_false HB.out)] at e; omega
        have HCv := Lib.hid hCv; clear hCv; go_wp2_with fail; go_meet
        exact ⟨by rw [HCv.out]; first | rfl | simp, hQ⟩
      case rest =>
       obtain ⟨rfl, hS⟩ := hcut; clear hQ; have hc0 := hS.out.heap.cell0; have hc1' := hS.out.heap.cell1; have hR := hS.out.heap; rw [HV2.out] at hc0 hR; obtain ⟨X1, hX1⟩ : ∃ X1, g L1 C = X1 := ⟨_, rfl⟩; obtain ⟨Y1, hY1⟩ : ∃ Y1, g L1 i = Y1 := ⟨_, rfl⟩; obtain ⟨⟨x0, x1, x2, x3⟩, -⟩ := hR.elem C (by rw [R3.out]; omega) X1 hX1; obtain ⟨⟨y0, y1, y2, y3⟩, -⟩ := hR.elem i (by rw [R3.out]; omega) Y1 hY1; have hSX := Lib.hid (R5.out.at_ (by rw [R3.out]; omega) hX1); have hSY := Lib.hid (R5.out.at_ (by rw [R3.out]; omega) hY1); obtain ⟨p1, q1, s1, t1⟩ := X1; obtain ⟨p2, q2, s2, t2⟩ := Y1; have HX1 := Lib.hid hX1; have HY1 := Lib.hid hY1; have hG := Lib.hid (HG.high (B := base) (by omega) (by omega) hS.out.turned.below); have hl1 : (C : Int) < (m : Int) := by omega
       have hl2 : (i : Int) < (m : Int) := by omega
       have hl5 : i < C := hc3; have hl6 : C < m := hc1; have hl7 : ¬ m ≤ 2 * i + 1 := hc; have Hlc := Lib.hid hl7; clear hX1 hY1 hR hl7 hc hcd hcn hc1 hc3; go_upto_region 13 with fail
       go_still_tail 18, (by kernel_rfl)
       change wpList _ _ _ _ _ wc.drew; cases hL : lt (p1, q1, s1, t1) (p2, q2, s2, t2) with
       | false =>
        have HLt := Lib.hid hL; clear hL; have HC := Lib.hid (HL (p1, q1, s1, t1) (p2, q2, s2, t2) wc.drew hSX.out hSY.out (hG.out.drew)); rw [HLt.out] at HC; go_wp2_with fail; refine HC.out.mono ?_; rintro e w2 ⟨rfl, hb2⟩; have hb := Lib.hid ((below_drew (Below.refl _ _)).trans hb2 : Below wc.heap.size wc w2); clear hb2; have hS2 := Lib.hid (hS.out.below hb.out); have e0 := (blk_cell hS2.out.first 0); have e1 := (blk_cell hS2.out.first 1); have e2 := (blk_cell hS2.out.first 2); have e3 := (blk_cell hS2.out.first 3); have r0 := (blk_cell hS2.out.res 0); have r1 := (blk_cell hS2.out.res 1); have r2 := (blk_cell hS2.out.res 2); have r3 := (blk_cell hS2.out.res 3); have rf := blk_frozen hS2.out.res; simp only [encE, zeroE, List.getElem?_toArray, List.getElem?_cons_zero, List.getElem?_cons_succ] at e0 e1 e2 e3 r0 r1 r2 r3; clear x0 x1 x2 x3 y0 y1 y2 y3 hc0 hc1'; go_wp2_with fail; obtain ⟨d1, d2, d3⟩ := hS2.out.done HH.out.lt HO2.out; refine bodyPost_ret (results_cell_row rfl _ _ w.heap.size 101 #[.int .i64 xa, .int .u64 xb, .string xc, .int .i64 xd] (0, 0) _ rfl d3 Tryz.underlying101 rfl (by kernel_rfl)) rfl ?_; refine ⟨by rw [HX.out], V2, ?_, d2⟩; have e := R2.out; unfold siftDown at e; rw [dif_neg Hlc.out, HCc.out, HX1.out, HY1.out, if_neg (by rw [HLt.out]; simp)] at e; rw [← e, ← HC2.out]; exact d1
       | true =>
        have HLt := Lib.hid hL; clear hL; have HC := Lib.hid (HL (p1, q1, s1, t1) (p2, q2, s2, t2) wc.drew hSX.out hSY.out (hG.out.drew)); rw [HLt.out] at HC; go_wp2_with fail; refine HC.out.mono ?_; rintro e w2 ⟨rfl, hb2⟩; have hS2 := Lib.hid (hS.out.below ((below_drew (Below.refl _ _)).trans hb2 : Below wc.heap.size wc w2)); clear hb2 hS x0 x1 x2 x3 y0 y1 y2 y3 hc0 hc1'; have hc0 := hS2.out.heap.cell0; have hR := hS2.out.heap; rw [HV2.out] at hc0 hR; obtain ⟨⟨x0, x1, x2, x3⟩, fz⟩ := hR.elem C (by rw [R3.out]; omega) _ HX1.out; obtain ⟨⟨y0, y1, y2, y3⟩, -⟩ := hR.elem i (by rw [R3.out]; omega) _ HY1.out; clear hR; go_upto_region 15 with fail
        go_region
        go_wp2_with fail; obtain ⟨hs1, hs2⟩ := HeapAt.swpE (by have := hS2.out.heap; rw [HV2.out] at this; exact this) R3.out.symm i C (by rw [R3.out]; omega) (by rw [R3.out]; omega) _ _ HY1.out HX1.out; have S1 := Lib.hid hs1; have S2 := Lib.hid hs2; clear hs1 hs2; go_roundg (m - C)
        case measure => rw [R4.out]; omega
        case rel =>
         refine ⟨C, swp L1 i C, rfl, ⟨hS2.out.step (by rw [HV2.out]; exact S1.out) (by rw [HV2.out]; exact S2.out) HH.out.lt HO2.out⟩, ⟨?_⟩, ⟨by rw [swp_length]; exact R3.out⟩, ⟨rfl⟩, ⟨R5.out.perm (swp_perm L1 i C (by rw [R3.out]; omega) (by rw [R3.out]; omega))⟩, by omega⟩; have e := R2.out; rw [← e]; conv => rhs; unfold siftDown
         rw [dif_neg Hlc.out, HCc.out, HX1.out, HY1.out, if_pos HLt.out, swp_comm L1 i C (by omega)]
end Go.Proofs.YtmbacdkpgfbclaaGreatDoor
namespace Go.Proofs.YtmbacdkpgfbclaaGreatDoor
open Go.RowKit Go.Proofs.YtmbacdkpgfbclaaGreatDoorW.PrintWords Heap
set_option linter.unusedVariables false
set_option linter.unusedSimpArgs false

abbrev Val := Int × Int × ByteArray
/-- The value with its number. -/
abbrev entOf (v : Val) (i : Nat) : Ent := (v.1, v.2.1, v.2.2, (i : Int))
/-- A row of values that is read. -/
def VR (w : World) (A : Option Addr) (vs : List Val) : Prop := ∀ i, i < vs.length → ∃ ad : Addr, A = some ad ∧ w.cell? (ad.add (i * 3)) = some (.int .i64 (g vs i).1) ∧ w.cell? ⟨(ad.add (i * 3)).block, (ad.add (i * 3)).off + 1, none⟩ = some (.int .u64 (g vs i).2.1) ∧ w.cell? ⟨(ad.add (i * 3)).block, (ad.add (i * 3)).off + 2, none⟩ = some (.string (g vs i).2.2)
theorem VR.below {w w' : World} {A : Option Addr} {vs : List Val} (h : VR w A vs) (hb : Below w.heap.size w w') : VR w' A vs := fun i hi => by
 obtain ⟨ad, h1, h2, h3, h4⟩ := h i hi
 exact ⟨ad, h1, pw_cell_below hb h2, pw_cell_below hb h3, pw_cell_below hb h4⟩
/-- The heap of the first m values. -/
def heapOf (lt : Ent → Ent → Bool) (vs : List Val) : Nat → List Ent
 | 0 => []
 | m + 1 => push lt (heapOf lt vs m) (entOf (g vs m) m)
theorem heapOf_length (lt : Ent → Ent → Bool) (vs : List Val) : ∀ m, (heapOf lt vs m).length = m
 | 0 => rfl
 | m + 1 => by rw [heapOf, push_length, heapOf_length lt vs m]
theorem heapOf_small (lt : Ent → Ent → Bool) (vs : List Val) (hs : ∀ i, i < vs.length → (g vs i).2.2.size ≤ 4611686018427387904) : ∀ m, m ≤ vs.length → SmL (heapOf lt vs m)
 | 0, _ => fun e he => by cases he
 | m + 1, hm => (heapOf_small lt vs hs m (by omega)).push lt (hs m (by omega))
/-- The numbers of the first j that come out. -/
def popIds (lt : Ent → Ent → Bool) : Nat → List Ent → List Int
 | 0, _ => []
 | j + 1, L => (g L 0).2.2.2 :: popIds lt j (pop lt L)
def popN (lt : Ent → Ent → Bool) : Nat → List Ent → List Ent
 | 0, L => L
 | j + 1, L => popN lt j (pop lt L)
theorem popN_succ (lt : Ent → Ent → Bool) : ∀ (j : Nat) (L : List Ent), popN lt (j + 1) L = pop lt (popN lt j L)
 | 0, L => rfl
 | j + 1, L => by
  show popN lt (j + 1) (pop lt L) = _
  rw [popN_succ lt j (pop lt L)]
  rfl
theorem popIds_succ (lt : Ent → Ent → Bool) : ∀ (j : Nat) (L : List Ent), popIds lt (j + 1) L = popIds lt j L ++ [(g (popN lt j L) 0).2.2.2]
 | 0, L => rfl
 | j + 1, L => by
  show (g L 0).2.2.2 :: popIds lt (j + 1) (pop lt L) = _
  rw [popIds_succ lt j (pop lt L)]
  rfl
theorem popN_length (lt : Ent → Ent → Bool) : ∀ (j : Nat) (L : List Ent), (popN lt j L).length = L.length - j
 | 0, L => rfl
 | j + 1, L => by rw [popN_succ, pop_length, popN_length lt j L]; omega
theorem popN_small (lt : Ent → Ent → Bool) : ∀ (j : Nat) (L : List Ent), SmL L → SmL (popN lt j L)
 | 0, L, h => h
 | j + 1, L, h => popN_small lt j _ (h.pop lt)
theorem popIds_length (lt : Ent → Ent → Bool) : ∀ (j : Nat) (L : List Ent), (popIds lt j L).length = j
 | 0, L => rfl
 | j + 1, L => by simp [popIds, popIds_length lt j]
def topIds (lt : Ent → Ent → Bool) (vs : List Val) (k : Int) : List Int := popIds lt (min k.toNat vs.length) (heapOf lt vs vs.length)
theorem heapAt_new {base b : Nat} {w : World} (hblk : w.heap[b]? = some (.cells #[.slice none 0 0, lessV] 98 (0, 0))) (hb : base ≤ b) : HeapAt base b 98 #[.slice none 0 0, lessV] (.slice none 0 0) [] w :=
 ⟨hblk, rfl, rfl, own_nil _ _ _ _, by decide, hb⟩
/-- A row of another type stays as it was. -/
theorem own_turned {base b T e size n : Nat} {cs : Array Value} {v v' u : Value} {L : List Ent} {w w' : World} {xs : List Value} {B : Nat} (hH : HeapAt base b T cs v L w) (hT : Turned base b v v' w w') (h : w.ownsRow B e size u n xs) (h1 : e ≠ 101) (h2 : e ≠ T) : w'.ownsRow B e size u n xs := by
 refine own_move h fun k hk => hT.keep k (own_lt h k hk) ?_ ?_
 · have := own_ne h hH.blk h2; rw [hk] at this; exact fun e => this (by rw [e])
 rcases own_type_ne hH.row h (Ne.symm h1) with h0 | h0
 · rw [h0]; simp
 rw [hk] at h0; exact Ne.symm h0
theorem HeapAt.grown {base b T : Nat} {cs : Array Value} {v : Value} {L : List Ent} {w w' : World} {row : Option Nat} (h : HeapAt base b T cs v L w) (hg : w.grownBy w' row) (hb : some b ≠ row) (hr : v.ownBlock = none ∨ v.ownBlock ≠ row) : HeapAt base b T cs v L w' :=
 ⟨blk_grown h.blk hg hb, h.c0, h.c1, own_other h.row hg hr, h.ne, h.hb⟩
theorem infoI : (Tryz.prog.info? 3).map (fun i => (i.zero, i.size, i.bytes)) = some (some (.int .i64 0), 1, 8) := by kernel_rfl
set_option maxRecDepth 100000 in
set_option maxHeartbeats 4000000 in
theorem Top_walk (lt : Ent → Ent → Bool) (HL : Less lt) (A : Option Addr) (c : Nat) (vs : List Val) (k : Int) (w : World) (hv : VR w A vs) (hs : ∀ i, i < vs.length → (g vs i).2.2.size ≤ 4611686018427387904) (hl : vs.length < 4398046511104) (h5 : 5 ≤ w.heap.size) (HG : GW w) :
  Calls Tryz.prog 19 #[.slice A vs.length c, .int .i64 k] w fun e w' => ∃ v, e = .returned v ∧ w'.ownsRow w.heap.size 3 1 v (topIds lt vs k).length (nums .i64 (topIds lt vs k)) ∧ Below w.heap.size w w' := by
 have HV := Lib.hid hv; have HS := Lib.hid hs; have hlb : (vs.length : Int) < 4398046511104 := by omega
 clear hv hs; go_enter Tryz.func19, Tryz.ntmps19; go_wp2_with fail; obtain ⟨B, hB⟩ : ∃ B, B = w.heap.size := ⟨_, rfl⟩; have HB := Lib.hid hB; obtain ⟨W0, hW0⟩ : ∃ W0, W0 = w.alloc (.cells #[.slice none 0 0, lessV] 98) := ⟨_, rfl⟩; have hH0 : HeapAt w.heap.size w.heap.size 98 #[.slice none 0 0, lessV] (.slice none 0 0) [] W0 := by rw [hW0]; exact heapAt_new (blk_new _ _) (Nat.le_refl _)
 have hB0 : Below w.heap.size w W0 := by rw [hW0]; exact below_alloc (Below.refl _ _) _
 have H0 := Lib.hid hH0; have B0 := Lib.hid hB0; have HW0 := Lib.hid hW0; clear hH0 hB0 hB hW0; go_loopg [6, 7, 13] vs.length (fun d s6 s7 s13 wx => ∃ (i : Nat) (cs : Array Value) (v : Value), s13 = .int .i64 (i : Int) ∧ Aside0 (HeapAt w.heap.size w.heap.size 98 cs v (heapOf lt vs i) wx) ∧ Aside0 (Below w.heap.size w wx) ∧ Aside0 (d = vs.length - i) ∧ i ≤ vs.length)
 case atStart => exact ⟨0, #[.slice none 0 0, lessV], .slice none 0 0, rfl, ⟨by have h := H0.out; rw [HW0.out] at h; exact h⟩, ⟨by have h := B0.out; rw [HW0.out] at h; exact h⟩, ⟨rfl⟩, Nat.zero_le _⟩
 case round =>
  obtain ⟨i, cs, v, rfl, R1, R2, R3, hi⟩ := hrel; by_cases hlt : i < vs.length
  ·
   have hd : decide ((i : Int) < (vs.length : Int)) = true := decide_eq_true (by omega); obtain ⟨ad, hA, x0, x1, x2⟩ := (HV.out.below R2.out) i hlt; subst hA; obtain ⟨X, hX⟩ : ∃ X, g vs i = X := ⟨_, rfl⟩; rw [hX] at x0 x1 x2; obtain ⟨xa, xb, xc⟩ := X; have HX := Lib.hid hX; clear hX; have hbw := Nat.le_trans R1.out.hb (Nat.le_of_lt R1.out.lt); have HC := Lib.hid (push_any lt HL w.heap.size w.heap.size 98 cs v (heapOf lt vs i) (xa, xb, xc, (i : Int)) (wr.alloc (.cells #[.int .i64 xa, .int .u64 xb, .string xc] 26)) (R1.out.below (below_alloc (Below.refl _ _) _)) (heapOf_small lt vs HS.out i (by omega)) (by have h := HS.out i hlt; rw [HX.out] at h; exact h) (by rw [heapOf_length]; omega) h5
    (HG.below (R2.out.trans ((below_alloc (Below.refl _ _) _).mono (by have := R2.out.size; exact this)))))
   go_wp2_with fail; refine HC.out.mono ?_; rintro e w2 ⟨rfl, v', hH2, hT2⟩; have HH2 := Lib.hid hH2; have HT2 := Lib.hid hT2; clear hH2 hT2; go_wp2_with fail; go_roundg (vs.length - (i + 1))
   case measure => rw [R3.out]; omega
   case rel =>
    refine ⟨i + 1, cs.setIfInBounds 0 v', v', (by go_num), ⟨?_⟩, ⟨?_⟩, ⟨rfl⟩, by omega⟩
    · have h := HH2.out; show HeapAt _ _ _ _ _ (push lt (heapOf lt vs i) (entOf (g vs i) i)) _; rw [HX.out]; exact h
    exact (below_alloc R2.out _).trans HT2.out.below
  obtain rfl : i = vs.length := by omega
  have hd : decide ((vs.length : Int) < (vs.length : Int)) = false := decide_eq_false (by omega); obtain ⟨N, hN⟩ : ∃ N, N = min k.toNat vs.length := ⟨_, rfl⟩; have HN := Lib.hid hN; clear hN; go_wp2_with fail; go_loopg [8, 9] vs.length (fun d s8 s9 wx => ∃ (j : Nat) (cs : Array Value) (v : Value), s9 = .int .i64 (j : Int) ∧ Aside0 (HeapAt w.heap.size w.heap.size 98 cs v (popN lt j (heapOf lt vs vs.length)) wx) ∧ Aside0 (wx.ownsRow w.heap.size 3 1 s8 j (nums .i64 (popIds lt j (heapOf lt vs vs.length)))) ∧ Aside0 (Below w.heap.size w wx) ∧ Aside0 (d = vs.length - j) ∧ Aside0 (j ≤ N) ∧ j ≤ vs.length)
  case atStart => exact ⟨0, cs, v, rfl, ⟨R1.out⟩, ⟨own_nil _ _ _ _⟩, ⟨R2.out⟩, ⟨rfl⟩, ⟨Nat.zero_le _⟩, Nat.zero_le _⟩
  case round =>
   clear R1 R2 R3; obtain ⟨j, cs, v, rfl, R1, R2, R3, R4, R5, hj⟩ := hrel; by_cases h1 : (j : Int) < k
   ·
    have h1d : decide ((j : Int) < k) = true := decide_eq_true h1; by_cases h2 : j < vs.length
    ·
     have h2d : decide ((j : Int) < (vs.length : Int)) = true := decide_eq_true (by omega); obtain ⟨m, hm⟩ : ∃ m, vs.length - j = m + 1 := ⟨vs.length - j - 1, by omega⟩; have hLl : (popN lt j (heapOf lt vs vs.length)).length = m + 1 := by rw [popN_length, heapOf_length]; exact hm
     obtain ⟨L1, hL1⟩ : ∃ L1, popN lt j (heapOf lt vs vs.length) = L1 := ⟨_, rfl⟩; rw [hL1] at R1 hLl; have hrow := R1.out.row; rw [hLl] at hrow; obtain ⟨g1, c1, hv1⟩ := own_form hrow (by omega); have R1' := R1.out; rw [hv1] at R1'; have HC := Lib.hid (pop_any lt HL w.heap.size w.heap.size 98 cs g1 m c1 L1 wr R1' hLl (by rw [← hL1]; exact popN_small lt j _ (heapOf_small lt vs HS.out _ (Nat.le_refl _))) (by rw [hLl]; omega) h5 (HG.below R3.out)); have HL1 := Lib.hid hL1; have HV1 := Lib.hid hv1; have HM := Lib.hid hm; have HLl := Lib.hid hLl; clear hL1 hv1 hrow R1' hm hLl; obtain ⟨X, hX⟩ : ∃ X, g L1 0 = X := ⟨_, rfl⟩; rw [hX] at HC; obtain ⟨xa, xb, xc, xd⟩ := X; have HX := Lib.hid hX; clear hX; have hfl : ∀ u : World, (Instr.field 101 (entV (xa, xb, xc, xd)) 1).run Tryz.prog u = .ok (.int .i64 xd) u := fun _ => by kernel_rfl
     go_wp2_with fail; refine HC.out.mono ?_; rintro e w2 ⟨rfl, v', hH2, hT2⟩; have HH2 := Lib.hid hH2; have HT2 := Lib.hid hT2; clear hH2 hT2; have hO : w2.ownsRow w.heap.size 3 1 u8 (popIds lt j (heapOf lt vs vs.length)).length (nums .i64 (popIds lt j (heapOf lt vs vs.length))) := by
      rw [popIds_length]; have hT := HT2.out; rw [← HV1.out] at hT; exact own_turned R1.out hT R2.out (by decide) (by decide)
     have HO := Lib.hid hO; have HB2 := Lib.hid (R3.out.trans HT2.out.below); have hln : ((popIds lt j (heapOf lt vs vs.length)).length + 1) * 8 ≤ 140737488355328 := by rw [popIds_length]; omega
     have HLn := Lib.hid hln; clear hO hln; go_wp2_with (first | ((with_reducible refine print_append_num (w0 := w) (W := w2) w.heap.size rfl (.tmp 34) (.tmp 37) 29 3 .i64 8 rfl Tryz.underlying29 infoI (by omega) u8 (popIds lt j (heapOf lt vs vs.length)) xd rfl ?hx HO.out HB2.out ?hb HLn.out ?_); (case hx => rfl); (case hb => exact HB2.out.size); intro v1 w3 ho3 hb3 hg3 hat3; (have G1 := Lib.hid ho3); (have G2 := Lib.hid hb3); (have G3 := Lib.hid hg3); clear ho3 hb3 hg3 hat3)); go_roundg (vs.length - (j + 1))
     case measure => rw [R4.out]; omega
     case rel =>
      have hO := HO.out; refine ⟨j + 1, cs.setIfInBounds 0 v', v', (by go_num), ⟨?_⟩, ⟨?_⟩, ⟨G2.out⟩, ⟨rfl⟩, ⟨by have := HN.out; omega⟩, by omega⟩
      · rw [popN_succ, HL1.out]; exact HH2.out.grown G3.out (own_ne hO HH2.out.blk (by decide)) (own_type_ne HH2.out.row hO (by decide))
      have h := G1.out; rw [List.length_append, popIds_length] at h; rw [popIds_succ, HL1.out, HX.out]; exact h
    have h2d : decide ((j : Int) < (vs.length : Int)) = false := decide_eq_false (by omega); go_wp2_with fail; go_ret; have hjN : j = N := by have := R5.out; have := HN.out; omega
    refine ⟨_, rfl, ?_, R3.out⟩; unfold topIds; rw [← HN.out, ← hjN, popIds_length]; exact R2.out
   have h1d : decide ((j : Int) < k) = false := decide_eq_false h1; go_wp2_with fail; go_ret; have hjN : j = N := by have := R5.out; have := HN.out; omega
   refine ⟨_, rfl, ?_, R3.out⟩; unfold topIds; rw [← HN.out, ← hjN, popIds_length]; exact R2.out
end Go.Proofs.YtmbacdkpgfbclaaGreatDoor
