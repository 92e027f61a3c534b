/- CoreQueues, walked; conditions: its fixed answers are true; the list is of the reach's size. -/
import Derived.Test.YtmbacdkpgfbclaaGreatDoorCoreQ
import Derived.Deep.Upon
import Derived.Deep.RegionHeld3
namespace Go.Proofs.YtmbacdkpgfbclaaGreatDoor
open Go.RowKit Go.Proofs.YtmbacdkpgfbclaaGreatDoorW.PrintWords Go.Proofs.YtmbacdkpgfbclaaGreatDoorW.PrintLast Heap
set_option linter.unusedVariables false
set_option linter.unusedSimpArgs false
def OrderC : Prop := ∀ (a b : Val) (u : World), a.2.2.size ≤ 4611686018427387904 → GW u → Calls Tryz.prog 29 #[vAgg a.1 a.2.1 a.2.2, vAgg b.1 b.2.1 b.2.2] u fun e u' => e = .returned (.int .i64 (ordV a b)) ∧ Below u.heap.size u u'
theorem infoV : (Tryz.prog.info? 26).map (fun i => (i.zero, i.size, i.bytes)) = some (some (vAgg 0 0 ⟨#[]⟩), 3, 32) := by kernel_rfl
theorem infoB : (Tryz.prog.info? 4).map (fun i => (i.zero, i.size, i.bytes)) = some (some (.bool false), 1, 1) := by kernel_rfl
theorem lit_empty (w : World) (e size : Nat) {B : Nat} (hB : B ≤ w.heap.size) : (w.alloc (.cells #[] e)).ownsRow B e size (.slice (some ⟨w.heap.size, 0, none⟩) 0 0) 0 [] := by
 have h := World.ownsRow_lit (base := B) (e := e) (size := size) w #[] 0 hB (Nat.zero_le _) (by simp); simpa using h
theorem flatV_len : ∀ vs : List Val, (flatV vs).length = vs.length * 3
 | [] => rfl
 | v :: vs => by
  show (encV v ++ flatV vs).length = _
  have h2 : (encV v).length = 3 := rfl
  rw [List.length_append, flatV_len vs, h2, List.length_cons]
  omega
theorem vr_news {w : World} {ad : Addr} {vs : List Val} (h : VR w (some ad) vs) : ∀ j u, (flatV vs)[j]? = some u → w.cell? (ad.add j) = some u := by
 intro j u hj; have hlt : j < (flatV vs).length := (List.getElem?_eq_some_iff.1 hj).1; rw [flatV_len] at hlt; have hi : j / 3 < vs.length := by omega
 obtain ⟨ad', hA, c0, c1, c2⟩ := h (j / 3) hi; obtain rfl := Option.some.inj hA; have hg := flatV_get vs (j / 3) (j % 3) (g vs (j / 3)) (g_get' vs (j / 3) hi) (by omega); rw [show 3 * (j / 3) + j % 3 = j by omega, hj] at hg; have hr : j % 3 = 0 ∨ j % 3 = 1 ∨ j % 3 = 2 := by omega
 rcases hr with e | e | e
 · rw [e] at hg; obtain rfl : u = .int .i64 (g vs (j / 3)).1 := Option.some.inj hg; rw [show j = j / 3 * 3 by omega]; rw [show j / 3 * 3 / 3 = j / 3 by omega]; exact c0
 ·
  rw [e] at hg; obtain rfl : u = .int .u64 (g vs (j / 3)).2.1 := Option.some.inj hg; have hj2 : ad.add j = ⟨(ad.add (j / 3 * 3)).block, (ad.add (j / 3 * 3)).off + 1, none⟩ := by rw [← add_field _ _ 1 (by omega)]; congr 1; omega
  rw [hj2]; exact c1
 rw [e] at hg; obtain rfl : u = .string (g vs (j / 3)).2.2 := Option.some.inj hg; have hj2 : ad.add j = ⟨(ad.add (j / 3 * 3)).block, (ad.add (j / 3 * 3)).off + 2, none⟩ := by rw [← add_field _ _ 2 (by omega)]; congr 1; omega
 rw [hj2]; exact c2
theorem flatV_one (vs : List Val) : ∀ u ∈ flatV vs, u.oneCell' = true := by
 intro u hu; obtain ⟨v, _, hv⟩ := List.mem_flatMap.1 hu; have hv2 : u ∈ [Value.int .i64 v.1, .int .u64 v.2.1, .string v.2.2] := hv; simp only [List.mem_cons, List.not_mem_nil, or_false] at hv2; rcases hv2 with rfl | rfl | rfl <;> rfl
/-- A row of one's own is read. -/
theorem vr_own {w : World} {B g1 n c : Nat} {vs : List Val} (h : w.ownsRow B 26 3 (.slice (some ⟨g1, 0, none⟩) n c) n (flatV vs)) : VR w (some ⟨g1, 0, none⟩) vs := by
 intro i hi; obtain ⟨c0, c1, c2⟩ := valRow h i hi _ rfl; have e : (⟨g1, 0, none⟩ : Addr).add (i * 3) = ⟨g1, i * 3, none⟩ := by rw [add_plain]
 refine ⟨_, rfl, ?_, ?_, ?_⟩ <;> rw [e]
 · exact c0
 · exact c1
 exact c2
section
variable {P : Program} {ops : Array Oper} {rest : List Oper} {o : Oper} {a : Act} {Q : Exit → Act → World → Prop}
/-- A list that came in, put behind an empty one. -/
theorem append_vals {W : World} (base : Nat) (hgd : o.guard = none) (s x : Operand) (t e : TypeId) (z : Value) (size bytes : Nat)
  (ho : o.op = .call { callee := .builtin .append, args := #[s, x], argTypes := #[t, t] })
  (ht : P.underlying t = some (.slice e)) (hinfo : (P.info? e).map (fun i => (i.zero, i.size, i.bytes)) = some (some z, size, bytes)) (hz : z.cells.size = size) (hs3 : size = 3) (hb0 : bytes = 32)
  (A : Option Addr) (c : Nat) (vs : List Val) (hs : a.eval s = .slice (some ⟨W.heap.size, 0, none⟩) 0 0) (hx : a.eval x = .slice A vs.length c) (hv : VR W A vs) (hbase : base ≤ W.heap.size) (hl : vs.length < 4398046511104)
  (h : ∀ v1 w1, w1.ownsRow base e 3 v1 vs.length (flatV vs) → Below W.heap.size W w1 → wpList P ops Q rest (a.put o.dst v1) w1) :
  wpList P ops Q (o :: rest) a (W.alloc (.cells #[] e)) := by
 obtain ⟨i0, hi, hzz⟩ := Option.map_eq_some_iff.1 hinfo; simp only [Prod.mk.injEq] at hzz; obtain ⟨hz0, hz1, hz2⟩ := hzz; subst hs3 hb0; have hb : Below W.heap.size W (W.alloc (.cells #[] e)) := below_alloc (Below.refl _ _) _; have hown := lit_empty W e 3 (B := base) hbase; by_cases h0 : vs.length = 0
 ·
  obtain rfl : vs = [] := List.eq_nil_of_length_eq_zero h0; have hsrc : Src P i0.size t (.slice A 0 c) 0 [] (W.alloc (.cells #[] e)) := by
   cases A with
   | none => exact Src.ofNil _ ht c
   | some ad => exact Src.ofSlice _ ht ad 0 c [] (by simp) (fun j u hj => by simp at hj) (fun u hu => by cases hu)
  have hrun := run_append_nothing (P := P) (W.alloc (.cells #[] e)) t t o.type e i0 ht hi (some ⟨W.heap.size, 0, none⟩) 0 0 (Nat.le_refl _) _ hsrc; refine wpList_plain hgd fun K hK' => ?_
  unfold Oper.wp; have hx' : a.eval x = .slice A 0 c := hx; simp [execOp, ho, resolve, invoke, builtin, hs, hx', hrun, Result.andThen]; exact hK' _ _ (h _ _ hown hb)
 obtain ⟨ad, hA, -⟩ := hv 0 (by omega); subst hA; refine wpList_append_own_at (W.alloc (.cells #[] e)) hgd s x t ho base e i0 z 3 32 ht hi hz0 hz1 hz2 hz (by decide) _ 0 [] hs hown ad vs.length c (flatV vs) hx (flatV_len vs) (vr_news (hv.below hb)) (flatV_one vs) (by simp only [maxLen]; omega) (by omega) (by simp; omega) ?_; intro v1 w1 ho1 hg _ _; rw [Nat.zero_add, List.nil_append] at ho1; refine h v1 w1 ho1 ?_; exact hb.grown hg (by simp) (own_base (lit_empty W e 3 (Nat.le_refl _)))
theorem vr_own' {w : World} {B : Nat} {v : Value} {vs : List Val} (h : w.ownsRow B 26 3 v vs.length (flatV vs)) : ∃ A c, v = .slice A vs.length c ∧ VR w A vs := by
 by_cases h0 : vs.length = 0
 · obtain ⟨A, c, hv⟩ := own_slice h; exact ⟨A, c, hv, fun i hi => absurd hi (by omega)⟩
 obtain ⟨g1, c, rfl⟩ := own_form h (by omega); exact ⟨_, c, rfl, vr_own h⟩
/-- The places in the order in which they come out. -/
def idsN (vs : List Val) (n : Nat) : List Int := (List.range n).map fun i => ((outId vs i : Nat) : Int)
theorem idsN_len (vs : List Val) (n : Nat) : (idsN vs n).length = n := by unfold idsN; rw [List.length_map, List.length_range]
theorem topIds_ids (vs : List Val) (k : Int) : topIds ltE vs k = idsN vs (min k.toNat vs.length) := by
 rw [topIds_outE, out_ids]; unfold idsN; rw [← List.map_take, List.take_range, Nat.min_eq_left (Nat.min_le_right _ _)]
theorem idsRow {w : World} {B g1 n c : Nat} {vs : List Val} (h : w.ownsRow B 3 1 (.slice (some ⟨g1, 0, none⟩) n c) n (nums .i64 (idsN vs n))) (i : Nat) (hi : i < n) : w.cell? ⟨g1, i, none⟩ = some (.int .i64 (outId vs i : Nat)) := by
 have hc := h.cells (g := g1) rfl i (.int .i64 (outId vs i : Nat)) (by
  unfold nums idsN; rw [List.getElem?_map, List.getElem?_map, List.getElem?_range hi]; rfl)
 rw [add_plain] at hc; exact hc
theorem madeB (n : Nat) : (madeCells (Value.bool false).cells (n * 1)).toList = flatB (List.replicate n false) := by
 have hc : (Value.bool false).cells = #[.bool false] := rfl; unfold madeCells flatB; rw [hc, Nat.mul_one]; apply List.ext_getElem (by simp); intro i h1 h2; simp [Nat.mod_one]
theorem mk_set (bs : List Bool) (i j : Nat) (x : Bool) (h : i ≠ j) : mk (bs.set i x) j = mk bs j := by
 unfold mk; rw [List.getD_eq_getElem?_getD, List.getD_eq_getElem?_getD, List.getElem?_set_ne h]
theorem mk_rep (n i : Nat) : mk (List.replicate n false) i = false := by
 unfold mk; rw [List.getD_eq_getElem?_getD, List.getElem?_replicate]; split <;> rfl
def PlainC : Prop := ∀ (v : Val) (u : World), GW u → Calls Tryz.prog 28 #[vAgg v.1 v.2.1 v.2.2] u fun e u' => e = .returned (vAgg (plainV v).1 (plainV v).2.1 (plainV v).2.2) ∧ Below u.heap.size u u'
end
set_option maxRecDepth 100000 in
set_option maxHeartbeats 4000000 in
theorem Sort_walk (lt : Ent → Ent → Bool) (HL : Less lt) (A : Option Addr) (c : Nat) (vs : List Val) (w : World) (hv : VR w A vs) (hs : ∀ i, i < vs.length → (g vs i).2.2.size ≤ 4611686018427387904) (hl : vs.length < 4398046511104) (h5 : 5 ≤ w.heap.size) (HG : GW w) :
  Calls Tryz.prog 18 #[.slice A vs.length c] w fun e w' => ∃ v, e = .returned v ∧ w'.ownsRow w.heap.size 3 1 v (topIds lt vs (vs.length : Int)).length (nums .i64 (topIds lt vs (vs.length : Int))) ∧ Below w.heap.size w w' := by
 have HT := Lib.hid (Top_walk lt HL A c vs (vs.length : Int) w hv hs hl h5 HG); clear hv hs; go_enter Tryz.func18, Tryz.ntmps18; go_wp2_with fail; refine HT.out.mono ?_; rintro e w1 ⟨v, rfl, ho, hb⟩; have HO := Lib.hid ho; have HB := Lib.hid hb; clear ho hb HT; go_wp2_with fail; go_ret; exact ⟨_, rfl, HO.out, HB.out⟩
theorem plain_size (k x : Int) (s : ByteArray) : (plainOf k x s).2.2.size ≤ s.size := by
 unfold plainOf; split
 · exact Nat.zero_le _
 split
 · exact Nat.le_refl _
 split
 · exact Nat.le_refl _
 exact Nat.zero_le _
theorem g_plain (vs : List Val) (i : Nat) : g (vs.map plainV) i = plainV (g vs i) := g_map plainV plainV_default vs i
/-- k of the 46 operations are still open. -/
def tr (k : Nat) : Array Bool := (List.replicate (46 - k) true ++ List.replicate k false).toArray
theorem t19 {P : Program} {md : Region.Mode} {ops : Array Oper} {Q : Exit → Act → World → Prop} {S : World → Prop} {ds : List Nat} {fuel : Nat} {oi : Oper} {v : Value} {a : Act} {w : World} (hi : ops[45 - fuel]? = some oi) (hN : oi.dst = some (128 - fuel)) (hc : takeB md ops ds (tr (fuel + 1)) (tr fuel) (45 - fuel) = true)
  (hQ : ∀ c a w, Q (.panic c) (a.put oi.dst v) w → Q (.panic c) a w) (hy : YieldsIf P ops S oi v a) (hS : S w) {a' : Act} (ha : a.put (some (128 - fuel)) v = a') (h : wpAnyLast P md ops Q S ds fuel (tr fuel) a' w) : wpAnyLast P md ops Q S ds (fuel + 1) (tr (fuel + 1)) a w :=
 take_ (tr fuel) hi hN hc hQ hy hS ha h
set_option maxRecDepth 100000 in
set_option maxHeartbeats 8000000 in
theorem CoreQueues_walk (HL : Less ltE) (HO : OrderC) (HPl : PlainC) (A : Option Addr) (c : Nat) (vs : List Val) (k : Int) (w : World) (hv : VR w A vs) (hs : ∀ i, i < vs.length → (g vs i).2.2.size ≤ 4611686018427387904) (hl : vs.length < 4398046511104) (h5 : 5 ≤ w.heap.size) (HG : GW w)
  (HA : Calls Tryz.prog 23 #[] w fun e w' => e = .returned (.bool true) ∧ Below w.heap.size w w') :
  Calls Tryz.prog 4 #[.slice A vs.length c, .int .i64 k] w fun e w' => e = .returned (.bool true) ∧ Below w.heap.size w w' := by
 have HV := Lib.hid hv; have HS := Lib.hid hs; have HAw := Lib.hid HA; have hlb : (vs.length : Int) < 4398046511104 := by omega
 clear hv hs HA; go_enter Tryz.func4, Tryz.ntmps4; go_wp2_with fail; refine HAw.out.mono ?_; rintro e w1 ⟨rfl, hb1⟩; have B1 := Lib.hid hb1; clear hb1 HAw; go_wp2_with fail; refine (NewQueue_walk w1).mono ?_; rintro e w3 ⟨rfl, hw3⟩; have h51 : 5 ≤ w1.heap.size := Nat.le_trans h5 B1.out.size; obtain ⟨q, hq⟩ : ∃ q, q = w1.heap.size := ⟨_, rfl⟩; have hQ3 : QAt w1.heap.size w1.heap.size (.slice none 0 0) [] 0 w3 := by rw [hw3]; exact qAt_new (Nat.le_refl _)
 have hB3 : Below w.heap.size w w3 := by rw [hw3]; exact below_alloc B1.out _
 have hwq : w.heap.size ≤ q := by rw [hq]; exact B1.out.size
 rw [← hq] at hQ3 h51; rw [← hq]; have Q3 := Lib.hid hQ3; have B3 := Lib.hid hB3; clear hw3 hQ3 hB3 hq; go_wp2_with fail; go_loopg [6, 7, 25] vs.length (fun d s6 s7 s25 wx => ∃ (i : Nat) (v : Value), s25 = .int .i64 (i : Int) ∧ Aside0 (QAt q q v (heapOf ltE (vs.map plainV) i) (i : Int) wx) ∧ Aside0 (Below w.heap.size w wx) ∧ Aside0 (d = vs.length - i) ∧ i ≤ vs.length)
 case atStart => exact ⟨0, _, rfl, ⟨Q3.out⟩, ⟨B3.out⟩, ⟨rfl⟩, Nat.zero_le _⟩
 case round =>
  clear Q3 B3; obtain ⟨i, v, rfl, R1, R2, R3, hi⟩ := hrel; by_cases hlt : i < vs.length
  ·
   have hd : decide ((i : Int) < (vs.length : Int)) = true := decide_eq_true (by omega); obtain ⟨ad, hA, x0, x1, x2⟩ := (HV.out.below R2.out) i hlt; subst hA; have hsx := HS.out i hlt; obtain ⟨X, hX⟩ : ∃ X, g vs i = X := ⟨_, rfl⟩; rw [hX] at x0 x1 x2 hsx; obtain ⟨xa, xb, xc⟩ := X; obtain ⟨Z, hZ⟩ : ∃ Z, plainOf xa xb xc = Z := ⟨_, rfl⟩; obtain ⟨pa, pb, pc⟩ := Z; have hsm : SmL (heapOf ltE (vs.map plainV) i) := heapOf_small ltE _ (fun j hj => by
    rw [List.length_map] at hj; rw [g_plain]; exact Nat.le_trans (plain_size _ _ _) (HS.out j hj)) i (by rw [List.length_map]; omega)
   have hpz : pc.size ≤ 4611686018427387904 := by
    have h := plain_size xa xb xc; rw [hZ] at h; exact Nat.le_trans h hsx
   obtain ⟨W6, hW6⟩ : ∃ W6, W6 = wr.alloc (.cells #[.int .i64 xa, .int .u64 xb, .string xc] 26) := ⟨_, rfl⟩; have hb6 : Below wr.heap.size wr W6 := by rw [hW6]; exact below_alloc (Below.refl _ _) _
   have HP := Lib.hid (Push_walk ltE HL q q v (heapOf ltE (vs.map plainV) i) (i : Int) xa xb xc pa pb pc hZ W6 (R1.out.below hb6) hsm hpz (by rw [heapOf_length]; omega) ⟨by omega, by omega⟩ h51 (HG.below (R2.out.trans (hb6.mono R2.out.size)))); have B6 := Lib.hid (R2.out.trans (hb6.mono R2.out.size)); have hpe : heapOf ltE (vs.map plainV) (i + 1) = push ltE (heapOf ltE (vs.map plainV) i) (pa, pb, pc, (i : Int)) := by
    rw [heapOf, g_plain, hX]; unfold plainV; rw [hZ]
   have HPE := Lib.hid hpe; have HW6 := Lib.hid hW6; clear hX hZ hsm hpz hb6 hpe hW6 hsx; go_wp2_with fail; rw [← HW6.out]; refine HP.out.mono ?_; rintro e w7 ⟨rfl, v7, hQ7, hT7⟩; have Q7 := Lib.hid hQ7; have B7 := Lib.hid (B6.out.trans (hT7.below.mono hwq)); clear hQ7 hT7 HP; have hne : ((i : Int) != (i : Int)) = false := bne_self_eq_false _; go_wp2_with fail; refine (Len_walk q q v7 _ _ _ Q7.out).mono ?_; rintro e w8 ⟨rfl, rfl⟩; have hln : ((push ltE (heapOf ltE (vs.map plainV) i) (pa, pb, pc, (i : Int))).length : Int) = (i : Int) + 1 := by rw [push_length, heapOf_length]; omega
   have hw1 : IntKind.i64.wrap ((i : Int) + 1) = (i : Int) + 1 := by simp [IntKind.wrap, IntKind.bits, IntKind.signed]; omega
   rw [hln]; have hne2 : ((i : Int) + 1 != (i : Int) + 1) = false := bne_self_eq_false _; go_wp2_with fail; go_roundg (vs.length - (i + 1))
   case measure => rw [R3.out]; omega
   case rel => exact ⟨i + 1, v7, (by go_num), ⟨by rw [HPE.out]; exact Q7.out⟩, ⟨B7.out⟩, ⟨rfl⟩, by omega⟩
  obtain rfl : i = vs.length := by omega
  have hd : decide ((vs.length : Int) < (vs.length : Int)) = false := decide_eq_false (by omega); have Q4 := Lib.hid R1.out; have B4 := Lib.hid R2.out; clear R1 R2 R3; go_upto_region 10 with fail
  go_wp2_with (first
   | ((with_reducible refine append_vals (W := wr) w.heap.size rfl (.tmp 43) (.tmp 44) 22 26 (vAgg 0 0 ⟨#[]⟩) 3 32 rfl Tryz.underlying22 infoV rfl rfl rfl A c vs rfl rfl ?hv ?hb hl ?_); (case hv => exact HV.out.below B4.out); (case hb => exact B4.out.size); intro v5 w5 ho5 hb5; (have O5 := Lib.hid ho5); (have B5 := Lib.hid (B4.out.trans (hb5.mono B4.out.size))); (have Q5 := Lib.hid (Q4.out.below hb5)); clear ho5 hb5))
  clear Q4 B4; obtain ⟨A5, c5, rfl, hv5⟩ := vr_own' O5.out; refine (Sort_walk ltE HL A5 c5 vs w5 hv5 HS.out hl (Nat.le_trans h5 B5.out.size) (HG.below B5.out)).mono ?_; rintro e w6 ⟨v6, rfl, ho6, hb6⟩; rw [topIds_ids, idsN_len, show min ((vs.length : Int)).toNat vs.length = vs.length by omega] at ho6; have O6 := Lib.hid (ho6.mono B5.out.size); have Q6 := Lib.hid (Q5.out.below hb6); have B6 := Lib.hid (B5.out.trans (hb6.mono B5.out.size)); clear ho6 hb6 hv5 O5 Q5 B5; go_upto_region 11 with fail
  obtain ⟨A6, c6, rfl⟩ := own_slice O6.out; go_wp2_with (first
   | ((with_reducible refine append_vals (W := w6) w.heap.size rfl (.tmp 47) (.tmp 48) 22 26 (vAgg 0 0 ⟨#[]⟩) 3 32 rfl Tryz.underlying22 infoV rfl rfl rfl A c vs rfl rfl ?hv ?hb hl ?_); (case hv => exact HV.out.below B6.out); (case hb => exact B6.out.size); intro v7 w7 ho7 hb7; (have O7 := Lib.hid ho7); (have R7 := Lib.hid (pw_own_below O6.out hb7)); (have B7 := Lib.hid (B6.out.trans (hb7.mono B6.out.size))); (have Q7 := Lib.hid (Q6.out.below hb7)); clear ho7 hb7))
  clear Q6 B6 O6; obtain ⟨A7, c7, rfl, hv7⟩ := vr_own' O7.out; refine (Top_walk ltE HL A7 c7 vs k w7 hv7 HS.out hl (Nat.le_trans h5 B7.out.size) (HG.below B7.out)).mono ?_; rintro e w8 ⟨v8, rfl, ho8, hb8⟩; obtain ⟨n9, hn9⟩ : ∃ n9, n9 = min k.toNat vs.length := ⟨_, rfl⟩; rw [topIds_ids, idsN_len, ← hn9] at ho8; have O8 := Lib.hid (ho8.mono B7.out.size); have R8 := Lib.hid (pw_own_below R7.out hb8); have Q8 := Lib.hid (Q7.out.below hb8); have B8 := Lib.hid (B7.out.trans (hb8.mono B7.out.size)); have hn9l : n9 ≤ vs.length := by omega
  have hmm : min (max k 0) (vs.length : Int) = (n9 : Int) := by
   rw [hn9]; omega
  have hne4 : ((n9 : Int) != (n9 : Int)) = false := bne_self_eq_false _; clear ho8 hb8 hv7 O7 R7 Q7 B7 hn9; have hne3 : ((vs.length : Int) != (vs.length : Int)) = false := bne_self_eq_false _; go_upto_region 12 with fail
  obtain ⟨A8, c8, rfl⟩ := own_slice O8.out; obtain ⟨i0, hi0, hzz⟩ := Option.map_eq_some_iff.1 infoB; simp only [Prod.mk.injEq] at hzz; obtain ⟨hz0, hz1, hz2⟩ := hzz; obtain ⟨w9, hrun, ho9, hg9⟩ := run_make_full (P := Tryz.prog) w8 w.heap.size 41 4 i0 (.bool false) 1 Tryz.underlying41 hi0 hz0 hz1 .i64 .i64 vs.length (by rw [hz2]; omega) (by simp only [maxLen]; omega) B8.out.size; have hb9 : Below w8.heap.size w8 w9 := (Below.refl _ _).grown hg9 (Nat.le_refl _) (fun k hk => by cases hk); rw [madeB] at ho9; have O9 := Lib.hid (pw_own_below O8.out hb9); have R9 := Lib.hid (pw_own_below R8.out hb9); have Q9 := Lib.hid (Q8.out.below hb9); have B9 := Lib.hid (B8.out.trans (hb9.mono B8.out.size)); have S9 := Lib.hid ho9; have HRUN := Lib.hid hrun; obtain ⟨g9, hg9e⟩ : ∃ g9, g9 = w8.heap.size := ⟨_, rfl⟩; rw [← hg9e] at S9 hrun; clear O8 R8 Q8 B8 hb9 hg9 ho9 hz0 hz1 hz2 hi0 HRUN hg9e; go_wp2_with (first
   | rw [hmm]
   | rw [hrun])
  go_loopg [11, 12, 13, 14, 15, 16, 72] vs.length (fun d s11 s12 s13 s14 s15 s16 s72 wx => ∃ (i : Nat) (v : Value) (bs : List Bool), s72 = .int .i64 (i : Int) ∧ Aside0 (QAt q q v (popN ltE i (heapOf ltE (vs.map plainV) vs.length)) (vs.length : Int) wx) ∧ Aside0 (wx.ownsRow w.heap.size 4 1 (.slice (some ⟨g9, 0, none⟩) vs.length vs.length) vs.length (flatB bs)) ∧ Aside0 (wx.ownsRow w.heap.size 3 1 (.slice A6 vs.length c6) vs.length (nums .i64 (idsN vs vs.length))) ∧ Aside0 (wx.ownsRow w.heap.size 3 1 (.slice A8 n9 c8) n9 (nums .i64 (idsN vs n9))) ∧ Aside0 (Below w.heap.size w wx) ∧ Aside0 (bs.length = vs.length) ∧ Aside0 (∀ j, i ≤ j → j < vs.length → mk bs (outId vs j) = false) ∧ Aside0 (d = vs.length - i) ∧ i ≤ vs.length)
  case atStart => exact ⟨0, _, List.replicate vs.length false, rfl, ⟨Q9.out⟩, ⟨S9.out⟩, ⟨R9.out⟩, ⟨O9.out⟩, ⟨B9.out⟩, ⟨List.length_replicate⟩, ⟨fun j _ hj => mk_rep _ _⟩, ⟨rfl⟩, Nat.zero_le _⟩
  case round =>
   clear Q9 S9 R9 O9 B9; obtain ⟨i, v, bs, rfl, R1, R2, R3, R4, R5, R6, R7, R8, hi2⟩ := hrel; by_cases hlt2 : i < vs.length
   ·
    have hd2 : decide ((i : Int) < (vs.length : Int)) = true := decide_eq_true (by omega); obtain ⟨hX, he, hg0⟩ := out_at vs hlt2; obtain ⟨X, hXe⟩ : ∃ X, outId vs i = X := ⟨_, rfl⟩; obtain ⟨gs, cs, hgs⟩ := own_form R3.out (by omega); injection hgs with hgs1 _ hgs2; subst hgs1 hgs2; have x0 := idsRow R3.out i hlt2; rw [hXe] at hX hg0 x0; have hrow := R1.out.row; rw [popN_length, heapOf_length, show vs.length - i = (vs.length - i - 1) + 1 by omega] at hrow; obtain ⟨g1, c1, rfl⟩ := own_form hrow (by omega); have hsm : SmL (heapOf ltE (vs.map plainV) vs.length) := heapOf_small ltE _ (fun j hj => by
     rw [List.length_map] at hj; rw [g_plain]; exact Nat.le_trans (plain_size _ _ _) (HS.out j hj)) vs.length (by rw [List.length_map]; exact Nat.le_refl _)
    have hP := Pop_walk ltE HL q q (popN ltE i (heapOf ltE (vs.map plainV) vs.length)) (vs.length : Int) g1 (vs.length - i - 1) c1 wr R1.out (by rw [popN_length, heapOf_length]; omega) (popN_small ltE i _ hsm) (by rw [popN_length, heapOf_length]; omega) h51 (HG.below R5.out); rw [hg0] at hP; obtain ⟨PV, hPV⟩ : ∃ PV, plainV (g vs X) = PV := ⟨_, rfl⟩; rw [hPV] at hP; obtain ⟨pa, pb, pc⟩ := PV; have HP := Lib.hid hP; have HPV := Lib.hid hPV; have HX := Lib.hid hXe; clear hP hPV hXe he hg0 hrow hsm; go_upto_region 18 with fail
    go_wp2_with fail; refine HP.out.mono ?_; rintro e w10 ⟨rfl, v10, hQ10, hT10⟩; have Q10 := Lib.hid hQ10; have S10 := Lib.hid (own_turned R1.out hT10 R2.out (by decide) (by decide)); have O10 := Lib.hid (own_turned R1.out hT10 R3.out (by decide) (by decide)); have P10 := Lib.hid (own_turned R1.out hT10 R4.out (by decide) (by decide)); have B10 := Lib.hid (R5.out.trans (hT10.below.mono hwq)); clear hQ10 hT10 HP R1 R2 R3 R4 R5 x0; obtain ⟨ad, hA, -⟩ := (HV.out.below B10.out) i hlt2; subst hA; obtain ⟨X0, hX0⟩ : ∃ X0, g vs X = X0 := ⟨_, rfl⟩; obtain ⟨xa, xb, xc⟩ := X0; have hpv := HPV.out; rw [hX0] at hpv; obtain ⟨W11, hW11⟩ : ∃ W11, W11 = w10.alloc (.cells #[.int .i64 pa, .int .u64 pb, .string pc] 26) := ⟨_, rfl⟩; have hb11 : Below w10.heap.size w10 W11 := by rw [hW11]; exact below_alloc (Below.refl _ _) _
    have hk11 : W11.heap[w10.heap.size]? = some (.cells #[.int .i64 pa, .int .u64 pb, .string pc] 26 (0, 0)) := by rw [hW11]; exact blk_new _ _
    have S11 := Lib.hid (pw_own_below S10.out hb11); have O11 := Lib.hid (pw_own_below O10.out hb11); have P11 := Lib.hid (pw_own_below P10.out hb11); have Q11 := Lib.hid (Q10.out.below hb11); have B11 := Lib.hid (B10.out.trans (hb11.mono B10.out.size)); have HW11 := Lib.hid hW11; have K11 := Lib.hid hk11; have hX0' := Lib.hid hX0; clear hW11 hb11 hk11 S10 O10 P10 Q10 B10 hX0; go_upto_region 19 with fail
    rw [← HW11.out]; have hKS : ∀ u, Below W11.heap.size W11 u → Below W11.heap.size W11 u ∧ u.cell? ⟨w10.heap.size, 0, none⟩ = some (.int .i64 pa) ∧ u.cell? ⟨w10.heap.size, 1, none⟩ = some (.int .u64 pb) ∧ u.cell? ⟨w10.heap.size, 2, none⟩ = some (.string pc) ∧ u.cell? (ad.add (X * 3)) = some (.int .i64 xa) ∧ u.cell? ⟨(ad.add (X * 3)).block, (ad.add (X * 3)).off + 1, none⟩ = some (.int .u64 xb) ∧ u.cell? ⟨(ad.add (X * 3)).block, (ad.add (X * 3)).off + 2, none⟩ = some (.string xc) ∧ u.cell? ⟨g9, X, none⟩ = some (.bool false) := by
     intro u hu; have hk := blk_below K11.out hu; obtain ⟨ad', hA', c0, c1, c2⟩ := (HV.out.below (B11.out.trans (hu.mono B11.out.size))) X hX; obtain rfl := Option.some.inj hA'; rw [hX0'.out] at c0 c1 c2; have hs0 := (boolRow (pw_own_below S11.out hu) X (by rw [R6.out]; exact hX)).1; have hm0 := R7.out i (Nat.le_refl _) hlt2; rw [HX.out] at hm0; rw [hm0] at hs0; exact ⟨hu, (blk_cell hk 0).trans rfl, (blk_cell hk 1).trans rfl, (blk_cell hk 2).trans rfl, c0, c1, c2, hs0⟩
    have KS := Lib.hid hKS; have hPC : ∀ u, Below W11.heap.size W11 u → Calls Tryz.prog 28 #[.agg #[.int .i64 xa, .int .u64 xb, .string xc]] u fun e u' => e = .returned (.agg #[.int .i64 pa, .int .u64 pb, .string pc]) ∧ Below W11.heap.size W11 u' := by
     intro u hu; have h := HPl (xa, xb, xc) u (HG.below (B11.out.trans (hu.mono B11.out.size))); rw [hpv] at h; exact h.mono fun e u' hh => ⟨hh.1, hu.trans (hh.2.mono hu.size)⟩
    have PC := Lib.hid hPC; have e1 : decide ((X : Int) < 0) = false := decide_eq_false (by omega); have e2 : decide ((vs.length : Int) ≤ (X : Int)) = false := decide_eq_false (by omega); have e3 : decide (vs.length ≤ X) = false := decide_eq_false (by omega); have e4 : (X : Int) < (vs.length : Int) := by omega
    have e5 : ((X : Int) != (X : Int)) = false := bne_self_eq_false _; clear hKS hPC hpv; by_cases hin : i < n9
    focus
     have e6 : decide ((i : Int) < (n9 : Int)) = true := decide_eq_true (by omega); have e7 : decide (i < n9) = true := decide_eq_true hin; have e8 : (i : Int) < (n9 : Int) := by omega
     obtain ⟨g8, c8', hg8⟩ := own_form P11.out (by omega); injection hg8 with hg81 _ hg82; subst hg81 hg82; have KS0 := KS; clear KS; have KS := Lib.hid (fun (u : World) (hu : Below W11.heap.size W11 u) => by
      have hx := idsRow (pw_own_below P11.out hu) i hin; rw [HX.out] at hx; obtain ⟨s0, s1, s2, s3, s4, s5, s6, s7⟩ := KS0.out u hu; exact (⟨s0, s1, s2, s3, s4, s5, s6, s7, hx⟩ : _ ∧ _ ∧ _ ∧ _ ∧ _ ∧ _ ∧ _ ∧ _ ∧ _))
     clear KS0; refine start_ (n := 46) (S := fun u => Below W11.heap.size W11 u ∧ u.cell? ⟨w10.heap.size, 0, none⟩ = some (.int .i64 pa) ∧ u.cell? ⟨w10.heap.size, 1, none⟩ = some (.int .u64 pb) ∧ u.cell? ⟨w10.heap.size, 2, none⟩ = some (.string pc) ∧ u.cell? (ad.add (X * 3)) = some (.int .i64 xa) ∧ u.cell? ⟨(ad.add (X * 3)).block, (ad.add (X * 3)).off + 1, none⟩ = some (.int .u64 xb) ∧ u.cell? ⟨(ad.add (X * 3)).block, (ad.add (X * 3)).off + 2, none⟩ = some (.string xc) ∧ u.cell? ⟨g9, X, none⟩ = some (.bool false) ∧ u.cell? ⟨g8, i, none⟩ = some (.int .i64 (X : Nat))) (ds := []) (tr 46) (by kernel_rfl) rfl rfl (KS.out _ (below_drew (Below.refl _ _))) (fun hHeld => ?_); generalize W11.drew = w12 at hHeld ⊢; iterate 29
      (refine t19 (v := ?_) (a' := ?_) rfl rfl (by kernel_rfl) (fun _ _ _ h => h) (Or.inl ⟨by rfl, ?_⟩) hHeld ?_ ?_; rotate_left; (rintro w' ⟨s0, s1, s2, s3, s4, s5, s6, s7, s8⟩; go_simp; with_reducible rfl); rotate_left; (simp only [Act.put, Nat.reduceSub, List.setIfInBounds_toArray, List.set_cons_zero, List.set_cons_succ, i64_w, i32_w]; rfl))
     refine one_ (i := 29) (N := some 112) (tr 16) rfl rfl (by kernel_rfl) (by decide) (fun K hK => ?_); refine goes_ Tryz.func28 (by kernel_rfl) rfl #[.agg #[.int .i64 xa, .int .u64 xb, .string xc]] (by rfl) rfl rfl (by (try simp only [List.map_toArray, List.map_cons, List.map_nil]); first | done | rfl) ?_; refine (PC.out _ hHeld.1).mono ?_; rintro e w13 ⟨rfl, hb⟩; refine ⟨_, rfl, ?_⟩; refine hK.out _ _ (KS.out _ hb) (fun hHeld => ?_); clear hK K hb; refine norm_ (a' := ?_) ?_ ?_; rotate_left
     · show Act.put _ (some 112) _ = _; simp only [Act.put, Nat.reduceSub, List.setIfInBounds_toArray, List.set_cons_zero, List.set_cons_succ, i64_w, i32_w]; rfl
     iterate 16
      (refine t19 (v := ?_) (a' := ?_) rfl rfl (by kernel_rfl) (fun _ _ _ h => h) (Or.inl ⟨by rfl, ?_⟩) hHeld ?_ ?_; rotate_left; (rintro w' ⟨s0, s1, s2, s3, s4, s5, s6, s7, s8⟩; go_simp; with_reducible rfl); rotate_left; (simp only [Act.put, Nat.reduceSub, List.setIfInBounds_toArray, List.set_cons_zero, List.set_cons_succ, i64_w, i32_w]; rfl))
     refine done_ (by kernel_rfl) ?_
    rotate_left; focus
     have e6 : decide ((i : Int) < (n9 : Int)) = false := decide_eq_false (by omega); have e7 : decide (i < n9) = false := decide_eq_false (by omega); refine start_ (n := 46) (S := fun u => Below W11.heap.size W11 u ∧ u.cell? ⟨w10.heap.size, 0, none⟩ = some (.int .i64 pa) ∧ u.cell? ⟨w10.heap.size, 1, none⟩ = some (.int .u64 pb) ∧ u.cell? ⟨w10.heap.size, 2, none⟩ = some (.string pc) ∧ u.cell? (ad.add (X * 3)) = some (.int .i64 xa) ∧ u.cell? ⟨(ad.add (X * 3)).block, (ad.add (X * 3)).off + 1, none⟩ = some (.int .u64 xb) ∧ u.cell? ⟨(ad.add (X * 3)).block, (ad.add (X * 3)).off + 2, none⟩ = some (.string xc) ∧ u.cell? ⟨g9, X, none⟩ = some (.bool false)) (ds := []) (tr 46) (by kernel_rfl) rfl rfl (KS.out _ (below_drew (Below.refl _ _))) (fun hHeld => ?_); generalize W11.drew = w12 at hHeld ⊢; iterate 29
      (refine t19 (v := ?_) (a' := ?_) rfl rfl (by kernel_rfl) (fun _ _ _ h => h) (Or.inl ⟨by rfl, ?_⟩) hHeld ?_ ?_; rotate_left; (rintro w' ⟨s0, s1, s2, s3, s4, s5, s6, s7⟩; go_simp; with_reducible rfl); rotate_left; (simp only [Act.put, Nat.reduceSub, List.setIfInBounds_toArray, List.set_cons_zero, List.set_cons_succ, i64_w, i32_w]; rfl))
     refine one_ (i := 29) (N := some 112) (tr 16) rfl rfl (by kernel_rfl) (by decide) (fun K hK => ?_); refine goes_ Tryz.func28 (by kernel_rfl) rfl #[.agg #[.int .i64 xa, .int .u64 xb, .string xc]] (by rfl) rfl rfl (by (try simp only [List.map_toArray, List.map_cons, List.map_nil]); first | done | rfl) ?_; refine (PC.out _ hHeld.1).mono ?_; rintro e w13 ⟨rfl, hb⟩; refine ⟨_, rfl, ?_⟩; refine hK.out _ _ (KS.out _ hb) (fun hHeld => ?_); clear hK K hb; refine norm_ (a' := ?_) ?_ ?_; rotate_left
     · show Act.put _ (some 112) _ = _; simp only [Act.put, Nat.reduceSub, List.setIfInBounds_toArray, List.set_cons_zero, List.set_cons_succ, i64_w, i32_w]; rfl
     iterate 8
      (refine t19 (v := ?_) (a' := ?_) rfl rfl (by kernel_rfl) (fun _ _ _ h => h) (Or.inl ⟨by rfl, ?_⟩) hHeld ?_ ?_; rotate_left; (rintro w' ⟨s0, s1, s2, s3, s4, s5, s6, s7⟩; go_simp; with_reducible rfl); rotate_left; (simp only [Act.put, Nat.reduceSub, List.setIfInBounds_toArray, List.set_cons_zero, List.set_cons_succ, i64_w, i32_w]; rfl))
     iterate 6
      (refine t19 (v := undef) (a' := ?_) rfl rfl (by kernel_rfl) (fun _ _ _ h => h) (Or.inr ⟨by rfl, rfl⟩) hHeld ?_ ?_; rotate_left; (simp only [Act.put, Nat.reduceSub, List.setIfInBounds_toArray, List.set_cons_zero, List.set_cons_succ, i64_w, i32_w]; rfl))
     iterate 2
      (refine t19 (v := ?_) (a' := ?_) rfl rfl (by kernel_rfl) (fun _ _ _ h => h) (Or.inl ⟨by rfl, ?_⟩) hHeld ?_ ?_; rotate_left; (rintro w' ⟨s0, s1, s2, s3, s4, s5, s6, s7⟩; go_simp; with_reducible rfl); rotate_left; (simp only [Act.put, Nat.reduceSub, List.setIfInBounds_toArray, List.set_cons_zero, List.set_cons_succ, i64_w, i32_w]; rfl))
     refine done_ (by kernel_rfl) ?_
    rotate_left
    all_goals
     have hB13 : Below W11.heap.size W11 w13 := hHeld.1; have S13 := pw_own_below S11.out hB13; have O13 := pw_own_below O11.out hB13; have P13 := pw_own_below P11.out hB13; have Q13 := Q11.out.below hB13; have B13 := B11.out.trans (hB13.mono B11.out.size); obtain ⟨t0, t1⟩ := boolRow S13 X (by rw [R6.out]; exact hX); have hm0 := R7.out i (Nat.le_refl _) hlt2; rw [HX.out] at hm0; rw [hm0] at t0; obtain ⟨W14, hW14⟩ : ∃ W14, W14 = w13.setCell ⟨g9, X, none⟩ (.bool true) := ⟨_, rfl⟩; obtain ⟨hS14, hg14⟩ := boolStore S13 X true; rw [← hW14] at hS14 hg14; have Q14 := Lib.hid (Q13.grown hg14 (own_ne S13 Q13.blk (by decide)) (own_type_ne Q13.row S13 (by decide))); have O14 := Lib.hid (own_other O13 hg14 (own_type_ne O13 S13 (by decide))); have P14 := Lib.hid (own_other P13 hg14 (own_type_ne P13 S13 (by decide))); have B14 := Lib.hid (Below.grown B13 hg14 B13.size (fun k hk => own_base S13 k (by rw [← hk]; rfl))); have S14 := Lib.hid hS14; have HW14 := Lib.hid hW14; have hlen14 : (bs.set X true).length = vs.length := by rw [List.length_set]; exact R6.out
     have hmk14 : ∀ j, i + 1 ≤ j → j < vs.length → mk (bs.set X true) (outId vs j) = false := fun j hj hjl => by
      rw [mk_set _ _ _ _ (fun he => by have := out_inj vs hlt2 hjl (HX.out.trans he); omega)]; exact R7.out j (by omega) hjl
     have HL14 := Lib.hid hlen14; have HM14 := Lib.hid hmk14; clear KS PC hHeld hB13 S13 O13 P13 Q13 B13 hm0 hS14 hg14 hW14 hlen14 hmk14 Q11 S11 O11 P11 B11 K11 HW11 e1 e2 e3 e5 e6 e7; go_upto_region 22 with fail
     rw [← HW14.out]; by_cases hi0 : i = 0
     ·
      have z1 : decide (0 < (i : Int)) = false := decide_eq_false (by omega); have z2 : decide (0 < i) = false := decide_eq_false (by omega); have hwi : IntKind.i64.wrap ((i : Int) + 1) = (i : Int) + 1 := by simp [IntKind.wrap, IntKind.bits, IntKind.signed]; omega
      go_wp2_with fail; go_roundg (vs.length - (i + 1))
      case measure => rw [R8.out]; omega
      case rel => exact ⟨i + 1, v10, bs.set X true, (by go_num), ⟨by rw [popN_succ]; exact Q14.out⟩, ⟨S14.out⟩, ⟨O14.out⟩, ⟨P14.out⟩, ⟨B14.out⟩, ⟨HL14.out⟩, ⟨HM14.out⟩, ⟨rfl⟩, by omega⟩
     obtain ⟨j, hj⟩ : ∃ j, i = j + 1 := ⟨i - 1, by omega⟩; have z1 : decide (0 < (i : Int)) = true := decide_eq_true (by omega); have z2 : decide (0 < i) = true := decide_eq_true (by omega); have hwi : IntKind.i64.wrap ((i : Int) + 1) = (i : Int) + 1 := by simp [IntKind.wrap, IntKind.bits, IntKind.signed]; omega
     have hwj : IntKind.i64.wrap ((i : Int) - 1) = (j : Int) := by
      rw [hj]; simp [IntKind.wrap, IntKind.bits, IntKind.signed]; omega
     obtain ⟨Y, hY⟩ : ∃ Y, outId vs j = Y := ⟨_, rfl⟩; have hYl : Y < vs.length := by rw [← hY]; exact (out_at vs (by omega)).1
     have y0 : W14.cell? ⟨gs, j, none⟩ = some (.int .i64 (Y : Nat)) := by rw [← hY]; exact idsRow O14.out j (by omega)
     have hord := out_ord vs (i := j) (by omega); rw [← hj, HX.out, hY] at hord; obtain ⟨adY, hAY, p0, p1, p2⟩ := (HV.out.below B14.out) Y hYl; obtain rfl := Option.some.inj hAY; obtain ⟨adX, hAX, x0, x1, x2⟩ := (HV.out.below B14.out) X hX; obtain rfl := Option.some.inj hAX; have hsY := HS.out Y hYl; obtain ⟨Y0, hY0⟩ : ∃ Y0, g vs Y = Y0 := ⟨_, rfl⟩; obtain ⟨ya, yb, yc⟩ := Y0; rw [hX0'.out] at x0 x1 x2 hord; rw [hY0] at p0 p1 p2 hord hsY; have hC := HO (ya, yb, yc) (xa, xb, xc) W14.drew hsY (HG.below (B14.out.trans ((below_drew (Below.refl _ _)).mono B14.out.size))); obtain ⟨C, hCe⟩ : ∃ C, ordV (ya, yb, yc) (xa, xb, xc) = C := ⟨_, rfl⟩; rw [hCe] at hC hord; have HCC := Lib.hid hC; have HAk := Lib.hid hord; have f1 : (j : Int) < (vs.length : Int) := by omega
     have f2 : (Y : Int) < (vs.length : Int) := by omega
     have f3 : (0 : Int) ≤ (j : Int) := by omega
     have HJ := Lib.hid hj; have HY := Lib.hid hY; clear hC hord hsY hY0 hCe hj hY; go_upto_region 23 with fail
     go_still_tail 12, (by kernel_rfl)
     change wpList _ _ _ _ _ W14.drew; go_wp2_with fail; refine HCC.out.mono ?_; rintro e w15 ⟨rfl, hb15⟩; have hbw : Below W14.heap.size W14 w15 := (below_drew (Below.refl _ _)).trans hb15; have Q15 := Lib.hid (Q14.out.below hbw); have S15 := Lib.hid (pw_own_below S14.out hbw); have O15 := Lib.hid (pw_own_below O14.out hbw); have P15 := Lib.hid (pw_own_below P14.out hbw); have B15 := Lib.hid (B14.out.trans (hbw.mono B14.out.size)); clear y0 p0 p1 p2 x0 x1 x2 hb15 hbw HCC; have y0 : w15.cell? ⟨gs, j, none⟩ = some (.int .i64 (Y : Nat)) := by rw [← HY.out]; exact idsRow O15.out j (by omega)
     have c1 : decide (0 < C) = false := decide_eq_false (by have := HAk.out.1; omega); by_cases c2 : C = 0
     ·
      have hle := HAk.out.2 c2; subst c2; have c4 : decide ((X : Int) < (Y : Int)) = false := decide_eq_false (by omega); have c5 : decide (X < Y) = false := decide_eq_false (by omega); go_wp2_with fail; go_roundg (vs.length - (i + 1))
      case measure => rw [R8.out]; omega
      case rel => exact ⟨i + 1, v10, bs.set X true, (by go_num), ⟨by rw [popN_succ]; exact Q15.out⟩, ⟨S15.out⟩, ⟨O15.out⟩, ⟨P15.out⟩, ⟨B15.out⟩, ⟨HL14.out⟩, ⟨HM14.out⟩, ⟨rfl⟩, by omega⟩
     have c3 : (C == 0) = false := beq_eq_false_iff_ne.mpr c2; clear c2; go_wp2_with fail; go_roundg (vs.length - (i + 1))
     case measure => rw [R8.out]; omega
     case rel => exact ⟨i + 1, v10, bs.set X true, (by go_num), ⟨by rw [popN_succ]; exact Q15.out⟩, ⟨S15.out⟩, ⟨O15.out⟩, ⟨P15.out⟩, ⟨B15.out⟩, ⟨HL14.out⟩, ⟨HM14.out⟩, ⟨rfl⟩, by omega⟩
   obtain rfl : i = vs.length := by omega
   have hd2 : decide ((vs.length : Int) < (vs.length : Int)) = false := decide_eq_false (by omega); have hL0 : popN ltE vs.length (heapOf ltE (vs.map plainV) vs.length) = [] := List.eq_nil_of_length_eq_zero (by rw [popN_length, heapOf_length]; omega); have hQe := R1.out; rw [hL0] at hQe; have Q10 := Lib.hid hQe; have B10 := Lib.hid R5.out; clear R1 R2 R3 R4 R5 R6 R7 R8 hL0 hQe; go_wp2_with fail; refine (Pop_empty q q v _ _ Q10.out).mono ?_; rintro e w11 ⟨rfl, hb11⟩; have Q11 := Lib.hid (Q10.out.below hb11); have B11 := Lib.hid (B10.out.trans (hb11.mono B10.out.size)); clear hb11 Q10 B10; go_wp2_with fail; obtain ⟨W12, hW12⟩ : ∃ W12, W12 = w11.alloc (.cells #[.int .i64 0, .int .u64 0, .string ⟨#[]⟩] 26) := ⟨_, rfl⟩; rw [← hW12]; have hB12 : Below w11.heap.size w11 W12 := by rw [hW12]; exact below_alloc (Below.refl _ _) _
   have Q12 := Lib.hid (Q11.out.below hB12); have B12 := Lib.hid (B11.out.trans (hB12.mono B11.out.size)); clear hW12 hB12 Q11 B11; refine (Len_walk q q v _ _ _ Q12.out).mono ?_; rintro e w13 ⟨rfl, rfl⟩; rw [show ((([] : List Ent).length : Nat) : Int) = 0 from rfl]; go_wp2_with fail; go_ret; exact ⟨rfl, B12.out⟩
end Go.Proofs.YtmbacdkpgfbclaaGreatDoor
