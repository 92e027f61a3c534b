/- RecordNothing, walked: true; conditions: none. -/
import Derived.Test.YtmbacdkpgfbclaaGreatDoorRecS
import Derived.Test.YtmbacdkpgfbclaaGreatDoorPXIx11
namespace Go.Proofs.YtmbacdkpgfbclaaGreatDoor
open Go.RowKit Go.Proofs.YtmbacdkpgfbclaaGreatDoorW.PrintWords Go.Proofs.YtmbacdkpgfbclaaGreatDoorW.PrintLast Heap
set_option linter.unusedVariables false
set_option linter.unusedSimpArgs false
theorem in10 : PXI.value_Input.f 200 ⟨#[49, 48]⟩ = some (3, 4621819117588971520, ⟨#[49, 48]⟩) := by decide +kernel
theorem inX : PXI.value_Input.f 200 ⟨#[120]⟩ = some (2, 0, ⟨#[120]⟩) := by decide +kernel
def V10 : Val := (3, 4621819117588971520, ⟨#[49, 48]⟩)
def Vx : Val := (2, 0, ⟨#[120]⟩)
def Vy : Val := (2, 0, ⟨#[121]⟩)
theorem aw_lines : linesOf ⟨#[97, 10, 98, 10]⟩ ⟨#[10]⟩ = [⟨#[97]⟩, ⟨#[98]⟩] := by
 have c0 : cutsFrom ⟨#[97, 10, 98, 10]⟩ ⟨#[10]⟩ 0 = [(0, 1), (2, 3), (4, 4)] := by
  rw [cutsFrom_hit (x := 1) (by decide) (by decide) (by decide), cutsFrom_hit (x := 1) (by decide) (by decide) (by decide), cutsFrom_miss (by decide)]; rfl
 unfold linesOf; rw [c0]; rfl
theorem aw_fields : fieldsOf ⟨#[97, 44, 98]⟩ ⟨#[44]⟩ = [⟨#[97]⟩, ⟨#[98]⟩] := by
 have c0 : cutsFrom ⟨#[97, 44, 98]⟩ ⟨#[44]⟩ 0 = [(0, 1), (2, 3)] := by
  rw [cutsFrom_hit (x := 1) (by decide) (by decide) (by decide), cutsFrom_miss (by decide)]; rfl
 unfold fieldsOf; rw [if_neg (by decide), if_neg (by decide), if_neg (by decide), c0]; rfl
theorem aw_runs : fieldsOf ⟨#[49, 48, 32, 120]⟩ ⟨#[32]⟩ = [⟨#[49, 48]⟩, ⟨#[120]⟩] := by
 have e0 : runEnd ⟨#[49, 48, 32, 120]⟩ 0 = 2 := by
  rw [runEnd_go (by decide) (by decide), runEnd_go (by decide) (by decide), runEnd_stop (by decide)]
 have e3 : runEnd ⟨#[49, 48, 32, 120]⟩ 3 = 4 := by
  rw [runEnd_go (by decide) (by decide), runEnd_stop (by decide)]
 have c0 : runs ⟨#[49, 48, 32, 120]⟩ = [(0, 2), (3, 4)] := by
  unfold runs; rw [runsFrom_run (by decide) (by decide), e0, runsFrom_blank (by decide) (by decide), runsFrom_run (by decide) (by decide), e3, runsFrom_end (by decide)]
 unfold fieldsOf; rw [if_neg (by decide), if_pos rfl, c0]; rfl
theorem aw_in : InC [⟨#[49, 48]⟩, ⟨#[120]⟩] [V10, Vx] := by
 refine ⟨rfl, fun i hi u hu => ?_⟩; rcases i with _ | _ | i
 · exact PXI.value_Input.calls 200 _ _ _ _ u in10 (HG := ⟨hu⟩)
 · exact PXI.value_Input.calls 200 _ _ _ _ u inX (HG := ⟨hu⟩)
 exact absurd hi (by show ¬ i + 1 + 1 < 2; omega)
theorem aw_str (cf : ByteArray) : StrC ((sized [V10, Vx] 4).set 3 Vy) [⟨#[49, 48]⟩, ⟨#[120]⟩, ⟨#[]⟩, ⟨#[121]⟩] cf := by
 refine ⟨rfl, fun i hi u hu => ?_⟩; rcases i with _ | _ | _ | _ | i
 · exact ToStr_3 _ _ cf u
 · exact ToStr_2 _ _ cf u
 · exact ToStr_0 0 _ _ cf u rfl rfl rfl
 · exact ToStr_2 _ _ cf u
 exact absurd hi (by show ¬ i + 1 + 1 + 1 + 1 < 4; omega)
theorem aw_join : joinB [⟨#[49, 48]⟩, ⟨#[120]⟩, ⟨#[]⟩, ⟨#[121]⟩] ⟨#[45]⟩ = ⟨#[49, 48, 45, 120, 45, 45, 121]⟩ := by decide +kernel
set_option maxRecDepth 100000 in
set_option maxHeartbeats 4000000 in
theorem awake_walk (w : World) (HG : GM w) : Calls Tryz.prog 30 #[] w fun e w' => e = .returned (.bool true) ∧ Below w.heap.size w w' := by
 go_enter Tryz.func30, Tryz.ntmps30; go_wp2_with fail; refine (Lines_walk _ _ (by decide) (by decide) w HG).mono ?_; rintro e w1 ⟨v1, rfl, ho1, hb1⟩; rw [aw_lines] at ho1; obtain ⟨A1, c1, rfl, hr1⟩ := sr_own ho1; have B1 := Lib.hid hb1; have S1 := Lib.hid hr1; clear ho1 hb1 hr1; go_wp2_with fail; refine (Fields_walk _ _ (by decide) w1 (HG.below B1.out)).mono ?_; rintro e w2 ⟨v2, rfl, ho2, hb2⟩; rw [aw_fields] at ho2; obtain ⟨A2, c2, rfl, hr2⟩ := sr_own ho2; have B2 := Lib.hid (B1.out.trans (hb2.mono B1.out.size)); obtain ⟨ad1, hA1, x0⟩ := (S1.out.below hb2) 0 (by decide); obtain ⟨_, hA1', x1⟩ := (S1.out.below hb2) 1 (by decide); subst hA1; cases hA1'
 obtain ⟨ad2, hA2, y1⟩ := hr2 1 (by decide); subst hA2; have x0' : w2.cell? ad1 = some (.string ⟨#[97]⟩) := (congrArg w2.cell? (show ad1 = ad1.add 0 by cases ad1; simp [Addr.add])).trans x0; have x1' : w2.cell? ⟨ad1.block, ad1.off + 1, none⟩ = some (.string ⟨#[98]⟩) := x1; have y1' : w2.cell? ⟨ad2.block, ad2.off + 1, none⟩ = some (.string ⟨#[98]⟩) := y1; clear ho2 hb2 hr2 x0 x1 y1 S1 B1; go_wp2_with fail; refine (New_walk ⟨#[49, 48, 32, 120]⟩ ⟨#[32]⟩ ⟨#[45]⟩ [V10, Vx] (by decide) (by rw [aw_runs]; decide) (by rw [aw_runs]; exact aw_in) w2 (HG.below B2.out)).mono ?_; rintro e w3 ⟨r, v3, rfl, hR3, hb3⟩; have B3 := Lib.hid (B2.out.trans (hb3.mono B2.out.size)); have R3 := Lib.hid hR3; have hbr : w2.heap.size ≤ r := hR3.hb; clear hR3 hb3 x0' x1' y1'; go_wp2_with fail; refine (Set_walk R3.out 4 3 (by decide) (by decide) Vy Vy (by decide) 4 (by decide) (by decide) [⟨#[49, 48]⟩, ⟨#[120]⟩, ⟨#[]⟩, ⟨#[121]⟩] _ (aw_str _) (by decide) (by decide) (HG.gw.below B3.out)).mono ?_; rintro e w4 ⟨rfl, ⟨v4, hR4⟩, hb4⟩; rw [aw_join] at hR4; have B4 := Lib.hid (B3.out.trans (hb4.mono B2.out.size)); have R4 := Lib.hid hR4; clear hR4 hb4 R3; go_wp2_with fail; refine (Text_walk R4.out).mono ?_; rintro e w5 ⟨rfl, rfl⟩; go_wp2_with fail; refine (Count_walk R4.out).mono ?_; rintro e w6 ⟨rfl, rfl⟩; have hlen : ((((sized [V10, Vx] 4).set 3 Vy).length : Nat) : Int) = 4 := by decide
 rw [hlen]; go_wp2_with fail; go_ret; exact ⟨rfl, B4.out⟩
end Go.Proofs.YtmbacdkpgfbclaaGreatDoor
namespace Go.Proofs.YtmbacdkpgfbclaaGreatDoor
open Go.RowKit Go.Proofs.YtmbacdkpgfbclaaGreatDoorW.PrintWords Go.Proofs.YtmbacdkpgfbclaaGreatDoorW.PrintLast Heap
set_option linter.unusedVariables false
set_option linter.unusedSimpArgs false
theorem Load_many (t fs ofs : ByteArray) (A : Option Addr) (n c : Nat) (hn : 32768 < n) (w : World) :
  Calls Tryz.prog 31 #[.string t, .slice A n c, .string fs, .string ofs] w fun e w' => e = .returned (.pointer none) ∧ w' = w := by
 have hd : decide ((n : Int) > 32768) = true := decide_eq_true (by omega); have hd2 : decide ((32768 : Int) < (n : Int)) = true := decide_eq_true (by omega); have hd3 : decide (32768 < n) = true := decide_eq_true (by omega); go_enter Tryz.func31, Tryz.ntmps31; go_wp2_with fail; go_ret; exact ⟨rfl, rfl⟩
def plV (v : Val) : Val := plainOf v.1 v.2.1 v.2.2
theorem flatV_plain (vs : List Val) (i : Nat) (hi : i < vs.length) (p : Val) (hp : plV (g vs i) = p) : (vs.map plV).take (i + 1) = (vs.map plV).take i ++ [p] := by
 rw [List.take_add_one, List.getElem?_map, g_get' vs i hi]; subst hp; rfl
theorem rec_more {base r : Nat} {t : ByteArray} {v v1 : Value} {L : List Val} {fs ofs : ByteArray} {w w1 : World} (h : RecAt base r t v L fs ofs w) (p : Val) (hO : w1.ownsRow base 26 3 v1 (L.length + 1) (flatV L ++ [.int .i64 p.1, .int .u64 p.2.1, .string p.2.2])) (hg : w.grownBy w1 v.ownBlock) :
  RecAt base r t v1 (L ++ [p]) fs ofs (w1.setCell ⟨r, 1, none⟩ v1) := by
 have hne : some r ≠ v.ownBlock := own_ne h.row h.blk (by decide); have hblk := blk_grown h.blk hg hne; have hne1 : some r ≠ v1.ownBlock := own_ne hO hblk (by decide); refine ⟨blk_put hblk 1 _ rfl, ?_, h.hb⟩; rw [flatV_append, List.length_append]; exact own_setCell hO (p := ⟨r, 1, none⟩) hne1 _
/-- k of n operations are still open. -/
def trn (n k : Nat) : Array Bool := (List.replicate (n - k) true ++ List.replicate k false).toArray
theorem tkn (n b : Nat) {P : Program} {md : Region.Mode} {ops : Array Oper} {Q : Exit → Act → World → Prop} {S : World → Prop} {ds : List Nat} {fuel : Nat} {oi : Oper} {v : Value} {a : Act} {w : World} (hi : ops[n - 1 - fuel]? = some oi) (hN : oi.dst = some (b - fuel)) (hc : takeB md ops ds (trn n (fuel + 1)) (trn n fuel) (n - 1 - fuel) = true)
  (hQ : ∀ c a w, Q (.panic c) (a.put oi.dst v) w → Q (.panic c) a w) (hy : YieldsIf P ops S oi v a) (hS : S w) {a' : Act} (ha : a.put (some (b - fuel)) v = a') (h : wpAnyLast P md ops Q S ds fuel (trn n fuel) a' w) : wpAnyLast P md ops Q S ds (fuel + 1) (trn n (fuel + 1)) a w :=
 take_ (trn n fuel) hi hN hc hQ hy hS ha h
/-- What the round's loads read. -/
def SL (r q : Nat) (v : Value) (xa xb : Int) (xc : ByteArray) (u : World) : Prop := u.cell? ⟨r, 1, none⟩ = some v ∧ u.cell? ⟨q, 0, none⟩ = some (.int .i64 xa) ∧ u.cell? ⟨q, 1, none⟩ = some (.int .u64 xb) ∧ u.cell? ⟨q, 2, none⟩ = some (.string xc)
theorem sL {r q : Nat} {t : ByteArray} {v : Value} {fs ofs : ByteArray} {xa xb : Int} {xc : ByteArray} {u : World} (h : u.heap[r]? = some (.cells #[.string t, v, .string fs, .string ofs] 108 (0, 0))) (hx : u.heap[q]? = some (.cells #[.int .i64 xa, .int .u64 xb, .string xc] 26 (0, 0))) : SL r q v xa xb xc u :=
 ⟨(blk_cell h 1).trans rfl, (blk_cell hx 0).trans rfl, (blk_cell hx 1).trans rfl, (blk_cell hx 2).trans rfl⟩
set_option maxRecDepth 100000 in
set_option maxHeartbeats 4000000 in
theorem Load_walk (t fs ofs : ByteArray) (A : Option Addr) (vs : List Val) (c : Nat) (hn : vs.length ≤ 32768) (w : World) (hv : VR w A vs) :
  Calls Tryz.prog 31 #[.string t, .slice A vs.length c, .string fs, .string ofs] w fun e w' => ∃ r v, e = .returned (.pointer (some ⟨r, 0, none⟩)) ∧ RecAt w.heap.size r t v (vs.map plV) fs ofs w' ∧ Below w.heap.size w w' := by
 have hd : decide ((vs.length : Int) > 32768) = false := decide_eq_false (by omega); have hd2 : decide ((32768 : Int) < (vs.length : Int)) = false := decide_eq_false (by omega); have hd3 : decide (32768 < vs.length) = false := decide_eq_false (by omega); have HV := Lib.hid hv; obtain ⟨r, hr⟩ : ∃ r, r = w.heap.size := ⟨_, rfl⟩; clear hv; go_enter Tryz.func31, Tryz.ntmps31; go_wp2_with fail; rw [← hr]; have HR := Lib.hid hr; clear hr; go_loopg [11, 22] vs.length (fun d s11 s22 wx => ∃ (i : Nat) (v : Value), s22 = .int .i64 (i : Int) ∧ Aside0 (RecAt w.heap.size r t v ((vs.map plV).take i) fs ofs wx) ∧ Aside0 (Below w.heap.size w wx) ∧ Aside0 (d = vs.length - i) ∧ i ≤ vs.length)
 case atStart => exact ⟨0, _, rfl, ⟨by rw [HR.out]; exact ⟨blk_new _ _, World.ownsRow_nil _ _ _ _, Nat.le_refl _⟩⟩, ⟨below_alloc (Below.refl _ _) _⟩, ⟨rfl⟩, Nat.zero_le _⟩
 case round =>
  obtain ⟨i, v, rfl, R1, R2, R3, hi⟩ := hrel; by_cases hlt : i < vs.length
  ·
   have hdl : decide ((i : Int) < (vs.length : Int)) = true := decide_eq_true (by omega); obtain ⟨ad, hA, x0, x1, x2⟩ := (HV.out.below R2.out) i hlt; subst hA; obtain ⟨X, hX⟩ : ∃ X, g vs i = X := ⟨_, rfl⟩; obtain ⟨Z, hZ⟩ : ∃ Z, plV X = Z := ⟨_, rfl⟩; have hsn := flatV_plain vs i hlt Z (by rw [hX, hZ]); rw [hX] at x0 x1 x2; obtain ⟨xa, xb, xc⟩ := X; obtain ⟨pa, pb, pc⟩ := Z; have hZ' : plainOf xa xb xc = (pa, pb, pc) := hZ; have hlen : ((vs.map plV).take i).length = i := by rw [List.length_take, List.length_map]; omega
   obtain ⟨LL, hLL⟩ : ∃ LL, LL = (vs.map plV).take i := ⟨_, rfl⟩; rw [← hLL] at hsn R1 hlen; obtain ⟨W6, hW6⟩ : ∃ W6, W6 = wr.alloc (.cells #[.int .i64 xa, .int .u64 xb, .string xc] 26) := ⟨_, rfl⟩; have hb6 : Below wr.heap.size wr W6 := by rw [hW6]; exact below_alloc (Below.refl _ _) _
   have hbx : W6.heap[wr.heap.size]? = some (.cells #[.int .i64 xa, .int .u64 xb, .string xc] 26 (0, 0)) := by rw [hW6]; exact blk_new _ _
   have R6 := Lib.hid (R1.out.below hb6); have B6 := Lib.hid (R2.out.trans (hb6.mono R2.out.size)); obtain ⟨q, hq⟩ : ∃ q, q = wr.heap.size := ⟨_, rfl⟩; have hqne : some q ≠ v.ownBlock := fun e => by
    have := R1.out.row.lt q e.symm; omega
   have HPl := Lib.hid (fun u => Plain_any xa xb xc u); rw [hZ'] at HPl; have HSn := Lib.hid hsn; have HLen := Lib.hid hlen; have HW6 := Lib.hid hW6; have HLL := Lib.hid hLL; rw [← hq] at hbx; have HBX := Lib.hid hbx; have HQN := Lib.hid hqne; have HQ := Lib.hid hq; clear hX hZ hZ' hsn hlen hb6 hW6 hLL hbx R1 hqne hq; go_upto_region 7 with fail
   rw [← HW6.out]; rw [← HQ.out]; have hR7 := R6.out.below (below_drew (Below.refl W6.heap.size W6)); have hB7 : Below w.heap.size w W6.drew := below_drew B6.out; have hX7 := blk_below HBX.out (below_drew (Below.refl W6.heap.size W6)); refine start_ (n := 12) (S := SL r q v xa xb xc) (ds := [11]) (trn 12 12) (by kernel_rfl) rfl rfl (sL hR7.blk hX7) (fun hHeld => ?_); generalize W6.drew = w7 at hHeld hR7 hB7 hX7 ⊢; have R7 := Lib.hid hR7; have B7 := Lib.hid hB7; have X7 := Lib.hid hX7; clear hR7 hB7 hX7 R6 B6 HBX HW6; iterate 6
    (refine tkn 12 37 (v := ?_) (a' := ?_) rfl rfl (by kernel_rfl) (fun _ _ _ h => h) (Or.inl ⟨by rfl, ?_⟩) hHeld ?_ ?_; rotate_left; (rintro w' ⟨s0, s1, s2, s3⟩; go_simp; with_reducible rfl); rotate_left; (simp only [Act.put, Nat.reduceSub, List.setIfInBounds_toArray, List.set_cons_zero, List.set_cons_succ, i64_w, i32_w]; rfl))
   refine one_ (i := 6) (N := some 32) (trn 12 5) rfl rfl (by kernel_rfl) (by decide) (fun K hK => ?_); refine goes_ Tryz.func47 (by kernel_rfl) rfl #[.agg #[.int .i64 xa, .int .u64 xb, .string xc]] (by rfl) rfl rfl (by (try simp only [List.map_toArray, List.map_cons, List.map_nil]); first | done | rfl) ?_; refine (HPl.out w7).mono ?_; rintro e w8 ⟨rfl, hb8⟩; refine ⟨_, rfl, ?_⟩; have R8 := Lib.hid (R7.out.below hb8); have X8 := Lib.hid (blk_below X7.out hb8); have B8 := Lib.hid (B7.out.trans (hb8.mono B7.out.size)); refine hK.out _ _ (sL R8.out.blk X8.out) (fun hHeld => ?_); clear hK K hb8 R7 X7 B7; refine norm_ (a' := ?_) ?_ ?_; rotate_left
   · show Act.put _ (some 32) _ = _; simp only [Act.put, Nat.reduceSub, List.setIfInBounds_toArray, List.set_cons_zero, List.set_cons_succ, i64_w, i32_w]; rfl
   refine one_ (i := 7) (N := some 33) (trn 12 4) rfl rfl (by kernel_rfl) (by decide) (fun K hK => ?_); go_simp
   refine hK.out _ _ (sL (blk_below R8.out.blk (below_alloc (Below.refl _ _) _)) (blk_below X8.out (below_alloc (Below.refl _ _) _))) (fun hHeld => ?_); clear hK K; refine one_ (i := 8) (N := some 34) (trn 12 3) rfl rfl (by kernel_rfl) (by decide) (fun K hK => ?_); have hrow8 := R8.out.row; rw [HLen.out] at hrow8; refine step_append_wide (W := w8) (w0 := w8) w.heap.size rfl (.tmp 30) (.tmp 33) 22 26 (vAgg 0 0 ⟨#[]⟩) 3 32 rfl Tryz.underlying22 infoV rfl (by decide) (by decide) v i (flatV LL) [.int .i64 pa, .int .u64 pb, .string pc] rfl rfl rfl ?h1 hrow8 (Below.refl _ _) B8.out.size ?hl ?_
   case h1 => intro u hu; simp at hu; rcases hu with rfl | rfl | rfl <;> rfl
   case hl => omega
   intro v1 w9 ho9 hb9 hg9 hat9; obtain ⟨g9, c9, rfl⟩ := own_form ho9 (by omega); have hne9 : some r ≠ v.ownBlock := own_ne R8.out.row R8.out.blk (by decide); have hblk9 := blk_grown R8.out.blk hg9 hne9; have hx9 := blk_grown X8.out hg9 HQN.out; refine hK.out _ _ (sL hblk9 hx9) (fun hHeld => ?_); have R9 := Lib.hid (rec_more R8.out (pa, pb, pc) (by rw [HLen.out]; exact ho9) hg9); have hbase9 : w.heap.size ≤ r := R8.out.hb; have B9 := Lib.hid (B8.out.trans hb9); have k1 : w9.cell? ⟨r, 1, none⟩ = some v := (blk_cell hblk9 1).trans rfl; have kf : w9.frozen? ⟨r, 1, none⟩ = false := blk_frozen hblk9 1; have krl : r < w9.heap.size := blk_lt hblk9; have HB9 := Lib.hid hbase9; clear hK K ho9 hb9 hg9 hat9 hne9 hblk9 hx9 hrow8 hbase9 R8 X8 B8; refine norm_ (a' := ?_) ?_ ?_; rotate_left
   · show Act.put _ (some 34) _ = _; simp only [Act.put, Nat.reduceSub, List.setIfInBounds_toArray, List.set_cons_zero, List.set_cons_succ, i64_w, i32_w]; rfl
   iterate 2
    (refine tkn 12 37 (v := ?_) (a' := ?_) rfl rfl (by kernel_rfl) (fun _ _ _ h => h) (Or.inl ⟨by rfl, ?_⟩) hHeld ?_ ?_; rotate_left; (rintro w' ⟨s0, s1, s2, s3⟩; go_simp; with_reducible rfl); rotate_left; (simp only [Act.put, Nat.reduceSub, List.setIfInBounds_toArray, List.set_cons_zero, List.set_cons_succ, i64_w, i32_w]; rfl))
   refine last_ (i := 11) (N := none) (trn 12 0) rfl rfl (by kernel_rfl) (by decide) (fun K hK => ?_); go_simp
   refine hK.out _ _ ?_; clear hK K; refine done_ (by kernel_rfl) ?_; go_wp2_with fail; go_roundg (vs.length - (i + 1))
   case measure => rw [R3.out]; omega
   case rel => exact ⟨i + 1, _, (by go_num), ⟨by rw [HSn.out]; exact R9.out⟩, ⟨B9.out.setCell (p := ⟨r, 1, none⟩) HB9.out _⟩, ⟨rfl⟩, by omega⟩
  obtain rfl : i = vs.length := by omega
  have hdl : decide ((vs.length : Int) < (vs.length : Int)) = false := decide_eq_false (by omega); go_wp2_with fail; go_ret; refine ⟨r, v, rfl, ?_, R2.out⟩; have h := R1.out; rw [List.take_of_length_le (by rw [List.length_map]; exact Nat.le_refl _)] at h; exact h
end Go.Proofs.YtmbacdkpgfbclaaGreatDoor
namespace Go.Proofs.YtmbacdkpgfbclaaGreatDoor
open Go.RowKit Go.Proofs.YtmbacdkpgfbclaaGreatDoorW.PrintWords Go.Proofs.YtmbacdkpgfbclaaGreatDoorW.PrintLast Heap
set_option linter.unusedVariables false
set_option linter.unusedSimpArgs false
theorem make_vals (n : Nat) (hn : n ≤ 1099511627776) : ∃ cs : Array Value, cs.toList = flatV (List.replicate n zV) ∧ cs.size = n * 3 ∧ ∀ u : World, (Instr.makeSlice 22 (.int .i64 (n : Int)) (.int .i64 (n : Int))).run Tryz.prog u = .ok (.slice (some ⟨u.heap.size, 0, none⟩) n n) (u.alloc (.cells cs 26)) := by
 obtain ⟨i0, hi, hzz⟩ := Option.map_eq_some_iff.1 infoV; simp only [Prod.mk.injEq] at hzz; obtain ⟨hz, hsz, hby⟩ := hzz; refine ⟨_, madeV n, size_madeCells _ _, fun u => ?_⟩; have h := run_make (P := Tryz.prog) u 22 26 i0 _ Tryz.underlying22 hi hz .i64 .i64 (n : Int) (n : Int) (by omega) (by omega) (by rw [hby]; omega) (by omega); rw [hsz] at h; simpa using h
theorem made_vr (n : Nat) (hn : n ≤ 1099511627776) (cs : Array Value) (h1 : cs.toList = flatV (List.replicate n zV)) (h2 : cs.size = n * 3) (u : World) : VR (u.alloc (.cells cs 26)) (some ⟨u.heap.size, 0, none⟩) (List.replicate n zV) := by
 have hO : (u.alloc (.cells cs 26)).ownsRow u.heap.size 26 3 (.slice (some ⟨u.heap.size, 0, none⟩) n n) n (flatV (List.replicate n zV)) :=
  ⟨by rw [flatV_len, List.length_replicate], .inr ⟨u.heap.size, n, cs, rfl, Nat.le_refl _, blk_new _ _, Nat.le_refl _, by unfold maxLen; omega, h2, by rw [← h1]; exact List.take_of_length_le (by rw [Array.length_toList, h2]; exact Nat.le_refl _)⟩⟩
 exact vr_own hO
set_option maxRecDepth 100000 in
set_option maxHeartbeats 4000000 in
theorem RecordNothing_walk (i k x : Int) (t s : ByteArray) (w : World) (HG : GM w) :
  Calls Tryz.prog 5 #[.int .i64 i, vAgg k x t, .string s] w fun e w' => e = .returned (.bool true) ∧ Below w.heap.size w w' := by
 obtain ⟨cs1, ha1, ha2, hm1⟩ := make_vals 32769 (by decide); obtain ⟨cs2, hb1, hb2, hm2⟩ := make_vals 32768 (by decide); have HM1 := Lib.hid hm1; have HM2 := Lib.hid hm2; have HB1 := Lib.hid hb1; have HB2 := Lib.hid hb2; clear ha1 ha2 hb1 hb2 hm1 hm2; obtain ⟨W1, hW1⟩ : ∃ W1, W1 = w.alloc (.cells #[.int .i64 k, .int .u64 x, .string t] 26) := ⟨_, rfl⟩; have hbw : Below w.heap.size w W1 := by rw [hW1]; exact below_alloc (Below.refl _ _) _
 have hbx : W1.heap[w.heap.size]? = some (.cells #[.int .i64 k, .int .u64 x, .string t] 26 (0, 0)) := by rw [hW1]; exact blk_new _ _
 have HW1 := Lib.hid hW1; have B1 := Lib.hid hbw; have X1 := Lib.hid hbx; clear hW1 hbw hbx; go_enter Tryz.func5, Tryz.ntmps5; go_wp2_with fail; rw [← HW1.out]; refine (awake_walk W1 (HG.below B1.out)).mono ?_; rintro e w2 ⟨rfl, hb2⟩; have B2 := Lib.hid (B1.out.trans (hb2.mono B1.out.size)); have X2 := Lib.hid (blk_below X1.out hb2); clear hb2 B1 X1 HW1; have hm1 : ∀ u : World, (Instr.makeSlice 22 (.int .i64 32769) (.int .i64 32769)).run Tryz.prog u = .ok (.slice (some ⟨u.heap.size, 0, none⟩) 32769 32769) (u.alloc (.cells cs1 26)) := HM1.out; go_wp2_with fail; refine (Load_many _ _ _ _ _ _ (by decide) _).mono ?_; rintro e w3 ⟨rfl, rfl⟩; clear hm1; have hb3 : Below w2.heap.size w2 (w2.alloc (.cells cs1 26)) := below_alloc (Below.refl _ _) _; have B3 := Lib.hid (B2.out.trans (hb3.mono B2.out.size)); have X3 := Lib.hid (blk_below X2.out hb3); generalize w2.alloc (.cells cs1 26) = w3 at hb3 B3 X3 ⊢; clear hb3 B2 X2; have hm2 : ∀ u : World, (Instr.makeSlice 22 (.int .i64 32768) (.int .i64 32768)).run Tryz.prog u = .ok (.slice (some ⟨u.heap.size, 0, none⟩) 32768 32768) (u.alloc (.cells cs2 26)) := HM2.out; go_wp2_with fail; have hb4 : Below w3.heap.size w3 (w3.alloc (.cells cs2 26)) := below_alloc (Below.refl _ _) _; have hvr := made_vr 32768 (by decide) cs2 HB1.out HB2.out w3; have hl := Load_walk ⟨#[]⟩ ⟨#[32]⟩ ⟨#[44]⟩ (some ⟨w3.heap.size, 0, none⟩) (List.replicate 32768 zV) 32768 (by rw [List.length_replicate]; exact Nat.le_refl _) _ hvr; rw [List.length_replicate] at hl; refine hl.mono ?_; rintro e w4 ⟨r, v4, rfl, hR4, hb5⟩; have B4 := Lib.hid (B3.out.trans ((hb4.trans (hb5.mono hb4.size)).mono B3.out.size)); have X4 := Lib.hid (blk_below (blk_below X3.out hb4) hb5); have R4 := Lib.hid hR4; clear hm2 hb4 hvr hl hR4 hb5 B3 X3; go_wp2_with fail; refine (Count_walk R4.out).mono ?_; rintro e w5 ⟨rfl, rfl⟩; have hlen : ((((List.replicate 32768 zV).map plV).length : Nat) : Int) = 32768 := by rw [List.length_map, List.length_replicate]; rfl
 rw [hlen]; clear hlen R4; go_wp2_with fail; refine (Seps_nil _ _ _).mono ?_; rintro e w6 ⟨rfl, rfl⟩; go_wp2_with fail; refine (Field_nil _ _).mono ?_; rintro e w7 ⟨rfl, hb7⟩; have B7 := Lib.hid (B4.out.trans (hb7.mono B4.out.size)); have X7 := Lib.hid (blk_below X4.out hb7); clear hb7 B4 X4; have b0 : w7.cell? ⟨w.heap.size, 0, none⟩ = some (.int .i64 k) := (blk_cell X7.out 0).trans rfl; have b1 : w7.cell? ⟨w.heap.size, 1, none⟩ = some (.int .u64 x) := (blk_cell X7.out 1).trans rfl; have b2 : w7.cell? ⟨w.heap.size, 2, none⟩ = some (.string t) := (blk_cell X7.out 2).trans rfl; have hlt : w.heap.size < w7.heap.size := blk_lt X7.out; go_wp2_with fail; have hb8 : Below w7.heap.size w7 (w7.alloc (.cells #[.int .i64 0, .int .u64 0, .string ⟨#[]⟩] 26)) := below_alloc (Below.refl _ _) _; have hz8 : (w7.alloc (.cells #[.int .i64 0, .int .u64 0, .string ⟨#[]⟩] 26)).heap[w7.heap.size]? = some (.cells #[.int .i64 0, .int .u64 0, .string ⟨#[]⟩] 26 (0, 0)) := blk_new _ _; obtain ⟨q, hq⟩ : ∃ q, q = w7.heap.size := ⟨_, rfl⟩; have B8 := Lib.hid (B7.out.trans (hb8.mono B7.out.size)); rw [← hq] at hz8 ⊢; have Z8 := Lib.hid hz8; generalize w7.alloc (.cells #[.int .i64 0, .int .u64 0, .string ⟨#[]⟩] 26) = w8 at hb8 hz8 B8 Z8 ⊢; clear hb8 hz8 hq B7 X7 b0 b1 b2 hlt; refine (Set_nil i k x t s w8).mono ?_; rintro e w9 ⟨rfl, hb9⟩; have B9 := Lib.hid (B8.out.trans (hb9.mono B8.out.size)); have Z9 := Lib.hid (blk_below Z8.out hb9); clear hb9 B8 Z8; go_wp2_with fail; refine (SetCount_nil i s w9).mono ?_; rintro e w10 ⟨rfl, rfl⟩; have z0 : w10.cell? ⟨q, 0, none⟩ = some (.int .i64 0) := (blk_cell Z9.out 0).trans rfl; have z1 : w10.cell? ⟨q, 1, none⟩ = some (.int .u64 0) := (blk_cell Z9.out 1).trans rfl; have z2 : w10.cell? ⟨q, 2, none⟩ = some (.string ⟨#[]⟩) := (blk_cell Z9.out 2).trans rfl; go_wp2_with fail; refine (Text_nil w10).mono ?_; rintro e w11 ⟨rfl, rfl⟩; go_wp2_with fail; refine (Count_nil w11).mono ?_; rintro e w12 ⟨rfl, rfl⟩; go_wp2_with fail; refine (All_nil w12).mono ?_; rintro e w13 ⟨rfl, rfl⟩; go_wp2_with fail; go_ret; exact ⟨rfl, B9.out⟩
end Go.Proofs.YtmbacdkpgfbclaaGreatDoor
