/- record: inputs, New, Text, Count walked; conditions: what value.Input answers of the fields is given. -/
import Derived.Test.YtmbacdkpgfbclaaGreatDoorLeast
import Derived.Laws.CopyOwn
import Derived.Laws.MakeOwn
import Derived.Laws.OwnMore
import Derived.Deep.Upon
import Derived.Test.YtmbacdkpgfbclaaGreatDoorRLines
import Derived.Laws.ResultCell
namespace Go.Proofs.YtmbacdkpgfbclaaGreatDoor
open Go.RowKit Go.Proofs.YtmbacdkpgfbclaaGreatDoorW.PrintWords Go.Proofs.YtmbacdkpgfbclaaGreatDoorW.PrintLast Heap
set_option linter.unusedVariables false
set_option linter.unusedSimpArgs false
theorem infoV : (Tryz.prog.info? 26).map (fun i => (i.zero, i.size, i.bytes)) = some (some (vAgg 0 0 ⟨#[]⟩), 3, 32) := by kernel_rfl
theorem lit_empty (w : World) (e size : Nat) {B : Nat} (hB : B ≤ w.heap.size) : (w.alloc (.cells #[] e)).ownsRow B e size (.slice (some ⟨w.heap.size, 0, none⟩) 0 0) 0 [] := by
 have h := World.ownsRow_lit (base := B) (e := e) (size := size) w #[] 0 hB (Nat.zero_le _) (by simp); simpa using h
theorem flatV_len : ∀ vs : List Val, (flatV vs).length = vs.length * 3
 | [] => rfl
 | v :: vs => by
  show (encV v ++ flatV vs).length = _
  have h2 : (encV v).length = 3 := rfl
  rw [List.length_append, flatV_len vs, h2, List.length_cons]
  omega
theorem vr_news {w : World} {ad : Addr} {vs : List Val} (h : VR w (some ad) vs) : ∀ j u, (flatV vs)[j]? = some u → w.cell? (ad.add j) = some u := by
 intro j u hj; have hlt : j < (flatV vs).length := (List.getElem?_eq_some_iff.1 hj).1; rw [flatV_len] at hlt; have hi : j / 3 < vs.length := by omega
 obtain ⟨ad', hA, c0, c1, c2⟩ := h (j / 3) hi; obtain rfl := Option.some.inj hA; have hg := flatV_get vs (j / 3) (j % 3) (g vs (j / 3)) (g_get' vs (j / 3) hi) (by omega); rw [show 3 * (j / 3) + j % 3 = j by omega, hj] at hg; have hr : j % 3 = 0 ∨ j % 3 = 1 ∨ j % 3 = 2 := by omega
 rcases hr with e | e | e
 · rw [e] at hg; obtain rfl : u = .int .i64 (g vs (j / 3)).1 := Option.some.inj hg; rw [show j = j / 3 * 3 by omega]; rw [show j / 3 * 3 / 3 = j / 3 by omega]; exact c0
 ·
  rw [e] at hg; obtain rfl : u = .int .u64 (g vs (j / 3)).2.1 := Option.some.inj hg; have hj2 : ad.add j = ⟨(ad.add (j / 3 * 3)).block, (ad.add (j / 3 * 3)).off + 1, none⟩ := by rw [← add_field _ _ 1 (by omega)]; congr 1; omega
  rw [hj2]; exact c1
 rw [e] at hg; obtain rfl : u = .string (g vs (j / 3)).2.2 := Option.some.inj hg; have hj2 : ad.add j = ⟨(ad.add (j / 3 * 3)).block, (ad.add (j / 3 * 3)).off + 2, none⟩ := by rw [← add_field _ _ 2 (by omega)]; congr 1; omega
 rw [hj2]; exact c2
theorem flatV_one (vs : List Val) : ∀ u ∈ flatV vs, u.oneCell' = true := by
 intro u hu; obtain ⟨v, _, hv⟩ := List.mem_flatMap.1 hu; have hv2 : u ∈ [Value.int .i64 v.1, .int .u64 v.2.1, .string v.2.2] := hv; simp only [List.mem_cons, List.not_mem_nil, or_false] at hv2; rcases hv2 with rfl | rfl | rfl <;> rfl
/-- A row of one's own is read. -/
theorem vr_own {w : World} {B g1 n c : Nat} {vs : List Val} (h : w.ownsRow B 26 3 (.slice (some ⟨g1, 0, none⟩) n c) n (flatV vs)) : VR w (some ⟨g1, 0, none⟩) vs := by
 intro i hi; obtain ⟨c0, c1, c2⟩ := valRow h i hi _ rfl; have e : (⟨g1, 0, none⟩ : Addr).add (i * 3) = ⟨g1, i * 3, none⟩ := by rw [add_plain]
 refine ⟨_, rfl, ?_, ?_, ?_⟩ <;> rw [e]
 · exact c0
 · exact c1
 exact c2
section
variable {P : Program} {ops : Array Oper} {rest : List Oper} {o : Oper} {a : Act} {Q : Exit → Act → World → Prop}
end
theorem vr_own' {w : World} {B : Nat} {v : Value} {vs : List Val} (h : w.ownsRow B 26 3 v vs.length (flatV vs)) : ∃ A c, v = .slice A vs.length c ∧ VR w A vs := by
 by_cases h0 : vs.length = 0
 · obtain ⟨A, c, hv⟩ := own_slice h; exact ⟨A, c, hv, fun i hi => absurd hi (by omega)⟩
 obtain ⟨g1, c, rfl⟩ := own_form h (by omega); exact ⟨_, c, rfl, vr_own h⟩
theorem run_copy_rows {P : Program} (w : World) (dT sT ty elem : TypeId) (g o dLen dCap : Nat) (a : Addr) (sLen sCap size m : Nat) (cur : Array Value) (t : TypeId) (cs : List Value)
  (hu : P.underlying dT = some (.slice elem)) (hs : (P.info? elem).map (·.size) = some size)
  (hg : w.heap[g]? = some (.cells cur t (0, 0))) (hm : Nat.min sLen dLen = m) (hn : cs.length = m * size)
  (hsrc : ∀ j v, cs[j]? = some v → w.cell? (a.add j) = some v) (hfit : o + cs.length ≤ cur.size) (h1 : ∀ v ∈ cs, v.oneCell' = true) :
  (Builtin.copy_ #[dT, sT] ty #[.slice (some ⟨g, o, none⟩) dLen dCap, .slice (some a) sLen sCap]).run P w =
   .ok (goInt m) (w.setRow g (cur.toList.take o ++ cs ++ cur.toList.drop (o + cs.length)).toArray) := by
 have hl := run_loadCells_list (P := P) w a cs hsrc; have hst := run_storeCells_at P g o t cs 0 cur w hg (by simpa using hfit) h1; rw [hn] at hl; cases hq : P.info? elem with
 | none => simp [hq] at hs
 | some i =>
  have hi : i.size = size := by simpa [hq] using hs
  simp [Builtin.copy_, run_underlying hu, Builtin.lenOf, Builtin.firstCells, sizeOf, typeInfo, hq, hi, hm, hl, hst]
theorem run_copy_nothing {P : Program} (w : World) (dT sT ty elem size : TypeId) (d a : Option Addr) (dLen dCap sLen sCap : Nat) (hu : P.underlying dT = some (.slice elem)) (hs : (P.info? elem).map (·.size) = some size) (hn : Nat.min sLen dLen = 0) :
  (Builtin.copy_ #[dT, sT] ty #[.slice d dLen dCap, .slice a sLen sCap]).run P w = .ok (goInt 0) w := by
 cases hq : P.info? elem with
 | none => simp [hq] at hs
 | some i =>
  have hl : ∀ (x : Addr), (loadCells x 0).run P w = .ok #[] w := fun x => by simpa using run_loadCells_list (P := P) w x [] (by simp)
  cases d <;> cases a <;> simp [Builtin.copy_, run_underlying hu, Builtin.lenOf, Builtin.firstCells, sizeOf, typeInfo, hq, hn, storeCells, hl]

/-- A row of texts lies there. -/
def SR (w : World) (A : Option Addr) (F : List ByteArray) : Prop := ∀ i, i < F.length → ∃ ad : Addr, A = some ad ∧ w.cell? (ad.add i) = some (.string (g F i))
theorem SR.below {w w' : World} {A : Option Addr} {F : List ByteArray} (h : SR w A F) (hb : Below w.heap.size w w') : SR w' A F := fun i hi => by
 obtain ⟨ad, h1, h2⟩ := h i hi
 exact ⟨ad, h1, pw_cell_below hb h2⟩
theorem sr_own {w : World} {B : Nat} {v : Value} {F : List ByteArray} (h : w.ownsRow B 9 1 v F.length (F.map Value.string)) : ∃ A c, v = .slice A F.length c ∧ SR w A F := by
 by_cases h0 : F.length = 0
 · obtain ⟨A, c, hv⟩ := own_slice h; exact ⟨A, c, hv, fun i hi => absurd hi (by omega)⟩
 obtain ⟨g1, c, rfl⟩ := own_form h (by omega); refine ⟨_, c, rfl, fun i hi => ⟨_, rfl, ?_⟩⟩; have hc := h.cells (g := g1) rfl i (.string (g F i)) (by rw [List.getElem?_map, g_get' F i hi]; rfl); exact hc
section
variable {P : Program} {ops : Array Oper} {rest : List Oper} {o : Oper} {a : Act} {Q : Exit → Act → World → Prop}
/-- One element, built in a block of its own, put behind a row of one's own. -/
theorem append_cells {W : World} (base : Nat) (hgd : o.guard = none) (s x : Operand) (t e : TypeId) (z : Value) (size bytes : Nat)
  (ho : o.op = .call { callee := .builtin .append, args := #[s, x], argTypes := #[t, t] })
  (ht : P.underlying t = some (.slice e)) (hinfo : (P.info? e).map (fun i => (i.zero, i.size, i.bytes)) = some (some z, size, bytes)) (hz : z.cells.size = size) (hs0 : 0 < size)
  (v : Value) (n : Nat) (xs ys : List Value) (hs : a.eval s = v) (hx : a.eval x = .slice (some ⟨W.heap.size, 0, none⟩) 1 1) (hys : ys.length = size) (h1 : ∀ u ∈ ys, u.oneCell' = true)
  (hown : W.ownsRow base e size v n xs) (hbase : base ≤ W.heap.size) (hn : n + 1 ≤ maxLen) (hl : (n + 1) * bytes ≤ 140737488355328)
  (h : ∀ v1 w1, w1.ownsRow base e size v1 (n + 1) (xs ++ ys) → Below base W w1 → W.grownBy w1 v.ownBlock → wpList P ops Q rest (a.put o.dst v1) w1) :
  wpList P ops Q (o :: rest) a (W.alloc (.cells ys.toArray e)) := by
 obtain ⟨i0, hi, hzz⟩ := Option.map_eq_some_iff.1 hinfo; simp only [Prod.mk.injEq] at hzz; obtain ⟨hz0, hz1, hz2⟩ := hzz; have hnews : ∀ (j : Nat) (u : Value), ys[j]? = some u → (W.alloc (.cells ys.toArray e)).cell? ((⟨W.heap.size, 0, none⟩ : Addr).add j) = some u := by
  simpa using World.news_of_block (cs := ys.toArray) (t := e) (fr := (0, 0)) (heap_alloc_new W (.cells ys.toArray e))
 refine wpList_append_own_at (W.alloc (.cells ys.toArray e)) hgd s x t ho base e i0 z size bytes ht hi hz0 hz1 hz2 hz hs0 v n xs hs (hown.alloc _) ⟨W.heap.size, 0, none⟩ 1 1 ys hx (by rw [hys]; simp) hnews h1 hn hl (by simp; omega) ?_; intro v1 w1 ho1 hg _ _; exact h v1 w1 ho1 (((Below.refl base W).alloc hbase _).grown hg (by simp; omega) (own_base hown)) (World.grownBy.trans (World.grownBy_alloc W _ _) hg)
end
end Go.Proofs.YtmbacdkpgfbclaaGreatDoor
namespace Go.Proofs.YtmbacdkpgfbclaaGreatDoor
open Go.RowKit Go.Proofs.YtmbacdkpgfbclaaGreatDoorW.PrintWords Go.Proofs.YtmbacdkpgfbclaaGreatDoorW.PrintLast Heap
set_option linter.unusedVariables false
set_option linter.unusedSimpArgs false
/-- The tables, and internal/bytealg.MaxLen holds some int. -/
structure GM (w : World) : Prop where
 gw : GW w
 ml : ∃ m : Int, w.cell? ⟨0, 0, none⟩ = some (.int .i64 m)
theorem GM.below {w w' : World} (h : GM w) (hb : Below w.heap.size w w') : GM w' :=
 ⟨h.gw.below hb, by obtain ⟨m, hm⟩ := h.ml; exact ⟨m, pw_cell_below hb hm⟩⟩
theorem Fields_walk (s fs : ByteArray) (hs : s.size < 4294967281) (w : World) (HG : GM w) :
  Calls Tryz.prog 40 #[.string s, .string fs] w fun e w' => ∃ v, e = .returned v ∧ w'.ownsRow w.heap.size 9 1 v (fieldsOf s fs).length ((fieldsOf s fs).map Value.string) ∧ Below w.heap.size w w' := by
 obtain ⟨m, hm⟩ := HG.ml; exact callsIn_wide.1 (Fields_in s fs m hs w hm)
theorem Lines_walk (s sep : ByteArray) (hs : s.size < 4294967281) (hp : 1 ≤ sep.size) (w : World) (HG : GM w) :
  Calls Tryz.prog 39 #[.string s, .string sep] w fun e w' => ∃ v, e = .returned v ∧ w'.ownsRow w.heap.size 9 1 v (linesOf s sep).length ((linesOf s sep).map Value.string) ∧ Below w.heap.size w w' := by
 obtain ⟨m, hm⟩ := HG.ml; exact callsIn_wide.1 (Lines_in s sep m hs hp w hm)
/-- What value.Input answers of these texts. -/
def InC (F : List ByteArray) (V : List Val) : Prop := V.length = F.length ∧ ∀ i, i < F.length → ∀ u : World, GW u → Calls Tryz.prog 53 #[.string (g F i)] u fun e u' => e = .returned (vAgg (g V i).1 (g V i).2.1 (g V i).2.2) ∧ Below u.heap.size u u'
theorem flatV_snoc (V : List Val) (i : Nat) (hi : i < V.length) : flatV (V.take (i + 1)) = flatV (V.take i) ++ [.int .i64 (g V i).1, .int .u64 (g V i).2.1, .string (g V i).2.2] := by
 rw [List.take_add_one, g_get' V i hi, flatV_append]; rfl
set_option maxRecDepth 100000 in
set_option maxHeartbeats 2000000 in
theorem inputs_walk (A : Option Addr) (c : Nat) (F : List ByteArray) (V : List Val) (w : World) (hr : SR w A F) (hI : InC F V) (hl : F.length ≤ 1099511627776) (HG : GW w) :
  Calls Tryz.prog 77 #[.slice A F.length c] w fun e w' => ∃ v, e = .returned v ∧ w'.ownsRow w.heap.size 26 3 v V.length (flatV V) ∧ Below w.heap.size w w' := by
 have HR := Lib.hid hr; have HI := Lib.hid hI; have hlb : (F.length : Int) ≤ 1099511627776 := by omega
 clear hr hI; go_enter Tryz.func77, Tryz.ntmps77; go_wp2_with fail; go_loopg [3, 5, 8] F.length (fun d s3 s5 s8 wx => ∃ (i : Nat), s8 = .int .i64 (i : Int) ∧ Aside0 (wx.ownsRow w.heap.size 26 3 s3 i (flatV (V.take i))) ∧ Aside0 (Below w.heap.size w wx) ∧ Aside0 (d = F.length - i) ∧ i ≤ F.length)
 case atStart => exact ⟨0, rfl, ⟨World.ownsRow_nil _ _ _ _⟩, ⟨Below.refl _ _⟩, ⟨rfl⟩, Nat.zero_le _⟩
 case round =>
  obtain ⟨i, rfl, R1, R2, R3, hi⟩ := hrel; by_cases hlt : i < F.length
  ·
   have hd : decide ((i : Int) < (F.length : Int)) = true := decide_eq_true (by omega); obtain ⟨ad, hA, x0⟩ := (HR.out.below R2.out) i hlt; subst hA; have hiV : i < V.length := by rw [HI.out.1]; exact hlt
   obtain ⟨X, hX⟩ : ∃ X, g V i = X := ⟨_, rfl⟩; have hIn := HI.out.2 i hlt wr (HG.below R2.out); obtain ⟨T, hT⟩ : ∃ T, g F i = T := ⟨_, rfl⟩; have hsn := flatV_snoc V i hiV; rw [hX] at hIn hsn; rw [hT] at hIn x0; obtain ⟨xa, xb, xc⟩ := X; have HIn := Lib.hid hIn; have HSn := Lib.hid hsn; have HiV := Lib.hid hiV; clear hIn hsn hiV hX hT; obtain ⟨A3, c3, rfl⟩ := own_slice R1.out; go_wp2_with fail; refine HIn.out.mono ?_; rintro e w6 ⟨rfl, hb6⟩; have B6 := Lib.hid (R2.out.trans (hb6.mono R2.out.size)); have O6 := Lib.hid (pw_own_below R1.out hb6); clear hb6 HIn R1 R2; go_wp2_with (first
    | ((with_reducible refine append_cells (W := w6) w.heap.size rfl (.tmp 12) (.tmp 15) 22 26 (vAgg 0 0 ⟨#[]⟩) 3 32 rfl Tryz.underlying22 infoV rfl (by decide) _ i (flatV (V.take i)) [.int .i64 xa, .int .u64 xb, .string xc] rfl rfl rfl ?h1 ?ho ?hb ?hn ?hl ?_); (case h1 => intro u hu; simp at hu; rcases hu with rfl | rfl | rfl <;> rfl); (case ho => exact O6.out); (case hb => exact B6.out.size); (case hn => simp only [maxLen]; omega); (case hl => omega); intro v7 w7 ho7 hb7 hg7; (have O7 := Lib.hid ho7); (have B7 := Lib.hid (B6.out.trans hb7)); clear ho7 hb7 hg7)
    | fail)
   go_roundg (F.length - (i + 1))
   case measure => rw [R3.out]; omega
   case rel => exact ⟨i + 1, (by go_num), ⟨by rw [HSn.out]; exact O7.out⟩, ⟨B7.out⟩, ⟨rfl⟩, by omega⟩
  obtain rfl : i = F.length := by omega
  have hd : decide ((F.length : Int) < (F.length : Int)) = false := decide_eq_false (by omega); obtain ⟨A3, c3, rfl⟩ := own_slice R1.out; have O4 := R1.out; rw [show V.take F.length = V by rw [← HI.out.1, List.take_length]] at O4; have O5 := Lib.hid O4; have B5 := R2; have hle := HI.out.1; clear R1 R2 R3 O4 HI; go_wp2_with fail; go_ret; refine ⟨_, rfl, ?_, B5.out⟩; rw [hle]; exact O5.out
/-- A record lies at block r. -/
structure RecAt (base r : Nat) (t : ByteArray) (v : Value) (L : List Val) (fs ofs : ByteArray) (w : World) : Prop where
 blk : w.heap[r]? = some (.cells #[.string t, v, .string fs, .string ofs] 108 (0, 0))
 row : w.ownsRow base 26 3 v L.length (flatV L)
 hb : base ≤ r
namespace RecAt
variable {base r : Nat} {t : ByteArray} {v : Value} {L : List Val} {fs ofs : ByteArray} {w w' : World}
theorem lt (h : RecAt base r t v L fs ofs w) : r < w.heap.size := blk_lt h.blk
theorem below (h : RecAt base r t v L fs ofs w) (hb : Below w.heap.size w w') : RecAt base r t v L fs ofs w' := ⟨blk_below h.blk hb, pw_own_below h.row hb, h.hb⟩
theorem cell0 (h : RecAt base r t v L fs ofs w) : w.cell? ⟨r, 0, none⟩ = some (.string t) := (blk_cell h.blk 0).trans rfl
theorem cell1 (h : RecAt base r t v L fs ofs w) : w.cell? ⟨r, 1, none⟩ = some v := (blk_cell h.blk 1).trans rfl
theorem cell2 (h : RecAt base r t v L fs ofs w) : w.cell? ⟨r, 2, none⟩ = some (.string fs) := (blk_cell h.blk 2).trans rfl
theorem cell3 (h : RecAt base r t v L fs ofs w) : w.cell? ⟨r, 3, none⟩ = some (.string ofs) := (blk_cell h.blk 3).trans rfl
theorem frozen (h : RecAt base r t v L fs ofs w) (j : Nat) : w.frozen? ⟨r, j, none⟩ = false := blk_frozen h.blk j
end RecAt
set_option maxRecDepth 100000 in
set_option maxHeartbeats 2000000 in
theorem New_walk (t fs ofs : ByteArray) (V : List Val) (ht : t.size < 4294967281) (hF : (fieldsOf t fs).length ≤ 1099511627776) (hI : InC (fieldsOf t fs) V) (w : World) (HG : GM w) :
  Calls Tryz.prog 52 #[.string t, .string fs, .string ofs] w fun e w' => ∃ r v, e = .returned (.pointer (some ⟨r, 0, none⟩)) ∧ RecAt w.heap.size r t v V fs ofs w' ∧ Below w.heap.size w w' := by
 have HI := Lib.hid hI; clear hI; go_enter Tryz.func52, Tryz.ntmps52; go_wp2_with fail; refine (Fields_walk t fs ht w HG).mono ?_; rintro e w1 ⟨v1, rfl, ho1, hb1⟩; obtain ⟨A1, c1, rfl, hr1⟩ := sr_own ho1; have B1 := Lib.hid hb1; have HI1 := Lib.hid (inputs_walk A1 c1 _ V w1 hr1 HI.out hF (HG.gw.below hb1)); clear ho1 hb1 hr1 HI; go_wp2_with fail; refine HI1.out.mono ?_; rintro e w2 ⟨v2, rfl, ho2, hb2⟩; have B2 := Lib.hid (B1.out.trans (hb2.mono B1.out.size)); have O2 := Lib.hid (ho2.mono B1.out.size); clear ho2 hb2 HI1; obtain ⟨A2, c2, rfl⟩ := own_slice O2.out; go_wp2_with fail; go_ret; exact ⟨_, _, rfl, ⟨blk_new _ _, O2.out.alloc _, B2.out.size⟩, below_alloc B2.out _⟩
set_option maxRecDepth 100000 in
theorem Text_walk {base r : Nat} {t : ByteArray} {v : Value} {L : List Val} {fs ofs : ByteArray} {w : World} (h : RecAt base r t v L fs ofs w) :
  Calls Tryz.prog 37 #[.pointer (some ⟨r, 0, none⟩)] w fun e w' => e = .returned (.string t) ∧ w' = w := by
 have c0 := h.cell0; clear h; go_enter Tryz.func37, Tryz.ntmps37; go_wp2_with fail; go_ret; exact ⟨rfl, rfl⟩
set_option maxRecDepth 100000 in
theorem Count_walk {base r : Nat} {t : ByteArray} {v : Value} {L : List Val} {fs ofs : ByteArray} {w : World} (h : RecAt base r t v L fs ofs w) :
  Calls Tryz.prog 32 #[.pointer (some ⟨r, 0, none⟩)] w fun e w' => e = .returned (.int .i64 (L.length : Int)) ∧ w' = w := by
 obtain ⟨A1, c1, rfl⟩ := own_slice h.row; have c0 := h.cell1; clear h; go_enter Tryz.func32, Tryz.ntmps32; go_wp2_with fail; go_ret; exact ⟨rfl, rfl⟩
end Go.Proofs.YtmbacdkpgfbclaaGreatDoor
