/- A script of calls, opened, as an argument; conditions: none. -/
import Derived.Test.YtoanmnhkhookfaaGreatDoorOpenS
import Derived.Test.YtoanmnhkhookfaaGreatDoorMuch
namespace Go.Proofs.YtoanmnhkhookfaaGreatDoor
open Go.ChangeShapes Go.WideShapes Go.ChangeAt Go.RowKit Go.Lib Go.Joins Go.Deep
set_option maxRecDepth 100000
variable {H : Type} {enc : TypeId × Value → H}
/-- What is known of one call's cells. -/
def OpIs (W : World) (a : Addr) (X : OpV) : Prop := W.cell? a = some (.int .i64 X.kind) ∧ (∀ (j : Nat) (u : Value), (opCells X)[j + 1]? = some u → W.cell? ⟨a.block, a.off + (j + 1), none⟩ = some u) ∧ X.a.2.2.size ≤ 140737488351232 ∧ X.b.2.2.size ≤ 140737488351232 ∧ X.c.size ≤ 140737488351232 ∧ X.ll ≤ 140737488351232
theorem open_ops {W : World} {b0 : Nat} {r : Reach} {v : Value} {d : DataW H} {p : List MemPlace} {ts : List TypeId} {ds : List (DataW H)} (hsz : (DataW.weightsEach Tryz.prog ts ds).all (· ≤ reachBytes) = true) {j : Nat} (ht : ts[j]? = some 43) (hd : ds[j]? = some d)
    (hv : Value.okWide Tryz.prog W r b0 43 v) (h : DataW.Trod enc Tryz.prog W 0 (fun _ => true) true 43 v d p) :
    ∃ (A : Option Addr) (c : Nat) (os : List OpV), v = .slice A os.length c ∧ OR W A os ∧ OSz os ∧ os.length * 128 ≤ 140737488351232 := by
  obtain ⟨A0, l0, c0, rfl⟩ := okWide_slice Tryz.underlying43 hv
  obtain ⟨fuel, hf⟩ := h
  rcases open_slice Tryz.underlying43 hf with ⟨h1, h2⟩ | ⟨a, len, cap, m, n, D, Pl, h1, hb, hlc, hcm, hm, hx, hel⟩
  · have e : (Value.slice A0 l0 c0) = .slice none 0 0 := by simpa [Value.cells] using h1
    cases e
    exact ⟨none, 0, [], rfl, fun i hi => absurd hi (Nat.not_lt_zero _), fun i hi => absurd hi (Nat.not_lt_zero _), by decide⟩
  · have e : (Value.slice A0 l0 c0) = .slice (some a) len cap := by simpa [Value.cells] using h1
    cases e
    have hc11 : Tryz.prog.cellsOf 48 = 11 := by kernel_rfl
    have hx1 : d = .slice ((List.range l0).map D) ((List.range (m - l0)).map fun j => D (l0 + j)) := congrArg Prod.fst hx
    have hsize := sized_elems Tryz.underlying43 hsz ht (hd.trans (congrArg some hx1))
    have hslice := sized_slice hsz ht (hd.trans (congrArg some hx1)) Tryz.underlying43
    have hm2 : m = c0 := by rw [hm]; rfl
    have key : ∀ i, i < l0 → ∃ X : OpV, OpIs W (a.add (i * 11)) X := fun i hi => by
      obtain ⟨cs', hcs, htr⟩ := hel i (by omega)
      rw [hc11] at hcs
      obtain ⟨_, hlen, hcell⟩ := World.cells?_some hcs
      obtain ⟨xs, n', _, hxx, _, hxl, hfs⟩ := DataW.trod_struct Tryz.underlying48 htr
      obtain ⟨y0, y1, y2, y3, y4, y5, y6, rfl⟩ : ∃ y0 y1 y2 y3 y4 y5 y6, xs = [y0, y1, y2, y3, y4, y5, y6] := by
        match xs, hxl with
        | [y0, y1, y2, y3, y4, y5, y6], _ => exact ⟨y0, y1, y2, y3, y4, y5, y6, rfl⟩
      obtain ⟨k0, k1, k2, k3, k4, k5, k6, k7, k8, k9, k10, rfl⟩ : ∃ k0 k1 k2 k3 k4 k5 k6 k7 k8 k9 k10, cs' = [k0, k1, k2, k3, k4, k5, k6, k7, k8, k9, k10] := by
        match cs', hlen with
        | [k0, k1, k2, k3, k4, k5, k6, k7, k8, k9, k10], _ => exact ⟨k0, k1, k2, k3, k4, k5, k6, k7, k8, k9, k10, rfl⟩
      have o1 : Tryz.prog.cellsOf 3 = 1 := by kernel_rfl
      have o2 : Tryz.prog.cellsOf 22 = 1 := by kernel_rfl
      have o3 : Tryz.prog.cellsOf 9 = 1 := by kernel_rfl
      have o4 : Tryz.prog.cellsOf 29 = 3 := by kernel_rfl
      have o5 : Tryz.prog.cellsOf 36 = 1 := by kernel_rfl
      have t0 : DataW.trod enc Tryz.prog W 0 (fun _ => true) true n' 3 ((([k0, k1, k2, k3, k4, k5, k6, k7, k8, k9, k10] : List Value).drop 0).take (Tryz.prog.cellsOf 3)) = some y0 := hfs 0 _ rfl
      have t1 : DataW.trod enc Tryz.prog W 0 (fun _ => true) true n' 3 ((([k0, k1, k2, k3, k4, k5, k6, k7, k8, k9, k10] : List Value).drop 1).take (Tryz.prog.cellsOf 3)) = some y1 := hfs 1 _ rfl
      have t2 : DataW.trod enc Tryz.prog W 0 (fun _ => true) true n' 29 ((([k0, k1, k2, k3, k4, k5, k6, k7, k8, k9, k10] : List Value).drop 2).take (Tryz.prog.cellsOf 29)) = some y2 := hfs 2 _ rfl
      have t3 : DataW.trod enc Tryz.prog W 0 (fun _ => true) true n' 29 ((([k0, k1, k2, k3, k4, k5, k6, k7, k8, k9, k10] : List Value).drop 5).take (Tryz.prog.cellsOf 29)) = some y3 := hfs 3 _ rfl
      have t4 : DataW.trod enc Tryz.prog W 0 (fun _ => true) true n' 9 ((([k0, k1, k2, k3, k4, k5, k6, k7, k8, k9, k10] : List Value).drop 8).take (Tryz.prog.cellsOf 9)) = some y4 := hfs 4 _ rfl
      have t5 : DataW.trod enc Tryz.prog W 0 (fun _ => true) true n' 36 ((([k0, k1, k2, k3, k4, k5, k6, k7, k8, k9, k10] : List Value).drop 9).take (Tryz.prog.cellsOf 36)) = some y5 := hfs 5 _ rfl
      have t6 : DataW.trod enc Tryz.prog W 0 (fun _ => true) true n' 3 ((([k0, k1, k2, k3, k4, k5, k6, k7, k8, k9, k10] : List Value).drop 10).take (Tryz.prog.cellsOf 3)) = some y6 := hfs 6 _ rfl
      obtain ⟨x0, q0, e0, _⟩ := DataW.trod_int Tryz.underlying3 t0
      obtain ⟨x1, q1, e1, _⟩ := DataW.trod_int Tryz.underlying3 t1
      obtain ⟨u0, u1, u2, nu, e2, _, v0, v1, v2⟩ := trod_struct3 Tryz.underlying29 t2
      obtain ⟨z0, z1, z2, nz, e3, _, w0, w1, w2⟩ := trod_struct3 Tryz.underlying29 t3
      obtain ⟨x2, q2, f2, _⟩ := DataW.trod_int Tryz.underlying3 v0
      obtain ⟨x3, q3, f3, _⟩ := DataW.trod_int Tryz.underlying22 v1
      obtain ⟨x4, q4, f4, _⟩ := DataW.trod_string Tryz.underlying9 v2
      obtain ⟨x5, q5, f5, _⟩ := DataW.trod_int Tryz.underlying3 w0
      obtain ⟨x6, q6, f6, _⟩ := DataW.trod_int Tryz.underlying22 w1
      obtain ⟨x7, q7, f7, _⟩ := DataW.trod_string Tryz.underlying9 w2
      obtain ⟨x8, q8, e4, _⟩ := DataW.trod_string Tryz.underlying9 t4
      obtain ⟨x10, q10, e6, _⟩ := DataW.trod_int Tryz.underlying3 t6
      have hsl : ∃ (la : Option Addr) (ll lc : Nat), ((([k0, k1, k2, k3, k4, k5, k6, k7, k8, k9, k10] : List Value).drop 9).take (Tryz.prog.cellsOf 36)) = [.slice la ll lc] ∧ (y5.1 = .nil ∧ ll = 0 ∨ ∃ (E S : List (DataW H)), y5.1 = .slice E S ∧ E.length = ll) := by
        rcases DataW.trod_slice Tryz.underlying36 t5 with ⟨g1, g2⟩ | ⟨ga, gl, gc, el, re, gn, _, g1, g2, _, _, _, g3, _⟩
        · exact ⟨none, 0, 0, g1, .inl ⟨congrArg Prod.fst g2, rfl⟩⟩
        · exact ⟨some ga, gl, gc, g1, .inr ⟨_, _, congrArg Prod.fst g2, by rw [List.length_map]; exact g3⟩⟩
      obtain ⟨la, ll, lc, q9, hl9⟩ := hsl
      simp only [o1, o2, o3, o4, o5, List.drop_zero, List.drop_succ_cons, List.take_succ_cons, List.take_zero, List.cons.injEq, and_true] at q0 q1 q2 q3 q4 q5 q6 q7 q8 q9 q10
      subst q0 q1 q2 q3 q4 q5 q6 q7 q8 q9 q10
      have hD : D i = .agg [y0.1, y1.1, y2.1, y3.1, y4.1, y5.1, y6.1] := congrArg Prod.fst hxx
      have hmem := hsize (D i) (List.mem_map.mpr ⟨i, List.mem_range.mpr hi, rfl⟩)
      rw [hD, e0, e1, e2, e3, e4, e6, f2, f3, f4, f5, f6, f7] at hmem
      refine ⟨⟨x0, x1, (x2, x3, x4), (x5, x6, x7), x8, la, ll, lc, x10⟩, hcell 0 (by omega), fun j u hu => ?_, ?_, ?_, ?_, ?_⟩
      · have h2 := hcell (j + 1) (by have := (List.getElem?_eq_some_iff.1 hu).1; exact this)
        have h3 : ([Value.int .i64 x0, .int .i64 x1, .int .i64 x2, .int .u64 x3, .string x4, .int .i64 x5, .int .u64 x6, .string x7, .string x8, .slice la ll lc, .int .i64 x10] : List Value)[j + 1]? = some u := hu
        rw [h3] at h2
        exact h2
      · have z := hmem x4.data.toList.length (by simp [DataW.weights, DataW.weightsEach, Tryz.underlying29, Tryz.underlying48])
        rw [Array.length_toList] at z
        exact z
      · have z := hmem x7.data.toList.length (by simp [DataW.weights, DataW.weightsEach, Tryz.underlying29, Tryz.underlying48])
        rw [Array.length_toList] at z
        exact z
      · have z := hmem x8.data.toList.length (by simp [DataW.weights, DataW.weightsEach, Tryz.underlying29, Tryz.underlying48])
        rw [Array.length_toList] at z
        exact z
      · rcases hl9 with ⟨_, h0⟩ | ⟨E, S, h9, hE⟩
        · show ll ≤ _
          omega
        · rw [h9] at hmem
          have hb32 : Tryz.prog.bytesOf 29 = 32 := by kernel_rfl
          have z := hmem ((E.length + S.length) * 32) (by simp [DataW.weights, DataW.weightsEach, Tryz.underlying29, Tryz.underlying48, Tryz.underlying36, hb32])
          have h3 : reachBytes = 140737488351232 := rfl
          rw [h3] at z
          show ll ≤ _
          omega
    obtain ⟨F, hF⟩ : ∃ F : Nat → OpV, ∀ i, i < l0 → OpIs W (a.add (i * 11)) (F i) :=
      ⟨fun i => if h : i < l0 then Classical.choose (key i h) else zOp, fun i hi => by simp only [dif_pos hi]; exact Classical.choose_spec (key i hi)⟩
    have hl : ((List.range l0).map F).length = l0 := by rw [List.length_map, List.length_range]
    have hg : ∀ i, i < l0 → opAt ((List.range l0).map F) i = F i := fun i hi => by
      unfold opAt
      rw [List.getD_eq_getElem?_getD, List.getElem?_map, List.getElem?_range hi]
      rfl
    refine ⟨some a, c0, (List.range l0).map F, by rw [hl], fun i hi => ?_, fun i hi => ?_, ?_⟩
    · rw [hl] at hi
      rw [hg i hi]
      exact ⟨a, rfl, (hF i hi).1, (hF i hi).2.1⟩
    · rw [hl] at hi
      rw [hg i hi]
      have hs := (hF i hi).2.2
      exact ⟨Nat.le_trans hs.1 (by decide), Nat.le_trans hs.2.1 (by decide), Nat.le_trans hs.2.2.1 (by decide), Nat.le_trans hs.2.2.2 (by decide)⟩
    · rw [hl]
      have hb128 : Tryz.prog.bytesOf 48 = 128 := by kernel_rfl
      rw [hb128, List.length_map, List.length_range] at hslice
      have h3 : reachBytes = 140737488351232 := rfl
      rw [h3] at hslice
      exact Nat.le_trans (Nat.mul_le_mul_right 128 (Nat.le_add_right l0 _)) hslice
end Go.Proofs.YtoanmnhkhookfaaGreatDoor
