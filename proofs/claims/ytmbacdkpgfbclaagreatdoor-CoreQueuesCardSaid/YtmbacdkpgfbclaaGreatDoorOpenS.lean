/- A row of values of the interface, opened, as an argument; conditions: none. -/
import Derived.Test.YtmbacdkpgfbclaaGreatDoorFacts
import Derived.Lib.SmallJoins
import Derived.Deep.Slices
import Derived.OpenShut
import Derived.Test.YtmbacdkpgfbclaaGreatDoorTop
import Derived.Carry
import Derived.ChangeOld
namespace Go.Proofs.YtmbacdkpgfbclaaGreatDoor
open Go.ChangeShapes Go.WideShapes Go.ChangeAt Go.RowKit Go.Lib Go.Joins
set_option maxRecDepth 100000
variable {H : Type} {enc : TypeId × Value → H}
end Go.Proofs.YtmbacdkpgfbclaaGreatDoor
namespace Go.Proofs.YtmbacdkpgfbclaaGreatDoor
open Go.ChangeShapes Go.WideShapes Go.ChangeAt Go.RowKit Go.Lib Go.Joins Go.Deep
set_option maxRecDepth 100000
variable {H : Type} {enc : TypeId × Value → H}
theorem trod_places {W : World} {t : TypeId} {v : Value} {d : DataW H} {p : List MemPlace} (h : DataW.Trod enc Tryz.prog W 0 (fun _ => true) true t v d p) : ∀ x ∈ p, x.block < W.heap.size := by
 obtain ⟨fuel, hf⟩ := h; exact DataW.trod_lt _ _ _ _ hf
theorem sized_elems {e : TypeId} {elems spare : List (DataW H)} {t : TypeId} {ts : List TypeId} {ds : List (DataW H)} (hu : Tryz.prog.underlying t = some (.slice e)) (h : (DataW.weightsEach Tryz.prog ts ds).all (· ≤ reachBytes) = true) {j : Nat} (ht : ts[j]? = some t) (hd : ds[j]? = some (.slice elems spare)) : ∀ x ∈ elems, ∀ n ∈ x.weights Tryz.prog e, n ≤ reachBytes := by
 intro x hx n hn; have hmem : n ∈ DataW.weightsAll Tryz.prog e elems := by
  clear h ht hd; induction elems with
  | nil => cases hx
  | cons y ys ih =>
   rw [DataW.weightsAll, List.mem_append]; rcases List.mem_cons.mp hx with r | r
   · rw [← r]; exact .inl hn
   exact .inr (ih r)
 have z := List.all_eq_true.1 h n (DataW.weights_mem_each ht hd n (by simp [DataW.weights, hu, hmem])); exact of_decide_eq_true z
theorem open_vals {W : World} {b0 : Nat} {r : Reach} {v : Value} {d : DataW H} {p : List MemPlace} {ts : List TypeId} {ds : List (DataW H)} (hsz : (DataW.weightsEach Tryz.prog ts ds).all (· ≤ reachBytes) = true) {j : Nat} (ht : ts[j]? = some 22) (hd : ds[j]? = some d)
  (hv : Value.okWide Tryz.prog W r b0 22 v) (h : DataW.Trod enc Tryz.prog W 0 (fun _ => true) true 22 v d p) :
  ∃ (A : Option Addr) (c : Nat) (vs : List Val), v = .slice A vs.length c ∧ VR W A vs ∧ (∀ i, i < vs.length → (Heap.g vs i).2.2.size ≤ 140737488351232) ∧ vs.length * 32 ≤ 140737488351232 ∧ vs.length ≤ c := by
 obtain ⟨A0, l0, c0, rfl⟩ := okWide_slice Tryz.underlying22 hv; obtain ⟨fuel, hf⟩ := h; rcases open_slice Tryz.underlying22 hf with ⟨h1, h2⟩ | ⟨a, len, cap, m, n, D, Pl, h1, hb, hlc, hcm, hm, hx, hel⟩
 ·
  have e : (Value.slice A0 l0 c0) = .slice none 0 0 := by simpa [Value.cells] using h1
  cases e
  exact ⟨none, 0, [], rfl, fun i hi => absurd hi (Nat.not_lt_zero _), fun i hi => absurd hi (Nat.not_lt_zero _), by decide, Nat.le_refl _⟩
 have e : (Value.slice A0 l0 c0) = .slice (some a) len cap := by simpa [Value.cells] using h1
 cases e
 have hc3 : Tryz.prog.cellsOf 26 = 3 := by kernel_rfl
 have hx1 : d = .slice ((List.range l0).map D) ((List.range (m - l0)).map fun j => D (l0 + j)) := congrArg Prod.fst hx; have hsize := sized_elems Tryz.underlying22 hsz ht (hd.trans (congrArg some hx1)); have hslice := sized_slice hsz ht (hd.trans (congrArg some hx1)) Tryz.underlying22; have hm2 : m = c0 := by rw [hm]; rfl
 have key : ∀ i, i < l0 → ∃ X : Val, W.cell? (a.add (i * 3)) = some (.int .i64 X.1) ∧ W.cell? ⟨(a.add (i * 3)).block, (a.add (i * 3)).off + 1, none⟩ = some (.int .u64 X.2.1) ∧ W.cell? ⟨(a.add (i * 3)).block, (a.add (i * 3)).off + 2, none⟩ = some (.string X.2.2) ∧ X.2.2.size ≤ 140737488351232 := fun i hi => by
  obtain ⟨cs', hcs, htr⟩ := hel i (by omega); rw [hc3] at hcs; obtain ⟨_, hlen, hcell⟩ := World.cells?_some hcs; obtain ⟨y0, y1, y2, n', hxx, _, t0, t1, t2⟩ := trod_struct3 Tryz.underlying26 htr; obtain ⟨k0, k1, k2, rfl⟩ : ∃ k0 k1 k2, cs' = [k0, k1, k2] := by
   match cs', hlen with
   | [k0, k1, k2], _ => exact ⟨k0, k1, k2, rfl⟩
  have o1 : Tryz.prog.cellsOf 3 = 1 := by kernel_rfl
  have o2 : Tryz.prog.cellsOf 24 = 1 := by kernel_rfl
  have o3 : Tryz.prog.cellsOf 9 = 1 := by kernel_rfl
  obtain ⟨x0, q0, rfl, _⟩ := DataW.trod_int Tryz.underlying3 t0; obtain ⟨x1, q1, rfl, _⟩ := DataW.trod_int Tryz.underlying24 t1; obtain ⟨x2, q2, rfl, _⟩ := DataW.trod_string Tryz.underlying9 t2; simp only [o1, o2, o3, List.drop_zero, List.drop_succ_cons, List.take_succ_cons, List.take_zero, List.cons.injEq, and_true] at q0 q1 q2; subst q0; subst q1; subst q2; refine ⟨(x0, x1, x2), hcell 0 (by omega), hcell 1 (by omega), hcell 2 (by omega), ?_⟩; have hD : D i = .agg [.lit (.int .i64 x0), .lit (.int .u64 x1), .lit (.string x2.data.toList)] := congrArg Prod.fst hxx; have z := hsize (D i) (List.mem_map.mpr ⟨i, List.mem_range.mpr hi, rfl⟩) x2.data.toList.length (by rw [hD]; simp [DataW.weights, DataW.weightsEach, Tryz.underlying26]); rw [Array.length_toList] at z; exact z
 obtain ⟨F, hF⟩ : ∃ F : Nat → Val, ∀ i, i < l0 → W.cell? (a.add (i * 3)) = some (.int .i64 (F i).1) ∧ W.cell? ⟨(a.add (i * 3)).block, (a.add (i * 3)).off + 1, none⟩ = some (.int .u64 (F i).2.1) ∧ W.cell? ⟨(a.add (i * 3)).block, (a.add (i * 3)).off + 2, none⟩ = some (.string (F i).2.2) ∧ (F i).2.2.size ≤ 140737488351232 :=
  ⟨fun i => if h : i < l0 then Classical.choose (key i h) else (0, 0, ⟨#[]⟩), fun i hi => by simp only [dif_pos hi]; exact Classical.choose_spec (key i hi)⟩
 have hl : ((List.range l0).map F).length = l0 := by rw [List.length_map, List.length_range]
 have hg : ∀ i, i < l0 → Heap.g ((List.range l0).map F) i = F i := fun i hi => by
  unfold Heap.g; rw [List.getD_eq_getElem?_getD, List.getElem?_map, List.getElem?_range hi]; rfl
 refine ⟨some a, c0, (List.range l0).map F, by rw [hl], fun i hi => ?_, fun i hi => ?_, ?_, by rw [hl]; exact hlc⟩
 · rw [hl] at hi; rw [hg i hi]; exact ⟨a, rfl, (hF i hi).1, (hF i hi).2.1, (hF i hi).2.2.1⟩
 · rw [hl] at hi; rw [hg i hi]; exact (hF i hi).2.2.2
 rw [hl]; have hb32 : Tryz.prog.bytesOf 26 = 32 := by kernel_rfl
 rw [hb32, List.length_map, List.length_range] at hslice; have h3 : reachBytes = 140737488351232 := rfl; rw [h3] at hslice; have h4 := Nat.le_trans (Nat.mul_le_mul_right 32 (Nat.le_add_right l0 _)) hslice; exact h4
end Go.Proofs.YtmbacdkpgfbclaaGreatDoor
