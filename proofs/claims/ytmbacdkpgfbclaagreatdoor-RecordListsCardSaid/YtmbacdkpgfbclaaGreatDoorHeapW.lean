/- relate's heap in memory: what a block and a row hold, and how they turn; conditions: none. -/
import Derived.Test.YtmbacdkpgfbclaaGreatDoorGW
import Derived.Test.YtmbacdkpgfbclaaGreatDoorVal2
import Derived.Test.YtmbacdkpgfbclaaGreatDoorWMore
import Derived.Test.YtmbacdkpgfbclaaGreatDoorHeap
namespace Go.Proofs.YtmbacdkpgfbclaaGreatDoor
open Go.RowKit Go.Proofs.YtmbacdkpgfbclaaGreatDoorW.PrintWords Heap
set_option linter.unusedVariables false
set_option linter.unusedSimpArgs false

/-- A queue's entry: the value's kind, number and text; its own number. -/
abbrev Ent := Int × Int × ByteArray × Int
def encE (e : Ent) : List Value := [.int .i64 e.1, .int .u64 e.2.1, .string e.2.2.1, .int .i64 e.2.2.2]
abbrev entV (e : Ent) : Value := .agg #[.int .i64 e.1, .int .u64 e.2.1, .string e.2.2.1, .int .i64 e.2.2.2]
def flatE (L : List Ent) : List Value := L.flatMap encE
theorem flatE_append (L M : List Ent) : flatE (L ++ M) = flatE L ++ flatE M := List.flatMap_append
theorem flatE_get : ∀ (L : List Ent) (i j : Nat) (e : Ent), L[i]? = some e → j < 4 → (flatE L)[4 * i + j]? = (encE e)[j]? := by
 intro L; induction L with
 | nil => intro i j e h; simp at h
 | cons a L ih =>
  intro i j e h hj; cases i with
  | zero =>
   simp at h; subst h; show (encE a ++ flatE L)[4 * 0 + j]? = _; rw [List.getElem?_append_left (by simp [encE]; omega)]; simp
  | succ i =>
   show (encE a ++ flatE L)[4 * (i + 1) + j]? = _; rw [List.getElem?_append_right (by simp [encE]; omega)]; have : 4 * (i + 1) + j - (encE a).length = 4 * i + j := by simp [encE]; omega
   rw [this]; exact ih i j e (by simpa using h) hj
theorem flatE_set : ∀ (L : List Ent) (i : Nat) (e : Ent), i < L.length →
  ((((flatE L).set (4 * i) (.int .i64 e.1)).set (4 * i + 1) (.int .u64 e.2.1)).set (4 * i + 2) (.string e.2.2.1)).set (4 * i + 3) (.int .i64 e.2.2.2) = flatE (L.set i e) := by
 intro L; induction L with
 | nil => intro i e h; simp at h
 | cons a L ih =>
  intro i e h; cases i with
  | zero => rfl
  | succ i =>
   have h1 := ih i e (by simpa using h); have e0 : 4 * (i + 1) = (4 * i) + 1 + 1 + 1 + 1 := by omega
   show ((((encE a ++ flatE L).set (4 * (i + 1)) _).set (4 * (i + 1) + 1) _).set (4 * (i + 1) + 2) _).set (4 * (i + 1) + 3) _ = encE a ++ flatE (L.set i e); rw [← h1, e0]; simp [encE]
theorem g_get (L : List Ent) (i : Nat) (hi : i < L.length) : L[i]? = some (g L i) := by
 rw [List.getElem?_eq_getElem hi, ← g_of L (List.getElem?_eq_getElem hi)]

/-- What a call on the heap at block b (its row v before, v' behind) has turned. -/
structure Turned (base b : Nat) (v v' : Value) (w w' : World) : Prop where
 below : Below base w w'
 keep : ∀ i, i < w.heap.size → i ≠ b → some i ≠ v.ownBlock → w'.heap[i]? = w.heap[i]?
 own : v'.ownBlock = v.ownBlock ∨ ∃ q, v'.ownBlock = some q ∧ w.heap.size ≤ q
 size : w.heap.size ≤ w'.heap.size
theorem Turned.refl (base b : Nat) (v : Value) (w : World) : Turned base b v v w w := ⟨Below.refl _ _, fun _ _ _ _ => rfl, .inl rfl, Nat.le_refl _⟩
theorem Turned.trans {base b : Nat} {v v1 v2 : Value} {w w1 w2 : World} (h : Turned base b v v1 w w1) (k : Turned base b v1 v2 w1 w2) : Turned base b v v2 w w2 := by
 refine ⟨h.below.trans k.below, fun i hi hb hv => ?_, ?_, Nat.le_trans h.size k.size⟩
 ·
  refine (k.keep i (Nat.lt_of_lt_of_le hi h.size) hb ?_).trans (h.keep i hi hb hv); rcases h.own with e | ⟨q, e, hq⟩
  · rw [e]; exact hv
  rw [e]; intro h2; injection h2 with h2; omega
 rcases k.own with e | ⟨q, e, hq⟩
 ·
  rcases h.own with e2 | ⟨q, e2, hq⟩
  · exact .inl (e.trans e2)
  exact .inr ⟨q, e.trans e2, hq⟩
 exact .inr ⟨q, e, Nat.le_trans h.size hq⟩
theorem Turned.of_below {base b : Nat} {v : Value} {w w' : World} (h : Below w.heap.size w w') (hb : base ≤ w.heap.size) : Turned base b v v w w' :=
 ⟨h.mono hb, fun i hi _ _ => h.block i hi, .inl rfl, h.size⟩
theorem Turned.row {base b : Nat} {v : Value} {w w' : World} (h : w.grownBy w' v.ownBlock) (hb : Below base w w') (v' : Value) (hv : v'.ownBlock = v.ownBlock ∨ ∃ q, v'.ownBlock = some q ∧ w.heap.size ≤ q) : Turned base b v v' w w' :=
 ⟨hb, fun i hi _ hv => h.block i hi hv, hv, h.size⟩
theorem Turned.cell {base b : Nat} {v v' : Value} {w : World} (hb : base ≤ b) (hv : v'.ownBlock = v.ownBlock ∨ ∃ q, v'.ownBlock = some q ∧ w.heap.size ≤ q) (j : Nat) (u : Value) : Turned base b v v' w (w.setCell ⟨b, j, none⟩ u) :=
 ⟨(Below.refl _ _).setCell hb _, fun i hi hib _ => Below.heap_setCell w ⟨b, j, none⟩ u i hib, hv, by simp [World.setCell]⟩

/-- The function 'ahead', as a value. -/
abbrev lessV : Value := .func (.func 69) #[] #[]
/-- A heap lies at block b: its row is v, which holds L. -/
structure HeapAt (base b T : Nat) (cs : Array Value) (v : Value) (L : List Ent) (w : World) : Prop where
 blk : w.heap[b]? = some (.cells cs T (0, 0))
 c0 : cs[0]? = some v
 c1 : cs[1]? = some lessV
 row : w.ownsRow base 101 4 v L.length (flatE L)
 ne : 101 ≠ T
 hb : base ≤ b
namespace HeapAt
variable {base b T : Nat} {cs : Array Value} {v : Value} {L : List Ent} {w w' : World}
theorem apart (h : HeapAt base b T cs v L w) : some b ≠ v.ownBlock := own_ne h.row h.blk h.ne
theorem below (h : HeapAt base b T cs v L w) (hb : Below w.heap.size w w') : HeapAt base b T cs v L w' := ⟨blk_below h.blk hb, h.c0, h.c1, pw_own_below h.row hb, h.ne, h.hb⟩
theorem cell0 (h : HeapAt base b T cs v L w) : w.cell? ⟨b, 0, none⟩ = some v := (blk_cell h.blk 0).trans h.c0
theorem cell1 (h : HeapAt base b T cs v L w) : w.cell? ⟨b, 1, none⟩ = some lessV := (blk_cell h.blk 1).trans h.c1
theorem frozen (h : HeapAt base b T cs v L w) (j : Nat) : w.frozen? ⟨b, j, none⟩ = false := blk_frozen h.blk j
theorem lt (h : HeapAt base b T cs v L w) : b < w.heap.size := blk_lt h.blk
theorem elem {g1 n c : Nat} (h : HeapAt base b T cs (.slice (some ⟨g1, 0, none⟩) n c) L w) (i : Nat) (hi : i < L.length) (e : Ent) (he : g L i = e) :
  (w.cell? ⟨g1, i * 4, none⟩ = some (.int .i64 e.1) ∧ w.cell? ⟨g1, i * 4 + 1, none⟩ = some (.int .u64 e.2.1) ∧ w.cell? ⟨g1, i * 4 + 2, none⟩ = some (.string e.2.2.1) ∧ w.cell? ⟨g1, i * 4 + 3, none⟩ = some (.int .i64 e.2.2.2)) ∧
   ∀ j, w.frozen? ⟨g1, j, none⟩ = false := by
 have hget := fun j hj => flatE_get L i j e (he ▸ g_get L i hi) hj
 have hc := fun (j : Nat) (u : Value) (hj : (flatE L)[4 * i + j]? = some u) => h.row.cells (g := g1) rfl (4 * i + j) u hj
 have e4 : i * 4 = 4 * i := by omega
 refine ⟨⟨?_, ?_, ?_, ?_⟩, fun j => ?_⟩
 · have := hc 0 _ (by rw [hget 0 (by omega)]; rfl); rw [add_plain] at this; rw [e4]; exact this
 · have := hc 1 _ (by rw [hget 1 (by omega)]; rfl); rw [add_plain] at this; rw [e4]; exact this
 · have := hc 2 _ (by rw [hget 2 (by omega)]; rfl); rw [add_plain] at this; rw [e4]; exact this
 · have := hc 3 _ (by rw [hget 3 (by omega)]; rfl); rw [add_plain] at this; rw [e4]; exact this
 obtain ⟨cells, hcells⟩ := own_typed h.row g1 rfl; simp [World.frozen?, hcells]
end HeapAt
theorem HeapAt.putE {base b T : Nat} {cs : Array Value} {L : List Ent} {w : World} {g1 n c : Nat} (h : HeapAt base b T cs (.slice (some ⟨g1, 0, none⟩) n c) L w) (hn : n = L.length) (i : Nat) (hi : i < L.length) (e : Ent) :
  HeapAt base b T cs (.slice (some ⟨g1, 0, none⟩) n c) (L.set i e) ((((w.setCell ⟨g1, i * 4, none⟩ (.int .i64 e.1)).setCell ⟨g1, i * 4 + 1, none⟩ (.int .u64 e.2.1)).setCell ⟨g1, i * 4 + 2, none⟩ (.string e.2.2.1)).setCell ⟨g1, i * 4 + 3, none⟩ (.int .i64 e.2.2.2)) ∧
   Turned base b (.slice (some ⟨g1, 0, none⟩) n c) (.slice (some ⟨g1, 0, none⟩) n c) w ((((w.setCell ⟨g1, i * 4, none⟩ (.int .i64 e.1)).setCell ⟨g1, i * 4 + 1, none⟩ (.int .u64 e.2.1)).setCell ⟨g1, i * 4 + 2, none⟩ (.string e.2.2.1)).setCell ⟨g1, i * 4 + 3, none⟩ (.int .i64 e.2.2.2)) := by
 subst hn; have hne : b ≠ g1 := fun hh => h.apart (by rw [hh]; rfl)
 have h1 := h.row.stored (i * 4) (.int .i64 e.1); have h2 := h1.1.stored (i * 4 + 1) (.int .u64 e.2.1); have h3 := h2.1.stored (i * 4 + 2) (.string e.2.2.1); have h4 := h3.1.stored (i * 4 + 3) (.int .i64 e.2.2.2); have hf := flatE_set L i e hi; have e4 : i * 4 = 4 * i := by omega
 have hrow := h4.1; rw [e4] at hrow ⊢; rw [hf] at hrow; have hbase : base ≤ g1 := own_base h.row g1 rfl; refine ⟨⟨blk_far (blk_far (blk_far (blk_far h.blk hne _) hne _) hne _) hne _, h.c0, h.c1, by simpa using hrow, h.ne, h.hb⟩, ?_⟩; refine ⟨(((((Below.refl _ _).setCell hbase _).setCell hbase _).setCell hbase _).setCell hbase _), fun k hk hkb hkv => ?_, .inl rfl, by simp [World.setCell]⟩; have hkg : k ≠ g1 := fun hh => hkv (by rw [hh]; rfl)
 rw [Below.heap_setCell _ _ _ k hkg, Below.heap_setCell _ _ _ k hkg, Below.heap_setCell _ _ _ k hkg, Below.heap_setCell _ _ _ k hkg]
theorem HeapAt.drewT {base b T : Nat} {cs : Array Value} {v v0 : Value} {L : List Ent} {w wx : World} (h : HeapAt base b T cs v L w ∧ Turned base b v0 v wx w) : HeapAt base b T cs v L w.drew ∧ Turned base b v0 v wx w.drew :=
 ⟨h.1.below (below_drew (Below.refl _ _)), h.2.trans (Turned.of_below (below_drew (Below.refl _ _)) (Nat.le_trans h.1.hb (Nat.le_of_lt h.1.lt)))⟩
theorem flatE_take : ∀ (L : List Ent) (m : Nat), (flatE L).take (m * 4) = flatE (L.take m) := by
 intro L; induction L with
 | nil => intro m; simp [flatE]
 | cons a L ih =>
  intro m; cases m with
  | zero => simp [flatE]
  | succ m =>
   show (encE a ++ flatE L).take ((m + 1) * 4) = encE a ++ flatE (L.take m); rw [List.take_append, ← ih m]; have h1 : (encE a).length = 4 := rfl; rw [h1, List.take_of_length_le (by rw [h1]; omega), show (m + 1) * 4 - 4 = m * 4 by omega]
theorem HeapAt.cutE {base b T : Nat} {cs : Array Value} {L : List Ent} {w : World} {g1 m c : Nat} (h : HeapAt base b T cs (.slice (some ⟨g1, 0, none⟩) (m + 1) c) L w) (hm : L.length = m + 1) :
  HeapAt base b T (cs.setIfInBounds 0 (.slice (some ⟨g1, 0, none⟩) m c)) (.slice (some ⟨g1, 0, none⟩) m c) (L.take m) (w.setCell ⟨b, 0, none⟩ (.slice (some ⟨g1, 0, none⟩) m c)) ∧
   Turned base b (.slice (some ⟨g1, 0, none⟩) (m + 1) c) (.slice (some ⟨g1, 0, none⟩) m c) w (w.setCell ⟨b, 0, none⟩ (.slice (some ⟨g1, 0, none⟩) m c)) := by
 have h0 : 0 < cs.size := by
  rcases Nat.lt_or_ge 0 cs.size with h' | h'
  · exact h'
  have := h.c0; rw [Array.getElem?_eq_none h'] at this; cases this
 have hr := h.row; rw [hm] at hr; have hr2 := own_take hr (Nat.le_succ m); rw [flatE_take] at hr2; have hl : (L.take m).length = m := by rw [List.length_take]; omega
 refine ⟨⟨blk_set h.blk 0 _, ?_, ?_, ?_, h.ne, h.hb⟩, Turned.cell h.hb (v := .slice (some ⟨g1, 0, none⟩) (m + 1) c) (v' := .slice (some ⟨g1, 0, none⟩) m c) (.inl rfl) 0 _⟩
 · rw [Array.getElem?_setIfInBounds]; simp [h0]
 · rw [Array.getElem?_setIfInBounds]; simp; exact h.c1
 rw [hl]; exact own_setCell hr2 (p := ⟨b, 0, none⟩) h.apart _
theorem HeapAt.cap {base b T : Nat} {cs : Array Value} {L : List Ent} {w : World} {g1 n c : Nat} (h : HeapAt base b T cs (.slice (some ⟨g1, 0, none⟩) n c) L w) (hn : L.length = n) : n ≤ c := by
 rcases h.row.2 with ⟨h1, _⟩ | ⟨g', cap, cur, h1, _, _, h2, _⟩
 · cases h1
 injection h1 with _ _ h3; omega
theorem HeapAt.far {base b T : Nat} {cs : Array Value} {v : Value} {L : List Ent} {w : World} (h : HeapAt base b T cs v L w) {r : Nat} (hb : b ≠ r) (hv : some r ≠ v.ownBlock) (j : Nat) (u : Value) : HeapAt base b T cs v L (w.setCell ⟨r, j, none⟩ u) :=
 ⟨blk_far h.blk hb _, h.c0, h.c1, own_setCell h.row hv _, h.ne, h.hb⟩
theorem Turned.fresh {base b : Nat} {v v' : Value} {w wx : World} (h : Turned base b v v' w wx) {r : Nat} (hr : w.heap.size ≤ r) (hb : base ≤ r) (j : Nat) (u : Value) : Turned base b v v' w (wx.setCell ⟨r, j, none⟩ u) :=
 ⟨h.below.setCell hb _, fun i hi hib hv => (Below.heap_setCell wx ⟨r, j, none⟩ u i (by intro e; exact absurd hi (by rw [e]; show ¬ (r < w.heap.size); omega))).trans (h.keep i hi hib hv), h.own, by have := h.size; simpa [World.setCell] using this⟩
theorem entBox {w : World} {g t : Nat} {a b c d : Value} (h : w.heap[g]? = some (.cells #[a, b, c, d] t (0, 0))) (x y z u : Value) :
  ((((w.setCell ⟨g, 0, none⟩ x).setCell ⟨g, 1, none⟩ y).setCell ⟨g, 2, none⟩ z).setCell ⟨g, 3, none⟩ u).heap[g]? = some (.cells #[x, y, z, u] t (0, 0)) :=
 blk_put (cs := #[x, y, z, d]) (blk_put (cs := #[x, y, c, d]) (blk_put (cs := #[x, b, c, d]) (blk_put h 0 _ rfl) 1 _ rfl) 2 _ rfl) 3 _ rfl
/-- Two entries change places. -/
theorem HeapAt.swpE {base b T : Nat} {cs : Array Value} {L : List Ent} {w : World} {g1 n c : Nat} (h : HeapAt base b T cs (.slice (some ⟨g1, 0, none⟩) n c) L w) (hn : n = L.length) (i j : Nat) (hi : i < L.length) (hj : j < L.length) (x y : Ent) (hx : g L i = x) (hy : g L j = y) :
  HeapAt base b T cs (.slice (some ⟨g1, 0, none⟩) n c) (swp L i j) ((((((((w.setCell ⟨g1, i * 4, none⟩ (.int .i64 y.1)).setCell ⟨g1, i * 4 + 1, none⟩ (.int .u64 y.2.1)).setCell ⟨g1, i * 4 + 2, none⟩ (.string y.2.2.1)).setCell ⟨g1, i * 4 + 3, none⟩ (.int .i64 y.2.2.2)).setCell ⟨g1, j * 4, none⟩ (.int .i64 x.1)).setCell ⟨g1, j * 4 + 1, none⟩ (.int .u64 x.2.1)).setCell ⟨g1, j * 4 + 2, none⟩ (.string x.2.2.1)).setCell ⟨g1, j * 4 + 3, none⟩ (.int .i64 x.2.2.2)).drew ∧
   Turned base b (.slice (some ⟨g1, 0, none⟩) n c) (.slice (some ⟨g1, 0, none⟩) n c) w ((((((((w.setCell ⟨g1, i * 4, none⟩ (.int .i64 y.1)).setCell ⟨g1, i * 4 + 1, none⟩ (.int .u64 y.2.1)).setCell ⟨g1, i * 4 + 2, none⟩ (.string y.2.2.1)).setCell ⟨g1, i * 4 + 3, none⟩ (.int .i64 y.2.2.2)).setCell ⟨g1, j * 4, none⟩ (.int .i64 x.1)).setCell ⟨g1, j * 4 + 1, none⟩ (.int .u64 x.2.1)).setCell ⟨g1, j * 4 + 2, none⟩ (.string x.2.2.1)).setCell ⟨g1, j * 4 + 3, none⟩ (.int .i64 x.2.2.2)).drew := by
 obtain ⟨h1, t1⟩ := h.putE hn i hi y; obtain ⟨h2, t2⟩ := h1.putE (by rw [List.length_set]; exact hn) j (by rw [List.length_set]; exact hj) x; have h3 := h2.below (below_drew (Below.refl _ _)); refine ⟨?_, (t1.trans t2).trans (Turned.of_below (below_drew (Below.refl _ _)) (Nat.le_trans h2.hb (Nat.le_of_lt h2.lt)))⟩; unfold swp; rw [hx, hy]; exact h3
/-- The entry's text is not beyond all machines. -/
def Sm (e : Ent) : Prop := e.2.2.1.size ≤ 4611686018427387904
def SmL (L : List Ent) : Prop := ∀ e ∈ L, Sm e
theorem SmL.at_ {L : List Ent} (h : SmL L) {i : Nat} (hi : i < L.length) {e : Ent} (he : g L i = e) : Sm e := he ▸ h _ (g_mem L i hi)
theorem SmL.perm {L M : List Ent} (h : SmL L) (hp : M.Perm L) : SmL M := fun e he => h e (hp.subset he)
theorem SmL.push {L : List Ent} (lt : Ent → Ent → Bool) (h : SmL L) {x : Ent} (hx : Sm x) : SmL (push lt L x) := fun e he => by
 rcases List.mem_cons.mp ((push_perm lt L x).subset he) with rfl | he
 ·
  exact hx
 ·
  exact h e he
theorem SmL.pop {L : List Ent} (lt : Ent → Ent → Bool) (h : SmL L) : SmL (pop lt L) := fun e he => by
 by_cases hL : L = []
 ·
  subst hL
  have : (Heap.pop lt ([] : List Ent)).length = 0 := by rw [pop_length]; rfl
  rw [List.length_eq_zero_iff.mp this] at he
  cases he
 ·
  exact h e ((pop_perm lt L hL).symm.subset (List.mem_cons_of_mem _ he))
/-- What 'ahead' answers. -/
def Less (lt : Ent → Ent → Bool) : Prop := ∀ (x y : Ent) (u : World), Sm x → Sm y → GW u → Calls Tryz.prog 69 #[entV x, entV y] u fun e u' => e = .returned (.bool (lt x y)) ∧ Below u.heap.size u u'
theorem GW.high {B : Nat} {w w' : World} (h : GW w) (hB : 4 < B) (hB2 : 3 < B) (hb : Below B w w') : GW w' := by
 obtain ⟨h1, h2⟩ := h; refine ⟨?_, fun j hj => (hb.cell (p := ⟨3, j, none⟩) hB2).trans (h2 j hj)⟩; unfold Lib.TabIs World.var? at h1 ⊢; rw [named_pow10] at h1 ⊢; simp only [Option.bind_some] at h1 ⊢; rw [hb.block 4 hB]; exact h1
end Go.Proofs.YtmbacdkpgfbclaaGreatDoor
