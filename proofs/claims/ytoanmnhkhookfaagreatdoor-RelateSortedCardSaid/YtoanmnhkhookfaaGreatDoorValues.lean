/- abacuslaw18.values, walked: the row stands anew; conditions: up to 2^42 values. -/
import Derived.Test.YtoanmnhkhookfaaGreatDoorPXRelateTextsx7
import Derived.Laws.CopyOwn
import Derived.Laws.MakeOwn
import Derived.Laws.OwnMore
namespace Go.Proofs.YtoanmnhkhookfaaGreatDoor.PXRelateTexts
open Go.Proofs.YtoanmnhkhookfaaGreatDoor
open Go.RowKit Go.Proofs.YtoanmnhkhookfaaGreatDoorW.PrintWords Go.Proofs.YtoanmnhkhookfaaGreatDoorW.PrintLast Go.Proofs.YtoanmnhkhookfaaGreatDoorW.PrintMore
set_option linter.unusedVariables false
set_option linter.unusedSimpArgs false
theorem run_copy_rows {P : Program} (w : World) (dT sT ty elem : TypeId) (g o dLen dCap : Nat) (a : Addr) (sLen sCap size m : Nat) (cur : Array Value) (t : TypeId) (cs : List Value)
    (hu : P.underlying dT = some (.slice elem)) (hs : (P.info? elem).map (·.size) = some size)
    (hg : w.heap[g]? = some (.cells cur t (0, 0))) (hm : Nat.min sLen dLen = m) (hn : cs.length = m * size)
    (hsrc : ∀ j v, cs[j]? = some v → w.cell? (a.add j) = some v) (hfit : o + cs.length ≤ cur.size) (h1 : ∀ v ∈ cs, v.oneCell' = true) :
    (Builtin.copy_ #[dT, sT] ty #[.slice (some ⟨g, o, none⟩) dLen dCap, .slice (some a) sLen sCap]).run P w =
      .ok (goInt m) (w.setRow g (cur.toList.take o ++ cs ++ cur.toList.drop (o + cs.length)).toArray) := by
  have hl := run_loadCells_list (P := P) w a cs hsrc
  have hst := run_storeCells_at P g o t cs 0 cur w hg (by simpa using hfit) h1
  rw [hn] at hl
  cases hq : P.info? elem with
  | none => simp [hq] at hs
  | some i =>
    have hi : i.size = size := by simpa [hq] using hs
    simp [Builtin.copy_, run_underlying hu, Builtin.lenOf, Builtin.firstCells, sizeOf, typeInfo, hq, hi, hm, hl, hst]
theorem run_copy_nothing {P : Program} (w : World) (dT sT ty elem size : TypeId) (d a : Option Addr) (dLen dCap sLen sCap : Nat) (hu : P.underlying dT = some (.slice elem)) (hs : (P.info? elem).map (·.size) = some size) (hn : Nat.min sLen dLen = 0) :
    (Builtin.copy_ #[dT, sT] ty #[.slice d dLen dCap, .slice a sLen sCap]).run P w = .ok (goInt 0) w := by
  cases hq : P.info? elem with
  | none => simp [hq] at hs
  | some i =>
    have hl : ∀ (x : Addr), (loadCells x 0).run P w = .ok #[] w := fun x => by simpa using run_loadCells_list (P := P) w x [] (by simp)
    cases d <;> cases a <;> simp [Builtin.copy_, run_underlying hu, Builtin.lenOf, Builtin.firstCells, sizeOf, typeInfo, hq, hn, storeCells, hl]
section
variable {P : Program} {ops : Array Oper} {rest : List Oper} {o : Oper} {a : Act} {Q : Exit → Act → World → Prop} {W : World} {α : Type}
/-- make([]T, 0, n): an empty row of one's own. -/
theorem Kd.R_makecap (d : Kd α) {w0 W : World} (base e : Nat) (hgd : o.guard = none) {N : Tmp} (hd : o.dst = some N) (t : TypeId) (x y : Operand) (ho : o.op = .makeSlice t x y) (n : Int) (hx : a.eval x = .int .i64 0) (hy : a.eval y = .int .i64 n)
    (ht : P.underlying t = some (.slice e)) (z : Value) (bytes : Nat) (hinfo : (P.info? e).map (fun i => (i.zero, i.size, i.bytes)) = some (some z, d.sz, bytes)) (hz : z.cells.size = d.sz) (hs0 : 0 < d.sz) (hb0 : 0 < bytes)
    (z0 : α) {ok okp : Nat → Prop} (hzero : d.M W base okp z0 z.cells.toList) (hok : ∀ k, okp k → ok k) (hfresh : ok W.heap.size) (h0 : 0 ≤ n) (hl : n.toNat * bytes ≤ 281474976710656) (HB : Below base w0 W) (hbase : base ≤ W.heap.size)
    (h : ∀ v1 w1, d.R e w1 base ok v1 (List.replicate 0 z0) → Below base w0 w1 → W.grownBy w1 none → (∃ b, v1.ownBlock = some b ∧ W.heap.size ≤ b) → wpList P ops Q rest (a.put o.dst v1) w1) : wpList P ops Q (o :: rest) a W := by
  obtain ⟨m, rfl⟩ := Int.eq_ofNat_of_zero_le h0
  simp only [Int.toNat_natCast] at hl
  obtain ⟨i0, hi, hzz⟩ := Option.map_eq_some_iff.1 hinfo
  simp only [Prod.mk.injEq] at hzz
  obtain ⟨hz0, hz1, hz2⟩ := hzz
  have hm : m ≤ 281474976710656 := Nat.le_trans (Nat.le_mul_of_pos_right _ hb0) hl
  have hr := run_make (P := P) W t e i0 z ht hi hz0 .i64 .i64 0 (m : Int) (by omega) (by omega)
    (by
      have h3 : ((i0.bytes * m : Nat) : Int) ≤ 281474976710656 := by rw [hz2, Nat.mul_comm]; omega
      rwa [Int.natCast_mul] at h3) (by omega)
  simp only [Int.toNat_natCast, Int.toNat_zero] at hr
  rw [hz1] at hr
  have hrun : (execOp a.eval o).run P W = .ok (.value (.slice (some ⟨W.heap.size, 0, none⟩) 0 m)) (W.alloc (.cells (madeCells z.cells (m * d.sz)) e)) := by
    simp [execOp, ho, hx, hy, hr]
  refine Kd.event_run hgd hrun (h _ _ ⟨fun k hk => ?_, [], ⟨by simp, .inr ⟨W.heap.size, m, _, rfl, hbase, heap_alloc_new W _, Nat.zero_le _, by unfold maxLen; omega, size_madeCells _ _, by simp⟩⟩, Reps.none _ _⟩ (HB.alloc hbase _) (World.grownBy_alloc W _ none) ⟨W.heap.size, by simp [Value.ownBlock], Nat.le_refl _⟩)
  have : W.heap.size = k := by simpa [Value.ownBlock] using hk
  subst this
  exact hfresh
end
def row29 (x : S29) : List Value := [.int .i64 x.f0, .int .u64 x.f1, .string x.f2]
def cells29 : List S29 → List Value
  | [] => []
  | x :: xs => .int .i64 x.f0 :: .int .u64 x.f1 :: .string x.f2 :: cells29 xs
theorem cells29_length : ∀ l, (cells29 l).length = l.length * 3
  | [] => rfl
  | x :: xs => by
    rw [cells29, List.length_cons, List.length_cons, List.length_cons, cells29_length xs, List.length_cons]
    omega
theorem cells29_one : ∀ (l : List S29), ∀ v ∈ cells29 l, v.oneCell' = true
  | [], v, h => by cases h
  | x :: xs, v, h => by
    rw [cells29] at h
    rcases List.mem_cons.mp h with e | h
    · rw [e]; rfl
    · rcases List.mem_cons.mp h with e | h
      · rw [e]; rfl
      · rcases List.mem_cons.mp h with e | h
        · rw [e]; rfl
        · exact cells29_one xs v h
theorem cells29_drop : ∀ (l : List S29) (j : Nat), (cells29 l).drop (j * 3) = cells29 (l.drop j)
  | l, 0 => by rw [Nat.zero_mul, List.drop_zero, List.drop_zero]
  | [], j + 1 => by simp [cells29]
  | x :: xs, j + 1 => by
    rw [cells29, show (j + 1) * 3 = j * 3 + 1 + 1 + 1 by omega, List.drop_succ_cons, List.drop_succ_cons, List.drop_succ_cons, cells29_drop xs j, List.drop_succ_cons]
theorem cells29_reps (w : World) (base : Nat) (ok : Nat → Prop) (l : List S29) : Reps (k29.M w base ok) 3 l (cells29 l) :=
  ⟨cells29_length l, fun j p hj => by
    obtain ⟨hl, hp⟩ := List.getElem?_eq_some_iff.mp hj
    rw [cells29_drop, List.drop_eq_getElem_cons hl, hp]
    exact k29_mkM w base ok p⟩
theorem cells29_read {w : World} {ad : Addr} : ∀ (xs : List S29) (off : Nat), (∀ j p, xs[j]? = some p → ∀ i u, (row29 p)[i]? = some u → w.cell? (ad.add ((off + j) * 3 + i)) = some u) → ∀ j v, (cells29 xs)[j]? = some v → w.cell? (ad.add (off * 3 + j)) = some v
  | [], _, _, j, v, h => by simp [cells29] at h
  | x :: xs, off, hr, 0, v, h => hr 0 x rfl 0 v h
  | x :: xs, off, hr, 1, v, h => hr 0 x rfl 1 v h
  | x :: xs, off, hr, 2, v, h => hr 0 x rfl 2 v h
  | x :: xs, off, hr, j + 3, v, h => by
    have ih := cells29_read xs (off + 1) (fun j p hj i u hu => by
      have := hr (j + 1) p hj i u hu
      rwa [show off + (j + 1) = off + 1 + j by omega] at this) j v h
    rwa [show (off + 1) * 3 + j = off * 3 + (j + 3) by omega] at ih
set_option maxRecDepth 100000 in
set_option maxHeartbeats 2000000 in
theorem values_walk (A0 : Option Addr) (c0 : Nat) (l0 : List S29) (w : World) (hr0 : Kd.C k29 w A0 l0.length l0) (hl : l0.length < 4398046511104) :
    Calls Tryz.prog 24 #[.slice A0 l0.length c0] w fun e w' => ∃ v, e = .returned v ∧ Kd.R k29 29 w' w.heap.size (fun _ => True) v l0 ∧ Below w.heap.size w w' := by
  have hinf : (Tryz.prog.info? 29).map (fun i => (i.zero, i.size, i.bytes)) = some (some (vAgg 0 0 ⟨#[]⟩), 3, 32) := by kernel_rfl
  obtain ⟨i0, hi, hzz⟩ := Option.map_eq_some_iff.1 hinf
  simp only [Prod.mk.injEq] at hzz
  obtain ⟨hz, hsz, hby⟩ := hzz
  have hmk : ∀ u : World, (Instr.makeSlice 36 (.int .i64 (l0.length : Int)) (.int .i64 (l0.length : Int))).run Tryz.prog u = .ok (.slice (some ⟨u.heap.size, 0, none⟩) l0.length l0.length) (u.alloc (.cells (madeCells (vAgg 0 0 ⟨#[]⟩).cells (l0.length * 3)) 29)) := fun u => by
    have h := run_make (P := Tryz.prog) u 36 29 i0 _ Tryz.underlying36 hi hz .i64 .i64 (l0.length : Int) (l0.length : Int) (by omega) (by omega) (by rw [hby]; omega) (by omega)
    rw [hsz] at h
    simpa using h
  obtain ⟨cur, hcur⟩ : ∃ cur, cur = madeCells (vAgg 0 0 ⟨#[]⟩).cells (l0.length * 3) := ⟨_, rfl⟩
  have hcs : cur.size = l0.length * 3 := by rw [hcur]; exact size_madeCells _ _
  rw [← hcur] at hmk
  obtain ⟨W1, hW1⟩ : ∃ W1, W1 = w.alloc (.cells cur 29) := ⟨_, rfl⟩
  have hb1 : W1.heap[w.heap.size]? = some (.cells cur 29 (0, 0)) := by rw [hW1]; exact blk_new _ _
  have hB1 : Below w.heap.size w W1 := by rw [hW1]; exact below_alloc (Below.refl _ _) _
  have hcp : (Builtin.copy_ #[36, 36] 3 #[.slice (some ⟨w.heap.size, 0, none⟩) l0.length l0.length, .slice A0 l0.length c0]).run Tryz.prog W1 = .ok (goInt (l0.length : Int)) (W1.setRow w.heap.size (cells29 l0).toArray) := by
    have hinfo : (Tryz.prog.info? 29).map (·.size) = some 3 := by rw [hi]; exact congrArg some hsz
    cases hl0 : l0 with
    | nil =>
      have h := run_copy_nothing (P := Tryz.prog) W1 36 36 3 29 3 (some ⟨w.heap.size, 0, none⟩) A0 0 0 0 c0 Tryz.underlying36 hinfo rfl
      have hc0 : cur = #[] := Array.eq_empty_of_size_eq_zero (by rw [hcs, hl0]; rfl)
      have e : W1.setRow w.heap.size (cells29 []).toArray = W1 := by
        rw [hc0] at hb1
        exact setRow_self W1 w.heap.size #[] 29 (0, 0) hb1
      rw [e]
      exact h
    | cons x xs =>
      rw [← hl0]
      obtain ⟨ad, hA, hc⟩ := hr0.2.2 (by rw [hl0]; exact Nat.succ_pos _)
      subst hA
      have hread : ∀ j v, (cells29 l0)[j]? = some v → W1.cell? (ad.add j) = some v := fun j v hj => by
        have h := cells29_read (w := w) (ad := ad) l0 0 (fun j p hp i u hu => by
          obtain ⟨c, _, hk, hcell⟩ := hc j p hp
          rw [k29_open hk] at hcell
          rw [Nat.zero_add]
          exact hcell i u hu) j v hj
        rw [Nat.zero_mul, Nat.zero_add] at h
        exact pw_cell_below hB1 h
      have h := run_copy_rows (P := Tryz.prog) W1 36 36 3 29 w.heap.size 0 l0.length l0.length ad l0.length c0 3 l0.length cur 29 (cells29 l0) Tryz.underlying36 hinfo hb1 (Nat.min_self _) (cells29_length l0) hread (by rw [cells29_length, hcs]; omega) (cells29_one l0)
      have e : (cur.toList.take 0 ++ cells29 l0 ++ cur.toList.drop (0 + (cells29 l0).length)).toArray = (cells29 l0).toArray := by
        rw [List.take_zero, List.nil_append, List.drop_of_length_le (by rw [cells29_length, Array.length_toList, hcs]; omega), List.append_nil]
      rw [e] at h
      exact h
  obtain ⟨W2, hW2⟩ : ∃ W2, W2 = W1.setRow w.heap.size (cells29 l0).toArray := ⟨_, rfl⟩
  rw [← hW2] at hcp
  have hB2 : Below w.heap.size w W2 := by rw [hW2]; exact below_setRow hB1 (Nat.le_refl _) _
  have hb2 : W2.heap[w.heap.size]? = some (.cells (cells29 l0).toArray 29 (0, 0)) := by rw [hW2]; exact setRow_heap W1 w.heap.size cur _ 29 _ hb1
  have hR : Kd.R k29 29 W2 w.heap.size (fun _ => True) (.slice (some ⟨w.heap.size, 0, none⟩) l0.length l0.length) l0 :=
    ⟨fun _ _ => trivial, cells29 l0, ⟨cells29_length l0, .inr ⟨w.heap.size, l0.length, (cells29 l0).toArray, rfl, Nat.le_refl _, hb2, Nat.le_refl _, by unfold maxLen; omega, (show (cells29 l0).toArray.size = l0.length * 3 by simp [cells29_length]), List.take_of_length_le (show (cells29 l0).toArray.toList.length ≤ l0.length * 3 by simp [cells29_length])⟩⟩, cells29_reps _ _ _ _⟩
  have HB := Lib.hid hB2
  have HR := Lib.hid hR
  have HW := Lib.hid hW1
  rw [hW1] at hcp
  clear hB2 hR hW1 hW2 hb2 hb1 hB1 hcs hcur hr0
  go_enter Tryz.func24, Tryz.ntmps24
  go_wp2_with fail
  go_ret
  exact ⟨_, rfl, HR.out, HB.out⟩
end Go.Proofs.YtoanmnhkhookfaaGreatDoor.PXRelateTexts
