/- relate.Top walked: the heap is filled, and as many as are asked for are taken out; conditions: up to 2^42 values. -/
import Derived.Test.YtoanmnhkhookfaaGreatDoorPush
import Derived.Test.YtoanmnhkhookfaaGreatDoorPop
import Derived.Laws.EntriesVeiled
namespace Go.Proofs.YtoanmnhkhookfaaGreatDoor
open Go.RowKit Go.Proofs.YtoanmnhkhookfaaGreatDoorW.PrintWords Heap
set_option linter.unusedVariables false
set_option linter.unusedSimpArgs false

abbrev Val := Int × Int × ByteArray
/-- The value with its number. -/
abbrev entOf (v : Val) (i : Nat) : Ent := (v.1, v.2.1, v.2.2, (i : Int))
/-- A row of values that is read. -/
def VR (w : World) (A : Option Addr) (vs : List Val) : Prop := ∀ i, i < vs.length → ∃ ad : Addr, A = some ad ∧ w.cell? (ad.add (i * 3)) = some (.int .i64 (g vs i).1) ∧ w.cell? ⟨(ad.add (i * 3)).block, (ad.add (i * 3)).off + 1, none⟩ = some (.int .u64 (g vs i).2.1) ∧ w.cell? ⟨(ad.add (i * 3)).block, (ad.add (i * 3)).off + 2, none⟩ = some (.string (g vs i).2.2)
theorem VR.below {w w' : World} {A : Option Addr} {vs : List Val} (h : VR w A vs) (hb : Below w.heap.size w w') : VR w' A vs := fun i hi => by
  obtain ⟨ad, h1, h2, h3, h4⟩ := h i hi
  exact ⟨ad, h1, pw_cell_below hb h2, pw_cell_below hb h3, pw_cell_below hb h4⟩
/-- The heap of the first m values. -/
def heapOf (lt : Ent → Ent → Bool) (vs : List Val) : Nat → List Ent
  | 0 => []
  | m + 1 => push lt (heapOf lt vs m) (entOf (g vs m) m)
theorem heapOf_length (lt : Ent → Ent → Bool) (vs : List Val) : ∀ m, (heapOf lt vs m).length = m
  | 0 => rfl
  | m + 1 => by rw [heapOf, push_length, heapOf_length lt vs m]
theorem heapOf_small (lt : Ent → Ent → Bool) (vs : List Val) (hs : ∀ i, i < vs.length → (g vs i).2.2.size ≤ 4611686018427387904) : ∀ m, m ≤ vs.length → SmL (heapOf lt vs m)
  | 0, _ => fun e he => by cases he
  | m + 1, hm => (heapOf_small lt vs hs m (by omega)).push lt (hs m (by omega))
/-- The numbers of the first j that come out. -/
def popIds (lt : Ent → Ent → Bool) : Nat → List Ent → List Int
  | 0, _ => []
  | j + 1, L => (g L 0).2.2.2 :: popIds lt j (pop lt L)
def popN (lt : Ent → Ent → Bool) : Nat → List Ent → List Ent
  | 0, L => L
  | j + 1, L => popN lt j (pop lt L)
theorem popN_succ (lt : Ent → Ent → Bool) : ∀ (j : Nat) (L : List Ent), popN lt (j + 1) L = pop lt (popN lt j L)
  | 0, L => rfl
  | j + 1, L => by
    show popN lt (j + 1) (pop lt L) = _
    rw [popN_succ lt j (pop lt L)]
    rfl
theorem popIds_succ (lt : Ent → Ent → Bool) : ∀ (j : Nat) (L : List Ent), popIds lt (j + 1) L = popIds lt j L ++ [(g (popN lt j L) 0).2.2.2]
  | 0, L => rfl
  | j + 1, L => by
    show (g L 0).2.2.2 :: popIds lt (j + 1) (pop lt L) = _
    rw [popIds_succ lt j (pop lt L)]
    rfl
theorem popN_length (lt : Ent → Ent → Bool) : ∀ (j : Nat) (L : List Ent), (popN lt j L).length = L.length - j
  | 0, L => rfl
  | j + 1, L => by rw [popN_succ, pop_length, popN_length lt j L]; omega
theorem popN_small (lt : Ent → Ent → Bool) : ∀ (j : Nat) (L : List Ent), SmL L → SmL (popN lt j L)
  | 0, L, h => h
  | j + 1, L, h => popN_small lt j _ (h.pop lt)
theorem popIds_length (lt : Ent → Ent → Bool) : ∀ (j : Nat) (L : List Ent), (popIds lt j L).length = j
  | 0, L => rfl
  | j + 1, L => by simp [popIds, popIds_length lt j]
def topIds (lt : Ent → Ent → Bool) (vs : List Val) (k : Int) : List Int := popIds lt (min k.toNat vs.length) (heapOf lt vs vs.length)
theorem heapAt_new {base b : Nat} {w : World} (hblk : w.heap[b]? = some (.cells #[.slice none 0 0, lessV] 99 (0, 0))) (hb : base ≤ b) : HeapAt base b 99 #[.slice none 0 0, lessV] (.slice none 0 0) [] w :=
  ⟨hblk, rfl, rfl, own_nil _ _ _ _, by decide, hb⟩
/-- A row of another type stays as it was. -/
theorem own_turned {base b T e size n : Nat} {cs : Array Value} {v v' u : Value} {L : List Ent} {w w' : World} {xs : List Value} {B : Nat} (hH : HeapAt base b T cs v L w) (hT : Turned base b v v' w w') (h : w.ownsRow B e size u n xs) (h1 : e ≠ 102) (h2 : e ≠ T) : w'.ownsRow B e size u n xs := by
  refine own_move h fun k hk => hT.keep k (own_lt h k hk) ?_ ?_
  · have := own_ne h hH.blk h2
    rw [hk] at this
    exact fun e => this (by rw [e])
  · rcases own_type_ne hH.row h (Ne.symm h1) with h0 | h0
    · rw [h0]; simp
    · rw [hk] at h0
      exact Ne.symm h0
theorem HeapAt.grown {base b T : Nat} {cs : Array Value} {v : Value} {L : List Ent} {w w' : World} {row : Option Nat} (h : HeapAt base b T cs v L w) (hg : w.grownBy w' row) (hb : some b ≠ row) (hr : v.ownBlock = none ∨ v.ownBlock ≠ row) : HeapAt base b T cs v L w' :=
  ⟨blk_grown h.blk hg hb, h.c0, h.c1, own_other h.row hg hr, h.ne, h.hb⟩
theorem infoI : (Tryz.prog.info? 3).map (fun i => (i.zero, i.size, i.bytes)) = some (some (.int .i64 0), 1, 8) := by kernel_rfl
set_option maxRecDepth 100000 in
set_option maxHeartbeats 4000000 in
theorem Top_walk (lt : Ent → Ent → Bool) (HL : Less lt) (A : Option Addr) (c : Nat) (vs : List Val) (k : Int) (w : World) (hv : VR w A vs) (hs : ∀ i, i < vs.length → (g vs i).2.2.size ≤ 4611686018427387904) (hl : vs.length < 4398046511104) (h5 : 5 ≤ w.heap.size) (HG : GW w) :
    Calls Tryz.prog 25 #[.slice A vs.length c, .int .i64 k] w fun e w' => ∃ v, e = .returned v ∧ w'.ownsRow w.heap.size 3 1 v (topIds lt vs k).length (nums .i64 (topIds lt vs k)) ∧ Below w.heap.size w w' := by
  have HV := Lib.hid hv
  have HS := Lib.hid hs
  have hlb : (vs.length : Int) < 4398046511104 := by omega
  clear hv hs
  go_enter Tryz.func25, Tryz.ntmps25
  go_wp2_with fail
  obtain ⟨B, hB⟩ : ∃ B, B = w.heap.size := ⟨_, rfl⟩
  have HB := Lib.hid hB
  obtain ⟨W0, hW0⟩ : ∃ W0, W0 = w.alloc (.cells #[.slice none 0 0, lessV] 99) := ⟨_, rfl⟩
  have hH0 : HeapAt w.heap.size w.heap.size 99 #[.slice none 0 0, lessV] (.slice none 0 0) [] W0 := by rw [hW0]; exact heapAt_new (blk_new _ _) (Nat.le_refl _)
  have hB0 : Below w.heap.size w W0 := by rw [hW0]; exact below_alloc (Below.refl _ _) _
  have H0 := Lib.hid hH0
  have B0 := Lib.hid hB0
  have HW0 := Lib.hid hW0
  clear hH0 hB0 hB hW0
  go_loopg [6, 7, 13] vs.length (fun d s6 s7 s13 wx => ∃ (i : Nat) (cs : Array Value) (v : Value), s13 = .int .i64 (i : Int) ∧ Aside0 (HeapAt w.heap.size w.heap.size 99 cs v (heapOf lt vs i) wx) ∧ Aside0 (Below w.heap.size w wx) ∧ Aside0 (d = vs.length - i) ∧ i ≤ vs.length)
  case atStart => exact ⟨0, #[.slice none 0 0, lessV], .slice none 0 0, rfl, ⟨by have h := H0.out; rw [HW0.out] at h; exact h⟩, ⟨by have h := B0.out; rw [HW0.out] at h; exact h⟩, ⟨rfl⟩, Nat.zero_le _⟩
  case round =>
    obtain ⟨i, cs, v, rfl, R1, R2, R3, hi⟩ := hrel
    by_cases hlt : i < vs.length
    · have hd : decide ((i : Int) < (vs.length : Int)) = true := decide_eq_true (by omega)
      obtain ⟨ad, hA, x0, x1, x2⟩ := (HV.out.below R2.out) i hlt
      subst hA
      obtain ⟨X, hX⟩ : ∃ X, g vs i = X := ⟨_, rfl⟩
      rw [hX] at x0 x1 x2
      obtain ⟨xa, xb, xc⟩ := X
      have HX := Lib.hid hX
      clear hX
      have hbw := Nat.le_trans R1.out.hb (Nat.le_of_lt R1.out.lt)
      have HC := Lib.hid (push_any lt HL w.heap.size w.heap.size 99 cs v (heapOf lt vs i) (xa, xb, xc, (i : Int)) (wr.alloc (.cells #[.int .i64 xa, .int .u64 xb, .string xc] 29)) (R1.out.below (below_alloc (Below.refl _ _) _)) (heapOf_small lt vs HS.out i (by omega)) (by have h := HS.out i hlt; rw [HX.out] at h; exact h) (by rw [heapOf_length]; omega) h5
        (HG.below (R2.out.trans ((below_alloc (Below.refl _ _) _).mono (by have := R2.out.size; exact this)))))
      go_wp2_with fail
      refine HC.out.mono ?_
      rintro e w2 ⟨rfl, v', hH2, hT2⟩
      have HH2 := Lib.hid hH2
      have HT2 := Lib.hid hT2
      clear hH2 hT2
      go_wp2_with fail
      go_roundg (vs.length - (i + 1))
      case measure => rw [R3.out]; omega
      case rel =>
        refine ⟨i + 1, cs.setIfInBounds 0 v', v', (by go_num), ⟨?_⟩, ⟨?_⟩, ⟨rfl⟩, by omega⟩
        · have h := HH2.out
          show HeapAt _ _ _ _ _ (push lt (heapOf lt vs i) (entOf (g vs i) i)) _
          rw [HX.out]
          exact h
        · exact (below_alloc R2.out _).trans HT2.out.below
    · obtain rfl : i = vs.length := by omega
      have hd : decide ((vs.length : Int) < (vs.length : Int)) = false := decide_eq_false (by omega)
      obtain ⟨N, hN⟩ : ∃ N, N = min k.toNat vs.length := ⟨_, rfl⟩
      have HN := Lib.hid hN
      clear hN
      go_wp2_with fail
      go_loopg [8, 9] vs.length (fun d s8 s9 wx => ∃ (j : Nat) (cs : Array Value) (v : Value), s9 = .int .i64 (j : Int) ∧ Aside0 (HeapAt w.heap.size w.heap.size 99 cs v (popN lt j (heapOf lt vs vs.length)) wx) ∧ Aside0 (wx.ownsRow w.heap.size 3 1 s8 j (nums .i64 (popIds lt j (heapOf lt vs vs.length)))) ∧ Aside0 (Below w.heap.size w wx) ∧ Aside0 (d = vs.length - j) ∧ Aside0 (j ≤ N) ∧ j ≤ vs.length)
      case atStart => exact ⟨0, cs, v, rfl, ⟨R1.out⟩, ⟨own_nil _ _ _ _⟩, ⟨R2.out⟩, ⟨rfl⟩, ⟨Nat.zero_le _⟩, Nat.zero_le _⟩
      case round =>
        clear R1 R2 R3
        obtain ⟨j, cs, v, rfl, R1, R2, R3, R4, R5, hj⟩ := hrel
        by_cases h1 : (j : Int) < k
        · have h1d : decide ((j : Int) < k) = true := decide_eq_true h1
          by_cases h2 : j < vs.length
          · have h2d : decide ((j : Int) < (vs.length : Int)) = true := decide_eq_true (by omega)
            obtain ⟨m, hm⟩ : ∃ m, vs.length - j = m + 1 := ⟨vs.length - j - 1, by omega⟩
            have hLl : (popN lt j (heapOf lt vs vs.length)).length = m + 1 := by rw [popN_length, heapOf_length]; exact hm
            obtain ⟨L1, hL1⟩ : ∃ L1, popN lt j (heapOf lt vs vs.length) = L1 := ⟨_, rfl⟩
            rw [hL1] at R1 hLl
            have hrow := R1.out.row
            rw [hLl] at hrow
            obtain ⟨g1, c1, hv1⟩ := own_form hrow (by omega)
            have R1' := R1.out
            rw [hv1] at R1'
            have HC := Lib.hid (pop_any lt HL w.heap.size w.heap.size 99 cs g1 m c1 L1 wr R1' hLl (by rw [← hL1]; exact popN_small lt j _ (heapOf_small lt vs HS.out _ (Nat.le_refl _))) (by rw [hLl]; omega) h5 (HG.below R3.out))
            have HL1 := Lib.hid hL1
            have HV1 := Lib.hid hv1
            have HM := Lib.hid hm
            have HLl := Lib.hid hLl
            clear hL1 hv1 hrow R1' hm hLl
            obtain ⟨X, hX⟩ : ∃ X, g L1 0 = X := ⟨_, rfl⟩
            rw [hX] at HC
            obtain ⟨xa, xb, xc, xd⟩ := X
            have HX := Lib.hid hX
            clear hX
            have hfl : ∀ u : World, (Instr.field 102 (entV (xa, xb, xc, xd)) 1).run Tryz.prog u = .ok (.int .i64 xd) u := fun _ => by kernel_rfl
            go_wp2_with fail
            refine HC.out.mono ?_
            rintro e w2 ⟨rfl, v', hH2, hT2⟩
            have HH2 := Lib.hid hH2
            have HT2 := Lib.hid hT2
            clear hH2 hT2
            have hO : w2.ownsRow w.heap.size 3 1 u8 (popIds lt j (heapOf lt vs vs.length)).length (nums .i64 (popIds lt j (heapOf lt vs vs.length))) := by
              rw [popIds_length]
              have hT := HT2.out
              rw [← HV1.out] at hT
              exact own_turned R1.out hT R2.out (by decide) (by decide)
            have HO := Lib.hid hO
            have HB2 := Lib.hid (R3.out.trans HT2.out.below)
            have hln : ((popIds lt j (heapOf lt vs vs.length)).length + 1) * 8 ≤ 140737488355328 := by rw [popIds_length]; omega
            have HLn := Lib.hid hln
            clear hO hln
            go_wp2_with (first | ((with_reducible refine print_append_num (w0 := w) (W := w2) w.heap.size rfl (.tmp 34) (.tmp 37) 37 3 .i64 8 rfl Tryz.underlying37 infoI (by omega) u8 (popIds lt j (heapOf lt vs vs.length)) xd rfl ?hx HO.out HB2.out ?hb HLn.out ?_); (case hx => rfl); (case hb => exact HB2.out.size); intro v1 w3 ho3 hb3 hg3 hat3; (have G1 := Lib.hid ho3); (have G2 := Lib.hid hb3); (have G3 := Lib.hid hg3); clear ho3 hb3 hg3 hat3))
            go_roundg (vs.length - (j + 1))
            case measure => rw [R4.out]; omega
            case rel =>
              have hO := HO.out
              refine ⟨j + 1, cs.setIfInBounds 0 v', v', (by go_num), ⟨?_⟩, ⟨?_⟩, ⟨G2.out⟩, ⟨rfl⟩, ⟨by have := HN.out; omega⟩, by omega⟩
              · rw [popN_succ, HL1.out]
                exact HH2.out.grown G3.out (own_ne hO HH2.out.blk (by decide)) (own_type_ne HH2.out.row hO (by decide))
              · have h := G1.out
                rw [List.length_append, popIds_length] at h
                rw [popIds_succ, HL1.out, HX.out]
                exact h
          · have h2d : decide ((j : Int) < (vs.length : Int)) = false := decide_eq_false (by omega)
            go_wp2_with fail
            go_ret
            have hjN : j = N := by have := R5.out; have := HN.out; omega
            refine ⟨_, rfl, ?_, R3.out⟩
            unfold topIds
            rw [← HN.out, ← hjN, popIds_length]
            exact R2.out
        · have h1d : decide ((j : Int) < k) = false := decide_eq_false h1
          go_wp2_with fail
          go_ret
          have hjN : j = N := by have := R5.out; have := HN.out; omega
          refine ⟨_, rfl, ?_, R3.out⟩
          unfold topIds
          rw [← HN.out, ← hjN, popIds_length]
          exact R2.out
end Go.Proofs.YtoanmnhkhookfaaGreatDoor
