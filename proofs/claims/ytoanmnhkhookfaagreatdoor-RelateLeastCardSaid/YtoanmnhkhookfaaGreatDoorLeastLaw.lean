/- RelateLeast, walked; conditions: awake answers true; the script's texts and lists are of the reach's sizes. -/
import Derived.Test.YtoanmnhkhookfaaGreatDoorMuch
import Derived.Test.YtoanmnhkhookfaaGreatDoorLeast
namespace Go.Proofs.YtoanmnhkhookfaaGreatDoor
open Go.RowKit Go.Proofs.YtoanmnhkhookfaaGreatDoorW.PrintWords Go.Proofs.YtoanmnhkhookfaaGreatDoorW.PrintLast Heap
set_option linter.unusedVariables false
set_option linter.unusedSimpArgs false
def OrderC : Prop := ∀ (a b : Val) (u : World), a.2.2.size ≤ 4611686018427387904 → GW u → Calls Tryz.prog 19 #[vAgg a.1 a.2.1 a.2.2, vAgg b.1 b.2.1 b.2.2] u fun e u' => e = .returned (.int .i64 (ordV a b)) ∧ Below u.heap.size u u'
theorem lit_empty (w : World) (e size : Nat) {B : Nat} (hB : B ≤ w.heap.size) : (w.alloc (.cells #[] e)).ownsRow B e size (.slice (some ⟨w.heap.size, 0, none⟩) 0 0) 0 [] := by
  have h := World.ownsRow_lit (base := B) (e := e) (size := size) w #[] 0 hB (Nat.zero_le _) (by simp)
  simpa using h
theorem plain_size (k x : Int) (s : ByteArray) : (plainOf k x s).2.2.size ≤ s.size := by
  unfold plainOf
  split
  · exact Nat.zero_le _
  · split
    · exact Nat.le_refl _
    · split
      · exact Nat.le_refl _
      · exact Nat.zero_le _
section
variable {P : Program} {ops : Array Oper} {rest : List Oper} {o : Oper} {a : Act} {Q : Exit → Act → World → Prop}
theorem append_list {W : World} (base : Nat) (hgd : o.guard = none) (s x : Operand) (t e : TypeId) (z : Value) (size bytes : Nat)
    (ho : o.op = .call { callee := .builtin .append, args := #[s, x], argTypes := #[t, t] })
    (ht : P.underlying t = some (.slice e)) (hinfo : (P.info? e).map (fun i => (i.zero, i.size, i.bytes)) = some (some z, size, bytes)) (hz : z.cells.size = size) (hs0 : 0 < size) (hb0 : 0 < bytes)
    (v : Value) (n : Nat) (xs ys : List Value) (hs : a.eval s = v) (hx : a.eval x = .slice (some ⟨W.heap.size, 0, none⟩) 1 1) (hys : ys.length = size) (h1 : ∀ u ∈ ys, u.oneCell' = true)
    (HO : W.ownsRow base e size v n xs) (hbase : base ≤ W.heap.size) (hl : (n + 1) * bytes ≤ 140737488355328)
    (h : ∀ v1 w1, w1.ownsRow base e size v1 (n + 1) (xs ++ ys) → Below base W w1 → W.grownBy w1 v.ownBlock → wpList P ops Q rest (a.put o.dst v1) w1) :
    wpList P ops Q (o :: rest) a (W.alloc (.cells ys.toArray e)) := by
  obtain ⟨i0, hi, hzz⟩ := Option.map_eq_some_iff.1 hinfo
  simp only [Prod.mk.injEq] at hzz
  obtain ⟨hz0, hz1, hz2⟩ := hzz
  have hlen : n + 1 ≤ 140737488355328 := Nat.le_trans (Nat.le_mul_of_pos_right _ hb0) hl
  refine wpList_append_own_at (W.alloc (.cells ys.toArray e)) hgd s x t ho base e i0 z size bytes ht hi hz0 hz1 hz2 hz hs0 v n xs hs (HO.alloc _) ⟨W.heap.size, 0, none⟩ 1 1 ys hx (by rw [hys]; simp)
    (by simpa using World.news_of_block (cs := ys.toArray) (t := e) (fr := (0, 0)) (heap_alloc_new W (.cells ys.toArray e))) h1 (by simp only [maxLen]; omega) hl (by simp; omega) ?_
  intro v1 w1 hown hg _ hat
  exact h v1 w1 hown (((Below.refl _ _).alloc hbase _).grown hg (by simp; omega) (own_base HO)) (World.grownBy.trans (World.grownBy_alloc W _ _) hg)
end
theorem infoV : (Tryz.prog.info? 29).map (fun i => (i.zero, i.size, i.bytes)) = some (some (vAgg 0 0 ⟨#[]⟩), 3, 32) := by kernel_rfl
theorem infoB : (Tryz.prog.info? 4).map (fun i => (i.zero, i.size, i.bytes)) = some (some (.bool false), 1, 1) := by kernel_rfl
set_option maxRecDepth 100000 in
set_option maxHeartbeats 8000000 in
theorem RelateLeast_walk (HL : Less ltE) (HO : OrderC) (A : Option Addr) (c : Nat) (os : List OpV) (w : World) (hv : OR w A os) (hs : OSz os) (hl : os.length < 140737488355328) (h5 : 5 ≤ w.heap.size) (HG : GW w)
    (HA : Calls Tryz.prog 15 #[] w fun e w' => e = .returned (.bool true) ∧ Below w.heap.size w w') :
    Calls Tryz.prog 6 #[.slice A os.length c] w fun e w' => e = .returned (.bool true) ∧ Below w.heap.size w w' := by
  have HV := Lib.hid hv
  have HS := Lib.hid hs
  have HAw := Lib.hid HA
  clear hv hs HA
  go_enter Tryz.func6, Tryz.ntmps6
  go_wp2_with fail
  refine HAw.out.mono ?_
  rintro e w1 ⟨rfl, hb1⟩
  have B1 := Lib.hid hb1
  clear hb1
  go_wp2_with fail
  refine (much_walk A c os w1 (HV.out.below B1.out) HS.out hl).mono ?_
  rintro e w2 ⟨b, rfl, hsh, nd, rfl⟩
  have HSh := Lib.hid hsh
  clear hsh
  cases b with
  | true =>
    go_wp2_with fail
    go_ret
    exact ⟨rfl, pw_below_drewN B1.out _⟩
  | false =>
    obtain ⟨hlen, hshort⟩ := HSh.out rfl
    have HShort := Lib.hid hshort
    clear hshort
    have hlb : (os.length : Int) ≤ 524288 := by omega
    go_wp2_with fail
    refine (NewQueue_walk (w1.drewN nd)).mono ?_
    rintro e w3 ⟨rfl, hw3⟩
    have h51 : 5 ≤ (w1.drewN nd).heap.size := Nat.le_trans h5 B1.out.size
    obtain ⟨q, hq⟩ : ∃ q, q = (w1.drewN nd).heap.size := ⟨_, rfl⟩
    have hQ3 : QAt (w1.drewN nd).heap.size (w1.drewN nd).heap.size (.slice none 0 0) [] 0 w3 := by rw [hw3]; exact qAt_new (Nat.le_refl _)
    have hB3 : Below w.heap.size w w3 := by rw [hw3]; exact below_alloc (pw_below_drewN B1.out _) _
    rw [← hq] at hQ3 h51
    rw [← hq]
    have hwq : w.heap.size ≤ q := by rw [hq]; exact B1.out.size
    have Q3 := Lib.hid hQ3
    have B3 := Lib.hid hB3
    have HQ := Lib.hid hq
    clear hw3 hQ3 hB3 hq
    go_wp2_with fail
    obtain ⟨W5, hW5⟩ : ∃ W5, W5 = (w3.alloc (.cells #[] 29)).alloc (.cells #[] 4) := ⟨_, rfl⟩
    have hB5 : Below w3.heap.size w3 W5 := by rw [hW5]; exact below_alloc (below_alloc (Below.refl _ _) _) _
    have hR5 : W5.ownsRow w.heap.size 29 3 (.slice (some ⟨w3.heap.size, 0, none⟩) 0 0) 0 [] := by rw [hW5]; exact (lit_empty w3 29 3 B3.out.size).alloc _
    have hS5 : W5.ownsRow w.heap.size 4 1 (.slice (some ⟨w3.heap.size + 1, 0, none⟩) 0 0) 0 [] := by
      have h := lit_empty (w3.alloc (.cells #[] 29)) 4 1 (B := w.heap.size) (Nat.le_trans B3.out.size (by simp))
      rw [hW5]
      simpa using h
    have Q5 := Lib.hid (Q3.out.below hB5)
    have B5 := Lib.hid (B3.out.trans (hB5.mono B3.out.size))
    have R5 := Lib.hid hR5
    have S5 := Lib.hid hS5
    rw [← hW5]
    clear hW5 hB5 hR5 hS5
    go_loopg [5, 6, 7, 8] os.length (fun d s5 s6 s7 s8 wx => ∃ (i : Nat) (v : Value) (vs : List Val) (bs : List Bool) (L : List Ent), s7 = .int .i64 (L.length : Int) ∧ s8 = .int .i64 (i : Int) ∧ Aside0 (QAt q q v L (vs.length : Int) wx) ∧ Aside0 (wx.ownsRow w.heap.size 29 3 s5 vs.length (flatV vs)) ∧ Aside0 (wx.ownsRow w.heap.size 4 1 s6 bs.length (flatB bs)) ∧ Aside0 (Below w.heap.size w wx) ∧ Aside0 (InvL vs bs L) ∧ Aside0 (SmL L) ∧ Aside0 (∀ i, i < vs.length → (g vs i).2.2.size ≤ 16777216) ∧ Aside0 (d = os.length - i) ∧ vs.length ≤ i ∧ L.length ≤ i ∧ i ≤ os.length)
    case atStart => exact ⟨0, .slice none 0 0, [], [], [], rfl, rfl, ⟨Q5.out⟩, ⟨R5.out⟩, ⟨S5.out⟩, ⟨B5.out⟩, ⟨inv_nil⟩, ⟨fun e he => (by cases he)⟩, ⟨fun i hi => absurd hi (Nat.not_lt_zero _)⟩, ⟨rfl⟩, Nat.le_refl _, Nat.le_refl _, Nat.zero_le _⟩
    case round =>
      clear Q5 R5 S5 B5
      obtain ⟨i, v, vs, bs, L, rfl, rfl, R1, R2, R3, R4, R5, R6, R7, R8, hvi, hLi, hi⟩ := hrel
      by_cases hlt : i < os.length
      · have hd : decide ((i : Int) < (os.length : Int)) = true := decide_eq_true (by omega)
        obtain ⟨ad, hA, x0, hc⟩ := (HV.out.below R4.out) i hlt
        subst hA
        have hsx := HShort.out i hlt
        obtain ⟨X, hX⟩ : ∃ X, opAt os i = X := ⟨_, rfl⟩
        rw [hX] at x0 hc hsx
        obtain ⟨k0, n0, ⟨a0, a1, a2⟩, ⟨b0, b1, b2⟩, c2, la, ll, lc, wv⟩ := X
        have x1 := hc 0 _ rfl
        have x2 := hc 1 _ rfl
        have x3 := hc 2 _ rfl
        have x4 := hc 3 _ rfl
        have x5 := hc 4 _ rfl
        have x6 := hc 5 _ rfl
        have x7 := hc 6 _ rfl
        have x8 := hc 7 _ rfl
        have x9 := hc 8 _ rfl
        have x10 := hc 9 _ rfl
        dsimp only at x0 x1 x2 x3 x4 x5 x6 x7 x8 x9 x10 hsx
        have HSX := Lib.hid hsx
        clear hc hX hsx
        by_cases hk : k0 = 7
        · subst hk
          have hkb : ((7 : Int) != 7) = false := rfl
          go_wp2_with fail
          obtain ⟨W6, hW6⟩ : ∃ W6, W6 = wr.alloc (.cells #[.int .i64 7, .int .i64 n0, .int .i64 a0, .int .u64 a1, .string a2, .int .i64 b0, .int .u64 b1, .string b2, .string c2, .slice la ll lc, .int .i64 wv] 48) := ⟨_, rfl⟩
          rw [← hW6]
          have hB6 : Below wr.heap.size wr W6 := by rw [hW6]; exact below_alloc (Below.refl _ _) _
          have Q6 := Lib.hid (R1.out.below hB6)
          have V6 := Lib.hid (pw_own_below R2.out hB6)
          have S6 := Lib.hid (pw_own_below R3.out hB6)
          have B6 := Lib.hid (R4.out.trans (hB6.mono R4.out.size))
          clear hW6 hB6 x0 x1 x2 x3 x4 x5 x6 x7 x8 x9 x10
          by_cases hL : L = []
          · subst hL
            refine (Pop_empty q q v _ W6 Q6.out).mono ?_
            rintro e w7 ⟨rfl, hb7⟩
            have Q7 := Lib.hid (Q6.out.below hb7)
            have V7 := Lib.hid (pw_own_below V6.out hb7)
            have S7 := Lib.hid (pw_own_below S6.out hb7)
            have B7 := Lib.hid (B6.out.trans (hb7.mono B6.out.size))
            clear hb7
            go_wp2_with fail
            obtain ⟨W8, hW8⟩ : ∃ W8, W8 = w7.alloc (.cells #[.int .i64 0, .int .u64 0, .string ⟨#[]⟩] 29) := ⟨_, rfl⟩
            rw [← hW8]
            have hB8 : Below w7.heap.size w7 W8 := by rw [hW8]; exact below_alloc (Below.refl _ _) _
            have Q8 := Lib.hid (Q7.out.below hB8)
            have V8 := Lib.hid (pw_own_below V7.out hB8)
            have S8 := Lib.hid (pw_own_below S7.out hB8)
            have B8 := Lib.hid (B7.out.trans (hB8.mono B7.out.size))
            clear hW8 hB8
            go_roundg (os.length - (i + 1))
            case measure => rw [R8.out]; omega
            case rel => exact ⟨i + 1, v, vs, bs, [], rfl, (by go_num), ⟨Q8.out⟩, ⟨V8.out⟩, ⟨S8.out⟩, ⟨B8.out⟩, ⟨R5.out⟩, ⟨R6.out⟩, ⟨R7.out⟩, ⟨rfl⟩, by omega, by omega, by omega⟩
          · obtain ⟨i0, hi0, hm0, he0, hI, hA⟩ := inv_pop R5.out hL
            obtain ⟨m, hm⟩ : ∃ m, L.length = m + 1 := ⟨L.length - 1, by
              have : L.length ≠ 0 := fun h => hL (List.eq_nil_of_length_eq_zero h)
              omega⟩
            obtain ⟨E, hE⟩ : ∃ E, g vs i0 = E := ⟨_, rfl⟩
            have hsE : E.2.2.size ≤ 16777216 := by rw [← hE]; exact R7.out i0 hi0
            rw [hE] at he0
            obtain ⟨ea, eb, ec⟩ := E
            have hrow := Q6.out.row
            rw [hm] at hrow
            obtain ⟨g1, c1, hv1⟩ := own_form hrow (by omega)
            have Q6' := Q6.out
            rw [hv1] at Q6'
            have hP := Pop_walk ltE HL q q L (vs.length : Int) g1 m c1 W6 Q6' hm R6.out (by omega) h51 (HG.below B6.out)
            rw [he0] at hP
            have HP := Lib.hid hP
            have HE := Lib.hid hE
            have HsE := Lib.hid hsE
            have HM := Lib.hid hm
            have HV1 := Lib.hid hv1
            have HI := Lib.hid hI
            have HA := Lib.hid hA
            have Hm0 := Lib.hid hm0
            have hpos : decide (0 < (L.length : Int)) = true := decide_eq_true (by omega)
            have hposN : decide (0 < L.length) = true := decide_eq_true (by omega)
            have hLb : (L.length : Int) ≤ 524288 := by omega
            have hL1 : 1 ≤ (L.length : Int) := by omega
            have hi0n : (i0 : Int) < (vs.length : Int) := by omega
            clear hE hsE hm hv1 hI hA hm0 he0 hP hrow Q6' hL
            refine HP.out.mono ?_
            rintro e w7 ⟨rfl, v7, hQ7, hT7⟩
            have hT7' := hT7
            rw [← HV1.out] at hT7'
            have V7 := Lib.hid (own_turned Q6.out hT7' V6.out (by decide) (by decide))
            have S7 := Lib.hid (own_turned Q6.out hT7' S6.out (by decide) (by decide))
            have B7 := Lib.hid (B6.out.trans (hT7.below.mono hwq))
            have Q7 := Lib.hid hQ7
            clear hT7 hT7' hQ7 HP
            obtain ⟨W8, hW8⟩ : ∃ W8, W8 = w7.alloc (.cells #[.int .i64 ea, .int .u64 eb, .string ec] 29) := ⟨_, rfl⟩
            have hk8 : W8.heap[w7.heap.size]? = some (.cells #[.int .i64 ea, .int .u64 eb, .string ec] 29 (0, 0)) := by rw [hW8]; exact blk_new _ _
            have hB8 : Below w7.heap.size w7 W8 := by rw [hW8]; exact below_alloc (Below.refl _ _) _
            have Q8 := Lib.hid (Q7.out.below hB8)
            have V8 := Lib.hid (pw_own_below V7.out hB8)
            have S8 := Lib.hid (pw_own_below S7.out hB8)
            have B8 := Lib.hid (B7.out.trans (hB8.mono B7.out.size))
            have K8 := Lib.hid hk8
            obtain ⟨ga, ca, hva⟩ := own_form V8.out (by omega)
            obtain ⟨gb, cb, hvb⟩ := own_form S8.out (by rw [R5.out.len]; omega)
            subst hva
            subst hvb
            have y0 : W8.cell? ⟨w7.heap.size, 0, none⟩ = some (.int .i64 ea) := (blk_cell hk8 0).trans rfl
            have y1 : W8.cell? ⟨w7.heap.size, 1, none⟩ = some (.int .u64 eb) := (blk_cell hk8 1).trans rfl
            have y2 : W8.cell? ⟨w7.heap.size, 2, none⟩ = some (.string ec) := (blk_cell hk8 2).trans rfl
            obtain ⟨p0, p1, p2⟩ := valRow V8.out i0 hi0 (ea, eb, ec) HE.out
            obtain ⟨s0, s1⟩ := boolRow S8.out i0 (by rw [R5.out.len]; exact hi0)
            rw [Hm0.out] at s0
            have HW8 := Lib.hid hW8
            have hin : (i0 : Int) < (bs.length : Int) := by rw [R5.out.len]; exact hi0n
            have d1 : decide ((i0 : Int) < 0) = false := decide_eq_false (by omega)
            have d2 : decide ((vs.length : Int) ≤ (i0 : Int)) = false := decide_eq_false (by omega)
            have d3 : decide (vs.length ≤ i0) = false := decide_eq_false (by omega)
            clear hW8 hk8 hB8
            go_upto_region 25 with fail
            rw [← HW8.out]
            go_quiet (fail)
            go_wp2_with fail
            obtain ⟨W9, hW9⟩ : ∃ W9, W9 = (W8.drewN nq).setCell ⟨gb, i0, none⟩ (.bool false) := ⟨_, rfl⟩
            rw [← hW9]
            have hbd : Below W8.heap.size W8 (W8.drewN nq) := pw_below_drewN (Below.refl _ _) _
            obtain ⟨hS9, hg9⟩ := boolStore (pw_own_below S8.out hbd) i0 false
            rw [← hW9] at hS9 hg9
            have Q8d := Q8.out.below hbd
            have V8d := pw_own_below V8.out hbd
            have S8d := pw_own_below S8.out hbd
            have K8d := blk_below K8.out hbd
            have Q9 := Lib.hid (Q8d.grown hg9 (own_ne S8d Q8d.blk (by decide)) (own_type_ne Q8d.row S8d (by decide)))
            have V9 := Lib.hid (own_other V8d hg9 (own_type_ne V8d S8d (by decide)))
            have K9 := Lib.hid (blk_grown K8d hg9 (own_ne S8d K8d (by decide)))
            have B9 := Lib.hid (Below.grown (B8.out.trans (hbd.mono B8.out.size)) hg9 (Nat.le_trans B8.out.size hbd.size) (fun k hk => own_base S8d k (by rw [← hk]; rfl)))
            have S9 := Lib.hid hS9
            have hln9 : (bs.set i0 false).length = bs.length := List.length_set
            have HLN := Lib.hid hln9
            clear y0 y1 y2 p0 p1 p2 s0 s1 hW9 hbd hS9 hg9 Q8d V8d S8d K8d hln9 d1 d2 d3 hin
            go_loopg [14] vs.length (fun d s14 wx => ∃ k : Nat, s14 = .int .i64 (k : Int) ∧ Aside0 (Below W9.heap.size W9 wx) ∧ Aside0 (d = vs.length - k) ∧ k ≤ vs.length)
            case atStart => exact ⟨0, rfl, ⟨Below.refl _ _⟩, ⟨rfl⟩, Nat.zero_le _⟩
            case round =>
              obtain ⟨k, rfl, T1, T2, hk⟩ := hrel
              by_cases hkl : k < vs.length
              · have e1 : decide ((k : Int) < (vs.length : Int)) = true := decide_eq_true (by omega)
                have hkb : k < bs.length := by rw [R5.out.len]; exact hkl
                have S10 : wr.ownsRow w.heap.size 4 1 (.slice (some ⟨gb, 0, none⟩) bs.length cb) bs.length (flatB (bs.set i0 false)) := pw_own_below S9.out T1.out
                obtain ⟨s0, _⟩ := boolRow S10 k (by rw [HLN.out]; exact hkb)
                clear S10
                cases hm : mk (bs.set i0 false) k with
                | false =>
                  rw [hm] at s0
                  clear hm
                  go_wp2_with fail
                  go_roundg (vs.length - (k + 1))
                  case measure => rw [T2.out]; omega
                  case rel => exact ⟨k + 1, (by go_num), ⟨T1.out⟩, ⟨rfl⟩, by omega⟩
                | true =>
                  rw [hm] at s0
                  have hAk := HA.out k hkl hm
                  rw [HE.out] at hAk
                  obtain ⟨Y, hY⟩ : ∃ Y, g vs k = Y := ⟨_, rfl⟩
                  rw [hY] at hAk
                  obtain ⟨ya, yb, yc⟩ := Y
                  have K10 := blk_below K9.out T1.out
                  have y0 : wr.cell? ⟨w7.heap.size, 0, none⟩ = some (.int .i64 ea) := (blk_cell K10 0).trans rfl
                  have y1 : wr.cell? ⟨w7.heap.size, 1, none⟩ = some (.int .u64 eb) := (blk_cell K10 1).trans rfl
                  have y2 : wr.cell? ⟨w7.heap.size, 2, none⟩ = some (.string ec) := (blk_cell K10 2).trans rfl
                  obtain ⟨p0, p1, p2⟩ := valRow (pw_own_below V9.out T1.out) k hkl (ya, yb, yc) hY
                  have HC := HO (ea, eb, ec) (ya, yb, yc) wr.drew (by have := HsE.out; show ec.size ≤ _; omega) ((HG.below ((B9.out.trans (T1.out.mono B9.out.size)))).drew)
                  obtain ⟨C, hC⟩ : ∃ C, ordV (ea, eb, ec) (ya, yb, yc) = C := ⟨_, rfl⟩
                  rw [hC] at HC hAk
                  have HCC := Lib.hid HC
                  have HAk := Lib.hid hAk
                  clear hm hY hC HC hAk K10
                  go_upto_region 33 with fail
                  go_still_tail 5, (by kernel_rfl)
                  change wpList _ _ _ _ _ wr.drew
                  go_wp2_with fail
                  refine HCC.out.mono ?_
                  rintro e w11 ⟨rfl, hb11⟩
                  have hbw : Below wr.heap.size wr w11 := (below_drew (Below.refl _ _)).trans hb11
                  have T11 := Lib.hid (T1.out.trans (hbw.mono T1.out.size))
                  clear hb11 hbw HCC y0 y1 y2 p0 p1 p2 s0
                  have c1 : decide (0 < C) = false := decide_eq_false (by have := HAk.out.1; omega)
                  by_cases c2 : C = 0
                  · have hle := HAk.out.2 c2
                    subst c2
                    have c4 : decide ((k : Int) < (i0 : Int)) = false := decide_eq_false (by omega)
                    have c5 : decide (k < i0) = false := decide_eq_false (by omega)
                    go_wp2_with fail
                    go_roundg (vs.length - (k + 1))
                    case measure => rw [T2.out]; omega
                    case rel => exact ⟨k + 1, (by go_num), ⟨T11.out⟩, ⟨rfl⟩, by omega⟩
                  · have c3 : (C == 0) = false := beq_eq_false_iff_ne.mpr c2
                    clear c2
                    go_wp2_with fail
                    go_roundg (vs.length - (k + 1))
                    case measure => rw [T2.out]; omega
                    case rel => exact ⟨k + 1, (by go_num), ⟨T11.out⟩, ⟨rfl⟩, by omega⟩
              · obtain rfl : k = vs.length := by omega
                have e1 : decide ((vs.length : Int) < (vs.length : Int)) = false := decide_eq_false (by omega)
                go_wp2_with fail
                go_roundg (os.length - (i + 1))
                case measure => rw [R8.out]; omega
                case rel =>
                  have hpl : ((pop ltE L).length : Int) = (L.length : Int) - 1 := by rw [pop_length]; omega
                  refine ⟨i + 1, v7, vs, bs.set i0 false, pop ltE L, by rw [hpl], by go_num, ⟨Q9.out.below T1.out⟩, ⟨pw_own_below V9.out T1.out⟩, ⟨?_⟩, ⟨B9.out.trans (T1.out.mono B9.out.size)⟩, ⟨HI.out⟩, ⟨R6.out.pop ltE⟩, ⟨R7.out⟩, ⟨rfl⟩, by omega, by rw [pop_length]; omega, by omega⟩
                  rw [HLN.out]
                  exact pw_own_below S9.out T1.out
        · have hkb : (k0 != 7) = true := bne_iff_ne.mpr hk
          have hkb2 : (k0 == 7) = false := beq_eq_false_iff_ne.mpr hk
          clear hk
          go_wp2_with fail
          obtain ⟨W6, hW6⟩ : ∃ W6, W6 = wr.alloc (.cells #[.int .i64 k0, .int .i64 n0, .int .i64 a0, .int .u64 a1, .string a2, .int .i64 b0, .int .u64 b1, .string b2, .string c2, .slice la ll lc, .int .i64 wv] 48) := ⟨_, rfl⟩
          rw [← hW6]
          have hB6 : Below wr.heap.size wr W6 := by rw [hW6]; exact below_alloc (Below.refl _ _) _
          have hk6 : W6.heap[wr.heap.size]? = some (.cells #[.int .i64 k0, .int .i64 n0, .int .i64 a0, .int .u64 a1, .string a2, .int .i64 b0, .int .u64 b1, .string b2, .string c2, .slice la ll lc, .int .i64 wv] 48 (0, 0)) := by rw [hW6]; exact blk_new _ _
          have Q6 := Lib.hid (R1.out.below hB6)
          have V6 := Lib.hid (pw_own_below R2.out hB6)
          have S6 := Lib.hid (pw_own_below R3.out hB6)
          have B6 := Lib.hid (R4.out.trans (hB6.mono R4.out.size))
          have K6 := Lib.hid hk6
          clear hW6 hB6 hk6 x0 x1 x2 x3 x4 x5 x6 x7 x8 x9 x10
          obtain ⟨Z, hZ⟩ : ∃ Z, plainOf a0 a1 a2 = Z := ⟨_, rfl⟩
          obtain ⟨pa, pb, pc⟩ := Z
          have hpz : pc.size ≤ 16777216 := by
            have h := plain_size a0 a1 a2
            rw [hZ] at h
            exact Nat.le_trans h HSX.out
          have HP := Lib.hid (Push_walk ltE HL q q v L (vs.length : Int) a0 a1 a2 pa pb pc hZ W6 Q6.out R6.out (show pc.size ≤ _ by omega) (by omega) ⟨by omega, by omega⟩ h51 (HG.below B6.out))
          have HZ := Lib.hid hZ
          have HPZ := Lib.hid hpz
          clear hZ hpz
          refine HP.out.mono ?_
          rintro e w7 ⟨rfl, v7, hQ7, hT7⟩
          have V7 := Lib.hid (own_turned Q6.out hT7 V6.out (by decide) (by decide))
          have S7 := Lib.hid (own_turned Q6.out hT7 S6.out (by decide) (by decide))
          have B7 := Lib.hid (B6.out.trans (hT7.below.mono hwq))
          have hk7 := blk_turned Q6.out hT7 K6.out (by decide) (by decide)
          have z2 : w7.cell? ⟨wr.heap.size, 2, none⟩ = some (.int .i64 a0) := (blk_cell hk7 2).trans rfl
          have z3 : w7.cell? ⟨wr.heap.size, 3, none⟩ = some (.int .u64 a1) := (blk_cell hk7 3).trans rfl
          have z4 : w7.cell? ⟨wr.heap.size, 4, none⟩ = some (.string a2) := (blk_cell hk7 4).trans rfl
          have Q7 := Lib.hid hQ7
          clear hT7 hQ7 hk7 HP
          obtain ⟨A5, C5, hv5⟩ := own_slice V7.out
          subst hv5
          have hne : ((vs.length : Int) != (vs.length : Int)) = false := bne_self_eq_false _
          go_wp2_with fail
          have hPl := Plain_any a0 a1 a2 w7
          rw [HZ.out] at hPl
          refine hPl.mono ?_
          rintro e w8 ⟨rfl, hb8⟩
          have Q8 := Lib.hid (Q7.out.below hb8)
          have V8 := Lib.hid (pw_own_below V7.out hb8)
          have S8 := Lib.hid (pw_own_below S7.out hb8)
          have B8 := Lib.hid (B7.out.trans (hb8.mono B7.out.size))
          clear hb8 z2 z3 z4 hPl
          have hbl : bs.length ≤ 524288 := by rw [R5.out.len]; omega
          go_wp2_with (first
            | ((with_reducible refine append_list (W := w8) w.heap.size rfl (.tmp 45) (.tmp 49) 36 29 (vAgg 0 0 ⟨#[]⟩) 3 32 rfl Tryz.underlying36 infoV rfl (by omega) (by omega) (.slice A5 vs.length C5) vs.length (flatV vs) [.int .i64 pa, .int .u64 pb, .string pc] rfl ?hx rfl ?h1 V8.out ?hb (by omega) ?_); (case hx => rfl); (case h1 => simp [Value.oneCell']); (case hb => exact B8.out.size); intro v9 w9 ho9 hb9 hg9; (have V9 := Lib.hid ho9); (have S9 := Lib.hid (own_other S8.out hg9 (own_type_ne S8.out V8.out (by decide)))); (have Q9 := Lib.hid (Q8.out.grown hg9 (own_ne V8.out Q8.out.blk (by decide)) (own_type_ne Q8.out.row V8.out (by decide)))); (have B9 := Lib.hid (B8.out.trans hb9)); clear ho9 hb9 hg9)
            | ((with_reducible refine append_list (W := w9) w.heap.size rfl (.tmp 51) (.tmp 52) 40 4 (.bool false) 1 1 rfl Tryz.underlying40 infoB rfl (by omega) (by omega) u6 bs.length (flatB bs) [.bool true] rfl ?hx rfl ?h1 S9.out ?hb (by omega) ?_); (case hx => rfl); (case h1 => simp [Value.oneCell']); (case hb => exact B9.out.size); intro v10 w10 ho10 hb10 hg10; (have S10 := Lib.hid ho10); (have V10 := Lib.hid (own_other V9.out hg10 (own_type_ne V9.out S9.out (by decide)))); (have Q10 := Lib.hid (Q9.out.grown hg10 (own_ne S9.out Q9.out.blk (by decide)) (own_type_ne Q9.out.row S9.out (by decide)))); (have B10 := Lib.hid (B9.out.trans hb10)); clear ho10 hb10 hg10))
          go_roundg (os.length - (i + 1))
          case measure => rw [R8.out]; omega
          case rel =>
            have hI := inv_push R5.out (pa, pb, pc)
            have hln : ((vs ++ [(pa, pb, pc)]).length : Nat) = vs.length + 1 := by rw [List.length_append]; rfl
            refine ⟨i + 1, v7, vs ++ [(pa, pb, pc)], bs ++ [true], push ltE L (pa, pb, pc, (vs.length : Int)), by rw [push_length]; go_num, by go_num, ⟨?_⟩, ⟨?_⟩, ⟨?_⟩, ⟨B10.out⟩, ⟨hI⟩, ⟨R6.out.push ltE (show pc.size ≤ _ by have := HPZ.out; omega)⟩, ⟨fun j hj => ?_⟩, ⟨rfl⟩, by rw [hln]; omega, by rw [push_length]; omega, by omega⟩
            · rw [hln]
              exact Q10.out
            · rw [hln, flatV_append]
              exact V10.out
            · rw [List.length_append]
              unfold flatB
              rw [List.map_append]
              exact S10.out
            · rw [hln] at hj
              rcases Nat.lt_or_ge j vs.length with h1 | h1
              · rw [g_append_lt vs _ h1]
                exact R7.out j h1
              · obtain rfl : j = vs.length := by omega
                rw [g_append_end]
                exact HPZ.out
      · obtain rfl : i = os.length := by omega
        have hd : decide ((os.length : Int) < (os.length : Int)) = false := decide_eq_false (by omega)
        go_wp2_with fail
        refine (Len_walk q q v L _ _ R1.out).mono ?_
        rintro e w7 ⟨rfl, rfl⟩
        go_wp2_with fail
        go_ret
        exact ⟨by simp, R4.out⟩
end Go.Proofs.YtoanmnhkhookfaaGreatDoor
