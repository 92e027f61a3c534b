/- record.Lines with a separator: the contract; conditions: the text below 2^32 - 15 bytes, the separator not empty, internal/bytealg.MaxLen holds some int. -/
import Derived.Test.YtmbacdkpgfbclaaGreatDoorRFields
namespace Go.Proofs.YtmbacdkpgfbclaaGreatDoor
open Go.RowKit Go.Shelf Go.Proofs.YtmbacdkpgfbclaaGreatDoorW.PrintWords
attribute [local go_sem] Oper.semAt_some
set_option linter.unusedVariables false
set_option linter.unusedSimpArgs false

/-- The empty piece at a text's end. -/
def endL (s : ByteArray) (p : Nat × Nat) : Bool := p.2 == s.size && p.1 == p.2
def linesL (s : ByteArray) (l : List (Nat × Nat)) : List ByteArray := (l.takeWhile fun p => !endL s p).map fun p => s.extract p.1 p.2
/-- record.Lines with a separator. -/
def linesOf (s sep : ByteArray) : List ByteArray := linesL s (cutsFrom s sep 0)
/-- All blocks below O but one stay. -/
def Spare (O b : Nat) (A B : World) : Prop := A.heap.size ≤ B.heap.size ∧ ∀ k, k < O → k ≠ b → ∀ o, A.heap[k]? = some o → B.heap[k]? = some o
theorem Spare.refl (O b : Nat) (A : World) : Spare O b A A := ⟨Nat.le_refl _, fun _ _ _ _ h => h⟩
theorem Spare.trans {O b : Nat} {A B C : World} (h : Spare O b A B) (k : Spare O b B C) : Spare O b A C := ⟨Nat.le_trans h.1 k.1, fun j hj hb o ho => k.2 j hj hb o (h.2 j hj hb o ho)⟩
theorem Spare.of_below {O b : Nat} {A B : World} (h : Below O A B) : Spare O b A B := ⟨h.size, fun k hk _ o ho => (h.block k hk).trans ho⟩
theorem Spare.set {O b : Nat} (A : World) (v : Value) : Spare O b A (A.setCell ⟨b, 0, none⟩ v) :=
 ⟨by simp, fun k _ hb o ho => ((grownBy_setCell' A b v).block k (Array.getElem?_eq_some_iff.1 ho).1 (fun e => hb (Option.some.inj e))).trans ho⟩
theorem spare_b {O b : Nat} {w : World} (hn : O ≤ w.heap.size) (W : World) (l : Nat) (o o' : Obj) (hl : w.heap.size ≤ l) (h : W.heap[l]? = some o) (h1 : o.isCells = false) (h2 : o.isWalk = false) : Spare O b W (W.putObj l o') :=
 Spare.of_below (belowK_b hn W l o o' hl h h1 h2)
theorem Spare.cell {O b : Nat} {A B : World} (h : Spare O b A B) {k : Nat} {v : Value} (hk : k < O) (hb : k ≠ b) (hc : A.cell? ⟨k, 0, none⟩ = some v) : B.cell? ⟨k, 0, none⟩ = some v := by
 have hlt := World.block_lt_of_cell? _ _ hc; have h2 := h.2 k hk hb _ (Array.getElem?_eq_getElem hlt); have e : B.heap[k]? = A.heap[k]? := h2.trans (Array.getElem?_eq_getElem hlt).symm; simpa [World.cell?, e] using hc
theorem cuts_stopsL (Bn O Ob : Nat) (m : Int) (s sep : ByteArray) (hs : s.size < 4294967281) (hp : 1 ≤ sep.size) (w : World) (hn : Bn + 1 < w.heap.size) (hO : Bn + 1 < O) (hb : Ob < Bn) (h0b : Ob ≠ 0) (hc : w.cell? ⟨Bn, 0, none⟩ = some (.string s)) (hc2 : w.cell? ⟨Bn + 1, 0, none⟩ = some (.string sep)) (hm : w.cell? ⟨0, 0, none⟩ = some (.int .i64 m)) :
  SeqStopsK Fence.wide 5 Tryz.prog 107 #[.pointer (some ⟨Bn, 0, none⟩), .pointer (some ⟨Bn + 1, 0, none⟩)] (encP (s := s) (E := s.size)) (Spare O Ob) (fun ys => ys = cutsP s sep) (fun pre => pre <+: cutsP s sep) (cutsP s sep).length w := fun l J Jx W hW hJ _ hY h0 =>
 cuts1_in l Bn (Spare O Ob) (fun A B b v h hbb hc => h.cell (by omega) (by omega) hc) m s sep hs hp (cutsP s sep) (mkP_map s _ _ (cutsFrom_ok s sep 0 (Nat.zero_le _))) J Jx (fun pre W1 h => hJ pre W1 W1.drew none h ⟨rfl, rfl, rfl, Nat.le_refl _, fun _ _ _ => rfl⟩ (fun r e => by cases e)) hY W
  ((hW.cell (p := ⟨Bn, 0, none⟩) (by show Bn < w.heap.size; omega)).trans hc) ((hW.cell (p := ⟨Bn + 1, 0, none⟩) hn).trans hc2) ((hW.cell (p := ⟨0, 0, none⟩) (by show 0 < w.heap.size; omega)).trans hm) h0
/-- Between two rounds. -/
def ILines (s sep : ByteArray) (w : World) (pre : List (Pc s s.size)) (W : World) : Prop :=
 ((∃ v, Boxed W (w.heap.size + 1) 57 v ∧ W.ownsRow (w.heap.size + 4) 9 1 v pre.length (outOf pre) ∧ pre.length ≤ s.size + 1 ∧ ∀ p ∈ pre, endL s p.1 = false) ∧ Boxed W w.heap.size 9 (.string s) ∧ Boxed W (w.heap.size + 3) 9 (.string sep)) ∧ Below w.heap.size w W
/-- Where the loop is left. -/
def XLines (s : ByteArray) (w : World) (c : Code) (pre : List (Pc s s.size)) (W : World) : Prop :=
 ((∃ v, Boxed W (w.heap.size + 1) 57 v ∧ W.ownsRow (w.heap.size + 4) 9 1 v pre.dropLast.length (outOf pre.dropLast) ∧ c = .exit 0 ∧ ∃ x, pre = pre.dropLast ++ [x] ∧ endL s x.1 = true ∧ ∀ p ∈ pre.dropLast, endL s p.1 = false)) ∧ Below w.heap.size w W
theorem own_IL (s sep : ByteArray) (w : World) (B : Nat) (hB : w.heap.size ≤ B) : OwnFrom B (ILines s sep w) :=
 OwnFrom.and (OwnFrom.and (Own.from (holdsRow_own (w.heap.size + 4) (w.heap.size + 1) 57 9 1 (fun pre : List (Pc s s.size) => pre.length) outOf (fun pre _ => pre.length ≤ s.size + 1 ∧ ∀ p ∈ pre, endL s p.1 = false)) _) (OwnFrom.and (Own.from (boxed_own _ _ _) _) (Own.from (boxed_own _ _ _) _))) (ownFrom_below (Nat.le_refl _) hB)
theorem own_XL (s : ByteArray) (w : World) (B : Nat) (hB : w.heap.size ≤ B) (c : Code) : OwnFrom B (XLines s w c) :=
 OwnFrom.and (Own.from (holdsRow_own (w.heap.size + 4) (w.heap.size + 1) 57 9 1 (fun pre : List (Pc s s.size) => pre.dropLast.length) (fun pre => outOf pre.dropLast) (fun pre _ => c = .exit 0 ∧ ∃ x, pre = pre.dropLast ++ [x] ∧ endL s x.1 = true ∧ ∀ p ∈ pre.dropLast, endL s p.1 = false)) _) (ownFrom_below (Nat.le_refl _) hB)
theorem lines_more {s sep : ByteArray} {w W w1 : World} {pre : List (Pc s s.size)} {x : Pc s s.size} {v v' : Value} {o9 : Obj} (hv : Boxed W (w.heap.size + 1) 57 v) (hrow : W.ownsRow (w.heap.size + 4) 9 1 v pre.length (outOf pre))
  (hlen : pre.length + 1 ≤ s.size + 1 ∧ ∀ p ∈ pre, endL s p.1 = false) (hb0 : Boxed W w.heap.size 9 (.string s)) (hb3 : Boxed W (w.heap.size + 3) 9 (.string sep)) (hB2 : Below w.heap.size w W) (hx : endL s x.1 = false)
  (hown : w1.ownsRow (w.heap.size + 4) 9 1 v' (pre.length + 1) (outOf pre ++ [.string (cutP x)])) (hg : (W.drew.alloc o9).grownBy w1 v.ownBlock) (B : Nat) :
  KeepsFrom B W (w1.setCell ⟨w.heap.size + 1, 0, none⟩ v') ∧ Spare (w.heap.size + 4) (w.heap.size + 1) W (w1.setCell ⟨w.heap.size + 1, 0, none⟩ v') ∧ ILines s sep w (pre ++ [x]) (w1.setCell ⟨w.heap.size + 1, 0, none⟩ v') := by
 have hsW := hv.lt; have q1 := grown_box hrow hg hv (by omega); have q0 := grown_box hrow hg hb0 (by omega); have q3 := grown_box hrow hg hb3 (by omega); have hsp : Spare (w.heap.size + 4) (w.heap.size + 1) W w1 := by
  refine ⟨?_, fun k hk hb o1 ho => ?_⟩
  · have := hg.size; simp at this; omega
  have hlt := (Array.getElem?_eq_some_iff.1 ho).1; refine (hg.block k (by simp; omega) (fun e => by have := hrow.lt k e.symm; omega)).trans ?_; rw [show (W.drew.alloc o9).heap[k]? = W.heap[k]? from (heap_alloc_old W.drew o9 k (by simpa using hlt)).trans rfl]; exact ho
 refine ⟨((grown_keeps hrow hg).trans (KeepsOthers.setCell _ _ _)).from B, hsp.trans (Spare.set _ _), ⟨⟨v', q1.set v', ?_, by simp; omega, ?_⟩, q0.other (by omega) _, q3.other (by omega) _⟩, (hB2.trans (grown_below hrow hg (by omega) (by omega))).setCell (p := ⟨w.heap.size + 1, 0, none⟩) (by show w.heap.size ≤ w.heap.size + 1; omega) v'⟩
 · rw [outOf_snoc, List.length_append, List.length_singleton]; exact grown_own hown (by omega) v'
 intro p hp; rcases List.mem_append.1 hp with h | h
 · exact hlen.2 p h
 rw [List.mem_singleton.1 h]; exact hx
theorem takeWhile_none {α : Type} (p : α → Bool) : ∀ l : List α, (∀ x ∈ l, p x = true) → l.takeWhile p = l
 | [], _ => rfl
 | x :: l, h => by rw [List.takeWhile_cons, if_pos (h x (by simp)), takeWhile_none p l fun y hy => h y (by simp [hy])]
theorem takeWhile_stop {α : Type} (p : α → Bool) (x : α) (r : List α) (hx : p x = false) : ∀ l : List α, (∀ x ∈ l, p x = true) → (l ++ x :: r).takeWhile p = l
 | [], _ => by simp [hx]
 | y :: l, h => by rw [List.cons_append, List.takeWhile_cons, if_pos (h y (by simp)), takeWhile_stop p x r hx l fun z hz => h z (by simp [hz])]
theorem lines_done {s sep : ByteArray} (h : ∀ p ∈ cutsP s sep, endL s p.1 = false) : (linesOf s sep).length = (cutsP s sep).length ∧ (linesOf s sep).map Value.string = outOf (cutsP s sep) := by
 have hm := mkP_map s s.size (cutsFrom s sep 0) (cutsFrom_ok s sep 0 (Nat.zero_le _)); have h2 : linesOf s sep = (cutsP s sep).map cutP := by
  unfold linesOf linesL; rw [takeWhile_none _ _ (by
   intro p hp; rw [← hm] at hp; obtain ⟨q, hq, rfl⟩ := List.mem_map.1 hp; simp [h q hq])]
  conv => lhs; rw [← hm]
  rw [List.map_map]; rfl
 rw [h2]; exact ⟨by simp, by unfold outOf; rw [List.map_map]; rfl⟩
theorem lines_stop {s sep : ByteArray} {pre : List (Pc s s.size)} (hp : pre <+: cutsP s sep) {x : Pc s s.size} (hx : pre = pre.dropLast ++ [x]) (he : endL s x.1 = true) (h : ∀ p ∈ pre.dropLast, endL s p.1 = false) :
  (linesOf s sep).length = pre.dropLast.length ∧ (linesOf s sep).map Value.string = outOf pre.dropLast := by
 have hm := mkP_map s s.size (cutsFrom s sep 0) (cutsFrom_ok s sep 0 (Nat.zero_le _)); obtain ⟨r, hr⟩ := hp; have h2 : linesOf s sep = pre.dropLast.map cutP := by
  unfold linesOf linesL; have e : cutsFrom s sep 0 = pre.dropLast.map (fun p => p.1) ++ x.1 :: r.map (fun p => p.1) := by
   rw [← hm]; show (cutsP s sep).map _ = _; rw [← hr]; conv => lhs; rw [hx]
   simp
  rw [e, takeWhile_stop _ _ _ (by simp [he]) _ (by
   intro p hp; obtain ⟨q, hq, rfl⟩ := List.mem_map.1 hp; simp [h q hq]), List.map_map]
  rfl
 rw [h2]; exact ⟨by simp, by unfold outOf; rw [List.map_map]; rfl⟩
theorem cuts_few (s sep : ByteArray) (h1 : 1 ≤ sep.size) (i : Nat) (hi : i ≤ s.size) : (cutsFrom s sep i).length + i ≤ s.size + 1 := by
 fun_induction cutsFrom s sep i with
 | case1 i h ih =>
  have := ih h.2.2; simp only [List.length_cons]; omega
 | case2 i h => simp; omega
set_option maxRecDepth 100000 in
set_option maxHeartbeats 4000000 in
theorem Lines_in (s sep : ByteArray) (m : Int) (hs4 : s.size < 4294967281) (hfs1 : 1 ≤ sep.size) (w : World) (hm : w.cell? ⟨0, 0, none⟩ = some (.int .i64 m)) :
  CallsIn Fence.wide 6 Tryz.prog 39 #[.string s, .string sep] w fun e w' => ∃ v, e = .returned v ∧ w'.ownsRow w.heap.size 9 1 v (linesOf s sep).length ((linesOf s sep).map Value.string) ∧ Below w.heap.size w w' := by
 have h0w : 0 < w.heap.size := World.block_lt_of_cell? _ _ hm; obtain ⟨i0, hi, hz0, hz1, hz2⟩ := info_parts info9; have hfsL : sep.toList.isEmpty = false := by
  cases h2 : sep.toList with
  | nil =>
   have h3 := congrArg List.length h2; rw [show sep.toList = sep.data.toList from ByteArray.toList_eq sep] at h3; have h4 : sep.size = 0 := by simpa using h3
   omega
  | cons a l => rfl
 have hN : (cutsP s sep).length ≤ s.size + 1 := by
  have h := cuts_few s sep hfs1 0 (Nat.zero_le _); have hm2 := congrArg List.length (mkP_map s s.size (cutsFrom s sep 0) (cutsFrom_ok s sep 0 (Nat.zero_le _))); rw [List.length_map] at hm2; show (mkP s s.size _ _).length ≤ _; omega
 refine callsIn_of_wp_marks Tryz.func39 rfl trivial ?_ rfl; simp only [Tryz.ntmps39, List.size_toArray, List.length_cons, List.length_nil, Nat.reduceAdd, Nat.reduceSub, Array.replicate_succ, Array.replicate_zero, List.push_toArray, List.append_toArray, List.nil_append, List.cons_append]; gi_wp2_with (refine ⟨trivial, ?_⟩; gi_at_call 80; refine (cuts_in s sep _ _).mono ?_; rintro e w' ⟨rfl, rfl⟩)
 have a0 := Boxed.new w 9 (.string s); have a1 := Boxed.new (w.alloc (.cells #[.string s] 9)) 57 (.slice none 0 0); have a3 := Boxed.new ((w.alloc (.cells #[.string s] 9)).alloc (.cells #[.slice none 0 0] 57)) 9 (.string s); have a4 := Boxed.new (((w.alloc (.cells #[.string s] 9)).alloc (.cells #[.slice none 0 0] 57)).alloc (.cells #[.string s] 9)) 9 (.string sep); have hB : Below w.heap.size w ((((w.alloc (.cells #[.string s] 9)).alloc (.cells #[.slice none 0 0] 57)).alloc (.cells #[.string s] 9)).alloc (.cells #[.string sep] 9)) :=
  ((((Below.refl _ w).alloc (Nat.le_refl _) _).alloc (by simp) _).alloc (by simp; omega) _).alloc (by simp; omega) _
 simp only [World.size_alloc] at a1 a3 a4; replace a0 := ((a0.alloc (.cells #[.slice none 0 0] 57)).alloc (.cells #[.string s] 9)).alloc (.cells #[.string sep] 9); replace a1 := (a1.alloc (.cells #[.string s] 9)).alloc (.cells #[.string sep] 9); replace a3 := a3.alloc (.cells #[.string sep] 9); obtain ⟨wr, hwr⟩ : ∃ wr, ((((w.alloc (.cells #[.string s] 9)).alloc (.cells #[.slice none 0 0] 57)).alloc (.cells #[.string s] 9)).alloc (.cells #[.string sep] 9)) = wr := ⟨_, rfl⟩; have hsz' : wr.heap.size = w.heap.size + 1 + 1 + 1 + 1 := by rw [← hwr]; simp
 rw [hwr] at a0 a1 a3 a4 hB ⊢; clear hwr; have g1 : w.heap.size ≤ wr.heap.size := by omega
 have g1O : w.heap.size + 4 ≤ wr.heap.size := by omega
 have g2 : w.heap.size + 1 + 1 + 1 < wr.heap.size := by omega
 clear hsz'; apply wpIn_rangeFunc_ownG (encs := encP (s := s) (E := s.size)) (Kp := Spare (w.heap.size + 4) (w.heap.size + 1)) (S := fun ys => ys = cutsP s sep) (Sp := fun pre => pre <+: cutsP s sep) (N := (cutsP s sep).length) rfl (by omega) (gf := 107) (lb := #[.pointer (some ⟨w.heap.size + 1 + 1, 0, none⟩), .pointer (some ⟨w.heap.size + 1 + 1 + 1, 0, none⟩)]) rfl trivial (enters_of Tryz.func107 (by kernel_rfl) rfl)
  (cuts_stopsL (w.heap.size + 1 + 1) _ _ m s sep hs4 hfs1 wr g2 (by omega) (by omega) (by omega) a3.cell a4.cell ((hB.cell (p := ⟨0, 0, none⟩) h0w).trans hm)) Spare.trans (spare_b g1O) (Below.refl _ _) (fun _ => rfl)
  (ILines s sep w) (XLines s w) (own_IL s sep w _ g1) (own_XL s w _ g1)
  ⟨⟨⟨_, a1, World.ownsRow_nil _ _ _ _, by simp, by simp⟩, a0, a4⟩, hB⟩
 case hassign =>
  intro l x W K hK; gi_wp2
  exact hK
 case hbody =>
  rintro l pre x W ⟨⟨⟨v, hv, hrow, hlen, hno⟩, hb0, hb3⟩, hB2⟩ hlt; obtain ⟨A, cap, rfl⟩ := ownsRow_slice hrow; obtain ⟨p1, p2, p3⟩ := x.2; have hsW := hb3.lt; have hsV := hv.lt; have hsT := hb0.lt; have hrowD : ∀ o, (W.drew.alloc o).ownsRow (w.heap.size + 4) 9 1 (.slice A pre.length cap) pre.length (outOf pre) := fun o => (World.ownsRow.drew hrow).alloc o
  have hc := hv.cell; have hc0 := hb0.cell; have HLen : Hid (pre.length + 1 ≤ s.size + 1 ∧ ∀ p ∈ pre, endL s p.1 = false) := Lib.hid ⟨by omega, hno⟩; have hcap : pre.length ≤ 4294967300 := by omega
  clear g1 g1O g2 a0 a1 a3 a4 hB hno hlen; by_cases hlast : x.1.2 = s.size
  ·
   have ht : ((x.1.2 : Int) == (s.size : Int)) = true := by rw [hlast]; simp
   have ht2 : (x.1.2 == s.size) = true := by rw [hlast]; simp
   by_cases hft : x.1.1 = x.1.2
   ·
    have hu : ((x.1.1 : Int) == (x.1.2 : Int)) = true := by rw [hft]; simp
    have hu2 : (x.1.1 == x.1.2) = true := by rw [hft]; simp
    have hx : endL s x.1 = true := by unfold endL; rw [ht2, hu2]; rfl
    clear hlast hft; gi_wp2
    have hX : XLines s w (.exit 0) (pre ++ [x]) W := ⟨⟨_, hv, by rw [List.dropLast_concat]; exact hrow, rfl, x, by rw [List.dropLast_concat], hx, by rw [List.dropLast_concat]; exact HLen.out.2⟩, hB2⟩; exact ⟨KeepsFrom.refl _ _, hX⟩
   have hu : ((x.1.1 : Int) == (x.1.2 : Int)) = false := by simp; omega
   have hu2 : (x.1.1 == x.1.2) = false := by simp; omega
   have hx : endL s x.1 = false := by unfold endL; rw [ht2, hu2]; rfl
   clear hlast hft; gi_wp2
   refine wpIn_region_any (by kernel_rfl) ?_; refine anyIn_of_any l _ (noDefer_of (by kernel_rfl)) (by rintro ⟨a9, w9, h9⟩; exact h9) _ _ _ _ ?_; change wpAny _ _ _ _ _ _ _ (World.drew _); refine wpAny_take (i := 2) (v := ?_) rfl (by kernel_rfl) (by kernel_rfl) (by kernel_rfl) (fun _ _ _ h => h) (Or.inl ⟨by rfl, ?_⟩) ?_; rotate_left
   · intro w9; go_simp; rfl
   refine wpAny_take (i := 3) (v := ?_) rfl (by kernel_rfl) (by kernel_rfl) (by kernel_rfl) (fun _ _ _ h => h) (Or.inl ⟨by rfl, ?_⟩) ?_; rotate_left
   · intro w9; go_simp; rfl
   refine wpAny_ready (rs := [0, 1]) (by kernel_rfl) (by simp) ?_; refine AllReady.cons rfl (fun K hK => ?_) (AllReady.cons rfl (fun K hK => ?_) AllReady.nil)
   ·
    go_simp
    refine hK _ _ ?_; clear hK K; refine wpAny_ready (rs := [1]) (by kernel_rfl) (by simp) ?_; refine AllReady.cons rfl (fun K hK => ?_) AllReady.nil; go_simp
    refine hK _ _ ?_; clear hK K; refine wpAny_ready (rs := [4]) (by kernel_rfl) (by simp) ?_; refine AllReady.cons rfl (fun K hK => ?_) AllReady.nil; go_simp
    refine hK _ _ ?_; clear hK K; refine wpAny_ready (rs := [5]) (by kernel_rfl) (by simp) ?_; refine AllReady.cons rfl (fun K hK => ?_) AllReady.nil; go_simp
    refine hK _ _ ?_; clear hK K; refine wpAny_ready (rs := [6]) (by kernel_rfl) (by simp) ?_; refine AllReady.cons rfl (fun K hK => ?_) AllReady.nil; refine step_append_owned rfl _ _ 57 rfl (w.heap.size + 4) 9 i0 (.string ⟨#[]⟩) 1 16 Tryz.underlying57 hi hz0 hz1 hz2 rfl (by decide) (.slice A pre.length cap) pre.length (outOf pre) rfl (hrowD _) ⟨W.heap.size, 0, none⟩ 1 1 [.string (cutP x)] rfl rfl (cell_one_new _ _ _) (by simp [Value.oneCell']) (by unfold maxLen; omega) (by omega) (by simp; omega) ?_; intro v' w1 hown' hgrow _; obtain ⟨g', cap', rfl⟩ := ownsRow_succ hown'; have q1 := grown_box hrow hgrow hv (by omega); refine hK _ _ ?_; clear hK K; have cO := q1.cell; have fO := q1.frozen; refine wpAny_ready (rs := [7]) (by kernel_rfl) (by simp) ?_; refine AllReady.cons rfl (fun K hK => ?_) AllReady.nil; go_simp
    refine hK _ _ ?_; clear hK K; clear cO fO; refine wpAny_done (by kernel_rfl) ?_ _; exact lines_more hv hrow HLen.out hb0 hb3 hB2 hx hown' hgrow _
   go_simp
   refine hK _ _ ?_; clear hK K; refine wpAny_ready (rs := [0, 4]) (by kernel_rfl) (by simp) ?_; refine AllReady.cons rfl (fun K hK => ?_) (AllReady.cons rfl (fun K hK => ?_) AllReady.nil)
   ·
    go_simp
    refine hK _ _ ?_; clear hK K; refine wpAny_ready (rs := [4]) (by kernel_rfl) (by simp) ?_; refine AllReady.cons rfl (fun K hK => ?_) AllReady.nil; go_simp
    refine hK _ _ ?_; clear hK K; refine wpAny_ready (rs := [5]) (by kernel_rfl) (by simp) ?_; refine AllReady.cons rfl (fun K hK => ?_) AllReady.nil; go_simp
    refine hK _ _ ?_; clear hK K; refine wpAny_ready (rs := [6]) (by kernel_rfl) (by simp) ?_; refine AllReady.cons rfl (fun K hK => ?_) AllReady.nil; refine step_append_owned rfl _ _ 57 rfl (w.heap.size + 4) 9 i0 (.string ⟨#[]⟩) 1 16 Tryz.underlying57 hi hz0 hz1 hz2 rfl (by decide) (.slice A pre.length cap) pre.length (outOf pre) rfl (hrowD _) ⟨W.heap.size, 0, none⟩ 1 1 [.string (cutP x)] rfl rfl (cell_one_new _ _ _) (by simp [Value.oneCell']) (by unfold maxLen; omega) (by omega) (by simp; omega) ?_; intro v' w1 hown' hgrow _; obtain ⟨g', cap', rfl⟩ := ownsRow_succ hown'; have q1 := grown_box hrow hgrow hv (by omega); refine hK _ _ ?_; clear hK K; have cO := q1.cell; have fO := q1.frozen; refine wpAny_ready (rs := [7]) (by kernel_rfl) (by simp) ?_; refine AllReady.cons rfl (fun K hK => ?_) AllReady.nil; go_simp
    refine hK _ _ ?_; clear hK K; clear cO fO; refine wpAny_done (by kernel_rfl) ?_ _; exact lines_more hv hrow HLen.out hb0 hb3 hB2 hx hown' hgrow _
   go_simp
   refine hK _ _ ?_; clear hK K; refine wpAny_ready (rs := [0, 5]) (by kernel_rfl) (by simp) ?_; refine AllReady.cons rfl (fun K hK => ?_) (AllReady.cons rfl (fun K hK => ?_) AllReady.nil)
   ·
    go_simp
    refine hK _ _ ?_; clear hK K; refine wpAny_ready (rs := [5]) (by kernel_rfl) (by simp) ?_; refine AllReady.cons rfl (fun K hK => ?_) AllReady.nil; go_simp
    refine hK _ _ ?_; clear hK K; refine wpAny_ready (rs := [6]) (by kernel_rfl) (by simp) ?_; refine AllReady.cons rfl (fun K hK => ?_) AllReady.nil; refine step_append_owned rfl _ _ 57 rfl (w.heap.size + 4) 9 i0 (.string ⟨#[]⟩) 1 16 Tryz.underlying57 hi hz0 hz1 hz2 rfl (by decide) (.slice A pre.length cap) pre.length (outOf pre) rfl (hrowD _) ⟨W.heap.size, 0, none⟩ 1 1 [.string (cutP x)] rfl rfl (cell_one_new _ _ _) (by simp [Value.oneCell']) (by unfold maxLen; omega) (by omega) (by simp; omega) ?_; intro v' w1 hown' hgrow _; obtain ⟨g', cap', rfl⟩ := ownsRow_succ hown'; have q1 := grown_box hrow hgrow hv (by omega); refine hK _ _ ?_; clear hK K; have cO := q1.cell; have fO := q1.frozen; refine wpAny_ready (rs := [7]) (by kernel_rfl) (by simp) ?_; refine AllReady.cons rfl (fun K hK => ?_) AllReady.nil; go_simp
    refine hK _ _ ?_; clear hK K; clear cO fO; refine wpAny_done (by kernel_rfl) ?_ _; exact lines_more hv hrow HLen.out hb0 hb3 hB2 hx hown' hgrow _
   go_simp
   refine hK _ _ ?_; clear hK K; refine wpAny_ready (rs := [0]) (by kernel_rfl) (by simp) ?_; refine AllReady.cons rfl (fun K hK => ?_) AllReady.nil; go_simp
   refine hK _ _ ?_; clear hK K; refine wpAny_ready (rs := [6]) (by kernel_rfl) (by simp) ?_; refine AllReady.cons rfl (fun K hK => ?_) AllReady.nil; refine step_append_owned rfl _ _ 57 rfl (w.heap.size + 4) 9 i0 (.string ⟨#[]⟩) 1 16 Tryz.underlying57 hi hz0 hz1 hz2 rfl (by decide) (.slice A pre.length cap) pre.length (outOf pre) rfl (hrowD _) ⟨W.heap.size, 0, none⟩ 1 1 [.string (cutP x)] rfl rfl (cell_one_new _ _ _) (by simp [Value.oneCell']) (by unfold maxLen; omega) (by omega) (by simp; omega) ?_; intro v' w1 hown' hgrow _; obtain ⟨g', cap', rfl⟩ := ownsRow_succ hown'; have q1 := grown_box hrow hgrow hv (by omega); refine hK _ _ ?_; clear hK K; have cO := q1.cell; have fO := q1.frozen; refine wpAny_ready (rs := [7]) (by kernel_rfl) (by simp) ?_; refine AllReady.cons rfl (fun K hK => ?_) AllReady.nil; go_simp
   refine hK _ _ ?_; clear hK K; clear cO fO; refine wpAny_done (by kernel_rfl) ?_ _; exact lines_more hv hrow HLen.out hb0 hb3 hB2 hx hown' hgrow _
  have ht : ((x.1.2 : Int) == (s.size : Int)) = false := by simp; omega
  have ht2 : (x.1.2 == s.size) = false := by simp; omega
  have hx : endL s x.1 = false := by unfold endL; rw [ht2]; rfl
  gi_wp2
  refine wpIn_region_any (by kernel_rfl) ?_; refine anyIn_of_any l _ (noDefer_of (by kernel_rfl)) (by rintro ⟨a9, w9, h9⟩; exact h9) _ _ _ _ ?_; change wpAny _ _ _ _ _ _ _ (World.drew _); refine wpAny_take (i := 2) (v := ?_) rfl (by kernel_rfl) (by kernel_rfl) (by kernel_rfl) (fun _ _ _ h => h) (Or.inl ⟨by rfl, ?_⟩) ?_; rotate_left
  · intro w9; go_simp; rfl
  refine wpAny_take (i := 3) (v := ?_) rfl (by kernel_rfl) (by kernel_rfl) (by kernel_rfl) (fun _ _ _ h => h) (Or.inl ⟨by rfl, ?_⟩) ?_; rotate_left
  · intro w9; go_simp; rfl
  refine wpAny_ready (rs := [0, 1]) (by kernel_rfl) (by simp) ?_; refine AllReady.cons rfl (fun K hK => ?_) (AllReady.cons rfl (fun K hK => ?_) AllReady.nil)
  ·
   go_simp
   refine hK _ _ ?_; clear hK K; refine wpAny_ready (rs := [1]) (by kernel_rfl) (by simp) ?_; refine AllReady.cons rfl (fun K hK => ?_) AllReady.nil; go_simp
   refine hK _ _ ?_; clear hK K; refine wpAny_ready (rs := [4]) (by kernel_rfl) (by simp) ?_; refine AllReady.cons rfl (fun K hK => ?_) AllReady.nil; go_simp
   refine hK _ _ ?_; clear hK K; refine wpAny_ready (rs := [5]) (by kernel_rfl) (by simp) ?_; refine AllReady.cons rfl (fun K hK => ?_) AllReady.nil; go_simp
   refine hK _ _ ?_; clear hK K; refine wpAny_ready (rs := [6]) (by kernel_rfl) (by simp) ?_; refine AllReady.cons rfl (fun K hK => ?_) AllReady.nil; refine step_append_owned rfl _ _ 57 rfl (w.heap.size + 4) 9 i0 (.string ⟨#[]⟩) 1 16 Tryz.underlying57 hi hz0 hz1 hz2 rfl (by decide) (.slice A pre.length cap) pre.length (outOf pre) rfl (hrowD _) ⟨W.heap.size, 0, none⟩ 1 1 [.string (cutP x)] rfl rfl (cell_one_new _ _ _) (by simp [Value.oneCell']) (by unfold maxLen; omega) (by omega) (by simp; omega) ?_; intro v' w1 hown' hgrow _; obtain ⟨g', cap', rfl⟩ := ownsRow_succ hown'; have q1 := grown_box hrow hgrow hv (by omega); refine hK _ _ ?_; clear hK K; have cO := q1.cell; have fO := q1.frozen; refine wpAny_ready (rs := [7]) (by kernel_rfl) (by simp) ?_; refine AllReady.cons rfl (fun K hK => ?_) AllReady.nil; go_simp
   refine hK _ _ ?_; clear hK K; clear cO fO; refine wpAny_done (by kernel_rfl) ?_ _; exact lines_more hv hrow HLen.out hb0 hb3 hB2 hx hown' hgrow _
  go_simp
  refine hK _ _ ?_; clear hK K; refine wpAny_ready (rs := [0, 4]) (by kernel_rfl) (by simp) ?_; refine AllReady.cons rfl (fun K hK => ?_) (AllReady.cons rfl (fun K hK => ?_) AllReady.nil)
  ·
   go_simp
   refine hK _ _ ?_; clear hK K; refine wpAny_ready (rs := [4]) (by kernel_rfl) (by simp) ?_; refine AllReady.cons rfl (fun K hK => ?_) AllReady.nil; go_simp
   refine hK _ _ ?_; clear hK K; refine wpAny_ready (rs := [5]) (by kernel_rfl) (by simp) ?_; refine AllReady.cons rfl (fun K hK => ?_) AllReady.nil; go_simp
   refine hK _ _ ?_; clear hK K; refine wpAny_ready (rs := [6]) (by kernel_rfl) (by simp) ?_; refine AllReady.cons rfl (fun K hK => ?_) AllReady.nil; refine step_append_owned rfl _ _ 57 rfl (w.heap.size + 4) 9 i0 (.string ⟨#[]⟩) 1 16 Tryz.underlying57 hi hz0 hz1 hz2 rfl (by decide) (.slice A pre.length cap) pre.length (outOf pre) rfl (hrowD _) ⟨W.heap.size, 0, none⟩ 1 1 [.string (cutP x)] rfl rfl (cell_one_new _ _ _) (by simp [Value.oneCell']) (by unfold maxLen; omega) (by omega) (by simp; omega) ?_; intro v' w1 hown' hgrow _; obtain ⟨g', cap', rfl⟩ := ownsRow_succ hown'; have q1 := grown_box hrow hgrow hv (by omega); refine hK _ _ ?_; clear hK K; have cO := q1.cell; have fO := q1.frozen; refine wpAny_ready (rs := [7]) (by kernel_rfl) (by simp) ?_; refine AllReady.cons rfl (fun K hK => ?_) AllReady.nil; go_simp
   refine hK _ _ ?_; clear hK K; clear cO fO; refine wpAny_done (by kernel_rfl) ?_ _; exact lines_more hv hrow HLen.out hb0 hb3 hB2 hx hown' hgrow _
  go_simp
  refine hK _ _ ?_; clear hK K; refine wpAny_ready (rs := [0, 5]) (by kernel_rfl) (by simp) ?_; refine AllReady.cons rfl (fun K hK => ?_) (AllReady.cons rfl (fun K hK => ?_) AllReady.nil)
  ·
   go_simp
   refine hK _ _ ?_; clear hK K; refine wpAny_ready (rs := [5]) (by kernel_rfl) (by simp) ?_; refine AllReady.cons rfl (fun K hK => ?_) AllReady.nil; go_simp
   refine hK _ _ ?_; clear hK K; refine wpAny_ready (rs := [6]) (by kernel_rfl) (by simp) ?_; refine AllReady.cons rfl (fun K hK => ?_) AllReady.nil; refine step_append_owned rfl _ _ 57 rfl (w.heap.size + 4) 9 i0 (.string ⟨#[]⟩) 1 16 Tryz.underlying57 hi hz0 hz1 hz2 rfl (by decide) (.slice A pre.length cap) pre.length (outOf pre) rfl (hrowD _) ⟨W.heap.size, 0, none⟩ 1 1 [.string (cutP x)] rfl rfl (cell_one_new _ _ _) (by simp [Value.oneCell']) (by unfold maxLen; omega) (by omega) (by simp; omega) ?_; intro v' w1 hown' hgrow _; obtain ⟨g', cap', rfl⟩ := ownsRow_succ hown'; have q1 := grown_box hrow hgrow hv (by omega); refine hK _ _ ?_; clear hK K; have cO := q1.cell; have fO := q1.frozen; refine wpAny_ready (rs := [7]) (by kernel_rfl) (by simp) ?_; refine AllReady.cons rfl (fun K hK => ?_) AllReady.nil; go_simp
   refine hK _ _ ?_; clear hK K; clear cO fO; refine wpAny_done (by kernel_rfl) ?_ _; exact lines_more hv hrow HLen.out hb0 hb3 hB2 hx hown' hgrow _
  go_simp
  refine hK _ _ ?_; clear hK K; refine wpAny_ready (rs := [0]) (by kernel_rfl) (by simp) ?_; refine AllReady.cons rfl (fun K hK => ?_) AllReady.nil; go_simp
  refine hK _ _ ?_; clear hK K; refine wpAny_ready (rs := [6]) (by kernel_rfl) (by simp) ?_; refine AllReady.cons rfl (fun K hK => ?_) AllReady.nil; refine step_append_owned rfl _ _ 57 rfl (w.heap.size + 4) 9 i0 (.string ⟨#[]⟩) 1 16 Tryz.underlying57 hi hz0 hz1 hz2 rfl (by decide) (.slice A pre.length cap) pre.length (outOf pre) rfl (hrowD _) ⟨W.heap.size, 0, none⟩ 1 1 [.string (cutP x)] rfl rfl (cell_one_new _ _ _) (by simp [Value.oneCell']) (by unfold maxLen; omega) (by omega) (by simp; omega) ?_; intro v' w1 hown' hgrow _; obtain ⟨g', cap', rfl⟩ := ownsRow_succ hown'; have q1 := grown_box hrow hgrow hv (by omega); refine hK _ _ ?_; clear hK K; have cO := q1.cell; have fO := q1.frozen; refine wpAny_ready (rs := [7]) (by kernel_rfl) (by simp) ?_; refine AllReady.cons rfl (fun K hK => ?_) AllReady.nil; go_simp
  refine hK _ _ ?_; clear hK K; clear cO fO; refine wpAny_done (by kernel_rfl) ?_ _; exact lines_more hv hrow HLen.out hb0 hb3 hB2 hx hown' hgrow _
 case hdone =>
  rintro D ys W hD rfl ⟨⟨⟨v, hv, hrow, hlen, hno⟩, hb0, hb3⟩, hB2⟩ hK; obtain ⟨A, cap, rfl⟩ := ownsRow_slice hrow; have hc := hv.cell; have hDw := Nat.le_trans g1 hD; clear g1 g1O g2 a0 a1 a3 a4 hB hD; gi_wp2
  refine ⟨by simp, .inl ⟨_, _, rfl, run_takeDeferred hK, ?_⟩⟩; refine ⟨.slice A (cutsP s sep).length cap, ?_, _, rfl, ?_, hB2.trans (belowK_b (w := w) (Nat.le_refl _) _ D _ _ hDw hK rfl rfl)⟩
  · simp [results, Tryz.f39, go_sem]
  obtain ⟨f1, f2⟩ := lines_done (s := s) (sep := sep) hno; rw [f1, f2]; exact (ownsRow_putObj hrow (.deferred none) hK rfl).mono (by omega)
 case hstop =>
  rintro D c pre W hD hpre ⟨⟨v, hv, hrow, rfl, x, hx, he, hno⟩, hB2⟩ hK; obtain ⟨A, cap, rfl⟩ := ownsRow_slice hrow; have hc := hv.cell; have hDw := Nat.le_trans g1 hD; have HX := Lib.hid hx; clear g1 g1O g2 a0 a1 a3 a4 hB hD hx; gi_wp2
  refine ⟨by simp, .inl ⟨_, _, rfl, run_takeDeferred hK, ?_⟩⟩; refine ⟨.slice A pre.dropLast.length cap, ?_, _, rfl, ?_, hB2.trans (belowK_b (w := w) (Nat.le_refl _) _ D _ _ hDw hK rfl rfl)⟩
  · simp [results, Tryz.f39, go_sem]
  obtain ⟨f1, f2⟩ := lines_stop (sep := sep) hpre HX.out he hno; rw [f1, f2]; exact (ownsRow_putObj hrow (.deferred none) hK rfl).mono (by omega)
end Go.Proofs.YtmbacdkpgfbclaaGreatDoor
