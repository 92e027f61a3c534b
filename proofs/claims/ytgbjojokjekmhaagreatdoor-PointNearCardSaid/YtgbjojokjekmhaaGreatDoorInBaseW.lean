/- numeral.InBase walked: the letters of a natural's digits; conditions: limbs, a base from 2 to 36, and its callees' contracts. -/
import Derived.Test.YtgbjojokjekmhaaGreatDoorWWords
import Derived.Test.YtgbjojokjekmhaaGreatDoorGW
import Derived.Maps.AppendAt
import Derived.Lib.FrozenHead
import Derived.Lib.OthersKept
import Derived.IntWalk
import Derived.Deep.DeepCutAuto
import Derived.Deep.CutBlock
import Derived.Deep.LoopGhost
import Derived.Lib.UnsafeStr
namespace Go.Proofs.YtgbjojokjekmhaaGreatDoor.Num
set_option linter.unusedVariables false
set_option linter.unusedSimpArgs false
open Go.RowKit Go.Proofs.YtgbjojokjekmhaaGreatDoorW.PrintWords

abbrev B : Nat := 18446744073709551616
/-- Limbs. -/
def Lm (l : List Int) : Prop := ∀ x ∈ l, 0 ≤ x ∧ x < 18446744073709551616
/-- What the limbs are worth. -/
def val : List Int → Nat
 | [] => 0
 | x :: l => x.toNat + B * val l

theorem lm_nil : Lm [] := fun _ h => by cases h
theorem lm_cons {x : Int} {l : List Int} : Lm (x :: l) ↔ (0 ≤ x ∧ x < 18446744073709551616) ∧ Lm l := by
 unfold Lm; constructor
 · intro h; exact ⟨h x List.mem_cons_self, fun y hy => h y (List.mem_cons_of_mem _ hy)⟩
 rintro ⟨h1, h2⟩ y hy; rcases List.mem_cons.1 hy with rfl | hy
 · exact h1
 exact h2 y hy
theorem lm_take {l : List Int} (h : Lm l) (n : Nat) : Lm (l.take n) := fun x hx => h x (List.mem_of_mem_take hx)
theorem lm_replicate (n : Nat) : Lm (List.replicate n 0) := fun x hx => by
 obtain ⟨_, rfl⟩ := List.mem_replicate.1 hx
 omega
theorem lm_set {l : List Int} (h : Lm l) (i : Nat) {x : Int} (hx : 0 ≤ x ∧ x < 18446744073709551616) : Lm (l.set i x) := fun y hy => by
 rcases List.mem_or_eq_of_mem_set hy with hy | rfl
 ·
  exact h y hy
 ·
  exact hx
theorem lm_rd {l : List Int} (h : Lm l) (i : Int) : 0 ≤ rd l i ∧ rd l i < 18446744073709551616 := by
 unfold rd; rw [List.getD_eq_getElem?_getD]; cases hx : l[i.toNat]? with
 | none => simp
 | some x => exact h x (List.mem_of_getElem? hx)
theorem rd_nat (l : List Int) {i : Nat} (h : i < l.length) : rd l (i : Int) = l[i] := by
 unfold rd; rw [Int.toNat_natCast, List.getD_eq_getElem?_getD, List.getElem?_eq_getElem h]; rfl

theorem val_append (a b : List Int) : val (a ++ b) = val a + B ^ a.length * val b := by
 induction a with
 | nil => simp [val]
 | cons x a ih =>
  simp only [List.cons_append, val, ih, List.length_cons, Nat.pow_succ]; rw [Nat.mul_add, ← Nat.add_assoc, Nat.mul_comm (B ^ a.length) B, Nat.mul_assoc]
theorem val_replicate (n : Nat) : val (List.replicate n 0) = 0 := by
 induction n with
 | zero => rfl
 | succ n ih => rw [List.replicate_succ, val, ih]; rfl
theorem val_lt {l : List Int} (h : Lm l) : val l < B ^ l.length := by
 induction l with
 | nil => simp [val]
 | cons x l ih =>
  obtain ⟨h1, h2⟩ := lm_cons.1 h; have h3 := ih h2; simp only [val, List.length_cons, Nat.pow_succ]; have h4 : x.toNat < B := by show x.toNat < 18446744073709551616; omega
  calc x.toNat + B * val l < B + B * val l := by omega
   _ = B * (val l + 1) := by rw [Nat.mul_add, Nat.mul_one, Nat.add_comm]
   _ ≤ B * B ^ l.length := Nat.mul_le_mul_left _ h3
   _ = B ^ l.length * B := Nat.mul_comm _ _
theorem val_take_drop (l : List Int) (n : Nat) : val l = val (l.take n) + B ^ (l.take n).length * val (l.drop n) := by
 conv => lhs; rw [← List.take_append_drop n l]
 exact val_append _ _

/-! ### how many limbs without the high zero ones -/
def szN (l : List Int) : Nat → Nat
 | 0 => 0
 | n + 1 => if rd l (n : Int) = 0 then szN l n else n + 1
def sz (l : List Int) : Nat := szN l l.length
theorem szN_le (l : List Int) : ∀ n, szN l n ≤ n
 | 0 => Nat.le_refl _
 | n + 1 => by
  unfold szN
  split
  ·
   exact Nat.le_succ_of_le (szN_le l n)
  ·
   exact Nat.le_refl _
theorem sz_le (l : List Int) : sz l ≤ l.length := szN_le l _
theorem szN_zero (l : List Int) : ∀ n, n ≤ l.length → ∀ i, szN l n ≤ i → i < n → rd l (i : Int) = 0
 | 0, _, i, _, h => by omega
 | n + 1, hn, i, h1, h2 => by
  unfold szN at h1
  split at h1
  ·
   rename_i h0
   by_cases e : i = n
   ·
    rw [e]; exact h0
   ·
    exact szN_zero l n (by omega) i h1 (by omega)
  ·
   omega
theorem val_zeros {l : List Int} (h : ∀ x ∈ l, x = 0) : val l = 0 := by
 induction l with
 | nil => rfl
 | cons x l ih =>
  rw [val, h x List.mem_cons_self, ih (fun y hy => h y (List.mem_cons_of_mem _ hy))]; rfl
theorem val_sz (l : List Int) : val (l.take (sz l)) = val l := by
 rw [val_take_drop l (sz l)]; have : val (l.drop (sz l)) = 0 := by
  apply val_zeros; intro x hx; obtain ⟨i, hi, rfl⟩ := List.mem_iff_getElem.1 hx; rw [List.length_drop] at hi; rw [List.getElem_drop, ← rd_nat l (by omega)]; exact szN_zero l l.length (Nat.le_refl _) _ (by show sz l ≤ _; omega) (by omega)
 rw [this, Nat.mul_zero, Nat.add_zero]
theorem szN_top (l : List Int) : ∀ n, 0 < szN l n → rd l ((szN l n - 1 : Nat) : Int) ≠ 0
 | 0, h => by simp [szN] at h
 | n + 1, h => by
  unfold szN at h ⊢
  split
  ·
   rename_i h0; rw [if_pos h0] at h; exact szN_top l n h
  ·
   rename_i h0
   simpa using h0
theorem sz_pow {l : List Int} (h : Lm l) (h0 : 0 < sz l) : B ^ (sz l - 1) ≤ val l := by
 have ht := szN_top l l.length h0; have hle := sz_le l; obtain ⟨n, hn⟩ : ∃ n, sz l = n + 1 := ⟨sz l - 1, by omega⟩; have hlt : n < l.length := by omega
 rw [hn, Nat.add_sub_cancel, val_take_drop l n, List.length_take_of_le (by omega), List.drop_eq_getElem_cons hlt, val]; have hx : l[n].toNat ≠ 0 := by
  have e : szN l l.length - 1 = n := by show sz l - 1 = n; omega
  rw [e, rd_nat l hlt] at ht; have := h l[n] (List.getElem_mem hlt); omega
 calc B ^ n = B ^ n * 1 := (Nat.mul_one _).symm
  _ ≤ B ^ n * (l[n].toNat + B * val (l.drop (n + 1))) := Nat.mul_le_mul_left _ (by omega)
  _ ≤ _ := Nat.le_add_left _ _
theorem sz_lt {l : List Int} (h : Lm l) : val l < B ^ sz l := by
 have := val_lt (lm_take h (sz l)); rw [val_sz, List.length_take_of_le (sz_le l)] at this; exact this
theorem sz_le_of_val {l : List Int} (h : Lm l) {n : Nat} (hv : val l < B ^ n) : sz l ≤ n := by
 rcases Nat.eq_zero_or_pos (sz l) with h0 | h0
 · omega
 have h1 := Nat.lt_of_le_of_lt (sz_pow h h0) hv; have := (Nat.pow_lt_pow_iff_right (a := B) (by decide)).1 h1; omega
theorem sz_zero_iff {l : List Int} (h : Lm l) : sz l = 0 ↔ val l = 0 := by
 constructor
 · intro h0; have := sz_lt h; rw [h0] at this; simpa using this
 intro h0; rcases Nat.eq_zero_or_pos (sz l) with h1 | h1
 · exact h1
 have := sz_pow h h1; rw [h0] at this; have h2 : 0 < B ^ (sz l - 1) := Nat.pow_pos (by decide); omega
end Go.Proofs.YtgbjojokjekmhaaGreatDoor.Num
namespace Go.Proofs.YtgbjojokjekmhaaGreatDoor.Num
set_option linter.unusedVariables false
set_option linter.unusedSimpArgs false

def digs (b : Nat) : Nat → Nat → List Nat
 | 0, _ => []
 | f + 1, v => if v = 0 then [] else (v % b) :: digs b f (v / b)
/-- The digits of v in base b, lowest first; none of nothing. -/
def dl (b v : Nat) : List Nat := digs b v v
theorem digs_enough {b : Nat} (hb : 2 ≤ b) : ∀ (f g v : Nat), v ≤ f → v ≤ g → digs b f v = digs b g v
 | 0, 0, _, _, _ => rfl
 | 0, g + 1, v, h, _ => by
  obtain rfl : v = 0 := by omega
  rw [digs, digs, if_pos rfl]
 | f + 1, 0, v, _, h => by
  obtain rfl : v = 0 := by omega
  rw [digs, digs, if_pos rfl]
 | f + 1, g + 1, v, h1, h2 => by
  rw [digs, digs]
  by_cases h0 : v = 0
  ·
   rw [if_pos h0, if_pos h0]
  ·
   rw [if_neg h0, if_neg h0]
   have : v / b < v := Nat.div_lt_self (by omega) (by omega)
   rw [digs_enough hb f g (v / b) (by omega) (by omega)]
theorem dl_pos {b v : Nat} (hb : 2 ≤ b) (h : v ≠ 0) : dl b v = (v % b) :: dl b (v / b) := by
 have hlt : v / b < v := Nat.div_lt_self (by omega) (by omega); obtain ⟨f, rfl⟩ : ∃ f, v = f + 1 := ⟨v - 1, by omega⟩; unfold dl; rw [digs, if_neg h, digs_enough hb f ((f + 1) / b) _ (by omega) (Nat.le_refl _)]
theorem dl_lt {b : Nat} (hb : 2 ≤ b) : ∀ (f v : Nat), v ≤ f → ∀ x ∈ dl b v, x < b
 | 0, v, h, x, hx => by
  obtain rfl : v = 0 := by omega
  cases hx
 | f + 1, v, h, x, hx => by
  by_cases h0 : v = 0
  ·
   subst h0; cases hx
  ·
   have : v / b < v := Nat.div_lt_self (by omega) (by omega)
   rw [dl_pos hb h0] at hx
   rcases List.mem_cons.mp hx with e | e
   ·
    rw [e]; exact Nat.mod_lt _ (by omega)
   ·
    exact dl_lt hb f (v / b) (by omega) x e
theorem dl_ne {b v : Nat} (hb : 2 ≤ b) (h : v ≠ 0) : dl b v ≠ [] := by
 rw [dl_pos hb h]; exact List.cons_ne_nil _ _
/-- As many digits as the power's exponent hold. -/
theorem dl_length {b : Nat} (hb : 2 ≤ b) : ∀ (n v : Nat), v < b ^ n → (dl b v).length ≤ n
 | 0, v, h => by
  obtain rfl : v = 0 := by simp at h; omega
  exact Nat.le_refl _
 | n + 1, v, h => by
  by_cases h0 : v = 0
  ·
   subst h0; exact Nat.zero_le _
  ·
   rw [dl_pos hb h0, List.length_cons]
   have : v / b < b ^ n := by
    rw [Nat.div_lt_iff_lt_mul (by omega)]; rwa [Nat.pow_succ] at h
   have := dl_length hb n (v / b) this; omega
/-- One step of a piece: what is left of the piece below U's. -/
theorem dl_step {b U r m : Nat} (hb : 2 ≤ b) (h : ¬ (r = 0 ∧ U = 0)) : dl b (U * b ^ (m + 1) + r) = (r % b) :: dl b (U * b ^ m + r / b) := by
 have e : U * b ^ (m + 1) + r = b * (U * b ^ m) + r := by rw [Nat.pow_succ, ← Nat.mul_assoc, Nat.mul_comm b]
 have hne : U * b ^ (m + 1) + r ≠ 0 := by
  intro h0; apply h; have h1 : U * b ^ (m + 1) = 0 := by omega
  refine ⟨by omega, ?_⟩; rcases Nat.mul_eq_zero.mp h1 with h2 | h2
  · exact h2
  have := Nat.pow_pos (n := m + 1) (show 0 < b by omega); omega
 rw [dl_pos hb hne, e, Nat.mul_add_mod, Nat.mul_add_div (by omega)]
end Go.Proofs.YtgbjojokjekmhaaGreatDoor.Num
namespace Go.Proofs.YtgbjojokjekmhaaGreatDoor.Num
set_option linter.unusedVariables false
set_option linter.unusedSimpArgs false
open Go.RowKit Go.Proofs.YtgbjojokjekmhaaGreatDoorW.PrintWords

theorem pow_bits (J : Nat) : B ^ J = 2 ^ (64 * J) := by rw [Nat.pow_mul]
theorem div_limb {p rest x : Nat} (hr : rest < p) (hx : x < B) : (rest * B + x) / p < B ∧ (rest * B + x) % p < p := by
 have hp : 0 < p := by omega
 refine ⟨?_, Nat.mod_lt _ hp⟩; rw [Nat.div_lt_iff_lt_mul hp]; have h1 : (rest + 1) * B ≤ p * B := Nat.mul_le_mul_right _ hr; rw [Nat.add_mul, Nat.one_mul] at h1; rw [Nat.mul_comm B p]; omega
theorem take_val (T : List Int) {j : Nat} (h : j < T.length) : val (T.take (j + 1)) = val (T.take j) + B ^ j * (rd T (j : Int)).toNat := by
 rw [List.take_succ_eq_append_getElem h, val_append, List.length_take_of_le (Nat.le_of_lt h), rd_nat T h]; simp [val]
theorem drop_set_val (T : List Int) {j : Nat} (h : j < T.length) (q : Int) : val ((T.set j q).drop j) = q.toNat + B * val (T.drop (j + 1)) := by
 rw [List.drop_eq_getElem_cons (by rw [List.length_set]; exact h), List.getElem_set_self, val, List.drop_set_of_lt (Nat.lt_succ_self j)]
theorem take_set_same (T : List Int) (j : Nat) (q : Int) : (T.set j q).take j = T.take j := by
 rw [List.take_set, List.set_eq_of_length_le (by rw [List.length_take]; omega)]
/-- One limb more divided in place. -/
theorem div_inv {T : List Int} {p rest V j : Nat} (h : j < T.length) (hl : Lm T) (hr : rest < p) (hV : val (T.take (j + 1)) + B ^ (j + 1) * (val (T.drop (j + 1)) * p + rest) = V) :
  val ((T.set j (((rest * B + (rd T (j : Int)).toNat) / p : Nat) : Int)).take j) + B ^ j * (val ((T.set j (((rest * B + (rd T (j : Int)).toNat) / p : Nat) : Int)).drop j) * p + (rest * B + (rd T (j : Int)).toNat) % p) = V := by
 rw [take_set_same, drop_set_val T h, Int.toNat_natCast]; rw [take_val T h] at hV; have hd := Nat.div_add_mod (rest * B + (rd T (j : Int)).toNat) p; generalize (rd T (j : Int)).toNat = x at *; generalize (rest * B + x) / p = q at *; generalize (rest * B + x) % p = r at *; generalize val (T.drop (j + 1)) = D at *; have e : (q + B * D) * p + r = x + B * (D * p + rest) := by
  rw [Nat.add_mul, Nat.mul_add, Nat.mul_assoc B D p]; rw [Nat.mul_comm p q] at hd; rw [Nat.mul_comm rest B] at hd; omega
 rw [e, ← hV, Nat.mul_add, Nat.pow_succ, Nat.mul_assoc (B ^ j) B, Nat.add_assoc]
/-- A row whose limbs are worth less than a power. -/
theorem val_small {T : List Int} (hl : Lm T) {n : Nat} (hn : T.length ≤ n) : val T < B ^ n := Nat.lt_of_lt_of_le (val_lt hl) (Nat.pow_le_pow_right (by decide) hn)
theorem val_pos {T : List Int} (hl : Lm T) (ht : sz T = T.length) (h0 : 0 < T.length) : 0 < val T := by
 have := sz_pow hl (by omega); have h2 : 0 < B ^ (sz T - 1) := Nat.pow_pos (by decide); omega
theorem sz_of_top {T : List Int} {m : Nat} (hm : T.length = m + 1) (h : rd T (m : Int) ≠ 0) : sz T = T.length := by
 unfold sz; rw [hm, szN, if_neg h]
theorem val_take_zero {T : List Int} {m : Nat} (h : m < T.length) (h0 : rd T (m : Int) = 0) : val (T.take (m + 1)) = val (T.take m) := by
 rw [take_val T h, h0]; simp
theorem rd_take {T : List Int} {m i : Nat} (h : i < m) : rd (T.take m) (i : Int) = rd T (i : Int) := by
 unfold rd; rw [Int.toNat_natCast, List.getD_eq_getElem?_getD, List.getD_eq_getElem?_getD, List.getElem?_take, if_pos h]
/-- The letters of a row of digits. -/
def lets (upper : Bool) : ByteArray := if upper then ⟨#[48, 49, 50, 51, 52, 53, 54, 55, 56, 57, 65, 66, 67, 68, 69, 70, 71, 72, 73, 74, 75, 76, 77, 78, 79, 80, 81, 82, 83, 84, 85, 86, 87, 88, 89, 90]⟩ else ⟨#[48, 49, 50, 51, 52, 53, 54, 55, 56, 57, 97, 98, 99, 100, 101, 102, 103, 104, 105, 106, 107, 108, 109, 110, 111, 112, 113, 114, 115, 116, 117, 118, 119, 120, 121, 122]⟩
theorem lets_size (u : Bool) : (lets u).size = 36 := by cases u <;> rfl
def letter (u : Bool) (d : Nat) : UInt8 := (lets u).data.toList.getD d 0
def word (u : Bool) (ds : List Nat) : List UInt8 := ds.map (letter u)
theorem word_cons (u : Bool) (d : Nat) (ds : List Nat) : word u (d :: ds) = letter u d :: word u ds := rfl
/-- The bytes as cells. -/
def bcs (r : List UInt8) : List Value := r.map fun b => Value.int .u8 b.toNat
theorem bcs_append (a b : List UInt8) : bcs (a ++ b) = bcs a ++ bcs b := List.map_append
/-- The digits of a natural in a base, highest first; '0' of nothing. -/
def inBase (u : Bool) (b v : Nat) : List UInt8 := if v = 0 then [48] else (word u (dl b v)).reverse
end Go.Proofs.YtgbjojokjekmhaaGreatDoor.Num
namespace Go.Proofs.YtgbjojokjekmhaaGreatDoor
open Go.RowKit Go.Proofs.YtgbjojokjekmhaaGreatDoorW.PrintWords Go.Proofs.YtgbjojokjekmhaaGreatDoorW.PrintLast Num
set_option linter.unusedVariables false
set_option linter.unusedSimpArgs false
theorem infoU8 : (Tryz.prog.info? 5).map (fun i => (i.zero, i.size, i.bytes)) = some (some (.int .u8 0), 1, 1) := by kernel_rfl
/-- A row cut short. -/
theorem own_cut {w : World} {Bs e g c n m : Nat} {xs : List Value} (h : w.ownsRow Bs e 1 (.slice (some ⟨g, 0, none⟩) n c) n xs) (hm : m ≤ n) : w.ownsRow Bs e 1 (.slice (some ⟨g, 0, none⟩) m c) m (xs.take m) := by
 obtain ⟨hl, h2⟩ := h; refine ⟨by rw [List.length_take]; omega, ?_⟩; rcases h2 with ⟨h0, _⟩ | ⟨g', cap, cur, hv, hb, hg, hnc, hcm, hcs, ht⟩
 · cases h0
 cases hv
 refine .inr ⟨g, c, cur, rfl, hb, hg, by omega, hcm, hcs, ?_⟩; rw [← ht, List.take_take, Nat.mul_one, Nat.mul_one, Nat.min_eq_left hm]
theorem row_form {w : World} {Bs e size n : Nat} {v : Value} {xs : List Value} (h : w.ownsRow Bs e size v n xs) (h0 : 0 < n) : ∃ g c, v = .slice (some ⟨g, 0, none⟩) n c := by
 rcases h.2 with ⟨_, hn⟩ | ⟨g, cap, cur, hv, _⟩
 · omega
 exact ⟨g, cap, hv⟩
theorem row_at {w : World} {Bs e g c n : Nat} {T : List Int} (h : w.ownsRow Bs e 1 (.slice (some ⟨g, 0, none⟩) n c) n (nums .u64 T)) (i : Nat) (hi : i < n) : w.cell? ⟨g, i, none⟩ = some (.int .u64 (rd T (i : Int))) ∧ w.frozen? ⟨g, i, none⟩ = false := by
 have hl : T.length = n := by have := h.1; simp [nums] at this; exact this
 refine ⟨?_, h.frozenAt i⟩; rw [h.cellAt i (by omega)]; unfold nums rd; rw [List.getElem?_map, Int.toNat_natCast, List.getD_eq_getElem?_getD, List.getElem?_eq_getElem (by omega)]; rfl
theorem row_store {w : World} {Bs e g c n : Nat} {T : List Int} (h : w.ownsRow Bs e 1 (.slice (some ⟨g, 0, none⟩) n c) n (nums .u64 T)) (i : Nat) (x : Int) :
  (w.setCell ⟨g, i, none⟩ (.int .u64 x)).ownsRow Bs e 1 (.slice (some ⟨g, 0, none⟩) n c) n (nums .u64 (T.set i x)) ∧ w.grownBy (w.setCell ⟨g, i, none⟩ (.int .u64 x)) (some g) := by
 have hs := h.stored i (.int .u64 x); have he : (nums .u64 T).set i (.int .u64 x) = nums .u64 (T.set i x) := by simp [nums, List.map_set]
 rw [he] at hs; exact hs
theorem letter_at (u : Bool) {d : Nat} (h : d < (lets u).size) : letter u d = (lets u)[d]'h := by
 unfold letter; rw [List.getD_eq_getElem?_getD, List.getElem?_eq_getElem (by simpa using h)]; rfl
theorem own_cap {w : World} {Bs e g c n : Nat} {xs : List Value} (h : w.ownsRow Bs e 1 (.slice (some ⟨g, 0, none⟩) n c) n xs) : n ≤ c := by
 rcases h.2 with ⟨h0, _⟩ | ⟨g', cap, cur, hv, hb, hg, hnc, _⟩
 · cases h0
 cases hv
 exact hnc
section
variable {P : Program} {ops : Array Oper} {rest : List Oper} {o : Oper} {a : Act} {Q : Exit → Act → World → Prop}
theorem append_byte {W : World} (base : Nat) (hgd : o.guard = none) (s x : Operand) (t e : TypeId)
  (ho : o.op = .call { callee := .builtin .append, args := #[s, x], argTypes := #[t, t] })
  (ht : P.underlying t = some (.slice e)) (hinfo : (P.info? e).map (fun i => (i.zero, i.size, i.bytes)) = some (some (.int .u8 0), 1, 1))
  (v : Value) (n : Nat) (xs : List Value) (y : Value) (hs : a.eval s = v) (hx : a.eval x = .slice (some ⟨W.heap.size, 0, none⟩) 1 1) (h1 : y.oneCell' = true)
  (HO : W.ownsRow base e 1 v n xs) (hbase : base ≤ W.heap.size) (hl : n + 1 ≤ 140737488355328)
  (h : ∀ v1 w1, w1.ownsRow base e 1 v1 (n + 1) (xs ++ [y]) → Below base W w1 → W.grownBy w1 v.ownBlock → wpList P ops Q rest (a.put o.dst v1) w1) :
  wpList P ops Q (o :: rest) a (W.alloc (.cells #[y] e)) := by
 obtain ⟨i0, hi, hzz⟩ := Option.map_eq_some_iff.1 hinfo; simp only [Prod.mk.injEq] at hzz; obtain ⟨hz0, hz1, hz2⟩ := hzz; refine wpList_append_own_at (W.alloc (.cells #[y] e)) hgd s x t ho base e i0 (.int .u8 0) 1 1 ht hi hz0 hz1 hz2 rfl (by omega) v n xs hs (HO.alloc _) ⟨W.heap.size, 0, none⟩ 1 1 [y] hx rfl
  (World.news_of_block (cs := #[y]) (t := e) (fr := (0, 0)) (heap_alloc_new W _)) (by simpa using h1) (by simp only [maxLen]; omega) (by omega) (by simp; omega) ?_
 intro v1 w1 hown hg _ hat; exact h v1 w1 hown (((Below.refl _ _).alloc hbase _).grown hg (by simp; omega) (own_base HO)) (World.grownBy.trans (World.grownBy_alloc W _ _) hg)
end
set_option maxRecDepth 100000 in
set_option maxHeartbeats 8000000 in
theorem InBase_walk (A0 : Option Addr) (c0 : Nat) (l0 : List Int) (b p n : Nat) (up : Bool) (w : World) (hl : Lm l0) (hb : 2 ≤ b) (hb2 : b ≤ 36) (hp : p = b ^ n) (hn : 1 ≤ n) (hn2 : n ≤ 64) (hp2 : p < 18446744073709551616) (hz : sz l0 ≤ 4096) (HG : GW w)
  (HT : Calls Tryz.prog 151 #[.slice A0 l0.length c0] w fun e w' => ∃ v, e = .returned v ∧ w'.ownsRow w.heap.size 24 1 v (sz l0) (nums .u64 (l0.take (sz l0))) ∧ Below w.heap.size w w')
  (HC : ∀ u, GW u → Calls Tryz.prog 152 #[.int .i64 (b : Int)] u fun e u' => e = .returned (.tuple #[.int .u64 (p : Int), .int .i64 (n : Int)]) ∧ Drawn0 u u')
  (HD : ∀ (hi lo : Nat) (u : World), GW u → hi < p → lo < 18446744073709551616 → Calls Tryz.prog 153 #[.int .u64 (hi : Int), .int .u64 (lo : Int), .int .u64 (p : Int)] u fun e u' => e = .returned (.tuple #[.int .u64 (((hi * 18446744073709551616 + lo) / p : Nat) : Int), .int .u64 (((hi * 18446744073709551616 + lo) % p : Nat) : Int)]) ∧ Drawn0 u u')
  (HWB : ∀ (B b : Nat) (bs : List Value) (c : Int) (u : World), Lib.IsBuilderF 131 5 B b bs u → bs.length + 1 ≤ 140737488355328 → B ≤ u.heap.size → Calls Tryz.prog 90 #[.pointer (some ⟨b, 0, none⟩), .int .u8 c] u fun e u' => e = .returned .nilIface ∧ (Lib.BuilderAtF 131 5 B b (.pointer (some ⟨b, 0, none⟩)) (bs ++ [.int .u8 c]) u' ∧ Below B u u' ∧ Lib.OthersKept 5 (some b) u u'))
  (HSt : ∀ (B b : Nat) (l : List UInt8) (u : World), Lib.IsBuilderF 131 5 B b (Lib.byteCells l) u → B ≤ u.heap.size → Calls Tryz.prog 84 #[.pointer (some ⟨b, 0, none⟩)] u fun e u' => e = .returned (.string ⟨l.toArray⟩) ∧ (Lib.IsBuilderF 131 5 B b (Lib.byteCells l) u' ∧ Below B u u' ∧ Lib.OthersKept 5 (some b) u u')) :
  Calls Tryz.prog 106 #[.slice A0 l0.length c0, .int .i64 (b : Int), .bool up] w fun e w' => e = .returned (.tuple #[.string ⟨(inBase up b (val l0)).toArray⟩, .int .i64 0]) ∧ Below w.heap.size w w' := by
 have HTT := Lib.hid HT; have HCC := Lib.hid HC; have HDD := Lib.hid HD; have HWW := Lib.hid HWB; have HSS := Lib.hid HSt; have HLm := Lib.hid hl; have HP := Lib.hid hp; have hbi : (2 : Int) ≤ (b : Int) := by omega
 have hbj : (b : Int) ≤ 36 := by omega
 have d1 : decide (4096 < ((sz l0 : Nat) : Int)) = false := decide_eq_false (by omega); have d1n : decide (4096 < sz l0) = false := decide_eq_false (by omega); have d2 : decide ((b : Int) < 2) = false := decide_eq_false (by omega); have d2n : decide (b < 2) = false := decide_eq_false (by omega); have d3 : decide (36 < (b : Int)) = false := decide_eq_false (by omega); have d3n : decide (36 < b) = false := decide_eq_false (by omega); clear HT HC HD HWB HSt hl hp; obtain ⟨T, hT⟩ : ∃ T, l0.take (sz l0) = T := ⟨_, rfl⟩; have hTl : T.length = sz l0 := by rw [← hT]; exact List.length_take_of_le (sz_le l0)
 have hTL : Lm T := by rw [← hT]; exact lm_take HLm.out _
 have hTv : val T = val l0 := by rw [← hT]; exact val_sz l0
 have hTs : sz T = T.length := by
  rcases Nat.eq_zero_or_pos T.length with h0 | h0
  · have := sz_le T; omega
  obtain ⟨m, hm⟩ : ∃ m, T.length = m + 1 := ⟨T.length - 1, by omega⟩; refine sz_of_top hm ?_; have h1 := szN_top l0 l0.length (by show 0 < sz l0; omega); have h2 : szN l0 l0.length - 1 = m := by show sz l0 - 1 = m; omega
  rw [h2] at h1; rw [← hT, rd_take (by omega)]; exact h1
 have hnd : (dl b (val l0)).length ≤ 262144 := by
  obtain ⟨J, hJ⟩ : ∃ J : Nat, J = 4096 := ⟨_, rfl⟩; have hK : 262144 = 64 * J := by rw [hJ]
  rw [hK]; refine dl_length hb (64 * J) (val l0) ?_; rw [← hTv]; have h1 : val T < B ^ J := val_small hTL (by rw [hTl, hJ]; exact hz); rw [pow_bits J] at h1; exact Nat.lt_of_lt_of_le h1 (Nat.pow_le_pow_left hb (64 * J))
 have HND := Lib.hid hnd; clear hnd; have HT2 := Lib.hid hT; have HTl := Lib.hid hTl; have HTL := Lib.hid hTL; have HTv := Lib.hid hTv; have HTs := Lib.hid hTs; clear hT hTL hTv hTs; go_enter Tryz.func106, Tryz.ntmps106; go_wp2_with fail; refine HTT.out.mono ?_; rintro e w1 ⟨v, rfl, ho1, hb1⟩; rw [HT2.out] at ho1; obtain ⟨Aa, Ca, rfl⟩ := own_slice ho1; have O1 := Lib.hid ho1; have B1 := Lib.hid hb1; clear ho1 hb1 hTl; by_cases h0 : sz l0 = 0
 ·
  have d4 : (((sz l0 : Nat) : Int) == 0) = true := by rw [h0]; rfl
  have hv0 : val l0 = 0 := (sz_zero_iff HLm.out).1 h0; have HV0 := Lib.hid hv0; clear h0 hv0; go_wp2_with fail; go_ret2; unfold inBase; rw [if_pos HV0.out]; exact ⟨rfl, B1.out⟩
 have d4 : (((sz l0 : Nat) : Int) == 0) = false := beq_eq_false_iff_ne.mpr (by omega); have H0 := Lib.hid h0; clear h0; go_upto_if 32 with (fail)
 go_cut [9] (fun s9 wx => s9 = .string (lets up) ∧ wx = w1)
 case first =>
  cases up
  all_goals
   go_wp2_with fail; go_meet
   exact ⟨rfl, rfl⟩
 case rest =>
  obtain ⟨rfl, rfl⟩ := hcut; go_wp2_with fail; refine (HCC.out wc (HG.below B1.out)).mono ?_; rintro e w2 ⟨rfl, nd, rfl⟩; have hb2' : Below wc.heap.size wc (wc.drewN nd) := pw_below_drewN (Below.refl _ _) _; have O2 := Lib.hid (pw_own_below O1.out hb2'); have B2 := Lib.hid (B1.out.trans (hb2'.mono B1.out.size)); clear hb2'; go_wp2_with fail; go_loopg [8, 12] (val l0) (fun d s8 s12 wx => ∃ (T1 : List Int) (rev : List UInt8), Aside0 (wx.ownsRow w.heap.size 24 1 s8 T1.length (nums .u64 T1)) ∧ Aside0 (wx.ownsRow w.heap.size 5 1 s12 rev.length (bcs rev)) ∧ Aside0 (Below w.heap.size w wx) ∧ Aside0 (Lm T1) ∧ Aside0 (sz T1 = T1.length) ∧ Aside0 (d = val T1) ∧ Aside0 (rev ++ word up (dl b (val T1)) = word up (dl b (val l0))) ∧ T1.length ≤ 4096)
  case atStart => exact ⟨T, [], ⟨by rw [HTl.out]; exact O2.out⟩, ⟨own_nil _ _ _ _⟩, ⟨B2.out⟩, ⟨HTL.out⟩, ⟨HTs.out⟩, ⟨HTv.out.symm⟩, ⟨by rw [HTv.out]; rfl⟩, by rw [HTl.out]; exact hz⟩
  case round =>
   obtain ⟨T1, rev, R1, R2, R3, R4, R5, R6, R7, hT4⟩ := hrel; by_cases h0 : T1.length = 0
   ·
    have e1 : decide (0 < (T1.length : Int)) = false := decide_eq_false (by omega); have e1n : decide (0 < T1.length) = false := decide_eq_false (by omega); obtain ⟨A8, C8, rfl⟩ := own_slice R1.out; have hrev : rev = word up (dl b (val l0)) := by
     have h := R7.out; rw [List.eq_nil_of_length_eq_zero h0] at h; simpa [val, dl, digs, word] using h
    have hvne : val l0 ≠ 0 := fun h => H0.out ((sz_zero_iff HLm.out).2 h)
    have hrl0 : 0 < rev.length := by
     rw [hrev]; unfold word; rw [List.length_map]; exact List.length_pos_iff.2 (dl_ne hb hvne)
    have hrl : rev.length ≤ 262144 := by
     rw [hrev]; unfold word; rw [List.length_map]; exact HND.out
    obtain ⟨gr, cr, hvr⟩ := row_form R2.out hrl0; subst hvr; have hend : inBase up b (val l0) = rev.reverse := by
     unfold inBase; rw [if_neg hvne, hrev]
    have HEnd := Lib.hid hend; have hgr : gr < wr.heap.size := own_lt R2.out gr rfl; clear hrev hvne hend R1 R7 h0; go_wp2_with fail; obtain ⟨W5, hW5⟩ : ∃ W5, W5 = wr.alloc (.cells #[.pointer none, .slice none 0 0] 131) := ⟨_, rfl⟩; have hB5 : Below wr.heap.size wr W5 := by rw [hW5]; exact below_alloc (Below.refl _ _) _
    have hI5 : Lib.IsBuilderF 131 5 wr.heap.size wr.heap.size (Lib.byteCells []) W5 := by
     rw [hW5]; exact Lib.IsBuilderF.of (.inl ⟨Nat.le_refl _, .slice none 0 0, blk_new _ _, own_nil _ _ _ _, by simp [Value.ownBlock]⟩)
    have R5w := Lib.hid (pw_own_below R2.out hB5); have I5 := Lib.hid hI5; have hsz5 : wr.heap.size ≤ W5.heap.size := hB5.size; have B5w := Lib.hid (R3.out.trans (hB5.mono R3.out.size)); have hwr : w.heap.size ≤ wr.heap.size := R3.out.size; rw [← hW5]; clear hW5 hB5 hI5; go_loopg [17] rev.length (fun d s17 wx => ∃ x : Int, s17 = .int .i64 x ∧ x = (d : Int) - 1 ∧ Aside0 (Lib.IsBuilderF 131 5 wr.heap.size wr.heap.size (Lib.byteCells ((rev.drop d).reverse)) wx) ∧ Aside0 (Below wr.heap.size W5 wx) ∧ d ≤ rev.length)
    case atStart => exact ⟨_, rfl, rfl, ⟨by rw [List.drop_length]; exact I5.out⟩, ⟨Below.refl _ _⟩, Nat.le_refl _⟩
    case round =>
     obtain ⟨x, rfl, hx, J1, J2, hd⟩ := hrel; by_cases hg0 : gk = 0
     · subst hg0; have f0 : decide (0 ≤ x) = false := decide_eq_false (by omega); clear hx; go_wp2_with fail; refine (HSS.out _ _ ((rev.drop 0).reverse) _ J1.out (Nat.le_trans hsz5 J2.out.size)).mono ?_; rintro e w6 ⟨rfl, _, hb6, _⟩; go_wp2_with fail; go_ret2; rw [HEnd.out]; exact ⟨rfl, B5w.out.trans ((J2.out.trans hb6).mono hwr)⟩
     obtain ⟨j, rfl⟩ : ∃ j, gk = j + 1 := ⟨gk - 1, by omega⟩; obtain rfl : x = (j : Int) := by omega
     have f1 : decide (0 ≤ (j : Int)) = true := decide_eq_true (by omega); have hj0 : 0 ≤ (j : Int) := by omega
     have hj1 : (j : Int) < (rev.length : Int) := by omega
     have hcell : W5.cell? ⟨gr, j, none⟩ = some (.int .u8 ((rev[j]'(by omega)).toNat : Int)) := by
      rw [R5w.out.cellAt j (by omega)]; unfold bcs; rw [List.getElem?_map, List.getElem?_eq_getElem (by omega)]; rfl
     have hc2 := (J2.out.cell (p := ⟨gr, j, none⟩) hgr).trans hcell; have hbc : Lib.byteCells ((rev.drop (j + 1)).reverse) ++ [.int .u8 ((rev[j]'(by omega)).toNat : Int)] = Lib.byteCells ((rev.drop j).reverse) := by
      rw [List.drop_eq_getElem_cons (show j < rev.length by omega), List.reverse_cons]; unfold Lib.byteCells; rw [List.map_append]; rfl
     have HBc := Lib.hid hbc; obtain ⟨ch, hch⟩ : ∃ ch : Int, ((rev[j]'(by omega)).toNat : Int) = ch := ⟨_, rfl⟩; rw [hch] at hc2 HBc; clear hcell hbc hch hx; go_wp2_with fail; refine (HWW.out _ _ _ ch _ J1.out (by rw [Lib.byteCells_length, List.length_reverse, List.length_drop]; omega) (Nat.le_trans hsz5 J2.out.size)).mono ?_; rintro e w6 ⟨rfl, hI6, hb6, _⟩; have I6 := Lib.hid hI6; have J6 := Lib.hid (J2.out.trans hb6); clear hI6 hb6 hc2; go_wp2_with fail; go_roundg j
     case measure => omega
     case rel => exact ⟨_, rfl, rfl, ⟨by rw [← HBc.out]; exact .inr I6.out⟩, ⟨J6.out⟩, by omega⟩
   obtain ⟨g, c, hv1⟩ := row_form R1.out (by omega); subst hv1; have e1 : decide (0 < (T1.length : Int)) = true := decide_eq_true (by omega); have e1n : decide (0 < T1.length) = true := decide_eq_true (by omega); have hTi : (T1.length : Int) ≤ 4096 := by omega
   have hTi1 : 1 ≤ (T1.length : Int) := by omega
   go_wp2_with fail; go_loopg [13, 14] T1.length (fun d s13 s14 wx => ∃ (T2 : List Int) (r : Nat) (x : Int), s13 = .int .u64 (r : Int) ∧ s14 = .int .i64 x ∧ x = (d : Int) - 1 ∧ Aside0 (wx.ownsRow w.heap.size 24 1 (.slice (some ⟨g, 0, none⟩) T1.length c) T1.length (nums .u64 T2)) ∧ Aside0 (wx.ownsRow w.heap.size 5 1 u12 rev.length (bcs rev)) ∧ Aside0 (Below w.heap.size w wx) ∧ Aside0 (Lm T2) ∧ Aside0 (T2.length = T1.length) ∧ Aside0 (r < p) ∧ Aside0 (val (T2.take d) + B ^ d * (val (T2.drop d) * p + r) = val T1) ∧ d ≤ T1.length)
   case atStart => exact ⟨T1, 0, (T1.length : Int) - 1, rfl, rfl, rfl, ⟨R1.out⟩, ⟨R2.out⟩, ⟨R3.out⟩, ⟨R4.out⟩, ⟨rfl⟩, ⟨by have h1 := HP.out; rw [h1]; exact Nat.pow_pos (by omega)⟩, ⟨by rw [List.take_length, List.drop_length]; simp [val]⟩, Nat.le_refl _⟩
   case round =>
    clear R1; obtain ⟨T2, r, x, rfl, rfl, hx, S1, S2, S3, S4, S5, S6, S7, hd⟩ := hrel; by_cases hg0 : gk = 0
    ·
     subst hg0; have f0 : decide (0 ≤ x) = false := decide_eq_false (by omega); have hval : val T2 * p + r = val T1 := by
      have h := S7.out; rw [List.take_zero, List.drop_zero, Nat.pow_zero, Nat.one_mul] at h; simpa [val] using h
     have HVal := Lib.hid hval; clear hval hx S7; go_upto_block 4 with (fail)
     go_cut [8] (fun s8 wx => ∃ m : Nat, s8 = .slice (some ⟨g, 0, none⟩) m c ∧ wx = wr ∧ Aside0 (val (T2.take m) = val T2) ∧ Aside0 (sz (T2.take m) = (T2.take m).length) ∧ m ≤ T1.length)
     case first =>
      go_wp2_with fail; go_loopg [8] T1.length (fun d s8 wx => s8 = .slice (some ⟨g, 0, none⟩) d c ∧ wx = wr ∧ Aside0 (val (T2.take d) = val T2) ∧ d ≤ T1.length)
      case atStart => exact ⟨rfl, rfl, ⟨by rw [← S5.out, List.take_length]⟩, Nat.le_refl _⟩
      case round =>
       obtain ⟨rfl, rfl, U1, hd3⟩ := hrel; have hcap := own_cap S1.out; by_cases hs : gk = 0 ∨ rd T2 ((gk - 1 : Nat) : Int) ≠ 0
       ·
        have hlen3 : (T2.take gk).length = gk := List.length_take_of_le (by rw [S5.out]; exact hd3); have hsz3 : sz (T2.take gk) = (T2.take gk).length := by
         rcases Nat.eq_zero_or_pos gk with h1 | h1
         · have := sz_le (T2.take gk); omega
         obtain ⟨m, rfl⟩ : ∃ m, gk = m + 1 := ⟨gk - 1, by omega⟩; refine sz_of_top hlen3 ?_; rw [rd_take (Nat.lt_succ_self m)]; rcases hs with h2 | h2
         · omega
         exact h2
        have HSz3 := Lib.hid hsz3; clear hlen3 hsz3; by_cases hk0 : gk = 0
        ·
         subst hk0; clear hs; go_wp2_with fail; go_meet
         exact ⟨0, rfl, rfl, ⟨U1.out⟩, ⟨HSz3.out⟩, Nat.zero_le _⟩
        obtain ⟨m, rfl⟩ : ∃ m, gk = m + 1 := ⟨gk - 1, by omega⟩; have hs' : rd T2 (m : Int) ≠ 0 := by
         rcases hs with h2 | h2
         · omega
         exact h2
        obtain ⟨hc0, hf0⟩ := row_at S1.out m (by omega); obtain ⟨z, hz'⟩ : ∃ z, rd T2 (m : Int) = z := ⟨_, rfl⟩; rw [hz'] at hc0 hs'; have hzb : (z == 0) = false := beq_eq_false_iff_ne.mpr hs'; have hm1 : (m : Int) < (T1.length : Int) := by omega
        clear hz' hs hs'; go_wp2_with fail; go_meet
        exact ⟨m + 1, rfl, rfl, ⟨U1.out⟩, ⟨HSz3.out⟩, hd3⟩
       obtain ⟨m, rfl⟩ : ∃ m, gk = m + 1 := ⟨gk - 1, by omega⟩; have hz0 : rd T2 (m : Int) = 0 := by
        by_cases h1 : rd T2 (m : Int) = 0
        · exact h1
        exact absurd (.inr (by rw [Nat.add_sub_cancel]; exact h1)) hs
       obtain ⟨hc0, hf0⟩ := row_at S1.out m (by omega); rw [hz0] at hc0; have hm1 : (m : Int) < (T1.length : Int) := by omega
       have hmc : (m : Int) ≤ (c : Int) := by omega
       have hU := U1.out; rw [val_take_zero (by rw [S5.out]; omega) hz0] at hU; have HU := Lib.hid hU; clear hz0 hs hU U1; go_wp2_with fail; go_roundg m
       case measure => omega
       case rel => exact ⟨rfl, rfl, ⟨HU.out⟩, by omega⟩
     case rest =>
      obtain ⟨m, rfl, rfl, U1, U2, hmT⟩ := hcut; have O3 := Lib.hid (own_cut S1.out hmT); have hO3 : (nums .u64 T2).take m = nums .u64 (T2.take m) := by simp [nums, List.map_take]
      have hlt : val (T2.take m) < val T1 := by
       have h1 := HVal.out; have h2 := U1.out; have h3 : 0 < val T1 := val_pos R4.out R5.out (by omega); have hp1 : 2 ≤ p := by
        rw [HP.out]; exact Nat.le_trans hb (Nat.le_self_pow (by omega) b)
       rw [h2]; have h4 : val T2 * 2 ≤ val T2 * p := Nat.mul_le_mul_left _ hp1; omega
      have hst : rev ++ word up (dl b (val (T2.take m) * b ^ n + r)) = word up (dl b (val l0)) := by
       rw [U1.out, ← HP.out, HVal.out]; exact R7.out
      have HLT := Lib.hid hlt; have HST := Lib.hid hst; have HO3 := Lib.hid hO3; clear hlt hst hO3; go_wp2_with fail; go_loopg [12, 13, 15] n (fun d s12 s13 s15 wx => ∃ (rv : List UInt8) (r4 : Nat) (kk : Int), s13 = .int .u64 (r4 : Int) ∧ s15 = .int .i64 kk ∧ kk = (n : Int) - (d : Int) ∧ Aside0 (wx.ownsRow w.heap.size 5 1 s12 rv.length (bcs rv)) ∧ Aside0 (wx.ownsRow w.heap.size 24 1 (.slice (some ⟨g, 0, none⟩) m c) m (nums .u64 (T2.take m))) ∧ Aside0 (Below w.heap.size w wx) ∧ Aside0 (r4 < b ^ d) ∧ Aside0 (rv ++ word up (dl b (val (T2.take m) * b ^ d + r4)) = word up (dl b (val l0))) ∧ d ≤ n)
      case atStart => exact ⟨rev, r, 0, rfl, rfl, by omega, ⟨S2.out⟩, ⟨by rw [← HO3.out]; exact O3.out⟩, ⟨S3.out⟩, ⟨by rw [← HP.out]; exact S6.out⟩, ⟨HST.out⟩, Nat.le_refl _⟩
      case round =>
       clear O3 S1 S2 S3 HST; obtain ⟨rv, r4, kk, rfl, rfl, hkk, V1, V2, V3, V4, V5, hdn⟩ := hrel; have hrl : rv.length ≤ 262144 := by
        have h := congrArg List.length V5.out; rw [List.length_append] at h; have h2 : (word up (dl b (val l0))).length ≤ 262144 := by
         unfold word; rw [List.length_map]; exact HND.out
        omega
       by_cases hd0 : gk = 0
       ·
        subst hd0; have g1 : decide (kk < (n : Int)) = false := decide_eq_false (by omega); have hr0 : r4 = 0 := by have h := V4.out; rw [Nat.pow_zero] at h; omega
        have hfin : rv ++ word up (dl b (val (T2.take m))) = word up (dl b (val l0)) := by
         have h := V5.out; rw [hr0, Nat.pow_zero, Nat.mul_one, Nat.add_zero] at h; exact h
        have HFin := Lib.hid hfin; clear hfin hr0 hkk; go_wp2_with fail; go_roundg (val (T2.take m))
        case measure => rw [R6.out]; exact HLT.out
        case rel => exact ⟨T2.take m, rv, ⟨by rw [List.length_take_of_le (by rw [S5.out]; exact hmT)]; exact V2.out⟩, ⟨V1.out⟩, ⟨V3.out⟩, ⟨lm_take S4.out m⟩, ⟨U2.out⟩, ⟨rfl⟩, ⟨HFin.out⟩, by rw [List.length_take]; omega⟩
       obtain ⟨e, rfl⟩ : ∃ e, gk = e + 1 := ⟨gk - 1, by omega⟩; have g1 : decide (kk < (n : Int)) = true := decide_eq_true (by omega); by_cases hbr : r4 = 0 ∧ m = 0
       ·
        obtain ⟨rfl, rfl⟩ := hbr; have hfin : rv ++ word up (dl b (val (T2.take 0))) = word up (dl b (val l0)) := by
         have h := V5.out; rw [List.take_zero, Nat.add_zero] at h; simpa [val] using h
        have HFin := Lib.hid hfin; clear hfin hkk; go_wp2_with fail; go_roundg (val (T2.take 0))
        case measure => rw [R6.out]; exact HLT.out
        case rel => exact ⟨T2.take 0, rv, ⟨by rw [List.length_take_of_le (Nat.zero_le _)]; exact V2.out⟩, ⟨V1.out⟩, ⟨V3.out⟩, ⟨lm_take S4.out 0⟩, ⟨U2.out⟩, ⟨rfl⟩, ⟨HFin.out⟩, by rw [List.length_take]; omega⟩
       have hix : r4 % b < (lets up).size := by rw [lets_size]; exact Nat.lt_of_lt_of_le (Nat.mod_lt _ (by omega)) hb2
       have hix0 : 0 ≤ (r4 : Int) % (b : Int) := by rw [← Int.natCast_emod]; omega
       have hix1 : (r4 : Int) % (b : Int) < ((lets up).size : Int) := by rw [← Int.natCast_emod]; omega
       have hk0 : 0 ≤ kk := by omega
       have hk1 : kk ≤ 64 := by omega
       have hr4 : (r4 : Int) ≤ 18446744073709551615 := by
        have h1 := V4.out; have h2 : b ^ (e + 1) ≤ b ^ n := Nat.pow_le_pow_right (by omega) hdn; rw [← HP.out] at h2; omega
       have hbr2 : ¬ (r4 = 0 ∧ val (T2.take m) = 0) := fun h => hbr ⟨h.1, by
        have h1 := (sz_zero_iff (lm_take S4.out m)).2 h.2; rw [U2.out, List.length_take_of_le (by rw [S5.out]; exact hmT)] at h1; exact h1⟩
       have hq4 : IntKind.u64.wrap ((r4 : Int) / (b : Int)) = ((r4 / b : Nat) : Int) := by
        have h1 : r4 / b ≤ r4 := Nat.div_le_self _ _; have h2 : (r4 : Int) / (b : Int) = ((r4 / b : Nat) : Int) := (Int.natCast_ediv r4 b).symm; have h3 : ∀ x : Int, IntKind.u64.wrap x = x % 18446744073709551616 := fun x => by simp [IntKind.wrap, IntKind.bits, IntKind.signed]
        rw [h2, h3]; generalize r4 / b = y at *; omega
       have HQ4 := Lib.hid hq4; have HKK := Lib.hid hkk; have HBR := Lib.hid hbr; have HBR2 := Lib.hid hbr2; clear hbr2 hq4; clear hkk hbr; by_cases hr0 : r4 = 0
       ·
        have c1 : ((r4 : Int) == 0) = true := by rw [hr0]; rfl
        have hm0 : m ≠ 0 := fun h => HBR.out ⟨hr0, h⟩
        have c2 : ((m : Int) == 0) = false := beq_eq_false_iff_ne.mpr (by omega); have c2n : (m == 0) = false := beq_eq_false_iff_ne.mpr hm0; clear hr0 hm0; go_wp2_with (first | ((with_reducible refine append_byte (W := wr) w.heap.size rfl (.tmp 90) (.tmp 97) 30 5 rfl Tryz.underlying30 infoU8 u12 rv.length (bcs rv) (.int .u8 (((lets up)[r4 % b]'hix).toNat : Int)) rfl ?hx rfl V1.out ?hb ?hl ?_); (case hx => rfl); (case hb => exact V3.out.size); (case hl => omega); intro v4 w4 ho4 hb4 hg4; (have X1 := Lib.hid ho4); (have X2 := Lib.hid (own_other V2.out hg4 (own_type_ne V2.out V1.out (by decide)))); (have X3 := Lib.hid (V3.out.trans hb4)); clear ho4 hb4 hg4)); go_roundg e
        case measure => omega
        case rel =>
         refine ⟨rv ++ [(lets up)[r4 % b]'hix], r4 / b, kk + 1, (by first | rfl | rw [HQ4.out] | (rw [← HQ4.out]; rfl)), rfl, by have := HKK.out; omega, ⟨?_⟩, ⟨X2.out⟩, ⟨X3.out⟩, ⟨?_⟩, ⟨?_⟩, by omega⟩
         · rw [bcs_append, List.length_append]; exact X1.out
         · rw [Nat.div_lt_iff_lt_mul (by omega), ← Nat.pow_succ]; exact V4.out
         have h := V5.out; rw [dl_step hb HBR2.out, word_cons, letter_at up hix] at h; rw [List.append_assoc]; exact h
       have c1 : ((r4 : Int) == 0) = false := beq_eq_false_iff_ne.mpr (by omega); have c1n : (r4 == 0) = false := beq_eq_false_iff_ne.mpr hr0; go_wp2_with (first | ((with_reducible refine append_byte (W := wr) w.heap.size rfl (.tmp 90) (.tmp 97) 30 5 rfl Tryz.underlying30 infoU8 u12 rv.length (bcs rv) (.int .u8 (((lets up)[r4 % b]'hix).toNat : Int)) rfl ?hx rfl V1.out ?hb ?hl ?_); (case hx => rfl); (case hb => exact V3.out.size); (case hl => omega); intro v4 w4 ho4 hb4 hg4; (have X1 := Lib.hid ho4); (have X2 := Lib.hid (own_other V2.out hg4 (own_type_ne V2.out V1.out (by decide)))); (have X3 := Lib.hid (V3.out.trans hb4)); clear ho4 hb4 hg4)); go_roundg e
       case measure => omega
       case rel =>
        refine ⟨rv ++ [(lets up)[r4 % b]'hix], r4 / b, kk + 1, (by first | rfl | rw [HQ4.out] | (rw [← HQ4.out]; rfl)), rfl, by have := HKK.out; omega, ⟨?_⟩, ⟨X2.out⟩, ⟨X3.out⟩, ⟨?_⟩, ⟨?_⟩, by omega⟩
        · rw [bcs_append, List.length_append]; exact X1.out
        · rw [Nat.div_lt_iff_lt_mul (by omega), ← Nat.pow_succ]; exact V4.out
        have h := V5.out; rw [dl_step hb HBR2.out, word_cons, letter_at up hix] at h; rw [List.append_assoc]; exact h
    obtain ⟨j, rfl⟩ : ∃ j, gk = j + 1 := ⟨gk - 1, by omega⟩; obtain rfl : x = (j : Int) := by omega
    have f1 : decide (0 ≤ (j : Int)) = true := decide_eq_true (by omega); have hj0 : 0 ≤ (j : Int) := by omega
    have hj1 : (j : Int) < (T1.length : Int) := by omega
    obtain ⟨hc0, hf0⟩ := row_at S1.out j (by omega); have hyr := lm_rd S4.out (j : Int); obtain ⟨y, hy⟩ : ∃ y : Nat, rd T2 (j : Int) = (y : Int) := ⟨(rd T2 (j : Int)).toNat, by omega⟩; rw [hy] at hc0 hyr; have HY := Lib.hid hy; have hyb : y < 18446744073709551616 := by omega
    clear hy hyr hx; obtain ⟨q, hq⟩ : ∃ q, (r * 18446744073709551616 + y) / p = q := ⟨_, rfl⟩; obtain ⟨r2, hr2⟩ : ∃ r2, (r * 18446744073709551616 + y) % p = r2 := ⟨_, rfl⟩; have HC2 := HDD.out r y wr (HG.below S3.out) S6.out hyb; rw [hq, hr2] at HC2; have HC3 := Lib.hid HC2; have HQ := Lib.hid hq; have HR2 := Lib.hid hr2; clear HC2 hq hr2; go_wp2_with fail; refine HC3.out.mono ?_; rintro e w3 ⟨rfl, nd3, rfl⟩; go_wp2_with fail; have hbd := pw_below_drewN (Below.refl wr.heap.size wr) nd3; have S1d := pw_own_below S1.out hbd; have S2d := pw_own_below S2.out hbd; obtain ⟨hS, hg⟩ := row_store S1d j (q : Int); have hqr := div_limb (p := p) (rest := r) (x := y) S6.out hyb; have hqB : q < 18446744073709551616 := by rw [← HQ.out]; exact hqr.1
    have hrB : r2 < p := by rw [← HR2.out]; exact hqr.2
    go_roundg j
    case measure => omega
    case rel =>
     refine ⟨T2.set j (q : Int), r2, (j : Int) - 1, rfl, rfl, rfl, ⟨hS⟩, ⟨own_other S2d hg (own_type_ne S2d S1d (by decide))⟩, ⟨(pw_below_drewN S3.out nd3).setCell (own_base S1.out g rfl) _⟩, ⟨lm_set S4.out j ⟨by omega, by omega⟩⟩, ⟨by rw [List.length_set]; exact S5.out⟩, ⟨hrB⟩, ⟨?_⟩, by omega⟩; have h := div_inv (T := T2) (p := p) (rest := r) (V := val T1) (j := j) (by rw [S5.out]; omega) S4.out S6.out S7.out; rw [HY.out, Int.toNat_natCast] at h; rw [← HQ.out, ← HR2.out]; exact h
end Go.Proofs.YtgbjojokjekmhaaGreatDoor
