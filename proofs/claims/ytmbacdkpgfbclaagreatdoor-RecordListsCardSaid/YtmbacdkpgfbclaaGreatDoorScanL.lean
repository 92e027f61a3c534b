/- scan.literal walked: a text's literal at a place; conditions: a place within the text, a text below 2^47 bytes. -/
import Derived.Test.YtmbacdkpgfbclaaGreatDoorRoundW
import Derived.Lib.Repeat
import Derived.Lib.Case
import Derived.ScopeJumps
import Derived.WalkMore
import Derived.Test.YtmbacdkpgfbclaaGreatDoorGW
import Derived.StillTailTactics
namespace Go.Proofs.YtmbacdkpgfbclaaGreatDoor.Num
set_option linter.unusedVariables false
set_option linter.unusedSimpArgs false
open Go.RowKit Go.Proofs.YtmbacdkpgfbclaaGreatDoorW.PrintWords

/-- A row as a text. -/
abbrev S (l : List UInt8) : ByteArray := ⟨l.toArray⟩
theorem s_of (t : ByteArray) : ∃ l, t = S l := ⟨t.data.toList, by cases t; rfl⟩
theorem s_size (l : List UInt8) : (S l).size = l.length := by show l.toArray.size = _; simp
theorem s_data (l : List UInt8) : (S l).data.toList = l := rfl
theorem s_app (a b : List UInt8) : S a ++ S b = S (a ++ b) := by
 apply ByteArray.ext; rw [ByteArray.data_append]; simp
theorem s_ext {t : ByteArray} {l : List UInt8} (h : t.data.toList = l) : t = S l := by subst h; cases t; rfl
/-- A row of digits. -/
def Dg (l : List UInt8) : Prop := ∀ b ∈ l, 48 ≤ b.toNat ∧ b.toNat ≤ 57
end Go.Proofs.YtmbacdkpgfbclaaGreatDoor.Num
namespace Go.Proofs.YtmbacdkpgfbclaaGreatDoor.Num
set_option linter.unusedVariables false
set_option linter.unusedSimpArgs false

def isD (b : UInt8) : Bool := decide (48 ≤ b.toNat) && decide (b.toNat ≤ 57)
def atD (l : List UInt8) (i : Nat) : Bool := match l[i]? with | some b => isD b | none => false
def at2 (l : List UInt8) (i : Nat) (a b : UInt8) : Bool := match l[i]? with | some x => x == a || x == b | none => false
/-- How many digits stand from a place on. -/
def runD (l : List UInt8) (i : Nat) : Nat := ((l.drop i).takeWhile isD).length
def expF (e : Int) (b : UInt8) : Int := if 1000000000000000 < e * 10 + ((b.toNat : Int) - 48) then 1000000000000000 else e * 10 + ((b.toNat : Int) - 48)
/-- A written exponent, cut. -/
def expL (e : Int) (l : List UInt8) : Int := l.foldl expF e
theorem isD_iff {b : UInt8} : isD b = true ↔ 48 ≤ b.toNat ∧ b.toNat ≤ 57 := by
 unfold isD; rw [Bool.and_eq_true, decide_eq_true_iff, decide_eq_true_iff]
theorem atD_lt {l : List UInt8} {i : Nat} (h : atD l i = true) : i < l.length := by
 unfold atD at h; cases hx : l[i]? with
 | none => rw [hx] at h; cases h
 | some b => exact (List.getElem?_eq_some_iff.1 hx).1
theorem atD_get {l : List UInt8} {i : Nat} (hi : i < l.length) : atD l i = isD l[i] := by
 unfold atD; rw [List.getElem?_eq_getElem hi]
theorem at2_lt {l : List UInt8} {i : Nat} {a b : UInt8} (h : at2 l i a b = true) : i < l.length := by
 unfold at2 at h; cases hx : l[i]? with
 | none => rw [hx] at h; cases h
 | some b => exact (List.getElem?_eq_some_iff.1 hx).1
theorem at2_get {l : List UInt8} {i : Nat} (hi : i < l.length) (a b : UInt8) : at2 l i a b = (l[i] == a || l[i] == b) := by
 unfold at2; rw [List.getElem?_eq_getElem hi]
theorem runD_succ {l : List UInt8} {i : Nat} (h : atD l i = true) : runD l i = runD l (i + 1) + 1 := by
 have hi := atD_lt h; rw [atD_get hi] at h; unfold runD; rw [List.drop_eq_getElem_cons hi, List.takeWhile_cons_of_pos h, List.length_cons]
theorem runD_zero {l : List UInt8} {i : Nat} (h : atD l i = false) : runD l i = 0 := by
 unfold runD; rcases Nat.lt_or_ge i l.length with hi | hi
 · rw [atD_get hi] at h; rw [List.drop_eq_getElem_cons hi, List.takeWhile_cons_of_neg (by rw [h]; decide)]; rfl
 rw [List.drop_of_length_le hi]; rfl
theorem runD_le {l : List UInt8} {i : Nat} (hi : i ≤ l.length) : i + runD l i ≤ l.length := by
 unfold runD; have := (List.takeWhile_prefix (p := isD) (l := l.drop i)).length_le; rw [List.length_drop] at this; omega
theorem expF_rng {e : Int} {b : UInt8} (h0 : 0 ≤ e) (hb : isD b = true) : 0 ≤ expF e b ∧ expF e b ≤ 1000000000000000 := by
 have := isD_iff.1 hb; unfold expF; split <;> omega
/-- The exponent read from a place on. -/
def expAtL (e : Int) (l : List UInt8) (i : Nat) : Int := expL e ((l.drop i).takeWhile isD)
theorem expAtL_succ {l : List UInt8} {i : Nat} (h : atD l i = true) (e : Int) : expAtL e l i = expAtL (expF e (l[i]'(atD_lt h))) l (i + 1) := by
 have hi := atD_lt h; rw [atD_get hi] at h; unfold expAtL expL; rw [List.drop_eq_getElem_cons hi, List.takeWhile_cons_of_pos h, List.foldl_cons]
theorem expAtL_zero {l : List UInt8} {i : Nat} (h : atD l i = false) (e : Int) : expAtL e l i = e := by
 unfold expAtL expL; rcases Nat.lt_or_ge i l.length with hi | hi
 · rw [atD_get hi] at h; rw [List.drop_eq_getElem_cons hi, List.takeWhile_cons_of_neg (by rw [h]; decide)]; rfl
 rw [List.drop_of_length_le hi]; rfl
theorem expAtL_rng {l : List UInt8} : ∀ n i : Nat, l.length - i = n → ∀ e : Int, 0 ≤ e → e ≤ 1000000000000000 → 0 ≤ expAtL e l i ∧ expAtL e l i ≤ 1000000000000000 := by
 intro n; induction n with
 | zero =>
  intro i hn e h0 h1; have : atD l i = false := by
   cases h : atD l i with
   | false => rfl
   | true => have := atD_lt h; omega
  rw [expAtL_zero this]; exact ⟨h0, h1⟩
 | succ n ih =>
  intro i hn e h0 h1; cases h : atD l i with
  | false => rw [expAtL_zero h]; exact ⟨h0, h1⟩
  | true =>
   have hi := atD_lt h; have h2 := expF_rng (e := e) h0 (by rw [← atD_get hi]; exact h); rw [expAtL_succ h]; exact ih (i + 1) (by omega) _ h2.1 h2.2
/-! ### the literal -/
def fromL (l : List UInt8) (i : Nat) : Nat := if at2 l i 43 45 = true then i + 1 else i
def negL (l : List UInt8) (i : Nat) : Bool := at2 l i 45 45
/-- Whether a point with digits about it stands behind the first digits. -/
def hasP (l : List UInt8) (f : Nat) : Bool := at2 l (f + runD l f) 46 46 && !(runD l f == 0 && !atD l (f + runD l f + 1))
def plN (l : List UInt8) (f : Nat) : Nat := if hasP l f = true then runD l (f + runD l f + 1) else 0
def mantE (l : List UInt8) (f : Nat) : Nat := if hasP l f = true then f + runD l f + 1 + plN l f else f + runD l f
def digsL (l : List UInt8) (f : Nat) : List UInt8 := if hasP l f = true then (l.drop f).take (runD l f) ++ (l.drop (f + runD l f + 1)).take (plN l f) else (l.drop f).take (runD l f)
def expAt (l : List UInt8) (m : Nat) : Nat := if at2 l (m + 1) 43 45 = true then m + 2 else m + 1
def hasE (l : List UInt8) (m : Nat) : Bool := at2 l m 101 69 && atD l (expAt l m)
def expV (l : List UInt8) (m : Nat) : Int := if hasE l m = true then (if at2 l (m + 1) 45 45 = true then -(expAtL 0 l (expAt l m)) else expAtL 0 l (expAt l m)) else 0
def endE (l : List UInt8) (m : Nat) : Nat := if hasE l m = true then expAt l m + runD l (expAt l m) else m
/-- The literal at a place: its sign, its digits, its exponent, the place behind it, whether there is one. -/
def litL (l : List UInt8) (i : Nat) : Bool × List UInt8 × Int × Nat × Bool :=
 if mantE l (fromL l i) = fromL l i then (false, [], 0, 0, false)
 else (negL l i, digsL l (fromL l i), expV l (mantE l (fromL l i)) - (plN l (fromL l i) : Int), endE l (mantE l (fromL l i)), true)
/-! ### rows of digits as exponents -/
end Go.Proofs.YtmbacdkpgfbclaaGreatDoor.Num
namespace Go.Proofs.YtmbacdkpgfbclaaGreatDoor
open Go.RowKit Go.Proofs.YtmbacdkpgfbclaaGreatDoorW.PrintWords Go.Proofs.YtmbacdkpgfbclaaGreatDoorW.PrintLast Num
set_option linter.unusedVariables false
set_option linter.unusedSimpArgs false

set_option maxRecDepth 100000 in
theorem digitAt_walk (l : List UInt8) (i : Nat) (w : World) :
  Calls Tryz.prog 161 #[.string (S l), .int .i64 (i : Int)] w fun e w' => e = .returned (.bool (atD l i)) ∧ w' = w := by
 have hs : (S l).size = l.length := s_size l; by_cases hi : i < l.length
 ·
  have hz : i < (S l).size := by rw [hs]; exact hi
  have c1 : decide ((i : Int) < (l.length : Int)) = true := decide_eq_true (by omega); have e0 : (S l)[i]'hz = l[i] := rfl; have hat : atD l i = (decide (48 ≤ l[i].toNat) && decide (l[i].toNat ≤ 57)) := atD_get hi; rw [hat]; obtain ⟨b, hb⟩ : ∃ b, l[i] = b := ⟨_, rfl⟩; rw [hb]; have hix : (S l)[i]? = some b := by rw [← hb, ← e0]; exact getElem?_pos (S l) i hz
  by_cases h48 : 48 ≤ b.toNat
  ·
   have c2 : decide ((48 : Int) ≤ (b.toNat : Int)) = true := decide_eq_true (by omega); rw [decide_eq_true h48]; by_cases h57 : b.toNat ≤ 57
   · have c3 : decide ((b.toNat : Int) ≤ 57) = true := decide_eq_true (by omega); rw [decide_eq_true h57]; go_enter Tryz.func161, Tryz.ntmps161; go_wp2; go_ret; exact ⟨rfl, rfl⟩
   have c3 : decide ((b.toNat : Int) ≤ 57) = false := decide_eq_false (by omega); rw [decide_eq_false h57]; go_enter Tryz.func161, Tryz.ntmps161; go_wp2; go_ret; exact ⟨rfl, rfl⟩
  have c2 : decide ((48 : Int) ≤ (b.toNat : Int)) = false := decide_eq_false (by omega); rw [decide_eq_false h48]; go_enter Tryz.func161, Tryz.ntmps161; go_wp2; go_ret; exact ⟨rfl, rfl⟩
 have c1 : decide ((i : Int) < (l.length : Int)) = false := decide_eq_false (by omega); have hat : atD l i = false := by
  cases h : atD l i with
  | false => rfl
  | true => exact absurd (atD_lt h) hi
 rw [hat]; go_enter Tryz.func161, Tryz.ntmps161; go_wp2; go_ret; exact ⟨rfl, rfl⟩
theorem beq_u8 (a b : UInt8) : ((a.toNat : Int) == (b.toNat : Int)) = (a == b) := by
 rw [Bool.eq_iff_iff, beq_iff_eq, beq_iff_eq]; constructor
 · intro h; exact UInt8.toNat_inj.1 (by omega)
 rintro rfl; rfl
set_option maxRecDepth 100000 in
theorem oneOf_walk (l : List UInt8) (i : Nat) (a b : UInt8) (w : World) :
  Calls Tryz.prog 160 #[.string (S l), .int .i64 (i : Int), .int .u8 (a.toNat : Int), .int .u8 (b.toNat : Int)] w fun e w' => e = .returned (.bool (at2 l i a b)) ∧ w' = w := by
 have hs : (S l).size = l.length := s_size l; by_cases hi : i < l.length
 ·
  have hz : i < (S l).size := by rw [hs]; exact hi
  have c1 : decide ((i : Int) < (l.length : Int)) = true := decide_eq_true (by omega); have e0 : (S l)[i]'hz = l[i] := rfl; rw [at2_get hi]; obtain ⟨x, hx⟩ : ∃ x, l[i] = x := ⟨_, rfl⟩; rw [hx]; have hix : (S l)[i]? = some x := by rw [← hx, ← e0]; exact getElem?_pos (S l) i hz
  have q1 := beq_u8 x a; have q2 := beq_u8 x b; cases h1 : x == a with
  | true =>
   rw [h1] at q1; rw [Bool.true_or]; go_enter Tryz.func160, Tryz.ntmps160; go_wp2; go_ret; exact ⟨rfl, rfl⟩
  | false =>
   rw [h1] at q1; rw [Bool.false_or]; cases h2 : x == b with
   | true =>
    rw [h2] at q2; go_enter Tryz.func160, Tryz.ntmps160; go_wp2; go_ret; exact ⟨rfl, rfl⟩
   | false =>
    rw [h2] at q2; go_enter Tryz.func160, Tryz.ntmps160; go_wp2; go_ret; exact ⟨rfl, rfl⟩
 have c1 : decide ((i : Int) < (l.length : Int)) = false := decide_eq_false (by omega); have hat : at2 l i a b = false := by
  cases h : at2 l i a b with
  | false => rfl
  | true => exact absurd (at2_lt h) hi
 rw [hat]; go_enter Tryz.func160, Tryz.ntmps160; go_wp2; go_ret; exact ⟨rfl, rfl⟩
end Go.Proofs.YtmbacdkpgfbclaaGreatDoor
namespace Go.Proofs.YtmbacdkpgfbclaaGreatDoor
open Go.RowKit Go.Proofs.YtmbacdkpgfbclaaGreatDoorW.PrintWords Go.Proofs.YtmbacdkpgfbclaaGreatDoorW.PrintLast Num
set_option linter.unusedVariables false
set_option linter.unusedSimpArgs false

/-- As Q; by a goto: J of its label. -/
def jumpX (J : Nat → Act → World → Prop) (Q : Exit → Act → World → Prop) : Exit → Act → World → Prop
 | .goto l, a, w => J l a w
 | e, a, w => Q e a w
def lowX (J : Nat → Act → World → Prop) (μ : Nat → Act → World → Nat) (M : Nat) (l : Nat) (a : Act) (w : World) : Prop := J l a w ∧ μ l a w < M
theorem wp_scope_gotos {P : Program} {a : Act} {w : World} {Q : Exit → Act → World → Prop} {c : Code} (J : Nat → Act → World → Prop) (μ : Nat → Act → World → Nat)
  (first : c.wp P (jumpX J Q) a w)
  (pass : ∀ l a w, J l a w → ∃ rest, findLabel c l = some rest ∧ rest.wp P (jumpX (lowX J μ (μ l a w)) Q) a w) : (Code.scope c).wp P Q a w := by
 intro b k cs; have key : ∀ n l a w, μ l a w = n → J l a w → ∃ rest, findLabel c l = some rest ∧ ∃ e a' w', Q e a' w' ∧ Arrives P (lone (b.at a (.code rest :: .inScope c :: k)) cs w) b k cs e a' w' := by
  intro n; induction n using Nat.strongRecOn with
  | _ n ih =>
   intro l a w hn hJ; obtain ⟨rest, hf, hp⟩ := pass l a w hJ; refine ⟨rest, hf, ?_⟩; obtain ⟨e, a₁, w₁, hq, harr⟩ := hp b (.inScope c :: k) cs; cases e with
   | normal => exact ⟨.normal, a₁, w₁, hq, Steps.trans harr (.one step_inScope)⟩
   | exit id => exact ⟨.exit id, a₁, w₁, hq, fun k' hk => harr k' (by simp [exitTo, hk])⟩
   | goto l' =>
    obtain ⟨hJ', hlt⟩ := hq; obtain ⟨rest', hf', e₂, a₂, w₂, hq₂, harr₂⟩ := ih _ (by omega) l' a₁ w₁ rfl hJ'; have hg : gotoIn l' (.inScope c :: k) = some (.code rest' :: .inScope c :: k) := by simp [gotoIn, hf']
    exact ⟨e₂, a₂, w₂, hq₂, .of_steps (harr _ hg) harr₂⟩
   | ret => exact ⟨_, a₁, w₁, hq, harr⟩
   | panic ch => exact ⟨_, a₁, w₁, hq, harr⟩
   | outgrown => exact ⟨_, a₁, w₁, hq, harr⟩
 obtain ⟨e, a₁, w₁, hq, harr⟩ := first b (.inScope c :: k) cs
 cases e with
 | normal => exact ⟨.normal, a₁, w₁, hq, .head step_scope (Steps.trans harr (.one step_inScope))⟩
 | exit id => exact ⟨.exit id, a₁, w₁, hq, fun k' hk => .head step_scope (harr k' (by simp [exitTo, hk]))⟩
 | goto l' =>
  obtain ⟨rest', hf', e₂, a₂, w₂, hq₂, harr₂⟩ := key _ l' a₁ w₁ rfl hq; have hg : gotoIn l' (.inScope c :: k) = some (.code rest' :: .inScope c :: k) := by simp [gotoIn, hf']
  exact ⟨e₂, a₂, w₂, hq₂, .of_steps (.head step_scope (harr _ hg)) harr₂⟩
 | ret => exact ⟨_, a₁, w₁, hq, .of_steps (.one step_scope) harr⟩
 | panic ch => exact ⟨_, a₁, w₁, hq, .of_steps (.one step_scope) harr⟩
 | outgrown => exact ⟨_, a₁, w₁, hq, .of_steps (.one step_scope) harr⟩
theorem jumpX_ret {J : Nat → Act → World → Prop} {Q : Exit → Act → World → Prop} {a : Act} {w : World} : jumpX J Q .ret a w = Q .ret a w := rfl
theorem goto_low {P : Program} {J : Act → World → Prop} {J' : Nat → Act → World → Prop} {Q : Exit → Act → World → Prop} {l : Nat} {a : Act} {w : World} (h : J' l a w) : (Code.goto l).wp P (Exit.then J (jumpX J' Q)) a w := wp_goto h
theorem label_then {P : Program} {K : Act → World → Prop} {Q : Exit → Act → World → Prop} {l : Nat} {a : Act} {w : World} (h : K a w) : (Code.label l).wp P (Exit.then K Q) a w := wp_label h
/-- A label's rest, from states that it stands for. -/
def Rest (P : Program) (Q : Exit → Act → World → Prop) (J : Nat → Act → World → Prop) (μ : Nat → Act → World → Nat) (l : Nat) (r : Code) : Prop := ∀ M a w, J l a w → μ l a w ≤ M → r.wp P (jumpX (lowX J μ M) Q) a w
theorem jumpX_mono {J J' : Nat → Act → World → Prop} {Q : Exit → Act → World → Prop} (h : ∀ l a w, J l a w → J' l a w) (e : Exit) (a : Act) (w : World) (q : jumpX J Q e a w) : jumpX J' Q e a w := by
 cases e <;> first | exact h _ _ _ q | exact q
/-- Five labels, the later first. -/
theorem wp_scope_five {P : Program} {a : Act} {w : World} {Q : Exit → Act → World → Prop} {c r0 r1 r2 r3 r4 : Code} (J : Nat → Act → World → Prop) (μ : Nat → Act → World → Nat)
  (h0 : findLabel c 0 = some (.seq .skip r0)) (h1 : findLabel c 1 = some (.seq .skip r1)) (h2 : findLabel c 2 = some (.seq .skip r2)) (h3 : findLabel c 3 = some (.seq .skip r3)) (h4 : findLabel c 4 = some (.seq .skip r4))
  (no : ∀ l a w, J l a w → l < 5)
  (t3 : Rest P Q J μ 3 r3) (t4 : Rest P Q J μ 3 r3 → Rest P Q J μ 4 r4) (t1 : Rest P Q J μ 3 r3 → Rest P Q J μ 4 r4 → Rest P Q J μ 1 r1)
  (t2 : Rest P Q J μ 1 r1 → Rest P Q J μ 2 r2) (t0 : Rest P Q J μ 2 r2 → Rest P Q J μ 0 r0)
  (first : (∀ a w, J 0 a w → r0.wp P (jumpX J Q) a w) → c.wp P (jumpX J Q) a w) : (Code.scope c).wp P Q a w := by
 have T4 := t4 t3; have T1 := t1 t3 T4; have T2 := t2 T1; have T0 := t0 T2; have sk : ∀ {r : Code} {R : Exit → Act → World → Prop} {a : Act} {w : World}, r.wp P R a w → (Code.seq .skip r).wp P R a w := fun h => wp_seq (wp_skip h)
 refine wp_scope_gotos J μ (first fun a w hJ => Code.wp_mono (fun e a w q => jumpX_mono (fun _ _ _ h => h.1) e a w q) (T0 _ a w hJ (Nat.le_refl _))) ?_; intro l a w hJ; have hl := no l a w hJ; match l, hl with
 | 0, _ => exact ⟨_, h0, sk (T0 _ a w hJ (Nat.le_refl _))⟩
 | 1, _ => exact ⟨_, h1, sk (T1 _ a w hJ (Nat.le_refl _))⟩
 | 2, _ => exact ⟨_, h2, sk (T2 _ a w hJ (Nat.le_refl _))⟩
 | 3, _ => exact ⟨_, h3, sk (t3 _ a w hJ (Nat.le_refl _))⟩
 | 4, _ => exact ⟨_, h4, sk (T4 _ a w hJ (Nat.le_refl _))⟩
section
variable {P : Program}
theorem res_ctt {fn : Func} {p u v : Tmp} {ty : TypeId} (h : fn.results = #[.cell p ty, .tmp u, .tmp v]) (tmps : Array Value) (w : World) (g : Nat) (t : TypeId) (cs : Array Value) (fr : Nat × Nat) (d : TypeDesc)
  (hp : tmps.getD p undef = .pointer (some ⟨g, 0, none⟩)) (hg : w.heap[g]? = some (.cells cs t fr)) (hu : P.underlying ty = some d)
  (hd : (match d with | .struct _ | .array _ _ => true | _ => false) = true) (hi : (P.info? ty).map (·.size) = some cs.size) : (results fn tmps).run P w = .ok (.tuple #[.agg cs, tmps.getD u undef, tmps.getD v undef]) w := by
 have h2 : tmps[p]?.getD undef = .pointer (some ⟨g, 0, none⟩) := by simpa using hp
 simp [results, h, h2, asAddr, run_loadVar_row w g t ty cs fr d hg hu hd hi]
end
theorem digitAt_int (l : List UInt8) (x : Int) (i : Nat) (h : x = (i : Int)) (w : World) : Calls Tryz.prog 161 #[.string (S l), .int .i64 x] w fun e w' => e = .returned (.bool (atD l i)) ∧ w' = w := by subst h; exact digitAt_walk l i w
section
variable (l : List UInt8) (m : Nat) (w : World)
theorem digitAt_1 : Calls Tryz.prog 161 #[.string (S l), .int .i64 ((m : Int) + 1)] w fun e w' => e = .returned (.bool (atD l (m + 1))) ∧ w' = w := digitAt_int l _ (m + 1) (Int.natCast_succ m).symm w
theorem oneOf_e : Calls Tryz.prog 160 #[.string (S l), .int .i64 (m : Int), .int .u8 101, .int .u8 69] w fun e w' => e = .returned (.bool (at2 l m 101 69)) ∧ w' = w := oneOf_walk l m 101 69 w
theorem oneOf_p : Calls Tryz.prog 160 #[.string (S l), .int .i64 (m : Int), .int .u8 46, .int .u8 46] w fun e w' => e = .returned (.bool (at2 l m 46 46)) ∧ w' = w := oneOf_walk l m 46 46 w
theorem oneOf_0 : Calls Tryz.prog 160 #[.string (S l), .int .i64 (m : Int), .int .u8 43, .int .u8 45] w fun e w' => e = .returned (.bool (at2 l m 43 45)) ∧ w' = w := oneOf_walk l m 43 45 w
end
/-! ### bounds -/
theorem plN_le (l : List UInt8) (f : Nat) : plN l f ≤ l.length := by
 unfold plN; split
 · unfold runD; have := (List.takeWhile_prefix (p := isD) (l := l.drop (f + ((l.drop f).takeWhile isD).length + 1))).length_le; rw [List.length_drop] at this; omega
 exact Nat.zero_le _
theorem expV_rng (l : List UInt8) (m : Nat) : -1000000000000000 ≤ expV l m ∧ expV l m ≤ 1000000000000000 := by
 have := expAtL_rng (l := l) _ (expAt l m) rfl 0 (by omega) (by omega); unfold expV; split
 · split <;> omega
 omega
theorem fromL_le {l : List UInt8} {i : Nat} (h : i ≤ l.length) : fromL l i ≤ l.length := by
 unfold fromL; split
 · rename_i h2; have := at2_lt h2; omega
 exact h
/-- Where the digits end, and how many stand before and behind the point. -/
theorem mant_bounds {l : List UInt8} {f : Nat} (hf : f ≤ l.length) : f ≤ mantE l f ∧ mantE l f ≤ l.length ∧ f + runD l f ≤ mantE l f ∧ (hasP l f = true → mantE l f = f + runD l f + 1 + plN l f) ∧ (hasP l f = false → mantE l f = f + runD l f ∧ plN l f = 0) := by
 have h1 := runD_le hf; cases hp : hasP l f with
 | true =>
  have h2 : f + runD l f + 1 ≤ l.length := by
   unfold hasP at hp; rw [Bool.and_eq_true] at hp; have := at2_lt hp.1; omega
  have h3 := runD_le h2; have e1 : plN l f = runD l (f + runD l f + 1) := by unfold plN; rw [if_pos hp]
  have e2 : mantE l f = f + runD l f + 1 + plN l f := by unfold mantE; rw [if_pos hp]
  rw [e2, e1]; exact ⟨by omega, by omega, by omega, fun _ => rfl, (fun h => by cases h)⟩
 | false =>
  have e1 : plN l f = 0 := by unfold plN; rw [if_neg (by rw [hp]; decide)]
  have e2 : mantE l f = f + runD l f := by unfold mantE; rw [if_neg (by rw [hp]; decide)]
  rw [e2, e1]; exact ⟨by omega, by omega, by omega, (fun h => by cases h), fun _ => ⟨rfl, rfl⟩⟩
theorem s_mid (l : List UInt8) (i j : Nat) : (S l).extract i j = S ((l.drop i).take (j - i)) := by
 apply s_ext; rw [ByteArray.data_extract]; show (l.toArray.extract i j).toList = _; simp [List.extract_eq_take_drop]
/-! ### what holds at the labels -/
/-- The frame's slots that carry the state. -/
def FrL (s : ByteArray) (i f pt pl ex at_ : Int) (less : Bool) (g : Nat) (a : Act) : Prop :=
 a.defers = [] ∧ a.tmps.size = 119 ∧ a.tmps.getD 0 undef = .string s ∧ a.tmps.getD 1 undef = .int .i64 i ∧ a.tmps.getD 4 undef = .pointer (some ⟨g, 0, none⟩) ∧ a.tmps.getD 7 undef = .int .i64 f ∧ a.tmps.getD 8 undef = .int .i64 pt ∧ a.tmps.getD 9 undef = .int .i64 pl ∧ a.tmps.getD 10 undef = .int .i64 ex ∧ a.tmps.getD 11 undef = .int .i64 at_ ∧ a.tmps.getD 12 undef = .bool less
theorem FrL_lit {s : ByteArray} {i f pt pl ex at_ : Int} {less : Bool} {g : Nat} {a : Act} (h : FrL s i f pt pl ex at_ less g a) : ∃ u : Nat → Value, a = { tmps := (.string s :: .int .i64 i :: u 2 :: u 3 :: .pointer (some ⟨g, 0, none⟩) :: u 5 :: u 6 :: .int .i64 f :: .int .i64 pt :: .int .i64 pl :: .int .i64 ex :: .int .i64 at_ :: .bool less :: u 13 :: u 14 :: u 15 :: u 16 :: u 17 :: u 18 :: u 19 :: u 20 :: u 21 :: u 22 :: u 23 :: u 24 :: u 25 :: u 26 :: u 27 :: u 28 :: u 29 :: u 30 :: u 31 :: u 32 :: u 33 :: u 34 :: u 35 :: u 36 :: u 37 :: u 38 :: u 39 :: u 40 :: u 41 :: u 42 :: u 43 :: u 44 :: u 45 :: u 46 :: u 47 :: u 48 :: u 49 :: u 50 :: u 51 :: u 52 :: u 53 :: u 54 :: u 55 :: u 56 :: u 57 :: u 58 :: u 59 :: u 60 :: u 61 :: u 62 :: u 63 :: u 64 :: u 65 :: u 66 :: u 67 :: u 68 :: u 69 :: u 70 :: u 71 :: u 72 :: u 73 :: u 74 :: u 75 :: u 76 :: u 77 :: u 78 :: u 79 :: u 80 :: u 81 :: u 82 :: u 83 :: u 84 :: u 85 :: u 86 :: u 87 :: u 88 :: u 89 :: u 90 :: u 91 :: u 92 :: u 93 :: u 94 :: u 95 :: u 96 :: u 97 :: u 98 :: u 99 :: u 100 :: u 101 :: u 102 :: u 103 :: u 104 :: u 105 :: u 106 :: u 107 :: u 108 :: u 109 :: u 110 :: u 111 :: u 112 :: u 113 :: u 114 :: u 115 :: u 116 :: u 117 :: u 118 :: []).toArray, defers := [] } := by
 obtain ⟨hd, hs, h0, h1, h4, h7, h8, h9, h10, h11, h12⟩ := h; obtain ⟨tmps, defers⟩ := a; simp only at hd hs h0 h1 h4 h7 h8 h9 h10 h11 h12; subst hd; refine ⟨fun k => tmps.getD k undef, ?_⟩; have key : tmps = ((List.range 119).map fun k => tmps.getD k undef).toArray := by
  apply Array.ext
  · simp [hs]
  intro k hk1 hk2; have : k < 119 := by omega
  simp [Array.getD, hk1]
 have key2 : tmps = (tmps.getD 0 undef :: tmps.getD 1 undef :: tmps.getD 2 undef :: tmps.getD 3 undef :: tmps.getD 4 undef :: tmps.getD 5 undef :: tmps.getD 6 undef :: tmps.getD 7 undef :: tmps.getD 8 undef :: tmps.getD 9 undef :: tmps.getD 10 undef :: tmps.getD 11 undef :: tmps.getD 12 undef :: tmps.getD 13 undef :: tmps.getD 14 undef :: tmps.getD 15 undef :: tmps.getD 16 undef :: tmps.getD 17 undef :: tmps.getD 18 undef :: tmps.getD 19 undef :: tmps.getD 20 undef :: tmps.getD 21 undef :: tmps.getD 22 undef :: tmps.getD 23 undef :: tmps.getD 24 undef :: tmps.getD 25 undef :: tmps.getD 26 undef :: tmps.getD 27 undef :: tmps.getD 28 undef :: tmps.getD 29 undef :: tmps.getD 30 undef :: tmps.getD 31 undef :: tmps.getD 32 undef :: tmps.getD 33 undef :: tmps.getD 34 undef :: tmps.getD 35 undef :: tmps.getD 36 undef :: tmps.getD 37 undef :: tmps.getD 38 undef :: tmps.getD 39 undef :: tmps.getD 40 undef :: tmps.getD 41 undef :: tmps.getD 42 undef :: tmps.getD 43 undef :: tmps.getD 44 undef :: tmps.getD 45 undef :: tmps.getD 46 undef :: tmps.getD 47 undef :: tmps.getD 48 undef :: tmps.getD 49 undef :: tmps.getD 50 undef :: tmps.getD 51 undef :: tmps.getD 52 undef :: tmps.getD 53 undef :: tmps.getD 54 undef :: tmps.getD 55 undef :: tmps.getD 56 undef :: tmps.getD 57 undef :: tmps.getD 58 undef :: tmps.getD 59 undef :: tmps.getD 60 undef :: tmps.getD 61 undef :: tmps.getD 62 undef :: tmps.getD 63 undef :: tmps.getD 64 undef :: tmps.getD 65 undef :: tmps.getD 66 undef :: tmps.getD 67 undef :: tmps.getD 68 undef :: tmps.getD 69 undef :: tmps.getD 70 undef :: tmps.getD 71 undef :: tmps.getD 72 undef :: tmps.getD 73 undef :: tmps.getD 74 undef :: tmps.getD 75 undef :: tmps.getD 76 undef :: tmps.getD 77 undef :: tmps.getD 78 undef :: tmps.getD 79 undef :: tmps.getD 80 undef :: tmps.getD 81 undef :: tmps.getD 82 undef :: tmps.getD 83 undef :: tmps.getD 84 undef :: tmps.getD 85 undef :: tmps.getD 86 undef :: tmps.getD 87 undef :: tmps.getD 88 undef :: tmps.getD 89 undef :: tmps.getD 90 undef :: tmps.getD 91 undef :: tmps.getD 92 undef :: tmps.getD 93 undef :: tmps.getD 94 undef :: tmps.getD 95 undef :: tmps.getD 96 undef :: tmps.getD 97 undef :: tmps.getD 98 undef :: tmps.getD 99 undef :: tmps.getD 100 undef :: tmps.getD 101 undef :: tmps.getD 102 undef :: tmps.getD 103 undef :: tmps.getD 104 undef :: tmps.getD 105 undef :: tmps.getD 106 undef :: tmps.getD 107 undef :: tmps.getD 108 undef :: tmps.getD 109 undef :: tmps.getD 110 undef :: tmps.getD 111 undef :: tmps.getD 112 undef :: tmps.getD 113 undef :: tmps.getD 114 undef :: tmps.getD 115 undef :: tmps.getD 116 undef :: tmps.getD 117 undef :: tmps.getD 118 undef :: []).toArray := key; rw [h0, h1, h4, h7, h8, h9, h10, h11, h12] at key2; rw [← key2]
theorem FrL_cast {s : ByteArray} {i f pt pl ex at_ i' pt' pl' ex' at' : Int} {less : Bool} {g : Nat} {a : Act} (h : FrL s i f pt pl ex at_ less g a) (hi : i = i') (hp : pt = pt') (hl : pl = pl') (hx : ex = ex') (ha : at_ = at') : FrL s i' f pt' pl' ex' at' less g a := by
 subst hi hp hl hx ha; exact h
def BoxL (w0 wx : World) (neg : Bool) (ds : ByteArray) (e : Int) : Prop := wx.heap[w0.heap.size]? = some (.cells #[.bool neg, .string ds, .int .i64 e] 158 (0, 0)) ∧ Below w0.heap.size w0 wx
def ptL (l : List UInt8) (f : Nat) : Int := if hasP l f = true then ((f + runD l f : Nat) : Int) else -1
def JL (l : List UInt8) (i0 f m : Nat) (w0 : World) : Nat → Act → World → Prop
 | 0, a, wx => ∃ i : Nat, FrL (S l) (i : Int) (f : Int) (-1) 0 0 0 false w0.heap.size a ∧ BoxL w0 wx (negL l i0) ⟨#[]⟩ 0 ∧ i ≤ l.length ∧ i + runD l i = f + runD l f
 | 2, a, wx => ∃ i j : Nat, FrL (S l) (i : Int) (f : Int) ((f + runD l f : Nat) : Int) (j : Int) 0 0 false w0.heap.size a ∧ BoxL w0 wx (negL l i0) ⟨#[]⟩ 0 ∧ hasP l f = true ∧ i = f + runD l f + j ∧ i < l.length ∧ j + runD l (i + 1) = runD l (f + runD l f + 1)
 | 1, a, wx => FrL (S l) (m : Int) (f : Int) (ptL l f) (plN l f : Int) 0 0 false w0.heap.size a ∧ BoxL w0 wx (negL l i0) ⟨#[]⟩ 0
 | 4, a, wx => ∃ (at_ : Nat) (ex : Int), FrL (S l) (m : Int) (f : Int) (ptL l f) (plN l f : Int) ex (at_ : Int) (at2 l (m + 1) 45 45) w0.heap.size a ∧ BoxL w0 wx (negL l i0) (S (digsL l f)) 0 ∧ m ≠ f ∧ hasE l m = true ∧ atD l at_ = true ∧ 0 ≤ ex ∧ ex ≤ 1000000000000000 ∧ expAtL ex l at_ = expAtL 0 l (expAt l m) ∧ at_ + runD l at_ = expAt l m + runD l (expAt l m)
 | 3, a, wx => ∃ (at_ : Int) (less : Bool), FrL (S l) (endE l m : Int) (f : Int) (ptL l f) (plN l f : Int) (expV l m) at_ less w0.heap.size a ∧ BoxL w0 wx (negL l i0) (S (digsL l f)) 0 ∧ m ≠ f
 | _, _, _ => False
def natOf : Value → Nat | .int _ q => q.toNat | _ => 0
def muL (n : Nat) (k : Nat) (a : Act) (_ : World) : Nat := match k with
 | 0 => 4 * n + 10 - natOf (a.tmps.getD 1 undef)
 | 2 => 2 * n + 4 - natOf (a.tmps.getD 1 undef)
 | 1 => n + 3
 | 4 => n + 2 - natOf (a.tmps.getD 11 undef)
 | _ => 0
/-- What literal answers. -/
def Num.litF (l : List UInt8) (i : Nat) : Bool × ByteArray × Int × Int × Bool := ((litL l i).1, S (litL l i).2.1, (litL l i).2.2.1, ((litL l i).2.2.2.1 : Int), (litL l i).2.2.2.2)
theorem litF_yes {l : List UInt8} {i f m : Nat} (hf : f = fromL l i) (hm : m = mantE l f) (h : m ≠ f) : litF l i = (negL l i, S (digsL l f), expV l m - (plN l f : Int), (endE l m : Int), true) := by
 subst hf hm; unfold litF litL; rw [if_neg h]
theorem litF_no {l : List UInt8} {i f m : Nat} (hf : f = fromL l i) (hm : m = mantE l f) (h : m = f) : litF l i = (false, ⟨#[]⟩, 0, 0, false) := by
 subst hf hm; unfold litF litL; rw [if_pos h]; rfl
theorem point_facts {l : List UInt8} {f m : Nat} (hf : f ≤ l.length) (hm : m = mantE l f) (hp : hasP l f = true) (hl : l.length ≤ 140737488355328) : ∃ q r : Nat, ptL l f = (q : Int) ∧ IntKind.i64.wrap ((q : Int) + 1) = (r : Int) ∧ (f : Int) ≤ (q : Int) ∧ (q : Int) ≤ (l.length : Int) ∧ (r : Int) ≤ (m : Int) ∧ (m : Int) ≤ (l.length : Int) ∧ (S l).extract f q ++ (S l).extract r m = S (digsL l f) ∧ ¬ (9223372036854775807 < min q l.length - f + (min m l.length - r)) := by
 obtain ⟨h1, h2, h3, h4, _⟩ := mant_bounds hf; have h5 := h4 hp; rw [← hm] at h1 h2 h3 h5; obtain ⟨a, ha⟩ : ∃ a, a = runD l f := ⟨_, rfl⟩; obtain ⟨b, hb⟩ : ∃ b, b = plN l f := ⟨_, rfl⟩; rw [← ha] at h3 h5; rw [← hb] at h5; have g1 : (S l).extract f (f + a) = S ((l.drop f).take a) := by rw [s_mid, Nat.add_sub_cancel_left]
 have g2 : (S l).extract (f + a + 1) m = S ((l.drop (f + a + 1)).take b) := by rw [s_mid, h5, Nat.add_sub_cancel_left]
 refine ⟨f + a, f + a + 1, ?_, ?_, by omega, by omega, by omega, by omega, ?_, ?_⟩
 · unfold ptL; rw [if_pos hp, ha]
 · rw [IntKind.wrap_i64]; omega
 · unfold digsL; rw [if_pos hp, g1, g2, s_app, ha, hb]
 omega
section
variable {l : List UInt8} {i0 f m g M : Nat} {w wx : World} {a : Act}
theorem mu0 {n x : Nat} {s : ByteArray} {f pt pl ex at_ : Int} {less : Bool} (h : FrL s (x : Int) f pt pl ex at_ less g a) : muL n 0 a w = 4 * n + 10 - x := by
 obtain ⟨_, _, _, h1, _⟩ := h; unfold muL; rw [h1]; rfl
theorem mu2 {n x : Nat} {s : ByteArray} {f pt pl ex at_ : Int} {less : Bool} (h : FrL s (x : Int) f pt pl ex at_ less g a) : muL n 2 a w = 2 * n + 4 - x := by
 obtain ⟨_, _, _, h1, _⟩ := h; unfold muL; rw [h1]; rfl
theorem mu4 {n x : Nat} {s : ByteArray} {i f pt pl ex : Int} {less : Bool} (h : FrL s i f pt pl ex (x : Int) less g a) : muL n 4 a w = n + 2 - x := by
 obtain ⟨_, _, _, _, _, _, _, _, _, h11, _⟩ := h; unfold muL; rw [h11]; rfl
theorem J4_mk {x : Nat} {ex : Int} (F : FrL (S l) (m : Int) (f : Int) (ptL l f) (plN l f : Int) ex (x : Int) (at2 l (m + 1) 45 45) w.heap.size a) (B : BoxL w wx (negL l i0) (S (digsL l f)) 0) (h1 : m ≠ f) (h2 : hasE l m = true) (h3 : atD l x = true) (h4 : 0 ≤ ex) (h5 : ex ≤ 1000000000000000) (h6 : expAtL ex l x = expAtL 0 l (expAt l m)) (h7 : x + runD l x = expAt l m + runD l (expAt l m)) (hM : l.length + 2 - x < M) : lowX (JL l i0 f m w) (muL l.length) M 4 a wx :=
 ⟨⟨x, ex, F, B, h1, h2, h3, h4, h5, h6, h7⟩, by rw [mu4 F]; exact hM⟩
theorem J2_low {i j : Nat} (F : FrL (S l) (i : Int) (f : Int) ((f + runD l f : Nat) : Int) (j : Int) 0 0 false w.heap.size a) (B : BoxL w wx (negL l i0) ⟨#[]⟩ 0) (h1 : hasP l f = true) (h2 : i = f + runD l f + j) (h3 : i < l.length) (h4 : j + runD l (i + 1) = runD l (f + runD l f + 1)) (hM : 2 * l.length + 4 - i < M) : lowX (JL l i0 f m w) (muL l.length) M 2 a wx :=
 ⟨⟨i, j, F, B, h1, h2, h3, h4⟩, by rw [mu2 F]; exact hM⟩
theorem J2_rest {P : Program} {Q : Exit → Act → World → Prop} {r : Code} {i j : Nat} (h : Rest P Q (JL l i0 f m w) (muL l.length) 2 r) (F : FrL (S l) (i : Int) (f : Int) ((f + runD l f : Nat) : Int) (j : Int) 0 0 false w.heap.size a) (B : BoxL w wx (negL l i0) ⟨#[]⟩ 0) (h1 : hasP l f = true) (h2 : i = f + runD l f + j) (h3 : i < l.length) (h4 : j + runD l (i + 1) = runD l (f + runD l f + 1)) (hM : 2 * l.length + 4 - i ≤ M) : r.wp P (jumpX (lowX (JL l i0 f m w) (muL l.length) M) Q) a wx :=
 h M a wx ⟨i, j, F, B, h1, h2, h3, h4⟩ (by rw [mu2 F]; exact hM)
theorem J0_low {i : Nat} (F : FrL (S l) (i : Int) (f : Int) (-1) 0 0 0 false w.heap.size a) (B : BoxL w wx (negL l i0) ⟨#[]⟩ 0) (h1 : i ≤ l.length) (h2 : i + runD l i = f + runD l f) (hM : 4 * l.length + 10 - i < M) : lowX (JL l i0 f m w) (muL l.length) M 0 a wx :=
 ⟨⟨i, F, B, h1, h2⟩, by rw [mu0 F]; exact hM⟩
theorem J1_low (F : FrL (S l) (m : Int) (f : Int) (ptL l f) (plN l f : Int) 0 0 false w.heap.size a) (B : BoxL w wx (negL l i0) ⟨#[]⟩ 0) (hM : l.length + 3 < M) : lowX (JL l i0 f m w) (muL l.length) M 1 a wx := ⟨⟨F, B⟩, hM⟩
theorem noP (h : hasP l f = false) : mantE l f = f + runD l f ∧ ptL l f = -1 ∧ plN l f = 0 := by
 unfold mantE ptL plN; rw [if_neg (by rw [h]; decide), if_neg (by rw [h]; decide), if_neg (by rw [h]; decide)]; exact ⟨rfl, rfl, rfl⟩
theorem J4_rest {P : Program} {Q : Exit → Act → World → Prop} {r : Code} {x : Nat} {ex : Int} (h : Rest P Q (JL l i0 f m w) (muL l.length) 4 r) (hM : l.length + 3 ≤ M) (F : FrL (S l) (m : Int) (f : Int) (ptL l f) (plN l f : Int) ex (x : Int) (at2 l (m + 1) 45 45) w.heap.size a) (B : BoxL w wx (negL l i0) (S (digsL l f)) 0) (h1 : m ≠ f) (h2 : hasE l m = true) (h3 : atD l x = true) (h4 : 0 ≤ ex) (h5 : ex ≤ 1000000000000000) (h6 : expAtL ex l x = expAtL 0 l (expAt l m)) (h7 : x + runD l x = expAt l m + runD l (expAt l m)) : r.wp P (jumpX (lowX (JL l i0 f m w) (muL l.length) M) Q) a wx :=
 h M a wx ⟨x, ex, F, B, h1, h2, h3, h4, h5, h6, h7⟩ (by rw [mu4 F]; omega)
theorem J3_low {x : Int} {less : Bool} (F : FrL (S l) (endE l m : Int) (f : Int) (ptL l f) (plN l f : Int) (expV l m) x less w.heap.size a) (B : BoxL w wx (negL l i0) (S (digsL l f)) 0) (h1 : m ≠ f) (hM : 0 < M) : lowX (JL l i0 f m w) (muL l.length) M 3 a wx := ⟨⟨x, less, F, B, h1⟩, hM⟩
theorem noE (h : hasE l m = false) : endE l m = m ∧ expV l m = 0 := by
 unfold endE expV; rw [if_neg (by rw [h]; decide), if_neg (by rw [h]; decide)]; exact ⟨rfl, rfl⟩
theorem J3_mk {x : Int} {less : Bool} (F : FrL (S l) (endE l m : Int) (f : Int) (ptL l f) (plN l f : Int) (expV l m) x less w.heap.size a) (B : BoxL w wx (negL l i0) (S (digsL l f)) 0) (h1 : m ≠ f) : JL l i0 f m w 3 a wx := ⟨x, less, F, B, h1⟩
end
set_option maxRecDepth 100000 in
set_option maxHeartbeats 8000000 in
theorem literal_at (l : List UInt8) (i0 f m : Nat) (w : World) (hi0 : i0 ≤ l.length) (hl : l.length ≤ 140737488355328) (hf : f = fromL l i0) (hm : m = mantE l f) :
  Calls Tryz.prog 131 #[.string (S l), .int .i64 (i0 : Int)] w fun e w' => e = .returned (.tuple #[.agg #[.bool (Num.litF l i0).1, .string (Num.litF l i0).2.1, .int .i64 (Num.litF l i0).2.2.1], .int .i64 (Num.litF l i0).2.2.2.1, .bool (Num.litF l i0).2.2.2.2]) ∧ Below w.heap.size w w' := by
 go_enter Tryz.func131, Tryz.ntmps131; go_wp2; refine wp_scope_five (JL l i0 f m w) (muL l.length) rfl rfl rfl rfl rfl (fun k a wx h => ?_) ?_ ?_ ?_ ?_ ?_ ?_
 case refine_1 => match k, h with | 0, _ | 1, _ | 2, _ | 3, _ | 4, _ => all_goals omega
 case refine_2 =>
  intro M a wx h hM; obtain ⟨at_, less, hfr, ⟨hB, hb⟩, hmf⟩ := h; obtain ⟨u, rfl⟩ := FrL_lit hfr; have hlit := Aside0.mk (litF_yes hf hm hmf); clear hM hf hm hfr; have hr := expV_rng l m; have hp : (plN l f : Int) ≤ 140737488355328 := by have := plN_le l f; omega
  obtain ⟨V, hV⟩ : ∃ V, expV l m - (plN l f : Int) = V := ⟨_, rfl⟩; rw [hV] at hlit; have h2 : wrap64 (expV l m - (plN l f : Int)) = V := by unfold wrap64; omega
  have f0 := blk_frozen hB 0; have f1 := blk_frozen hB 1; have f2 := blk_frozen hB 2; have k2 : wx.cell? ⟨w.heap.size, 2, none⟩ = some (.int .i64 0) := blk_cell hB 2; have B1 := blk_put hB 2 (.int .i64 V) rfl; have c0 : (wx.setCell ⟨w.heap.size, 2, none⟩ (.int .i64 V)).cell? ⟨w.heap.size, 0, none⟩ = some (.bool (negL l i0)) := blk_cell B1 0; have c1 : (wx.setCell ⟨w.heap.size, 2, none⟩ (.int .i64 V)).cell? ⟨w.heap.size, 1, none⟩ = some (.string (S (digsL l f))) := blk_cell B1 1; have c2 : (wx.setCell ⟨w.heap.size, 2, none⟩ (.int .i64 V)).cell? ⟨w.heap.size, 2, none⟩ = some (.int .i64 V) := blk_cell B1 2; have B1' := Aside0.mk B1; have hb' := Aside0.mk hb; clear hB hV hr hp hb B1; go_wp2; rw [jumpX_ret]; refine bodyPost_ret (res_ctt rfl _ _ w.heap.size 158 #[.bool (negL l i0), .string (S (digsL l f)), .int .i64 V] (0, 0) _ rfl ?_ Tryz.underlying158 rfl (by kernel_rfl)) rfl ?_
  · exact blk_put (blk_put (blk_put B1'.out 0 _ rfl) 1 _ rfl) 2 _ rfl
  rw [hlit.out]; exact ⟨rfl, below_set (below_set (below_set (below_set hb'.out (Nat.le_refl _)) (Nat.le_refl _)) (Nat.le_refl _)) (Nat.le_refl _)⟩
 case refine_3 =>
  intro h3 M a wx h hM; obtain ⟨at_, ex, hfr, HB, hmf, hE, hat, hx0, hx1, hx2, hrun⟩ := h; rw [mu4 hfr] at hM; obtain ⟨u, rfl⟩ := FrL_lit hfr; have h3' := Aside0.mk h3; have hM' : Aside0 (l.length + 2 - at_ ≤ M) := Aside0.mk hM; have HB' := Aside0.mk HB; have hi := atD_lt hat; have hz : at_ < (S l).size := by rw [s_size]; exact hi
  have hcc := hat; rw [atD_get hi] at hcc; obtain ⟨b, hbb⟩ : ∃ b, l[at_] = b := ⟨_, rfl⟩; have hix : (S l)[at_]? = some b := by rw [← hbb]; exact getElem?_pos (S l) at_ hz
  have hix2 : (S l)[at_]'hz = b := hbb; rw [hbb] at hcc; have hd := isD_iff.1 hcc; have es := expAtL_succ hat ex; rw [hbb] at es; have er := runD_succ hat; have e1 : IntKind.u8.wrap ((b.toNat : Int) - 48) = (b.toNat : Int) - 48 := by rw [IntKind.wrap_u8]; omega
  have e1' : ((b.toNat : Int) - 48) % 256 = (b.toNat : Int) - 48 := by omega
  have e2 : wrap64 (ex * 10) = ex * 10 := by unfold wrap64; omega
  obtain ⟨Y, hY⟩ : ∃ Y, ex * 10 + ((b.toNat : Int) - 48) = Y := ⟨_, rfl⟩; have e3 : wrap64 (ex * 10 + ((b.toNat : Int) - 48)) = Y := by unfold wrap64; omega
  have e4 : wrap64 ((at_ : Int) + 1) = (at_ : Int) + 1 := by unfold wrap64; omega
  have hv : expF ex b = if 1000000000000000 < Y then 1000000000000000 else Y := by unfold expF; rw [hY]
  have hmf' := Aside0.mk hmf; have keep := Aside0.mk (And.intro hf (And.intro hm (And.intro hE (And.intro hx2 (And.intro hrun (And.intro es (And.intro er (And.intro hv (And.intro hi (And.intro hl hd)))))))))); have hY0 : Aside0 (0 ≤ Y) := ⟨by omega⟩; have hY2 : wrap64 (-Y) = -Y := by unfold wrap64; omega
  clear h3 hM HB hat hcc hmf hf hm hE hx0 hx1 hx2 hrun es er hv hY hbb hl hd hfr hi0; have stay : ∀ Z, expF ex b = Z → atD l (at_ + 1) = true → expAtL Z l (at_ + 1) = expAtL 0 l (expAt l m) ∧ at_ + 1 + runD l (at_ + 1) = expAt l m + runD l (expAt l m) := fun Z hZ _ => by
   obtain ⟨_, _, _, k1, k2, k3, k4, _⟩ := keep.out; subst hZ; refine ⟨k3.symm.trans k1, ?_⟩; clear e1 e1' e2 e3 e4 hY0 hY2 hix hix2; omega
  have out : ∀ Z, expF ex b = Z → atD l (at_ + 1) = false → at_ + 1 = endE l m ∧ (if at2 l (m + 1) 45 45 = true then -Z else Z) = expV l m := fun Z hZ hq => by
   obtain ⟨_, _, k0, k1, k2, k3, k4, _⟩ := keep.out; have k5 := runD_zero hq; have k6 := expAtL_zero hq (expF ex b); subst hZ; unfold endE expV; rw [if_pos k0, if_pos k0, ← k1, k3, k6]; clear e1 e1' e2 e3 e4 hY0 hY2 hix hix2; exact ⟨by omega, rfl⟩
  have low4 : l.length + 2 - (at_ + 1) < M := by
   have := hM'.out; clear e1 e1' e2 e3 e4 hY0 hY2 hix hix2; omega
  have stay' := Aside0.mk stay; have out' := Aside0.mk out; have low4' := Aside0.mk low4; have hE' := Aside0.mk keep.out.2.2.1; clear stay out low4; by_cases hc : 1000000000000000 < Y
  ·
   have c1 : decide (1000000000000000 < Y) = true := decide_eq_true hc; have hZ : Aside0 (expF ex b = 1000000000000000) := ⟨by obtain ⟨_, _, _, _, _, _, _, k, _⟩ := keep.out; rw [k, if_pos hc]⟩; clear hc; cases hq : atD l (at_ + 1) with
   | true =>
    go_wp2_with (go_at_call 161; with_reducible refine (digitAt_1 l at_ _).mono ?_; rintro e w' ⟨rfl, rfl⟩); obtain ⟨s1, s2⟩ := stay'.out _ hZ.out hq; refine goto_low (J4_mk (x := at_ + 1) (FrL_cast ⟨rfl, rfl, rfl, rfl, rfl, rfl, rfl, rfl, rfl, rfl, rfl⟩ rfl rfl rfl rfl (Int.natCast_succ at_).symm) HB'.out hmf'.out hE'.out hq (by decide) (by decide) s1 s2 low4'.out)
   | false =>
    obtain ⟨s1, s2⟩ := out'.out _ hZ.out hq; cases hq2 : at2 l (m + 1) 45 45 with
    | true =>
     rw [hq2] at s2; have s' := Aside0.mk (And.intro s1 s2); clear s1 s2; go_wp2_with (go_at_call 161; with_reducible refine (digitAt_1 l at_ _).mono ?_; rintro e w' ⟨rfl, rfl⟩); refine label_then ?_; rename_i K hK; refine hK _ _ (h3'.out M _ _ (J3_mk (FrL_cast ⟨rfl, rfl, rfl, rfl, rfl, rfl, rfl, rfl, rfl, rfl, rfl⟩ (by rw [← s'.out.1]; exact (Int.natCast_succ at_).symm) rfl rfl s'.out.2 rfl) HB'.out hmf'.out) (Nat.zero_le M))
    | false =>
     rw [hq2] at s2; have s' := Aside0.mk (And.intro s1 s2); clear s1 s2; go_wp2_with (go_at_call 161; with_reducible refine (digitAt_1 l at_ _).mono ?_; rintro e w' ⟨rfl, rfl⟩); refine label_then ?_; rename_i K hK; refine hK _ _ (h3'.out M _ _ (J3_mk (FrL_cast ⟨rfl, rfl, rfl, rfl, rfl, rfl, rfl, rfl, rfl, rfl, rfl⟩ (by rw [← s'.out.1]; exact (Int.natCast_succ at_).symm) rfl rfl s'.out.2 rfl) HB'.out hmf'.out) (Nat.zero_le M))
  have c1 : decide (1000000000000000 < Y) = false := decide_eq_false hc; have hZ : Aside0 (expF ex b = Y) := ⟨by obtain ⟨_, _, _, _, _, _, _, k, _⟩ := keep.out; rw [k, if_neg hc]⟩; have hY3 := Aside0.mk (Int.not_lt.1 hc); clear hc; cases hq : atD l (at_ + 1) with
  | true =>
   go_wp2_with (go_at_call 161; with_reducible refine (digitAt_1 l at_ _).mono ?_; rintro e w' ⟨rfl, rfl⟩); obtain ⟨s1, s2⟩ := stay'.out _ hZ.out hq; refine goto_low (J4_mk (x := at_ + 1) (FrL_cast ⟨rfl, rfl, rfl, rfl, rfl, rfl, rfl, rfl, rfl, rfl, rfl⟩ rfl rfl rfl rfl (Int.natCast_succ at_).symm) HB'.out hmf'.out hE'.out hq hY0.out hY3.out s1 s2 low4'.out)
  | false =>
   obtain ⟨s1, s2⟩ := out'.out _ hZ.out hq; cases hq2 : at2 l (m + 1) 45 45 with
   | true =>
    rw [hq2] at s2; have s' := Aside0.mk (And.intro s1 s2); clear s1 s2; go_wp2_with (go_at_call 161; with_reducible refine (digitAt_1 l at_ _).mono ?_; rintro e w' ⟨rfl, rfl⟩); refine label_then ?_; rename_i K hK; refine hK _ _ (h3'.out M _ _ (J3_mk (FrL_cast ⟨rfl, rfl, rfl, rfl, rfl, rfl, rfl, rfl, rfl, rfl, rfl⟩ (by rw [← s'.out.1]; exact (Int.natCast_succ at_).symm) rfl rfl (hY2.trans (by simpa using s'.out.2)) rfl) HB'.out hmf'.out) (Nat.zero_le M))
   | false =>
    rw [hq2] at s2; have s' := Aside0.mk (And.intro s1 s2); clear s1 s2; go_wp2_with (go_at_call 161; with_reducible refine (digitAt_1 l at_ _).mono ?_; rintro e w' ⟨rfl, rfl⟩); refine label_then ?_; rename_i K hK; refine hK _ _ (h3'.out M _ _ (J3_mk (FrL_cast ⟨rfl, rfl, rfl, rfl, rfl, rfl, rfl, rfl, rfl, rfl, rfl⟩ (by rw [← s'.out.1]; exact (Int.natCast_succ at_).symm) rfl rfl s'.out.2 rfl) HB'.out hmf'.out) (Nat.zero_le M))
 case refine_4 =>
  intro h3 h4 M a wx h hM; obtain ⟨hfr, hB, hb⟩ := h; obtain ⟨u, rfl⟩ := FrL_lit hfr; have h3' := Aside0.mk h3; have h4' := Aside0.mk h4; have hM' : Aside0 (l.length + 3 ≤ M) := ⟨hM⟩; have hMp : Aside0 (0 < M) := ⟨Nat.lt_of_lt_of_le (Nat.succ_pos _) hM⟩; have hfl : f ≤ l.length := by rw [hf]; exact fromL_le hi0
  have hbd := Aside0.mk (mant_bounds (f := f) (l := l) hfl); have f0 := blk_frozen hB 0; have f1 := blk_frozen hB 1; have f2 := blk_frozen hB 2; have k0 : wx.cell? ⟨w.heap.size, 0, none⟩ = some (.bool (negL l i0)) := blk_cell hB 0; have k1 : wx.cell? ⟨w.heap.size, 1, none⟩ = some (.string ⟨#[]⟩) := blk_cell hB 1; have k2 : wx.cell? ⟨w.heap.size, 2, none⟩ = some (.int .i64 0) := blk_cell hB 2; have hB' := Aside0.mk hB; have hb' := Aside0.mk hb; have hfm := Aside0.mk (And.intro hf hm); have hfl' := Aside0.mk hfl; clear h3 h4 hM hB hb hfr hf hm hfl; by_cases hmf : m = f
  ·
   have c1 : ((m : Int) == (f : Int)) = true := beq_iff_eq.2 (by omega); have hlit := Aside0.mk (litF_no hfm.out.1 hfm.out.2 hmf); clear hmf; go_wp2; rw [jumpX_ret]; refine bodyPost_ret (res_ctt rfl _ _ w.heap.size 158 #[.bool false, .string ⟨#[]⟩, .int .i64 0] (0, 0) _ rfl ?_ Tryz.underlying158 rfl (by kernel_rfl)) rfl ?_
   · exact blk_put (blk_put (blk_put hB'.out 0 _ rfl) 1 _ rfl) 2 _ rfl
   rw [hlit.out]; exact ⟨rfl, below_set (below_set (below_set hb'.out (Nat.le_refl _)) (Nat.le_refl _)) (Nat.le_refl _)⟩
  have c1 : ((m : Int) == (f : Int)) = false := beq_eq_false_iff_ne.2 (by omega); have hmf' := Aside0.mk hmf; clear hmf; refine wp_seq_k (fun K1 h1 => ?_); have h1' := Aside0.mk h1; clear h1; go_wp2; refine h1'.out _ _ ?_; clear h1'; refine wp_seq_k (fun K2 h2 => ?_); have h2' := Aside0.mk h2; clear h2; have d1 : (f : Int) ≤ (m : Int) := by have := hbd.out.1; have := hfm.out.2; omega
  have d2 : (m : Int) ≤ (l.length : Int) := by have := hbd.out.2.1; have := hfm.out.2; omega
  go_wp2; refine h2'.out _ _ ?_; clear h2' d1 d2 c1; have B1 := Aside0.mk (blk_put hB'.out 1 (.string ((S l).extract f m)) rfl); have b1' := Aside0.mk (below_set (g := w.heap.size) (j := 1) (v := .string ((S l).extract f m)) hb'.out (Nat.le_refl _)); obtain ⟨wy, hwy⟩ : ∃ wy, wx.setCell ⟨w.heap.size, 1, none⟩ (.string ((S l).extract f m)) = wy := ⟨_, rfl⟩; rw [hwy] at B1 b1' ⊢; clear hwy f0 f1 f2 k0 k1 k2 hB' hb'; refine wp_seq_k (fun K3 hK3 => ?_); have goK : ∀ a wz, FrL (S l) (m : Int) (f : Int) (ptL l f) (plN l f : Int) 0 0 false w.heap.size a → BoxL w wz (negL l i0) (S (digsL l f)) 0 → K3 a wz := by
   intro a wz hfr hbx; obtain ⟨u, rfl⟩ := FrL_lit hfr; refine hK3 _ _ ?_; have hbx' := Aside0.mk hbx; clear hfr hbx hK3 B1 b1'; obtain ⟨n, hn⟩ : ∃ n, n = m + 1 := ⟨_, rfl⟩; have e1 : wrap64 ((m : Int) + 1) = (n : Int) := by have := hbd.out.2.1; have := hfm.out.2; unfold wrap64; omega
   have e2 : wrap64 ((n : Int) + 1) = (n : Int) + 1 := by have := hbd.out.2.1; have := hfm.out.2; unfold wrap64; omega
   have hnp := Aside0.mk (And.intro hn trivial); clear hn; cases hE1 : at2 l m 101 69 with
   | false =>
    have n1' := Aside0.mk (noE (show hasE l m = false by unfold hasE; rw [hE1]; rfl)); go_wp2_with (first | (go_at_call 160; with_reducible refine (oneOf_e l m _).mono ?_; rintro e w' ⟨rfl, rfl⟩)); exact goto_low (J3_low (FrL_cast ⟨rfl, rfl, rfl, rfl, rfl, rfl, rfl, rfl, rfl, rfl, rfl⟩ (by rw [n1'.out.1]) rfl rfl n1'.out.2.symm rfl) hbx'.out hmf'.out hMp.out)
   | true =>
    cases hs : at2 l n 43 45 with
    | false =>
     have hx' := Aside0.mk (show expAt l m = n by unfold expAt; rw [← hnp.out.1, hs]; rfl); have hl' := Aside0.mk (show at2 l (m + 1) 45 45 = false by
      rw [← hnp.out.1]; unfold at2 at hs ⊢; cases hq : l[n]? with
      | none => rfl
      | some x =>
       rw [hq] at hs; simp only [Bool.or_eq_false_iff] at hs; simp only [Bool.or_self]; exact hs.2)
     cases hd : atD l n with
     | false =>
      have n1' := Aside0.mk (noE (show hasE l m = false by unfold hasE; rw [hx'.out, hd, Bool.and_false])); go_wp2_with (first | (go_at_call 160; with_reducible refine (oneOf_e l m _).mono ?_; rintro e w' ⟨rfl, rfl⟩) | (go_at_call 160; with_reducible refine (oneOf_0 l n _).mono ?_; rintro e w' ⟨rfl, rfl⟩) | (go_at_call 161; with_reducible refine (digitAt_walk l n _).mono ?_; rintro e w' ⟨rfl, rfl⟩)); exact goto_low (J3_low (FrL_cast ⟨rfl, rfl, rfl, rfl, rfl, rfl, rfl, rfl, rfl, rfl, rfl⟩ (by rw [n1'.out.1]) rfl rfl n1'.out.2.symm rfl) hbx'.out hmf'.out hMp.out)
     | true =>
      have n1' := Aside0.mk (show hasE l m = true by unfold hasE; rw [hx'.out, hE1, hd]; rfl); go_wp2_with (first | (go_at_call 160; with_reducible refine (oneOf_e l m _).mono ?_; rintro e w' ⟨rfl, rfl⟩) | (go_at_call 160; with_reducible refine (oneOf_0 l n _).mono ?_; rintro e w' ⟨rfl, rfl⟩) | (go_at_call 161; with_reducible refine (digitAt_walk l n _).mono ?_; rintro e w' ⟨rfl, rfl⟩)); refine label_then ?_; rename_i K4 hK4; refine hK4 _ _ ?_; exact J4_rest (x := n) h4'.out hM'.out ⟨rfl, rfl, rfl, rfl, rfl, rfl, rfl, rfl, rfl, rfl, congrArg Value.bool hl'.out.symm⟩ hbx'.out hmf'.out n1'.out hd (by decide) (by decide) (by rw [hx'.out]) (by rw [hx'.out])
    | true =>
     have hx' := Aside0.mk (show expAt l m = n + 1 by unfold expAt; rw [← hnp.out.1, hs, if_pos rfl, hnp.out.1]); have hi := at2_lt hs; have hz : n < (S l).size := by rw [s_size]; exact hi
     obtain ⟨b, hbb⟩ : ∃ b, l[n] = b := ⟨_, rfl⟩; have hix : (S l)[n]? = some b := by rw [← hbb]; exact getElem?_pos (S l) n hz
     have hix2 : (S l)[n]'hz = b := hbb; have hl0 := Aside0.mk (show at2 l (m + 1) 45 45 = (b == 45) by rw [← hnp.out.1, at2_get hi, hbb, Bool.or_self]); have hbq : ((b.toNat : Int) == 45) = (b == 45) := beq_u8 b 45; clear hbb; cases hb45 : b == 45 with
     | false =>
      rw [hb45] at hbq; have hl' := Aside0.mk (hl0.out.trans hb45); clear hb45; cases hd : atD l (n + 1) with
      | false =>
       have n1' := Aside0.mk (noE (show hasE l m = false by unfold hasE; rw [hx'.out, hd, Bool.and_false])); go_wp2_with (first | (go_at_call 160; with_reducible refine (oneOf_e l m _).mono ?_; rintro e w' ⟨rfl, rfl⟩) | (go_at_call 160; with_reducible refine (oneOf_0 l n _).mono ?_; rintro e w' ⟨rfl, rfl⟩) | (go_at_call 161; with_reducible refine (digitAt_1 l n _).mono ?_; rintro e w' ⟨rfl, rfl⟩)); exact goto_low (J3_low (FrL_cast ⟨rfl, rfl, rfl, rfl, rfl, rfl, rfl, rfl, rfl, rfl, rfl⟩ (by rw [n1'.out.1]) rfl rfl n1'.out.2.symm rfl) hbx'.out hmf'.out hMp.out)
      | true =>
       have n1' := Aside0.mk (show hasE l m = true by unfold hasE; rw [hx'.out, hE1, hd]; rfl); go_wp2_with (first | (go_at_call 160; with_reducible refine (oneOf_e l m _).mono ?_; rintro e w' ⟨rfl, rfl⟩) | (go_at_call 160; with_reducible refine (oneOf_0 l n _).mono ?_; rintro e w' ⟨rfl, rfl⟩) | (go_at_call 161; with_reducible refine (digitAt_1 l n _).mono ?_; rintro e w' ⟨rfl, rfl⟩)); refine label_then ?_; rename_i K4 hK4; refine hK4 _ _ ?_; exact J4_rest (x := n + 1) h4'.out hM'.out (FrL_cast ⟨rfl, rfl, rfl, rfl, rfl, rfl, rfl, rfl, rfl, rfl, congrArg Value.bool hl'.out.symm⟩ rfl rfl rfl rfl (Int.natCast_succ n).symm) hbx'.out hmf'.out n1'.out hd (by decide) (by decide) (by rw [hx'.out]) (by rw [hx'.out])
     | true =>
      rw [hb45] at hbq; have hl' := Aside0.mk (hl0.out.trans hb45); clear hb45; cases hd : atD l (n + 1) with
      | false =>
       have n1' := Aside0.mk (noE (show hasE l m = false by unfold hasE; rw [hx'.out, hd, Bool.and_false])); go_wp2_with (first | (go_at_call 160; with_reducible refine (oneOf_e l m _).mono ?_; rintro e w' ⟨rfl, rfl⟩) | (go_at_call 160; with_reducible refine (oneOf_0 l n _).mono ?_; rintro e w' ⟨rfl, rfl⟩) | (go_at_call 161; with_reducible refine (digitAt_1 l n _).mono ?_; rintro e w' ⟨rfl, rfl⟩)); exact goto_low (J3_low (FrL_cast ⟨rfl, rfl, rfl, rfl, rfl, rfl, rfl, rfl, rfl, rfl, rfl⟩ (by rw [n1'.out.1]) rfl rfl n1'.out.2.symm rfl) hbx'.out hmf'.out hMp.out)
      | true =>
       have n1' := Aside0.mk (show hasE l m = true by unfold hasE; rw [hx'.out, hE1, hd]; rfl); go_wp2_with (first | (go_at_call 160; with_reducible refine (oneOf_e l m _).mono ?_; rintro e w' ⟨rfl, rfl⟩) | (go_at_call 160; with_reducible refine (oneOf_0 l n _).mono ?_; rintro e w' ⟨rfl, rfl⟩) | (go_at_call 161; with_reducible refine (digitAt_1 l n _).mono ?_; rintro e w' ⟨rfl, rfl⟩)); refine label_then ?_; rename_i K4 hK4; refine hK4 _ _ ?_; exact J4_rest (x := n + 1) h4'.out hM'.out (FrL_cast ⟨rfl, rfl, rfl, rfl, rfl, rfl, rfl, rfl, rfl, rfl, congrArg Value.bool hl'.out.symm⟩ rfl rfl rfl rfl (Int.natCast_succ n).symm) hbx'.out hmf'.out n1'.out hd (by decide) (by decide) (by rw [hx'.out]) (by rw [hx'.out])
  have goK' := Aside0.mk goK; clear goK hK3; cases hp : hasP l f with
  | true =>
   obtain ⟨q, r, hpt, e1, d1, d2, d3, d4, g3, g4⟩ := point_facts hfl'.out hfm.out.2 hp hl; have f1 := blk_frozen (blk_drew B1.out) 1; have k1 : wy.drew.cell? ⟨w.heap.size, 1, none⟩ = some (.string ((S l).extract f m)) := blk_cell (blk_drew B1.out) 1; have hpt' := Aside0.mk hpt; have g3' := Aside0.mk g3; rw [hpt]; clear hpt g3; go_wp2; go_still_tail 10, (by kernel_rfl)
   change wpList _ _ _ _ _ wy.drew; go_wp2; refine goK'.out _ _ (FrL_cast ⟨rfl, rfl, rfl, rfl, rfl, rfl, rfl, rfl, rfl, rfl, rfl⟩ rfl hpt'.out.symm rfl rfl rfl) ⟨?_, below_set (below_drew b1'.out) (Nat.le_refl _)⟩; rw [← g3'.out]; exact blk_put (blk_drew B1.out) 1 _ rfl
  | false =>
   have hpt : ptL l f = -1 := by unfold ptL; rw [if_neg (by rw [hp]; decide)]
   rw [hpt]; go_wp2; have hx := hbd.out.2.2.2.2 hp; have hx1 := hfm.out.2; have e : (S l).extract f m = S (digsL l f) := by
    unfold digsL; rw [if_neg (by rw [hp]; decide), s_mid, show m - f = runD l f by omega]
   rw [e] at B1; exact goK'.out _ _ (FrL_cast ⟨rfl, rfl, rfl, rfl, rfl, rfl, rfl, rfl, rfl, rfl, rfl⟩ rfl hpt.symm rfl rfl rfl) ⟨B1.out, b1'.out⟩
 case refine_5 =>
  intro h1 M a wx h hM; obtain ⟨i, j, hfr, hB, hp, hij, hi, hrun⟩ := h; rw [mu2 hfr] at hM; obtain ⟨u, rfl⟩ := FrL_lit hfr; have h1' := Aside0.mk h1; have hB' := Aside0.mk hB; obtain ⟨n, hn⟩ : ∃ n, n = i + 1 := ⟨_, rfl⟩; obtain ⟨k, hk⟩ : ∃ k, k = j + 1 := ⟨_, rfl⟩; have e1 : wrap64 ((i : Int) + 1) = (n : Int) := by clear hM hrun hij; unfold wrap64; omega
  have hkk : wrap64 ((j : Int) + 1) = (k : Int) := by clear hM hrun e1 hfr; unfold wrap64; omega
  have low : 2 * l.length + 4 - n < M ∧ l.length + 3 ≤ M := by clear e1 hkk hfr; omega
  have low' := Aside0.mk low; have keep := Aside0.mk (And.intro hp (And.intro hij (And.intro hrun (And.intro hn (And.intro hk (And.intro hf (And.intro hm hi))))))); clear h1 hB hfr hM hp hij hrun hn hk low hf hm hi; cases hd : atD l n with
  | true =>
   go_wp2_with (go_at_call 161; with_reducible refine (digitAt_walk l n _).mono ?_; rintro e w' ⟨rfl, rfl⟩); obtain ⟨hp, hij, hrun, hn, hk, -⟩ := keep.out; have e := runD_succ hd; have hkk' := Aside0.mk hkk; clear e1 hkk; exact goto_low (J2_low (i := n) (j := k) (FrL_cast ⟨rfl, rfl, rfl, rfl, rfl, rfl, rfl, rfl, rfl, rfl, rfl⟩ rfl rfl hkk'.out rfl rfl) hB'.out hp (by omega) (atD_lt hd) (by rw [hn] at e ⊢; omega) low'.out.1)
  | false =>
   go_wp2_with (go_at_call 161; with_reducible refine (digitAt_walk l n _).mono ?_; rintro e w' ⟨rfl, rfl⟩); refine label_then ?_; rename_i K hK; obtain ⟨hp, hij, hrun, hn, hk, hf, hm, hi⟩ := keep.out; have e := runD_zero hd; clear e1 hkk; have hpl : plN l f = j := by unfold plN; rw [if_pos hp]; rw [hn] at e; omega
   have hmm : m = n := by rw [hm]; unfold mantE; rw [if_pos hp, hpl]; omega
   have hpt : ((f + runD l f : Nat) : Int) = ptL l f := by unfold ptL; rw [if_pos hp]
   exact hK _ _ (h1'.out M _ _ ⟨FrL_cast ⟨rfl, rfl, rfl, rfl, rfl, rfl, rfl, rfl, rfl, rfl, rfl⟩ (by rw [hmm]) hpt (by rw [hpl]) rfl rfl, hB'.out⟩ low'.out.2)
 case refine_6 =>
  intro h2 M a wx h hM; obtain ⟨i, hfr, hB, hi, hrun⟩ := h; rw [mu0 hfr] at hM; obtain ⟨u, rfl⟩ := FrL_lit hfr; have h2' := Aside0.mk h2; have hB' := Aside0.mk hB; obtain ⟨n, hn⟩ : ∃ n, n = i + 1 := ⟨_, rfl⟩; have e1 : wrap64 ((i : Int) + 1) = (n : Int) := by clear hM hrun; unfold wrap64; omega
  have low : 4 * l.length + 10 - n < M ∧ 2 * l.length + 4 - i ≤ M ∧ l.length + 3 < M := by clear e1 hfr hrun; omega
  have low' := Aside0.mk low; have keep := Aside0.mk (And.intro hrun (And.intro hn (And.intro hf (And.intro hm hi)))); clear h2 hB hfr hM hrun hn low hf hm hi; cases hd : atD l i with
  | true =>
   go_wp2_with (go_at_call 161; with_reducible refine (digitAt_walk l i _).mono ?_; rintro e w' ⟨rfl, rfl⟩); obtain ⟨hrun, hn, -⟩ := keep.out; have e := runD_succ hd; have e2 := atD_lt hd; have e1' := Aside0.mk e1; clear e1; exact goto_low (J0_low (i := n) (FrL_cast ⟨rfl, rfl, rfl, rfl, rfl, rfl, rfl, rfl, rfl, rfl, rfl⟩ e1'.out rfl rfl rfl rfl) hB'.out (by omega) (by rw [hn]; omega) low'.out.1)
  | false =>
   have hir := Aside0.mk (show i = f + runD l f by have := runD_zero hd; have := keep.out.1; clear e1; omega); have yes : hasP l f = true → ∀ (K : Act → World → Prop) (u : Nat → Value) (t : Array Value), True := fun _ _ _ _ => trivial
   clear yes; cases hq : at2 l i 46 46 with
   | false =>
    have np := Aside0.mk (noP (show hasP l f = false by unfold hasP; rw [← hir.out, hq, Bool.false_and])); go_wp2_with (first | (go_at_call 161; with_reducible refine (digitAt_walk l i _).mono ?_; rintro e w' ⟨rfl, rfl⟩) | (go_at_call 160; with_reducible refine (oneOf_p l i _).mono ?_; rintro e w' ⟨rfl, rfl⟩)); exact goto_low (J1_low (FrL_cast ⟨rfl, rfl, rfl, rfl, rfl, rfl, rfl, rfl, rfl, rfl, rfl⟩ (by rw [keep.out.2.2.2.1, np.out.1, hir.out]) np.out.2.1.symm (by rw [np.out.2.2]; rfl) rfl rfl) hB'.out low'.out.2.2)
   | true =>
    by_cases hif : i = f
    ·
     have c1 : ((i : Int) == (f : Int)) = true := beq_iff_eq.2 (by rw [hif]); have hr0 := Aside0.mk (show runD l f = 0 by have := hir.out; clear e1; omega); clear hif; cases hs : atD l n with
     | true =>
      have hp := Aside0.mk (show hasP l f = true by unfold hasP; rw [← hir.out, hq, ← keep.out.2.1, hs, hr0.out]; rfl); have hlt := Aside0.mk (at2_lt hq); go_wp2_with (first | (go_at_call 161; with_reducible refine (digitAt_walk l i _).mono ?_; rintro e w' ⟨rfl, rfl⟩) | (go_at_call 161; with_reducible refine (digitAt_walk l n _).mono ?_; rintro e w' ⟨rfl, rfl⟩) | (go_at_call 160; with_reducible refine (oneOf_p l i _).mono ?_; rintro e w' ⟨rfl, rfl⟩)); refine label_then ?_; rename_i K hK; exact hK _ _ (J2_rest (j := 0) h2'.out (FrL_cast ⟨rfl, rfl, rfl, rfl, rfl, rfl, rfl, rfl, rfl, rfl, rfl⟩ rfl (by rw [← hir.out]) rfl rfl rfl) hB'.out hp.out hir.out hlt.out (by rw [Nat.zero_add, hir.out]) low'.out.2.1)
     | false =>
      have np := Aside0.mk (noP (show hasP l f = false by unfold hasP; rw [← hir.out, hq, ← keep.out.2.1, hs, hr0.out]; rfl)); go_wp2_with (first | (go_at_call 161; with_reducible refine (digitAt_walk l i _).mono ?_; rintro e w' ⟨rfl, rfl⟩) | (go_at_call 161; with_reducible refine (digitAt_walk l n _).mono ?_; rintro e w' ⟨rfl, rfl⟩) | (go_at_call 160; with_reducible refine (oneOf_p l i _).mono ?_; rintro e w' ⟨rfl, rfl⟩)); exact goto_low (J1_low (FrL_cast ⟨rfl, rfl, rfl, rfl, rfl, rfl, rfl, rfl, rfl, rfl, rfl⟩ (by rw [keep.out.2.2.2.1, np.out.1, hir.out]) np.out.2.1.symm (by rw [np.out.2.2]; rfl) rfl rfl) hB'.out low'.out.2.2)
    have c1 : ((i : Int) == (f : Int)) = false := beq_eq_false_iff_ne.2 (by omega); have hp := Aside0.mk (show hasP l f = true by
     have : (runD l f == 0) = false := beq_eq_false_iff_ne.2 (by have := hir.out; clear e1 c1; omega); unfold hasP; rw [← hir.out, hq, this]; rfl)
    have hlt := Aside0.mk (at2_lt hq); clear hif; go_wp2_with (first | (go_at_call 161; with_reducible refine (digitAt_walk l i _).mono ?_; rintro e w' ⟨rfl, rfl⟩) | (go_at_call 161; with_reducible refine (digitAt_walk l n _).mono ?_; rintro e w' ⟨rfl, rfl⟩) | (go_at_call 160; with_reducible refine (oneOf_p l i _).mono ?_; rintro e w' ⟨rfl, rfl⟩)); refine label_then ?_; rename_i K hK; exact hK _ _ (J2_rest (j := 0) h2'.out (FrL_cast ⟨rfl, rfl, rfl, rfl, rfl, rfl, rfl, rfl, rfl, rfl, rfl⟩ rfl (by rw [← hir.out]) rfl rfl rfl) hB'.out hp.out hir.out hlt.out (by rw [Nat.zero_add, hir.out]) low'.out.2.1)
 case refine_7 =>
  intro h0; have h0' := Aside0.mk h0; have hfm := Aside0.mk (And.intro hf hm); clear h0 hf hm; cases hs : at2 l i0 43 45 with
  | false =>
   go_wp2_with (go_at_call 160; with_reducible refine (oneOf_0 l i0 _).mono ?_; rintro e w' ⟨rfl, rfl⟩); refine label_then ?_; rename_i K hK; have hf0 : f = i0 := by rw [hfm.out.1]; unfold fromL; rw [hs]; rfl
   have hn0 : negL l i0 = false := by
    unfold negL; unfold at2 at hs ⊢; cases hq : l[i0]? with
    | none => rfl
    | some x =>
     rw [hq] at hs; simp only [Bool.or_eq_false_iff] at hs; simp only [Bool.or_self]; exact hs.2
   refine hK _ _ (h0'.out _ _ ⟨i0, FrL_cast (pt' := -1) (pl' := 0) (ex' := 0) (at' := 0) ⟨rfl, rfl, rfl, rfl, rfl, congrArg (fun x : Nat => Value.int .i64 (x : Int)) hf0.symm, rfl, rfl, rfl, rfl, rfl⟩ rfl rfl rfl rfl rfl, ⟨?_, (Below.refl _ w).alloc (Nat.le_refl _) _⟩, hi0, by rw [hf0]⟩); rw [hn0]; exact heap_alloc_new w _
  | true =>
   have hi := at2_lt hs; have hz : i0 < (S l).size := by rw [s_size]; exact hi
   obtain ⟨b, hbb⟩ : ∃ b, l[i0] = b := ⟨_, rfl⟩; have hix : (S l)[i0]? = some b := by rw [← hbb]; exact getElem?_pos (S l) i0 hz
   have hix2 : (S l)[i0]'hz = b := hbb; have hbq : ((b.toNat : Int) == 45) = (b == 45) := beq_u8 b 45; have hng := Aside0.mk (show negL l i0 = (b == 45) by unfold negL; rw [at2_get hi, hbb, Bool.or_self]); go_wp2_with (go_at_call 160; with_reducible refine (oneOf_0 l i0 _).mono ?_; rintro e w' ⟨rfl, rfl⟩); refine label_then ?_; rename_i K hK; have hf0 : f = i0 + 1 := by rw [hfm.out.1]; unfold fromL; rw [hs]; rfl
   have hf1 : ((i0 : Int) + 1) = (f : Int) := by rw [hf0]; rfl
   refine hK _ _ (h0'.out _ _ ⟨f, FrL_cast (pt' := -1) (pl' := 0) (ex' := 0) (at' := 0) ⟨rfl, rfl, rfl, rfl, rfl, congrArg (Value.int .i64) hf1, rfl, rfl, rfl, rfl, rfl⟩ hf1 rfl rfl rfl rfl, ⟨?_, (Below.refl _ w).alloc (Nat.le_refl _) _⟩, by rw [hf0]; exact hi, rfl⟩); rw [hng.out]; exact heap_alloc_new w _
/-- literal, as the print asks for it. -/
theorem literal_walk (a0 : ByteArray) (a1 : Int) (w : World) (h0 : 0 ≤ a1) (h1 : a1 ≤ (a0.size : Int)) (h2 : a0.size ≤ 140737488355328) {r1 : Bool} {r2 : ByteArray} {r3 r4 : Int} {r5 : Bool} (h : litF a0.data.toList a1.toNat = (r1, r2, r3, r4, r5)) :
  Calls Tryz.prog 131 #[.string a0, .int .i64 a1] w fun e w' => e = .returned (.tuple #[.agg #[.bool r1, .string r2, .int .i64 r3], .int .i64 r4, .bool r5]) ∧ Below w.heap.size w w' := by
 obtain ⟨l, rfl⟩ := s_of a0; obtain ⟨i, rfl⟩ : ∃ i : Nat, a1 = (i : Int) := ⟨a1.toNat, by omega⟩; rw [s_size] at h1 h2; rw [s_data, Int.toNat_natCast] at h; have := literal_at l i _ _ w (by omega) h2 rfl rfl; rw [h] at this; exact this
end Go.Proofs.YtmbacdkpgfbclaaGreatDoor
