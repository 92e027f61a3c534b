/- RecordPieces answers true, in plain words; conditions: the text and the separator of at most 2^20 bytes. -/
import Derived.Test.YtlklnenlhmhcaaaDoorPlain
import Derived.Test.YtlklnenlhmhcaaaDoorPXRecordPiecesx3
namespace Go.Proofs.YtlklnenlhmhcaaaDoor.Plain
open Go.RowKit Go.Proofs.YtlklnenlhmhcaaaDoor Go.Proofs.YtlklnenlhmhcaaaDoor.PXRecordPieces Go.Proofs.YtlklnenlhmhcaaaDoorW.PrintWords Go.Proofs.YtlklnenlhmhcaaaDoorW.PrintLast

theorem rdOf_nat (F : List ByteArray) {i : Nat} (hlt : i < F.length) : rdOf ByteArray.empty F (i : Int) = F[i] := by
  unfold rdOf
  rw [Int.toNat_natCast, List.getD_eq_getElem?_getD, List.getElem?_eq_getElem hlt]
  rfl
theorem toList_data (s : ByteArray) : s.toList = s.data.toList := ByteArray.toList_eq s
theorem size_of_toList {s : ByteArray} (h : s.toList = []) : s.size = 0 := by
  rw [toList_data] at h
  have := data_length s
  rw [h] at this
  exact this.symm
theorem str_bytes (s : ByteArray) : strOfNums (bytesOf s) = s := by
  apply ext_data
  rw [strOfNums_data]
  unfold bytesOf
  rw [List.map_map]
  refine (List.map_congr_left fun b _ => ?_).trans (List.map_id _)
  simp

/-! ### joined -/
/-- What is still to come behind i fields. -/
def restJ (F : List ByteArray) (sep : ByteArray) (i : Nat) : List Int :=
  if i < F.length then (if i = 0 then [] else bytesOf sep) ++ jl (bytesOf sep) ((F.drop i).map bytesOf) else []
theorem restJ_step (F : List ByteArray) (sep : ByteArray) {i : Nat} (h : i < F.length) : restJ F sep i = (if i = 0 then [] else bytesOf sep) ++ (bytesOf F[i] ++ restJ F sep (i + 1)) := by
  unfold restJ
  rw [if_pos h, List.drop_eq_getElem_cons h, List.map_cons]
  by_cases h2 : i + 1 < F.length
  · rw [if_pos h2, List.drop_eq_getElem_cons h2, List.map_cons, if_neg (Nat.succ_ne_zero i)]
    rfl
  · rw [if_neg h2, List.drop_of_length_le (by omega), List.append_nil]
    rfl
theorem joined_ev (F : List ByteArray) (sep : ByteArray) (hF : F.length ≤ 1073741824) (hT : (jl (bytesOf sep) (F.map bytesOf)).length ≤ 1073741824) :
    Ev (fun k => abacuslaw21_joined.f k F sep) (strOfNums (jl (bytesOf sep) (F.map bytesOf))) := by
  generalize hTT : jl (bytesOf sep) (F.map bytesOf) = T at hT ⊢
  have go : ∀ (d i : Nat) (x5 : List Int), F.length - i = d → i ≤ F.length → x5 ++ restJ F sep i = T →
      Ev (fun k => abacuslaw21_joined.l0 k F sep x5 (i : Int)) (strOfNums T) := by
    intro d
    induction d with
    | zero =>
      intro i x5 hd hi hx
      rw [restJ, if_neg (by omega), List.append_nil] at hx
      refine Ev.step (f := fun _ => some (strOfNums T)) (fun k => ?_) (Ev.now _)
      simp only [abacuslaw21_joined.l0]
      rw [if_neg (by omega), hx]
    | succ d ih =>
      intro i x5 hd hi hx
      have hlt : i < F.length := by omega
      rw [restJ_step F sep hlt] at hx
      have hlen := congrArg List.length hx
      by_cases h0 : i = 0
      · subst h0
        simp only [if_pos, List.nil_append, List.length_append, bytesOf_length] at hlen hx
        refine Ev.step (fun k => ?_) (ih (0 + 1) (x5 ++ bytesOf F[0]) (by omega) (by omega) (by rw [List.append_assoc]; exact hx))
        simp only [abacuslaw21_joined.l0]
        rw [if_pos (by omega), rdOf_nat F hlt, wrap_nat (by omega), if_neg (by omega), if_pos (by omega), if_pos (by omega)]
      · rw [if_neg h0] at hx hlen
        simp only [List.length_append, bytesOf_length] at hlen
        refine Ev.step (fun k => ?_) (ih (i + 1) (x5 ++ bytesOf sep ++ bytesOf F[i]) (by omega) (by omega) (by simp only [List.append_assoc]; exact hx))
        simp only [abacuslaw21_joined.l0]
        rw [if_pos (by omega), rdOf_nat F hlt, wrap_nat (by omega), if_pos (by omega), if_pos (by omega)]
        simp only [Option.bind_some, List.length_append, bytesOf_length]
        rw [if_pos (by omega), if_pos (by omega)]
  refine go F.length 0 [] (by omega) (by omega) ?_
  rw [List.nil_append, restJ]
  split
  · rw [if_pos rfl, List.nil_append, List.drop_zero]; exact hTT
  · have : F = [] := List.eq_nil_of_length_eq_zero (by omega)
    subst this
    exact hTT

/-! ### holds -/
theorem holds_ev (x sep : ByteArray) (hx : x.size ≤ 1073741824) (hs : sep.size ≤ 1073741824) (h : ∀ t, t + sep.size ≤ x.size → (x.data.toList.drop t).take sep.size ≠ sep.data.toList) : Ev (fun k => abacuslaw21_holds.f k x sep) false := by
  have go : ∀ (d t : Nat), x.size + 1 - t = d → t ≤ x.size + 1 → Ev (fun k => abacuslaw21_holds.l0 k x sep (t : Int)) false := by
    intro d
    induction d with
    | zero =>
      intro t hd ht
      refine Ev.step (f := fun _ => some false) (fun k => ?_) (Ev.now _)
      simp only [abacuslaw21_holds.l0]
      rw [wrap_add (by omega), if_neg (by omega)]
    | succ d ih =>
      intro t hd ht
      by_cases hr : t + sep.size ≤ x.size
      · refine Ev.step (fun k => ?_) (ih (t + 1) (by omega) (by omega))
        simp only [abacuslaw21_holds.l0]
        have hne : ¬ (x.extract (t : Int).toNat ((t + sep.size : Nat) : Int).toNat).toList = sep.toList := by
          rw [toList_data, toList_data, extract_dataL, Int.toNat_natCast, Int.toNat_natCast, show t + sep.size - t = sep.size by omega]
          exact h t hr
        rw [wrap_add (by omega), if_pos (by omega), if_pos (by omega), if_pos (by omega), if_neg hne, wrap_nat (by omega)]
      · refine Ev.step (f := fun _ => some false) (fun k => ?_) (Ev.now _)
        simp only [abacuslaw21_holds.l0]
        rw [wrap_add (by omega), if_neg (by omega)]
  exact go (x.size + 1) 0 (by omega) (by omega)

/-! ### sameTexts -/
theorem same_ev (F : List ByteArray) (hF : F.length ≤ 1073741824) : Ev (fun k => abacuslaw21_sameTexts.f k F F) true := by
  have go : ∀ (d i : Nat), F.length - i = d → i ≤ F.length → Ev (fun k => abacuslaw21_sameTexts.l0 k F F (i : Int)) true := by
    intro d
    induction d with
    | zero =>
      intro i hd hi
      refine Ev.step (f := fun _ => some true) (fun k => ?_) (Ev.now _)
      simp only [abacuslaw21_sameTexts.l0]
      rw [if_neg (by omega)]
    | succ d ih =>
      intro i hd hi
      refine Ev.step (fun k => ?_) (ih (i + 1) (by omega) (by omega))
      simp only [abacuslaw21_sameTexts.l0]
      rw [if_pos (by omega), if_pos (by omega), if_pos (by omega), if_pos trivial, wrap_nat (by omega)]
  refine Ev.congr (fun k => ?_) (go F.length 0 (by omega) (by omega))
  unfold abacuslaw21_sameTexts.f
  rw [if_pos rfl]
  rfl

/-! ### chars.Split -/
/-- The list while it is filled: the first i bytes, then empty texts. -/
def filled (s : ByteArray) (i : Nat) : List ByteArray := (List.range s.size).map fun j => if j < i then s.extract j (j + 1) else ⟨#[]⟩
theorem filled_len (s : ByteArray) (i : Nat) : (filled s i).length = s.size := by simp [filled]
theorem filled_set (s : ByteArray) (i : Nat) (hi : i < s.size) : (filled s i).set i (s.extract i (i + 1)) = filled s (i + 1) := by
  unfold filled
  apply List.ext_getElem?
  intro j
  rw [List.getElem?_set]
  by_cases hj : i = j
  · subst hj
    rw [if_pos rfl, if_pos (by simpa using hi), List.getElem?_map, List.getElem?_range hi, Option.map_some, if_pos (by omega)]
  · rw [if_neg hj, List.getElem?_map, List.getElem?_map]
    by_cases hjs : j < s.size
    · rw [List.getElem?_range hjs, Option.map_some, Option.map_some]
      by_cases h2 : j < i
      · rw [if_pos h2, if_pos (by omega)]
      · rw [if_neg h2, if_neg (by omega)]
    · rw [List.getElem?_eq_none (by simpa using hjs)]
      rfl
theorem singles_map (s : ByteArray) (i : Nat) (hi : i ≤ s.size) : ext s (singlesFrom s i) = (filled s s.size).drop i := by
  fun_induction singlesFrom s i with
  | case1 i h ih =>
    have hl : i < (filled s s.size).length := by rw [filled_len]; exact h
    rw [List.drop_eq_getElem_cons hl, ← ih (by omega)]
    show s.extract i (i + 1) :: ext s (singlesFrom s (i + 1)) = _
    congr 1
    simp [filled, h]
  | case2 i h => rw [List.drop_of_length_le (by rw [filled_len]; omega)]; rfl
theorem fill_ev (s : ByteArray) (hs : s.size ≤ 1048576) : ∀ (d i : Nat), s.size - i = d → i ≤ s.size → Ev (fun k => chars_Split.l0 k s (filled s i) (s.size : Int) (i : Int)) (filled s s.size) := by
  intro d
  induction d with
  | zero =>
    intro i hd hi
    refine Ev.step (f := fun _ => some (filled s s.size)) (fun k => ?_) (Ev.now _)
    simp only [chars_Split.l0]
    rw [if_neg (by omega), show i = s.size by omega]
  | succ d ih =>
    intro i hd hi
    refine Ev.step (fun k => ?_) (ih (i + 1) (by omega) (by omega))
    simp only [chars_Split.l0]
    rw [wrap_nat (by omega), if_pos (by omega), if_pos (by omega), if_pos (by omega), if_pos (by omega), filled_len, if_pos (by omega), Int.toNat_natCast, Int.toNat_natCast, filled_set s i (by omega)]
theorem split_ev (s fs : ByteArray) (hs : s.size ≤ 1048576) (h0 : s.size ≠ 0) (hfs : fs ≠ ⟨#[32]⟩) (l : List (Nat × Nat)) (hl : l = if fs.size = 0 then singlesFrom s 0 else cutsFrom s fs 0) : Ev (fun k => chars_Split.f k s fs) (ext s l) := by
  have e0 : ¬ s.toList = [] := fun e => h0 (size_of_toList e)
  have e1 : ¬ fs.toList = [32] := fun e => hfs (ext_data (by rw [← toList_data, e]))
  unfold chars_Split.f
  by_cases hz : fs.size = 0
  · have e2 : fs.toList = [] := by
      rw [toList_data]
      exact List.eq_nil_of_length_eq_zero (by rw [data_length, hz])
    rw [if_pos hz] at hl
    subst hl
    rw [singles_map s 0 (Nat.zero_le _), List.drop_zero]
    refine Ev.congr (fun k => ?_) (fill_ev s hs s.size 0 (by omega) (by omega))
    have e3 : List.replicate ((s.size : Int) : Int).toNat (⟨#[]⟩ : ByteArray) = filled s 0 := by
      rw [Int.toNat_natCast]
      apply List.ext_getElem
      · simp [filled]
      · intro j h1 h2
        simp [filled]
    rw [if_neg e0, if_neg e1, if_pos e2, if_pos (by omega), if_pos (by omega), Option.bind_some, e3, filled_len]
    rfl
  · have e2 : ¬ fs.toList = [] := fun e => hz (size_of_toList e)
    rw [if_neg hz] at hl
    subst hl
    refine Ev.congr (fun k => ?_) (Ev.now _)
    rw [if_neg e0, if_neg e1, if_neg e2]
    unfold strings_Split.f
    rw [if_pos ⟨by omega, by omega⟩, Option.bind_some]
    have h := split_cuts s fs (by omega) 0 (Nat.zero_le _)
    have e4 : s.extract 0 s.size = s := by
      apply ext_data
      rw [extract_dataL, List.drop_zero, List.take_of_length_le (by rw [data_length]; omega)]
    rw [e4] at h
    rw [h]

/-! ### the law -/
theorem opening : record_Fields.f (⟨#[97, 44, 44, 98, 44]⟩ : ByteArray) (⟨#[44]⟩ : ByteArray) = some [⟨#[97]⟩, ⟨#[]⟩, ⟨#[98]⟩, ⟨#[]⟩] := by
  have c0 : cutsFrom ⟨#[97, 44, 44, 98, 44]⟩ ⟨#[44]⟩ 0 = [(0, 1), (2, 2), (3, 4), (5, 5)] := by
    rw [cutsFrom_hit (x := 1) (by decide) (by decide) (by decide), cutsFrom_hit (x := 0) (by decide) (by decide) (by decide), cutsFrom_hit (x := 1) (by decide) (by decide) (by decide), cutsFrom_miss (by decide)]
    rfl
  unfold record_Fields.f
  rw [if_pos (by decide)]
  unfold fieldsOf
  rw [if_neg (by decide), if_neg (by decide), if_neg (by decide), c0]
  rfl

theorem main (s fs : ByteArray) (hs : s.size ≤ 1048576) (hf : fs.size ≤ 1048576) : ∃ k, abacuslaw21_RecordPieces.f k s fs = some true := by
  refine Ev.rounds (g := fun k => abacuslaw21_RecordPieces.f k s fs) ?_
  have hFs : record_Fields.f s fs = some (fieldsOf s fs) := if_pos (by omega)
  have start : Ev (fun k => abacuslaw21_RecordPieces.j0 k s fs false) true → Ev (fun k => abacuslaw21_RecordPieces.f k s fs) true := by
    intro h
    refine Ev.congr (fun k => ?_) h
    unfold abacuslaw21_RecordPieces.f
    have t0 : (rdOf ByteArray.empty [(⟨#[97]⟩ : ByteArray), ⟨#[]⟩, ⟨#[98]⟩, ⟨#[]⟩] 0).toList = ([97] : List UInt8) := by rw [toList_data]; rfl
    have t1 : (rdOf ByteArray.empty [(⟨#[97]⟩ : ByteArray), ⟨#[]⟩, ⟨#[98]⟩, ⟨#[]⟩] 1).toList = ([] : List UInt8) := by rw [toList_data]; rfl
    have t3 : (rdOf ByteArray.empty [(⟨#[97]⟩ : ByteArray), ⟨#[]⟩, ⟨#[98]⟩, ⟨#[]⟩] 3).toList = ([] : List UInt8) := by rw [toList_data]; rfl
    rw [opening, Option.bind_some, if_pos (by decide), if_pos (by decide), if_pos t0, if_pos (by decide), if_pos t1, if_pos (by decide), t3]
    rfl
  refine start ?_
  have toJ1 : ∀ b : Bool, (fs.toList = ([32] : List UInt8) ∧ b = true ∨ ¬ fs.toList = ([32] : List UInt8) ∧ b = (s.toList == ([] : List UInt8))) → Ev (fun k => abacuslaw21_RecordPieces.j1 k s fs (fieldsOf s fs) b) true → Ev (fun k => abacuslaw21_RecordPieces.j0 k s fs false) true := by
    intro b hb h
    refine Ev.step (fun k => ?_) h
    simp only [abacuslaw21_RecordPieces.j0]
    rw [if_neg (by simp), hFs, Option.bind_some]
    rcases hb with ⟨h1, rfl⟩ | ⟨h1, rfl⟩
    · rw [if_pos h1]
    · rw [if_neg h1]
  by_cases hsp : fs.toList = ([32] : List UInt8)
  · refine toJ1 true (.inl ⟨hsp, rfl⟩) ?_
    refine Ev.step (f := fun _ => some true) (fun k => ?_) (Ev.now _)
    simp only [abacuslaw21_RecordPieces.j1]
    rw [if_pos trivial, if_pos hsp]
  have hsp2 : fs ≠ ⟨#[32]⟩ := fun e => hsp (by rw [e, toList_data])
  refine toJ1 _ (.inr ⟨hsp, rfl⟩) ?_
  by_cases h0 : s.size = 0
  · have e0 : (s.toList == ([] : List UInt8)) = true := by
      have e9 : s.data.toList = [] := List.eq_nil_of_length_eq_zero (by rw [data_length, h0])
      rw [toList_data, e9]
      rfl
    rw [e0]
    refine Ev.step (f := fun _ => some true) (fun k => ?_) (Ev.now _)
    simp only [abacuslaw21_RecordPieces.j1]
    rw [if_pos trivial, if_neg hsp]
    unfold fieldsOf
    rw [if_pos h0]
    rfl
  have e0 : (s.toList == ([] : List UInt8)) = false := beq_eq_false_iff_ne.mpr fun e => h0 (size_of_toList e)
  rw [e0]
  obtain ⟨l, hl⟩ : ∃ l, l = if fs.size = 0 then singlesFrom s 0 else cutsFrom s fs 0 := ⟨_, rfl⟩
  have hchn : Chn s fs 0 l := by
    rw [hl]
    split
    · rename_i hz; exact chn_singles s fs hz 0 (by omega)
    · exact chn_cuts s fs (by omega) 0 (Nat.zero_le _)
  have hF : fieldsOf s fs = ext s (cutOff s 32767 l) := by
    unfold fieldsOf
    rw [if_neg h0, if_neg hsp2, ← fieldsG_cutOff, hl]
    split <;> rfl
  have hchF := chn_cutOff s fs 32767 l 0 hchn
  have hjl := chn_join s fs _ 0 hchF
  rw [List.drop_zero] at hjl
  have hlen : (fieldsOf s fs).length ≤ 32768 := by
    rw [hF]; unfold ext; rw [List.length_map]; exact cutOff_len s l 32767
  have hlen0 : (fieldsOf s fs).length ≠ 0 := by
    rw [hF]; unfold ext; rw [List.length_map]
    intro e
    rw [List.eq_nil_of_length_eq_zero e] at hchF
    exact hchF
  have hjoin : Ev (fun k => abacuslaw21_joined.f k (fieldsOf s fs) fs) s := by
    have := joined_ev (fieldsOf s fs) fs (by omega) (by rw [hF, hjl, bytesOf_length]; omega)
    rw [hF] at this ⊢
    rwa [hjl, str_bytes] at this
  have hend : ∀ i : Nat, Ev (fun k => abacuslaw21_RecordPieces.j4 k s fs (fieldsOf s fs) (i : Int) false) true := by
    intro i
    have h1 := split_ev s fs hs h0 hsp2 l hl
    have h2 : Ev (fun k => (chars_Split.f k s fs).bind fun t148 => (if (t148.length : Int) > 32768 then (some true) else ((abacuslaw21_sameTexts.f k (fieldsOf s fs) t148).bind fun t151 => (some t151)))) true := by
      refine Ev.bind (f := fun k t148 => (if (t148.length : Int) > 32768 then (some true) else ((abacuslaw21_sameTexts.f k (fieldsOf s fs) t148).bind fun t151 => (some t151)))) h1 ?_
      by_cases hgt : l.length > 32768
      · refine Ev.congr (fun k => ?_) (Ev.now _)
        rw [if_pos (by unfold ext; rw [List.length_map]; omega)]
      · have hsame : fieldsOf s fs = ext s l := by rw [hF, cutOff_same s fs l hchn 32767 (by omega)]
        have h3 := same_ev (fieldsOf s fs) (by omega)
        refine Ev.congr (fun k => ?_) (Ev.bind (f := fun _ t => some t) h3 (Ev.now _))
        rw [if_neg (by unfold ext; rw [List.length_map]; omega), ← hsame]
    refine Ev.step (fun k => ?_) h2
    simp only [abacuslaw21_RecordPieces.j4]
    rw [if_neg (by simp)]
  have hloop : ∀ (d i : Nat), (fieldsOf s fs).length - i = d → i ≤ (fieldsOf s fs).length → Ev (fun k => abacuslaw21_RecordPieces.l0 k s fs (fieldsOf s fs) (i : Int)) true := by
    intro d
    induction d with
    | zero =>
      intro i hd hi
      refine Ev.step (fun k => ?_) (hend i)
      simp only [abacuslaw21_RecordPieces.l0]
      rw [if_neg (by omega)]
    | succ d ih =>
      intro i hd hi
      have hlt : i < (fieldsOf s fs).length := by omega
      by_cases h67 : i < 32767
      · have hnext := ih (i + 1) (by omega) (by omega)
        have hd67 : decide ((i : Int) < 32767) = true := decide_eq_true (by omega)
        obtain ⟨p, hp⟩ : ∃ p, (cutOff s 32767 l)[i]? = some p := by
          have : i < (cutOff s 32767 l).length := by
            rw [hF] at hlt; unfold ext at hlt; rwa [List.length_map] at hlt
          exact ⟨_, List.getElem?_eq_getElem this⟩
        have hmem := cutOff_at s l 32767 i h67 p hp
        have hat : (fieldsOf s fs)[i] = s.extract p.1 p.2 := by
          have h1 : (fieldsOf s fs)[i]? = some (s.extract p.1 p.2) := by
            rw [hF]; unfold ext; rw [List.getElem?_map, hp]; rfl
          rw [List.getElem?_eq_getElem hlt] at h1
          exact Option.some.inj h1
        have hround : Ev (fun k => abacuslaw21_RecordPieces.j4 k s fs (fieldsOf s fs) (i : Int) true) true := by
          by_cases hz : fs.size = 0
          · have e2 : fs.toList = [] := by
              rw [toList_data]
              exact List.eq_nil_of_length_eq_zero (by rw [data_length, hz])
            have hone : (s.extract p.1 p.2).size = 1 := by
              rw [if_pos hz] at hl
              have hm2 : p ∈ singlesFrom s 0 := hl ▸ hmem
              have : ∀ i, ∀ p ∈ singlesFrom s i, p.2 = p.1 + 1 ∧ p.2 ≤ s.size := by
                intro i
                fun_induction singlesFrom s i with
                | case1 i h ih =>
                  intro p hp
                  rcases List.mem_cons.1 hp with rfl | hp
                  · exact ⟨rfl, h⟩
                  · exact ih p hp
                | case2 i h => intro p hp; simp at hp
              have h3 := this 0 p hm2
              rw [ByteArray.size_extract]
              omega
            refine Ev.step (fun k => ?_) hnext
            simp only [abacuslaw21_RecordPieces.j4]
            rw [if_pos trivial, if_pos e2, if_pos (by omega), if_pos (by omega), rdOf_nat _ hlt, hat, hone, wrap_nat (by omega)]
            rfl
          · have e2 : ¬ fs.toList = [] := fun e => hz (size_of_toList e)
            rw [if_neg hz] at hl
            have hm2 : p ∈ cutsFrom s fs 0 := hl ▸ hmem
            obtain ⟨q1, q2, q3⟩ := cuts_free s fs (by omega) 0 (Nat.zero_le _) p hm2
            have hsz : (s.extract p.1 p.2).size = p.2 - p.1 := by rw [ByteArray.size_extract]; omega
            have hho := holds_ev (s.extract p.1 p.2) fs (by omega) (by omega) (fun t ht => by
              rw [hsz] at ht
              rw [extract_dataL, List.drop_take, List.drop_drop, List.take_take, show min fs.size (p.2 - p.1 - t) = fs.size by omega]
              exact q3 t (by omega))
            refine Ev.step (f := fun k => (abacuslaw21_holds.f k (s.extract p.1 p.2) fs).bind fun t147 => (if t147 = true then (some false) else (abacuslaw21_RecordPieces.l0 k s fs (fieldsOf s fs) ((i + 1 : Nat) : Int)))) (fun k => ?_) ?_
            · simp only [abacuslaw21_RecordPieces.j4]
              rw [if_pos trivial, if_neg e2, if_pos (by omega), if_pos (by omega), rdOf_nat _ hlt, hat, wrap_nat (by omega)]
            · refine Ev.bind (f := fun k t147 => (if t147 = true then (some false) else (abacuslaw21_RecordPieces.l0 k s fs (fieldsOf s fs) ((i + 1 : Nat) : Int)))) hho ?_
              refine Ev.congr (fun k => ?_) hnext
              rw [if_neg (by simp)]
        refine Ev.step (fun k => ?_) hround
        simp only [abacuslaw21_RecordPieces.l0]
        rw [if_pos (by omega), hd67]
      · have hd67 : decide ((i : Int) < 32767) = false := decide_eq_false (by omega)
        refine Ev.step (fun k => ?_) (hend i)
        simp only [abacuslaw21_RecordPieces.l0]
        rw [if_pos (by omega), hd67]
  have hj2 : Ev (fun k => abacuslaw21_RecordPieces.j2 k s fs (fieldsOf s fs) false) true := by
    refine Ev.step (fun k => ?_) (hloop _ 0 rfl (Nat.zero_le _))
    simp only [abacuslaw21_RecordPieces.j2]
    rw [if_neg (by simp)]
    rfl
  refine Ev.step (f := fun k => (abacuslaw21_joined.f k (fieldsOf s fs) fs).bind fun t144 => (abacuslaw21_RecordPieces.j2 k s fs (fieldsOf s fs) (t144.toList != s.toList))) (fun k => ?_) ?_
  · simp only [abacuslaw21_RecordPieces.j1]
    rw [if_neg (by simp), if_neg (by omega), if_neg (by omega)]
  · refine Ev.bind (f := fun k t144 => (abacuslaw21_RecordPieces.j2 k s fs (fieldsOf s fs) (t144.toList != s.toList))) hjoin ?_
    refine Ev.congr (fun k => ?_) hj2
    rw [show (s.toList != s.toList) = false by simp]
end Go.Proofs.YtlklnenlhmhcaaaDoor.Plain
