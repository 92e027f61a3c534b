/- awake: the fixed answers that every law of the layer asks for; conditions: none. -/
import Derived.Test.YtoanmnhkhookfaaGreatDoorPXAwake
import Derived.Test.YtoanmnhkhookfaaGreatDoorEval
namespace Go.Proofs.YtoanmnhkhookfaaGreatDoor.Pure
open Go.RowKit Go.Proofs.YtoanmnhkhookfaaGreatDoor.PXRelateTexts Go.Proofs.YtoanmnhkhookfaaGreatDoorW.PrintWords Go.Proofs.YtoanmnhkhookfaaGreatDoorW.PrintLast
open Go.Proofs.YtoanmnhkhookfaaGreatDoor
set_option linter.unusedVariables false

theorem sort_is : relate_Sort.f [(⟨2, 0, ⟨#[98]⟩⟩ : S29), ⟨1, 4607182418800017408, ⟨#[]⟩⟩, ⟨2, 0, ⟨#[97]⟩⟩] = some [1, 2, 0] := by
  have hs : smallS [(⟨2, 0, ⟨#[98]⟩⟩ : S29), ⟨1, 4607182418800017408, ⟨#[]⟩⟩, ⟨2, 0, ⟨#[97]⟩⟩] := by
    refine ⟨by decide, ?_⟩
    intro x hx
    simp only [List.mem_cons, List.not_mem_nil, or_false] at hx
    rcases hx with rfl | rfl | rfl <;> decide
  unfold relate_Sort.f relate_Top.f
  rw [if_pos hs, Option.bind_some, topIds_at ltE 8 _ _ (by decide)]
  congr 1
theorem awake_ev : Ev (fun k => abacuslaw18_awake.f k) true := by
  have h1 : Ev (fun k => relate_Compare.f k 2 0 ⟨#[49, 48]⟩ 1 4621256167635550208 ⟨#[]⟩ ⟨#[37, 46, 54, 103]⟩) (-1, 0) := Ev.of (fun k => relate_Compare.mono _ _ _ _ _ _ _ k) (k := 40) (by decide +kernel)
  have h2 : Ev (fun k => relate_Holds.f k 5 1 4611686018427387904 ⟨#[]⟩ 1 4607182418800017408 ⟨#[]⟩ ⟨#[]⟩) (true, 0) := Ev.of (fun k => relate_Holds.mono _ _ _ _ _ _ _ _ k) (k := 40) (by decide +kernel)
  refine Ev.congr (f := fun k => (relate_Compare.f k 2 0 ⟨#[49, 48]⟩ 1 4621256167635550208 ⟨#[]⟩ ⟨#[37, 46, 54, 103]⟩).bind fun bt228 => (relate_Holds.f k 5 1 4611686018427387904 ⟨#[]⟩ 1 4607182418800017408 ⟨#[]⟩ ⟨#[]⟩).bind fun bt236 => (if bt228.1 = (-1) then (if bt228.2 = 0 then (if bt236.1 = true then (abacuslaw18_awake.j0 k (bt236.2 != 0)) else (abacuslaw18_awake.j0 k true)) else (abacuslaw18_awake.j0 k true)) else (abacuslaw18_awake.j0 k true))) (fun k => rfl) ?_
  refine Ev.bind h1 (Ev.bind h2 ?_)
  refine Ev.congr (f := fun k => abacuslaw18_awake.j0 k false) (fun k => rfl) ?_
  refine Ev.step (f := fun _ => some true) (fun k => ?_) (Ev.now _)
  simp only [abacuslaw18_awake.j0, abacuslaw18_str.f, abacuslaw18_num.f, Option.bind_some, sort_is]
  rfl
end Go.Proofs.YtoanmnhkhookfaaGreatDoor.Pure
