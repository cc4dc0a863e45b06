/- Of any two verdicts: the text of each is the document's text, and, of verdicts that may be, the texts are alike just where the verdicts are. Under the row's own conditions: the listed variables read, as the call begins, as the program's own text lays them. -/
import Derived.Test.YtallcnidacopjaaGreatDoorP1
import Derived.Test.YtallcnidacopjaaGreatDoorTie
import Derived.Test.YtallcnidacopjaaGreatDoorCards
import Derived.SevenTiedAt
namespace Go.Proofs.YtallcnidacopjaaGreatDoor
open Go

set_option maxRecDepth 100000 in
theorem rehearseTexts_card : Rows.RehearseTextsCardSaid :=
  Claim7.holds_tied_plain_at .later [] [.data, .data, .data, .data, .data, .sentinel, .sentinel, .data] true (true, "6797a1898475d285115a1729d9299c887787eb63c1d43709f2f795eafeb75343") true
    rehearseTexts_holds (fun _ h => by cases h) (by as_aux_lemma => kernel_rfl) (fun _ h => by cases h) rehearseTexts_row_tie rfl ⟨rfl, rfl⟩ (by as_aux_lemma => kernel_rfl) rfl
    (fun f fn hf hfn => by
      obtain rfl : f = 3 := Option.some.inj ((show Tryz.prog.funcNamed "hibernacle/hibernaclelaw57.RehearseTexts" = some 3 by kernel_rfl).symm.trans hf) |>.symm
      obtain rfl : fn = Tryz.f3 := (Option.some.inj (Tryz.func3.symm.trans hfn)).symm
      exact ⟨by kernel_rfl, fun j t ht => by
        rw [Tryz.params3] at ht
        have hm : t ∈ [25, 25] := by simpa using Array.mem_of_getElem? ht
        have hall : ([25, 25].all fun u => !Tryz.prog.wantsStandIn u) = true := by kernel_rfl
        exact (show Tryz.prog.wantsStandIn t = false by simpa using List.all_eq_true.1 hall t hm)⟩)
    (by as_aux_lemma => kernel_rfl)
#print axioms rehearseTexts_card
end Go.Proofs.YtallcnidacopjaaGreatDoor
