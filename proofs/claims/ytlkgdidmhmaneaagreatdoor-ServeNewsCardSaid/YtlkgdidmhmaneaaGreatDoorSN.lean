/- A part of the proof: the last part proves the card of the statement, with no condition of its own. -/
import Derived.Test.YtlkgdidmhmaneaaGreatDoorSNj
import Derived.SevenTiedAt
/- ServeNews: the tied card. -/
namespace Go.Proofs.YtlkgdidmhmaneaaGreatDoor
open Go
theorem serveNews_card : Rows.ServeNewsCardSaid :=
  Claim7.holds_tied_plain_at .later [] [.data] true (true, "b9873b30f186ae8be180d561d3afabbb5bd744707ab45719244d868dd260774a") false
    serveNews_holds (fun _ h => by cases h) (by kernel_rfl) (fun _ h => by cases h) serveNews_row_tie rfl ⟨rfl, rfl⟩ (by kernel_rfl) rfl
    (fun f fn hf hfn => by
      obtain rfl : f = 3 := Option.some.inj ((show Tryz.prog.funcNamed "truchman/truchmanlaw16.ServeNews" = some 3 by kernel_rfl).symm.trans hf) |>.symm
      obtain rfl : fn = Tryz.f3 := (Option.some.inj (Tryz.func3.symm.trans hfn)).symm
      exact ⟨by kernel_rfl, fun j t ht => by
        rw [Tryz.params3] at ht
        have h3 : t = 3 := by
          rcases j with _ | _ | j
          · simpa using ht.symm
          · simpa using ht.symm
          · simp at ht
        subst h3
        exact (show Tryz.prog.wantsStandIn 3 = false by kernel_rfl)⟩)
    (by kernel_rfl)
#print axioms serveNews_card
end Go.Proofs.YtlkgdidmhmaneaaGreatDoor
