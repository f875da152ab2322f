/- VirtualArgs: the tied card: for every input the law returns true, and its arguments read as before. No condition. -/
import Derived.Test.YtfbmhjooliccnaaGreatDoorPz
import Derived.Test.YtfbmhjooliccnaaGreatDoorPx
import Derived.Test.YtfbmhjooliccnaaGreatDoorTie
import Derived.Test.YtfbmhjooliccnaaGreatDoorCards
import Derived.SevenTiedAt
set_option linter.all false

section
namespace Go.Proofs.YtfbmhjooliccnaaGreatDoor
open Go Go.Ab

theorem argsSaid : Rows.VirtualArgsSaid := argsSaid_of Kw.awake_c
theorem virtualArgs_holds : Rows.VirtualArgsCardSaid :=
  Claim7.holds_tied_plain_at .later [] [.data, .data, .data] true (true, "ffe9ceefb557b52154a28d4dc554f870c58cc5083fb02db3ba38105c270fb25b") false
    argsSaid (fun _ h => by cases h) (by kernel_rfl) (fun _ h => by cases h) virtualArgs_row_tie rfl ⟨rfl, rfl⟩ (by kernel_rfl) rfl
    (fun f fn hf hfn => by
      obtain rfl : f = 4 := Option.some.inj (named4.symm.trans hf) |>.symm
      obtain rfl : fn = Tryz.f4 := (Option.some.inj (Tryz.func4.symm.trans hfn)).symm
      exact ⟨by kernel_rfl, fun j t ht => by
        rw [Tryz.params4] at ht
        have hm : t ∈ [50, 3] := by simpa using Array.mem_of_getElem? ht
        have hall : ([50, 3].all fun u => !Tryz.prog.wantsStandIn u) = true := by kernel_rfl
        exact (show Tryz.prog.wantsStandIn t = false by simpa using List.all_eq_true.1 hall t hm)⟩)
    (by kernel_rfl)
#print axioms virtualArgs_holds
end Go.Proofs.YtfbmhjooliccnaaGreatDoor
end
