/- VirtualArgs: the row's closed facts. No condition. -/
import Derived.Test.YtfbmhjooliccnaaGreatDoorRows
import Derived.JoinedOf
import Derived.KernelRfl
set_option linter.all false

section
set_option maxRecDepth 100000
namespace Go.Proofs.YtfbmhjooliccnaaGreatDoor
open Go
theorem andT {a b : Bool} (h : a = true) (h' : b = true) : (a && b) = true := by rw [h, h']; rfl
set_option maxHeartbeats 0 in
theorem closedV : joinedFacts Tryz.prog 4 Tryz.f4 Rows.virtualArgsSpec Rows.virtualArgsRow = true := by
  unfold joinedFacts
  repeat' (with_reducible apply andT)
  all_goals as_aux_lemma => kernel_rfl
theorem named4 : Tryz.prog.funcNamed Rows.virtualArgsRow.func = some 4 := by kernel_rfl
end Go.Proofs.YtfbmhjooliccnaaGreatDoor
end
