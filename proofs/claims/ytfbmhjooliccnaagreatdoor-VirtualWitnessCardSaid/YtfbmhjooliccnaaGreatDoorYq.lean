/- VirtualWitness holds: the last part of its proof, the card. No condition. -/
import Derived.SevenTiedAt
import Derived.Test.YtfbmhjooliccnaaGreatDoorTie
import Derived.Test.YtfbmhjooliccnaaGreatDoorCards
import Derived.Test.YtfbmhjooliccnaaGreatDoorYp
set_option linter.all false
set_option maxRecDepth 100000
set_option maxHeartbeats 60000000
noncomputable section
namespace Go.Proofs.YtfbmhjooliccnaaGreatDoor
open Go Go.Ab Go.Proofs.Tryz
theorem virtualWitness_holds:Rows.VirtualWitnessCardSaid:=
 Claim7.holds_tied_plain_at .later [] [.data,.data,.data] true (true,"ffe9ceefb557b52154a28d4dc554f870c58cc5083fb02db3ba38105c270fb25b") false
  aHk (λ_ h=>by cases h) af (λ_ h=>by cases h) virtualWitness_row_tie rfl ⟨rfl,rfl⟩ af rfl
  (λf e hf b=>by
    obtain rfl:f=3:=vo (adP.symm.trans hf) |>.symm
    obtain rfl:e=Tryz.f3:=(vo (Tryz.func3.symm.trans b)).symm;exact⟨af,λj t c=>by
     rw[Tryz.params3]at c;have d:t∈[32,5,35]:=by simpa using UX c
     have a:([32,5,35].all λu=>!Tryz.prog.wantsStandIn u)=true:=af;exact(show Tryz.prog.wantsStandIn t=false by simpa using eM.1 a t d)⟩)
  af
#print axioms virtualWitness_holds
end Go.Proofs.YtfbmhjooliccnaaGreatDoor
