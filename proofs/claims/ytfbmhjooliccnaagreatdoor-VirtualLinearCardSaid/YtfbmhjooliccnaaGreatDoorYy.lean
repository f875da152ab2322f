/- A part of the proof of VirtualLinear: Wm2. No condition. -/
import Derived.JoinedOf
import Derived.KernelRfl
import Derived.Test.YtfbmhjooliccnaaGreatDoorRows
import Derived.Test.YtfbmhjooliccnaaGreatDoorYa
set_option linter.all false
set_option maxRecDepth 100000
set_option maxHeartbeats 60000000
noncomputable section
namespace Go.Proofs.YtfbmhjooliccnaaGreatDoor
open Go Go.Proofs.Tryz
def anS{a b:Bool}(h:a=true)(c:b=true):(a&&b)=true:=by rw[h,c];rfl
def aqr:joinedFacts prog 5 Tryz.f5 Rows.virtualLinearSpec Rows.virtualLinearRow=true:=by
 unfold joinedFacts;repeat' (with_reducible apply anS)
 all_goals as_aux_lemma=>kernel_rfl
def adX:Tryz.prog.funcNamed Rows.virtualLinearRow.func=some 5:=af
end Go.Proofs.YtfbmhjooliccnaaGreatDoor
