/- VirtualArgs over awake: the row's form. Condition: awake's contract. -/
import Derived.Test.YtfbmhjooliccnaaGreatDoorRows
import Derived.Test.YtfbmhjooliccnaaGreatDoorPq
import Derived.Test.YtfbmhjooliccnaaGreatDoorPy
import Derived.ProofKit
import Derived.LaidMore
import Derived.OpenShut
import Derived.Stop.Joined
set_option linter.all false

section
namespace Go.Proofs.YtfbmhjooliccnaaGreatDoor
open Go Go.ChangeShapes Go.WideShapes Go.ChangeAt Go.WideMaps Go.WideElems Go.RowKit Go.Ab

theorem ownV : ownKnob Tryz.prog.godebug = Option.none := by kernel_rfl
theorem door_met (os : Os) (args : Array Value) : laidMetH Tryz.prog Rows.virtualArgsRow.laid ((World.doorLaid Tryz.prog 24 os).forCall (fun _ _ => 0) ⟨#[], args, []⟩).memory :=
  laidMetH_of_parts3 (fuel := 8) (laidMet_of_run' 8 (by kernel_rfl) (by kernel_rfl)) (by kernel_rfl) (by kernel_rfl)
theorem laidO : laidOutB Tryz.prog = true := by kernel_rfl
def zArg : Value := .agg #[.int .i64 0, .slice Option.none 0 0, .slice Option.none 0 0, .int .i64 0, .int .i64 0, .int .i64 0, .bool false, .slice Option.none 0 0, .slice Option.none 0 0, .slice Option.none 0 0]

set_option maxRecDepth 100000 in
theorem liftedA (hw : Pur Tryz.prog 8 [] (bT true).den) (os : Os) (started : os.Started) (H : Type) (enc : TypeId × Value → H) :
    ReturnsInHanded {} Tryz.checked os 4 .any (fun w args => (Rows.virtualArgsSpec.pre enc Tryz.prog Tryz.f4 [] false w args ∧ laidMetH Tryz.prog Rows.virtualArgsRow.laid w) ∧ sizedMet enc Tryz.prog Tryz.f4 (OpenSpec.ofChange Rows.virtualArgsSpec) false w args)
      (Rows.virtualArgsSpec.post enc Tryz.prog Tryz.f4 false true false false) := by
  refine returnsInHanded_of_change_and (C := Tryz.checked) (X := fun w _ => laidMetH Tryz.prog Rows.virtualArgsRow.laid w) (fun _ _ _ hh h => h.of_heap hh) ownV started (by kernel_rfl) Tryz.func4
    (ChangeSpec.witness_shaped (enc := enc) (C := Tryz.checked) (os := os) (X := fun w _ => laidMetH Tryz.prog Rows.virtualArgsRow.laid w) false (World.doorLaid Tryz.prog 24 os) #[zArg, .int .i64 0] 8 rfl (World.shaped_of_RefB (by kernel_rfl) (by kernel_rfl)) (by kernel_rfl) (by kernel_rfl) (by kernel_rfl) (door_met os _)) ?_
  intro W base args ds gs before hval0 hW _ _ hL _
  have hW' := hW
  obtain ⟨p, q, hA0, hV, rfl, hfz, hnd⟩ := hW
  have hA : DataW.TrodAll enc Tryz.prog W 0 (fun _ => true) true Tryz.f4.params.toList args.toList ds p := hA0
  rw [Tryz.params4] at hA
  obtain ⟨v, v', d, d', p1, p2, rfl, rfl, rfl, hd, hd'⟩ := trodAll_two hA
  obtain ⟨rfl, rfl⟩ := trodVars_none hV
  have hlt := hW'.lt
  obtain ⟨fu, hfu⟩ := hd
  obtain ⟨fu', hfu'⟩ := hd'
  obtain ⟨x, hx, hr⟩ := pre_rel hfu
  obtain ⟨n, rfl, _, _, _⟩ := open_int (show Tryz.prog.underlying 3 = some (.int .i64) by kernel_rfl) (hval0 1 3 v' (by rw [Tryz.params4]; rfl) rfl) ⟨fu', hfu'⟩
  have hv : v = .agg v.cells.toList.toArray := by
    have := hr.1
    cases v <;> first | rfl | (simp [Value.cells, cPre, cMat_eq] at this)
  rw [hv]
  refine (args_calls hw (n := n) hx hr).mono fun e W' ⟨he, hk⟩ => ?_
  subst he
  have hb : Below W.heap.size W W' := ⟨hk.os, hk.tape, hk.output, hk.size, fun k hlt => hk.same k hlt (fun h => h)⟩
  rw [← hv]
  refine ⟨_, rfl, [d, d'], [], (p1 ++ p2) ++ [], [], p1 ++ p2, [], hW', trodAll_mk1 (shut_bool Tryz.underlying4 _), ?_, rfl, hb.frame _, fun h => by cases h⟩
  rw [Tryz.params4]
  refine trodAll_mk2 (Below.trod laidO (by kernel_rfl) (of_decide_eq_true (by kernel_rfl)) ⟨fu, hfu⟩ hb (fun y hy => hlt y (by simp [hy]))) (Below.trod laidO (by kernel_rfl) (of_decide_eq_true (by kernel_rfl)) ⟨fu', hfu'⟩ hb (fun y hy => hlt y (by simp [hy])))

theorem argsSaid_of (hw : Pur Tryz.prog 8 [] (bT true).den) : Rows.VirtualArgsSaid :=
  OpenClaim.holds_of_wide 4 Tryz.f4 rfl rfl rfl rfl rfl rfl rfl ⟨rfl, rfl, rfl, rfl, rfl⟩ rfl rfl rfl rfl rfl named4 Tryz.func4 closedV
    (of_decide_eq_true (by kernel_rfl)) (by unfold Func.isWrapper; first | (rw [if_pos (by decide +kernel)]; kernel_rfl) | (rw [if_neg (by decide +kernel)]; exact ⟨rfl, rfl⟩))
    (fun os started H enc _ => liftedA hw os started H enc)
end Go.Proofs.YtfbmhjooliccnaaGreatDoor
end
