/- Contracts: validity, refusals. No condition. Contracts: what virtual substitution refuses. No condition. The law VirtualArgs, over awake. No condition but awake. -/
import Derived.Test.YtfbmhjooliccnaaGreatDoorPo
set_option linter.all false

section
namespace Go.Proofs.YtfbmhjooliccnaaGreatDoor
open Go Go.Ab

def wrI (n : Int) : Int := IntKind.i64.wrap n
@[irreducible] def valR (p : PreD) : Bool := namesB p.names && (decide (0 ≤ p.free) && ((IntKind.i64.wrap (p.free + (p.all.length : Int)) == (p.names.length : Int)) && decide (plM p.mat ≤ (p.names.length : Int))))
@[irreducible] def VPre (p : PreD) : Prop := MOK p.mat ∧ szM p.mat ≤ 1000000
theorem VPre.mok {p : PreD} (h : VPre p) : MOK (fM p.mat) := by unfold VPre at h; rw [fM_eq]; exact h.1
theorem VPre.sz {p : PreD} (h : VPre p) : SZ (fN p.mat) := by unfold VPre at h; rw [fN_eq]; have := nm_sz p.mat; unfold SZ; omega
theorem v1 {p : PreD} (h : namesB p.names = false) : false = valR p := by unfold valR; rw [h]; rfl
theorem v2 {p : PreD} (h : decide (0 ≤ p.free) = false) : false = valR p := by unfold valR; rw [h]; simp
theorem v3 {p : PreD} (h : (IntKind.i64.wrap (p.free + (p.all.length : Int)) == (p.names.length : Int)) = false) : false = valR p := by unfold valR; rw [h]; simp
theorem v4 {p : PreD} (h1 : namesB p.names = true) (h2 : decide (0 ≤ p.free) = true) (h3 : (IntKind.i64.wrap (p.free + (p.all.length : Int)) == (p.names.length : Int)) = true) : decide (plM p.mat ≤ (p.names.length : Int)) = valR p := by unfold valR; rw [h1, h2, h3]; rfl
theorem v4a {p : PreD} (h1 : namesB p.names = true) (h2 : decide (0 ≤ p.free) = true) (h3 : (IntKind.i64.wrap (p.free + (p.all.length : Int)) == (p.names.length : Int)) = true) : decide (plM (fM p.mat) ≤ (p.names.length : Int)) = valR p := by rw [fM_eq]; exact v4 h1 h2 h3
theorem v4b {p : PreD} (h1 : namesB p.names = true) (h2 : decide (0 ≤ p.free) = true) (h3 : (IntKind.i64.wrap (p.free + (p.all.length : Int)) == (p.names.length : Int)) = true) : decide (levM (fN p.mat) ≤ (p.names.length : Int)) = valR p := by
  rw [fN_eq]
  have : levM (nmM p.mat) = plM p.mat := lev_pl p.mat
  rw [this]
  exact v4 h1 h2 h3
theorem eqT {b : Bool} (h : b = !true) : b = false := h

set_option maxRecDepth 20000 in
set_option maxHeartbeats 4000000 in
theorem valR_c (p : PreD) (h : VPre p) : Pur Tryz.prog 17 [(wrP Vw (.el Kd.pre) p).den] (bT (valR p)).den := by
  refine vcF_ok (V := Vx) (reg := ⟨[ct_namesB, ct_nmM, ct_levM], []⟩) (ls := []) mixed Tryz.func17 rfl (by kernel_rfl) (Nat.le_of_ble_eq_true rfl) (noNames rfl) (args := [(wrP Vw (.el Kd.pre) p)]) (r := bT (valR p)) ?_
  repeat' (first | intro _ | apply And.intro)
  all_goals first
    | exact True.intro
    | ((with_reducible show (_ && _) = true); kernel_rfl)
    | (with_reducible rfl)
    | (with_reducible exact h.mok) | (with_reducible exact h.sz)
    | (rename_i h; first | with_reducible exact v1 h | with_reducible exact v2 h | with_reducible exact v3 h | with_reducible exact v1 (eqT h) | with_reducible exact v2 (eqT h) | with_reducible exact v3 (eqT h))
    | (rename_i h _; first | with_reducible exact v1 h | with_reducible exact v2 h | with_reducible exact v3 h | with_reducible exact v1 (eqT h) | with_reducible exact v2 (eqT h) | with_reducible exact v3 (eqT h))
    | (rename_i h _ _; first | with_reducible exact v1 h | with_reducible exact v2 h | with_reducible exact v3 h | with_reducible exact v1 (eqT h) | with_reducible exact v2 (eqT h) | with_reducible exact v3 (eqT h))
    | (first | with_reducible exact v4a (by with_reducible assumption) (by with_reducible assumption) (by with_reducible assumption) | with_reducible exact v4b (by with_reducible assumption) (by with_reducible assumption) (by with_reducible assumption))
    | trace_state
def ct_valR : Ct Tryz.prog Un := ct1 Vw 17 (.el Kd.pre) (fun (p : PreD) => VPre p) (fun (p : PreD) => bT (valR p)) (fun p h => valR_c p h)

set_option maxRecDepth 20000 in
set_option maxHeartbeats 4000000 in
theorem valP_c (p : PreD) (h : VPre p) : Pur Tryz.prog 42 [(wrP Vw (.el Kd.pre) p).den] (bT (valR p)).den := by
  refine vcF_ok (V := Vx) (reg := ⟨[ct_namesD, ct_plM], []⟩) (ls := []) mixed Tryz.func42 rfl (by kernel_rfl) (Nat.le_of_ble_eq_true rfl) (noNames rfl) (args := [(wrP Vw (.el Kd.pre) p)]) (r := bT (valR p)) ?_
  repeat' (first | intro _ | apply And.intro)
  all_goals first
    | exact True.intro
    | ((with_reducible show (_ && _) = true); kernel_rfl)
    | (with_reducible rfl)
    | (with_reducible exact h.mok) | (with_reducible exact h.sz)
    | (rename_i h; first | with_reducible exact v1 h | with_reducible exact v2 h | with_reducible exact v3 h | with_reducible exact v1 (eqT h) | with_reducible exact v2 (eqT h) | with_reducible exact v3 (eqT h))
    | (rename_i h _; first | with_reducible exact v1 h | with_reducible exact v2 h | with_reducible exact v3 h | with_reducible exact v1 (eqT h) | with_reducible exact v2 (eqT h) | with_reducible exact v3 (eqT h))
    | (rename_i h _ _; first | with_reducible exact v1 h | with_reducible exact v2 h | with_reducible exact v3 h | with_reducible exact v1 (eqT h) | with_reducible exact v2 (eqT h) | with_reducible exact v3 (eqT h))
    | (first | with_reducible exact v4a (by with_reducible assumption) (by with_reducible assumption) (by with_reducible assumption) | with_reducible exact v4b (by with_reducible assumption) (by with_reducible assumption) (by with_reducible assumption))
    | trace_state
def ct_valP : Ct Tryz.prog Un := ct1 Vw 42 (.el Kd.pre) (fun (p : PreD) => VPre p) (fun (p : PreD) => bT (valR p)) (fun p h => valP_c p h)

end Go.Proofs.YtfbmhjooliccnaaGreatDoor
end

section
namespace Go.Proofs.YtfbmhjooliccnaaGreatDoor
open Go Go.Ab

def mE (m : MatD) : SE Un := .agg ((kdRow .mat m).map .d)
def iE' (n : Int) : SE Un := .c (.d (.sc (.int .i64 n)))
@[irreducible] def Out4 (n : Int) : Prop := n < 1 ∨ 4 < n
theorem o4 {n : Int} (h : Out4 n) (h1 : decide (n < 1) = false) (h2 : decide (4 < n) = false) : False := by
  unfold Out4 at h
  simp only [decide_eq_false_iff_not] at h1 h2
  omega
theorem o4' {n : Int} (h : Out4 n) (h1 : decide (n < 1) = false) (h2 : decide (4 < n) = !true) : False := o4 h h1 h2

set_option maxRecDepth 20000 in
set_option maxHeartbeats 4000000 in
theorem chk_c (m : MatD) (n : Int) (h : Out4 n) : Pur Tryz.prog 31 [(wrP Vw (.el Kd.mat) m).den, (wrP Vw (.int .i64) n).den] (iT 1).den := by
  refine vcF_ok (V := Vw) (reg := ⟨[], []⟩) (ls := []) mixed Tryz.func31 rfl (by kernel_rfl) (Nat.le_of_ble_eq_true rfl) (noNames rfl) (args := [(wrP Vw (.el Kd.mat) m), (wrP Vw (.int .i64) n)]) (r := iT 1) ?_
  repeat' (first | (rename_i a b; exact (o4 h a b).elim) | intro _ | apply And.intro)
  all_goals first | exact True.intro | rfl | (exfalso; rename_i a b; exact o4 h a b) | trace_state
def ct_chk : Ct Tryz.prog Un := ct2 Vw 31 (.el Kd.mat) (.int .i64) (fun (m : MatD) (n : Int) => Out4 n) (fun (m : MatD) (n : Int) => iT 1) (fun m n h => chk_c m n h)

set_option maxRecDepth 20000 in
set_option maxHeartbeats 4000000 in
theorem exi_c (m : MatD) (n : Int) (h : Out4 n) : Pur Tryz.prog 11 [(wrP Vw (.el Kd.mat) m).den, (wrP Vw (.int .i64) n).den] (tT [mE zM, iE' 1]).den := by
  refine vcF_ok (V := Vw) (reg := ⟨[ct_chk], []⟩) (ls := []) mixed Tryz.func11 rfl (by kernel_rfl) (Nat.le_of_ble_eq_true rfl) (noNames rfl) (args := [(wrP Vw (.el Kd.mat) m), (wrP Vw (.int .i64) n)]) (r := tT [mE zM, iE' 1]) ?_
  repeat' (first | (rename_i a; exact absurd a (by decide)) | intro _ | apply And.intro)
  all_goals first | exact True.intro | (with_reducible exact h) | rfl | trace_state
def ct_exi : Ct Tryz.prog Un := ct2 Vw 11 (.el Kd.mat) (.int .i64) (fun (m : MatD) (n : Int) => Out4 n) (fun (m : MatD) (n : Int) => tT [mE zM, iE' 1]) (fun m n h => exi_c m n h)

set_option maxRecDepth 20000 in
set_option maxHeartbeats 4000000 in
theorem fal_c (m : MatD) (n : Int) (h : Out4 n) : Pur Tryz.prog 12 [(wrP Vw (.el Kd.mat) m).den, (wrP Vw (.int .i64) n).den] (tT [mE zM, iE' 1]).den := by
  refine vcF_ok (V := Vw) (reg := ⟨[ct_chk], []⟩) (ls := []) mixed Tryz.func12 rfl (by kernel_rfl) (Nat.le_of_ble_eq_true rfl) (noNames rfl) (args := [(wrP Vw (.el Kd.mat) m), (wrP Vw (.int .i64) n)]) (r := tT [mE zM, iE' 1]) ?_
  repeat' (first | (rename_i a; exact absurd a (by decide)) | intro _ | apply And.intro)
  all_goals first | exact True.intro | (with_reducible exact h) | rfl | trace_state
def ct_fal : Ct Tryz.prog Un := ct2 Vw 12 (.el Kd.mat) (.int .i64) (fun (m : MatD) (n : Int) => Out4 n) (fun (m : MatD) (n : Int) => tT [mE zM, iE' 1]) (fun m n h => fal_c m n h)

@[reducible] def fP (p : PreD) : PreD := ⟨p.free, p.all, p.names, fM p.mat⟩
theorem fP_eq (p : PreD) : fP p = p := by unfold fP; rw [fM_eq]
@[irreducible] def EPre (p : PreD) : Prop := VPre p ∧ valR p = false
theorem EPre.v {p : PreD} (h : EPre p) : VPre (fP p) := by unfold EPre at h; rw [fP_eq]; exact h.1
theorem EPre.no {p : PreD} (h : EPre p) (h1 : (!valR (fP p)) = false) : False := by unfold EPre at h; rw [fP_eq, h.2] at h1; cases h1

set_option maxRecDepth 20000 in
set_option maxHeartbeats 4000000 in
theorem eli_c (p : PreD) (h : EPre p) : Pur Tryz.prog 18 [(wrP Vw (.el Kd.pre) p).den] (tT [mE zM, iE' 9]).den := by
  refine vcF_ok (V := Vw) (reg := ⟨[ct_valP], []⟩) (ls := []) mixed Tryz.func18 rfl (by kernel_rfl) (Nat.le_of_ble_eq_true rfl) (noNames rfl) (args := [(wrP Vw (.el Kd.pre) p)]) (r := tT [mE zM, iE' 9]) ?_
  repeat' (first | (rename_i a; exact (h.no a).elim) | intro _ | apply And.intro)
  all_goals first | exact True.intro | (with_reducible exact h.v) | rfl | trace_state
def ct_eli : Ct Tryz.prog Un := ct1 Vw 18 (.el Kd.pre) (fun (p : PreD) => EPre p) (fun (p : PreD) => tT [mE zM, iE' 9]) (fun p h => eli_c p h)

end Go.Proofs.YtfbmhjooliccnaaGreatDoor
end

section
namespace Go.Proofs.YtfbmhjooliccnaaGreatDoor
open Go Go.Ab

theorem sameI_z : sameI ⟨false, []⟩ ⟨false, []⟩ = true := by unfold sameI; simp
theorem sameM_z : sameM (.mk 0 0 (.mk 0 false [] []) []) (.mk 0 0 (.mk 0 false [] []) []) = true := by
  rw [sameM_eq, sameP_eq]
  simp only [MatD.poly, MatD.kids, PolyD.level, PolyD.neg, PolyD.abs, PolyD.coefs, MatD.kind, MatD.rel, sameI_z, sameQ, sameN]
  decide
theorem sameM_y : sameM (MatD.mk zM.kind zM.rel (PolyD.mk zM.poly.level zM.poly.neg zM.poly.abs zM.poly.coefs) zM.kids) (.mk 0 0 (.mk 0 false [] []) []) = true := sameM_z
section
variable {p : PreD}
theorem la1 (h : DgM p.mat) : DgM (fM p.mat) := by rw [fM_eq]; exact h
theorem la2 (h : DgM p.mat) (hf : (!fewF (fP p) 4) = false) : VPre (fP p) := by
  rw [fP_eq] at *
  have : fewF p 4 = true := by simpa using hf
  unfold fewF at this
  simp only [Bool.and_eq_true] at this
  have h1 := fewM_ok (by omega) this.2.2 h
  unfold VPre
  exact ⟨h1.1, by omega⟩
theorem la3 (h : DgM p.mat) (hf : (!fewF (fP p) 4) = false) (hv : valR (fP p) = false) : EPre (fP p) := by
  have := la2 h hf
  unfold EPre
  exact ⟨this, hv⟩
theorem la4 {n : Int} (h : decide (n < 1) = true) : Out4 n := by unfold Out4; simp only [decide_eq_true_eq] at h; exact .inl h
theorem la5 {n : Int} (h : decide (4 < n) = true) : Out4 n := by unfold Out4; simp only [decide_eq_true_eq] at h; exact .inr h
end
def ct_awk (hw : Pur Tryz.prog 8 [] (bT true).den) : Ct Tryz.prog Un := ct0 8 (bT true) hw
set_option maxRecDepth 20000 in
set_option maxHeartbeats 4000000 in
theorem args_c (hw : Pur Tryz.prog 8 [] (bT true).den) (p : PreD) (n : Int) (hd : DgM p.mat) : Pur Tryz.prog 4 [(wrP Vw (.el Kd.pre) p).den, (wrP Vw (.int .i64) n).den] (bT true).den := by
  refine vcF_ok (V := Vw) (reg := ⟨[ct_awk hw, ct_fewForm, ct_smM, ct_exi, ct_fal, ct_valR, ct_eli, ct_sameM], []⟩) (ls := []) mixed Tryz.func4 rfl (by kernel_rfl) (Nat.le_of_ble_eq_true rfl) (noNames rfl) (args := [(wrP Vw (.el Kd.pre) p), (wrP Vw (.int .i64) n)]) (r := bT true) ?_
  repeat' (first | (rename_i a; exact absurd a (by decide)) | intro _ | apply And.intro)
  all_goals first
    | exact True.intro
    | (with_reducible rfl)
    | (with_reducible exact la1 hd)
    | (with_reducible exact sameM_z) | (with_reducible exact sameM_y)
    | (rename_i h; first | with_reducible exact la4 h | with_reducible exact la5 h | with_reducible exact la4 (eqB h) | with_reducible exact la5 (eqB h))
    | (with_reducible exact la2 hd (by with_reducible assumption))
    | (rename_i hv; with_reducible exact la3 hd (by with_reducible assumption) hv)
    | (with_reducible exact la4 (by with_reducible assumption)) | (with_reducible exact la5 (by with_reducible assumption))
    | decide
    | trace_state

end Go.Proofs.YtfbmhjooliccnaaGreatDoor
end
