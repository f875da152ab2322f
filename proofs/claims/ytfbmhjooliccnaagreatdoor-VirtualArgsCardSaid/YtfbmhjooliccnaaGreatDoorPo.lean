/- Contracts: recpoly.Normal. No condition. Contracts: matrices. No condition. Contracts: ref38.Normal. No condition. Contracts: polynomials of matrices, levels. No condition. Contracts: levels and validity. No condition. -/
import Derived.Test.YtfbmhjooliccnaaGreatDoorPk
import Derived.Test.YtfbmhjooliccnaaGreatDoorPm
import Derived.Test.YtfbmhjooliccnaaGreatDoorPn
import Derived.Test.YtfbmhjooliccnaaGreatDoorPi
set_option linter.all false

section
namespace Go.Proofs.YtfbmhjooliccnaaGreatDoor
open Go Go.Ab

theorem cn1 {p : PolyD} (h : canP p = true) : p = canoP p := by unfold canoP; rw [if_pos h]
theorem cn2 {p : PolyD} (h : canP p = false) : buildF ((normT (collectP p ⟨0, 0, 0, 0⟩)).length + 4) (normT (collectP p ⟨0, 0, 0, 0⟩)) 4 = canoP p := by unfold canoP; rw [if_neg (by simp [h])]

theorem cnA0 {p : PolyD} (h : canP (.mk p.level p.neg p.abs p.coefs) = true) : p.level = (canoP p).level := by rw [eP_eq] at h; rw [← cn1 h]
theorem cnB0 {p : PolyD} (h : canP (.mk p.level p.neg p.abs p.coefs) = false) : (buildF ((normT (collectP (.mk p.level p.neg p.abs p.coefs) ⟨0, 0, 0, 0⟩)).length + 4) (normT (collectP (.mk p.level p.neg p.abs p.coefs) ⟨0, 0, 0, 0⟩)) 4).level = (canoP p).level := by rw [eP_eq] at h ⊢; rw [cn2 h]
theorem cnA1 {p : PolyD} (h : canP (.mk p.level p.neg p.abs p.coefs) = true) : p.neg = (canoP p).neg := by rw [eP_eq] at h; rw [← cn1 h]
theorem cnB1 {p : PolyD} (h : canP (.mk p.level p.neg p.abs p.coefs) = false) : (buildF ((normT (collectP (.mk p.level p.neg p.abs p.coefs) ⟨0, 0, 0, 0⟩)).length + 4) (normT (collectP (.mk p.level p.neg p.abs p.coefs) ⟨0, 0, 0, 0⟩)) 4).neg = (canoP p).neg := by rw [eP_eq] at h ⊢; rw [cn2 h]
theorem cnA2 {p : PolyD} (h : canP (.mk p.level p.neg p.abs p.coefs) = true) : p.abs = (canoP p).abs := by rw [eP_eq] at h; rw [← cn1 h]
theorem cnB2 {p : PolyD} (h : canP (.mk p.level p.neg p.abs p.coefs) = false) : (buildF ((normT (collectP (.mk p.level p.neg p.abs p.coefs) ⟨0, 0, 0, 0⟩)).length + 4) (normT (collectP (.mk p.level p.neg p.abs p.coefs) ⟨0, 0, 0, 0⟩)) 4).abs = (canoP p).abs := by rw [eP_eq] at h ⊢; rw [cn2 h]
theorem cnA3 {p : PolyD} (h : canP (.mk p.level p.neg p.abs p.coefs) = true) : p.coefs = (canoP p).coefs := by rw [eP_eq] at h; rw [← cn1 h]
theorem cnB3 {p : PolyD} (h : canP (.mk p.level p.neg p.abs p.coefs) = false) : (buildF ((normT (collectP (.mk p.level p.neg p.abs p.coefs) ⟨0, 0, 0, 0⟩)).length + 4) (normT (collectP (.mk p.level p.neg p.abs p.coefs) ⟨0, 0, 0, 0⟩)) 4).coefs = (canoP p).coefs := by rw [eP_eq] at h ⊢; rw [cn2 h]

theorem np1 {p : PolyD} (h : NPre p) : CB [] (.mk p.level p.neg p.abs p.coefs) ⟨0, 0, 0, 0⟩ := by rw [eP_eq]; exact h.cb
theorem np2 {p : PolyD} (h : NPre p) : NBe (collectP (.mk p.level p.neg p.abs p.coefs) ⟨0, 0, 0, 0⟩) := by rw [eP_eq]; exact h.nb.e
theorem np3 {p : PolyD} (h : NPre p) : BPre (normT (collectP (.mk p.level p.neg p.abs p.coefs) ⟨0, 0, 0, 0⟩)) 4 := by
  rw [eP_eq]; unfold BPre; exact ⟨rfl, normT_BP h.nb h.eb (by omega)⟩
theorem np4 {p : PolyD} (h : NPre p) : SmP (canoP p) := h.cano.sm (by omega)

set_option maxRecDepth 20000 in
set_option maxHeartbeats 4000000 in
theorem cano_c (p : PolyD) (hp : NPre p) : Pur Tryz.prog 81 [(wrP Vw (.el Kd.poly) p).den] (eT .poly (canoP p)).den := by
  refine vcF_ok (V := Vw) (reg := ⟨[ct_isCanonical, ct_normT, ct_build], [oc_col0]⟩) (ls := []) mixed Tryz.func81 rfl (by kernel_rfl) (Nat.le_of_ble_eq_true rfl) (noNames rfl) (args := [(wrP Vw (.el Kd.poly) p)]) (r := eT .poly (canoP p)) ?_
  repeat' (first | intro _ | apply And.intro)
  all_goals first | exact True.intro | (with_reducible rfl) | (with_reducible exact np1 hp) | (with_reducible exact np2 hp) | (with_reducible exact np3 hp) | (rename_i h; first | with_reducible exact cnA0 h | with_reducible exact cnB0 h | with_reducible exact cnA1 h | with_reducible exact cnB1 h | with_reducible exact cnA2 h | with_reducible exact cnB2 h | with_reducible exact cnA3 h | with_reducible exact cnB3 h) | trace_state
def ct_cano : Ct Tryz.prog Un := ct1 Vw 81 (.el Kd.poly) (fun (p : PolyD) => NPre p) (fun (p : PolyD) => eT .poly (canoP p)) (fun p h => cano_c p h)

theorem nmP0 {p : PolyD} : (copyP (.mk (canoP (.mk p.level p.neg p.abs p.coefs)).level (canoP (.mk p.level p.neg p.abs p.coefs)).neg (canoP (.mk p.level p.neg p.abs p.coefs)).abs (canoP (.mk p.level p.neg p.abs p.coefs)).coefs)).level = (normP p).level := by rw [eP_eq, eP_eq]; unfold normP; rfl
theorem nmP1 {p : PolyD} : (copyP (.mk (canoP (.mk p.level p.neg p.abs p.coefs)).level (canoP (.mk p.level p.neg p.abs p.coefs)).neg (canoP (.mk p.level p.neg p.abs p.coefs)).abs (canoP (.mk p.level p.neg p.abs p.coefs)).coefs)).neg = (normP p).neg := by rw [eP_eq, eP_eq]; unfold normP; rfl
theorem nmP2 {p : PolyD} : (copyP (.mk (canoP (.mk p.level p.neg p.abs p.coefs)).level (canoP (.mk p.level p.neg p.abs p.coefs)).neg (canoP (.mk p.level p.neg p.abs p.coefs)).abs (canoP (.mk p.level p.neg p.abs p.coefs)).coefs)).abs = (normP p).abs := by rw [eP_eq, eP_eq]; unfold normP; rfl
theorem nmP3 {p : PolyD} : (copyP (.mk (canoP (.mk p.level p.neg p.abs p.coefs)).level (canoP (.mk p.level p.neg p.abs p.coefs)).neg (canoP (.mk p.level p.neg p.abs p.coefs)).abs (canoP (.mk p.level p.neg p.abs p.coefs)).coefs)).coefs = (normP p).coefs := by rw [eP_eq, eP_eq]; unfold normP; rfl

theorem np5 {p : PolyD} (h : NPre p) : NPre (.mk p.level p.neg p.abs p.coefs) := by rw [eP_eq]; exact h
theorem np6 {p : PolyD} (h : NPre p) : SmP (.mk (canoP (.mk p.level p.neg p.abs p.coefs)).level (canoP (.mk p.level p.neg p.abs p.coefs)).neg (canoP (.mk p.level p.neg p.abs p.coefs)).abs (canoP (.mk p.level p.neg p.abs p.coefs)).coefs) := by rw [eP_eq, eP_eq]; exact np4 h

set_option maxRecDepth 20000 in
set_option maxHeartbeats 4000000 in
theorem normP_c (p : PolyD) (hp : NPre p) : Pur Tryz.prog 39 [(wrP Vw (.el Kd.poly) p).den] (eT .poly (normP p)).den := by
  refine vcF_ok (V := Vw) (reg := ⟨[ct_cano, ct_copyOf], []⟩) (ls := []) mixed Tryz.func39 rfl (by kernel_rfl) (Nat.le_of_ble_eq_true rfl) (noNames rfl) (args := [(wrP Vw (.el Kd.poly) p)]) (r := eT .poly (normP p)) ?_
  repeat' (first | intro _ | apply And.intro)
  all_goals first | exact True.intro | (with_reducible rfl) | (with_reducible exact np5 hp) | (with_reducible exact np6 hp) | (with_reducible exact nmP0) | (with_reducible exact nmP1) | (with_reducible exact nmP2) | (with_reducible exact nmP3) | trace_state
def ct_normP : Ct Tryz.prog Un := ct1 Vw 39 (.el Kd.poly) (fun (p : PolyD) => NPre p) (fun (p : PolyD) => eT .poly (normP p)) (fun p h => normP_c p h)

end Go.Proofs.YtfbmhjooliccnaaGreatDoor
end

section
namespace Go.Proofs.YtfbmhjooliccnaaGreatDoor
open Go Go.Ab

def KG (m : MatD) : Prop := m.kind = 3 ∨ m.kind = 4
theorem nm1 {m : MatD} (h : (m.kind == 1) = true) : nmM m = .mk 1 0 zP [] := by rw [nmM_eq, if_pos (by simpa using h)]
theorem nm2 {m : MatD} (h : (m.kind == 2) = true) : nmM m = .mk 2 (relN m.rel) (normP m.poly) [] := by
  have h : m.kind = 2 := by simpa using h
  rw [nmM_eq, if_neg (by omega), if_pos h]
theorem nm3 {m : MatD} (h : m.kind = 3 ∨ m.kind = 4) : nmM m = .mk m.kind 0 zP (m.kids.map nmM) := by rw [nmM_eq, if_neg (by omega), if_neg (by omega), if_pos h]
theorem nm0 {m : MatD} (h1 : (m.kind == 1) = false) (h2 : (m.kind == 2) = false) (h3 : (m.kind == 3) = false) (h4 : (m.kind == 4) = false) : nmM m = zM := by
  have h1 : m.kind ≠ 1 := by simpa using h1
  have h2 : m.kind ≠ 2 := by simpa using h2
  have h3 : m.kind ≠ 3 := by simpa using h3
  have h4 : m.kind ≠ 4 := by simpa using h4
  rw [nmM_eq, if_neg h1, if_neg h2, if_neg (by omega)]
theorem n1_0 {m : MatD} (h : (m.kind == 1) = true) : 1 = (nmM m).kind := by rw [nm1 h]; rfl
theorem n0_0 {m : MatD} (h1 : (m.kind == 1) = false) (h2 : (m.kind == 2) = false) (h3 : (m.kind == 3) = false) (h4 : (m.kind == 4) = false) : 0 = (nmM m).kind := by rw [nm0 h1 h2 h3 h4]; rfl
theorem n2_0 {m : MatD} (h : (m.kind == 2) = true) : 2 = (nmM m).kind := by rw [nm2 h]; rfl
theorem n3_0 {m : MatD} (h : KG m) : m.kind = (nmM m).kind := by rw [nm3 h]; rfl
theorem n1_1 {m : MatD} (h : (m.kind == 1) = true) : 0 = (nmM m).rel := by rw [nm1 h]; rfl
theorem n0_1 {m : MatD} (h1 : (m.kind == 1) = false) (h2 : (m.kind == 2) = false) (h3 : (m.kind == 3) = false) (h4 : (m.kind == 4) = false) : 0 = (nmM m).rel := by rw [nm0 h1 h2 h3 h4]; rfl
theorem n2_1a {m : MatD} (h : (m.kind == 2) = true) (hr : decide (m.rel < 1) = true) : 3 = (nmM m).rel := by rw [nm2 h]; simp only [decide_eq_true_eq] at hr; show 3 = relN m.rel; unfold relN; rw [if_pos (.inl hr)]
theorem n2_1b {m : MatD} (h : (m.kind == 2) = true) (hr : decide (6 < m.rel) = true) : 3 = (nmM m).rel := by rw [nm2 h]; simp only [decide_eq_true_eq] at hr; show 3 = relN m.rel; unfold relN; rw [if_pos (.inr hr)]
theorem n2_1c {m : MatD} (h : (m.kind == 2) = true) (hr : decide (m.rel < 1) = false) (hq : decide (6 < m.rel) = false) : m.rel = (nmM m).rel := by rw [nm2 h]; simp only [decide_eq_false_iff_not] at hr hq; show m.rel = relN m.rel; unfold relN; rw [if_neg (by omega)]
theorem n3_1 {m : MatD} (h : KG m) : 0 = (nmM m).rel := by rw [nm3 h]; rfl
theorem n1_2 {m : MatD} (h : (m.kind == 1) = true) : 0 = (nmM m).poly.level := by rw [nm1 h]; rfl
theorem n0_2 {m : MatD} (h1 : (m.kind == 1) = false) (h2 : (m.kind == 2) = false) (h3 : (m.kind == 3) = false) (h4 : (m.kind == 4) = false) : 0 = (nmM m).poly.level := by rw [nm0 h1 h2 h3 h4]; rfl
theorem n2_2 {m : MatD} (h : (m.kind == 2) = true) : (normP (.mk m.poly.level m.poly.neg m.poly.abs m.poly.coefs)).level = (nmM m).poly.level := by rw [nm2 h]; rw [eP_eq]; rfl
theorem n3_2 {m : MatD} (h : KG m) : 0 = (nmM m).poly.level := by rw [nm3 h]; rfl
theorem n1_3 {m : MatD} (h : (m.kind == 1) = true) : false = (nmM m).poly.neg := by rw [nm1 h]; rfl
theorem n0_3 {m : MatD} (h1 : (m.kind == 1) = false) (h2 : (m.kind == 2) = false) (h3 : (m.kind == 3) = false) (h4 : (m.kind == 4) = false) : false = (nmM m).poly.neg := by rw [nm0 h1 h2 h3 h4]; rfl
theorem n2_3 {m : MatD} (h : (m.kind == 2) = true) : (normP (.mk m.poly.level m.poly.neg m.poly.abs m.poly.coefs)).neg = (nmM m).poly.neg := by rw [nm2 h]; rw [eP_eq]; rfl
theorem n3_3 {m : MatD} (h : KG m) : false = (nmM m).poly.neg := by rw [nm3 h]; rfl
theorem n1_4 {m : MatD} (h : (m.kind == 1) = true) : (nmM m).poly.abs = [] := by rw [nm1 h]; rfl
theorem n0_4 {m : MatD} (h1 : (m.kind == 1) = false) (h2 : (m.kind == 2) = false) (h3 : (m.kind == 3) = false) (h4 : (m.kind == 4) = false) : (nmM m).poly.abs = [] := by rw [nm0 h1 h2 h3 h4]; rfl
theorem n2_4 {m : MatD} (h : (m.kind == 2) = true) : (normP (.mk m.poly.level m.poly.neg m.poly.abs m.poly.coefs)).abs = (nmM m).poly.abs := by rw [nm2 h]; rw [eP_eq]; rfl
theorem n3_4 {m : MatD} (h : KG m) : (nmM m).poly.abs = [] := by rw [nm3 h]; rfl
theorem n1_5 {m : MatD} (h : (m.kind == 1) = true) : (nmM m).poly.coefs = [] := by rw [nm1 h]; rfl
theorem n0_5 {m : MatD} (h1 : (m.kind == 1) = false) (h2 : (m.kind == 2) = false) (h3 : (m.kind == 3) = false) (h4 : (m.kind == 4) = false) : (nmM m).poly.coefs = [] := by rw [nm0 h1 h2 h3 h4]; rfl
theorem n2_5 {m : MatD} (h : (m.kind == 2) = true) : (normP (.mk m.poly.level m.poly.neg m.poly.abs m.poly.coefs)).coefs = (nmM m).poly.coefs := by rw [nm2 h]; rw [eP_eq]; rfl
theorem n3_5 {m : MatD} (h : KG m) : (nmM m).poly.coefs = [] := by rw [nm3 h]; rfl
theorem n1_6 {m : MatD} (h : (m.kind == 1) = true) : (nmM m).kids = [] := by rw [nm1 h]; rfl
theorem n0_6 {m : MatD} (h1 : (m.kind == 1) = false) (h2 : (m.kind == 2) = false) (h3 : (m.kind == 3) = false) (h4 : (m.kind == 4) = false) : (nmM m).kids = [] := by rw [nm0 h1 h2 h3 h4]; rfl
theorem n2_6 {m : MatD} (h : (m.kind == 2) = true) : (nmM m).kids = [] := by rw [nm2 h]; rfl
theorem n3_6 {m : MatD} (h : KG m) : m.kids.map nmM = (nmM m).kids := by rw [nm3 h]; rfl

@[irreducible] def kTo (m : MatD) (i : Nat) : List MatD := (m.kids.take i).map nmM
theorem kTo_0 (m : MatD) : kTo m 0 = [] := by unfold kTo; rfl
theorem kTo_0n (m : MatD) : (kTo m 0).length = 0 := by rw [kTo_0]; rfl
theorem kTo_n {m : MatD} {i : Nat} {c : MatD} (h : m.kids[((i : Nat) : Int).toNat]? = some c) : kTo m i ++ [nmM c] = kTo m (i + 1) := by
  rw [Int.toNat_natCast] at h
  unfold kTo
  rw [List.take_add_one, h, List.map_append]; rfl
theorem kTo_len (m : MatD) (i : Nat) : (kTo m i).length ≤ m.kids.length := by unfold kTo; simp; omega
theorem kTo_end {m : MatD} {i : Nat} (h : decide ((i : Int) < (m.kids.length : Int)) = false) : kTo m i = m.kids.map nmM := by
  simp only [decide_eq_false_iff_not] at h
  unfold kTo; rw [List.take_of_length_le (by omega)]
theorem kTo_fin {m : MatD} {i : Nat} (hk : KG m) (h : decide ((i : Int) < (m.kids.length : Int)) = false) : kTo m i = (nmM m).kids := by rw [kTo_end h]; exact n3_6 hk
theorem eqB {b : Bool} (h : b = !false) : b = true := h
theorem np_m {m : MatD} (h : MOK m) : NPre (.mk m.poly.level m.poly.neg m.poly.abs m.poly.coefs) := by rw [eP_eq]; exact h.np
@[reducible] def mkM (c : MatD) : MatD := .mk (nmM (.mk c.kind c.rel (.mk c.poly.level c.poly.neg c.poly.abs c.poly.coefs) c.kids)).kind (nmM (.mk c.kind c.rel (.mk c.poly.level c.poly.neg c.poly.abs c.poly.coefs) c.kids)).rel (.mk (nmM (.mk c.kind c.rel (.mk c.poly.level c.poly.neg c.poly.abs c.poly.coefs) c.kids)).poly.level (nmM (.mk c.kind c.rel (.mk c.poly.level c.poly.neg c.poly.abs c.poly.coefs) c.kids)).poly.neg (nmM (.mk c.kind c.rel (.mk c.poly.level c.poly.neg c.poly.abs c.poly.coefs) c.kids)).poly.abs (nmM (.mk c.kind c.rel (.mk c.poly.level c.poly.neg c.poly.abs c.poly.coefs) c.kids)).poly.coefs) (nmM (.mk c.kind c.rel (.mk c.poly.level c.poly.neg c.poly.abs c.poly.coefs) c.kids)).kids
theorem mkM_eq (c : MatD) : mkM c = nmM c := by unfold mkM; rw [eM_eq, eM_eq]
theorem kTo_s {m : MatD} {i : Nat} {c : MatD} (h : m.kids[((i : Nat) : Int).toNat]? = some c) : kTo m i ++ [mkM c] = kTo m (i + 1) := by rw [mkM_eq]; exact kTo_n h
theorem kTo_sn {m : MatD} {i : Nat} {c : MatD} (h : m.kids[((i : Nat) : Int).toNat]? = some c) : (kTo m i).length + [mkM c].length = (kTo m (i + 1)).length := by rw [← kTo_s h]; simp
theorem kb1 {m : MatD} (h : MOK m) (i : Nat) (x : MatD) : ((kTo m i).length + [x].length) * ti32.bys ≤ 140737488355328 := by
  have h1 := kTo_len m i
  have h2 := h.len
  have e : ti32.bys = 104 := rfl
  have e2 : [x].length = 1 := rfl
  rw [e, e2]; omega
theorem kb2 {m : MatD} (h : MOK m) (i : Nat) (x : MatD) : (kTo m i).length + [x].length ≤ 140737488355328 := by
  have h1 := kTo_len m i
  have h2 := h.len
  have e2 : [x].length = 1 := rfl
  rw [e2]; omega
theorem kg3 {m : MatD} (h : (m.kind == 3) = true) : KG m := .inl (by simpa using h)
theorem kg4 {m : MatD} (h : (m.kind == 4) = true) : KG m := .inr (by simpa using h)

end Go.Proofs.YtfbmhjooliccnaaGreatDoor
end

section
namespace Go.Proofs.YtfbmhjooliccnaaGreatDoor
open Go Go.Ab

set_option maxRecDepth 20000 in
set_option maxHeartbeats 4000000 in
theorem nmM_c (m : MatD) (hm : MOK m) : Pur Tryz.prog 15 [(wrP Vw (.el Kd.mat) m).den] (eT .mat (nmM m)).den := by
  generalize hD : SizeOf.sizeOf m = D
  induction D using Nat.strongRecOn generalizing m
  rename_i D ih
  subst hD
  refine vcF_ok (V := Vw) (reg := ⟨[ct_normP, ct1 Vw 15 (.el Kd.mat) (fun (q : MatD) => q ∈ m.kids) (fun (q : MatD) => eT .mat (nmM q)) (fun q h1 => ih _ (MatD.lt h1) q (hm.kid q h1) rfl)], []⟩) (ls := [(13, ⟨Nat, fun x => ⟨[(1, .e (.c (.ptr 0 0))), (2, .e (.c (.ptr 1 0))), (4, .e (.c (.ptr 2 0))), (34, iT m.kids.length), (35, iT x)], [(0, .cells ((kdRow .mat m).map .d)), (1, .cells ((kdRow .mat zM).map .d)), (2, .cells [.d (.sc (.int .i64 m.kind)), .d (.sc (.int .i64 0)), .d (.sc (.int .i64 0)), .d (.sc (.bool false)), .d (.sc (.slice none 0 0)), .d (.sc (.slice none 0 0)), .own 3 Kd.mat (kTo m x).length]), (3, .rows (U := Un) Kd.mat (kTo m x))], 4⟩, fun x => x ≤ m.kids.length ∧ KG m, fun x => m.kids.length - x⟩)]) mixed Tryz.func15 rfl (by kernel_rfl) (Nat.le_of_ble_eq_true rfl) (noNames rfl) (args := [(wrP Vw (.el Kd.mat) m)]) (r := eT .mat (nmM m)) ?_
  repeat' (first | intro _ | apply And.intro | refine Exists.intro 0 (And.intro ?_ fun (x : Nat) (hx : x ≤ m.kids.length ∧ KG m) => ?_) | refine Exists.intro (x + 1) ?_)
  all_goals clear ih
  all_goals first
    | exact True.intro
    | ((with_reducible show (_ && _) = true); kernel_rfl)
    | (with_reducible rfl)
    | (with_reducible exact np_m hm) | (with_reducible exact kTo_0 m) | (with_reducible exact kTo_0n m) | (with_reducible exact hx.2) | (with_reducible exact kb1 hm _ _) | (with_reducible exact kb2 hm _ _) | (with_reducible exact castS _)
    | (rename_i a b; exact absurd (a.symm.trans b) (by decide))
    | (rename_i h; first | with_reducible exact n1_0 h | with_reducible exact n1_1 h | with_reducible exact n1_2 h | with_reducible exact n1_3 h | with_reducible exact n1_4 h | with_reducible exact n1_5 h | with_reducible exact n1_6 h)
    | (rename_i h1 h2 h3 h4; first | with_reducible exact n0_0 h1 h2 h3 h4 | with_reducible exact n0_1 h1 h2 h3 h4 | with_reducible exact n0_2 h1 h2 h3 h4 | with_reducible exact n0_3 h1 h2 h3 h4 | with_reducible exact n0_4 h1 h2 h3 h4 | with_reducible exact n0_5 h1 h2 h3 h4 | with_reducible exact n0_6 h1 h2 h3 h4)
    | (rename_i h1 h2 h3 h4 _; first | with_reducible exact n0_0 h1 h2 h3 h4 | with_reducible exact n0_1 h1 h2 h3 h4 | with_reducible exact n0_2 h1 h2 h3 h4 | with_reducible exact n0_3 h1 h2 h3 h4 | with_reducible exact n0_4 h1 h2 h3 h4 | with_reducible exact n0_5 h1 h2 h3 h4 | with_reducible exact n0_6 h1 h2 h3 h4)
    | (rename_i hr; with_reducible exact n2_1a (by with_reducible assumption) hr)
    | (rename_i hr; with_reducible exact n2_1b (by with_reducible assumption) hr)
    | (rename_i hr _; with_reducible exact n2_1a (by with_reducible assumption) hr)
    | (rename_i hr _; with_reducible exact n2_1b (by with_reducible assumption) hr)
    | (rename_i hr; with_reducible exact n2_1a (by with_reducible assumption) (eqB hr))
    | (rename_i hr; with_reducible exact n2_1b (by with_reducible assumption) (eqB hr))
    | (rename_i hr hq; with_reducible exact n2_1c (by with_reducible assumption) hr hq)
    | (rename_i hr hq _; with_reducible exact n2_1c (by with_reducible assumption) hr hq)
    | (first | with_reducible exact n2_0 (by with_reducible assumption) | with_reducible exact n2_2 (by with_reducible assumption) | with_reducible exact n2_3 (by with_reducible assumption) | with_reducible exact n2_4 (by with_reducible assumption) | with_reducible exact n2_5 (by with_reducible assumption) | with_reducible exact n2_6 (by with_reducible assumption))
    | (first | with_reducible exact n3_0 hx.2 | with_reducible exact n3_1 hx.2 | with_reducible exact n3_2 hx.2 | with_reducible exact n3_3 hx.2 | with_reducible exact n3_4 hx.2 | with_reducible exact n3_5 hx.2)
    | (rename_i h; with_reducible exact kTo_fin hx.2 h)
    | (rename_i h; first | with_reducible exact MatD.at h | with_reducible exact kTo_s h | with_reducible exact kTo_sn h)
    | (first | with_reducible exact kg3 (by with_reducible assumption) | with_reducible exact kg4 (by with_reducible assumption))
    | (have := hm.len; omega)
    | (have := hm.len; (simp only [decide_eq_true_eq, decide_eq_false_iff_not] at *; omega))
    | (show m.kids.length - (x + 1) < m.kids.length - x; (simp only [decide_eq_true_eq, decide_eq_false_iff_not] at *; omega))
    | rfl
    | trace_state
def ct_nmM : Ct Tryz.prog Un := ct1 Vw 15 (.el Kd.mat) (fun (m : MatD) => MOK m) (fun (m : MatD) => eT .mat (nmM m)) (fun m h => nmM_c m h)

end Go.Proofs.YtfbmhjooliccnaaGreatDoor
end

section
namespace Go.Proofs.YtfbmhjooliccnaaGreatDoor
open Go Go.Ab

@[irreducible] def pTo (m : MatD) (i : Nat) : List PolyD := polMs (m.kids.take i)
theorem pTo_0 (m : MatD) : pTo m 0 = [] := by unfold pTo; rw [List.take_zero, polMs]
theorem pTo_0n (m : MatD) : (pTo m 0).length = 0 := by rw [pTo_0]; rfl
theorem pTo_n {m : MatD} {i : Nat} {c : MatD} (h : m.kids[((i : Nat) : Int).toNat]? = some c) : pTo m i ++ polM (.mk c.kind c.rel (.mk c.poly.level c.poly.neg c.poly.abs c.poly.coefs) c.kids) = pTo m (i + 1) := by
  rw [Int.toNat_natCast] at h
  unfold pTo
  rw [eM_eq, List.take_add_one, h, polMs_app]
  simp only [Option.toList_some]
  rw [polMs, polMs, List.append_nil]
theorem pTo_nn {m : MatD} {i : Nat} {c : MatD} (h : m.kids[((i : Nat) : Int).toNat]? = some c) : (pTo m i).length + (polM (.mk c.kind c.rel (.mk c.poly.level c.poly.neg c.poly.abs c.poly.coefs) c.kids)).length = (pTo m (i + 1)).length := by rw [← pTo_n h]; simp
theorem szMs_take : ∀ (l : List MatD) (i : Nat), szMs (l.take i) ≤ szMs l
  | [], i => by simp
  | m :: r, 0 => by rw [List.take_zero, szMs_nil]; omega
  | m :: r, i + 1 => by have := szMs_take r i; rw [List.take_succ_cons, szMs_cons, szMs_cons]; omega
theorem szM_kid {m c : MatD} (h : c ∈ m.kids) : szM c ≤ szM m := by
  rw [szM_eq m]
  obtain ⟨i, hi⟩ := List.getElem?_of_mem h
  have key : ∀ (l : List MatD) (i : Nat), l[i]? = some c → szM c ≤ szMs l := by
    intro l
    induction l with
    | nil => intro i h; simp at h
    | cons a r ih =>
      intro i h
      rw [szMs_cons]
      cases i with
      | zero => simp only [List.getElem?_cons_zero, Option.some.injEq] at h; subst h; omega
      | succ i => have := ih i (by simpa using h); omega
  have := key _ i hi
  omega
theorem pTo_len (m : MatD) (i : Nat) : (pTo m i).length ≤ szM m := by
  unfold pTo
  have h1 := pol_lens (m.kids.take i)
  have h2 := szMs_take m.kids i
  rw [szM_eq]; omega
theorem pb1 {m : MatD} (h : szM m ≤ 1000000) {i : Nat} {c : MatD} (hc : m.kids[((i : Nat) : Int).toNat]? = some c) : ((pTo m i).length + (polM (.mk c.kind c.rel (.mk c.poly.level c.poly.neg c.poly.abs c.poly.coefs) c.kids)).length) * ti29.bys ≤ 140737488355328 := by
  have h1 := pTo_len m (i + 1)
  rw [← pTo_n hc, List.length_append] at h1
  have e : ti29.bys = 64 := rfl
  rw [e]; omega
theorem pb2 {m : MatD} (h : szM m ≤ 1000000) {i : Nat} {c : MatD} (hc : m.kids[((i : Nat) : Int).toNat]? = some c) : (pTo m i).length + (polM (.mk c.kind c.rel (.mk c.poly.level c.poly.neg c.poly.abs c.poly.coefs) c.kids)).length ≤ 140737488355328 := by
  have h1 := pTo_len m (i + 1)
  rw [← pTo_n hc, List.length_append] at h1
  omega
theorem pA {m : MatD} (h : (m.kind == 2) = true) : [PolyD.mk m.poly.level m.poly.neg m.poly.abs m.poly.coefs] = polM m := by rw [polM_eq, if_pos (by simpa using h), eP_eq]
theorem pE {m : MatD} (h : (m.kind == 2) = false) {i : Nat} (hi : decide ((i : Int) < (m.kids.length : Int)) = false) : pTo m i = polM m := by
  simp only [decide_eq_false_iff_not] at hi
  rw [polM_eq, if_neg (by simpa using h)]
  unfold pTo; rw [List.take_of_length_le (by omega)]
@[irreducible] def SZ (m : MatD) : Prop := szM m ≤ 1000000
theorem SZ.le {m : MatD} (h : SZ m) : szM m ≤ 1000000 := by unfold SZ at h; exact h
theorem SZ.len {m : MatD} (h : SZ m) : m.kids.length ≤ 1000000 := by have := h.le; have := szMs_len m.kids; rw [szM_eq] at *; omega

set_option maxRecDepth 20000 in
set_option maxHeartbeats 4000000 in
theorem polM_c (m : MatD) (hm : SZ m) : Pur Tryz.prog 20 [(wrP Vw (.el Kd.mat) m).den] (lT .poly (polM m)).den := by
  generalize hD : SizeOf.sizeOf m = D
  induction D using Nat.strongRecOn generalizing m
  rename_i D ih
  subst hD
  have hk : ∀ c ∈ m.kids, SZ c := fun c hc => by have := szM_kid hc; have := hm.le; unfold SZ; omega
  refine vcF_ok (V := Vw) (reg := ⟨[ct1 Vw 20 (.el Kd.mat) (fun (q : MatD) => q ∈ m.kids) (fun (q : MatD) => lT .poly (polM q)) (fun q h1 => ih _ (MatD.lt h1) q (hk q h1) rfl)], []⟩) (ls := [(5, ⟨Nat, fun x => ⟨[(1, .e (.c (.ptr 0 0))), (3, .e (.c (.own 1 (U := Un) Kd.poly (pTo m x).length))), (13, iT m.kids.length), (14, iT x)], [(0, .cells ((kdRow .mat m).map .d)), (1, .rows (U := Un) Kd.poly (pTo m x))], 2⟩, fun x => x ≤ m.kids.length ∧ True, fun x => m.kids.length - x⟩)]) mixed Tryz.func20 rfl (by kernel_rfl) (Nat.le_of_ble_eq_true rfl) (noNames rfl) (args := [(wrP Vw (.el Kd.mat) m)]) (r := lT .poly (polM m)) ?_
  repeat' (first | intro _ | apply And.intro | refine Exists.intro 0 (And.intro ?_ fun (x : Nat) (hx : x ≤ m.kids.length ∧ True) => ?_) | refine Exists.intro (x + 1) ?_)
  all_goals clear ih hk
  all_goals first
    | exact True.intro
    | (with_reducible rfl)
    | (with_reducible exact pTo_0 m) | (with_reducible exact pTo_0n m) | (with_reducible exact castS _)
    | (rename_i h; first | with_reducible exact pA h | with_reducible exact MatD.at h | with_reducible exact pb1 hm.le h | with_reducible exact pb2 hm.le h | with_reducible exact pTo_n h | with_reducible exact pTo_nn h)
    | (rename_i h; with_reducible exact pE (by with_reducible assumption) h)
    | (have := hm.len; omega)
    | (have := hm.len; (simp only [decide_eq_true_eq, decide_eq_false_iff_not] at *; omega))
    | (show m.kids.length - (x + 1) < m.kids.length - x; (simp only [decide_eq_true_eq, decide_eq_false_iff_not] at *; omega))
    | trace_state
def ct_polM : Ct Tryz.prog Un := ct1 Vw 20 (.el Kd.mat) (fun (m : MatD) => SZ m) (fun (m : MatD) => lT .poly (polM m)) (fun m h => polM_c m h)

@[irreducible] def smP (p : PolyD) (d : Int) : Bool := fewP p 30 2 && lowP d (normP p)
theorem smP_1 {p : PolyD} {d : Int} (h : fewP (.mk p.level p.neg p.abs p.coefs) 30 2 = true) : lowP d (.mk (normP (.mk p.level p.neg p.abs p.coefs)).level (normP (.mk p.level p.neg p.abs p.coefs)).neg (normP (.mk p.level p.neg p.abs p.coefs)).abs (normP (.mk p.level p.neg p.abs p.coefs)).coefs) = smP p d := by
  rw [eP_eq] at h; rw [eP_eq, eP_eq]; unfold smP; rw [h]; rfl
theorem smP_2 {p : PolyD} {d : Int} (h : fewP (.mk p.level p.neg p.abs p.coefs) 30 2 = false) : false = smP p d := by
  rw [eP_eq] at h; unfold smP; rw [h]; rfl
theorem smP_2' {p : PolyD} {d : Int} (h : fewP (.mk p.level p.neg p.abs p.coefs) 30 2 = !true) : false = smP p d := smP_2 h
theorem smP_np {p : PolyD} (hd : DgP p) (h : fewP (.mk p.level p.neg p.abs p.coefs) 30 2 = true) : NPre (.mk p.level p.neg p.abs p.coefs) := by
  rw [eP_eq] at h ⊢; exact few_NPre (dg := 2) h hd (by omega) (by omega)

set_option maxRecDepth 20000 in
set_option maxHeartbeats 4000000 in
theorem smP_c (p : PolyD) (d : Int) (h : DgP p ∧ 0 ≤ d ∧ d ≤ 1000) : Pur Tryz.prog 29 [(wrP Vw (.el Kd.poly) p).den, (wrP Vw (.int .i64) d).den] (bT (smP p d)).den := by
  refine vcF_ok (V := Vw) (reg := ⟨[ct_fewPoly, ct_normP, ct_low], []⟩) (ls := []) mixed Tryz.func29 rfl (by kernel_rfl) (Nat.le_of_ble_eq_true rfl) (noNames rfl) (args := [(wrP Vw (.el Kd.poly) p), (wrP Vw (.int .i64) d)]) (r := bT (smP p d)) ?_
  obtain ⟨hg, h0, h1⟩ := h
  repeat' (first | intro _ | apply And.intro)
  all_goals first | exact True.intro | (with_reducible rfl) | (with_reducible exact h0) | (with_reducible exact h1) | decide | (rename_i h; first | with_reducible exact smP_np hg h | with_reducible exact smP_1 h | with_reducible exact smP_2 h | with_reducible exact smP_2' h) | trace_state
def ct_smP : Ct Tryz.prog Un := ct2 Vw 29 (.el Kd.poly) (.int .i64) (fun (p : PolyD) (d : Int) => DgP p ∧ 0 ≤ d ∧ d ≤ 1000) (fun (p : PolyD) (d : Int) => bT (smP p d)) (fun p d h => smP_c p d h)

@[irreducible] def smM (m : MatD) (n d : Int) : Bool := fewM m n && (polM (nmM m)).all fun p => smP p d
@[irreducible] def smTo (l : List PolyD) (d : Int) (i : Nat) : Prop := (l.take i).all (fun p => smP p d) = true
theorem smTo_0 (l : List PolyD) (d : Int) : smTo l d 0 := by unfold smTo; rfl
theorem smTo_n {l : List PolyD} {d : Int} {i : Nat} {p : PolyD} (h : smTo l d i) (hp : l[((i : Nat) : Int).toNat]? = some p) (hs : (!smP (.mk p.level p.neg p.abs p.coefs) d) = false) : smTo l d (i + 1) := by
  rw [Int.toNat_natCast] at hp
  rw [eP_eq] at hs
  unfold smTo at *
  rw [List.take_add_one, hp, List.all_append, h]
  simp only [Option.toList_some, List.all_cons, List.all_nil]
  simpa using hs
section
variable {m : MatD} {n d : Int}
@[reducible] def fM (m : MatD) : MatD := .mk m.kind m.rel (.mk m.poly.level m.poly.neg m.poly.abs m.poly.coefs) m.kids
@[reducible] def fN (m : MatD) : MatD := .mk (nmM (fM m)).kind (nmM (fM m)).rel (.mk (nmM (fM m)).poly.level (nmM (fM m)).poly.neg (nmM (fM m)).poly.abs (nmM (fM m)).poly.coefs) (nmM (fM m)).kids
theorem fM_eq (m : MatD) : fM m = m := eM_eq m
theorem fN_eq (m : MatD) : fN m = nmM m := by unfold fN; rw [fM_eq, eM_eq]
theorem smM_no (h : (!fewM (fM m) n) = true) : false = smM m n d := by
  rw [fM_eq] at h
  unfold smM
  have : fewM m n = false := by simpa using h
  rw [this]; rfl
theorem smM_bad {i : Nat} {p : PolyD} (hp : (polM (fN m))[((i : Nat) : Int).toNat]? = some p) (hs : (!smP (.mk p.level p.neg p.abs p.coefs) d) = true) : false = smM m n d := by
  rw [fN_eq] at hp
  rw [eP_eq] at hs
  unfold smM
  have : ((polM (nmM m)).all fun p => smP p d) = false := by
    rw [List.all_eq_false]
    exact ⟨p, List.mem_of_getElem? hp, by simpa using hs⟩
  rw [this, Bool.and_false]
theorem smM_yes (h : (!fewM (fM m) n) = false) {i : Nat} (hs : smTo (polM (fN m)) d i) (hi : decide ((i : Int) < ((polM (fN m)).length : Int)) = false) : true = smM m n d := by
  rw [fM_eq] at h
  rw [fN_eq] at hs hi
  simp only [decide_eq_false_iff_not] at hi
  unfold smTo at hs
  rw [List.take_of_length_le (by omega)] at hs
  unfold smM
  rw [hs]
  simpa using h.symm
theorem sm_mok (hn : n ≤ 1000000) (hd : DgM m) (h : (!fewM (fM m) n) = false) : MOK (fM m) := by
  rw [fM_eq] at h ⊢
  exact (fewM_ok hn (by simpa using h) hd).1
theorem sm_sz (hn : n ≤ 1000000) (hd : DgM m) (h : (!fewM (fM m) n) = false) : SZ (fN m) := by
  rw [fM_eq] at h
  rw [fN_eq]
  have := (fewM_ok hn (by simpa using h) hd).2
  have := nm_sz m
  unfold SZ; omega
theorem sm_dg (hn : n ≤ 1000000) (hd : DgM m) (h : (!fewM (fM m) n) = false) {i : Nat} {p : PolyD} (hp : (polM (fN m))[((i : Nat) : Int).toNat]? = some p) : DgP (.mk p.level p.neg p.abs p.coefs) := by
  rw [fM_eq] at h
  rw [fN_eq] at hp
  rw [eP_eq]
  exact pol_dg m (fewM_ok hn (by simpa using h) hd).1 p (List.mem_of_getElem? hp)
theorem sm_len (hn : n ≤ 1000000) (hd : DgM m) (h : (!fewM (fM m) n) = false) : (polM (fN m)).length ≤ 1000000 := by
  have h1 := (sm_sz hn hd h).le
  exact Nat.le_trans (pol_len _) h1
end

set_option maxRecDepth 20000 in
set_option maxHeartbeats 4000000 in
theorem smM_c (m : MatD) (n : Int) (d : Int) (h : DgM m ∧ 0 ≤ n ∧ n ≤ 1000000 ∧ 0 ≤ d ∧ d ≤ 1000) : Pur Tryz.prog 9 [(wrP Vw (.el Kd.mat) m).den, (wrP Vw (.int .i64) n).den, (wrP Vw (.int .i64) d).den] (bT (smM m n d)).den := by
  refine vcF_ok (V := Vw) (reg := ⟨[ct_few, ct_nmM, ct_polM, ct_smP], []⟩) (ls := [(5, ⟨Nat, fun x => ⟨[(2, iT d), (7, lT .poly (polM (fN m))), (17, iT (polM (fN m)).length), (18, iT x)], [], 0⟩, fun x => x ≤ (polM (fN m)).length ∧ (!fewM (fM m) n) = false ∧ smTo (polM (fN m)) d x, fun x => (polM (fN m)).length - x⟩)]) mixed Tryz.func9 rfl (by kernel_rfl) (Nat.le_of_ble_eq_true rfl) (noNames rfl) (args := [(wrP Vw (.el Kd.mat) m), (wrP Vw (.int .i64) n), (wrP Vw (.int .i64) d)]) (r := bT (smM m n d)) ?_
  obtain ⟨hg, h0, h1, h2, h3⟩ := h
  repeat' (first | intro _ | apply And.intro | refine Exists.intro 0 (And.intro ?_ fun (x : Nat) (hx : x ≤ (polM (fN m)).length ∧ (!fewM (fM m) n) = false ∧ smTo (polM (fN m)) d x) => ?_) | refine Exists.intro (x + 1) ?_)
  all_goals first
    | exact True.intro
    | (with_reducible rfl)
    | (with_reducible exact h0) | (with_reducible exact h1) | (with_reducible exact h2) | (with_reducible exact h3) | (with_reducible exact smTo_0 _ _) | (with_reducible exact castS _) | (with_reducible exact hx.2.1)
    | (rename_i h; first | with_reducible exact smM_no h | with_reducible exact sm_mok h1 hg h | with_reducible exact sm_sz h1 hg h | with_reducible exact h)
    | (rename_i h _; first | with_reducible exact sm_mok h1 hg h | with_reducible exact sm_sz h1 hg h | with_reducible exact h)
    | (rename_i h; first | with_reducible exact sm_dg h1 hg hx.2.1 h | with_reducible exact smM_yes hx.2.1 hx.2.2 h)
    | (rename_i hp h; first | with_reducible exact smM_bad hp h | with_reducible exact smTo_n hx.2.2 hp h)
    | (rename_i hp _ h; first | with_reducible exact smM_bad hp h | with_reducible exact smTo_n hx.2.2 hp h)
    | (have := sm_len h1 hg hx.2.1; omega)
    | (have := sm_len h1 hg hx.2.1; simp only [decide_eq_true_eq, decide_eq_false_iff_not] at *; omega)
    | (show (polM (fN m)).length - (x + 1) < (polM (fN m)).length - x; simp only [decide_eq_true_eq, decide_eq_false_iff_not] at *; omega)
    | omega
    | trace_state
def ct_smM : Ct Tryz.prog Un := ct3 Vw 9 (.el Kd.mat) (.int .i64) (.int .i64) (fun (m : MatD) (n : Int) (d : Int) => DgM m ∧ 0 ≤ n ∧ n ≤ 1000000 ∧ 0 ≤ d ∧ d ≤ 1000) (fun (m : MatD) (n : Int) (d : Int) => bT (smM m n d)) (fun m n d h => smM_c m n d h)

end Go.Proofs.YtfbmhjooliccnaaGreatDoor
end

section
namespace Go.Proofs.YtfbmhjooliccnaaGreatDoor
open Go Go.Ab

@[irreducible] def lvTo (l : List PolyD) (i : Nat) : Int := mxL (l.take i)
theorem lvTo_0 (l : List PolyD) : 0 = lvTo l 0 := by unfold lvTo; rw [List.take_zero]; rfl
theorem lvTo_n {l : List PolyD} {i : Nat} {p : PolyD} (h : l[((i : Nat) : Int).toNat]? = some p) : max (lvTo l i) p.level = lvTo l (i + 1) := by
  rw [Int.toNat_natCast] at h
  unfold lvTo
  rw [List.take_add_one, h, mxL_app]
  have := mxL_pos (l.take i)
  simp only [Option.toList_some, mxL]
  omega
theorem lvTo_e {m : MatD} {i : Nat} (h : decide ((i : Int) < ((polM (fM m)).length : Int)) = false) : lvTo (polM (fM m)) i = levM m := by
  simp only [decide_eq_false_iff_not] at h
  rw [fM_eq] at *
  unfold lvTo levM; rw [List.take_of_length_le (by omega)]
theorem sz_f {m : MatD} (h : SZ m) : SZ (fM m) := by rw [fM_eq]; exact h
theorem sz_fl {m : MatD} (h : SZ m) : (polM (fM m)).length ≤ 1000000 := Nat.le_trans (pol_len _) (sz_f h).le

set_option maxRecDepth 20000 in
set_option maxHeartbeats 4000000 in
theorem levM_c (m : MatD) (h : SZ m) : Pur Tryz.prog 41 [(wrP Vw (.el Kd.mat) m).den] (iT (levM m)).den := by
  refine vcF_ok (V := Vw) (reg := ⟨[ct_polM], []⟩) (ls := [(4, ⟨Nat, fun x => ⟨[(3, iT (lvTo (polM (fM m)) x)), (4, lT .poly (polM (fM m))), (9, iT (polM (fM m)).length), (10, iT x)], [], 0⟩, fun x => x ≤ (polM (fM m)).length ∧ True, fun x => (polM (fM m)).length - x⟩)]) mixed Tryz.func41 rfl (by kernel_rfl) (Nat.le_of_ble_eq_true rfl) (noNames rfl) (args := [(wrP Vw (.el Kd.mat) m)]) (r := iT (levM m)) ?_
  repeat' (first | intro _ | apply And.intro | refine Exists.intro 0 (And.intro ?_ fun (x : Nat) (hx : x ≤ (polM (fM m)).length ∧ True) => ?_) | refine Exists.intro (x + 1) ?_)
  all_goals first
    | exact True.intro
    | (with_reducible rfl)
    | (with_reducible exact sz_f h) | (with_reducible exact lvTo_0 _) | (with_reducible exact castS _)
    | (rename_i h; first | with_reducible exact lvTo_n h | with_reducible exact lvTo_e h)
    | (have := sz_fl h; omega)
    | (have := sz_fl h; simp only [decide_eq_true_eq, decide_eq_false_iff_not] at *; omega)
    | (show (polM (fM m)).length - (x + 1) < (polM (fM m)).length - x; simp only [decide_eq_true_eq, decide_eq_false_iff_not] at *; omega)
    | trace_state
def ct_levM : Ct Tryz.prog Un := ct1 Vw 41 (.el Kd.mat) (fun (m : MatD) => SZ m) (fun (m : MatD) => iT (levM m)) (fun m h => levM_c m h)

def kd (m : MatD) : Int := if m.kind < 0 ∨ 4 < m.kind then 0 else m.kind
theorem kd_1 {m : MatD} (h : decide (m.kind < 0) = true) : 0 = kd m := by unfold kd; rw [if_pos (.inl (by simpa using h))]
theorem kd_2 {m : MatD} (h : decide (4 < m.kind) = true) : 0 = kd m := by unfold kd; rw [if_pos (.inr (by simpa using h))]
theorem kd_3 {m : MatD} (h : decide (m.kind < 0) = false) (h2 : decide (4 < m.kind) = false) : m.kind = kd m := by
  simp only [decide_eq_false_iff_not] at h h2
  unfold kd; rw [if_neg (by omega)]

set_option maxRecDepth 20000 in
set_option maxHeartbeats 4000000 in
theorem kd_c (m : MatD)  : Pur Tryz.prog 68 [(wrP Vw (.el Kd.mat) m).den] (iT (kd m)).den := by
  refine vcF_ok (V := Vw) (reg := ⟨[], []⟩) (ls := []) mixed Tryz.func68 rfl (by kernel_rfl) (Nat.le_of_ble_eq_true rfl) (noNames rfl) (args := [(wrP Vw (.el Kd.mat) m)]) (r := iT (kd m)) ?_
  repeat' (first | intro _ | apply And.intro)
  all_goals first | exact True.intro | (with_reducible rfl) | (rename_i h; first | with_reducible exact kd_1 h | with_reducible exact kd_2 h | with_reducible exact kd_1 (eqB h) | with_reducible exact kd_2 (eqB h)) | (rename_i h h2; with_reducible exact kd_3 h h2) | trace_state
def ct_kd : Ct Tryz.prog Un := ct1 Vw 68 (.el Kd.mat) (fun (m : MatD) => True) (fun (m : MatD) => iT (kd m)) (fun m h => kd_c m )

theorem ml_1 {p : PolyD} : (normP (.mk p.level p.neg p.abs p.coefs)).level = (normP p).level := by rw [eP_eq]

set_option maxRecDepth 20000 in
set_option maxHeartbeats 4000000 in
theorem mlev_c (p : PolyD) (hp : NPre p) : Pur Tryz.prog 134 [(wrP Vw (.el Kd.poly) p).den] (iT (normP p).level).den := by
  refine vcF_ok (V := Vw) (reg := ⟨[ct_normP], []⟩) (ls := []) mixed Tryz.func134 rfl (by kernel_rfl) (Nat.le_of_ble_eq_true rfl) (noNames rfl) (args := [(wrP Vw (.el Kd.poly) p)]) (r := iT (normP p).level) ?_
  repeat' (first | intro _ | apply And.intro)
  all_goals first | exact True.intro | (with_reducible rfl) | (with_reducible exact np5 hp) | (with_reducible exact ml_1) | trace_state
def ct_mlev : Ct Tryz.prog Un := ct1 Vw 134 (.el Kd.poly) (fun (p : PolyD) => NPre p) (fun (p : PolyD) => iT (normP p).level) (fun p h => mlev_c p h)

@[irreducible] def plTo (m : MatD) (i : Nat) : Int := plMs (m.kids.take i)
theorem plTo_0 (m : MatD) : 0 = plTo m 0 := by unfold plTo; rw [List.take_zero, plMs]
theorem plMs_app : ∀ (a b : List MatD), plMs (a ++ b) = max (plMs a) (plMs b)
  | [], b => by have := plMs_pos b; rw [List.nil_append]; simp only [plMs]; omega
  | p :: a, b => by rw [List.cons_append, plMs, plMs, plMs_app a b]; omega
theorem plTo_n {m : MatD} {i : Nat} {c : MatD} (h : m.kids[((i : Nat) : Int).toNat]? = some c) : max (plTo m i) (plM (fM c)) = plTo m (i + 1) := by
  rw [fM_eq]
  rw [Int.toNat_natCast] at h
  unfold plTo
  rw [List.take_add_one, h, plMs_app]
  have := plMs_pos (m.kids.take i)
  simp only [Option.toList_some, plMs]
  omega
theorem kdf (m : MatD) : kd (fM m) = kd m := by rw [fM_eq]
theorem pl_2 {m : MatD} (h : (kd (fM m) == 2) = true) : (normP (.mk m.poly.level m.poly.neg m.poly.abs m.poly.coefs)).level = plM m := by
  rw [kdf] at h
  have h : kd m = 2 := by simpa using h
  unfold kd at h
  rw [eP_eq, plM_eq]
  split at h
  · omega
  · rw [if_pos h]
theorem pl_3 {m : MatD} (h : (kd (fM m) == 3) = true ∨ (kd (fM m) == 4) = true) {i : Nat} (hi : decide ((i : Int) < (m.kids.length : Int)) = false) : plTo m i = plM m := by
  rw [kdf] at h
  have h : kd m = 3 ∨ kd m = 4 := by simpa using h
  simp only [decide_eq_false_iff_not] at hi
  unfold kd at h
  rw [plM_eq]
  split at h
  · omega
  · rw [if_neg (by omega), if_pos h]
    unfold plTo; rw [List.take_of_length_le (by omega)]
theorem pl_0 {m : MatD} (h2 : (kd (fM m) == 2) = false) (h3 : (kd (fM m) == 3) = false) (h4 : (kd (fM m) == 4) = false) : 0 = plM m := by
  rw [kdf] at h2 h3 h4
  have h2 : kd m ≠ 2 := by simpa using h2
  have h3 : kd m ≠ 3 := by simpa using h3
  have h4 : kd m ≠ 4 := by simpa using h4
  unfold kd at h2 h3 h4
  rw [plM_eq]
  split at h2
  · rw [if_neg (by omega), if_neg (by omega)]
  · rename_i hc
    rw [if_neg hc] at h3 h4
    rw [if_neg h2, if_neg (by omega)]
def KQ (m : MatD) : Prop := (kd (fM m) == 3) = true ∨ (kd (fM m) == 4) = true
theorem kq3 {m : MatD} (h : (kd (fM m) == 3) = true) : KQ m := .inl h
theorem kq4 {m : MatD} (h : (kd (fM m) == 4) = true) : KQ m := .inr h
theorem pl_3' {m : MatD} (h : KQ m) {i : Nat} (hi : decide ((i : Int) < (m.kids.length : Int)) = false) : plTo m i = plM m := pl_3 h hi
set_option maxRecDepth 20000 in
set_option maxHeartbeats 4000000 in
theorem plM_c (m : MatD) (hm : MOK m) : Pur Tryz.prog 85 [(wrP Vw (.el Kd.mat) m).den] (iT (plM m)).den := by
  generalize hD : SizeOf.sizeOf m = D
  induction D using Nat.strongRecOn generalizing m
  rename_i D ih
  subst hD
  refine vcF_ok (V := Vw) (reg := ⟨[ct_kd, ct_mlev, ct1 Vw 85 (.el Kd.mat) (fun (q : MatD) => q ∈ m.kids) (fun (q : MatD) => iT (plM q)) (fun q h1 => ih _ (MatD.lt h1) q (hm.kid q h1) rfl)], []⟩) (ls := [(8, ⟨Nat, fun x => ⟨[(3, iT (plTo m x)), (17, lT .mat m.kids), (18, iT m.kids.length), (19, iT x)], [], 0⟩, fun x => x ≤ m.kids.length ∧ KQ m, fun x => m.kids.length - x⟩)]) mixed Tryz.func85 rfl (by kernel_rfl) (Nat.le_of_ble_eq_true rfl) (noNames rfl) (args := [(wrP Vw (.el Kd.mat) m)]) (r := iT (plM m)) ?_
  repeat' (first | intro _ | apply And.intro | refine Exists.intro 0 (And.intro ?_ fun (x : Nat) (hx : x ≤ m.kids.length ∧ KQ m) => ?_) | refine Exists.intro (x + 1) ?_)
  all_goals clear ih
  all_goals first
    | exact True.intro
    | (with_reducible rfl)
    | (with_reducible exact np_m hm) | (with_reducible exact plTo_0 m) | (with_reducible exact castS _) | (with_reducible exact hx.2)
    | (rename_i a b; exact absurd (a.symm.trans b) (by decide))
    | (rename_i h; first | with_reducible exact pl_2 h | with_reducible exact MatD.at h | with_reducible exact plTo_n h | with_reducible exact pl_3' hx.2 h)
    | (rename_i h2 h3 h4; with_reducible exact pl_0 h2 h3 h4)
    | (rename_i h2 h3 h4 _; with_reducible exact pl_0 h2 h3 h4)
    | (first | with_reducible exact kq3 (by with_reducible assumption) | with_reducible exact kq4 (by with_reducible assumption))
    | (have := hm.len; omega)
    | (have := hm.len; (simp only [decide_eq_true_eq, decide_eq_false_iff_not] at *; omega))
    | (show m.kids.length - (x + 1) < m.kids.length - x; (simp only [decide_eq_true_eq, decide_eq_false_iff_not] at *; omega))
    | trace_state
def ct_plM : Ct Tryz.prog Un := ct1 Vw 85 (.el Kd.mat) (fun (m : MatD) => MOK m) (fun (m : MatD) => iT (plM m)) (fun m h => plM_c m h)

end Go.Proofs.YtfbmhjooliccnaaGreatDoor
end
