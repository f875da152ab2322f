/- Contracts: sameness of polynomials. No condition. Contracts: equality of matrices. No condition. Plain: sums of terms collected by their monomials. No condition. Contracts: the collecting of terms. No condition. Contracts: comparing monomials. No condition. Contracts: the terms of a polynomial. No condition. Contracts: collect. No condition. -/
import Derived.Test.YtfbmhjooliccnaaGreatDoorPh
set_option linter.all false

section
namespace Go.Proofs.YtfbmhjooliccnaaGreatDoor
open Go Go.Ab

mutual
def sameP : PolyD → PolyD → Bool
  | .mk l n a cs, .mk l' n' a' cs' => decide (l = l') && sameI ⟨n, a⟩ ⟨n', a'⟩ && sameQ cs cs'
def sameQ : List PolyD → List PolyD → Bool
  | [], [] => true
  | p :: ps, q :: qs => sameP p q && sameQ ps qs
  | [], _ :: _ => false
  | _ :: _, [] => false
end
theorem sameP_eq (p q : PolyD) : sameP p q = (decide (p.level = q.level) && sameI ⟨p.neg, p.abs⟩ ⟨q.neg, q.abs⟩ && sameQ p.coefs q.coefs) := by
  cases p; cases q; rw [sameP]; rfl
theorem sameQ_len : ∀ {ps qs : List PolyD}, sameQ ps qs = true → ps.length = qs.length
  | [], [], _ => rfl
  | p :: ps, q :: qs, h => by rw [sameQ, Bool.and_eq_true] at h; rw [List.length_cons, List.length_cons, sameQ_len h.2]
  | [], _ :: _, h => by rw [sameQ] at h; cases h
  | _ :: _, [], h => by rw [sameQ] at h; cases h
theorem sameQ_at : ∀ {ps qs : List PolyD} {i : Nat} {p q : PolyD}, sameQ ps qs = true → ps[i]? = some p → qs[i]? = some q → sameP p q = true
  | [], _, _, _, _, _, h, _ => by simp at h
  | _ :: _, [], _, _, _, h, _, _ => by rw [sameQ] at h; cases h
  | p :: ps, q :: qs, 0, _, _, h, h1, h2 => by
    rw [sameQ, Bool.and_eq_true] at h
    simp at h1 h2
    subst h1; subst h2; exact h.1
  | p :: ps, q :: qs, i + 1, _, _, h, h1, h2 => by
    rw [sameQ, Bool.and_eq_true] at h
    exact sameQ_at h.2 (by simpa using h1) (by simpa using h2)
theorem sameQ_take : ∀ {ps qs : List PolyD} {i : Nat} {p q : PolyD}, sameQ (ps.take i) (qs.take i) = true → ps[i]? = some p → qs[i]? = some q → sameP p q = true → sameQ (ps.take (i + 1)) (qs.take (i + 1)) = true
  | [], _, _, _, _, _, h, _, _ => by simp at h
  | _ :: _, [], _, _, _, _, _, h, _ => by simp at h
  | p :: ps, q :: qs, 0, _, _, _, h1, h2, h3 => by
    simp at h1 h2
    subst h1; subst h2
    rw [List.take_succ_cons, List.take_succ_cons, sameQ, h3, List.take_zero, List.take_zero, sameQ]; rfl
  | p :: ps, q :: qs, i + 1, _, _, h, h1, h2, h3 => by
    rw [List.take_succ_cons, List.take_succ_cons, sameQ, Bool.and_eq_true] at h
    rw [List.take_succ_cons, List.take_succ_cons, sameQ, Bool.and_eq_true]
    exact ⟨h.1, sameQ_take h.2 (by simpa using h1) (by simpa using h2) h3⟩
theorem eP_eq (p : PolyD) : PolyD.mk p.level p.neg p.abs p.coefs = p := by cases p; rfl
theorem sameP_f1 {p q : PolyD} (h : (p.level != q.level) = true) : false = sameP p q := by
  rw [sameP_eq, decide_eq_false (by simpa using h)]; rfl
theorem sameP_f2 {p q : PolyD} (h : ((p.coefs.length : Int) != (q.coefs.length : Int)) = true) : false = sameP p q := by
  cases e : sameP p q with
  | false => rfl
  | true =>
    rw [sameP_eq, Bool.and_eq_true] at e
    rw [sameQ_len e.2] at h
    simp at h
theorem sameP_f3 {p q : PolyD} (h : (!sameI ⟨p.neg, p.abs⟩ ⟨q.neg, q.abs⟩) = true) : false = sameP p q := by
  have h : sameI ⟨p.neg, p.abs⟩ ⟨q.neg, q.abs⟩ = false := by simpa using h
  rw [sameP_eq, h, Bool.and_false, Bool.false_and]
theorem sameP_f4 {p q x y : PolyD} {i : Nat} (h1 : p.coefs[((i : Nat) : Int).toNat]? = some x) (h2 : q.coefs[((i : Nat) : Int).toNat]? = some y) (h : (!sameP (.mk x.level x.neg x.abs x.coefs) (.mk y.level y.neg y.abs y.coefs)) = true) : false = sameP p q := by
  rw [eP_eq, eP_eq] at h
  cases e : sameP p q with
  | false => rfl
  | true =>
    rw [sameP_eq, Bool.and_eq_true] at e
    rw [sameQ_at e.2 h1 h2] at h
    cases h
theorem sameP_step {p q x y : PolyD} {i : Nat} (h0 : sameQ (p.coefs.take i) (q.coefs.take i) = true) (h1 : p.coefs[((i : Nat) : Int).toNat]? = some x) (h2 : q.coefs[((i : Nat) : Int).toNat]? = some y) (h : (!sameP (.mk x.level x.neg x.abs x.coefs) (.mk y.level y.neg y.abs y.coefs)) = false) : sameQ (p.coefs.take (i + 1)) (q.coefs.take (i + 1)) = true := by
  rw [eP_eq, eP_eq] at h
  rw [Int.toNat_natCast] at h1 h2
  exact sameQ_take h0 h1 h2 (by simpa using h)
theorem sameP_end {p q : PolyD} {i : Nat} (hx : i ≤ p.coefs.length ∧ p.level = q.level ∧ p.coefs.length = q.coefs.length ∧ sameI ⟨p.neg, p.abs⟩ ⟨q.neg, q.abs⟩ = true ∧ sameQ (p.coefs.take i) (q.coefs.take i) = true) (h : decide ((i : Int) < (p.coefs.length : Int)) = false) : true = sameP p q := by
  obtain ⟨h1, h2, h3, h4, h5⟩ := hx
  have e : i = p.coefs.length := by simp only [decide_eq_false_iff_not] at h; omega
  subst e
  rw [List.take_length, h3, List.take_length] at h5
  rw [sameP_eq, h4, h5, decide_eq_true h2]; rfl
theorem sameP_mem {p x : PolyD} {i : Nat} (h1 : p.coefs[((i : Nat) : Int).toNat]? = some x) : PolyD.mk x.level x.neg x.abs x.coefs ∈ p.coefs := by rw [eP_eq]; exact List.mem_of_getElem? h1
theorem neE {a b : Int} (h : (a != b) = false) : a = b := by simpa using h
theorem notE {a : Bool} (h : (!a) = false) : a = true := by simpa using h

set_option maxRecDepth 20000 in
set_option maxHeartbeats 4000000 in
theorem sameP_c (p : PolyD) (q : PolyD)  : Pur Tryz.prog 43 [(wrP Vw (.el Kd.poly) p).den, (wrP Vw (.el Kd.poly) q).den] (bT (sameP p q)).den := by
  generalize hD : SizeOf.sizeOf p = D
  induction D using Nat.strongRecOn generalizing p q
  rename_i D ih
  subst hD
  refine vcF_ok (V := Vw) (reg := ⟨[ct_sameI, ct2 Vw 43 (.el Kd.poly) (.el Kd.poly) (fun (x : PolyD) (_ : PolyD) => x ∈ p.coefs) (fun (x : PolyD) (y : PolyD) => bT (sameP x y)) (fun x y h1 => ih _ (PolyD.lt h1) x y rfl)], []⟩) (ls := [(4, ⟨Nat, fun i => ⟨[(2, .e (.c (.ptr 0 0))), (3, .e (.c (.ptr 1 0))), (30, iT p.coefs.length), (31, iT i)], [(0, .cells [.d (.sc (.int .i64 p.level)), .d (.prp p.neg), .d (.lst (U := Un) Kd.u32 p.abs), .d (.lst (U := Un) Kd.poly p.coefs)]), (1, .cells [.d (.sc (.int .i64 q.level)), .d (.prp q.neg), .d (.lst (U := Un) Kd.u32 q.abs), .d (.lst (U := Un) Kd.poly q.coefs)])], 2⟩, fun i => i ≤ p.coefs.length ∧ p.level = q.level ∧ p.coefs.length = q.coefs.length ∧ sameI ⟨p.neg, p.abs⟩ ⟨q.neg, q.abs⟩ = true ∧ sameQ (p.coefs.take i) (q.coefs.take i) = true, fun i => p.coefs.length - i⟩)]) mixed Tryz.func43 rfl (by kernel_rfl) (Nat.le_of_ble_eq_true rfl) (noNames rfl) (args := [(wrP Vw (.el Kd.poly) p), (wrP Vw (.el Kd.poly) q)]) (r := bT (sameP p q)) ?_
  repeat' (first | intro _ | apply And.intro | refine Exists.intro 0 (And.intro ?_ fun (i : Nat) (hx : i ≤ p.coefs.length ∧ p.level = q.level ∧ p.coefs.length = q.coefs.length ∧ sameI ⟨p.neg, p.abs⟩ ⟨q.neg, q.abs⟩ = true ∧ sameQ (p.coefs.take i) (q.coefs.take i) = true) => ?_) | refine Exists.intro (i + 1) ?_)
  all_goals clear ih
  all_goals first | exact True.intro | rfl | ((with_reducible show (_ && _) = true); kernel_rfl) | (with_reducible exact hx.2.2.2.1) | (with_reducible exact sameP_end hx (by assumption)) | (rename_i h; exact sameP_f1 (h : (p.level != q.level) = !false)) | (rename_i h; exact sameP_f2 (h : ((p.coefs.length : Int) != (q.coefs.length : Int)) = !false)) | (with_reducible exact sameP_f3 (by assumption)) | (with_reducible exact notE (by assumption)) | (with_reducible exact neE (by assumption)) | (exact Int.ofNat_inj.1 (neE (by with_reducible assumption))) | (rename_i h1 _ h2; exact sameP_mem h1) | (rename_i h1 _ h2 h3; with_reducible exact sameP_f4 h1 h2 h3) | (rename_i h1 _ h2 h3; with_reducible exact sameP_step hx.2.2.2.2 h1 h2 h3) | omega | (simp only [decide_eq_true_eq, decide_eq_false_iff_not] at *; omega) | (show p.coefs.length - (i + 1) < p.coefs.length - i; (simp only [decide_eq_true_eq, decide_eq_false_iff_not] at *; omega))
def ct_sameP : Ct Tryz.prog Un := ct2 Vw 43 (.el Kd.poly) (.el Kd.poly) (fun (p : PolyD) (q : PolyD) => True) (fun (p : PolyD) (q : PolyD) => bT (sameP p q)) (fun p q h => sameP_c p q )

end Go.Proofs.YtfbmhjooliccnaaGreatDoor
end

section
namespace Go.Proofs.YtfbmhjooliccnaaGreatDoor
open Go Go.Ab

mutual
def sameM : MatD → MatD → Bool
  | .mk k r p cs, .mk k' r' p' cs' => decide (k = k') && decide (r = r') && sameP p p' && sameN cs cs'
def sameN : List MatD → List MatD → Bool
  | [], [] => true
  | p :: ps, q :: qs => sameM p q && sameN ps qs
  | [], _ :: _ => false
  | _ :: _, [] => false
end
theorem sameM_eq (p q : MatD) : sameM p q = (decide (p.kind = q.kind) && decide (p.rel = q.rel) && sameP p.poly q.poly && sameN p.kids q.kids) := by
  cases p; cases q; rw [sameM]; rfl
theorem sameN_len : ∀ {ps qs : List MatD}, sameN ps qs = true → ps.length = qs.length
  | [], [], _ => rfl
  | p :: ps, q :: qs, h => by rw [sameN, Bool.and_eq_true] at h; rw [List.length_cons, List.length_cons, sameN_len h.2]
  | [], _ :: _, h => by rw [sameN] at h; cases h
  | _ :: _, [], h => by rw [sameN] at h; cases h
theorem sameN_at : ∀ {ps qs : List MatD} {i : Nat} {p q : MatD}, sameN ps qs = true → ps[i]? = some p → qs[i]? = some q → sameM p q = true
  | [], _, _, _, _, _, h, _ => by simp at h
  | _ :: _, [], _, _, _, h, _, _ => by rw [sameN] at h; cases h
  | p :: ps, q :: qs, 0, _, _, h, h1, h2 => by
    rw [sameN, Bool.and_eq_true] at h
    simp at h1 h2
    subst h1; subst h2; exact h.1
  | p :: ps, q :: qs, i + 1, _, _, h, h1, h2 => by
    rw [sameN, Bool.and_eq_true] at h
    exact sameN_at h.2 (by simpa using h1) (by simpa using h2)
theorem sameN_take : ∀ {ps qs : List MatD} {i : Nat} {p q : MatD}, sameN (ps.take i) (qs.take i) = true → ps[i]? = some p → qs[i]? = some q → sameM p q = true → sameN (ps.take (i + 1)) (qs.take (i + 1)) = true
  | [], _, _, _, _, _, h, _, _ => by simp at h
  | _ :: _, [], _, _, _, _, _, h, _ => by simp at h
  | p :: ps, q :: qs, 0, _, _, _, h1, h2, h3 => by
    simp at h1 h2
    subst h1; subst h2
    rw [List.take_succ_cons, List.take_succ_cons, sameN, h3, List.take_zero, List.take_zero, sameN]; rfl
  | p :: ps, q :: qs, i + 1, _, _, h, h1, h2, h3 => by
    rw [List.take_succ_cons, List.take_succ_cons, sameN, Bool.and_eq_true] at h
    rw [List.take_succ_cons, List.take_succ_cons, sameN, Bool.and_eq_true]
    exact ⟨h.1, sameN_take h.2 (by simpa using h1) (by simpa using h2) h3⟩
theorem eM_eq (p : MatD) : MatD.mk p.kind p.rel (PolyD.mk p.poly.level p.poly.neg p.poly.abs p.poly.coefs) p.kids = p := by rw [eP_eq]; cases p; rfl
theorem sameM_f1 {p q : MatD} (h : (p.kind != q.kind) = true) : false = sameM p q := by
  rw [sameM_eq, decide_eq_false (by simpa using h)]; rfl
theorem sameM_f0 {p q : MatD} (h : (p.rel != q.rel) = true) : false = sameM p q := by
  rw [sameM_eq, decide_eq_false (p := p.rel = q.rel) (by simpa using h), Bool.and_false]; rfl
theorem sameM_f2 {p q : MatD} (h : ((p.kids.length : Int) != (q.kids.length : Int)) = true) : false = sameM p q := by
  cases e : sameM p q with
  | false => rfl
  | true =>
    rw [sameM_eq, Bool.and_eq_true] at e
    rw [sameN_len e.2] at h
    simp at h
theorem sameM_f3 {p q : MatD} (h : (!sameP (.mk p.poly.level p.poly.neg p.poly.abs p.poly.coefs) (.mk q.poly.level q.poly.neg q.poly.abs q.poly.coefs)) = true) : false = sameM p q := by
  rw [eP_eq, eP_eq] at h
  have h : sameP p.poly q.poly = false := by simpa using h
  rw [sameM_eq, h, Bool.and_false, Bool.false_and]
theorem sameM_f4 {p q x y : MatD} {i : Nat} (h1 : p.kids[((i : Nat) : Int).toNat]? = some x) (h2 : q.kids[((i : Nat) : Int).toNat]? = some y) (h : (!sameM (.mk x.kind x.rel (.mk x.poly.level x.poly.neg x.poly.abs x.poly.coefs) x.kids) (.mk y.kind y.rel (.mk y.poly.level y.poly.neg y.poly.abs y.poly.coefs) y.kids)) = true) : false = sameM p q := by
  rw [eM_eq, eM_eq] at h
  cases e : sameM p q with
  | false => rfl
  | true =>
    rw [sameM_eq, Bool.and_eq_true] at e
    rw [sameN_at e.2 h1 h2] at h
    cases h
theorem sameM_step {p q x y : MatD} {i : Nat} (h0 : sameN (p.kids.take i) (q.kids.take i) = true) (h1 : p.kids[((i : Nat) : Int).toNat]? = some x) (h2 : q.kids[((i : Nat) : Int).toNat]? = some y) (h : (!sameM (.mk x.kind x.rel (.mk x.poly.level x.poly.neg x.poly.abs x.poly.coefs) x.kids) (.mk y.kind y.rel (.mk y.poly.level y.poly.neg y.poly.abs y.poly.coefs) y.kids)) = false) : sameN (p.kids.take (i + 1)) (q.kids.take (i + 1)) = true := by
  rw [eM_eq, eM_eq] at h
  rw [Int.toNat_natCast] at h1 h2
  exact sameN_take h0 h1 h2 (by simpa using h)
theorem sameM_end {p q : MatD} {i : Nat} (hx : i ≤ p.kids.length ∧ p.kind = q.kind ∧ p.rel = q.rel ∧ p.kids.length = q.kids.length ∧ sameP (.mk p.poly.level p.poly.neg p.poly.abs p.poly.coefs) (.mk q.poly.level q.poly.neg q.poly.abs q.poly.coefs) = true ∧ sameN (p.kids.take i) (q.kids.take i) = true) (h : decide ((i : Int) < (p.kids.length : Int)) = false) : true = sameM p q := by
  obtain ⟨h1, h2, h6, h3, h4, h5⟩ := hx
  have e : i = p.kids.length := by simp only [decide_eq_false_iff_not] at h; omega
  subst e
  rw [List.take_length, h3, List.take_length] at h5
  rw [eP_eq, eP_eq] at h4
  rw [sameM_eq, h4, h5, decide_eq_true h2, decide_eq_true h6]; rfl
theorem sameM_mem {p x : MatD} {i : Nat} (h1 : p.kids[((i : Nat) : Int).toNat]? = some x) : ((.mk x.kind x.rel (.mk x.poly.level x.poly.neg x.poly.abs x.poly.coefs) x.kids) : MatD) ∈ p.kids := by rw [eM_eq]; exact List.mem_of_getElem? h1

set_option maxRecDepth 20000 in
set_option maxHeartbeats 4000000 in
theorem sameM_c (p : MatD) (q : MatD)  : Pur Tryz.prog 19 [(wrP Vw (.el Kd.mat) p).den, (wrP Vw (.el Kd.mat) q).den] (bT (sameM p q)).den := by
  generalize hD : SizeOf.sizeOf p = D
  induction D using Nat.strongRecOn generalizing p q
  rename_i D ih
  subst hD
  refine vcF_ok (V := Vw) (reg := ⟨[ct_sameP, ct2 Vw 19 (.el Kd.mat) (.el Kd.mat) (fun (x : MatD) (_ : MatD) => x ∈ p.kids) (fun (x : MatD) (y : MatD) => bT (sameM x y)) (fun x y h1 => ih _ (MatD.lt h1) x y rfl)], []⟩) (ls := [(4, ⟨Nat, fun i => ⟨[(2, .e (.c (.ptr 0 0))), (3, .e (.c (.ptr 1 0))), (37, iT p.kids.length), (38, iT i)], [(0, .cells [.d (.sc (.int .i64 p.kind)), .d (.sc (.int .i64 p.rel)), .d (.sc (.int .i64 p.poly.level)), .d (.prp p.poly.neg), .d (.lst (U := Un) Kd.u32 p.poly.abs), .d (.lst (U := Un) Kd.poly p.poly.coefs), .d (.lst (U := Un) Kd.mat p.kids)]), (1, .cells [.d (.sc (.int .i64 q.kind)), .d (.sc (.int .i64 q.rel)), .d (.sc (.int .i64 q.poly.level)), .d (.prp q.poly.neg), .d (.lst (U := Un) Kd.u32 q.poly.abs), .d (.lst (U := Un) Kd.poly q.poly.coefs), .d (.lst (U := Un) Kd.mat q.kids)])], 2⟩, fun i => i ≤ p.kids.length ∧ p.kind = q.kind ∧ p.rel = q.rel ∧ p.kids.length = q.kids.length ∧ sameP (.mk p.poly.level p.poly.neg p.poly.abs p.poly.coefs) (.mk q.poly.level q.poly.neg q.poly.abs q.poly.coefs) = true ∧ sameN (p.kids.take i) (q.kids.take i) = true, fun i => p.kids.length - i⟩)]) mixed Tryz.func19 rfl (by kernel_rfl) (Nat.le_of_ble_eq_true rfl) (noNames rfl) (args := [(wrP Vw (.el Kd.mat) p), (wrP Vw (.el Kd.mat) q)]) (r := bT (sameM p q)) ?_
  repeat' (first | intro _ | apply And.intro | refine Exists.intro 0 (And.intro ?_ fun (i : Nat) (hx : i ≤ p.kids.length ∧ p.kind = q.kind ∧ p.rel = q.rel ∧ p.kids.length = q.kids.length ∧ sameP (.mk p.poly.level p.poly.neg p.poly.abs p.poly.coefs) (.mk q.poly.level q.poly.neg q.poly.abs q.poly.coefs) = true ∧ sameN (p.kids.take i) (q.kids.take i) = true) => ?_) | refine Exists.intro (i + 1) ?_)
  all_goals clear ih
  all_goals first | exact True.intro | rfl | ((with_reducible show (_ && _) = true); kernel_rfl) | (with_reducible exact hx.2.2.2.2.1) | (with_reducible exact sameM_end hx (by assumption)) | (rename_i h; exact sameM_f1 (h : (p.kind != q.kind) = !false)) | (rename_i h; exact sameM_f0 (h : (p.rel != q.rel) = !false)) | (rename_i h; exact sameM_f2 (h : ((p.kids.length : Int) != (q.kids.length : Int)) = !false)) | (with_reducible exact sameM_f3 (by assumption)) | (with_reducible exact notE (by assumption)) | (with_reducible exact neE (by assumption)) | (exact Int.ofNat_inj.1 (neE (by with_reducible assumption))) | (rename_i h1 _ h2; exact sameM_mem h1) | (rename_i h1 _ h2 h3; with_reducible exact sameM_f4 h1 h2 h3) | (rename_i h1 _ h2 h3; with_reducible exact sameM_step hx.2.2.2.2.2 h1 h2 h3) | omega | (simp only [decide_eq_true_eq, decide_eq_false_iff_not] at *; omega) | (show p.kids.length - (i + 1) < p.kids.length - i; (simp only [decide_eq_true_eq, decide_eq_false_iff_not] at *; omega)) | trace_state
def ct_sameM : Ct Tryz.prog Un := ct2 Vw 19 (.el Kd.mat) (.el Kd.mat) (fun (p : MatD) (q : MatD) => True) (fun (p : MatD) (q : MatD) => bT (sameM p q)) (fun p q h => sameM_c p q )

end Go.Proofs.YtfbmhjooliccnaaGreatDoor
end

section
namespace Go.Proofs.YtfbmhjooliccnaaGreatDoor
open Go Go.Ab

theorem addL_len (A B : List Int) : (addL A B).length = A.length + 1 := by simp [addL]
theorem addL_dg {A B : List Int} (hA : Dg A) (hB : Dg B) : Dg (addL A B) := by
  intro d hd
  simp only [addL, List.mem_append, List.mem_map, List.mem_range, List.mem_singleton] at hd
  rcases hd with ⟨k, _, rfl⟩ | rfl
  · unfold dAt; rw [isD_iff]; omega
  · have := cAt_le hA hB A.length; rw [isD_iff]; omega
theorem subL_dg (A B : List Int) : Dg (subL A B) := by
  intro d hd
  simp only [subL, List.mem_map, List.mem_range] at hd
  obtain ⟨k, _, rfl⟩ := hd
  unfold eAt; rw [isD_iff]; omega
theorem addN_len (a b : List Int) : (addN a b).length ≤ max a.length b.length + 1 := by
  have h1 := trimD_len (addL (longer (trimD a) (trimD b)) (shorter (trimD a) (trimD b)))
  rw [addL_len] at h1
  have h2 := trimD_len a
  have h3 := trimD_len b
  unfold addN
  have h4 : (longer (trimD a) (trimD b)).length ≤ max a.length b.length := by unfold longer; split <;> omega
  omega
theorem addN_dg {a b : List Int} (ha : Dg a) (hb : Dg b) : Dg (addN a b) := (addL_dg (longer_dg ha.trim hb.trim) (shorter_dg ha.trim hb.trim)).trim
theorem subN_len (a b : List Int) : (subN a b).length ≤ a.length := by
  unfold subN
  split
  · simp
  · have h1 := trimD_len (subL (trimD a) (trimD b))
    have h2 := trimD_len a
    simp only [subL, List.length_map, List.length_range] at h1
    exact Nat.le_trans h1 h2
theorem subN_dg (a b : List Int) : Dg (subN a b) := by
  unfold subN
  split
  · intro d hd; simp at hd
  · exact (subL_dg _ _).trim
theorem addI_len (x y : IntD) : (addI x y).abs.length ≤ max x.abs.length y.abs.length + 1 := by
  have h1 := addN_len x.abs y.abs
  have h2 := subN_len x.abs y.abs
  have h3 := subN_len y.abs x.abs
  unfold addI signedD
  split
  · exact h1
  · split <;> simp only <;> omega
theorem addI_dg {x y : IntD} (hx : Dg x.abs) (hy : Dg y.abs) : Dg (addI x y).abs := by
  unfold addI signedD
  split
  · exact addN_dg hx hy
  · split
    · exact subN_dg _ _
    · exact subN_dg _ _
theorem normI_len (x : IntD) : (normI x).abs.length ≤ x.abs.length := trimD_len _
theorem normI_dg {x : IntD} (hx : Dg x.abs) : Dg (normI x).abs := hx.trim

def TermD.mono (t : TermD) : MonoD := ⟨t.e1, t.e2, t.e3, t.e4⟩
def TermD.coef (t : TermD) : IntD := ⟨t.neg, t.abs⟩
def mkT (c : IntD) (q : MonoD) : TermD := ⟨c.neg, c.abs, q.e1, q.e2, q.e3, q.e4⟩
def sameMo (p q : MonoD) : Bool := p.e1 == q.e1 && (p.e2 == q.e2 && (p.e3 == q.e3 && (p.e4 == q.e4 && true)))
theorem sameMo_iff {p q : MonoD} : sameMo p q = true ↔ p = q := by
  cases p; cases q
  simp [sameMo]

@[reducible] def keyM (q : MonoD) : Value := .agg [.int .i64 q.e1, .int .i64 q.e2, .int .i64 q.e3, .int .i64 q.e4].toArray
theorem keyM_ok (q : MonoD) : keyOK (.arr 4 .i64) (keyM q) = true := rfl
theorem keyM_same (p q : MonoD) : sameKey (keyM p) (keyM q) = sameMo p q := rfl

def mapEs : List TermD → Nat → List (Value × Value)
  | [], _ => []
  | t :: r, i => (keyM t.mono, .int .i64 i) :: mapEs r (i + 1)
theorem mapEs_nil (i : Nat) : mapEs [] i = [] := rfl
theorem mapEs_cons (t : TermD) (r : List TermD) (i : Nat) : mapEs (t :: r) i = (keyM t.mono, .int .i64 i) :: mapEs r (i + 1) := rfl
theorem mapEs_ok : ∀ (l : List TermD) (i : Nat), mapOK (.arr 4 .i64) (mapEs l i) = true
  | [], i => by rw [mapEs_nil]; rfl
  | t :: r, i => by
    have := mapEs_ok r (i + 1)
    rw [mapEs_cons]
    unfold mapOK at this ⊢
    rw [List.all_cons, this]; rfl
theorem mapEs_int : ∀ (l : List TermD) (i : Nat), (mapEs l i).all (fun p => intK .i64 p.2) = true
  | [], i => by rw [mapEs_nil]; rfl
  | t :: r, i => by
    rw [mapEs_cons, List.all_cons, mapEs_int r (i + 1)]; rfl
/-- The place of a monomial. -/
def idxT (q : MonoD) : List TermD → Option Nat
  | [] => none
  | t :: r => match sameMo q t.mono with | true => some 0 | false => (idxT q r).map (· + 1)
theorem mfind_mapEs (q : MonoD) : ∀ (l : List TermD) (i : Nat), mfind (keyM q) (mapEs l i) i = (idxT q l).map fun n => (i + n, .int .i64 ((i + n : Nat) : Int))
  | [], i => by rw [mapEs_nil]; rfl
  | t :: r, i => by
    have ih := mfind_mapEs q r (i + 1)
    rw [mapEs_cons]
    simp only [mfind, keyM_same, idxT]
    cases sameMo q t.mono with
    | true => rfl
    | false =>
      simp only
      rw [ih]
      cases idxT q r with
      | none => rfl
      | some n => simp only [Option.map_some]; rw [show i + 1 + n = i + (n + 1) by omega]
theorem mfind_some {q : MonoD} {l : List TermD} {i : Nat} {v : Int} (h : mfind (keyM q) (mapEs l 0) 0 = some (i, .int .i64 v)) : v = i ∧ idxT q l = some i := by
  rw [mfind_mapEs, Option.map_eq_some_iff] at h
  obtain ⟨n, h1, h2⟩ := h
  injection h2 with h2 h3
  injection h3 with _ h3
  have : n = i := by omega
  subst this
  exact ⟨by rw [← h3, Nat.zero_add], h1⟩
theorem mfind_none {q : MonoD} {l : List TermD} (h : mfind (keyM q) (mapEs l 0) 0 = none) : idxT q l = none := by
  rw [mfind_mapEs] at h
  simpa using h
theorem idxT_lt {q : MonoD} : ∀ {l : List TermD} {i : Nat}, idxT q l = some i → i < l.length
  | [], _, h => by cases h
  | t :: r, i, h => by
    simp only [idxT] at h
    split at h
    · injection h with h; subst h; simp
    · rw [Option.map_eq_some_iff] at h
      obtain ⟨n, h1, rfl⟩ := h
      have := idxT_lt h1
      simp; omega
theorem mapEs_set : ∀ (l : List TermD) (i j : Nat) (t t' : TermD), l[i]? = some t → t'.mono = t.mono → mapEs (l.set i t') j = mapEs l j
  | [], i, j, t, t', h, _ => by simp at h
  | a :: r, 0, j, t, t', h, hm => by
    simp only [List.getElem?_cons_zero, Option.some.injEq] at h
    subst h
    rw [List.set_cons_zero, mapEs_cons, mapEs_cons, hm]
  | a :: r, i + 1, j, t, t', h, hm => by
    rw [List.set_cons_succ, mapEs_cons, mapEs_cons, mapEs_set r i (j + 1) t t' (by simpa using h) hm]
theorem mapEs_app : ∀ (l : List TermD) (j : Nat) (t : TermD), mapEs (l ++ [t]) j = mapEs l j ++ [(keyM t.mono, .int .i64 ((j + l.length : Nat) : Int))]
  | [], j, t => by rw [List.nil_append, mapEs_cons, mapEs_nil, mapEs_nil]; rfl
  | a :: r, j, t => by
    rw [List.cons_append, mapEs_cons, mapEs_cons, mapEs_app r (j + 1) t, List.cons_append]
    congr 4
    simp; omega

/-- One more term. -/
@[irreducible] def gadd (l : List TermD) (q : MonoD) (c : IntD) : List TermD :=
  if negM q then l else
  match idxT q l with
  | some i => (match l[i]? with | some t => l.set i (mkT (addI t.coef c) t.mono) | none => l)
  | none => l ++ [mkT (normI c) q]
theorem gadd_neg {l : List TermD} {q : MonoD} {c : IntD} (h : negM q = true) : gadd l q c = l := by unfold gadd; rw [if_pos h]
theorem gadd_old {l : List TermD} {q : MonoD} {c : IntD} (h : negM q = false) {i : Nat} {t : TermD} (h1 : idxT q l = some i) (h2 : l[i]? = some t) : gadd l q c = l.set i (mkT (addI t.coef c) t.mono) := by
  unfold gadd; rw [if_neg (by simp [h])]; simp only [h1, h2]
theorem gadd_new {l : List TermD} {q : MonoD} {c : IntD} (h : negM q = false) (h1 : idxT q l = none) : gadd l q c = l ++ [mkT (normI c) q] := by
  unfold gadd; rw [if_neg (by simp [h])]; simp only [h1]

theorem msetV_new {q : MonoD} {l : List TermD} {c : IntD} (hn : negM q = false) (h : mfind (keyM q) (mapEs l 0) 0 = none) : msetV (keyM q) (.int .i64 (l.length : Int)) (mapEs l 0) = mapEs (gadd l q c) 0 := by
  have h1 := mfind_none h
  rw [gadd_new hn h1, mapEs_app]
  simp only [msetV, h]
  congr 4
  simp

/-- How large the coefficients may be. -/
def LB (n : Nat) (l : List TermD) : Prop := ∀ t ∈ l, t.abs.length ≤ n ∧ Dg t.abs
theorem gadd_len (l : List TermD) (q : MonoD) (c : IntD) : (gadd l q c).length ≤ l.length + 1 := by
  unfold gadd
  split
  · omega
  · split
    · split
      · simp
      · omega
    · simp
theorem gadd_LB {n : Nat} {l : List TermD} {q : MonoD} {c : IntD} (h : LB n l) (hc : c.abs.length ≤ n ∧ Dg c.abs) : LB (n + 1) (gadd l q c) := by
  have h0 : LB (n + 1) l := fun t ht => ⟨by have := (h t ht).1; omega, (h t ht).2⟩
  unfold gadd
  split
  · exact h0
  · split
    · split
      · rename_i i _ t ht
        intro u hu
        rcases List.mem_or_eq_of_mem_set hu with hu | rfl
        · exact h0 u hu
        · have h1 := h t (List.mem_of_getElem? ht)
          have h2 := addI_len t.coef c
          have h3 : t.coef.abs.length = t.abs.length := rfl
          exact ⟨by show (addI t.coef c).abs.length ≤ _; have := hc.1; have := h1.1; omega, addI_dg (x := t.coef) h1.2 hc.2⟩
      · exact h0
    · intro u hu
      rw [List.mem_append, List.mem_singleton] at hu
      rcases hu with hu | rfl
      · exact h0 u hu
      · exact ⟨by show (normI c).abs.length ≤ _; have := normI_len c; omega, normI_dg hc.2⟩
end Go.Proofs.YtfbmhjooliccnaaGreatDoor
end

section
namespace Go.Proofs.YtfbmhjooliccnaaGreatDoor
open Go Go.Ab

theorem ent174 : Ent Tryz.prog 174 := ent_of Tryz.func174 (by kernel_rfl) rfl
theorem ent175 : Ent Tryz.prog 175 := ent_of Tryz.func175 (by kernel_rfl) rfl
def gH (a b c : Nat) (l : List TermD) : List (Nat × Blk Un) := [(a, .cells [.mp b, .own c Kd.term l.length]), (b, .mapb (mapEs l 0)), (c, .rows Kd.term l)]
set_option maxRecDepth 20000 in
set_option maxHeartbeats 4000000 in
theorem newg_c : Sat Tryz.prog 174 (mkH (denH (U := Un) [])) (([] : List (SE Un)).map SE.den) (mkH (denH (gH 0 1 2 []))) (· ∈ []) (ST.e (U := Un) (.c (.ptr 0 0))).den := by
  refine vcO_ok (V := Vw) (reg := ⟨[], []⟩) (ls := []) (keep := []) (τ := ⟨[(0, .e (.c (.ptr 0 0)))], gH 0 1 2 [], 3⟩) mixed Tryz.func174 rfl (by kernel_rfl) (Nat.le_of_ble_eq_true rfl) rfl rfl rfl rfl (fun _ _ h => h) ?_
  repeat' (first | intro _ | apply And.intro)
  all_goals first | exact True.intro | rfl
theorem gneg1 {l : List TermD} {q : MonoD} {c : IntD} (h : negM ⟨q.e1, q.e2, q.e3, q.e4⟩ = true) : l.length = (gadd l q c).length := by rw [gadd_neg h]
theorem gneg2 {l : List TermD} {q : MonoD} {c : IntD} (h : negM ⟨q.e1, q.e2, q.e3, q.e4⟩ = true) : mapEs l 0 = mapEs (gadd l q c) 0 := by rw [gadd_neg h]
theorem gneg3 {l : List TermD} {q : MonoD} {c : IntD} (h : negM ⟨q.e1, q.e2, q.e3, q.e4⟩ = true) : l = gadd l q c := by rw [gadd_neg h]
theorem keyM_ok' (q : MonoD) : keyOK miMono.kf (keyM q) = true := rfl
theorem mapEs_ok' (l : List TermD) : mapOK miMono.kf (mapEs l 0) = true := mapEs_ok l 0
theorem gold_1 {l : List TermD} {q : MonoD} {i : Nat} {v : Int} (h : mfind (keyM q) (mapEs l 0) 0 = some (i, .int .i64 v)) : 0 ≤ v := by have := (mfind_some h).1; omega
theorem gold_2 {l : List TermD} {q : MonoD} {i : Nat} {v : Int} (h : mfind (keyM q) (mapEs l 0) 0 = some (i, .int .i64 v)) : v < l.length := by have := mfind_some h; have := idxT_lt this.2; omega
theorem gold_3 {l : List TermD} {q : MonoD} {i : Nat} {v : Int} (h : mfind (keyM q) (mapEs l 0) 0 = some (i, .int .i64 v)) : v.toNat < l.length := by have := mfind_some h; have := idxT_lt this.2; omega
theorem gold_set {l : List TermD} {q : MonoD} {c : IntD} (hn : negM ⟨q.e1, q.e2, q.e3, q.e4⟩ = false) {i : Nat} {v : Int} (h : mfind (keyM q) (mapEs l 0) 0 = some (i, .int .i64 v)) {x y : TermD} (hx : l[v.toNat]? = some x) (hy : l[v.toNat]? = some y) :
    l.set v.toNat ⟨(addI ⟨x.neg, x.abs⟩ ⟨c.neg, c.abs⟩).neg, (addI ⟨x.neg, x.abs⟩ ⟨c.neg, c.abs⟩).abs, y.e1, y.e2, y.e3, y.e4⟩ = gadd l q c := by
  rw [hx] at hy; injection hy with hy; subst hy
  obtain ⟨h1, h2⟩ := mfind_some h
  have e : v.toNat = i := by omega
  rw [e] at hx ⊢
  rw [gadd_old hn h2 hx]
  rfl
theorem gold_len {l : List TermD} {q : MonoD} {c : IntD} (hn : negM ⟨q.e1, q.e2, q.e3, q.e4⟩ = false) {i : Nat} {v : Int} (h : mfind (keyM q) (mapEs l 0) 0 = some (i, .int .i64 v)) {x : TermD} (hx : l[v.toNat]? = some x) : l.length = (gadd l q c).length := by
  rw [← gold_set hn h hx hx, List.length_set]
theorem gold_map {l : List TermD} {q : MonoD} {c : IntD} (hn : negM ⟨q.e1, q.e2, q.e3, q.e4⟩ = false) {i : Nat} {v : Int} (h : mfind (keyM q) (mapEs l 0) 0 = some (i, .int .i64 v)) {x : TermD} (hx : l[v.toNat]? = some x) : mapEs l 0 = mapEs (gadd l q c) 0 := by
  rw [← gold_set hn h hx hx]; refine (mapEs_set l _ 0 x _ hx ?_).symm; rfl
theorem gnew_app {l : List TermD} {q : MonoD} {c : IntD} (hn : negM ⟨q.e1, q.e2, q.e3, q.e4⟩ = false) (h : mfind (keyM q) (mapEs l 0) 0 = none) :
    l ++ [⟨(normI ⟨c.neg, c.abs⟩).neg, (normI ⟨c.neg, c.abs⟩).abs, q.e1, q.e2, q.e3, q.e4⟩] = gadd l q c := by rw [gadd_new hn (mfind_none h)]; rfl
theorem gnew_len {l : List TermD} {q : MonoD} {c : IntD} (hn : negM ⟨q.e1, q.e2, q.e3, q.e4⟩ = false) (h : mfind (keyM q) (mapEs l 0) 0 = none) (x : TermD) : l.length + [x].length = (gadd l q c).length := by
  rw [← gnew_app hn h]; simp
theorem gnew_map {l : List TermD} {q : MonoD} {c : IntD} (hn : negM ⟨q.e1, q.e2, q.e3, q.e4⟩ = false) (h : mfind (keyM q) (mapEs l 0) 0 = none) : msetV (keyM q) (.int .i64 (l.length : Int)) (mapEs l 0) = mapEs (gadd l q c) 0 := msetV_new hn h
def GB (l : List TermD) (c : IntD) (n : Nat) : Prop := LB n l ∧ c.abs.length ≤ n ∧ Dg c.abs ∧ n ≤ 1099511627776 ∧ l.length ≤ 1000000000
theorem GB.x1 {l : List TermD} {c : IntD} {n : Nat} (h : GB l c n) {k : Nat} {x : TermD} (hx : l[k]? = some x) : Sm (IntD.mk x.neg x.abs).abs := by
  obtain ⟨h1, _, _, h4, _⟩ := h
  have := (h1 x (List.mem_of_getElem? hx)).1
  show x.abs.length ≤ _
  omega
theorem GB.x2 {l : List TermD} {c : IntD} {n : Nat} (h : GB l c n) {k : Nat} {x : TermD} (hx : l[k]? = some x) {d : Int} (hd : d ∈ (IntD.mk x.neg x.abs).abs) : isD d := (h.1 x (List.mem_of_getElem? hx)).2 d hd
theorem GB.c1 {l : List TermD} {c : IntD} {n : Nat} (h : GB l c n) : Sm (IntD.mk c.neg c.abs).abs := by
  obtain ⟨_, h2, _, h4, _⟩ := h
  show c.abs.length ≤ _
  omega
theorem GB.c2 {l : List TermD} {c : IntD} {n : Nat} (h : GB l c n) {d : Int} (hd : d ∈ (IntD.mk c.neg c.abs).abs) : isD d := h.2.2.1 d hd
theorem GB.l1 {l : List TermD} {c : IntD} {n : Nat} (h : GB l c n) (x : TermD) : (l.length + [x].length) * ti171.bys ≤ 140737488355328 := by
  have := h.2.2.2.2
  have e : ti171.bys = 64 := rfl
  have e2 : [x].length = 1 := rfl
  rw [e, e2]; omega
theorem GB.l2 {l : List TermD} {c : IntD} {n : Nat} (h : GB l c n) (x : TermD) : l.length + [x].length ≤ 140737488355328 := by
  have := h.2.2.2.2
  have e2 : [x].length = 1 := rfl
  rw [e2]; omega
set_option maxRecDepth 20000 in
set_option maxHeartbeats 4000000 in
theorem gadd_c (l : List TermD) (q : MonoD) (c : IntD) (n : Nat) (h : GB l c n) : Sat Tryz.prog 175 (mkH (denH (gH 0 1 2 l))) ([.c (.ptr 0 0), wrP Vw (.el Kd.mono) q, wrP Vw (.el Kd.intd) c].map SE.den) (mkH (denH (gH 0 1 3 (gadd l q c)))) (· ∈ [0, 1]) (ST.tup (U := Un) []).den := by
  refine vcO_ok (V := Vw) (reg := ⟨[ct_negM, ct_addI, ct_normalI], []⟩) (ls := []) (keep := [0, 1]) (τ := ⟨[], gH 0 1 3 (gadd l q c), 4⟩) mixed Tryz.func175 rfl (by kernel_rfl) (Nat.le_of_ble_eq_true rfl) rfl rfl rfl rfl (fun _ _ h => h) ?_
  repeat' (first | intro _ | apply And.intro)
  all_goals first
    | exact True.intro
    | ((with_reducible show (_ && _) = true); kernel_rfl)
    | (with_reducible rfl)
    | (with_reducible exact mapEs_ok' l)
    | (with_reducible exact mapEs_int l 0)
    | (with_reducible exact keyM_ok' q)
    | (with_reducible exact h.c1)
    | (with_reducible exact h.l1 _)
    | (with_reducible exact h.l2 _)
    | (rename_i hd; first | with_reducible exact gneg1 hd | with_reducible exact gneg2 hd | with_reducible exact gneg3 hd)
    | (rename_i hd; first | with_reducible exact gold_1 hd | with_reducible exact gold_2 hd | with_reducible exact gold_3 hd | with_reducible exact h.x1 hd | with_reducible exact h.c2 hd)
    | (rename_i hm x hx; first | with_reducible exact gold_1 hm | with_reducible exact gold_2 hm | with_reducible exact gold_3 hm)
    | (rename_i hx d hd; with_reducible exact h.x2 hx hd)
    | (rename_i hn i v hm x hx y hy; first | with_reducible exact gold_len hn hm hx | with_reducible exact gold_map hn hm hx | with_reducible exact gold_set hn hm hx hy)
    | (rename_i hn hm; first | with_reducible exact gnew_len hn hm _ | with_reducible exact gnew_map hn hm | with_reducible exact gnew_app hn hm)
    | trace_state
def run_newg (H : List (Nat × Blk Un)) (args : List (SE Un)) (K : OOut Un → Prop) : Prop :=
  match H, args with
  | [], [] => K ⟨.e (.c (.ptr 0 0)), gH 0 1 2 [], [], []⟩
  | _, _ => False
def oc_newg : OCt Tryz.prog Un where
  f := 174
  ent := ent174
  run := run_newg
  ok H args K h := by
    unfold run_newg at h
    split at h
    · refine ⟨_, ?_, fun u hu hw => ?_, h⟩
      · exact newg_c.stays fun u hu => by simp at hu
      · simp at hu
    · exact h.elim
@[irreducible] def GBe (l : List TermD) (c : IntD) : Prop := ∃ n, GB l c n
theorem GB.e {l : List TermD} {c : IntD} {n : Nat} (h : GB l c n) : GBe l c := by unfold GBe; exact ⟨n, h⟩
def run_gadd (H : List (Nat × Blk Un)) (args : List (SE Un)) (K : OOut Un → Prop) : Prop :=
  match H, args with
  | [(0, .cells [.mp 1, .own 2 Kd.term m]), (1, .mapb es), (2, .rows Kd.term l)], [.c (.ptr 0 0), .agg [.d (.sc (.int .i64 e1)), .d (.sc (.int .i64 e2)), .d (.sc (.int .i64 e3)), .d (.sc (.int .i64 e4))], .agg [.d (.prp ng), .d (.lst Kd.u32 ab)]] =>
    m = l.length ∧ es = mapEs l 0 ∧ GBe l ⟨ng, ab⟩ ∧ K ⟨.tup [], gH 0 1 3 (gadd l ⟨e1, e2, e3, e4⟩ ⟨ng, ab⟩), [2], [0, 1, 2]⟩
  | _, _ => False
def oc_gadd : OCt Tryz.prog Un where
  f := 175
  ent := ent175
  run := run_gadd
  ok H args K h := by
    unfold run_gadd at h
    split at h
    · obtain ⟨rfl, rfl, h1, h2⟩ := h
      unfold GBe at h1
      obtain ⟨n, h1⟩ := h1
      refine ⟨_, ?_, fun u hu hw => ?_, h2⟩
      · rename_i l e1 e2 e3 e4 ng ab
        exact (gadd_c l ⟨e1, e2, e3, e4⟩ ⟨ng, ab⟩ n h1).stays fun u hu => by
          have h3 : u < 3 := hu.1
          have h4 := hu.2
          simp at h4 ⊢; omega
      · have : u < 3 := hu
        simp at hw; omega
    · exact h.elim

end Go.Proofs.YtfbmhjooliccnaaGreatDoor
end

section
namespace Go.Proofs.YtfbmhjooliccnaaGreatDoor
open Go Go.Ab

def cmpI (x y : Int) : Int := if x < y then -1 else if y < x then 1 else 0
@[irreducible] def cmpMo (p q : MonoD) : Int :=
  if cmpI p.e4 q.e4 ≠ 0 then cmpI p.e4 q.e4 else if cmpI p.e3 q.e3 ≠ 0 then cmpI p.e3 q.e3 else if cmpI p.e2 q.e2 ≠ 0 then cmpI p.e2 q.e2 else cmpI p.e1 q.e1
theorem cmpI_1 {x y : Int} (h : decide (x < y) = true) : -1 = cmpI x y := by unfold cmpI; rw [if_pos (by simpa using h)]
theorem cmpI_2 {x y : Int} (h : decide (x < y) = false) (h2 : decide (y < x) = true) : 1 = cmpI x y := by unfold cmpI; rw [if_neg (by simpa using h), if_pos (by simpa using h2)]
theorem cmpI_3 {x y : Int} (h : decide (x < y) = false) (h2 : decide (y < x) = false) : 0 = cmpI x y := by unfold cmpI; rw [if_neg (by simpa using h), if_neg (by simpa using h2)]
theorem ne_ff {x : Int} (h : (x != x) = true) : False := by simp at h
@[irreducible] def CG (p q : MonoD) (i : Int) : Prop := -1 ≤ i ∧ i ≤ 3 ∧ (i < 3 → cmpI p.e4 q.e4 = 0) ∧ (i < 2 → cmpI p.e3 q.e3 = 0) ∧ (i < 1 → cmpI p.e2 q.e2 = 0) ∧ (i < 0 → cmpI p.e1 q.e1 = 0)
theorem CG_0 (p q : MonoD) : CG p q 3 := by unfold CG; omega
theorem CG.lt {p q : MonoD} {i : Int} (h : CG p q i ∧ True) : i < ((4 : Nat) : Int) := by have := h.1; unfold CG at this; omega
theorem cmpMo_4 {p q : MonoD} {x : Int} (g : CG p q x ∧ True) (e : x = ((3 : Nat) : Int)) (h : (cmpI p.e4 q.e4 != 0) = true) : cmpI p.e4 q.e4 = cmpMo p q := by
  have g := g.1
  have h : cmpI p.e4 q.e4 ≠ 0 := by simpa using h
  unfold CG at g
  unfold cmpMo
  obtain ⟨g0, g1, g2, g3, g4, g5⟩ := g
  rw [if_pos h]
theorem CG_4 {p q : MonoD} {x : Int} (g : CG p q x ∧ True) (e : x = ((3 : Nat) : Int)) (h : (cmpI p.e4 q.e4 != 0) = false) : CG p q (x - 1) := by
  have g := g.1
  have h : cmpI p.e4 q.e4 = 0 := by simpa using h
  unfold CG at *; omega
theorem cmpMo_3 {p q : MonoD} {x : Int} (g : CG p q x ∧ True) (e : x = ((2 : Nat) : Int)) (h : (cmpI p.e3 q.e3 != 0) = true) : cmpI p.e3 q.e3 = cmpMo p q := by
  have g := g.1
  have h : cmpI p.e3 q.e3 ≠ 0 := by simpa using h
  unfold CG at g
  unfold cmpMo
  obtain ⟨g0, g1, g2, g3, g4, g5⟩ := g
  rw [if_neg (by have := g2 (by omega); omega), if_pos h]
theorem CG_3 {p q : MonoD} {x : Int} (g : CG p q x ∧ True) (e : x = ((2 : Nat) : Int)) (h : (cmpI p.e3 q.e3 != 0) = false) : CG p q (x - 1) := by
  have g := g.1
  have h : cmpI p.e3 q.e3 = 0 := by simpa using h
  unfold CG at *; omega
theorem cmpMo_2 {p q : MonoD} {x : Int} (g : CG p q x ∧ True) (e : x = ((1 : Nat) : Int)) (h : (cmpI p.e2 q.e2 != 0) = true) : cmpI p.e2 q.e2 = cmpMo p q := by
  have g := g.1
  have h : cmpI p.e2 q.e2 ≠ 0 := by simpa using h
  unfold CG at g
  unfold cmpMo
  obtain ⟨g0, g1, g2, g3, g4, g5⟩ := g
  rw [if_neg (by have := g2 (by omega); omega), if_neg (by have := g3 (by omega); omega), if_pos h]
theorem CG_2 {p q : MonoD} {x : Int} (g : CG p q x ∧ True) (e : x = ((1 : Nat) : Int)) (h : (cmpI p.e2 q.e2 != 0) = false) : CG p q (x - 1) := by
  have g := g.1
  have h : cmpI p.e2 q.e2 = 0 := by simpa using h
  unfold CG at *; omega
theorem cmpMo_1 {p q : MonoD} {x : Int} (g : CG p q x ∧ True) (e : x = ((0 : Nat) : Int)) (h : (cmpI p.e1 q.e1 != 0) = true) : cmpI p.e1 q.e1 = cmpMo p q := by
  have g := g.1
  have h : cmpI p.e1 q.e1 ≠ 0 := by simpa using h
  unfold CG at g
  unfold cmpMo
  obtain ⟨g0, g1, g2, g3, g4, g5⟩ := g
  rw [if_neg (by have := g2 (by omega); omega), if_neg (by have := g3 (by omega); omega), if_neg (by have := g4 (by omega); omega)]
theorem CG_1 {p q : MonoD} {x : Int} (g : CG p q x ∧ True) (e : x = ((0 : Nat) : Int)) (h : (cmpI p.e1 q.e1 != 0) = false) : CG p q (x - 1) := by
  have g := g.1
  have h : cmpI p.e1 q.e1 = 0 := by simpa using h
  unfold CG at *; omega
theorem cmpMo_0 {p q : MonoD} {i : Int} (g : CG p q i ∧ True) (hi : decide (0 ≤ i) = false) : 0 = cmpMo p q := by
  have g := g.1
  simp only [decide_eq_false_iff_not] at hi
  unfold CG at g
  obtain ⟨g0, g1, g2, g3, g4, g5⟩ := g
  unfold cmpMo; rw [if_neg (by have := g2 (by omega); omega), if_neg (by have := g3 (by omega); omega), if_neg (by have := g4 (by omega); omega)]
  exact (g5 (by omega)).symm

set_option maxRecDepth 20000 in
set_option maxHeartbeats 4000000 in
theorem isNaN_c (x : Int)  : Pur Tryz.prog 293 [(wrP Vw (.int .i64) x).den] (bT (x != x)).den := by
  refine vcF_ok (V := Vw) (reg := ⟨[], []⟩) (ls := []) mixed Tryz.func293 rfl (by kernel_rfl) (Nat.le_of_ble_eq_true rfl) (noNames rfl) (args := [(wrP Vw (.int .i64) x)]) (r := bT (x != x)) ?_
  repeat' (first | intro _ | apply And.intro)
  all_goals first | exact True.intro | rfl
def ct_isNaN : Ct Tryz.prog Un := ct1 Vw 293 (.int .i64) (fun (x : Int) => True) (fun (x : Int) => bT (x != x)) (fun x h => isNaN_c x )

set_option maxRecDepth 20000 in
set_option maxHeartbeats 4000000 in
theorem cmpI_c (x : Int) (y : Int)  : Pur Tryz.prog 270 [(wrP Vw (.int .i64) x).den, (wrP Vw (.int .i64) y).den] (iT (cmpI x y)).den := by
  refine vcF_ok (V := Vw) (reg := ⟨[ct_isNaN], []⟩) (ls := []) mixed Tryz.func270 rfl (by kernel_rfl) (Nat.le_of_ble_eq_true rfl) (noNames rfl) (args := [(wrP Vw (.int .i64) x), (wrP Vw (.int .i64) y)]) (r := iT (cmpI x y)) ?_
  repeat' (first | intro _ | apply And.intro)
  all_goals first | exact True.intro | rfl | (exfalso; rename_i h; exact ne_ff h) | (exfalso; rename_i h _; exact ne_ff h) | (rename_i h; exact cmpI_1 h) | (rename_i h h2; first | exact cmpI_2 h h2 | exact cmpI_3 h h2) | trace_state
def ct_cmpI : Ct Tryz.prog Un := ct2 Vw 270 (.int .i64) (.int .i64) (fun (x : Int) (y : Int) => True) (fun (x : Int) (y : Int) => iT (cmpI x y)) (fun x y h => cmpI_c x y )

set_option maxRecDepth 20000 in
set_option maxHeartbeats 4000000 in
theorem cmpMo_c (p : MonoD) (q : MonoD)  : Pur Tryz.prog 223 [(wrP Vw (.el Kd.mono) p).den, (wrP Vw (.el Kd.mono) q).den] (iT (cmpMo p q)).den := by
  refine vcF_ok (V := Vw) (reg := ⟨[ct_cmpI], []⟩) (ls := [(2, ⟨Int, fun x => ⟨[(2, .e (.c (.ptr 0 0))), (3, .e (.c (.ptr 1 0))), (5, iT x)], [(0, .cells [.d (.sc (.int .i64 p.e1)), .d (.sc (.int .i64 p.e2)), .d (.sc (.int .i64 p.e3)), .d (.sc (.int .i64 p.e4))]), (1, .cells [.d (.sc (.int .i64 q.e1)), .d (.sc (.int .i64 q.e2)), .d (.sc (.int .i64 q.e3)), .d (.sc (.int .i64 q.e4))])], 2⟩, fun x => CG p q x ∧ True, fun x => (x + 1).toNat⟩)]) mixed Tryz.func223 rfl (by kernel_rfl) (Nat.le_of_ble_eq_true rfl) (noNames rfl) (args := [(wrP Vw (.el Kd.mono) p), (wrP Vw (.el Kd.mono) q)]) (r := iT (cmpMo p q)) ?_
  repeat' (first | intro _ | apply And.intro | refine Exists.intro 3 (And.intro ?_ fun (x : Int) (hx : CG p q x ∧ True) => ?_) | refine Exists.intro (x - 1) ?_)
  all_goals first
    | exact True.intro
    | ((with_reducible show (_ && _) = true); kernel_rfl)
    | rfl
    | omega
    | (with_reducible exact CG_0 p q)
    | (with_reducible exact CG.lt hx)
    | (rename_i h; with_reducible exact cmpMo_0 hx h)
    | (simp only [decide_eq_true_eq, decide_eq_false_iff_not] at *; omega)
    | (rename_i h; first | (with_reducible exact cmpMo_4 hx ‹x = ((3 : Nat) : Int)› h) | (with_reducible exact cmpMo_3 hx ‹x = ((2 : Nat) : Int)› h) | (with_reducible exact cmpMo_2 hx ‹x = ((1 : Nat) : Int)› h) | (with_reducible exact cmpMo_1 hx ‹x = ((0 : Nat) : Int)› h) | (with_reducible exact CG_4 hx ‹x = ((3 : Nat) : Int)› h) | (with_reducible exact CG_3 hx ‹x = ((2 : Nat) : Int)› h) | (with_reducible exact CG_2 hx ‹x = ((1 : Nat) : Int)› h) | (with_reducible exact CG_1 hx ‹x = ((0 : Nat) : Int)› h))
    | trace_state
def ct_cmpMo : Ct Tryz.prog Un := ct2 Vw 223 (.el Kd.mono) (.el Kd.mono) (fun (p : MonoD) (q : MonoD) => True) (fun (p : MonoD) (q : MonoD) => iT (cmpMo p q)) (fun p q h => cmpMo_c p q )

def anyT (q : MonoD) : SE Un := .agg [.any, .any, .d (.sc (.int .i64 q.e1)), .d (.sc (.int .i64 q.e2)), .d (.sc (.int .i64 q.e3)), .d (.sc (.int .i64 q.e4))]
set_option maxRecDepth 20000 in
set_option maxHeartbeats 4000000 in
theorem less_c (a b : MonoD) : Pur Tryz.prog 222 [(anyT a).den, (anyT b).den] (iT (cmpMo b a)).den := by
  refine vcF_ok (V := Vw) (reg := ⟨[ct_cmpMo], []⟩) (ls := []) mixed Tryz.func222 rfl (by kernel_rfl) (Nat.le_of_ble_eq_true rfl) (noNames rfl) (args := [anyT a, anyT b]) (r := iT (cmpMo b a)) ?_
  repeat' (first | intro _ | apply And.intro)
  all_goals first | exact True.intro | rfl | trace_state

end Go.Proofs.YtfbmhjooliccnaaGreatDoor
end

section
namespace Go.Proofs.YtfbmhjooliccnaaGreatDoor
open Go Go.Ab

def getMo (q : MonoD) (lv : Int) : Int := if lv = 1 then q.e1 else if lv = 2 then q.e2 else if lv = 3 then q.e3 else q.e4
def setMo (q : MonoD) (lv v : Int) : MonoD := if lv = 1 then ⟨v, q.e2, q.e3, q.e4⟩ else if lv = 2 then ⟨q.e1, v, q.e3, q.e4⟩ else if lv = 3 then ⟨q.e1, q.e2, v, q.e4⟩ else ⟨q.e1, q.e2, q.e3, v⟩
theorem setMo_set (q : MonoD) (lv v u : Int) : setMo (setMo q lv v) lv u = setMo q lv u := by
  unfold setMo; split <;> (try rfl); split <;> (try rfl); split <;> rfl
mutual
def nP : PolyD → Nat
  | .mk _ _ _ cs => 1 + nPs cs
def nPs : List PolyD → Nat
  | [] => 0
  | p :: r => nP p + nPs r
end
theorem nP_eq (p : PolyD) : nP p = 1 + nPs p.coefs := by cases p; rw [nP]; rfl
theorem nPs_nil : nPs [] = 0 := by rw [nPs]
theorem nPs_cons (p : PolyD) (r : List PolyD) : nPs (p :: r) = nP p + nPs r := by rw [nPs]
theorem nP_pos (p : PolyD) : 1 ≤ nP p := by rw [nP_eq]; omega
theorem nPs_len : ∀ l : List PolyD, l.length ≤ nPs l
  | [] => by simp
  | p :: r => by have := nPs_len r; have := nP_pos p; rw [nPs_cons]; simp; omega
theorem nPs_take : ∀ (l : List PolyD) (i : Nat) (c : PolyD), l[i]? = some c → nPs (l.take i) + nP c ≤ nPs l
  | [], i, c, h => by simp at h
  | p :: r, 0, c, h => by
    simp only [List.getElem?_cons_zero, Option.some.injEq] at h; subst h
    rw [List.take_zero, nPs_nil, nPs_cons]; omega
  | p :: r, i + 1, c, h => by
    have := nPs_take r i c (by simpa using h)
    rw [List.take_succ_cons, nPs_cons, nPs_cons]; omega
mutual
def collectP : PolyD → MonoD → List TermD
  | .mk lv ng ab cs, q => if lv ≤ 0 then [⟨ng, ab, q.e1, q.e2, q.e3, q.e4⟩] else if 4 < lv then [] else collectQ lv cs q (getMo q lv) 0
def collectQ (lv : Int) : List PolyD → MonoD → Int → Nat → List TermD
  | [], _, _, _ => []
  | c :: r, q, s, i => collectP c (setMo q lv (s + i)) ++ collectQ lv r q s (i + 1)
end
theorem collectP_eq (p : PolyD) (q : MonoD) : collectP p q = if p.level ≤ 0 then [⟨p.neg, p.abs, q.e1, q.e2, q.e3, q.e4⟩] else if 4 < p.level then [] else collectQ p.level p.coefs q (getMo q p.level) 0 := by
  cases p; rw [collectP]; rfl
theorem collectQ_nil (lv : Int) (q : MonoD) (s : Int) (i : Nat) : collectQ lv [] q s i = [] := by rw [collectQ]
theorem collectQ_cons (lv : Int) (c : PolyD) (r : List PolyD) (q : MonoD) (s : Int) (i : Nat) : collectQ lv (c :: r) q s i = collectP c (setMo q lv (s + i)) ++ collectQ lv r q s (i + 1) := by rw [collectQ]
theorem collectQ_app (lv : Int) (q : MonoD) (s : Int) : ∀ (a b : List PolyD) (i : Nat), collectQ lv (a ++ b) q s i = collectQ lv a q s i ++ collectQ lv b q s (i + a.length)
  | [], b, i => by rw [List.nil_append, collectQ_nil]; rfl
  | c :: a, b, i => by
    rw [List.cons_append, collectQ_cons, collectQ_cons, collectQ_app lv q s a b (i + 1), List.append_assoc]
    congr 3
    simp; omega
mutual
theorem collectP_len : ∀ (p : PolyD) (q : MonoD), (collectP p q).length ≤ nP p
  | .mk lv ng ab cs, q => by
    have := collectQ_len lv cs q (getMo q lv) 0
    rw [collectP, nP]
    split
    · simp
    · split
      · simp
      · omega
theorem collectQ_len (lv : Int) : ∀ (l : List PolyD) (q : MonoD) (s : Int) (i : Nat), (collectQ lv l q s i).length ≤ nPs l
  | [], q, s, i => by rw [collectQ]; simp
  | c :: r, q, s, i => by
    have h1 := collectP_len c (setMo q lv (s + i))
    have h2 := collectQ_len lv r q s (i + 1)
    rw [collectQ, nPs]
    simp; omega
end
@[irreducible] def colTo (p : PolyD) (q : MonoD) (i : Nat) : List TermD := collectQ p.level (p.coefs.take i) q (getMo q p.level) 0
theorem colTo_0 (p : PolyD) (q : MonoD) : colTo p q 0 = [] := by unfold colTo; rw [List.take_zero, collectQ_nil]
theorem colTo_succ {p : PolyD} {q : MonoD} {i : Nat} {c : PolyD} (h : p.coefs[i]? = some c) : colTo p q (i + 1) = colTo p q i ++ collectP c (setMo q p.level (getMo q p.level + i)) := by
  unfold colTo
  have hi : i < p.coefs.length := (List.getElem?_eq_some_iff.1 h).1
  have e : p.coefs.take (i + 1) = p.coefs.take i ++ [c] := by
    rw [List.take_add_one, h]; rfl
  rw [e, collectQ_app, collectQ_cons, collectQ_nil, List.append_nil]
  congr 4
  simp; omega
theorem colTo_all {p : PolyD} {q : MonoD} {i : Nat} (h1 : decide (p.level ≤ 0) = false) (h2 : decide (4 < p.level) = false) (h : p.coefs.length ≤ i) : colTo p q i = collectP p q := by
  simp only [decide_eq_false_iff_not] at h1 h2
  rw [collectP_eq, if_neg h1, if_neg h2]
  unfold colTo; rw [List.take_of_length_le h]
theorem colTo_len (p : PolyD) (q : MonoD) (i : Nat) : (colTo p q i).length ≤ nPs (p.coefs.take i) := by unfold colTo; exact collectQ_len _ _ _ _ _
@[irreducible] def CB (l : List TermD) (p : PolyD) (q : MonoD) : Prop := l.length + nP p ≤ 1000000000 ∧ (0 ≤ q.e1 ∧ q.e1 + nP p ≤ 1000000000) ∧ (0 ≤ q.e2 ∧ q.e2 + nP p ≤ 1000000000) ∧ (0 ≤ q.e3 ∧ q.e3 + nP p ≤ 1000000000) ∧ (0 ≤ q.e4 ∧ q.e4 + nP p ≤ 1000000000)
theorem CB.child {l : List TermD} {p : PolyD} {q : MonoD} (h : CB l p q) {i : Nat} {c : PolyD} (hc : p.coefs[i]? = some c) : CB (l ++ colTo p q i) c (setMo q p.level (getMo q p.level + i)) := by
  unfold CB at *
  have h1 := nPs_take _ _ _ hc
  have h2 := nPs_len (p.coefs.take i)
  have hi : i < p.coefs.length := (List.getElem?_eq_some_iff.1 hc).1
  have h3 := colTo_len p q i
  have h4 := nP_eq p
  rw [List.length_take] at h2
  refine ⟨by simp; omega, ?_⟩
  unfold setMo getMo
  split
  · simp only; omega
  · split
    · simp only; omega
    · split
      · simp only; omega
      · simp only; omega
theorem CB.inr {l : List TermD} {p : PolyD} {q : MonoD} (h : CB l p q) {i : Nat} (hi : i < p.coefs.length) : InR (getMo q p.level + i) := by
  unfold CB at h
  have h4 := nP_eq p
  have h2 := nPs_len p.coefs
  unfold InR getMo
  split
  · omega
  · split
    · omega
    · split <;> omega

end Go.Proofs.YtfbmhjooliccnaaGreatDoor
end

section
namespace Go.Proofs.YtfbmhjooliccnaaGreatDoor
open Go Go.Ab

@[irreducible] def SG (q : MonoD) (lv : Int) (y : MonoD) : Prop := ∀ v, setMo y lv v = setMo q lv v
theorem SG_0 (q : MonoD) (lv : Int) : SG q lv q := by unfold SG; intro v; rfl
theorem SG_n (q : MonoD) (lv v : Int) : SG q lv (setMo q lv v) := by unfold SG; intro u; exact setMo_set q lv v u
theorem sgE_0 {q y : MonoD} {lv v : Int} (h : SG q lv y) (e : lv - 1 = ((0 : Nat) : Int)) : (⟨v, y.e2, y.e3, y.e4⟩ : MonoD) = setMo q lv v := by
  have e : lv = 1 := by omega
  subst e
  unfold SG at h
  exact h v
theorem gmE_0 {q : MonoD} {lv : Int} (e : lv - 1 = ((0 : Nat) : Int)) : q.e1 = getMo q lv := by
  have e : lv = 1 := by omega
  subst e; rfl
theorem sg_0_0 {q y : MonoD} {lv v : Int} (h : SG q lv y) (e : lv - 1 = ((0 : Nat) : Int)) : v = (setMo q lv v).e1 := by rw [← sgE_0 h e]
theorem sg_0_1 {q y : MonoD} {lv v : Int} (h : SG q lv y) (e : lv - 1 = ((0 : Nat) : Int)) : y.e2 = (setMo q lv v).e2 := by rw [← sgE_0 h e]
theorem sg_0_2 {q y : MonoD} {lv v : Int} (h : SG q lv y) (e : lv - 1 = ((0 : Nat) : Int)) : y.e3 = (setMo q lv v).e3 := by rw [← sgE_0 h e]
theorem sg_0_3 {q y : MonoD} {lv v : Int} (h : SG q lv y) (e : lv - 1 = ((0 : Nat) : Int)) : y.e4 = (setMo q lv v).e4 := by rw [← sgE_0 h e]
theorem col_0 {l : List TermD} {p : PolyD} {q y : MonoD} (h : SG q p.level y) (e : p.level - 1 = ((0 : Nat) : Int)) {i : Nat} {c : PolyD} (hc : p.coefs[((i : Nat) : Int).toNat]? = some c) : l ++ colTo p q i ++ collectP (.mk c.level c.neg c.abs c.coefs) ⟨(getMo q p.level + i), y.e2, y.e3, y.e4⟩ = l ++ colTo p q (i + 1) := by
  rw [Int.toNat_natCast] at hc
  rw [eP_eq, sgE_0 h e, List.append_assoc, colTo_succ hc]
theorem coln_0 {l : List TermD} {p : PolyD} {q y : MonoD} (h : SG q p.level y) (e : p.level - 1 = ((0 : Nat) : Int)) {i : Nat} {c : PolyD} (hc : p.coefs[((i : Nat) : Int).toNat]? = some c) : (l ++ colTo p q i ++ collectP (.mk c.level c.neg c.abs c.coefs) ⟨(getMo q p.level + i), y.e2, y.e3, y.e4⟩).length = (l ++ colTo p q (i + 1)).length := by
  rw [col_0 h e hc]
theorem cb_0 {l : List TermD} {p : PolyD} {q y : MonoD} (hb : CB l p q) (h : SG q p.level y) (e : p.level - 1 = ((0 : Nat) : Int)) {i : Nat} {c : PolyD} (hc : p.coefs[((i : Nat) : Int).toNat]? = some c) : CB (l ++ colTo p q i) (.mk c.level c.neg c.abs c.coefs) ⟨(getMo q p.level + i), y.e2, y.e3, y.e4⟩ := by
  rw [Int.toNat_natCast] at hc
  rw [eP_eq, sgE_0 h e]; exact hb.child hc
theorem sgE_1 {q y : MonoD} {lv v : Int} (h : SG q lv y) (e : lv - 1 = ((1 : Nat) : Int)) : (⟨y.e1, v, y.e3, y.e4⟩ : MonoD) = setMo q lv v := by
  have e : lv = 2 := by omega
  subst e
  unfold SG at h
  exact h v
theorem gmE_1 {q : MonoD} {lv : Int} (e : lv - 1 = ((1 : Nat) : Int)) : q.e2 = getMo q lv := by
  have e : lv = 2 := by omega
  subst e; rfl
theorem sg_1_0 {q y : MonoD} {lv v : Int} (h : SG q lv y) (e : lv - 1 = ((1 : Nat) : Int)) : y.e1 = (setMo q lv v).e1 := by rw [← sgE_1 h e]
theorem sg_1_1 {q y : MonoD} {lv v : Int} (h : SG q lv y) (e : lv - 1 = ((1 : Nat) : Int)) : v = (setMo q lv v).e2 := by rw [← sgE_1 h e]
theorem sg_1_2 {q y : MonoD} {lv v : Int} (h : SG q lv y) (e : lv - 1 = ((1 : Nat) : Int)) : y.e3 = (setMo q lv v).e3 := by rw [← sgE_1 h e]
theorem sg_1_3 {q y : MonoD} {lv v : Int} (h : SG q lv y) (e : lv - 1 = ((1 : Nat) : Int)) : y.e4 = (setMo q lv v).e4 := by rw [← sgE_1 h e]
theorem col_1 {l : List TermD} {p : PolyD} {q y : MonoD} (h : SG q p.level y) (e : p.level - 1 = ((1 : Nat) : Int)) {i : Nat} {c : PolyD} (hc : p.coefs[((i : Nat) : Int).toNat]? = some c) : l ++ colTo p q i ++ collectP (.mk c.level c.neg c.abs c.coefs) ⟨y.e1, (getMo q p.level + i), y.e3, y.e4⟩ = l ++ colTo p q (i + 1) := by
  rw [Int.toNat_natCast] at hc
  rw [eP_eq, sgE_1 h e, List.append_assoc, colTo_succ hc]
theorem coln_1 {l : List TermD} {p : PolyD} {q y : MonoD} (h : SG q p.level y) (e : p.level - 1 = ((1 : Nat) : Int)) {i : Nat} {c : PolyD} (hc : p.coefs[((i : Nat) : Int).toNat]? = some c) : (l ++ colTo p q i ++ collectP (.mk c.level c.neg c.abs c.coefs) ⟨y.e1, (getMo q p.level + i), y.e3, y.e4⟩).length = (l ++ colTo p q (i + 1)).length := by
  rw [col_1 h e hc]
theorem cb_1 {l : List TermD} {p : PolyD} {q y : MonoD} (hb : CB l p q) (h : SG q p.level y) (e : p.level - 1 = ((1 : Nat) : Int)) {i : Nat} {c : PolyD} (hc : p.coefs[((i : Nat) : Int).toNat]? = some c) : CB (l ++ colTo p q i) (.mk c.level c.neg c.abs c.coefs) ⟨y.e1, (getMo q p.level + i), y.e3, y.e4⟩ := by
  rw [Int.toNat_natCast] at hc
  rw [eP_eq, sgE_1 h e]; exact hb.child hc
theorem sgE_2 {q y : MonoD} {lv v : Int} (h : SG q lv y) (e : lv - 1 = ((2 : Nat) : Int)) : (⟨y.e1, y.e2, v, y.e4⟩ : MonoD) = setMo q lv v := by
  have e : lv = 3 := by omega
  subst e
  unfold SG at h
  exact h v
theorem gmE_2 {q : MonoD} {lv : Int} (e : lv - 1 = ((2 : Nat) : Int)) : q.e3 = getMo q lv := by
  have e : lv = 3 := by omega
  subst e; rfl
theorem sg_2_0 {q y : MonoD} {lv v : Int} (h : SG q lv y) (e : lv - 1 = ((2 : Nat) : Int)) : y.e1 = (setMo q lv v).e1 := by rw [← sgE_2 h e]
theorem sg_2_1 {q y : MonoD} {lv v : Int} (h : SG q lv y) (e : lv - 1 = ((2 : Nat) : Int)) : y.e2 = (setMo q lv v).e2 := by rw [← sgE_2 h e]
theorem sg_2_2 {q y : MonoD} {lv v : Int} (h : SG q lv y) (e : lv - 1 = ((2 : Nat) : Int)) : v = (setMo q lv v).e3 := by rw [← sgE_2 h e]
theorem sg_2_3 {q y : MonoD} {lv v : Int} (h : SG q lv y) (e : lv - 1 = ((2 : Nat) : Int)) : y.e4 = (setMo q lv v).e4 := by rw [← sgE_2 h e]
theorem col_2 {l : List TermD} {p : PolyD} {q y : MonoD} (h : SG q p.level y) (e : p.level - 1 = ((2 : Nat) : Int)) {i : Nat} {c : PolyD} (hc : p.coefs[((i : Nat) : Int).toNat]? = some c) : l ++ colTo p q i ++ collectP (.mk c.level c.neg c.abs c.coefs) ⟨y.e1, y.e2, (getMo q p.level + i), y.e4⟩ = l ++ colTo p q (i + 1) := by
  rw [Int.toNat_natCast] at hc
  rw [eP_eq, sgE_2 h e, List.append_assoc, colTo_succ hc]
theorem coln_2 {l : List TermD} {p : PolyD} {q y : MonoD} (h : SG q p.level y) (e : p.level - 1 = ((2 : Nat) : Int)) {i : Nat} {c : PolyD} (hc : p.coefs[((i : Nat) : Int).toNat]? = some c) : (l ++ colTo p q i ++ collectP (.mk c.level c.neg c.abs c.coefs) ⟨y.e1, y.e2, (getMo q p.level + i), y.e4⟩).length = (l ++ colTo p q (i + 1)).length := by
  rw [col_2 h e hc]
theorem cb_2 {l : List TermD} {p : PolyD} {q y : MonoD} (hb : CB l p q) (h : SG q p.level y) (e : p.level - 1 = ((2 : Nat) : Int)) {i : Nat} {c : PolyD} (hc : p.coefs[((i : Nat) : Int).toNat]? = some c) : CB (l ++ colTo p q i) (.mk c.level c.neg c.abs c.coefs) ⟨y.e1, y.e2, (getMo q p.level + i), y.e4⟩ := by
  rw [Int.toNat_natCast] at hc
  rw [eP_eq, sgE_2 h e]; exact hb.child hc
theorem sgE_3 {q y : MonoD} {lv v : Int} (h : SG q lv y) (e : lv - 1 = ((3 : Nat) : Int)) : (⟨y.e1, y.e2, y.e3, v⟩ : MonoD) = setMo q lv v := by
  have e : lv = 4 := by omega
  subst e
  unfold SG at h
  exact h v
theorem gmE_3 {q : MonoD} {lv : Int} (e : lv - 1 = ((3 : Nat) : Int)) : q.e4 = getMo q lv := by
  have e : lv = 4 := by omega
  subst e; rfl
theorem sg_3_0 {q y : MonoD} {lv v : Int} (h : SG q lv y) (e : lv - 1 = ((3 : Nat) : Int)) : y.e1 = (setMo q lv v).e1 := by rw [← sgE_3 h e]
theorem sg_3_1 {q y : MonoD} {lv v : Int} (h : SG q lv y) (e : lv - 1 = ((3 : Nat) : Int)) : y.e2 = (setMo q lv v).e2 := by rw [← sgE_3 h e]
theorem sg_3_2 {q y : MonoD} {lv v : Int} (h : SG q lv y) (e : lv - 1 = ((3 : Nat) : Int)) : y.e3 = (setMo q lv v).e3 := by rw [← sgE_3 h e]
theorem sg_3_3 {q y : MonoD} {lv v : Int} (h : SG q lv y) (e : lv - 1 = ((3 : Nat) : Int)) : v = (setMo q lv v).e4 := by rw [← sgE_3 h e]
theorem col_3 {l : List TermD} {p : PolyD} {q y : MonoD} (h : SG q p.level y) (e : p.level - 1 = ((3 : Nat) : Int)) {i : Nat} {c : PolyD} (hc : p.coefs[((i : Nat) : Int).toNat]? = some c) : l ++ colTo p q i ++ collectP (.mk c.level c.neg c.abs c.coefs) ⟨y.e1, y.e2, y.e3, (getMo q p.level + i)⟩ = l ++ colTo p q (i + 1) := by
  rw [Int.toNat_natCast] at hc
  rw [eP_eq, sgE_3 h e, List.append_assoc, colTo_succ hc]
theorem coln_3 {l : List TermD} {p : PolyD} {q y : MonoD} (h : SG q p.level y) (e : p.level - 1 = ((3 : Nat) : Int)) {i : Nat} {c : PolyD} (hc : p.coefs[((i : Nat) : Int).toNat]? = some c) : (l ++ colTo p q i ++ collectP (.mk c.level c.neg c.abs c.coefs) ⟨y.e1, y.e2, y.e3, (getMo q p.level + i)⟩).length = (l ++ colTo p q (i + 1)).length := by
  rw [col_3 h e hc]
theorem cb_3 {l : List TermD} {p : PolyD} {q y : MonoD} (hb : CB l p q) (h : SG q p.level y) (e : p.level - 1 = ((3 : Nat) : Int)) {i : Nat} {c : PolyD} (hc : p.coefs[((i : Nat) : Int).toNat]? = some c) : CB (l ++ colTo p q i) (.mk c.level c.neg c.abs c.coefs) ⟨y.e1, y.e2, y.e3, (getMo q p.level + i)⟩ := by
  rw [Int.toNat_natCast] at hc
  rw [eP_eq, sgE_3 h e]; exact hb.child hc

theorem col_leaf {l : List TermD} {p : PolyD} {q : MonoD} (h : decide (p.level ≤ 0) = true) : l ++ [⟨p.neg, p.abs, q.e1, q.e2, q.e3, q.e4⟩] = l ++ collectP p q := by rw [collectP_eq, if_pos (by simpa using h)]
theorem col_leafn {l : List TermD} {p : PolyD} {q : MonoD} (h : decide (p.level ≤ 0) = true) : l.length + [(⟨p.neg, p.abs, q.e1, q.e2, q.e3, q.e4⟩ : TermD)].length = (l ++ collectP p q).length := by rw [← col_leaf h]; simp
theorem col_high {l : List TermD} {p : PolyD} {q : MonoD} (h : decide (p.level ≤ 0) = false) (h2 : decide (4 < p.level) = true) : l = l ++ collectP p q := by
  simp only [decide_eq_true_eq, decide_eq_false_iff_not] at h h2
  rw [collectP_eq, if_neg h, if_pos h2]; simp
theorem col_highn {l : List TermD} {p : PolyD} {q : MonoD} (h : decide (p.level ≤ 0) = false) (h2 : decide (4 < p.level) = true) : l.length = (l ++ collectP p q).length := by rw [← col_high h h2]
theorem col_start {l : List TermD} {p : PolyD} {q : MonoD} : l = l ++ colTo p q 0 := by rw [colTo_0]; simp
theorem col_startn {l : List TermD} {p : PolyD} {q : MonoD} : l.length = (l ++ colTo p q 0).length := by rw [← col_start]
theorem col_end {l : List TermD} {p : PolyD} {q : MonoD} (h1 : decide (p.level ≤ 0) = false) (h2 : decide (4 < p.level) = false) {i : Nat} (h : decide ((i : Int) < (p.coefs.length : Int)) = false) : l ++ colTo p q i = l ++ collectP p q := by
  simp only [decide_eq_false_iff_not] at h
  rw [colTo_all h1 h2 (by omega)]
theorem col_endn {l : List TermD} {p : PolyD} {q : MonoD} (h1 : decide (p.level ≤ 0) = false) (h2 : decide (4 < p.level) = false) {i : Nat} (h : decide ((i : Int) < (p.coefs.length : Int)) = false) : (l ++ colTo p q i).length = (l ++ collectP p q).length := by rw [col_end h1 h2 h]
theorem CB.b1 {l : List TermD} {p : PolyD} {q : MonoD} (h : CB l p q) (x : TermD) : (l.length + [x].length) * ti171.bys ≤ 140737488355328 := by
  unfold CB at h
  have e : ti171.bys = 64 := rfl
  have e2 : [x].length = 1 := rfl
  rw [e, e2]; omega
theorem CB.b2 {l : List TermD} {p : PolyD} {q : MonoD} (h : CB l p q) (x : TermD) : l.length + [x].length ≤ 140737488355328 := by
  unfold CB at h
  have e2 : [x].length = 1 := rfl
  rw [e2]; omega
theorem lv_range {p : PolyD} (h1 : decide (p.level ≤ 0) = false) (h2 : decide (4 < p.level) = false) : 0 ≤ p.level - 1 ∧ p.level - 1 < ((4 : Nat) : Int) ∧ InR (p.level - 1) := by
  simp only [decide_eq_false_iff_not] at h1 h2
  unfold InR; omega
theorem lv_r3 {p : PolyD} (h1 : decide (p.level ≤ 0) = false) (h2 : decide (4 < p.level) = false) : -9223372036854775808 ≤ p.level - 1 := by have := lv_range h1 h2; omega
theorem lv_r4 {p : PolyD} (h1 : decide (p.level ≤ 0) = false) (h2 : decide (4 < p.level) = false) : p.level - 1 ≤ 9223372036854775807 := by have := lv_range h1 h2; omega
theorem zI0 {α : Type} {q : α} : (0 : Int) = (((0, q) : Nat × α).1 : Int) := rfl
theorem sz_child {p c : PolyD} {i : Nat} (h : p.coefs[((i : Nat) : Int).toNat]? = some c) : SizeOf.sizeOf (PolyD.mk c.level c.neg c.abs c.coefs) < SizeOf.sizeOf p := by
  rw [Int.toNat_natCast] at h
  rw [eP_eq]
  have h1 := List.sizeOf_lt_of_mem (List.mem_of_getElem? h)
  cases p
  simp only [PolyD.coefs, PolyD.mk.sizeOf_spec] at h1 ⊢
  omega
theorem ent129 : Ent Tryz.prog 129 := ent_of Tryz.func129 (by kernel_rfl) rfl
def ColS (l : List TermD) (p : PolyD) (q : MonoD) : Prop := Sat Tryz.prog 129 (mkH (denH [(0, Blk.rows (U := Un) Kd.term l)])) ([.c (.own 0 Kd.term l.length), wrP Vw (.el Kd.poly) p, wrP Vw (.el Kd.mono) q].map SE.den) (mkH (denH [(1, Blk.rows (U := Un) Kd.term (l ++ collectP p q))])) (· ∈ []) (ST.e (U := Un) (.c (.own 1 Kd.term (l ++ collectP p q).length))).den
def run_col (Q : PolyD → Prop) (H : List (Nat × Blk Un)) (args : List (SE Un)) (K : OOut Un → Prop) : Prop :=
  match H, args with
  | [(0, .rows Kd.term l)], [.c (.own 0 Kd.term m), .agg [.d (.sc (.int .i64 lv)), .d (.prp ng), .d (.lst Kd.u32 ab), .d (.lst Kd.poly cs)], .agg [.d (.sc (.int .i64 e1)), .d (.sc (.int .i64 e2)), .d (.sc (.int .i64 e3)), .d (.sc (.int .i64 e4))]] =>
    m = l.length ∧ Q (.mk lv ng ab cs) ∧ CB l (.mk lv ng ab cs) ⟨e1, e2, e3, e4⟩ ∧ K ⟨.e (.c (.own 1 Kd.term (l ++ collectP (.mk lv ng ab cs) ⟨e1, e2, e3, e4⟩).length)), [(1, .rows Kd.term (l ++ collectP (.mk lv ng ab cs) ⟨e1, e2, e3, e4⟩))], [0], [0]⟩
  | _, _ => False
def oc_col (Q : PolyD → Prop) (ih : ∀ l p q, Q p → CB l p q → ColS l p q) : OCt Tryz.prog Un where
  f := 129
  ent := ent129
  run := run_col Q
  ok H args K h := by
    unfold run_col at h
    split at h
    · rename_i l _ lv ng ab cs e1 e2 e3 e4
      obtain ⟨rfl, h0, h1, h2⟩ := h
      refine ⟨_, ?_, fun u hu hw => ?_, h2⟩
      · exact (ih l _ _ h0 h1).stays fun u hu => by
          have h3 : u < 1 := hu.1
          have h4 := hu.2
          simp at h4; omega
      · have : u < 1 := hu
        simp at hw; omega
    · exact h.elim

end Go.Proofs.YtfbmhjooliccnaaGreatDoor
end
