/- Contracts: collect, its walk. No condition. Contracts: collect from nothing. No condition. -/
import Derived.Test.YtfbmhjooliccnaaGreatDoorPj
set_option linter.all false

section
namespace Go.Proofs.YtfbmhjooliccnaaGreatDoor
open Go Go.Ab

set_option maxRecDepth 20000 in
set_option maxHeartbeats 8000000 in
theorem col_c (p : PolyD) : ∀ (l : List TermD) (q : MonoD), CB l p q → ColS l p q := by
  generalize hD : SizeOf.sizeOf p = D
  induction D using Nat.strongRecOn generalizing p
  rename_i D ih
  subst hD
  intro l q hb
  refine vcO_ok (V := Vw) (reg := ⟨[], [oc_col (fun c => SizeOf.sizeOf c < SizeOf.sizeOf p) (fun l c q hc => ih _ hc c rfl l q)]⟩) (ls := [(7, ⟨Nat × MonoD, fun x => ⟨[(0, .e (.c (.own 0 Kd.term (l ++ colTo p q x.1).length))), (4, .e (.c (.ptr 1 0))), (5, .e (.c (.ptr 2 0))), (7, iT (getMo q p.level)), (32, lT .poly p.coefs), (33, iT p.coefs.length), (34, iT x.1)], [(0, .rows Kd.term (l ++ colTo p q x.1)), (1, .cells [.d (.sc (.int .i64 p.level)), .d (.prp p.neg), .d (.lst Kd.u32 p.abs), .d (.lst Kd.poly p.coefs)]), (2, .cells [.d (.sc (.int .i64 x.2.e1)), .d (.sc (.int .i64 x.2.e2)), .d (.sc (.int .i64 x.2.e3)), .d (.sc (.int .i64 x.2.e4))])], 3⟩, fun x => x.1 ≤ p.coefs.length ∧ SG q p.level x.2, fun x => p.coefs.length - x.1⟩)]) (keep := []) (τ := ⟨[(6, .e (.c (.own 1 Kd.term (l ++ collectP p q).length)))], [(1, .rows Kd.term (l ++ collectP p q))], 2⟩) mixed Tryz.func129 rfl (by kernel_rfl) (Nat.le_of_ble_eq_true rfl) rfl rfl rfl rfl (fun _ _ h => h) ?_
  repeat' (first | intro _ | apply And.intro)
  case ind.right.right.right.right.right.left.left.left.right =>
    rename_i h1 h2 e1 hl
    refine Exists.intro (0, q) (And.intro ?_ fun (x : Nat × MonoD) (hx : x.1 ≤ p.coefs.length ∧ SG q p.level x.2) => ?_)
    repeat' (first | (rename_i e; exact absurd (e1.symm.trans e) (by decide)) | intro _ | apply And.intro | refine Exists.intro (x.1 + 1, setMo q p.level (getMo q p.level + x.1)) ?_)
    all_goals first
      | exact True.intro
      | ((with_reducible show (_ && _) = true); kernel_rfl)
      | (with_reducible rfl)
      | (with_reducible exact hb.b1 _)
      | (with_reducible exact hb.b2 _)
      | (with_reducible exact col_start)
      | (with_reducible exact zI0)
      | (with_reducible exact Nat.zero_le _)
      | (with_reducible exact col_startn)
      | (with_reducible exact SG_0 q p.level)
      | (with_reducible exact SG_n q p.level _)
      | (rename_i h; first | with_reducible exact col_leaf h | with_reducible exact col_leafn h)
      | (rename_i h1 h2; first | with_reducible exact col_high h1 h2 | with_reducible exact col_highn h1 h2 | with_reducible exact (lv_range h1 h2).1 | with_reducible exact (lv_range h1 h2).2.1 | with_reducible exact (lv_r3 h1 h2) | with_reducible exact (lv_r4 h1 h2))
      | (with_reducible exact gmE_0 e1)
      | (with_reducible exact sg_0_0 hx.2 e1) | (with_reducible exact sg_0_1 hx.2 e1) | (with_reducible exact sg_0_2 hx.2 e1) | (with_reducible exact sg_0_3 hx.2 e1)
      | (rename_i hc _; first | with_reducible exact col_0 hx.2 e1 hc | with_reducible exact coln_0 hx.2 e1 hc | with_reducible exact cb_0 hb hx.2 e1 hc | with_reducible exact sz_child hc)
      | (rename_i hc _ _; first | with_reducible exact col_0 hx.2 e1 hc | with_reducible exact coln_0 hx.2 e1 hc | with_reducible exact cb_0 hb hx.2 e1 hc | with_reducible exact sz_child hc)
      | (rename_i hc; first | with_reducible exact col_0 hx.2 e1 hc | with_reducible exact coln_0 hx.2 e1 hc | with_reducible exact cb_0 hb hx.2 e1 hc | with_reducible exact sz_child hc)
      | (rename_i h; first | with_reducible exact col_end h1 h2 h | with_reducible exact col_endn h1 h2 h)
      | (simp only [decide_eq_true_eq, decide_eq_false_iff_not] at *; have := hx.1; (first | omega | (have := hb.inr (i := x.1) (by omega); unfold InR at this; omega)))
  case ind.right.right.right.right.right.left.left.right =>
    rename_i h1 h2 e1 hl
    refine Exists.intro (0, q) (And.intro ?_ fun (x : Nat × MonoD) (hx : x.1 ≤ p.coefs.length ∧ SG q p.level x.2) => ?_)
    repeat' (first | (rename_i e; exact absurd (e1.symm.trans e) (by decide)) | intro _ | apply And.intro | refine Exists.intro (x.1 + 1, setMo q p.level (getMo q p.level + x.1)) ?_)
    all_goals first
      | exact True.intro
      | ((with_reducible show (_ && _) = true); kernel_rfl)
      | (with_reducible rfl)
      | (with_reducible exact hb.b1 _)
      | (with_reducible exact hb.b2 _)
      | (with_reducible exact col_start)
      | (with_reducible exact zI0)
      | (with_reducible exact Nat.zero_le _)
      | (with_reducible exact col_startn)
      | (with_reducible exact SG_0 q p.level)
      | (with_reducible exact SG_n q p.level _)
      | (rename_i h; first | with_reducible exact col_leaf h | with_reducible exact col_leafn h)
      | (rename_i h1 h2; first | with_reducible exact col_high h1 h2 | with_reducible exact col_highn h1 h2 | with_reducible exact (lv_range h1 h2).1 | with_reducible exact (lv_range h1 h2).2.1 | with_reducible exact (lv_r3 h1 h2) | with_reducible exact (lv_r4 h1 h2))
      | (with_reducible exact gmE_1 e1)
      | (with_reducible exact sg_1_0 hx.2 e1) | (with_reducible exact sg_1_1 hx.2 e1) | (with_reducible exact sg_1_2 hx.2 e1) | (with_reducible exact sg_1_3 hx.2 e1)
      | (rename_i hc _; first | with_reducible exact col_1 hx.2 e1 hc | with_reducible exact coln_1 hx.2 e1 hc | with_reducible exact cb_1 hb hx.2 e1 hc | with_reducible exact sz_child hc)
      | (rename_i hc _ _; first | with_reducible exact col_1 hx.2 e1 hc | with_reducible exact coln_1 hx.2 e1 hc | with_reducible exact cb_1 hb hx.2 e1 hc | with_reducible exact sz_child hc)
      | (rename_i hc; first | with_reducible exact col_1 hx.2 e1 hc | with_reducible exact coln_1 hx.2 e1 hc | with_reducible exact cb_1 hb hx.2 e1 hc | with_reducible exact sz_child hc)
      | (rename_i h; first | with_reducible exact col_end h1 h2 h | with_reducible exact col_endn h1 h2 h)
      | (simp only [decide_eq_true_eq, decide_eq_false_iff_not] at *; have := hx.1; (first | omega | (have := hb.inr (i := x.1) (by omega); unfold InR at this; omega)))
  case ind.right.right.right.right.right.left.right =>
    rename_i h1 h2 e1 hl
    refine Exists.intro (0, q) (And.intro ?_ fun (x : Nat × MonoD) (hx : x.1 ≤ p.coefs.length ∧ SG q p.level x.2) => ?_)
    repeat' (first | (rename_i e; exact absurd (e1.symm.trans e) (by decide)) | intro _ | apply And.intro | refine Exists.intro (x.1 + 1, setMo q p.level (getMo q p.level + x.1)) ?_)
    all_goals first
      | exact True.intro
      | ((with_reducible show (_ && _) = true); kernel_rfl)
      | (with_reducible rfl)
      | (with_reducible exact hb.b1 _)
      | (with_reducible exact hb.b2 _)
      | (with_reducible exact col_start)
      | (with_reducible exact zI0)
      | (with_reducible exact Nat.zero_le _)
      | (with_reducible exact col_startn)
      | (with_reducible exact SG_0 q p.level)
      | (with_reducible exact SG_n q p.level _)
      | (rename_i h; first | with_reducible exact col_leaf h | with_reducible exact col_leafn h)
      | (rename_i h1 h2; first | with_reducible exact col_high h1 h2 | with_reducible exact col_highn h1 h2 | with_reducible exact (lv_range h1 h2).1 | with_reducible exact (lv_range h1 h2).2.1 | with_reducible exact (lv_r3 h1 h2) | with_reducible exact (lv_r4 h1 h2))
      | (with_reducible exact gmE_2 e1)
      | (with_reducible exact sg_2_0 hx.2 e1) | (with_reducible exact sg_2_1 hx.2 e1) | (with_reducible exact sg_2_2 hx.2 e1) | (with_reducible exact sg_2_3 hx.2 e1)
      | (rename_i hc _; first | with_reducible exact col_2 hx.2 e1 hc | with_reducible exact coln_2 hx.2 e1 hc | with_reducible exact cb_2 hb hx.2 e1 hc | with_reducible exact sz_child hc)
      | (rename_i hc _ _; first | with_reducible exact col_2 hx.2 e1 hc | with_reducible exact coln_2 hx.2 e1 hc | with_reducible exact cb_2 hb hx.2 e1 hc | with_reducible exact sz_child hc)
      | (rename_i hc; first | with_reducible exact col_2 hx.2 e1 hc | with_reducible exact coln_2 hx.2 e1 hc | with_reducible exact cb_2 hb hx.2 e1 hc | with_reducible exact sz_child hc)
      | (rename_i h; first | with_reducible exact col_end h1 h2 h | with_reducible exact col_endn h1 h2 h)
      | (simp only [decide_eq_true_eq, decide_eq_false_iff_not] at *; have := hx.1; (first | omega | (have := hb.inr (i := x.1) (by omega); unfold InR at this; omega)))
  case ind.right.right.right.right.right.right =>
    rename_i h1 h2 e1 hl
    refine Exists.intro (0, q) (And.intro ?_ fun (x : Nat × MonoD) (hx : x.1 ≤ p.coefs.length ∧ SG q p.level x.2) => ?_)
    repeat' (first | (rename_i e; exact absurd (e1.symm.trans e) (by decide)) | intro _ | apply And.intro | refine Exists.intro (x.1 + 1, setMo q p.level (getMo q p.level + x.1)) ?_)
    all_goals first
      | exact True.intro
      | ((with_reducible show (_ && _) = true); kernel_rfl)
      | (with_reducible rfl)
      | (with_reducible exact hb.b1 _)
      | (with_reducible exact hb.b2 _)
      | (with_reducible exact col_start)
      | (with_reducible exact zI0)
      | (with_reducible exact Nat.zero_le _)
      | (with_reducible exact col_startn)
      | (with_reducible exact SG_0 q p.level)
      | (with_reducible exact SG_n q p.level _)
      | (rename_i h; first | with_reducible exact col_leaf h | with_reducible exact col_leafn h)
      | (rename_i h1 h2; first | with_reducible exact col_high h1 h2 | with_reducible exact col_highn h1 h2 | with_reducible exact (lv_range h1 h2).1 | with_reducible exact (lv_range h1 h2).2.1 | with_reducible exact (lv_r3 h1 h2) | with_reducible exact (lv_r4 h1 h2))
      | (with_reducible exact gmE_3 e1)
      | (with_reducible exact sg_3_0 hx.2 e1) | (with_reducible exact sg_3_1 hx.2 e1) | (with_reducible exact sg_3_2 hx.2 e1) | (with_reducible exact sg_3_3 hx.2 e1)
      | (rename_i hc _; first | with_reducible exact col_3 hx.2 e1 hc | with_reducible exact coln_3 hx.2 e1 hc | with_reducible exact cb_3 hb hx.2 e1 hc | with_reducible exact sz_child hc)
      | (rename_i hc _ _; first | with_reducible exact col_3 hx.2 e1 hc | with_reducible exact coln_3 hx.2 e1 hc | with_reducible exact cb_3 hb hx.2 e1 hc | with_reducible exact sz_child hc)
      | (rename_i hc; first | with_reducible exact col_3 hx.2 e1 hc | with_reducible exact coln_3 hx.2 e1 hc | with_reducible exact cb_3 hb hx.2 e1 hc | with_reducible exact sz_child hc)
      | (rename_i h; first | with_reducible exact col_end h1 h2 h | with_reducible exact col_endn h1 h2 h)
      | (simp only [decide_eq_true_eq, decide_eq_false_iff_not] at *; have := hx.1; (first | omega | (have := hb.inr (i := x.1) (by omega); unfold InR at this; omega)))
  all_goals first
    | exact True.intro
    | ((with_reducible show (_ && _) = true); kernel_rfl)
    | (with_reducible rfl)
    | (with_reducible exact hb.b1 _)
    | (with_reducible exact hb.b2 _)
    | (with_reducible exact col_start)
    | (with_reducible exact zI0)
    | (with_reducible exact Nat.zero_le _)
    | (with_reducible exact col_startn)
    | (with_reducible exact SG_0 q p.level)
    | (with_reducible exact SG_n q p.level _)
    | (rename_i h; first | with_reducible exact col_leaf h | with_reducible exact col_leafn h)
    | (rename_i h1 h2; first | with_reducible exact col_high h1 h2 | with_reducible exact col_highn h1 h2 | with_reducible exact (lv_range h1 h2).1 | with_reducible exact (lv_range h1 h2).2.1 | with_reducible exact (lv_r3 h1 h2) | with_reducible exact (lv_r4 h1 h2))

end Go.Proofs.YtfbmhjooliccnaaGreatDoor
end

section
namespace Go.Proofs.YtfbmhjooliccnaaGreatDoor
open Go Go.Ab

theorem c0_1 {p : PolyD} {q : MonoD} : ([] : List TermD) ++ colTo p q 0 = [] := by rw [colTo_0]; rfl
theorem c0_2 {p : PolyD} {q : MonoD} : (([] : List TermD) ++ colTo p q 0).length = 0 := by rw [colTo_0]; rfl
theorem c0_3 {p : PolyD} {q : MonoD} : 0 = (([] : List TermD) ++ colTo p q 0).length := by rw [colTo_0]; rfl
theorem c0_7 {x : TermD} (h : [x] = []) : False := by cases h
theorem c0_4 (x : TermD) : [x] ≠ [] := by simp
theorem c0_5 (x : TermD) : [x].length * ti171.bys ≤ 140737488355328 := by have e : ti171.bys = 64 := rfl; rw [e]; simp
theorem c0_6 (x : TermD) : [x].length ≤ 140737488355328 := by simp
theorem c0_leaf {p : PolyD} {q : MonoD} (h : decide (p.level ≤ 0) = true) : [⟨p.neg, p.abs, q.e1, q.e2, q.e3, q.e4⟩] = collectP p q := by rw [collectP_eq, if_pos (by simpa using h)]
theorem c0_leafn {p : PolyD} {q : MonoD} (h : decide (p.level ≤ 0) = true) : [(⟨p.neg, p.abs, q.e1, q.e2, q.e3, q.e4⟩ : TermD)].length = (collectP p q).length := by rw [← c0_leaf h]
theorem c0_high {p : PolyD} {q : MonoD} (h : decide (p.level ≤ 0) = false) (h2 : decide (4 < p.level) = true) : collectP p q = [] := by
  simp only [decide_eq_true_eq, decide_eq_false_iff_not] at h h2
  rw [collectP_eq, if_neg h, if_pos h2]
theorem c0_highn {p : PolyD} {q : MonoD} (h : decide (p.level ≤ 0) = false) (h2 : decide (4 < p.level) = true) : (collectP p q).length = 0 := by rw [c0_high h h2]; rfl
theorem c0_end {p : PolyD} {q : MonoD} (h1 : decide (p.level ≤ 0) = false) (h2 : decide (4 < p.level) = false) {i : Nat} (h : decide ((i : Int) < (p.coefs.length : Int)) = false) : ([] : List TermD) ++ colTo p q i = collectP p q := by
  simp only [decide_eq_false_iff_not] at h
  rw [colTo_all h1 h2 (by omega)]; rfl
theorem c0_endn {p : PolyD} {q : MonoD} (h1 : decide (p.level ≤ 0) = false) (h2 : decide (4 < p.level) = false) {i : Nat} (h : decide ((i : Int) < (p.coefs.length : Int)) = false) : (([] : List TermD) ++ colTo p q i).length = (collectP p q).length := by rw [c0_end h1 h2 h]

set_option maxRecDepth 20000 in
set_option maxHeartbeats 8000000 in
theorem col0_c (p : PolyD) (q : MonoD) (hb : CB [] p q) : Sat Tryz.prog 129 (mkH (denH (U := Un) [])) ([.c (.d (.sc (.slice none 0 0))), wrP Vw (.el Kd.poly) p, wrP Vw (.el Kd.mono) q].map SE.den) (mkH (denH [(0, Blk.rows (U := Un) Kd.term (collectP p q))])) (· ∈ []) (ST.e (U := Un) (.c (.own 0 Kd.term (collectP p q).length))).den := by
  refine vcO_ok (V := Vw) (reg := ⟨[], [oc_col (fun _ => True) (fun l c q _ h => col_c c l q h)]⟩) (ls := [(7, ⟨Nat × MonoD, fun x => ⟨[(0, .e (.c (.own 0 Kd.term (([] : List TermD) ++ colTo p q x.1).length))), (4, .e (.c (.ptr 1 0))), (5, .e (.c (.ptr 2 0))), (7, iT (getMo q p.level)), (32, lT .poly p.coefs), (33, iT p.coefs.length), (34, iT x.1)], [(0, .rows Kd.term (([] : List TermD) ++ colTo p q x.1)), (1, .cells [.d (.sc (.int .i64 p.level)), .d (.prp p.neg), .d (.lst Kd.u32 p.abs), .d (.lst Kd.poly p.coefs)]), (2, .cells [.d (.sc (.int .i64 x.2.e1)), .d (.sc (.int .i64 x.2.e2)), .d (.sc (.int .i64 x.2.e3)), .d (.sc (.int .i64 x.2.e4))])], 3⟩, fun x => x.1 ≤ p.coefs.length ∧ SG q p.level x.2, fun x => p.coefs.length - x.1⟩)]) (keep := []) (τ := ⟨[(6, .e (.c (.own 0 Kd.term (collectP p q).length)))], [(0, .rows Kd.term (collectP p q))], 1⟩) mixed Tryz.func129 rfl (by kernel_rfl) (Nat.le_of_ble_eq_true rfl) rfl rfl rfl rfl (fun _ _ h => h) ?_
  repeat' (first | intro _ | apply And.intro)
  case right.right.right.right.right.left.left.left.right =>
    rename_i h1 h2 e1 hl
    refine Exists.intro (0, q) (And.intro ?_ fun (x : Nat × MonoD) (hx : x.1 ≤ p.coefs.length ∧ SG q p.level x.2) => ?_)
    repeat' (first | (rename_i e; exact absurd (e1.symm.trans e) (by decide)) | intro _ | apply And.intro | refine Exists.intro (x.1 + 1, setMo q p.level (getMo q p.level + x.1)) ?_)
    all_goals first
      | exact True.intro
      | ((with_reducible show (_ && _) = true); kernel_rfl)
      | (with_reducible rfl)
      | (with_reducible exact c0_1) | (with_reducible exact c0_2) | (with_reducible exact c0_3) | (with_reducible exact c0_4 _) | (with_reducible exact c0_5 _) | (with_reducible exact c0_6 _) | (rename_i h; with_reducible exact c0_7 h)
      | (rename_i h; first | with_reducible exact c0_leaf h | with_reducible exact c0_leafn h)
      | (rename_i h1 h2; first | with_reducible exact c0_high h1 h2 | with_reducible exact c0_highn h1 h2)
      | (rename_i h; first | with_reducible exact c0_end h1 h2 h | with_reducible exact c0_endn h1 h2 h)
      | (with_reducible exact col_start)
      | (with_reducible exact zI0)
      | (with_reducible exact Nat.zero_le _)
      | (with_reducible exact col_startn)
      | (with_reducible exact SG_0 q p.level)
      | (with_reducible exact SG_n q p.level _)
      | (rename_i h; first | with_reducible exact col_leaf h | with_reducible exact col_leafn h)
      | (rename_i h1 h2; first | with_reducible exact col_high h1 h2 | with_reducible exact col_highn h1 h2 | with_reducible exact (lv_range h1 h2).1 | with_reducible exact (lv_range h1 h2).2.1 | with_reducible exact (lv_r3 h1 h2) | with_reducible exact (lv_r4 h1 h2))
      | (with_reducible exact gmE_0 e1)
      | (with_reducible exact sg_0_0 hx.2 e1) | (with_reducible exact sg_0_1 hx.2 e1) | (with_reducible exact sg_0_2 hx.2 e1) | (with_reducible exact sg_0_3 hx.2 e1)
      | (rename_i hc _; first | with_reducible exact col_0 hx.2 e1 hc | with_reducible exact coln_0 hx.2 e1 hc | with_reducible exact cb_0 hb hx.2 e1 hc | with_reducible exact sz_child hc)
      | (rename_i hc _ _; first | with_reducible exact col_0 hx.2 e1 hc | with_reducible exact coln_0 hx.2 e1 hc | with_reducible exact cb_0 hb hx.2 e1 hc | with_reducible exact sz_child hc)
      | (rename_i hc; first | with_reducible exact col_0 hx.2 e1 hc | with_reducible exact coln_0 hx.2 e1 hc | with_reducible exact cb_0 hb hx.2 e1 hc | with_reducible exact sz_child hc)
      | (rename_i h; first | with_reducible exact col_end h1 h2 h | with_reducible exact col_endn h1 h2 h)
      | (simp only [decide_eq_true_eq, decide_eq_false_iff_not] at *; have := hx.1; (first | omega | (have := hb.inr (i := x.1) (by omega); unfold InR at this; omega)))
      | trace_state
  case right.right.right.right.right.left.left.right =>
    rename_i h1 h2 e1 hl
    refine Exists.intro (0, q) (And.intro ?_ fun (x : Nat × MonoD) (hx : x.1 ≤ p.coefs.length ∧ SG q p.level x.2) => ?_)
    repeat' (first | (rename_i e; exact absurd (e1.symm.trans e) (by decide)) | intro _ | apply And.intro | refine Exists.intro (x.1 + 1, setMo q p.level (getMo q p.level + x.1)) ?_)
    all_goals first
      | exact True.intro
      | ((with_reducible show (_ && _) = true); kernel_rfl)
      | (with_reducible rfl)
      | (with_reducible exact c0_1) | (with_reducible exact c0_2) | (with_reducible exact c0_3) | (with_reducible exact c0_4 _) | (with_reducible exact c0_5 _) | (with_reducible exact c0_6 _) | (rename_i h; with_reducible exact c0_7 h)
      | (rename_i h; first | with_reducible exact c0_leaf h | with_reducible exact c0_leafn h)
      | (rename_i h1 h2; first | with_reducible exact c0_high h1 h2 | with_reducible exact c0_highn h1 h2)
      | (rename_i h; first | with_reducible exact c0_end h1 h2 h | with_reducible exact c0_endn h1 h2 h)
      | (with_reducible exact col_start)
      | (with_reducible exact zI0)
      | (with_reducible exact Nat.zero_le _)
      | (with_reducible exact col_startn)
      | (with_reducible exact SG_0 q p.level)
      | (with_reducible exact SG_n q p.level _)
      | (rename_i h; first | with_reducible exact col_leaf h | with_reducible exact col_leafn h)
      | (rename_i h1 h2; first | with_reducible exact col_high h1 h2 | with_reducible exact col_highn h1 h2 | with_reducible exact (lv_range h1 h2).1 | with_reducible exact (lv_range h1 h2).2.1 | with_reducible exact (lv_r3 h1 h2) | with_reducible exact (lv_r4 h1 h2))
      | (with_reducible exact gmE_1 e1)
      | (with_reducible exact sg_1_0 hx.2 e1) | (with_reducible exact sg_1_1 hx.2 e1) | (with_reducible exact sg_1_2 hx.2 e1) | (with_reducible exact sg_1_3 hx.2 e1)
      | (rename_i hc _; first | with_reducible exact col_1 hx.2 e1 hc | with_reducible exact coln_1 hx.2 e1 hc | with_reducible exact cb_1 hb hx.2 e1 hc | with_reducible exact sz_child hc)
      | (rename_i hc _ _; first | with_reducible exact col_1 hx.2 e1 hc | with_reducible exact coln_1 hx.2 e1 hc | with_reducible exact cb_1 hb hx.2 e1 hc | with_reducible exact sz_child hc)
      | (rename_i hc; first | with_reducible exact col_1 hx.2 e1 hc | with_reducible exact coln_1 hx.2 e1 hc | with_reducible exact cb_1 hb hx.2 e1 hc | with_reducible exact sz_child hc)
      | (rename_i h; first | with_reducible exact col_end h1 h2 h | with_reducible exact col_endn h1 h2 h)
      | (simp only [decide_eq_true_eq, decide_eq_false_iff_not] at *; have := hx.1; (first | omega | (have := hb.inr (i := x.1) (by omega); unfold InR at this; omega)))
      | trace_state
  case right.right.right.right.right.left.right =>
    rename_i h1 h2 e1 hl
    refine Exists.intro (0, q) (And.intro ?_ fun (x : Nat × MonoD) (hx : x.1 ≤ p.coefs.length ∧ SG q p.level x.2) => ?_)
    repeat' (first | (rename_i e; exact absurd (e1.symm.trans e) (by decide)) | intro _ | apply And.intro | refine Exists.intro (x.1 + 1, setMo q p.level (getMo q p.level + x.1)) ?_)
    all_goals first
      | exact True.intro
      | ((with_reducible show (_ && _) = true); kernel_rfl)
      | (with_reducible rfl)
      | (with_reducible exact c0_1) | (with_reducible exact c0_2) | (with_reducible exact c0_3) | (with_reducible exact c0_4 _) | (with_reducible exact c0_5 _) | (with_reducible exact c0_6 _) | (rename_i h; with_reducible exact c0_7 h)
      | (rename_i h; first | with_reducible exact c0_leaf h | with_reducible exact c0_leafn h)
      | (rename_i h1 h2; first | with_reducible exact c0_high h1 h2 | with_reducible exact c0_highn h1 h2)
      | (rename_i h; first | with_reducible exact c0_end h1 h2 h | with_reducible exact c0_endn h1 h2 h)
      | (with_reducible exact col_start)
      | (with_reducible exact zI0)
      | (with_reducible exact Nat.zero_le _)
      | (with_reducible exact col_startn)
      | (with_reducible exact SG_0 q p.level)
      | (with_reducible exact SG_n q p.level _)
      | (rename_i h; first | with_reducible exact col_leaf h | with_reducible exact col_leafn h)
      | (rename_i h1 h2; first | with_reducible exact col_high h1 h2 | with_reducible exact col_highn h1 h2 | with_reducible exact (lv_range h1 h2).1 | with_reducible exact (lv_range h1 h2).2.1 | with_reducible exact (lv_r3 h1 h2) | with_reducible exact (lv_r4 h1 h2))
      | (with_reducible exact gmE_2 e1)
      | (with_reducible exact sg_2_0 hx.2 e1) | (with_reducible exact sg_2_1 hx.2 e1) | (with_reducible exact sg_2_2 hx.2 e1) | (with_reducible exact sg_2_3 hx.2 e1)
      | (rename_i hc _; first | with_reducible exact col_2 hx.2 e1 hc | with_reducible exact coln_2 hx.2 e1 hc | with_reducible exact cb_2 hb hx.2 e1 hc | with_reducible exact sz_child hc)
      | (rename_i hc _ _; first | with_reducible exact col_2 hx.2 e1 hc | with_reducible exact coln_2 hx.2 e1 hc | with_reducible exact cb_2 hb hx.2 e1 hc | with_reducible exact sz_child hc)
      | (rename_i hc; first | with_reducible exact col_2 hx.2 e1 hc | with_reducible exact coln_2 hx.2 e1 hc | with_reducible exact cb_2 hb hx.2 e1 hc | with_reducible exact sz_child hc)
      | (rename_i h; first | with_reducible exact col_end h1 h2 h | with_reducible exact col_endn h1 h2 h)
      | (simp only [decide_eq_true_eq, decide_eq_false_iff_not] at *; have := hx.1; (first | omega | (have := hb.inr (i := x.1) (by omega); unfold InR at this; omega)))
      | trace_state
  case right.right.right.right.right.right =>
    rename_i h1 h2 e1 hl
    refine Exists.intro (0, q) (And.intro ?_ fun (x : Nat × MonoD) (hx : x.1 ≤ p.coefs.length ∧ SG q p.level x.2) => ?_)
    repeat' (first | (rename_i e; exact absurd (e1.symm.trans e) (by decide)) | intro _ | apply And.intro | refine Exists.intro (x.1 + 1, setMo q p.level (getMo q p.level + x.1)) ?_)
    all_goals first
      | exact True.intro
      | ((with_reducible show (_ && _) = true); kernel_rfl)
      | (with_reducible rfl)
      | (with_reducible exact c0_1) | (with_reducible exact c0_2) | (with_reducible exact c0_3) | (with_reducible exact c0_4 _) | (with_reducible exact c0_5 _) | (with_reducible exact c0_6 _) | (rename_i h; with_reducible exact c0_7 h)
      | (rename_i h; first | with_reducible exact c0_leaf h | with_reducible exact c0_leafn h)
      | (rename_i h1 h2; first | with_reducible exact c0_high h1 h2 | with_reducible exact c0_highn h1 h2)
      | (rename_i h; first | with_reducible exact c0_end h1 h2 h | with_reducible exact c0_endn h1 h2 h)
      | (with_reducible exact col_start)
      | (with_reducible exact zI0)
      | (with_reducible exact Nat.zero_le _)
      | (with_reducible exact col_startn)
      | (with_reducible exact SG_0 q p.level)
      | (with_reducible exact SG_n q p.level _)
      | (rename_i h; first | with_reducible exact col_leaf h | with_reducible exact col_leafn h)
      | (rename_i h1 h2; first | with_reducible exact col_high h1 h2 | with_reducible exact col_highn h1 h2 | with_reducible exact (lv_range h1 h2).1 | with_reducible exact (lv_range h1 h2).2.1 | with_reducible exact (lv_r3 h1 h2) | with_reducible exact (lv_r4 h1 h2))
      | (with_reducible exact gmE_3 e1)
      | (with_reducible exact sg_3_0 hx.2 e1) | (with_reducible exact sg_3_1 hx.2 e1) | (with_reducible exact sg_3_2 hx.2 e1) | (with_reducible exact sg_3_3 hx.2 e1)
      | (rename_i hc _; first | with_reducible exact col_3 hx.2 e1 hc | with_reducible exact coln_3 hx.2 e1 hc | with_reducible exact cb_3 hb hx.2 e1 hc | with_reducible exact sz_child hc)
      | (rename_i hc _ _; first | with_reducible exact col_3 hx.2 e1 hc | with_reducible exact coln_3 hx.2 e1 hc | with_reducible exact cb_3 hb hx.2 e1 hc | with_reducible exact sz_child hc)
      | (rename_i hc; first | with_reducible exact col_3 hx.2 e1 hc | with_reducible exact coln_3 hx.2 e1 hc | with_reducible exact cb_3 hb hx.2 e1 hc | with_reducible exact sz_child hc)
      | (rename_i h; first | with_reducible exact col_end h1 h2 h | with_reducible exact col_endn h1 h2 h)
      | (simp only [decide_eq_true_eq, decide_eq_false_iff_not] at *; have := hx.1; (first | omega | (have := hb.inr (i := x.1) (by omega); unfold InR at this; omega)))
      | trace_state
  all_goals first
    | exact True.intro
    | ((with_reducible show (_ && _) = true); kernel_rfl)
    | (with_reducible rfl)
    | (with_reducible exact c0_1) | (with_reducible exact c0_2) | (with_reducible exact c0_3) | (with_reducible exact c0_4 _) | (with_reducible exact c0_5 _) | (with_reducible exact c0_6 _) | (rename_i h; with_reducible exact c0_7 h)
    | (rename_i h; first | with_reducible exact c0_leaf h | with_reducible exact c0_leafn h)
    | (rename_i h1 h2; first | with_reducible exact c0_high h1 h2 | with_reducible exact c0_highn h1 h2)
    | (rename_i h; first | with_reducible exact c0_end h1 h2 h | with_reducible exact c0_endn h1 h2 h)
    | (with_reducible exact col_start)
    | (with_reducible exact zI0)
    | (with_reducible exact Nat.zero_le _)
    | (with_reducible exact col_startn)
    | (with_reducible exact SG_0 q p.level)
    | (with_reducible exact SG_n q p.level _)
    | (rename_i h; first | with_reducible exact col_leaf h | with_reducible exact col_leafn h)
    | (rename_i h1 h2; first | with_reducible exact col_high h1 h2 | with_reducible exact col_highn h1 h2 | with_reducible exact (lv_range h1 h2).1 | with_reducible exact (lv_range h1 h2).2.1 | with_reducible exact (lv_r3 h1 h2) | with_reducible exact (lv_r4 h1 h2))
    | trace_state

def run_col0 (H : List (Nat × Blk Un)) (args : List (SE Un)) (K : OOut Un → Prop) : Prop :=
  match H, args with
  | [], [.c (.d (.sc (.slice none 0 0))), .agg [.d (.sc (.int .i64 lv)), .d (.prp ng), .d (.lst Kd.u32 ab), .d (.lst Kd.poly cs)], .agg [.d (.sc (.int .i64 e1)), .d (.sc (.int .i64 e2)), .d (.sc (.int .i64 e3)), .d (.sc (.int .i64 e4))]] =>
    CB [] (.mk lv ng ab cs) ⟨e1, e2, e3, e4⟩ ∧ K ⟨.e (.c (.own 0 Kd.term (collectP (.mk lv ng ab cs) ⟨e1, e2, e3, e4⟩).length)), [(0, .rows Kd.term (collectP (.mk lv ng ab cs) ⟨e1, e2, e3, e4⟩))], [], []⟩
  | _, _ => False
def oc_col0 : OCt Tryz.prog Un where
  f := 129
  ent := ent129
  run := run_col0
  ok H args K h := by
    unfold run_col0 at h
    split at h
    · rename_i lv ng ab cs e1 e2 e3 e4
      obtain ⟨h1, h2⟩ := h
      refine ⟨_, ?_, fun u hu hw => ?_, h2⟩
      · exact (col0_c (.mk lv ng ab cs) ⟨e1, e2, e3, e4⟩ h1).stays fun u hu => by simp at hu
      · simp at hu
    · exact h.elim

end Go.Proofs.YtfbmhjooliccnaaGreatDoor
end
