/- sparse.Content and sparse.SignNormal at one term: their contracts. No condition. -/
import Derived.Test.YtfbmhjooliccnaaGreatDoorPt
set_option linter.all false

section
set_option maxRecDepth 100000
namespace Go.Proofs.YtfbmhjooliccnaaGreatDoor.Kw
open Go Go.Ab

theorem q8_heap (l : Nat) : (q8 l).heap = (q8 0).heap := by kernel_rfl
theorem q8_hp (l : Nat) : (q8 l).st.heap = mkH (q8 0).heap := by rw [st_heap, q8_heap]
theorem s2_st : (s2 0).st = ⟨s1.st.env, mkH (q8 0).heap⟩ := by unfold s2; rfl
theorem rOne_n : ∀ s, ¬ rOne.names s := by
  intro s h
  have := T.labs_ok h
  simp [rOne, T.labs, E.labs, V.labs] at this
theorem c7_n : ∀ s, ¬ ∃ x ∈ cells7, x.names s := by
  rintro s ⟨x, hx, h⟩
  have := V.labs_ok h
  simp only [cells7, List.mem_cons, List.not_mem_nil, or_false] at hx
  rcases hx with rfl | rfl | rfl | rfl | rfl | rfl <;> simp [V.labs] at this

theorem content_c : Sat Tryz.prog 178 (mkH H7) [.c (.sub 7 6 0 1)] (mkH H7) (fun u => u < 8 ∧ u ∉ ([] : List Nat)) rOne :=
  range_ok (P := Tryz.prog) (hd := hdC) (S1 := s1) (asO := asO) (bdO := bdO) (ct1 := ct1) hdC_ok mix nmS ct_le (g := 271) (f := 178) (fn := Tryz.f178) Tryz.func178 nm178 b178_eq nt178 rs178 (ent_of Tryz.func271 nm271 b271_eq)
    s0_st (by simp) (Nat.le_refl 8) sa_ok sb_ok sc_ok (LL := LL) s1_8 mvS ctS (H8 := mkH (q8 0).heap)
    (fun {n l fnR D M γ2 w2 ta} hM hta hm2 E hl {pv} hpv => by
      have := iter_ok (P := Tryz.prog) (hd := hdC) (S1 := s1) (Q4 := q4 l) (M0 := m0 l) (M1 := m1 l) (M2 := m2 l) (asO := asO) (bdO := bdO) (ct1 := ct1) (ct4 := ct4) hdC_ok mix nmS (nmQ l) (m0_env l) (m0_heap l) (m0_ctr l) (m1_ok l) (m2_ok l) (mv_m2 l) dfA dfB ct_le4
        Tryz.func271 b271_eq nt271 rs271 (q0_st l) (q0_ctr l) (q1_ok l) (qa_ok l) (qb_ok l) (qc_ok l) (q4_ok' l) (q4_11 l) (q5_st l) (ctQ5 l) o6_at o7_at o6_op o6_dst (q6_ok' l) (q6c_ok l) (q7_ok' l) (q8_ok' l) (q8c_ok l) (q1_7 l) (q7_7 l) (mvQ l) (ctQ l) sim3 sz3 df3 g3 ch7 ch8 ch9
        (n := n) (fnR := fnR) (D := D) (ta := ta) hM hta hm2 E hl hpv
      rw [q8_hp] at this
      exact this)
    s2_st (ct_s2 0) (s3_ok 0) df5 (s4_ok 0) (mv_s3 0) (res_ok 0) rOne_n rfl (heap_ok 0) c7_n (fun es h => by simp [cells7] at h)

/- contracts of functions that take own blocks, beside the executor -/
noncomputable def handsO (P : Program) (tb : FuncId → Option Ab.Fn) (ora : FuncId → List E → Option T) (oraO : FuncId → List (Nat × List V) → Nat → List E → Option OwnRes) (isOwn : FuncId → Bool) (lf : Nat) : Nat → Hand
  | 0 => ⟨ora, fun _ _ _ _ => Option.none, isOwn⟩
  | k + 1 => ⟨fun f args => match ora f args with | some r => some r | Option.none => execF P tb (handsO P tb ora oraO isOwn lf k) lf f args,
      fun f H ct args => match oraO f H ct args with | some r => some r | Option.none => execO P tb (handsO P tb ora oraO isOwn lf k) lf f H ct args, isOwn⟩

theorem handsO_ok {P : Program} {tb : FuncId → Option Ab.Fn} {ora : FuncId → List E → Option T} {oraO : FuncId → List (Nat × List V) → Nat → List E → Option OwnRes} {isOwn : FuncId → Bool} {lf : Nat} (hm : P.follows .mixedOrders = true) (ht : TabOK P tb) (ho : ∀ f args r, ora f args = some r → Pur P f args r)
    (hO : ∀ f H ct args r H' ct' mv wl, oraO f H ct args = some (r, H', ct', mv, wl) → Sat P f (mkH H) args (mkH H') (fun u => u < ct ∧ u ∉ mv) r ∧ ∀ u, u < ct → u ∉ wl → mkH H' u = mkH H u) : ∀ k, HandOK P (handsO P tb ora oraO isOwn lf k)
  | 0 => ⟨ho, fun _ _ _ _ _ _ _ _ _ h => by cases h⟩
  | k + 1 => by
    have ih := handsO_ok (isOwn := isOwn) (lf := lf) hm ht ho hO k
    refine ⟨fun f args r h => ?_, fun f H ct args r H' ct' mv wl h => ?_⟩
    · simp only [handsO] at h
      split at h
      · rename_i r' hr
        injection h with h; subst h
        exact ho f args r' hr
      · exact execF_ok hm ht ih h
    · simp only [handsO] at h
      split at h
      · rename_i r' hr
        injection h with h; subst h
        exact hO _ _ _ _ _ _ _ _ _ hr
      · exact execO_ok hm ht ih h

def isC7 : List V → Bool
  | [.d (.sc (.bool b)), .d (.sl [[.sc (.int .u32 x)]]), .d (.sc (.int .i64 a)), .d (.sc (.int .i64 e)), .d (.sc (.int .i64 f)), .d (.sc (.int .i64 g))] => !b && decide (x = 1) && decide (a = 1) && decide (e = 0) && decide (f = 0) && decide (g = 0)
  | _ => false
theorem isC7_ok {l : List V} (h : isC7 l = true) : l = cells7 := by
  unfold isC7 at h
  split at h
  · simp only [Bool.and_eq_true, decide_eq_true_eq, Bool.not_eq_true'] at h
    obtain ⟨⟨⟨⟨⟨h1, h2⟩, h3⟩, h4⟩, h5⟩, h6⟩ := h
    subst h1; subst h2; subst h3; subst h4; subst h5; subst h6
    rfl
  · cases h
def orC (f : FuncId) (H : List (Nat × List V)) (ct : Nat) (args : List E) : Option OwnRes :=
  match H, args with
  | [(s, cs)], [.c (.sub s' k o n)] => if f = 178 ∧ s = 7 ∧ s' = 7 ∧ k = 6 ∧ o = 0 ∧ n = 1 ∧ ct = 8 ∧ isC7 cs = true then some (rOne, H, ct, [], []) else Option.none
  | _, _ => Option.none
theorem orC_ok : ∀ f H ct args r H' ct' mv wl, orC f H ct args = some (r, H', ct', mv, wl) → Sat Tryz.prog f (mkH H) args (mkH H') (fun u => u < ct ∧ u ∉ mv) r ∧ ∀ u, u < ct → u ∉ wl → mkH H' u = mkH H u := by
  intro f H ct args r H' ct' mv wl h
  unfold orC at h
  split at h
  · split at h
    · rename_i hc
      obtain ⟨rfl, rfl, rfl, rfl, rfl, rfl, rfl, hc⟩ := hc
      have := isC7_ok hc
      subst this
      injection h with h; injection h with h1 h; injection h with h2 h; injection h with h3 h; injection h with h4 h5
      subst h1; subst h2; subst h3; subst h4; subst h5
      exact ⟨content_c, fun _ _ _ => rfl⟩
    · cases h
  · cases h

noncomputable def hdS : Hand := handsO Tryz.prog (tbP Tryz.prog) ora0 orC ownB 1000 40
theorem hdS_ok : HandOK Tryz.prog hdS := handsO_ok mix (tbP_ok _) (fun _ _ _ h => by cases h) orC_ok 40
def px1 : D := .sl [[.sc (.bool false), .sl [[.sc (.int .u32 1)]], .sc (.int .i64 1), .sc (.int .i64 0), .sc (.int .i64 0), .sc (.int .i64 0)]]
/-- SignNormal of x_1. -/
theorem sign_c : Pur Tryz.prog 140 [.c (.d px1)] (.e (.c (.d px1))) :=
  execF_ok (lf := 1000) mix (tbP_ok _) hdS_ok (by kernel_rfl)
end Go.Proofs.YtfbmhjooliccnaaGreatDoor.Kw
end
