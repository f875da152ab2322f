/- Contracts: sums of natural numbers. No condition. Contracts: comparisons. No condition. Contracts: differences of natural numbers. No condition. Contracts: sums of integers. No condition. Contracts: monomials. No condition. Contracts: sameness. No condition. Contracts: names. No condition. -/
import Derived.Test.YtfbmhjooliccnaaGreatDoorPg
set_option linter.all false

section
namespace Go.Proofs.YtfbmhjooliccnaaGreatDoor
open Go Go.Ab

/-- Digits. -/
@[irreducible] def isD (d : Int) : Prop := 0 ≤ d ∧ d < 4294967296
theorem isD_iff {d : Int} : isD d ↔ 0 ≤ d ∧ d < 4294967296 := by unfold isD; exact Iff.rfl
def Dg (l : List Int) : Prop := ∀ d ∈ l, isD d
def uE (n : Int) : SE Un := .c (.d (.sc (.int .u32 n)))
def tT (l : List (SE Un)) : ST Un := .tup l
def lE (k : Kd) (l : List (KdEl k)) : SE Un := .c (.d (.lst (U := Un) k l))
def bE (b : Bool) : SE Un := .c (.d (.prp b))
/-- The carries and digits of a sum. -/
def cAt (A B : List Int) : Nat → Int
  | 0 => 0
  | k + 1 => ((A[k]?).getD 0 + (B[k]?).getD 0 + cAt A B k) / 4294967296
theorem cAt_zero (A B : List Int) : cAt A B 0 = 0 := rfl
theorem cAt_succ (A B : List Int) (k : Nat) : cAt A B (k + 1) = ((A[k]?).getD 0 + (B[k]?).getD 0 + cAt A B k) / 4294967296 := rfl
def dAt (A B : List Int) (k : Nat) : Int := ((A[k]?).getD 0 + (B[k]?).getD 0 + cAt A B k) % 4294967296
def addL (A B : List Int) : List Int := (List.range A.length).map (dAt A B) ++ [cAt A B A.length]
theorem dgD {l : List Int} (h : ∀ d ∈ l, isD d) (k : Nat) : isD ((l[k]?).getD 0) := by
  cases e : l[k]? with
  | none => exact isD_iff.2 ⟨by decide, by decide⟩
  | some x => exact h x (List.mem_of_getElem? e)
theorem cAt_le {A B : List Int} (hA : ∀ d ∈ A, isD d) (hB : ∀ d ∈ B, isD d) : ∀ k, 0 ≤ cAt A B k ∧ cAt A B k ≤ 1
  | 0 => by simp [cAt_zero]
  | k + 1 => by
    have h1 := dgD hA k
    have h2 := dgD hB k
    have h3 := cAt_le hA hB k
    rw [isD_iff] at h1 h2
    rw [cAt_succ]; omega
theorem fill_set {f : Nat → Int} {n k : Nat} {v : Int} (hk : k < n) (hv : v = f k) : ((List.range k).map f ++ List.replicate (n - k) 0).set k v = (List.range (k + 1)).map f ++ List.replicate (n - (k + 1)) 0 := by
  have e : n - k = (n - (k + 1)) + 1 := by omega
  rw [e, List.replicate_succ, List.set_append_right _ _ (by simp)]
  simp [List.range_succ, hv]
theorem Dg.at {l : List Int} (h : Dg l) {k : Nat} {x : Int} (hx : l[k]? = some x) : isD x := h x (List.mem_of_getElem? hx)
theorem Dg.trim {l : List Int} (h : Dg l) : Dg (trimD l) := fun d hd => h d (List.mem_of_mem_take hd)
def longer (a b : List Int) : List Int := if a.length < b.length then b else a
def shorter (a b : List Int) : List Int := if a.length < b.length then a else b
def addN (a b : List Int) : List Int := trimD (addL (longer (trimD a) (trimD b)) (shorter (trimD a) (trimD b)))
theorem add32_s {x y c : Int} (hx : isD x) (hy : isD y) (hc : 0 ≤ c ∧ c ≤ 1) : isD ((x + y + c) % 4294967296) ∧ 0 ≤ (x + y + c) / 4294967296 ∧ (x + y + c) / 4294967296 ≤ 1 := by
  rw [isD_iff] at *; omega

set_option maxRecDepth 20000 in
set_option maxHeartbeats 4000000 in
theorem add32_c (x : Int) (y : Int) (c : Int) (h : isD x ∧ isD y ∧ 0 ≤ c ∧ c ≤ 1) : Pur Tryz.prog 216 [(wrP Vw (.int .u32) x).den, (wrP Vw (.int .u32) y).den, (wrP Vw (.int .u32) c).den] (tT [uE ((x + y + c) % 4294967296), uE ((x + y + c) / 4294967296)]).den := by
  refine vcF_ok (V := Vw) (reg := ⟨[], []⟩) (ls := []) mixed Tryz.func216 rfl (by kernel_rfl) (Nat.le_of_ble_eq_true rfl) (noNames rfl) (args := [(wrP Vw (.int .u32) x), (wrP Vw (.int .u32) y), (wrP Vw (.int .u32) c)]) (r := tT [uE ((x + y + c) % 4294967296), uE ((x + y + c) / 4294967296)]) ?_
  obtain ⟨hx, hy, hc⟩ := h
  rw [isD_iff] at hx hy
  have e1 : IntKind.u64.wrap x = x := IntWalk.u64_in _ (by omega)
  have e2 : IntKind.u64.wrap y = y := IntWalk.u64_in _ (by omega)
  have e3 : IntKind.u64.wrap c = c := IntWalk.u64_in _ (by omega)
  have e4 : IntKind.u64.wrap (x + y) = x + y := IntWalk.u64_in _ (by omega)
  have e5 : IntKind.u64.wrap (x + y + c) = x + y + c := IntWalk.u64_in _ (by omega)
  have e6 : IntKind.u32.wrap (x + y + c) = (x + y + c) % 4294967296 := by rw [IntKind.wrap_u32]
  have e7 : (x + y + c).fdiv (2 ^ min (Int.toNat 32) IntKind.u64.bits) = (x + y + c) / 4294967296 := by show (x + y + c).fdiv 4294967296 = _; rw [Int.fdiv_eq_ediv_of_nonneg _ (by omega)]
  have e8 : IntKind.u32.wrap ((x + y + c) / 4294967296) = (x + y + c) / 4294967296 := IntWalk.u32_in _ (by omega)
  repeat' (first | intro _ | apply And.intro)
  all_goals first | exact True.intro | omega | (rw [e1, e2, e3, e4, e5, e6]; done) | (rw [e1, e2, e3, e4, e5, e7, e8]; done)
def ct_add32 : Ct Tryz.prog Un := ct3 Vw 216 (.int .u32) (.int .u32) (.int .u32) (fun (x : Int) (y : Int) (c : Int) => isD x ∧ isD y ∧ 0 ≤ c ∧ c ≤ 1) (fun (x : Int) (y : Int) (c : Int) => tT [uE ((x + y + c) % 4294967296), uE ((x + y + c) / 4294967296)]) (fun x y c h => add32_c x y c h)

set_option maxRecDepth 20000 in
theorem sum1_c (x y c : Int) (h : isD x ∧ isD y ∧ 0 ≤ c ∧ c ≤ 1) : Sat Tryz.prog 215 (mkH (denH [(0, Blk.cells (U := Un) [.d (.sc (.int .u32 c))])])) ([uE x, uE y, .c (.ptr 0 0)].map SE.den) (mkH (denH [(0, Blk.cells (U := Un) [.d (.sc (.int .u32 ((x + y + c) / 4294967296)))])])) (· ∈ [0]) (uT ((x + y + c) % 4294967296)).den := by
  refine vcO_ok (V := Vw) (reg := ⟨[ct_add32], []⟩) (ls := []) (keep := [0]) (τ := ⟨[(5, uT ((x + y + c) % 4294967296))], [(0, .cells [.d (.sc (.int .u32 ((x + y + c) / 4294967296)))])], 1⟩) mixed Tryz.func215 rfl (by kernel_rfl) (Nat.le_of_ble_eq_true rfl) rfl rfl rfl rfl (fun _ _ h => h) ?_
  repeat' (first | exact h | intro _ | apply And.intro)
  all_goals first | exact True.intro | rfl

theorem ent215 : Ent Tryz.prog 215 := ent_of Tryz.func215 (by kernel_rfl) rfl
def run_sum1 (H : List (Nat × Blk Un)) (args : List (SE Un)) (K : OOut Un → Prop) : Prop :=
  match H, args with
  | [(0, .cells [.d (.sc (.int .u32 c))])], [.c (.d (.sc (.int .u32 x))), .c (.d (.sc (.int .u32 y))), .c (.ptr 0 0)] =>
    (isD x ∧ isD y ∧ 0 ≤ c ∧ c ≤ 1) ∧ K ⟨uT ((x + y + c) % 4294967296), [(0, .cells [.d (.sc (.int .u32 ((x + y + c) / 4294967296)))])], [], [0]⟩
  | _, _ => False
def oc_sum1 : OCt Tryz.prog Un where
  f := 215
  ent := ent215
  run := run_sum1
  ok H args K h := by
    unfold run_sum1 at h
    split at h
    · rename_i c x y
      obtain ⟨h1, h2⟩ := h
      refine ⟨_, ?_, fun u hu hw => ?_, h2⟩
      · exact (sum1_c x y c h1).stays fun u hu => by
          have : u < 1 := hu.1
          simp; omega
      · have : u < 1 := hu
        simp at hw; omega
    · exact h.elim
theorem longer_len (a b : List Int) : (shorter a b).length ≤ (longer a b).length := by unfold longer shorter; split <;> omega
theorem longer_sm {a b : List Int} (ha : Sm a) (hb : Sm b) : Sm (longer a b) := by unfold longer; split <;> assumption
theorem longer_dg {a b : List Int} (ha : Dg a) (hb : Dg b) : Dg (longer a b) := by unfold longer; split <;> assumption
theorem shorter_dg {a b : List Int} (ha : Dg a) (hb : Dg b) : Dg (shorter a b) := by unfold shorter; split <;> assumption
theorem getD_of {l : List Int} {k : Nat} {x : Int} (h : l[((k : Nat) : Int).toNat]? = some x) : (l[k]?).getD 0 = x := by rw [Int.toNat_natCast] at h; simp [h]
theorem getD_no {l : List Int} {k : Nat} (h : l.length ≤ k) : (l[k]?).getD 0 = 0 := by rw [List.getElem?_eq_none h]; rfl

theorem Dg.atI {l : List Int} (h : Dg l) {k : Nat} {x : Int} (hx : l[((k : Nat) : Int).toNat]? = some x) : isD x := by rw [Int.toNat_natCast] at hx; exact h.at hx
theorem cAt_of {A B : List Int} {k : Nat} {x y : Int} (hA : A[((k : Nat) : Int).toNat]? = some x) (hB : B[((k : Nat) : Int).toNat]? = some y) : (x + y + cAt A B k) / 4294967296 = cAt A B (k + 1) := by rw [cAt_succ, getD_of hA, getD_of hB]
theorem cAt_of0 {A B : List Int} {k : Nat} {x : Int} (hA : A[((k : Nat) : Int).toNat]? = some x) (hk : B.length ≤ k) : (x + 0 + cAt A B k) / 4294967296 = cAt A B (k + 1) := by rw [cAt_succ, getD_of hA, getD_no hk]
theorem fill_of {A B : List Int} {n k : Nat} {x y : Int} (hA : A[((k : Nat) : Int).toNat]? = some x) (hB : B[((k : Nat) : Int).toNat]? = some y) (hk : k < n) :
    ((List.range k).map (dAt A B) ++ List.replicate (n - k) 0).set ((k : Nat) : Int).toNat ((x + y + cAt A B k) % 4294967296) = (List.range (k + 1)).map (dAt A B) ++ List.replicate (n - (k + 1)) 0 := by
  rw [Int.toNat_natCast]; exact fill_set hk (by rw [dAt, getD_of hA, getD_of hB])
theorem fill_of0 {A B : List Int} {n k : Nat} {x : Int} (hA : A[((k : Nat) : Int).toNat]? = some x) (hB : B.length ≤ k) (hk : k < n) :
    ((List.range k).map (dAt A B) ++ List.replicate (n - k) 0).set ((k : Nat) : Int).toNat ((x + 0 + cAt A B k) % 4294967296) = (List.range (k + 1)).map (dAt A B) ++ List.replicate (n - (k + 1)) 0 := by
  rw [Int.toNat_natCast]; exact fill_set hk (by rw [dAt, getD_of hA, getD_no hB])
theorem fill_len (f : Nat → Int) (n k : Nat) (hk : k ≤ n) : ((List.range k).map f ++ List.replicate (n - k) 0).length = n := by simp; omega
theorem fill_fin {A B : List Int} {k : Nat} (hk : k = A.length) : ((List.range k).map (dAt A B) ++ List.replicate (A.length + 1 - k) 0).set ((A.length : Nat) : Int).toNat (cAt A B k) = addL A B := by
  subst hk
  rw [Int.toNat_natCast, List.set_append_right _ _ (by simp)]
  have : A.length + 1 - A.length = 1 := by omega
  rw [this]
  simp [addL]
theorem endX {x n : Nat} (h : x ≤ n) (hd : decide ((x : Int) < (n : Int)) = false) : x = n := by simp only [decide_eq_false_iff_not] at hd; omega
theorem isD_zero : isD 0 := isD_iff.2 ⟨by decide, by decide⟩

set_option maxRecDepth 20000 in
set_option maxHeartbeats 4000000 in
theorem addN0_c (a b A B : List Int) (ha : Sm a) (hb : Sm b) (hA : Dg A) (hB : Dg B) (hsm : A.length ≤ 1099511627776) (hlen : B.length ≤ A.length) (q1 : decide (((trimD a).length : Int) < ((trimD b).length : Int)) = true → trimD b = A ∧ trimD a = B) (q2 : decide (((trimD a).length : Int) < ((trimD b).length : Int)) = false → trimD a = A ∧ trimD b = B) (hc : ∀ k, 0 ≤ cAt A B k ∧ cAt A B k ≤ 1) : Pur Tryz.prog 170 [(wrP Vw (.ls Kd.u32) a).den, (wrP Vw (.ls Kd.u32) b).den] (lT .u32 (trimD (addL A B))).den := by
  refine vcF_ok (V := Vw) (reg := ⟨[ct_trim], [oc_sum1]⟩) (ls := [(8, ⟨Nat, fun x => ⟨[(0, lT .u32 A), (1, lT .u32 B), (5, .e (.c (.ptr 0 0))), (6, .e (.c (.clo 215 [(0, 0)]))), (7, .e (.c (.own 1 (U := Un) Kd.u32 (A.length + 1)))), (27, lT .u32 B), (28, iT B.length), (29, iT x)], [(0, .cells [.d (.sc (.int .u32 (cAt A B x)))]), (1, .rows (U := Un) Kd.u32 ((List.range x).map (dAt A B) ++ List.replicate (A.length + 1 - x) 0))], 2⟩, fun x => x ≤ B.length ∧ True, fun x => B.length - x⟩), (13, ⟨Nat, fun x => ⟨[(0, lT .u32 A), (5, .e (.c (.ptr 0 0))), (6, .e (.c (.clo 215 [(0, 0)]))), (7, .e (.c (.own 1 (U := Un) Kd.u32 (A.length + 1)))), (10, iT x)], [(0, .cells [.d (.sc (.int .u32 (cAt A B x)))]), (1, .rows (U := Un) Kd.u32 ((List.range x).map (dAt A B) ++ List.replicate (A.length + 1 - x) 0))], 2⟩, fun x => B.length ≤ x ∧ x ≤ A.length ∧ True, fun x => A.length - x⟩)]) mixed Tryz.func170 rfl (by kernel_rfl) (Nat.le_of_ble_eq_true rfl) (noNames rfl) (args := [(wrP Vw (.ls Kd.u32) a), (wrP Vw (.ls Kd.u32) b)]) (r := lT .u32 (trimD (addL A B))) ?_
  have hln : ∀ y, decide ((y : Int) < (A.length : Int)) = false → A.length ≤ y.toNat ∨ y < 0 := by intro y hy; simp only [decide_eq_false_iff_not] at hy; omega
  repeat' (first | intro _ | apply And.intro | refine Exists.intro 0 (And.intro ?_ fun (x : Nat) (hx : x ≤ B.length ∧ True) => ?_) | refine Exists.intro B.length (And.intro ?_ fun (x : Nat) (hx : B.length ≤ x ∧ x ≤ A.length ∧ True) => ?_) | refine Exists.intro (x + 1) ?_)
  all_goals first | exact True.intro | rfl | omega | (have := hc x; omega) | exact Dg.atI hA ‹_› | exact Dg.atI hB ‹_› | exact isD_zero | exact (q1 ‹_›).1 | exact (q1 ‹_›).2 | exact (q2 ‹_›).1 | exact (q2 ‹_›).2 | exact cAt_of ‹_› ‹_› | exact cAt_of0 ‹_› hx.1 | exact fill_of ‹_› ‹_› (by simp only [decide_eq_true_eq, decide_eq_false_iff_not] at *; omega) | exact fill_of0 ‹_› hx.1 (by simp only [decide_eq_true_eq, decide_eq_false_iff_not] at *; omega) | omega | exact (cAt_zero A B).symm | (rw [fill_len _ _ _ (by omega)]; simp only [decide_eq_true_eq, decide_eq_false_iff_not] at *; omega) | (simp only [decide_eq_true_eq, decide_eq_false_iff_not] at *; omega) | (have e := q1 ‹_›; rw [e.1]; simp only [ti168]; omega) | (have e := q2 ‹_›; rw [e.1]; simp only [ti168]; omega) | (have e := q1 ‹_›; rw [e.2]) | (have e := q2 ‹_›; rw [e.2]) | (have e := q1 ‹_›; have e2 : ((A.length : Int) + 1).toNat = A.length + 1 := (by omega); rw [e.1, e2]; rfl) | (have e := q2 ‹_›; have e2 : ((A.length : Int) + 1).toNat = A.length + 1 := (by omega); rw [e.1, e2]; rfl) | (have e := endX hx.1 ‹_›; rw [e]) | (rw [List.length_set, fill_len _ _ _ (by omega)]) | (rw [fill_fin (endX hx.2.1 ‹_›)]) | trace_state

theorem addN_c (a b : List Int) (h : Sm a ∧ Sm b ∧ Dg a ∧ Dg b) : Pur Tryz.prog 170 [(wrP Vw (.ls Kd.u32) a).den, (wrP Vw (.ls Kd.u32) b).den] (lT .u32 (addN a b)).den := by
  obtain ⟨ha, hb, hda, hdb⟩ := h
  have hA := longer_dg hda.trim hdb.trim
  have hB := shorter_dg hda.trim hdb.trim
  refine addN0_c a b (longer (trimD a) (trimD b)) (shorter (trimD a) (trimD b)) ha hb hA hB (longer_sm (trimD_sm ha) (trimD_sm hb)) (longer_len _ _) (fun e => ?_) (fun e => ?_) (cAt_le hA hB)
  · simp only [decide_eq_true_eq] at e
    unfold longer shorter
    rw [if_pos (by omega), if_pos (by omega)]; exact ⟨rfl, rfl⟩
  · simp only [decide_eq_false_iff_not] at e
    unfold longer shorter
    rw [if_neg (by omega), if_neg (by omega)]; exact ⟨rfl, rfl⟩
def ct_addN : Ct Tryz.prog Un := ct2 Vw 170 (.ls Kd.u32) (.ls Kd.u32) (fun (a : List Int) (b : List Int) => Sm a ∧ Sm b ∧ Dg a ∧ Dg b) (fun (a : List Int) (b : List Int) => lT .u32 (addN a b)) (fun a b h => addN_c a b h)

end Go.Proofs.YtfbmhjooliccnaaGreatDoor
end

section
namespace Go.Proofs.YtfbmhjooliccnaaGreatDoor
open Go Go.Ab

def cmpF (A B : List Int) : Nat → Int
  | 0 => 0
  | k + 1 => if (A[k]?).getD 0 < (B[k]?).getD 0 then -1 else if (B[k]?).getD 0 < (A[k]?).getD 0 then 1 else cmpF A B k
def cmpN (a b : List Int) : Int :=
  if (trimD a).length < (trimD b).length then -1 else if (trimD b).length < (trimD a).length then 1 else cmpF (trimD a) (trimD b) (trimD a).length
theorem cmpF_lt {A B : List Int} {k : Nat} {x y R : Int} (h : cmpF A B k = R) (hk : 0 < k) (hA : A[((k : Int) - 1).toNat]? = some x) (hB : B[((k : Int) - 1).toNat]? = some y) (hl : decide (x < y) = true) : -1 = R := by
  obtain ⟨j, rfl⟩ : ∃ j, k = j + 1 := ⟨k - 1, by omega⟩
  have e : (((j + 1 : Nat) : Int) - 1).toNat = j := by omega
  rw [e] at hA hB
  rw [cmpF, hA, hB, Option.getD_some, Option.getD_some, if_pos (by simpa using hl)] at h
  exact h
theorem cmpF_gt {A B : List Int} {k : Nat} {x y R : Int} (h : cmpF A B k = R) (hk : 0 < k) (hA : A[((k : Int) - 1).toNat]? = some x) (hB : B[((k : Int) - 1).toNat]? = some y) (hg : decide (y < x) = true) : 1 = R := by
  obtain ⟨j, rfl⟩ : ∃ j, k = j + 1 := ⟨k - 1, by omega⟩
  have e : (((j + 1 : Nat) : Int) - 1).toNat = j := by omega
  rw [e] at hA hB
  have hg : y < x := by simpa using hg
  rw [cmpF, hA, hB, Option.getD_some, Option.getD_some, if_neg (by omega), if_pos hg] at h
  exact h
theorem cmpF_eq {A B : List Int} {k : Nat} {x y x' y' R : Int} (h : cmpF A B k = R) (hk : 0 < k) (hA : A[((k : Int) - 1).toNat]? = some x) (hB : B[((k : Int) - 1).toNat]? = some y) (hl : decide (x < y) = false) (hA' : A[((k : Int) - 1).toNat]? = some x') (hB' : B[((k : Int) - 1).toNat]? = some y') (hg : decide (y' < x') = false) : cmpF A B (k - 1) = R := by
  rw [hA] at hA'
  rw [hB] at hB'
  cases hA'
  cases hB'
  obtain ⟨j, rfl⟩ : ∃ j, k = j + 1 := ⟨k - 1, by omega⟩
  have e : (((j + 1 : Nat) : Int) - 1).toNat = j := by omega
  rw [e] at hA hB
  have hg : ¬ y < x := by simpa using hg
  have hl : ¬ x < y := by simpa using hl
  rw [cmpF, hA, hB, Option.getD_some, Option.getD_some, if_neg hl, if_neg hg] at h
  exact h
theorem cmpF_end {A B : List Int} {k : Nat} {R : Int} (h : cmpF A B k = R) (hk : decide (0 ≤ (k : Int) - 1) = false) : 0 = R := by
  have : k = 0 := by
    simp only [decide_eq_false_iff_not] at hk
    omega
  subst this
  exact h

set_option maxRecDepth 20000 in
set_option maxHeartbeats 4000000 in
theorem cmpN_c (a : List Int) (b : List Int)  : Pur Tryz.prog 171 [(wrP Vw (.ls Kd.u32) a).den, (wrP Vw (.ls Kd.u32) b).den] (iT (cmpN a b)).den := by
  refine vcF_ok (V := Vw) (reg := ⟨[ct_trim], []⟩) (ls := [(7, ⟨Nat, fun x => ⟨[(0, lT .u32 (trimD a)), (1, lT .u32 (trimD b)), (5, iT ((x : Int) - 1))], [], 0⟩, fun x => x ≤ (trimD a).length ∧ (trimD a).length = (trimD b).length ∧ (trimD a).length ≤ 9223372036854775807 ∧ cmpF (trimD a) (trimD b) x = cmpN a b, fun x => x⟩)]) mixed Tryz.func171 rfl (by kernel_rfl) (Nat.le_of_ble_eq_true rfl) (noNames rfl) (args := [(wrP Vw (.ls Kd.u32) a), (wrP Vw (.ls Kd.u32) b)]) (r := iT (cmpN a b)) ?_
  have hu : cmpN a b = if (trimD a).length < (trimD b).length then -1 else if (trimD b).length < (trimD a).length then 1 else cmpF (trimD a) (trimD b) (trimD a).length := rfl
  repeat' (first | intro _ | apply And.intro | refine Exists.intro (trimD a).length (And.intro ?_ fun (x : Nat) (hx : x ≤ (trimD a).length ∧ (trimD a).length = (trimD b).length ∧ (trimD a).length ≤ 9223372036854775807 ∧ cmpF (trimD a) (trimD b) x = cmpN a b) => ?_) | refine Exists.intro (x - 1) ?_)
  all_goals first | exact True.intro | rfl | omega | (show (_ && _) = true; kernel_rfl) | (simp only [decide_eq_true_eq, decide_eq_false_iff_not] at *; omega) | (exact cmpF_lt hx.2.2.2 (by (simp only [decide_eq_true_eq, decide_eq_false_iff_not] at *; omega)) ‹_› ‹_› ‹_›) | (exact cmpF_gt hx.2.2.2 (by (simp only [decide_eq_true_eq, decide_eq_false_iff_not] at *; omega)) ‹_› ‹_› ‹_›) | (exact cmpF_end hx.2.2.2 ‹_›) | (rename_i x3 h5 x2 h4 h3 x1 h2 x0 h1 h0; exact cmpF_eq hx.2.2.2 (by (simp only [decide_eq_true_eq, decide_eq_false_iff_not] at *; omega)) h5 h4 h3 h2 h1 h0)
def ct_cmpN : Ct Tryz.prog Un := ct2 Vw 171 (.ls Kd.u32) (.ls Kd.u32) (fun (a : List Int) (b : List Int) => True) (fun (a : List Int) (b : List Int) => iT (cmpN a b)) (fun a b h => cmpN_c a b )

end Go.Proofs.YtfbmhjooliccnaaGreatDoor
end

section
namespace Go.Proofs.YtfbmhjooliccnaaGreatDoor
open Go Go.Ab

theorem bv_wrap (v : BitVec 32) : IntKind.u32.wrap (v.toNat : Int) = (v.toNat : Int) := IntWalk.u32_in _ (by have := v.isLt; omega)
theorem bv_of (v : BitVec 32) : BitVec.ofInt 32 (v.toNat : Int) = v := by simp
theorem bv_wrapK (v : BitVec IntKind.u32.bits) : IntKind.u32.wrap (v.toNat : Int) = (v.toNat : Int) := bv_wrap v
theorem bv_ofK (v : BitVec IntKind.u32.bits) : BitVec.ofInt IntKind.u32.bits (v.toNat : Int) = v := bv_of v
theorem bv_msb (v : BitVec 32) : (v.toNat : Int).fdiv 2147483648 = if v.msb then 1 else 0 := by
  have h := v.isLt
  rw [Int.fdiv_eq_ediv_of_nonneg _ (by omega), BitVec.msb_eq_decide]
  by_cases h2 : 2147483648 ≤ v.toNat
  · rw [if_pos (by simpa using h2)]; omega
  · rw [if_neg (by simpa using h2)]; omega
theorem of_msb {x : Int} (hx : 0 ≤ x ∧ x < 4294967296) : (BitVec.ofInt 32 x).msb = decide (2147483648 ≤ x) := by
  rw [BitVec.msb_eq_decide]
  have e : ((BitVec.ofInt 32 x).toNat : Int) = x := by rw [BitVec.toNat_ofInt]; omega
  have : (2 ^ (32 - 1) ≤ (BitVec.ofInt 32 x).toNat) ↔ 2147483648 ≤ x := by omega
  exact decide_eq_decide.2 this
theorem borrow_eq {x y c d : Int} (hx : 0 ≤ x ∧ x < 4294967296) (hy : 0 ≤ y ∧ y < 4294967296) (hc : 0 ≤ c ∧ c ≤ 1) (hd : d = (x - y - c) % 4294967296) :
    (((((BitVec.ofInt 32 4294967295 ^^^ BitVec.ofInt 32 x) &&& BitVec.ofInt 32 y) ||| ((BitVec.ofInt 32 4294967295 ^^^ (BitVec.ofInt 32 x ^^^ BitVec.ofInt 32 y)) &&& BitVec.ofInt 32 d)).toNat : Int)).fdiv 2147483648 = if x < y + c then 1 else 0 := by
  rw [bv_msb]
  have e : (BitVec.ofInt 32 4294967295).msb = true := rfl
  have hd2 : 0 ≤ d ∧ d < 4294967296 := by omega
  rw [BitVec.msb_or, BitVec.msb_and, BitVec.msb_and, BitVec.msb_xor, BitVec.msb_xor, BitVec.msb_xor, e, of_msb hx, of_msb hy, of_msb hd2]
  by_cases h1 : 2147483648 ≤ x <;> by_cases h2 : 2147483648 ≤ y <;> by_cases h3 : 2147483648 ≤ d <;> simp only [h1, h2, h3, decide_true, decide_false, Bool.xor_true, Bool.xor_false, Bool.not_true, Bool.not_false, Bool.true_and, Bool.false_and, Bool.and_true, Bool.and_false, Bool.or_true, Bool.or_false, Bool.true_or, Bool.false_or, if_true, Bool.false_eq_true, if_false]
  all_goals first | (rw [if_pos (by omega)]; done) | (rw [if_neg (by omega)]; done)

set_option maxRecDepth 20000 in
set_option maxHeartbeats 4000000 in
theorem sub32_c (x : Int) (y : Int) (c : Int) (h : isD x ∧ isD y ∧ 0 ≤ c ∧ c ≤ 1) : Pur Tryz.prog 218 [(wrP Vw (.int .u32) x).den, (wrP Vw (.int .u32) y).den, (wrP Vw (.int .u32) c).den] (tT [uE ((x - y - c) % 4294967296), uE (if x < y + c then 1 else 0)]).den := by
  refine vcF_ok (V := Vw) (reg := ⟨[], []⟩) (ls := []) mixed Tryz.func218 rfl (by kernel_rfl) (Nat.le_of_ble_eq_true rfl) (noNames rfl) (args := [(wrP Vw (.int .u32) x), (wrP Vw (.int .u32) y), (wrP Vw (.int .u32) c)]) (r := tT [uE ((x - y - c) % 4294967296), uE (if x < y + c then 1 else 0)]) ?_
  obtain ⟨hx, hy, hc⟩ := h
  rw [isD_iff] at hx hy
  have e0 : IntKind.u32.wrap (IntKind.u32.wrap (x - y) - c) = (x - y - c) % 4294967296 := by rw [IntKind.wrap_u32, IntKind.wrap_u32]; omega
  have e1 : IntKind.u32.bits = 32 := rfl
  have e2 : (if IntKind.u32.signed = true then -1 else IntKind.u32.max) = 4294967295 := rfl
  have e3 : (2 : Int) ^ min (Int.toNat 31) 32 = 2147483648 := rfl
  repeat' (first | intro _ | apply And.intro)
  all_goals first | exact True.intro | omega | exact e0 | (rw [e2]; simp only [bv_wrapK, bv_ofK, e0]; exact borrow_eq hx hy hc rfl)
def ct_sub32 : Ct Tryz.prog Un := ct3 Vw 218 (.int .u32) (.int .u32) (.int .u32) (fun (x : Int) (y : Int) (c : Int) => isD x ∧ isD y ∧ 0 ≤ c ∧ c ≤ 1) (fun (x : Int) (y : Int) (c : Int) => tT [uE ((x - y - c) % 4294967296), uE (if x < y + c then 1 else 0)]) (fun x y c h => sub32_c x y c h)

set_option maxRecDepth 20000 in
theorem dif1_c (x y c : Int) (h : isD x ∧ isD y ∧ 0 ≤ c ∧ c ≤ 1) : Sat Tryz.prog 217 (mkH (denH [(0, Blk.cells (U := Un) [.d (.sc (.int .u32 c))])])) ([uE x, uE y, .c (.ptr 0 0)].map SE.den) (mkH (denH [(0, Blk.cells (U := Un) [.d (.sc (.int .u32 (if x < y + c then 1 else 0)))])])) (· ∈ [0]) (uT ((x - y - c) % 4294967296)).den := by
  refine vcO_ok (V := Vw) (reg := ⟨[ct_sub32], []⟩) (ls := []) (keep := [0]) (τ := ⟨[(5, uT ((x - y - c) % 4294967296))], [(0, .cells [.d (.sc (.int .u32 (if x < y + c then 1 else 0)))])], 1⟩) mixed Tryz.func217 rfl (by kernel_rfl) (Nat.le_of_ble_eq_true rfl) rfl rfl rfl rfl (fun _ _ h => h) ?_
  repeat' (first | exact h | intro _ | apply And.intro)
  all_goals first | exact True.intro | rfl
theorem ent217 : Ent Tryz.prog 217 := ent_of Tryz.func217 (by kernel_rfl) rfl
def run_dif1 (H : List (Nat × Blk Un)) (args : List (SE Un)) (K : OOut Un → Prop) : Prop :=
  match H, args with
  | [(0, .cells [.d (.sc (.int .u32 c))])], [.c (.d (.sc (.int .u32 x))), .c (.d (.sc (.int .u32 y))), .c (.ptr 0 0)] =>
    (isD x ∧ isD y ∧ 0 ≤ c ∧ c ≤ 1) ∧ K ⟨uT ((x - y - c) % 4294967296), [(0, .cells [.d (.sc (.int .u32 (if x < y + c then 1 else 0)))])], [], [0]⟩
  | _, _ => False
def oc_dif1 : OCt Tryz.prog Un where
  f := 217
  ent := ent217
  run := run_dif1
  ok H args K h := by
    unfold run_dif1 at h
    split at h
    · rename_i c x y
      obtain ⟨h1, h2⟩ := h
      refine ⟨_, ?_, fun u hu hw => ?_, h2⟩
      · exact (dif1_c x y c h1).stays fun u hu => by
          have : u < 1 := hu.1
          simp; omega
      · have : u < 1 := hu
        simp at hw; omega
    · exact h.elim
def bAt (A B : List Int) : Nat → Int
  | 0 => 0
  | k + 1 => if (A[k]?).getD 0 < (B[k]?).getD 0 + bAt A B k then 1 else 0
theorem bAt_zero (A B : List Int) : bAt A B 0 = 0 := rfl
theorem bAt_succ (A B : List Int) (k : Nat) : bAt A B (k + 1) = if (A[k]?).getD 0 < (B[k]?).getD 0 + bAt A B k then 1 else 0 := rfl
def eAt (A B : List Int) (k : Nat) : Int := ((A[k]?).getD 0 - (B[k]?).getD 0 - bAt A B k) % 4294967296
def subL (A B : List Int) : List Int := (List.range A.length).map (eAt A B)
def subN (a b : List Int) : List Int := if cmpN a b < 0 then [] else trimD (subL (trimD a) (trimD b))
theorem bAt_le (A B : List Int) : ∀ k, 0 ≤ bAt A B k ∧ bAt A B k ≤ 1
  | 0 => by rw [bAt_zero]; omega
  | k + 1 => by rw [bAt_succ]; split <;> omega
theorem bAt_of {A B : List Int} {k : Nat} {x y : Int} (hA : A[((k : Nat) : Int).toNat]? = some x) (hB : B[((k : Nat) : Int).toNat]? = some y) : (if x < y + bAt A B k then 1 else 0) = bAt A B (k + 1) := by rw [bAt_succ, getD_of hA, getD_of hB]
theorem bAt_of0 {A B : List Int} {k : Nat} {x : Int} (hA : A[((k : Nat) : Int).toNat]? = some x) (hk : B.length ≤ k) : (if x < 0 + bAt A B k then 1 else 0) = bAt A B (k + 1) := by rw [bAt_succ, getD_of hA, getD_no hk]
theorem sfill_of {A B : List Int} {n k : Nat} {x y : Int} (hA : A[((k : Nat) : Int).toNat]? = some x) (hB : B[((k : Nat) : Int).toNat]? = some y) (hk : k < n) :
    ((List.range k).map (eAt A B) ++ List.replicate (n - k) 0).set ((k : Nat) : Int).toNat ((x - y - bAt A B k) % 4294967296) = (List.range (k + 1)).map (eAt A B) ++ List.replicate (n - (k + 1)) 0 := by
  rw [Int.toNat_natCast]; exact fill_set hk (by rw [eAt, getD_of hA, getD_of hB])
theorem sfill_of0 {A B : List Int} {n k : Nat} {x : Int} (hA : A[((k : Nat) : Int).toNat]? = some x) (hB : B.length ≤ k) (hk : k < n) :
    ((List.range k).map (eAt A B) ++ List.replicate (n - k) 0).set ((k : Nat) : Int).toNat ((x - 0 - bAt A B k) % 4294967296) = (List.range (k + 1)).map (eAt A B) ++ List.replicate (n - (k + 1)) 0 := by
  rw [Int.toNat_natCast]; exact fill_set hk (by rw [eAt, getD_of hA, getD_no hB])
theorem sfill_fin {A B : List Int} {k : Nat} (hk : k = A.length) : (List.range k).map (eAt A B) ++ List.replicate (A.length - k) 0 = subL A B := by
  subst hk
  rw [Nat.sub_self]
  simp [subL]

set_option maxRecDepth 20000 in
set_option maxHeartbeats 4000000 in
theorem subN0_c (a b A B : List Int) (ha : Sm a) (hb : Sm b) (hA : Dg A) (hB : Dg B) (hsm : A.length ≤ 1099511627776) (hlen : decide (cmpN (trimD a) (trimD b) < 0) = false → B.length ≤ A.length) (q1 : trimD a = A) (q2 : trimD b = B) (hc : ∀ k, 0 ≤ bAt A B k ∧ bAt A B k ≤ 1) : Pur Tryz.prog 172 [(wrP Vw (.ls Kd.u32) a).den, (wrP Vw (.ls Kd.u32) b).den] (tT [lE .u32 (if cmpN A B < 0 then [] else trimD (subL A B)), bE (decide (0 ≤ cmpN A B))]).den := by
  refine vcF_ok (V := Vw) (reg := ⟨[ct_trim, ct_cmpN], [oc_dif1]⟩) (ls := [(8, ⟨Nat, fun x => ⟨[(0, lT .u32 A), (1, lT .u32 B), (6, .e (.c (.ptr 0 0))), (7, .e (.c (.clo 217 [(0, 0)]))), (8, .e (.c (.own 1 (U := Un) Kd.u32 A.length))), (24, lT .u32 B), (25, iT B.length), (26, iT x)], [(0, .cells [.d (.sc (.int .u32 (bAt A B x)))]), (1, .rows (U := Un) Kd.u32 ((List.range x).map (eAt A B) ++ List.replicate (A.length - x) 0))], 2⟩, fun x => x ≤ B.length ∧ True, fun x => B.length - x⟩), (13, ⟨Nat, fun x => ⟨[(0, lT .u32 A), (6, .e (.c (.ptr 0 0))), (7, .e (.c (.clo 217 [(0, 0)]))), (8, .e (.c (.own 1 (U := Un) Kd.u32 A.length))), (11, iT x)], [(0, .cells [.d (.sc (.int .u32 (bAt A B x)))]), (1, .rows (U := Un) Kd.u32 ((List.range x).map (eAt A B) ++ List.replicate (A.length - x) 0))], 2⟩, fun x => B.length ≤ x ∧ x ≤ A.length ∧ True, fun x => A.length - x⟩)]) mixed Tryz.func172 rfl (by kernel_rfl) (Nat.le_of_ble_eq_true rfl) (noNames rfl) (args := [(wrP Vw (.ls Kd.u32) a), (wrP Vw (.ls Kd.u32) b)]) (r := tT [lE .u32 (if cmpN A B < 0 then [] else trimD (subL A B)), bE (decide (0 ≤ cmpN A B))]) ?_
  repeat' (first | intro _ | apply And.intro | refine Exists.intro 0 (And.intro ?_ fun (x : Nat) (hx : x ≤ B.length ∧ True) => ?_) | refine Exists.intro B.length (And.intro ?_ fun (x : Nat) (hx : B.length ≤ x ∧ x ≤ A.length ∧ True) => ?_) | refine Exists.intro (x + 1) ?_)
  all_goals first | exact True.intro | rfl | omega | (rw [fill_len _ _ _ hx.2.1]; done) | (have e : ¬ cmpN (trimD a) (trimD b) < 0 := (by simpa using ‹decide (cmpN (trimD a) (trimD b) < 0) = false›); rw [q1, q2] at e; first | (rw [sfill_fin (endX hx.2.1 ‹_›), if_neg e]; done) | (rw [decide_eq_true (by omega)]; done)) | (have := hlen ‹_›; simp only [decide_eq_true_eq, decide_eq_false_iff_not] at *; omega) | (have := hlen ‹_›; rw [fill_len _ _ _ (by omega)]; simp only [decide_eq_true_eq, decide_eq_false_iff_not] at *; omega) | (rw [q2]; done) | (rw [q1]; rfl) | (have e := endX hx.1 ‹_›; rw [e]; done) | (have e := endX hx.2.1 ‹_›; rw [sfill_fin e]; done) | (have e : cmpN (trimD a) (trimD b) < 0 := (by simpa using ‹decide (cmpN (trimD a) (trimD b) < 0) = true›); rw [q1, q2] at e; first | (rw [if_pos e]; done) | (rw [decide_eq_false (by omega)]; done)) | (rw [q1]; simp only [ti168]; omega) | exact True.intro | rfl | omega | (have := hc x; omega) | exact Dg.atI hA ‹_› | exact Dg.atI hB ‹_› | exact isD_zero | exact bAt_of ‹_› ‹_› | exact bAt_of0 ‹_› hx.1 | exact sfill_of ‹_› ‹_› (by simp only [decide_eq_true_eq, decide_eq_false_iff_not] at *; omega) | exact sfill_of0 ‹_› hx.1 (by simp only [decide_eq_true_eq, decide_eq_false_iff_not] at *; omega) | exact (bAt_zero A B).symm | (rw [fill_len _ _ _ (by omega)]; simp only [decide_eq_true_eq, decide_eq_false_iff_not] at *; omega) | (simp only [decide_eq_true_eq, decide_eq_false_iff_not] at *; omega)

theorem tlen_last (l : List Int) : ∀ k, tlen l k = 0 ∨ ∃ j, tlen l k = j + 1 ∧ l[j]? ≠ some 0
  | 0 => Or.inl rfl
  | k + 1 => by
    rw [tlen]
    by_cases h : l[k]? = some 0
    · rw [if_pos h]; exact tlen_last l k
    · rw [if_neg h]; exact Or.inr ⟨k, rfl, h⟩
theorem trimD_idem (l : List Int) : trimD (trimD l) = trimD l := by
  have hle := tlen_le l l.length
  have hlen : (trimD l).length = tlen l l.length := by simp [trimD]; omega
  rcases tlen_last l l.length with h | ⟨j, h, hj⟩
  · have : trimD l = [] := by rw [trimD, h]; rfl
    rw [this]; rfl
  · have e : tlen (trimD l) (trimD l).length = j + 1 := by
      rw [hlen, h, tlen, if_neg]
      rw [trimD, h, List.getElem?_take, if_pos (by omega)]
      exact hj
    have : trimD (trimD l) = (trimD l).take (j + 1) := by rw [← e]; rfl
    rw [this, List.take_of_length_le (by omega)]
theorem cmpN_trim (a b : List Int) : cmpN (trimD a) (trimD b) = cmpN a b := by
  unfold cmpN; rw [trimD_idem, trimD_idem]
theorem cmpN_len {a b : List Int} (h : ¬ cmpN a b < 0) : (trimD b).length ≤ (trimD a).length := by
  unfold cmpN at h
  by_cases h2 : (trimD a).length < (trimD b).length
  · rw [if_pos h2] at h; omega
  · omega
theorem subN_c (a b : List Int) (h : Sm a ∧ Sm b ∧ Dg a ∧ Dg b) : Pur Tryz.prog 172 [(wrP Vw (.ls Kd.u32) a).den, (wrP Vw (.ls Kd.u32) b).den] (tT [lE .u32 (subN a b), bE (decide (0 ≤ cmpN a b))]).den := by
  obtain ⟨ha, hb, hda, hdb⟩ := h
  have := subN0_c a b (trimD a) (trimD b) ha hb hda.trim hdb.trim (trimD_sm ha) (fun e => ?_) rfl rfl (bAt_le _ _)
  · rw [cmpN_trim] at this; exact this
  · rw [cmpN_trim] at e
    exact cmpN_len (by simpa using e)
def ct_subN : Ct Tryz.prog Un := ct2 Vw 172 (.ls Kd.u32) (.ls Kd.u32) (fun (a : List Int) (b : List Int) => Sm a ∧ Sm b ∧ Dg a ∧ Dg b) (fun (a : List Int) (b : List Int) => tT [lE .u32 (subN a b), bE (decide (0 ≤ cmpN a b))]) (fun a b h => subN_c a b h)

end Go.Proofs.YtfbmhjooliccnaaGreatDoor
end

section
namespace Go.Proofs.YtfbmhjooliccnaaGreatDoor
open Go Go.Ab

@[irreducible] def addI (x y : IntD) : IntD :=
  if x.neg = y.neg then signedD x.neg (addN x.abs y.abs)
  else if 0 ≤ cmpN x.abs y.abs then signedD x.neg (subN x.abs y.abs)
  else signedD y.neg (subN y.abs x.abs)
theorem addI_1 {x y : IntD} (h : (x.neg == y.neg) = true) : signedD x.neg (addN x.abs y.abs) = addI x y := by unfold addI; rw [if_pos (by simpa using h)]
theorem addI_2 {x y : IntD} (h : (x.neg == y.neg) = false) (h2 : decide (0 ≤ cmpN x.abs y.abs) = true) : signedD x.neg (subN x.abs y.abs) = addI x y := by unfold addI; rw [if_neg (by simpa using h), if_pos (by simpa using h2)]
theorem addI_3 {x y : IntD} (h : (x.neg == y.neg) = false) (h2 : decide (0 ≤ cmpN x.abs y.abs) = false) : signedD y.neg (subN y.abs x.abs) = addI x y := by unfold addI; rw [if_neg (by simpa using h), if_neg (by simpa using h2)]
theorem addI_1neg {x y : IntD} (h : (x.neg == y.neg) = true) : (signedD x.neg (addN x.abs y.abs)).neg = (addI x y).neg := by rw [addI_1 h]
theorem addI_1abs {x y : IntD} (h : (x.neg == y.neg) = true) : (signedD x.neg (addN x.abs y.abs)).abs = (addI x y).abs := by rw [addI_1 h]
theorem addI_2neg {x y : IntD} (h : (x.neg == y.neg) = false) (h2 : decide (0 ≤ cmpN x.abs y.abs) = true) : (signedD x.neg (subN x.abs y.abs)).neg = (addI x y).neg := by rw [addI_2 h h2]
theorem addI_2abs {x y : IntD} (h : (x.neg == y.neg) = false) (h2 : decide (0 ≤ cmpN x.abs y.abs) = true) : (signedD x.neg (subN x.abs y.abs)).abs = (addI x y).abs := by rw [addI_2 h h2]
theorem addI_3neg {x y : IntD} (h : (x.neg == y.neg) = false) (h2 : decide (0 ≤ cmpN x.abs y.abs) = false) : (signedD y.neg (subN y.abs x.abs)).neg = (addI x y).neg := by rw [addI_3 h h2]
theorem addI_3abs {x y : IntD} (h : (x.neg == y.neg) = false) (h2 : decide (0 ≤ cmpN x.abs y.abs) = false) : (signedD y.neg (subN y.abs x.abs)).abs = (addI x y).abs := by rw [addI_3 h h2]

set_option maxRecDepth 20000 in
set_option maxHeartbeats 4000000 in
theorem addI_c (x : IntD) (y : IntD) (h : Sm x.abs ∧ Sm y.abs ∧ Dg x.abs ∧ Dg y.abs) : Pur Tryz.prog 124 [(wrP Vw (.el Kd.intd) x).den, (wrP Vw (.el Kd.intd) y).den] (eT .intd (addI x y)).den := by
  refine vcF_ok (V := Vw) (reg := ⟨[ct_addN, ct_subN, ct_cmpN, ct_signed], []⟩) (ls := []) mixed Tryz.func124 rfl (by kernel_rfl) (Nat.le_of_ble_eq_true rfl) (noNames rfl) (args := [(wrP Vw (.el Kd.intd) x), (wrP Vw (.el Kd.intd) y)]) (r := eT .intd (addI x y)) ?_
  obtain ⟨h1, h2, (h3 : ∀ d ∈ x.abs, isD d), (h4 : ∀ d ∈ y.abs, isD d)⟩ := h
  repeat' (first | intro _ | apply And.intro)
  all_goals first | exact True.intro | ((with_reducible show (_ && _) = true); kernel_rfl) | (with_reducible exact h1) | (with_reducible exact h2) | (rename_i hd; with_reducible exact h3 _ hd) | (rename_i hd; with_reducible exact h4 _ hd) | (rename_i hd; with_reducible exact addI_1neg hd) | (rename_i hd; with_reducible exact addI_1abs hd) | (rename_i hd hd2; first | with_reducible exact addI_2neg hd hd2 | with_reducible exact addI_2abs hd hd2 | with_reducible exact addI_3neg hd hd2 | with_reducible exact addI_3abs hd hd2)
def ct_addI : Ct Tryz.prog Un := ct2 Vw 124 (.el Kd.intd) (.el Kd.intd) (fun (x : IntD) (y : IntD) => Sm x.abs ∧ Sm y.abs ∧ Dg x.abs ∧ Dg y.abs) (fun (x : IntD) (y : IntD) => eT .intd (addI x y)) (fun x y h => addI_c x y h)

end Go.Proofs.YtfbmhjooliccnaaGreatDoor
end

section
namespace Go.Proofs.YtfbmhjooliccnaaGreatDoor
open Go Go.Ab

def negM (q : MonoD) : Bool := decide (q.e1 < 0 ∨ q.e2 < 0 ∨ q.e3 < 0 ∨ q.e4 < 0)
def goodTo (q : MonoD) (x : Nat) : Prop := (0 < x → 0 ≤ q.e1) ∧ (1 < x → 0 ≤ q.e2) ∧ (2 < x → 0 ≤ q.e3) ∧ (3 < x → 0 ≤ q.e4)

set_option maxRecDepth 20000 in
set_option maxHeartbeats 4000000 in
theorem negM_c (q : MonoD)  : Pur Tryz.prog 220 [(wrP Vw (.el Kd.mono) q).den] (bT (negM q)).den := by
  refine vcF_ok (V := Vw) (reg := ⟨[], []⟩) (ls := [(2, ⟨Nat, fun x => ⟨[(5, .e (.agg [.d (.sc (.int .i64 q.e1)), .d (.sc (.int .i64 q.e2)), .d (.sc (.int .i64 q.e3)), .d (.sc (.int .i64 q.e4))])), (6, iT x)], [], 0⟩, fun x => x ≤ 4 ∧ goodTo q x, fun x => 4 - x⟩)]) mixed Tryz.func220 rfl (by kernel_rfl) (Nat.le_of_ble_eq_true rfl) (noNames rfl) (args := [(wrP Vw (.el Kd.mono) q)]) (r := bT (negM q)) ?_
  unfold goodTo
  repeat' (first | intro _ | apply And.intro | refine Exists.intro 0 (And.intro ?_ fun (x : Nat) (hx : x ≤ 4 ∧ ((0 < x → 0 ≤ q.e1) ∧ (1 < x → 0 ≤ q.e2) ∧ (2 < x → 0 ≤ q.e3) ∧ (3 < x → 0 ≤ q.e4))) => ?_) | refine Exists.intro (x + 1) ?_)
  all_goals first | exact True.intro | rfl | omega | (simp only [decide_eq_true_eq, decide_eq_false_iff_not] at *; omega) | (symm; unfold negM; simp only [decide_eq_true_eq, decide_eq_false_iff_not] at *; omega)
def ct_negM : Ct Tryz.prog Un := ct1 Vw 220 (.el Kd.mono) (fun (q : MonoD) => True) (fun (q : MonoD) => bT (negM q)) (fun q h => negM_c q )

end Go.Proofs.YtfbmhjooliccnaaGreatDoor
end

section
namespace Go.Proofs.YtfbmhjooliccnaaGreatDoor
open Go Go.Ab

@[irreducible] def sameI (x y : IntD) : Bool := decide (x.neg = y.neg ∧ x.abs = y.abs)
theorem sameI_f {x y : IntD} (h : ¬ (x.neg = y.neg ∧ x.abs = y.abs)) : false = sameI x y := by unfold sameI; rw [decide_eq_false h]
theorem sameI_neg {x y : IntD} (h : (!x.neg == y.neg) = true) : false = sameI x y := sameI_f fun e => by rw [e.1] at h; simp at h
theorem sameI_negE {x y : IntD} (h : (!x.neg == y.neg) = false) : x.neg = y.neg := by simpa using h
theorem sameI_len {x y : IntD} (h : ((x.abs.length : Int) != (y.abs.length : Int)) = true) : false = sameI x y := sameI_f fun e => by rw [e.2] at h; simp at h
theorem sameI_lenE {x y : IntD} (h : ((x.abs.length : Int) != (y.abs.length : Int)) = false) : x.abs.length = y.abs.length := by
  have : (x.abs.length : Int) = (y.abs.length : Int) := by simpa using h
  omega
theorem sameI_dig {x y : IntD} {i : Nat} {u v : Int} (h1 : x.abs[((i : Nat) : Int).toNat]? = some u) (h2 : y.abs[((i : Nat) : Int).toNat]? = some v) (h : (u != v) = true) : false = sameI x y := sameI_f fun e => by
  rw [e.2, h2] at h1
  cases h1
  simp at h
theorem sameI_step {x y : IntD} {i : Nat} {u v : Int} (h0 : x.abs.take i = y.abs.take i) (h1 : x.abs[((i : Nat) : Int).toNat]? = some u) (h2 : y.abs[((i : Nat) : Int).toNat]? = some v) (h : (u != v) = false) : x.abs.take (i + 1) = y.abs.take (i + 1) := by
  have e : u = v := by simpa using h
  subst e
  rw [Int.toNat_natCast] at h1 h2
  rw [List.take_add_one, List.take_add_one, h0, h1, h2]
theorem sameI_end {x y : IntD} {i : Nat} (hx : i ≤ x.abs.length ∧ x.neg = y.neg ∧ x.abs.length = y.abs.length ∧ x.abs.take i = y.abs.take i) (h : decide ((i : Int) < (x.abs.length : Int)) = false) : true = sameI x y := by
  obtain ⟨h1, h2, h3, h4⟩ := hx
  have e : i = x.abs.length := by simp only [decide_eq_false_iff_not] at h; omega
  subst e
  rw [List.take_length, h3, List.take_length] at h4
  unfold sameI
  rw [decide_eq_true ⟨h2, h4⟩]

set_option maxRecDepth 20000 in
set_option maxHeartbeats 4000000 in
theorem sameI_c (x : IntD) (y : IntD)  : Pur Tryz.prog 86 [(wrP Vw (.el Kd.intd) x).den, (wrP Vw (.el Kd.intd) y).den] (bT (sameI x y)).den := by
  refine vcF_ok (V := Vw) (reg := ⟨[], []⟩) (ls := [(4, ⟨Nat, fun i => ⟨[(2, .e (.c (.ptr 0 0))), (3, .e (.c (.ptr 1 0))), (22, iT x.abs.length), (23, iT i)], [(0, .cells [.d (.prp x.neg), .d (.lst (U := Un) Kd.u32 x.abs)]), (1, .cells [.d (.prp y.neg), .d (.lst (U := Un) Kd.u32 y.abs)])], 2⟩, fun i => i ≤ x.abs.length ∧ x.neg = y.neg ∧ x.abs.length = y.abs.length ∧ x.abs.take i = y.abs.take i, fun i => x.abs.length - i⟩)]) mixed Tryz.func86 rfl (by kernel_rfl) (Nat.le_of_ble_eq_true rfl) (noNames rfl) (args := [(wrP Vw (.el Kd.intd) x), (wrP Vw (.el Kd.intd) y)]) (r := bT (sameI x y)) ?_
  repeat' (first | intro _ | apply And.intro | refine Exists.intro 0 (And.intro ?_ fun (i : Nat) (hx : i ≤ x.abs.length ∧ x.neg = y.neg ∧ x.abs.length = y.abs.length ∧ x.abs.take i = y.abs.take i) => ?_) | refine Exists.intro (i + 1) ?_)
  all_goals first | exact True.intro | rfl | omega | ((with_reducible show (_ && _) = true); kernel_rfl) | (rename_i h; exact sameI_neg (h : (!x.neg == y.neg) = !false)) | (with_reducible exact sameI_negE (by assumption)) | (with_reducible exact sameI_len (by assumption)) | (with_reducible exact sameI_lenE (by assumption)) | (with_reducible exact hx.2.1) | (rename_i h1 _ h2 h3; with_reducible exact sameI_dig h1 h2 h3) | (rename_i h1 _ h2 h3; with_reducible exact sameI_step hx.2.2.2 h1 h2 h3) | (with_reducible exact sameI_end hx (by assumption)) | (simp only [decide_eq_true_eq, decide_eq_false_iff_not] at *; omega) | (show x.abs.length - (i + 1) < x.abs.length - i; (simp only [decide_eq_true_eq, decide_eq_false_iff_not] at *; omega))
def ct_sameI : Ct Tryz.prog Un := ct2 Vw 86 (.el Kd.intd) (.el Kd.intd) (fun (x : IntD) (y : IntD) => True) (fun (x : IntD) (y : IntD) => bT (sameI x y)) (fun x y h => sameI_c x y )

end Go.Proofs.YtfbmhjooliccnaaGreatDoor
end

section
namespace Go.Proofs.YtfbmhjooliccnaaGreatDoor
open Go Go.Ab

@[irreducible] def hasS (l : List ByteArray) (s : ByteArray) : Bool := l.any fun t => t.toList == s.toList
theorem hasS_yes {l : List ByteArray} {s t : ByteArray} {i : Nat} (h : l[((i : Nat) : Int).toNat]? = some t) (e : (t.toList == s.toList) = true) : true = hasS l s := by
  unfold hasS
  exact (List.any_eq_true.2 ⟨t, List.mem_of_getElem? h, e⟩).symm
theorem hasS_step {l : List ByteArray} {s t : ByteArray} {i : Nat} (h0 : hasS (l.take i) s = false) (h : l[((i : Nat) : Int).toNat]? = some t) (e : (t.toList == s.toList) = false) : hasS (l.take (i + 1)) s = false := by
  unfold hasS at *
  rw [Int.toNat_natCast] at h
  rw [List.take_add_one, h, List.any_append, h0]
  simp [e]
theorem hasS_zero {l : List ByteArray} {s : ByteArray} : hasS (l.take 0) s = false := by unfold hasS; rfl
theorem hasS_end {l : List ByteArray} {s : ByteArray} {i : Nat} (hx : i ≤ l.length ∧ hasS (l.take i) s = false) (h : decide ((i : Int) < (l.length : Int)) = false) : false = hasS l s := by
  have e : i = l.length := by simp only [decide_eq_false_iff_not] at h; omega
  rw [e, List.take_length] at hx
  exact hx.2.symm

set_option maxRecDepth 20000 in
set_option maxHeartbeats 4000000 in
theorem hasS_c (l : List ByteArray) (s : ByteArray)  : Pur Tryz.prog 130 [(wrP Vw (.ls Kd.str) l).den, (wrP Vw (.str) s).den] (bT (hasS l s)).den := by
  refine vcF_ok (V := Vw) (reg := ⟨[], []⟩) (ls := [(2, ⟨Nat, fun i => ⟨[(0, lT .str l), (1, .e (.c (.d (.sc (.string s))))), (7, iT l.length), (8, iT i)], [], 0⟩, fun i => i ≤ l.length ∧ hasS (l.take i) s = false, fun i => l.length - i⟩)]) mixed Tryz.func130 rfl (by kernel_rfl) (Nat.le_of_ble_eq_true rfl) (noNames rfl) (args := [(wrP Vw (.ls Kd.str) l), (wrP Vw (.str) s)]) (r := bT (hasS l s)) ?_
  repeat' (first | intro _ | apply And.intro | refine Exists.intro 0 (And.intro ?_ fun (i : Nat) (hx : i ≤ l.length ∧ hasS (l.take i) s = false) => ?_) | refine Exists.intro (i + 1) ?_)
  all_goals first | exact True.intro | rfl | omega | (with_reducible exact hasS_zero) | (rename_i h1 h2; with_reducible exact hasS_yes h1 h2) | (rename_i h1 h2; with_reducible exact hasS_step hx.2 h1 h2) | (with_reducible exact hasS_end hx (by assumption)) | (simp only [decide_eq_true_eq, decide_eq_false_iff_not] at *; omega) | (show l.length - (i + 1) < l.length - i; (simp only [decide_eq_true_eq, decide_eq_false_iff_not] at *; omega))
def ct_hasS : Ct Tryz.prog Un := ct2 Vw 130 (.ls Kd.str) (.str) (fun (l : List ByteArray) (s : ByteArray) => True) (fun (l : List ByteArray) (s : ByteArray) => bT (hasS l s)) (fun l s h => hasS_c l s )

def wordsL : List ByteArray := [⟨#[116, 114, 117, 101]⟩, ⟨#[102, 97, 108, 115, 101]⟩, ⟨#[97, 110, 100]⟩, ⟨#[111, 114]⟩, ⟨#[110, 111, 116]⟩, ⟨#[105, 109, 112, 108, 105, 101, 115]⟩, ⟨#[105, 102, 102]⟩, ⟨#[102, 111, 114, 97, 108, 108]⟩, ⟨#[101, 120, 105, 115, 116, 115]⟩]
@[irreducible] def lastF (l : List ByteArray) (s : ByteArray) : Nat → Int
  | 0 => -1
  | k + 1 => if ((l[k]?).getD ByteArray.empty).toList == s.toList then k else lastF l s k
def lastS (l : List ByteArray) (s : ByteArray) : Int := lastF l s l.length
theorem lastF_yes {l : List ByteArray} {s t : ByteArray} {k : Nat} {R : Int} (h0 : lastF l s k = R) (hk : decide (0 ≤ (k : Int) - 1) = true) (h : l[((k : Int) - 1).toNat]? = some t) (e : (t.toList == s.toList) = true) : (k : Int) - 1 = R := by
  simp only [decide_eq_true_eq] at hk
  obtain ⟨j, rfl⟩ : ∃ j, k = j + 1 := ⟨k - 1, by omega⟩
  have e2 : (((j + 1 : Nat) : Int) - 1).toNat = j := by omega
  rw [e2] at h
  rw [lastF, h, Option.getD_some, if_pos e] at h0
  omega
theorem lastF_no {l : List ByteArray} {s t : ByteArray} {k : Nat} {R : Int} (h0 : lastF l s k = R) (hk : decide (0 ≤ (k : Int) - 1) = true) (h : l[((k : Int) - 1).toNat]? = some t) (e : (t.toList == s.toList) = false) : lastF l s (k - 1) = R := by
  simp only [decide_eq_true_eq] at hk
  obtain ⟨j, rfl⟩ : ∃ j, k = j + 1 := ⟨k - 1, by omega⟩
  have e2 : (((j + 1 : Nat) : Int) - 1).toNat = j := by omega
  rw [e2] at h
  rw [lastF, h, Option.getD_some, if_neg (by simp [e])] at h0
  exact h0
theorem lastF_end {l : List ByteArray} {s : ByteArray} {k : Nat} {R : Int} (h0 : lastF l s k = R) (hk : decide (0 ≤ (k : Int) - 1) = false) : -1 = R := by
  have : k = 0 := by
    simp only [decide_eq_false_iff_not] at hk
    omega
  subst this
  rw [lastF] at h0
  exact h0

set_option maxRecDepth 20000 in
set_option maxHeartbeats 4000000 in
theorem lastS_c (l : List ByteArray) (s : ByteArray)  : Pur Tryz.prog 83 [(wrP Vw (.ls Kd.str) l).den, (wrP Vw (.str) s).den] (iT (lastS l s)).den := by
  refine vcF_ok (V := Vw) (reg := ⟨[], []⟩) (ls := [(2, ⟨Nat, fun k => ⟨[(0, lT .str l), (1, .e (.c (.d (.sc (.string s))))), (5, iT ((k : Int) - 1))], [], 0⟩, fun k => k ≤ l.length ∧ l.length ≤ 9223372036854775807 ∧ lastF l s k = lastS l s, fun k => k⟩)]) mixed Tryz.func83 rfl (by kernel_rfl) (Nat.le_of_ble_eq_true rfl) (noNames rfl) (args := [(wrP Vw (.ls Kd.str) l), (wrP Vw (.str) s)]) (r := iT (lastS l s)) ?_
  repeat' (first | intro _ | apply And.intro | refine Exists.intro l.length (And.intro ?_ fun (k : Nat) (hx : k ≤ l.length ∧ l.length ≤ 9223372036854775807 ∧ lastF l s k = lastS l s) => ?_) | refine Exists.intro (k - 1) ?_)
  all_goals first | exact True.intro | rfl | omega | (rename_i h0 _ h1 h2; with_reducible exact lastF_yes hx.2.2 h0 h1 h2) | (rename_i h0 _ h1 h2; with_reducible exact lastF_no hx.2.2 h0 h1 h2) | (with_reducible exact lastF_end hx.2.2 (by assumption)) | (simp only [decide_eq_true_eq, decide_eq_false_iff_not] at *; omega) | (show k - 1 < k; (simp only [decide_eq_true_eq, decide_eq_false_iff_not] at *; omega))
def ct_lastS : Ct Tryz.prog Un := ct2 Vw 83 (.ls Kd.str) (.str) (fun (l : List ByteArray) (s : ByteArray) => True) (fun (l : List ByteArray) (s : ByteArray) => iT (lastS l s)) (fun l s h => lastS_c l s )

end Go.Proofs.YtfbmhjooliccnaaGreatDoor
end
