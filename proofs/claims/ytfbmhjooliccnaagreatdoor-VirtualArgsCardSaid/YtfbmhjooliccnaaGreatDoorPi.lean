/- Contracts: names. No condition. Contracts: formula.Valid. No condition. Contracts: lists of names. No condition. -/
import Derived.Test.YtfbmhjooliccnaaGreatDoorPh
set_option linter.all false

section
namespace Go.Proofs.YtfbmhjooliccnaaGreatDoor
open Go Go.Ab

def ct0 (f : FuncId) (R : ST Un) (h : Pur Tryz.prog f [] R.den) : Ct Tryz.prog Un where
  f := f
  run args K := match args with | [] => K R | _ => False
  ok args K hr := by
    split at hr
    · exact ⟨R, h, hr⟩
    · exact hr.elim
set_option maxRecDepth 20000 in
set_option maxHeartbeats 4000000 in
theorem words_c : Pur Tryz.prog 131 [] (lT .str wordsL).den := by
  refine vcF_ok (V := Vw) (reg := ⟨[], []⟩) (ls := []) mixed Tryz.func131 rfl (by kernel_rfl) (Nat.le_of_ble_eq_true rfl) (noNames rfl) (args := []) (r := lT .str wordsL) ?_
  repeat' (first | intro _ | apply And.intro)
  all_goals first | exact True.intro | rfl
def ct_words : Ct Tryz.prog Un := ct0 131 (lT .str wordsL) words_c
/-- A byte of a text. -/
@[irreducible] def byteAt (s : ByteArray) (i : Nat) : Int := (s.data.toList.getD i 0).toNat
theorem byteAt_eq (s : ByteArray) (i : Nat) : ((s.data.toList.getD ((i : Nat) : Int).toNat 0).toNat : Int) = byteAt s i := by unfold byteAt; rw [Int.toNat_natCast]
def chOK (i : Nat) (c : Int) : Prop := (97 ≤ c ∧ c ≤ 122) ∨ (65 ≤ c ∧ c ≤ 90) ∨ c = 95 ∨ (0 < i ∧ 48 ≤ c ∧ c ≤ 57)
instance (i : Nat) (c : Int) : Decidable (chOK i c) := by unfold chOK; infer_instance
@[irreducible] def chTo (s : ByteArray) (i : Nat) : Prop := ∀ j, j < i → chOK j (byteAt s j)
theorem chTo_0 (s : ByteArray) : chTo s 0 := by unfold chTo; intro j h; omega
theorem chTo_n {s : ByteArray} {i : Nat} (h : chTo s i) (hc : chOK i ((s.data.toList.getD ((i : Nat) : Int).toNat 0).toNat : Int)) : chTo s (i + 1) := by
  rw [byteAt_eq] at hc
  unfold chTo at *
  intro j hj
  by_cases e : j = i
  · subst e; exact hc
  · exact h j (by omega)
@[irreducible] def okS (s : ByteArray) : Bool := decide (1 ≤ s.size ∧ s.size ≤ 16) && (!hasS wordsL s && (List.range s.size).all fun i => decide (chOK i (byteAt s i)))
theorem okS_len {s : ByteArray} (h : (s.size : Int) < 1 ∨ 16 < (s.size : Int)) : false = okS s := by
  unfold okS
  rw [decide_eq_false (by omega)]; rfl
theorem okS_word {s : ByteArray} (h : hasS wordsL s = true) : false = okS s := by
  unfold okS
  rw [h]; simp
theorem okS_bad {s : ByteArray} {i : Nat} (hi : i < s.size) (h : ¬ chOK i ((s.data.toList.getD ((i : Nat) : Int).toNat 0).toNat : Int)) : false = okS s := by
  rw [byteAt_eq] at h
  unfold okS
  have : ((List.range s.size).all fun i => decide (chOK i (byteAt s i))) = false := by
    rw [List.all_eq_false]
    exact ⟨i, by simpa using hi, by simpa using h⟩
  rw [this]; simp
theorem okS_yes {s : ByteArray} {i : Nat} (h1 : 1 ≤ (s.size : Int)) (h2 : (s.size : Int) ≤ 16) (hw : hasS wordsL s = false) (hi : s.size ≤ i) (h : chTo s i) : true = okS s := by
  unfold okS
  rw [decide_eq_true (by omega), hw]
  symm
  simp only [Bool.not_false, Bool.true_and, List.all_eq_true, decide_eq_true_eq]
  unfold chTo at h
  intro j hj
  exact h j (by rw [List.mem_range] at hj; omega)
theorem wd {s : ByteArray} : hasS wordsL s = ((⟨#[116, 114, 117, 101]⟩ : ByteArray).toList == s.toList || ((⟨#[102, 97, 108, 115, 101]⟩ : ByteArray).toList == s.toList || ((⟨#[97, 110, 100]⟩ : ByteArray).toList == s.toList || ((⟨#[111, 114]⟩ : ByteArray).toList == s.toList || ((⟨#[110, 111, 116]⟩ : ByteArray).toList == s.toList || ((⟨#[105, 109, 112, 108, 105, 101, 115]⟩ : ByteArray).toList == s.toList || ((⟨#[105, 102, 102]⟩ : ByteArray).toList == s.toList || ((⟨#[102, 111, 114, 97, 108, 108]⟩ : ByteArray).toList == s.toList || ((⟨#[101, 120, 105, 115, 116, 115]⟩ : ByteArray).toList == s.toList || false))))))))) := by
  unfold hasS wordsL; rfl

set_option maxRecDepth 20000 in
set_option maxHeartbeats 4000000 in
theorem okS_c (s : ByteArray)  : Pur Tryz.prog 82 [(wrP Vw (.str) s).den] (bT (okS s)).den := by
  refine vcF_ok (V := Vw) (reg := ⟨[ct_words, ct_hasS], []⟩) (ls := [(4, ⟨Nat, fun x => ⟨[(0, .e (.c (.d (.sc (.string s))))), (3, iT x)], [], 0⟩, fun x => x ≤ s.size ∧ 1 ≤ (s.size : Int) ∧ (s.size : Int) ≤ 16 ∧ hasS wordsL s = false ∧ chTo s x, fun x => s.size - x⟩)]) mixed Tryz.func82 rfl (by kernel_rfl) (Nat.le_of_ble_eq_true rfl) (noNames rfl) (args := [(wrP Vw (.str) s)]) (r := bT (okS s)) ?_
  repeat' (first | intro _ | apply And.intro | refine Exists.intro 0 (And.intro ?_ fun (x : Nat) (hx : x ≤ s.size ∧ 1 ≤ (s.size : Int) ∧ (s.size : Int) ≤ 16 ∧ hasS wordsL s = false ∧ chTo s x) => ?_) | refine Exists.intro (x + 1) ?_)
  all_goals first
    | exact True.intro
    | (with_reducible rfl)
    | (with_reducible exact chTo_0 s)
    | (exact absurd ‹(!true) = true› (by decide))
    | (rename_i h; with_reducible exact okS_word h)
    | (refine okS_len ?_; simp only [decide_eq_true_eq, decide_eq_false_iff_not, Bool.not_eq_eq_eq_not, Bool.not_true, Bool.not_false, beq_iff_eq, beq_eq_false_iff_ne, ne_eq] at *; omega)
    | (refine okS_bad (i := x) ?_ ?_ <;> simp only [decide_eq_true_eq, decide_eq_false_iff_not, Bool.not_eq_eq_eq_not, Bool.not_true, Bool.not_false, beq_iff_eq, beq_eq_false_iff_ne, ne_eq] at * <;> (try unfold chOK) <;> omega)
    | (refine chTo_n hx.2.2.2.2 ?_; simp only [decide_eq_true_eq, decide_eq_false_iff_not, Bool.not_eq_eq_eq_not, Bool.not_true, Bool.not_false, beq_iff_eq, beq_eq_false_iff_ne, ne_eq] at *; unfold chOK; omega)
    | (refine okS_yes hx.2.1 hx.2.2.1 hx.2.2.2.1 ?_ hx.2.2.2.2; simp only [decide_eq_true_eq, decide_eq_false_iff_not, Bool.not_eq_eq_eq_not, Bool.not_true, Bool.not_false, beq_iff_eq, beq_eq_false_iff_ne, ne_eq] at *; omega)
    | (with_reducible exact hx.2.1) | (with_reducible exact hx.2.2.1) | (with_reducible exact hx.2.2.2.1)
    | (rename_i h; with_reducible exact h)
    | (simp only [decide_eq_true_eq, decide_eq_false_iff_not, Bool.not_eq_eq_eq_not, Bool.not_true, Bool.not_false, beq_iff_eq, beq_eq_false_iff_ne, ne_eq] at *; (try have := hx.1); (try have := hx.2.2.1); omega)
    | (show s.size - (x + 1) < s.size - x; simp only [decide_eq_true_eq, decide_eq_false_iff_not, Bool.not_eq_eq_eq_not, Bool.not_true, Bool.not_false, beq_iff_eq, beq_eq_false_iff_ne, ne_eq] at *; omega)
    | trace_state
def ct_okS : Ct Tryz.prog Un := ct1 Vw 82 (.str) (fun (s : ByteArray) => True) (fun (s : ByteArray) => bT (okS s)) (fun s h => okS_c s )

end Go.Proofs.YtfbmhjooliccnaaGreatDoor
end

section
namespace Go.Proofs.YtfbmhjooliccnaaGreatDoor
open Go Go.Ab

theorem beq_sw {a b : List UInt8} {c : Bool} (h : (a == b) = c) : (b == a) = c := by rw [← h, Bool.beq_comm]
theorem okS_w {s w : ByteArray} (i : Nat) (hw : wordsL[i]? = some w) (h : (s.toList == w.toList) = true) : false = okS s := by
  refine okS_word ?_
  unfold hasS
  exact List.any_eq_true.2 ⟨w, List.mem_of_getElem? hw, beq_sw h⟩
theorem okS_nw {s : ByteArray} (h0 : (s.toList == (⟨#[116, 114, 117, 101]⟩ : ByteArray).toList) = false) (h1 : (s.toList == (⟨#[102, 97, 108, 115, 101]⟩ : ByteArray).toList) = false) (h2 : (s.toList == (⟨#[97, 110, 100]⟩ : ByteArray).toList) = false) (h3 : (s.toList == (⟨#[111, 114]⟩ : ByteArray).toList) = false) (h4 : (s.toList == (⟨#[110, 111, 116]⟩ : ByteArray).toList) = false) (h5 : (s.toList == (⟨#[105, 109, 112, 108, 105, 101, 115]⟩ : ByteArray).toList) = false) (h6 : (s.toList == (⟨#[105, 102, 102]⟩ : ByteArray).toList) = false) (h7 : (s.toList == (⟨#[102, 111, 114, 97, 108, 108]⟩ : ByteArray).toList) = false) (h8 : (s.toList == (⟨#[101, 120, 105, 115, 116, 115]⟩ : ByteArray).toList) = false) : hasS wordsL s = false := by
  rw [wd, beq_sw h0, beq_sw h1, beq_sw h2, beq_sw h3, beq_sw h4, beq_sw h5, beq_sw h6, beq_sw h7, beq_sw h8]; rfl
theorem okS_yes2 {s : ByteArray} {i : Nat} (hx : i ≤ s.size ∧ 1 ≤ (s.size : Int) ∧ (s.size : Int) ≤ 16 ∧ chTo s i) (hi : decide ((i : Int) < (s.size : Int)) = false) (hw : hasS wordsL s = false) : true = okS s := by
  simp only [decide_eq_false_iff_not] at hi
  exact okS_yes hx.2.1 hx.2.2.1 hw (by omega) hx.2.2.2

set_option maxRecDepth 20000 in
set_option maxHeartbeats 4000000 in
theorem okF_c (s : ByteArray)  : Pur Tryz.prog 132 [(wrP Vw (.str) s).den] (bT (okS s)).den := by
  refine vcF_ok (V := Vw) (reg := ⟨[], []⟩) (ls := [(4, ⟨Nat, fun x => ⟨[(0, .e (.c (.d (.sc (.string s))))), (14, iT s.size), (15, iT x)], [], 0⟩, fun x => x ≤ s.size ∧ 1 ≤ (s.size : Int) ∧ (s.size : Int) ≤ 16 ∧ chTo s x, fun x => s.size - x⟩)]) mixed Tryz.func132 rfl (by kernel_rfl) (Nat.le_of_ble_eq_true rfl) (noNames rfl) (args := [(wrP Vw (.str) s)]) (r := bT (okS s)) ?_
  repeat' (first | intro _ | apply And.intro | refine Exists.intro 0 (And.intro ?_ fun (x : Nat) (hx : x ≤ s.size ∧ 1 ≤ (s.size : Int) ∧ (s.size : Int) ≤ 16 ∧ chTo s x) => ?_) | refine Exists.intro (x + 1) ?_)
  all_goals first
    | exact True.intro
    | (with_reducible rfl)
    | (with_reducible exact chTo_0 s)
    | (exact absurd ‹(!true) = true› (by decide))
    | (rename_i a b; exact absurd (a.symm.trans b) (by decide))
    | (rename_i a b _; exact absurd (a.symm.trans b) (by decide))
    | (rename_i h; first | exact okS_w 0 rfl h | exact okS_w 1 rfl h | exact okS_w 2 rfl h | exact okS_w 3 rfl h | exact okS_w 4 rfl h | exact okS_w 5 rfl h | exact okS_w 6 rfl h | exact okS_w 7 rfl h | exact okS_w 8 rfl h)
    | (rename_i hi h0 h1 h2 h3 h4 h5 h6 h7 h8; exact okS_yes2 hx hi (okS_nw h0 h1 h2 h3 h4 h5 h6 h7 h8))
    | (refine okS_len ?_; simp only [decide_eq_true_eq, decide_eq_false_iff_not, Bool.not_eq_eq_eq_not, Bool.not_true, Bool.not_false, beq_iff_eq, beq_eq_false_iff_ne, ne_eq] at *; omega)
    | (refine okS_bad (i := x) ?_ ?_ <;> simp only [decide_eq_true_eq, decide_eq_false_iff_not, Bool.not_eq_eq_eq_not, Bool.not_true, Bool.not_false, beq_iff_eq, beq_eq_false_iff_ne, ne_eq] at * <;> (try unfold chOK) <;> omega)
    | (refine chTo_n hx.2.2.2 ?_; simp only [decide_eq_true_eq, decide_eq_false_iff_not, Bool.not_eq_eq_eq_not, Bool.not_true, Bool.not_false, beq_iff_eq, beq_eq_false_iff_ne, ne_eq] at *; unfold chOK; omega)
    | (with_reducible exact hx.2.1) | (with_reducible exact hx.2.2.1)
    | (simp only [decide_eq_true_eq, decide_eq_false_iff_not, Bool.not_eq_eq_eq_not, Bool.not_true, Bool.not_false, beq_iff_eq, beq_eq_false_iff_ne, ne_eq] at *; (try have := hx.1); (try have := hx.2.2.1); omega)
    | (show s.size - (x + 1) < s.size - x; simp only [decide_eq_true_eq, decide_eq_false_iff_not, Bool.not_eq_eq_eq_not, Bool.not_true, Bool.not_false, beq_iff_eq, beq_eq_false_iff_ne, ne_eq] at *; omega)
    | trace_state
def ct_okF : Ct Tryz.prog Un := ct1 Vw 132 (.str) (fun (s : ByteArray) => True) (fun (s : ByteArray) => bT (okS s)) (fun s h => okF_c s )

@[irreducible] def idxS (l : List ByteArray) (s : ByteArray) (n i : Nat) : Int := match (l.drop i).findIdx? (fun t => s.toList == t.toList) with | some j => ((i + j : Nat) : Int) | none => -1

end Go.Proofs.YtfbmhjooliccnaaGreatDoor
end

section
namespace Go.Proofs.YtfbmhjooliccnaaGreatDoor
open Go Go.Ab

def idxF (s : ByteArray) : List ByteArray → Nat → Int
  | [], _ => -1
  | t :: r, i => if s.toList == t.toList then (i : Int) else idxF s r (i + 1)
@[irreducible] def idxTo (l : List ByteArray) (s : ByteArray) (i : Nat) : Int := idxF s (l.drop i) i
@[irreducible] def idxL (l : List ByteArray) (s : ByteArray) : Int := idxF s l 0
theorem idx_0 (l : List ByteArray) (s : ByteArray) : idxTo l s 0 = idxL l s := by unfold idxTo idxL; rfl
theorem idx_yes {l : List ByteArray} {s t : ByteArray} {i : Nat} {R : Int} (h0 : idxTo l s i = R) (h : l[((i : Nat) : Int).toNat]? = some t) (e : (s.toList == t.toList) = true) : (i : Int) = R := by
  rw [Int.toNat_natCast] at h
  obtain ⟨hi, rfl⟩ := List.getElem?_eq_some_iff.1 h
  unfold idxTo at h0
  rw [List.drop_eq_getElem_cons hi, idxF, if_pos e] at h0
  exact h0
theorem idx_no {l : List ByteArray} {s t : ByteArray} {i : Nat} {R : Int} (h0 : idxTo l s i = R) (h : l[((i : Nat) : Int).toNat]? = some t) (e : (s.toList == t.toList) = false) : idxTo l s (i + 1) = R := by
  rw [Int.toNat_natCast] at h
  obtain ⟨hi, rfl⟩ := List.getElem?_eq_some_iff.1 h
  unfold idxTo at *
  rw [List.drop_eq_getElem_cons hi, idxF, if_neg (by simp [e])] at h0
  exact h0
theorem idx_end {l : List ByteArray} {s : ByteArray} {i : Nat} {R : Int} (h0 : idxTo l s i = R) (h : decide ((i : Int) < (l.length : Int)) = false) : -1 = R := by
  simp only [decide_eq_false_iff_not] at h
  unfold idxTo at h0
  rw [List.drop_of_length_le (by omega), idxF] at h0
  exact h0
theorem idxF_sign (s : ByteArray) : ∀ (l : List ByteArray) (i : Nat), decide (0 ≤ idxF s l i) = hasS l s
  | [], i => by unfold hasS; rfl
  | t :: r, i => by
    have ih := idxF_sign s r (i + 1)
    unfold hasS at *
    rw [idxF, List.any_cons]
    split
    · rename_i e
      rw [beq_sw e]
      simp
    · rename_i e
      rw [ih, show (t.toList == s.toList) = false from beq_sw (by simpa using e)]
      simp
theorem idxL_sign (l : List ByteArray) (s : ByteArray) : decide (0 ≤ idxL l s) = hasS l s := by unfold idxL; exact idxF_sign s l 0
theorem lastF_sign (l : List ByteArray) (s : ByteArray) : ∀ k, k ≤ l.length → decide (0 ≤ lastF l s k) = hasS (l.take k) s
  | 0, _ => by rw [lastF]; unfold hasS; rfl
  | k + 1, hk => by
    have ih := lastF_sign l s k (by omega)
    obtain ⟨t, ht⟩ : ∃ t, l[k]? = some t := ⟨l[k]'(by omega), by simp⟩
    rw [lastF, ht, Option.getD_some]
    unfold hasS at *
    rw [List.take_add_one, ht, List.any_append]
    split
    · rename_i e; simp [e]
    · rename_i e
      rw [ih]
      simp [show (t.toList == s.toList) = false by simpa using e]
theorem lastS_sign (l : List ByteArray) (s : ByteArray) : decide (0 ≤ lastS l s) = hasS l s := by
  unfold lastS
  rw [lastF_sign l s _ (Nat.le_refl _), List.take_length]

set_option maxRecDepth 20000 in
set_option maxHeartbeats 4000000 in
theorem idxL_c (l : List ByteArray) (s : ByteArray)  : Pur Tryz.prog 177 [(wrP Vw (.ls Kd.str) l).den, (wrP Vw (.str) s).den] (iT (idxL l s)).den := by
  refine vcF_ok (V := Vw) (reg := ⟨[], []⟩) (ls := [(2, ⟨Nat, fun x => ⟨[(0, lT .str l), (1, .e (.c (.d (.sc (.string s))))), (7, iT l.length), (8, iT x)], [], 0⟩, fun x => x ≤ l.length ∧ idxTo l s x = idxL l s, fun x => l.length - x⟩)]) mixed Tryz.func177 rfl (by kernel_rfl) (Nat.le_of_ble_eq_true rfl) (noNames rfl) (args := [(wrP Vw (.ls Kd.str) l), (wrP Vw (.str) s)]) (r := iT (idxL l s)) ?_
  repeat' (first | intro _ | apply And.intro | refine Exists.intro 0 (And.intro ?_ fun (x : Nat) (hx : x ≤ l.length ∧ idxTo l s x = idxL l s) => ?_) | refine Exists.intro (x + 1) ?_)
  all_goals first | exact True.intro | (with_reducible rfl) | omega | (with_reducible exact idx_0 l s) | (rename_i h1 h2; first | with_reducible exact idx_yes hx.2 h1 h2 | with_reducible exact idx_no hx.2 h1 h2) | (rename_i h; with_reducible exact idx_end hx.2 h) | (simp only [decide_eq_true_eq, decide_eq_false_iff_not] at *; omega) | (show l.length - (x + 1) < l.length - x; (simp only [decide_eq_true_eq, decide_eq_false_iff_not] at *; omega)) | trace_state
def ct_idxL : Ct Tryz.prog Un := ct2 Vw 177 (.ls Kd.str) (.str) (fun (l : List ByteArray) (s : ByteArray) => True) (fun (l : List ByteArray) (s : ByteArray) => iT (idxL l s)) (fun l s h => idxL_c l s )

set_option maxRecDepth 20000 in
set_option maxHeartbeats 4000000 in
theorem hasC_c (l : List ByteArray) (s : ByteArray)  : Pur Tryz.prog 133 [(wrP Vw (.ls Kd.str) l).den, (wrP Vw (.str) s).den] (bT (hasS l s)).den := by
  refine vcF_ok (V := Vw) (reg := ⟨[ct_idxL], []⟩) (ls := []) mixed Tryz.func133 rfl (by kernel_rfl) (Nat.le_of_ble_eq_true rfl) (noNames rfl) (args := [(wrP Vw (.ls Kd.str) l), (wrP Vw (.str) s)]) (r := bT (hasS l s)) ?_
  repeat' (first | intro _ | apply And.intro)
  all_goals first | exact True.intro | (with_reducible rfl) | (with_reducible exact idxL_sign l s) | trace_state
def ct_hasC : Ct Tryz.prog Un := ct2 Vw 133 (.ls Kd.str) (.str) (fun (l : List ByteArray) (s : ByteArray) => True) (fun (l : List ByteArray) (s : ByteArray) => bT (hasS l s)) (fun l s h => hasC_c l s )

def nmAt (l : List ByteArray) (j : Nat) : Bool := match l[j]? with | some s => okS s && !hasS (l.take j) s | none => true
@[irreducible] def nmTo (l : List ByteArray) (i : Nat) : Bool := (List.range i).all (nmAt l)
@[irreducible] def namesB (l : List ByteArray) : Bool := nmTo l l.length && decide ((l.length : Int) ≤ 4)
theorem nmTo_0 (l : List ByteArray) : nmTo l 0 = true := by unfold nmTo; rfl
theorem nmTo_n {l : List ByteArray} {i : Nat} {s : ByteArray} (h : nmTo l i = true) (hs : l[((i : Nat) : Int).toNat]? = some s) (h1 : okS s = true) (h2 : hasS (l.take i) s = false) : nmTo l (i + 1) = true := by
  rw [Int.toNat_natCast] at hs
  unfold nmTo at *
  rw [List.range_succ, List.all_append, h]
  simp [nmAt, hs, h1, h2]
theorem nm_bad {l : List ByteArray} {i : Nat} {s : ByteArray} (hs : l[((i : Nat) : Int).toNat]? = some s) (h : okS s = false ∨ hasS (l.take i) s = true) : false = namesB l := by
  rw [Int.toNat_natCast] at hs
  have hi := (List.getElem?_eq_some_iff.1 hs).1
  unfold namesB nmTo
  have : (List.range l.length).all (nmAt l) = false := by
    rw [List.all_eq_false]
    refine ⟨i, by simpa using hi, ?_⟩
    simp only [nmAt, hs]
    rcases h with h | h <;> simp [h]
  rw [this]; rfl
theorem nm_end {l : List ByteArray} {i : Nat} (h : nmTo l i = true) (hi : i ≤ l.length) (he : decide ((i : Int) < (l.length : Int)) = false) : decide ((l.length : Int) ≤ 4) = namesB l := by
  simp only [decide_eq_false_iff_not] at he
  have : i = l.length := by omega
  subst this
  unfold namesB
  rw [h]; rfl
theorem nm_long {l : List ByteArray} (h : decide (4 < (l.length : Int)) = true) : false = namesB l := by
  simp only [decide_eq_true_eq] at h
  unfold namesB
  rw [decide_eq_false (by omega), Bool.and_false]
theorem nm_end2 {l : List ByteArray} {i : Nat} (h : nmTo l i = true) (hi : i ≤ l.length) (he : decide ((i : Int) < (l.length : Int)) = false) (h4 : decide (4 < (l.length : Int)) = false) : true = namesB l := by
  rw [← nm_end h hi he]
  simp only [decide_eq_false_iff_not] at h4
  rw [decide_eq_true (by omega)]
theorem tk {l : List ByteArray} {i : Nat} : l.take ((i : Nat) : Int).toNat = l.take i := by rw [Int.toNat_natCast]
theorem nmA1 {l : List ByteArray} {i : Nat} {s : ByteArray} (hs : l[((i : Nat) : Int).toNat]? = some s) (h : (!okS s) = true) : false = namesB l := nm_bad hs (.inl (by simpa using h))
theorem nmA1' {l : List ByteArray} {i : Nat} {s : ByteArray} (hs : l[((i : Nat) : Int).toNat]? = some s) (h : (!okS s) = !false) : false = namesB l := nm_bad hs (.inl (by simpa using h))
theorem nmA2 {l : List ByteArray} {i : Nat} {s u : ByteArray} (hs : l[((i : Nat) : Int).toNat]? = some s) (hu : l[((i : Nat) : Int).toNat]? = some u) (h : decide (0 ≤ lastS (l.take ((i : Nat) : Int).toNat) u) = true) : false = namesB l := by
  rw [hs] at hu; injection hu with hu; subst hu
  rw [lastS_sign, tk] at h
  exact nm_bad hs (.inr h)
theorem nmA3 {l : List ByteArray} {i : Nat} {s u : ByteArray} (h0 : nmTo l i = true) (hs : l[((i : Nat) : Int).toNat]? = some s) (h1 : (!okS s) = false) (hu : l[((i : Nat) : Int).toNat]? = some u) (h : decide (0 ≤ lastS (l.take ((i : Nat) : Int).toNat) u) = false) : nmTo l (i + 1) = true := by
  rw [hs] at hu; injection hu with hu; subst hu
  rw [lastS_sign, tk] at h
  exact nmTo_n h0 hs (by simpa using h1) h
theorem nmB2 {l : List ByteArray} {i : Nat} {s : ByteArray} (hs : l[((i : Nat) : Int).toNat]? = some s) (h : hasS (l.take ((i : Nat) : Int).toNat) s = true) : false = namesB l := by
  rw [tk] at h
  exact nm_bad hs (.inr h)
theorem nmB3 {l : List ByteArray} {i : Nat} {s : ByteArray} (h0 : nmTo l i = true) (hs : l[((i : Nat) : Int).toNat]? = some s) (h1 : (!okS s) = false) (h : hasS (l.take ((i : Nat) : Int).toNat) s = false) : nmTo l (i + 1) = true := by
  rw [tk] at h
  exact nmTo_n h0 hs (by simpa using h1) h

set_option maxRecDepth 20000 in
set_option maxHeartbeats 4000000 in
theorem namesB_c (l : List ByteArray)  : Pur Tryz.prog 40 [(wrP Vw (.ls Kd.str) l).den] (bT (namesB l)).den := by
  refine vcF_ok (V := Vw) (reg := ⟨[ct_okS, ct_lastS], []⟩) (ls := [(2, ⟨Nat, fun x => ⟨[(0, lT .str l), (5, iT l.length), (6, iT x)], [], 0⟩, fun x => x ≤ l.length ∧ nmTo l x = true, fun x => l.length - x⟩)]) mixed Tryz.func40 rfl (by kernel_rfl) (Nat.le_of_ble_eq_true rfl) (noNames rfl) (args := [(wrP Vw (.ls Kd.str) l)]) (r := bT (namesB l)) ?_
  repeat' (first | intro _ | apply And.intro | refine Exists.intro 0 (And.intro ?_ fun (x : Nat) (hx : x ≤ l.length ∧ nmTo l x = true) => ?_) | refine Exists.intro (x + 1) ?_)
  all_goals first
    | exact True.intro
    | ((with_reducible show (_ && _) = true); kernel_rfl)
    | (with_reducible rfl)
    | (with_reducible exact nmTo_0 l)
    | (rename_i h1 h2; first | with_reducible exact nmA1 h1 h2 | with_reducible exact nmA1' h1 h2)
    | (rename_i h1 _ h2; first | with_reducible exact nmA1 h1 h2 | with_reducible exact nmA1' h1 h2 | with_reducible exact nmB2 h1 h2)
    | (rename_i hs h1 _ hu h; first | with_reducible exact nmA2 hs hu h | with_reducible exact nmA3 hx.2 hs h1 hu h)
    | (rename_i hs h1 h; first | with_reducible exact nmB2 hs h | with_reducible exact nmB3 hx.2 hs h1 h)
    | (rename_i h _; with_reducible exact nm_end hx.2 hx.1 h)
    | (rename_i h; first | with_reducible exact nm_end hx.2 hx.1 h | with_reducible exact nm_long h | with_reducible exact nm_end2 hx.2 hx.1 h (by with_reducible assumption))
    | omega
    | (simp only [decide_eq_true_eq, decide_eq_false_iff_not] at *; omega)
    | (show l.length - (x + 1) < l.length - x; (simp only [decide_eq_true_eq, decide_eq_false_iff_not] at *; omega))
    | trace_state
def ct_namesB : Ct Tryz.prog Un := ct1 Vw 40 (.ls Kd.str) (fun (l : List ByteArray) => True) (fun (l : List ByteArray) => bT (namesB l)) (fun l h => namesB_c l )

set_option maxRecDepth 20000 in
set_option maxHeartbeats 4000000 in
theorem namesD_c (l : List ByteArray)  : Pur Tryz.prog 84 [(wrP Vw (.ls Kd.str) l).den] (bT (namesB l)).den := by
  refine vcF_ok (V := Vw) (reg := ⟨[ct_okF, ct_hasC], []⟩) (ls := [(4, ⟨Nat, fun x => ⟨[(0, lT .str l), (8, lT .str l), (9, iT l.length), (10, iT x)], [], 0⟩, fun x => x ≤ l.length ∧ nmTo l x = true, fun x => l.length - x⟩)]) mixed Tryz.func84 rfl (by kernel_rfl) (Nat.le_of_ble_eq_true rfl) (noNames rfl) (args := [(wrP Vw (.ls Kd.str) l)]) (r := bT (namesB l)) ?_
  repeat' (first | intro _ | apply And.intro | refine Exists.intro 0 (And.intro ?_ fun (x : Nat) (hx : x ≤ l.length ∧ nmTo l x = true) => ?_) | refine Exists.intro (x + 1) ?_)
  all_goals first
    | exact True.intro
    | ((with_reducible show (_ && _) = true); kernel_rfl)
    | (with_reducible rfl)
    | (with_reducible exact nmTo_0 l)
    | (rename_i h1 h2; first | with_reducible exact nmA1 h1 h2 | with_reducible exact nmA1' h1 h2)
    | (rename_i h1 _ h2; first | with_reducible exact nmA1 h1 h2 | with_reducible exact nmA1' h1 h2 | with_reducible exact nmB2 h1 h2)
    | (rename_i hs h1 _ hu h; first | with_reducible exact nmA2 hs hu h | with_reducible exact nmA3 hx.2 hs h1 hu h)
    | (rename_i hs h1 h; first | with_reducible exact nmB2 hs h | with_reducible exact nmB3 hx.2 hs h1 h)
    | (rename_i h _; with_reducible exact nm_end hx.2 hx.1 h)
    | (rename_i h; first | with_reducible exact nm_end hx.2 hx.1 h | with_reducible exact nm_long h | with_reducible exact nm_end2 hx.2 hx.1 h (by with_reducible assumption))
    | omega
    | (simp only [decide_eq_true_eq, decide_eq_false_iff_not] at *; omega)
    | (show l.length - (x + 1) < l.length - x; (simp only [decide_eq_true_eq, decide_eq_false_iff_not] at *; omega))
    | trace_state
def ct_namesD : Ct Tryz.prog Un := ct1 Vw 84 (.ls Kd.str) (fun (l : List ByteArray) => True) (fun (l : List ByteArray) => bT (namesB l)) (fun l h => namesD_c l )

end Go.Proofs.YtfbmhjooliccnaaGreatDoor
end
