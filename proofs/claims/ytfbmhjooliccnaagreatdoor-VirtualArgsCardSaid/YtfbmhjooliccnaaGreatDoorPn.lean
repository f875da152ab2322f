/- Plain: bounds of normal forms. No condition. Plain: matrices, their normal forms, polynomials and levels. No condition. -/
import Derived.Test.YtfbmhjooliccnaaGreatDoorPl
import Derived.Test.YtfbmhjooliccnaaGreatDoorPj
set_option linter.all false

section
namespace Go.Proofs.YtfbmhjooliccnaaGreatDoor
open Go Go.Ab

/-- Digits everywhere. -/
inductive DgP : PolyD → Prop where
  | mk (l : Int) (n : Bool) (a : List Int) (cs : List PolyD) (h1 : Dg a) (h2 : ∀ c ∈ cs, DgP c) : DgP (.mk l n a cs)
theorem DgP.dg {p : PolyD} (h : DgP p) : Dg p.abs := by cases h; assumption
theorem DgP.kid {p : PolyD} (h : DgP p) : ∀ c ∈ p.coefs, DgP c := by cases h; assumption
/-- Digits, and short lists. -/
inductive OKP (m : Nat) : PolyD → Prop where
  | mk (l : Int) (n : Bool) (a : List Int) (cs : List PolyD) (h1 : a.length ≤ m) (h2 : Dg a) (h3 : cs.length ≤ 1000000000) (h4 : ∀ c ∈ cs, OKP m c) : OKP m (.mk l n a cs)
theorem OKP.sm {m : Nat} {p : PolyD} (h : OKP m p) (hm : m ≤ 1099511627776) : SmP p := by
  induction h with
  | mk l n a cs h1 h2 h3 _ ih => exact .mk l n a cs (Nat.le_trans h1 hm) h3 ih
theorem OKP.dgP {m : Nat} {p : PolyD} (h : OKP m p) : DgP p := by
  induction h with
  | mk l n a cs h1 h2 h3 _ ih => exact .mk l n a cs h2 ih
theorem OKP.zero (m : Nat) : OKP m zP := .mk 0 false [] [] (by simp) (fun d hd => by simp at hd) (by simp) (fun c hc => by simp at hc)
theorem OKP.up {m n : Nat} {p : PolyD} (h : OKP m p) (hmn : m ≤ n) : OKP n p := by
  induction h with
  | mk l n' a cs h1 h2 h3 _ ih => exact .mk l n' a cs (Nat.le_trans h1 hmn) h2 h3 ih
theorem OKP.copy {m : Nat} {p : PolyD} (h : OKP m p) : OKP m (copyP p) := by
  induction h with
  | mk l n a cs h1 h2 h3 _ ih =>
    rw [copyP_eq]
    show OKP m (if l = 0 then _ else _)
    split
    · exact .mk _ _ _ _ (Nat.le_trans (normI_len ⟨n, a⟩) h1) (normI_dg (x := ⟨n, a⟩) h2) (by simp) (fun c hc => by simp at hc)
    · refine .mk _ _ _ _ (by simp) (fun d hd => by simp at hd) (by simpa [PolyD.coefs] using h3) (fun c hc => ?_)
      rw [List.mem_map] at hc
      obtain ⟨c0, hc0, rfl⟩ := hc
      exact ih c0 hc0

mutual
theorem collect_LB (m : Nat) : ∀ (p : PolyD) (q : MonoD), OKP m p → LB m (collectP p q)
  | .mk lv ng ab cs, q, h => by
    cases h with
    | mk _ _ _ _ h1 h2 h3 h4 =>
      have ih := collect_LBs m lv cs q (getMo q lv) 0 h4
      rw [collectP]
      split
      · intro t ht; rw [List.mem_singleton] at ht; subst ht; exact ⟨h1, h2⟩
      · split
        · intro t ht; simp at ht
        · exact ih
theorem collect_LBs (m : Nat) (lv : Int) : ∀ (l : List PolyD) (q : MonoD) (s : Int) (i : Nat), (∀ c ∈ l, OKP m c) → LB m (collectQ lv l q s i)
  | [], q, s, i, _ => by rw [collectQ]; intro t ht; simp at ht
  | c :: r, q, s, i, h => by
    have h1 := collect_LB m c (setMo q lv (s + i)) (h c (by simp))
    have h2 := collect_LBs m lv r q s (i + 1) (fun c hc => h c (by simp [hc]))
    rw [collectQ]
    intro t ht
    rw [List.mem_append] at ht
    rcases ht with ht | ht
    · exact h1 t ht
    · exact h2 t ht
end

/-- Bounds on the exponents. -/
def MB (B : Int) (q : MonoD) : Prop := (0 ≤ q.e1 ∧ q.e1 ≤ B) ∧ (0 ≤ q.e2 ∧ q.e2 ≤ B) ∧ (0 ≤ q.e3 ∧ q.e3 ≤ B) ∧ (0 ≤ q.e4 ∧ q.e4 ≤ B)
def EB (B : Int) (l : List TermD) : Prop := ∀ t ∈ l, MB B t.mono
theorem MB.up {B C : Int} {q : MonoD} (h : MB B q) (hBC : B ≤ C) : MB C q := by unfold MB at *; omega
theorem MB.set {B : Int} {q : MonoD} (h : MB B q) {lv : Int} {i : Nat} : MB (B + i) (setMo q lv (getMo q lv + i)) := by
  unfold MB at *
  unfold setMo getMo
  split
  · simp only; omega
  · split
    · simp only; omega
    · split
      · simp only; omega
      · simp only; omega
mutual
theorem collect_EB : ∀ (p : PolyD) (q : MonoD) (B : Int), MB B q → EB (B + nP p) (collectP p q)
  | .mk lv ng ab cs, q, B, h => by
    have ih := collect_EBs lv cs q B 0 h
    rw [collectP, nP]
    split
    · intro t ht; rw [List.mem_singleton] at ht; subst ht; exact MB.up (q := q) h (by omega)
    · split
      · intro t ht; simp at ht
      · intro t ht; exact (ih t ht).up (by omega)
theorem collect_EBs (lv : Int) : ∀ (l : List PolyD) (q : MonoD) (B : Int) (i : Nat), MB B q → EB (B + i + nPs l) (collectQ lv l q (getMo q lv) i)
  | [], q, B, i, _ => by rw [collectQ]; intro t ht; simp at ht
  | c :: r, q, B, i, h => by
    have h1 := collect_EB c (setMo q lv (getMo q lv + i)) (B + i) h.set
    have h2 := collect_EBs lv r q B (i + 1) h
    have h3 := nP_pos c
    rw [collectQ, nPs]
    intro t ht
    rw [List.mem_append] at ht
    rcases ht with ht | ht
    · exact (h1 t ht).up (by omega)
    · exact (h2 t ht).up (by omega)
end
theorem gadd_EB {B : Int} {l : List TermD} {q : MonoD} {c : IntD} (h : EB B l) (hq : negM q = false → MB B q) : EB B (gadd l q c) := by
  unfold gadd
  split
  · exact h
  · rename_i hn
    split
    · split
      · rename_i i _ t ht
        intro u hu
        rcases List.mem_or_eq_of_mem_set hu with hu | rfl
        · exact h u hu
        · exact h t (List.mem_of_getElem? ht)
      · exact h
    · intro u hu
      rw [List.mem_append, List.mem_singleton] at hu
      rcases hu with hu | rfl
      · exact h u hu
      · exact hq (by simpa using hn)
theorem gTo_EB {B : Int} {p : List TermD} (h : EB B p) : ∀ i, i ≤ p.length → EB B (gTo p i)
  | 0, _ => by rw [gTo_0]; intro t ht; simp at ht
  | i + 1, hi => by
    have ih := gTo_EB h i (by omega)
    obtain ⟨t, ht⟩ : ∃ t, p[((i : Nat) : Int).toNat]? = some t := by rw [Int.toNat_natCast]; exact ⟨p[i]'(by omega), by simp⟩
    rw [← gTo_succ ht]
    exact gadd_EB ih (fun _ => h t (List.mem_of_getElem? ht))
theorem normT_mem {p : List TermD} {t : TermD} (h : t ∈ normT p) : t ∈ gTo p p.length := by
  unfold normT polyF sortF at h
  have := (sortT_perm _ _).mem_iff.1 h
  exact (List.mem_filter.1 this).1
theorem normT_len {n : Nat} {p : List TermD} (h : NB n p) : (normT p).length ≤ p.length := by
  have h1 := (gTo_ok h p.length (Nat.le_refl _)).2
  unfold normT polyF
  rw [sortF_len]
  exact Nat.le_trans (List.length_filter_le _ _) h1
theorem normT_LB {n : Nat} {p : List TermD} (h : NB n p) : LB (n + p.length) (normT p) := fun t ht => (gTo_ok h p.length (Nat.le_refl _)).1 t (normT_mem ht)
theorem normT_EB {B : Int} {p : List TermD} (h : EB B p) : EB B (normT p) := fun t ht => gTo_EB h p.length (Nat.le_refl _) t (normT_mem ht)
theorem normT_BP {n : Nat} {B : Int} {p : List TermD} (h : NB n p) (hB : EB B p) (hb : B ≤ 1000000000) : BP (normT p) 4 := by
  have h1 := normT_len h
  have h2 := normT_EB hB
  unfold NB at h
  unfold BP
  refine ⟨Nat.le_refl _, by omega, fun t ht v hv hv4 => ?_, ?_, fun s _ t _ v hv hv4 => by omega⟩
  · have := h2 t ht
    unfold MB at this
    simp only [TermD.mono] at this
    match v, hv, hv4 with
    | 1, _, _ => rw [ex1]; omega
    | 2, _, _ => rw [ex2]; omega
    | 3, _, _ => rw [ex3]; omega
    | 4, _, _ => rw [ex4]; omega
  · unfold normT polyF sortF
    rw [List.pairwise_iff_getElem]
    intro i j hi hj hij
    exact sortT_sorted _ _ i j _ _ hij (List.getElem?_eq_getElem hi) (List.getElem?_eq_getElem hj)
theorem ex_MB {B : Int} {t : TermD} (h : MB B t.mono) (v : Nat) : ex v t ≤ B := by
  unfold MB at h
  unfold ex getMo
  split
  · omega
  · split
    · omega
    · split <;> omega
theorem build_OKP {m : Nat} {B : Int} (hB0 : 0 ≤ B) (hB : B ≤ 100000000) : ∀ (f : Nat) (l : List TermD) (k : Nat), LB m l → EB B l → OKP m (buildF f l k)
  | 0, l, k, _, _ => by rw [buildF]; exact OKP.zero m
  | f + 1, [], k, _, _ => by rw [buildF]; exact OKP.zero m
  | f + 1, t :: r, k, h, he => by
    rw [buildF]
    split
    · have := h t (by simp); exact .mk _ _ _ _ this.1 this.2 (by simp) (fun c hc => by simp at hc)
    · split
      · exact build_OKP hB0 hB f r _ (fun u hu => h u (by simp [hu])) (fun u hu => he u (by simp [hu]))
      · have hx := ex_MB (he t (by simp)) (lowLv t k)
        refine .mk _ _ _ _ (by simp) (fun d hd => by simp at hd) (by simp; omega) (fun c hc => ?_)
        rw [List.mem_map] at hc
        obtain ⟨e, _, rfl⟩ := hc
        exact build_OKP hB0 hB f _ _ (fun u hu => h u (List.mem_filter.1 hu).1) (fun u hu => he u (List.mem_filter.1 hu).1)
/-- The normal form of a polynomial. -/
@[irreducible] def canoP (p : PolyD) : PolyD := if canP p then p else buildF ((normT (collectP p ⟨0, 0, 0, 0⟩)).length + 4) (normT (collectP p ⟨0, 0, 0, 0⟩)) 4
@[irreducible] def normP (p : PolyD) : PolyD := copyP (canoP p)
/-- What is asked of a polynomial that is brought into normal form. -/
@[irreducible] def NPre (p : PolyD) : Prop := OKP 1000000 p ∧ nP p ≤ 1000000
theorem zero_MB : MB 0 ⟨0, 0, 0, 0⟩ := by unfold MB; simp
theorem NPre.nb {p : PolyD} (h : NPre p) : NB 1000000 (collectP p ⟨0, 0, 0, 0⟩) := by
  unfold NPre at h
  have := collectP_len p ⟨0, 0, 0, 0⟩
  unfold NB
  exact ⟨collect_LB _ p _ h.1, by omega, by omega⟩
theorem NPre.eb {p : PolyD} (h : NPre p) : EB 1000000 (collectP p ⟨0, 0, 0, 0⟩) := by
  unfold NPre at h
  intro t ht
  exact (collect_EB p ⟨0, 0, 0, 0⟩ 0 zero_MB t ht).up (by omega)
theorem NPre.cano {p : PolyD} (h : NPre p) : OKP 2000000 (canoP p) := by
  have hb := h.nb
  have he := h.eb
  have h1 := normT_LB hb
  have h2 := normT_EB he
  have h3 := collectP_len p ⟨0, 0, 0, 0⟩
  unfold NPre at h
  unfold canoP
  split
  · exact h.1.up (by omega)
  · exact build_OKP (by omega) (by omega) _ _ _ (fun t ht => ⟨by have := (h1 t ht).1; omega, (h1 t ht).2⟩) h2
theorem NPre.norm {p : PolyD} (h : NPre p) : OKP 2000000 (normP p) := by unfold normP; exact h.cano.copy
theorem NPre.cb {p : PolyD} (h : NPre p) : CB [] p ⟨0, 0, 0, 0⟩ := by
  unfold NPre at h
  unfold CB
  simp; omega
end Go.Proofs.YtfbmhjooliccnaaGreatDoor
end

section
namespace Go.Proofs.YtfbmhjooliccnaaGreatDoor
open Go Go.Ab

def zM : MatD := .mk 0 0 zP []
def relN (r : Int) : Int := if r < 1 ∨ 6 < r then 3 else r
mutual
def nmM : MatD → MatD
  | .mk k r p ks => if k = 1 then .mk 1 0 zP [] else if k = 2 then .mk 2 (relN r) (normP p) [] else if k = 3 ∨ k = 4 then .mk k 0 zP (nmMs ks) else zM
def nmMs : List MatD → List MatD
  | [] => []
  | m :: r => nmM m :: nmMs r
end
theorem nmMs_eq : ∀ l, nmMs l = l.map nmM
  | [] => by rw [nmMs]; rfl
  | m :: r => by rw [nmMs, nmMs_eq r]; rfl
theorem nmM_eq (m : MatD) : nmM m = if m.kind = 1 then .mk 1 0 zP [] else if m.kind = 2 then .mk 2 (relN m.rel) (normP m.poly) [] else if m.kind = 3 ∨ m.kind = 4 then .mk m.kind 0 zP (m.kids.map nmM) else zM := by
  cases m; rw [nmM, nmMs_eq]; rfl
mutual
def polM : MatD → List PolyD
  | .mk k r p ks => if k = 2 then [p] else polMs ks
def polMs : List MatD → List PolyD
  | [] => []
  | m :: r => polM m ++ polMs r
end
theorem polMs_app : ∀ (a b : List MatD), polMs (a ++ b) = polMs a ++ polMs b
  | [], b => by rw [List.nil_append, polMs]; rfl
  | m :: a, b => by rw [List.cons_append, polMs, polMs, polMs_app a b, List.append_assoc]
theorem polM_eq (m : MatD) : polM m = if m.kind = 2 then [m.poly] else polMs m.kids := by cases m; rw [polM]; rfl
/-- The greatest level. -/
def mxL : List PolyD → Int
  | [] => 0
  | p :: r => max p.level (mxL r)
theorem mxL_pos : ∀ l, 0 ≤ mxL l
  | [] => by rw [mxL]; omega
  | p :: r => by have := mxL_pos r; rw [mxL]; omega
theorem mxL_app : ∀ (a b : List PolyD), mxL (a ++ b) = max (mxL a) (mxL b)
  | [], b => by have := mxL_pos b; rw [List.nil_append]; simp only [mxL]; omega
  | p :: a, b => by rw [List.cons_append, mxL, mxL, mxL_app a b]; omega
def levM (m : MatD) : Int := mxL (polM m)
mutual
def plM : MatD → Int
  | .mk k r p ks => if k = 2 then (normP p).level else if k = 3 ∨ k = 4 then plMs ks else 0
def plMs : List MatD → Int
  | [] => 0
  | m :: r => max (plM m) (plMs r)
end
theorem plM_eq (m : MatD) : plM m = if m.kind = 2 then (normP m.poly).level else if m.kind = 3 ∨ m.kind = 4 then plMs m.kids else 0 := by cases m; rw [plM]; rfl
theorem plMs_pos : ∀ l, 0 ≤ plMs l
  | [] => by rw [plMs]; omega
  | m :: r => by have := plMs_pos r; rw [plMs]; omega

/-- Digits everywhere. -/
inductive DgM : MatD → Prop where
  | mk (k r : Int) (p : PolyD) (ks : List MatD) (h1 : DgP p) (h2 : ∀ c ∈ ks, DgM c) : DgM (.mk k r p ks)
/-- What is asked of a matrix. -/
inductive MOK : MatD → Prop where
  | mk (k r : Int) (p : PolyD) (ks : List MatD) (h1 : NPre p) (h2 : ks.length ≤ 1000000) (h3 : ∀ c ∈ ks, MOK c) : MOK (.mk k r p ks)
theorem MOK.np {m : MatD} (h : MOK m) : NPre m.poly := by cases h; assumption
theorem MOK.len {m : MatD} (h : MOK m) : m.kids.length ≤ 1000000 := by cases h; assumption
theorem MOK.kid {m : MatD} (h : MOK m) : ∀ c ∈ m.kids, MOK c := by cases h; assumption
theorem OKP.dg {m : Nat} {p : PolyD} (h : OKP m p) : Dg p.abs := by cases h; assumption

theorem foldR_pos {α : Type} {f : α → Int → Int} : ∀ {l : List α} {n : Int}, 0 ≤ foldR f l n → 0 ≤ n
  | [], n, h => by rw [foldR] at h; exact h
  | c :: r, n, h => by
    rw [foldR] at h
    split at h
    · omega
    · omega
theorem room_ok (dg : Nat) : ∀ (d : Nat) (p : PolyD) (n : Int), 0 ≤ roomP dg d p n → DgP p → OKP dg p ∧ (nP p : Int) + roomP dg d p n ≤ n
  | 0, p, n, h, _ => by rw [roomP] at h; omega
  | d + 1, p, n, h, hd => by
    rw [roomP] at h ⊢
    split at h
    · omega
    · rename_i hc
      rw [if_neg hc]
      have key : ∀ (l : List PolyD) (n : Int), (∀ c ∈ l, DgP c) → 0 ≤ foldR (roomP dg d) l n → (∀ c ∈ l, OKP dg c) ∧ (nPs l : Int) + foldR (roomP dg d) l n ≤ n := by
        intro l
        induction l with
        | nil => intro n _ h; rw [foldR, nPs_nil]; exact ⟨fun c hc => by simp at hc, by omega⟩
        | cons c r ih =>
          intro n hl h
          rw [foldR] at h ⊢
          split at h
          · omega
          · rename_i hn
            rw [if_neg hn]
            have h1 := ih (roomP dg d c n) (fun c hc => hl c (by simp [hc])) h
            have h2 := room_ok dg d c n (foldR_pos h) (hl c (by simp))
            rw [nPs_cons]
            refine ⟨fun x hx => ?_, by omega⟩
            rcases List.mem_cons.1 hx with rfl | hx
            · exact h2.1
            · exact h1.1 x hx
      have h1 := key p.coefs (n - 1) hd.kid h
      have h2 := hd.dg
      have h3 := nP_eq p
      refine ⟨?_, by omega⟩
      cases p
      exact .mk _ _ _ _ (by simp only [PolyD.abs] at hc; omega) h2 (by simp only [PolyD.coefs] at hc; omega) h1.1
theorem few_ok {p : PolyD} {n : Int} {dg : Nat} (h : fewP p n dg = true) (hd : DgP p) : OKP dg p ∧ (nP p : Int) ≤ n := by
  unfold fewP at h
  simp only [decide_eq_true_eq] at h
  have := room_ok dg 6 p n h hd
  exact ⟨this.1, by omega⟩
theorem few_NPre {p : PolyD} {n : Int} {dg : Nat} (h : fewP p n dg = true) (hd : DgP p) (hn : n ≤ 1000000) (hg : dg ≤ 1000000) : NPre p := by
  have := few_ok h hd
  unfold NPre
  exact ⟨this.1.up hg, by omega⟩
mutual
def szM : MatD → Nat
  | .mk _ _ _ ks => 1 + szMs ks
def szMs : List MatD → Nat
  | [] => 0
  | m :: r => szM m + szMs r
end
theorem szM_eq (m : MatD) : szM m = 1 + szMs m.kids := by cases m; rw [szM]; rfl
theorem szMs_nil : szMs [] = 0 := by rw [szMs]
theorem szMs_cons (m : MatD) (r : List MatD) : szMs (m :: r) = szM m + szMs r := by rw [szMs]
theorem szM_pos (m : MatD) : 1 ≤ szM m := by rw [szM_eq]; omega
theorem szMs_len : ∀ l, l.length ≤ szMs l
  | [] => by simp
  | m :: r => by have := szMs_len r; have := szM_pos m; rw [szMs_cons]; simp; omega
theorem roomM_ok : ∀ (d : Nat) (m : MatD) (n : Int), n ≤ 1000000 → 0 ≤ roomM d m n → DgM m → MOK m ∧ (szM m : Int) + roomM d m n ≤ n
  | 0, m, n, _, h, _ => by rw [roomM] at h; omega
  | d + 1, m, n, hn, h, hd => by
    rw [roomM] at h ⊢
    split at h
    · omega
    · rename_i hc
      rw [if_neg hc]
      have key : ∀ (l : List MatD) (n : Int), n ≤ 1000000 → (∀ c ∈ l, DgM c) → 0 ≤ foldR (roomM d) l n → (∀ c ∈ l, MOK c) ∧ (szMs l : Int) + foldR (roomM d) l n ≤ n := by
        intro l
        induction l with
        | nil => intro n _ _ h; rw [foldR, szMs_nil]; exact ⟨fun c hc => by simp at hc, by omega⟩
        | cons c r ih =>
          intro n hn hl h
          rw [foldR] at h ⊢
          split at h
          · omega
          · rename_i hn0
            rw [if_neg hn0]
            have h2 := roomM_ok d c n hn (foldR_pos h) (hl c (by simp))
            have h1 := ih (roomM d c n) (by omega) (fun c hc => hl c (by simp [hc])) h
            rw [szMs_cons]
            refine ⟨fun x hx => ?_, by omega⟩
            rcases List.mem_cons.1 hx with rfl | hx
            · exact h2.1
            · exact h1.1 x hx
      cases hd with
      | mk k r p ks hp hk =>
        have h1 := key ks (n - 1) (by omega) hk h
        have h2 := szMs_len ks
        have e : MatD.kids (.mk k r p ks) = ks := rfl
        rw [e] at h ⊢
        refine ⟨.mk k r p ks ?_ (by omega) h1.1, by rw [szM]; omega⟩
        exact few_NPre (dg := 4) (by simpa [MatD.poly] using hc) hp (by omega) (by omega)
theorem fewM_ok {m : MatD} {n : Int} (hn : n ≤ 1000000) (h : fewM m n = true) (hd : DgM m) : MOK m ∧ (szM m : Int) ≤ n := by
  unfold fewM at h
  simp only [decide_eq_true_eq] at h
  have := roomM_ok 12 m n hn h hd
  exact ⟨this.1, by omega⟩

mutual
theorem pol_dg : ∀ m : MatD, MOK m → ∀ p ∈ polM (nmM m), DgP p
  | .mk k r p ks, h => by
    cases h with
    | mk _ _ _ _ h1 h2 h3 =>
      intro q hq
      rw [nmM] at hq
      split at hq
      · rw [polM, if_neg (by omega), polMs] at hq; simp at hq
      · split at hq
        · rw [polM, if_pos rfl] at hq
          rw [List.mem_singleton] at hq
          subst hq
          exact h1.norm.dgP
        · split at hq
          · rename_i hk
            rw [polM, if_neg (by omega)] at hq
            exact pol_dgs ks h3 q hq
          · unfold zM at hq
            rw [polM, if_neg (by omega), polMs] at hq; simp at hq
theorem pol_dgs : ∀ l : List MatD, (∀ c ∈ l, MOK c) → ∀ p ∈ polMs (nmMs l), DgP p
  | [], h, p, hp => by rw [nmMs, polMs] at hp; simp at hp
  | m :: r, h, p, hp => by
    rw [nmMs, polMs, List.mem_append] at hp
    rcases hp with hp | hp
    · exact pol_dg m (h m (by simp)) p hp
    · exact pol_dgs r (fun c hc => h c (by simp [hc])) p hp
end
mutual
theorem pol_len : ∀ m : MatD, (polM m).length ≤ szM m
  | .mk k r p ks => by
    have := pol_lens ks
    rw [polM, szM]
    split
    · simp
    · omega
theorem pol_lens : ∀ l : List MatD, (polMs l).length ≤ szMs l
  | [] => by rw [polMs]; simp
  | m :: r => by
    have := pol_len m
    have := pol_lens r
    rw [polMs, szMs]; simp; omega
end
mutual
theorem nm_sz : ∀ m : MatD, szM (nmM m) ≤ szM m
  | .mk k r p ks => by
    have := nm_szs ks
    rw [nmM]
    split
    · rw [szM, szM, szMs_nil]; omega
    · split
      · rw [szM, szM, szMs_nil]; omega
      · split
        · rw [szM, szM]; omega
        · unfold zM; rw [szM, szM, szMs_nil]; omega
theorem nm_szs : ∀ l : List MatD, szMs (nmMs l) ≤ szMs l
  | [] => by rw [nmMs]; omega
  | m :: r => by
    have := nm_sz m
    have := nm_szs r
    rw [nmMs, szMs_cons, szMs_cons]; omega
end
theorem build_lv : ∀ (f : Nat) (l : List TermD) (k : Nat), 0 ≤ (buildF f l k).level
  | 0, l, k => by rw [buildF]; decide
  | f + 1, [], k => by rw [buildF]; decide
  | f + 1, t :: r, k => by
    rw [buildF]
    split
    · exact Int.le_refl _
    · split
      · exact build_lv f r _
      · show 0 ≤ ((lowLv t k : Nat) : Int); omega
theorem can_lv {p : PolyD} (h : canP p = true) : 0 ≤ p.level := by
  rw [canP_eq] at h
  split at h
  · omega
  · simp only [Bool.and_eq_true, decide_eq_true_eq] at h
    omega
theorem norm_lv (p : PolyD) : 0 ≤ (normP p).level := by
  have h : 0 ≤ (canoP p).level := by
    unfold canoP
    split
    · rename_i hc; exact can_lv hc
    · exact build_lv _ _ _
  unfold normP
  rw [copyP_eq]
  split
  · exact Int.le_refl _
  · exact h
mutual
theorem lev_pl : ∀ m : MatD, mxL (polM (nmM m)) = plM m
  | .mk k r p ks => by
    have ih := lev_pls ks
    have hl := norm_lv p
    rw [nmM, plM]
    split
    · rw [polM, if_neg (by omega), polMs, if_neg (by omega), if_neg (by omega)]; rfl
    · split
      · rw [polM, if_pos rfl]
        simp only [mxL]
        omega
      · split
        · rw [polM, if_neg (by omega)]; exact ih
        · unfold zM; rw [polM, if_neg (by omega), polMs]; rfl
theorem lev_pls : ∀ l : List MatD, mxL (polMs (nmMs l)) = plMs l
  | [] => by rw [nmMs, polMs, plMs]; rfl
  | m :: r => by
    have h1 := lev_pl m
    have h2 := lev_pls r
    rw [nmMs, polMs, plMs, mxL_app, h1, h2]
end
end Go.Proofs.YtfbmhjooliccnaaGreatDoor
end
