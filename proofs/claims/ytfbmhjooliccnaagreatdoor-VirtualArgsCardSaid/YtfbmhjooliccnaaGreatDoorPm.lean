/- Plain: the recursive form of sorted terms, as the walk needs it. No condition. Contracts: recpoly.build. No condition. -/
import Derived.Test.YtfbmhjooliccnaaGreatDoorPl
set_option linter.all false

section
namespace Go.Proofs.YtfbmhjooliccnaaGreatDoor
open Go Go.Ab

@[irreducible] def LG (l : List TermD) (k x : Nat) : Prop := x ≤ k ∧ BP l x ∧ ∀ t, l[0]? = some t → lowLv t k = lowLv t x
@[irreducible] def exAt (l : List TermD) (y s : Nat) : Int := ((l[s]?).map (ex y)).getD 0
@[irreducible] def BG (l : List TermD) (k y n s : Nat) : Prop := LG l k y ∧ 1 ≤ y ∧ n = (exAt l y 0 + 1).toNat ∧ exAt l y 0 ≠ 0 ∧ exAt l y 0 ≤ 1073741824 ∧ s ≤ l.length ∧ cut l y s
@[irreducible] def CGd (l : List TermD) (k y n s e : Nat) : Prop := BG l k y n s ∧ s < l.length ∧ s ≤ e ∧ e ≤ l.length ∧ runs l y s e (exAt l y s)
@[irreducible] def SelfP (f : Nat) (l : List TermD) (k : Int) : Prop := 0 ≤ k ∧ BP l k.toNat ∧ l.length + k.toNat ≤ f
theorem exAt_of {l : List TermD} {y s : Nat} {t : TermD} (h : l[s]? = some t) : exAt l y s = ex y t := by unfold exAt; rw [h]; rfl

theorem ixE {t : TermD} {y : Nat} (h1 : 1 ≤ y) (h4 : y ≤ 4) : [t.e1, t.e2, t.e3, t.e4].getD ((y : Int) - 1).toNat 0 = ex y t := by
  match y, h1, h4 with
  | 1, _, _ => rfl
  | 2, _, _ => rfl
  | 3, _, _ => rfl
  | 4, _, _ => rfl
abbrev gd (t : TermD) (y : Nat) : Int := [t.e1, t.e2, t.e3, t.e4].getD ((y : Int) - 1).toNat 0
theorem LG.bp {l : List TermD} {k x : Nat} (h : LG l k x ∧ True) : BP l x := by have := h.1; unfold LG at this; exact this.2.1
theorem LG.k4 {l : List TermD} {k x : Nat} (h : LG l k x ∧ True) : x ≤ 4 := (LG.bp h).k4
theorem lv_a {l : List TermD} {k x : Nat} (h : LG l k x ∧ True) (hp : decide (0 < (x : Int)) = true) : 1 ≤ x := by simp only [decide_eq_true_eq] at hp; omega
theorem lz_1 {l : List TermD} {k x : Nat} (h : LG l k x ∧ True) : -9223372036854775808 ≤ (x : Int) - 1 := by omega
theorem lz_2 {l : List TermD} {k x : Nat} (h : LG l k x ∧ True) : (x : Int) - 1 ≤ 9223372036854775807 := by have := LG.k4 h; omega
theorem lz_3 {l : List TermD} {k x : Nat} (h : LG l k x ∧ True) (hp : decide (0 < (x : Int)) = true) : 0 ≤ (x : Int) - 1 := by have := lv_a h hp; omega
theorem lz_4 {l : List TermD} {k x : Nat} (h : LG l k x ∧ True) : (x : Int) - 1 < ((4 : Nat) : Int) := by have := LG.k4 h; omega
theorem lz_5 {l : List TermD} (h : ((l.length : Int) == 0) = false) : Int.toNat 0 < l.length := by
  have : (l.length : Int) ≠ 0 := by simpa using h
  show 0 < l.length; omega
theorem lz_6 {l : List TermD} (h : ((l.length : Int) == 0) = false) : 1 ≤ (l.length : Int) := by have := lz_5 h; have e : Int.toNat 0 = 0 := rfl; omega
theorem LG_0 {l : List TermD} {k : Nat} (h : BP l k) : LG l k k := by unfold LG; exact ⟨Nat.le_refl _, h, fun _ _ => rfl⟩
theorem LG_n {l : List TermD} {k x : Nat} (h : LG l k x ∧ True) (hp : decide (0 < (x : Int)) = true) {t : TermD} (ht : l[Int.toNat 0]? = some t) (hz : (gd t x == 0) = true) : LG l k (x - 1) := by
  have h1 := lv_a h hp
  have h4 := LG.k4 h
  have ht : l[0]? = some t := ht
  have hz : gd t x = 0 := by simpa using hz
  unfold gd at hz
  rw [ixE h1 h4] at hz
  have hh := h.1
  unfold LG at hh ⊢
  obtain ⟨a, b, c⟩ := hh
  obtain ⟨m, rfl⟩ : ∃ m, x = m + 1 := ⟨x - 1, by omega⟩
  refine ⟨by omega, b.zero ht hz, fun u hu => ?_⟩
  rw [c u hu]
  rw [ht] at hu; injection hu with hu; subst hu
  show lowLv t (m + 1) = lowLv t m
  rw [lowLv, if_pos hz]
theorem LG_c {l : List TermD} {k x : Nat} (h : LG l k x ∧ True) (hp : decide (0 < (x : Int)) = true) : (x : Int) - 1 = ((x - 1 : Nat) : Int) := by have := lv_a h hp; omega
theorem bA {f : Nat} {l : List TermD} {k : Nat} (h : ((l.length : Int) == 0) = true) : buildF (f + 1) l k = zP := by
  have : l.length = 0 := by have : (l.length : Int) = 0 := by simpa using h
                            omega
  rw [List.eq_nil_of_length_eq_zero this, buildF_nil]
theorem bA1 {f : Nat} {l : List TermD} {k : Nat} (h : ((l.length : Int) == 0) = true) : 0 = (buildF (f + 1) l k).level := by rw [bA h]; rfl
theorem bA2 {f : Nat} {l : List TermD} {k : Nat} (h : ((l.length : Int) == 0) = true) : false = (buildF (f + 1) l k).neg := by rw [bA h]; rfl
theorem bA3 {f : Nat} {l : List TermD} {k : Nat} (h : ((l.length : Int) == 0) = true) : (buildF (f + 1) l k).abs = [] := by rw [bA h]; rfl
theorem bA4 {f : Nat} {l : List TermD} {k : Nat} (h : ((l.length : Int) == 0) = true) : (buildF (f + 1) l k).coefs = [] := by rw [bA h]; rfl
theorem unf {f : Nat} {l : List TermD} {k x : Nat} (h : LG l k x ∧ True) {t : TermD} (ht : l[Int.toNat 0]? = some t) : ∃ r, l = t :: r ∧ lowLv t k = lowLv t x := by
  have ht : l[0]? = some t := ht
  have hh := h.1
  unfold LG at hh
  cases l with
  | nil => simp at ht
  | cons a r =>
    have := hh.2.2 t ht
    simp only [List.getElem?_cons_zero, Option.some.injEq] at ht; subst ht
    exact ⟨r, rfl, this⟩
theorem bB {f : Nat} {l : List TermD} {k x : Nat} (h : LG l k x ∧ True) (hx0 : ((x : Int) == 0) = true) {t : TermD} (ht : l[Int.toNat 0]? = some t) : buildF (f + 1) l k = .mk 0 t.neg t.abs [] := by
  obtain ⟨r, rfl, e⟩ := unf (f := f) h ht
  have : x = 0 := by have : (x : Int) = 0 := by simpa using hx0
                     omega
  subst this
  rw [buildF_cons, e, lowLv, if_pos rfl]
theorem bB1 {f : Nat} {l : List TermD} {k x : Nat} (h : LG l k x ∧ True) (hx0 : ((x : Int) == 0) = true) {t : TermD} (ht : l[Int.toNat 0]? = some t) : 0 = (buildF (f + 1) l k).level := by rw [bB h hx0 ht]; rfl
theorem bB2 {f : Nat} {l : List TermD} {k x : Nat} (h : LG l k x ∧ True) (hx0 : ((x : Int) == 0) = true) {t : TermD} (ht : l[Int.toNat 0]? = some t) : t.neg = (buildF (f + 1) l k).neg := by rw [bB h hx0 ht]; rfl
theorem bB3 {f : Nat} {l : List TermD} {k x : Nat} (h : LG l k x ∧ True) (hx0 : ((x : Int) == 0) = true) {t : TermD} (ht : l[Int.toNat 0]? = some t) : t.abs = (buildF (f + 1) l k).abs := by rw [bB h hx0 ht]; rfl
theorem bB4 {f : Nat} {l : List TermD} {k x : Nat} (h : LG l k x ∧ True) (hx0 : ((x : Int) == 0) = true) {t : TermD} (ht : l[Int.toNat 0]? = some t) : (buildF (f + 1) l k).coefs = [] := by rw [bB h hx0 ht]; rfl
theorem one {l : List TermD} {t u : TermD} (ht : l[Int.toNat 0]? = some t) (hu : l[Int.toNat 0]? = some u) : u = t := by rw [ht] at hu; injection hu with hu; exact hu.symm
theorem exne {l : List TermD} {k x : Nat} (h : LG l k x ∧ True) (hp : decide (0 < (x : Int)) = true) {t : TermD} (hne : (gd t x == 0) = false) : ex x t ≠ 0 := by
  have : gd t x ≠ 0 := by simpa using hne
  unfold gd at this
  rwa [ixE (lv_a h hp) (LG.k4 h)] at this
theorem bC {f : Nat} {l : List TermD} {k x : Nat} (h : LG l k x ∧ True) (hp : decide (0 < (x : Int)) = true) {t0 t : TermD} (ht0 : l[Int.toNat 0]? = some t0) (hne : (gd t0 x == 0) = false) (ht : l[Int.toNat 0]? = some t) (hbig : decide (1073741824 < gd t x) = true) :
    buildF f (l.drop (Int.toNat 1)) ((x : Int)).toNat = buildF (f + 1) l k := by
  have e := one ht0 ht; subst e
  have hn := exne h hp hne
  obtain ⟨r, rfl, e⟩ := unf (f := f) h ht
  have h1 := lv_a h hp
  rw [lowLv_ne hn h1] at e
  simp only [decide_eq_true_eq, gd] at hbig
  rw [ixE h1 (LG.k4 h)] at hbig
  rw [buildF_cons, e, if_neg (by omega), if_pos hbig, Int.toNat_natCast]
  rfl
theorem bC1 {f : Nat} {l : List TermD} {k x : Nat} (h : LG l k x ∧ True) (hp : decide (0 < (x : Int)) = true) {t0 t : TermD} (ht0 : l[Int.toNat 0]? = some t0) (hne : (gd t0 x == 0) = false) (ht : l[Int.toNat 0]? = some t) (hbig : decide (1073741824 < gd t x) = true) : (buildF f (l.drop (Int.toNat 1)) ((x : Int)).toNat).level = (buildF (f + 1) l k).level := by rw [bC h hp ht0 hne ht hbig]
theorem bC2 {f : Nat} {l : List TermD} {k x : Nat} (h : LG l k x ∧ True) (hp : decide (0 < (x : Int)) = true) {t0 t : TermD} (ht0 : l[Int.toNat 0]? = some t0) (hne : (gd t0 x == 0) = false) (ht : l[Int.toNat 0]? = some t) (hbig : decide (1073741824 < gd t x) = true) : (buildF f (l.drop (Int.toNat 1)) ((x : Int)).toNat).neg = (buildF (f + 1) l k).neg := by rw [bC h hp ht0 hne ht hbig]
theorem bC3 {f : Nat} {l : List TermD} {k x : Nat} (h : LG l k x ∧ True) (hp : decide (0 < (x : Int)) = true) {t0 t : TermD} (ht0 : l[Int.toNat 0]? = some t0) (hne : (gd t0 x == 0) = false) (ht : l[Int.toNat 0]? = some t) (hbig : decide (1073741824 < gd t x) = true) : (buildF f (l.drop (Int.toNat 1)) ((x : Int)).toNat).abs = (buildF (f + 1) l k).abs := by rw [bC h hp ht0 hne ht hbig]
theorem bC4 {f : Nat} {l : List TermD} {k x : Nat} (h : LG l k x ∧ True) (hp : decide (0 < (x : Int)) = true) {t0 t : TermD} (ht0 : l[Int.toNat 0]? = some t0) (hne : (gd t0 x == 0) = false) (ht : l[Int.toNat 0]? = some t) (hbig : decide (1073741824 < gd t x) = true) : (buildF f (l.drop (Int.toNat 1)) ((x : Int)).toNat).coefs = (buildF (f + 1) l k).coefs := by rw [bC h hp ht0 hne ht hbig]
theorem selfC {f : Nat} {l : List TermD} {k x : Nat} (h : LG l k x ∧ True) (hf : l.length + k ≤ f + 1) (hl : ((l.length : Int) == 0) = false) : SelfP f (l.drop (Int.toNat 1)) (x : Int) := by
  have hb := LG.bp h
  have h5 := lz_5 hl
  have e : Int.toNat 0 = 0 := rfl
  have e1 : Int.toNat 1 = 1 := rfl
  have hxk : x ≤ k := by have := h.1; unfold LG at this; exact this.1
  unfold SelfP
  rw [Int.toNat_natCast, e1]
  exact ⟨by omega, hb.sub (List.drop_sublist _ _), by rw [List.length_drop]; omega⟩
section
variable {f : Nat} {l : List TermD} {k x : Nat} {t0 t t1 : TermD}
theorem bD (h : LG l k x ∧ True) (hp : decide (0 < (x : Int)) = true) (ht0 : l[Int.toNat 0]? = some t0) (hne : (gd t0 x == 0) = false) (ht : l[Int.toNat 0]? = some t) (hbig : decide (1073741824 < gd t x) = false) (ht1 : l[Int.toNat 0]? = some t1) :
    gd t1 x = exAt l x 0 ∧ exAt l x 0 ≠ 0 ∧ 0 ≤ exAt l x 0 ∧ exAt l x 0 ≤ 1073741824 := by
  have e := one ht0 ht; subst e
  have e := one ht ht1; subst e
  have h1 := lv_a h hp
  have h4 := LG.k4 h
  have hn := exne h hp hne
  have hm : l[0]? = some t1 := ht1
  have hb := (LG.bp h).exb (List.mem_of_getElem? hm) h1 h4
  simp only [decide_eq_false_iff_not, gd] at hbig ⊢
  rw [ixE h1 h4] at hbig ⊢
  rw [exAt_of hm]
  exact ⟨rfl, hn, hb.1, by omega⟩
theorem bD1 (h : LG l k x ∧ True) (hp : decide (0 < (x : Int)) = true) (ht0 : l[Int.toNat 0]? = some t0) (hne : (gd t0 x == 0) = false) (ht : l[Int.toNat 0]? = some t) (hbig : decide (1073741824 < gd t x) = false) (ht1 : l[Int.toNat 0]? = some t1) : 0 ≤ gd t1 x + 1 := by have := bD h hp ht0 hne ht hbig ht1; omega
theorem bD2 (h : LG l k x ∧ True) (hp : decide (0 < (x : Int)) = true) (ht0 : l[Int.toNat 0]? = some t0) (hne : (gd t0 x == 0) = false) (ht : l[Int.toNat 0]? = some t) (hbig : decide (1073741824 < gd t x) = false) (ht1 : l[Int.toNat 0]? = some t1) : gd t1 x + 1 ≤ 281474976710656 := by have := bD h hp ht0 hne ht hbig ht1; omega
theorem bD3 (h : LG l k x ∧ True) (hp : decide (0 < (x : Int)) = true) (ht0 : l[Int.toNat 0]? = some t0) (hne : (gd t0 x == 0) = false) (ht : l[Int.toNat 0]? = some t) (hbig : decide (1073741824 < gd t x) = false) (ht1 : l[Int.toNat 0]? = some t1) : gd t1 x + 1 ≤ 9223372036854775807 := by have := bD h hp ht0 hne ht hbig ht1; omega
theorem bD4 (h : LG l k x ∧ True) (hp : decide (0 < (x : Int)) = true) (ht0 : l[Int.toNat 0]? = some t0) (hne : (gd t0 x == 0) = false) (ht : l[Int.toNat 0]? = some t) (hbig : decide (1073741824 < gd t x) = false) (ht1 : l[Int.toNat 0]? = some t1) : -9223372036854775808 ≤ gd t1 x + 1 := by have := bD h hp ht0 hne ht hbig ht1; omega
theorem bD5 (h : LG l k x ∧ True) (hp : decide (0 < (x : Int)) = true) (ht0 : l[Int.toNat 0]? = some t0) (hne : (gd t0 x == 0) = false) (ht : l[Int.toNat 0]? = some t) (hbig : decide (1073741824 < gd t x) = false) (ht1 : l[Int.toNat 0]? = some t1) : ti29.bys * (gd t1 x + 1).toNat ≤ 281474976710656 := by
  have := bD h hp ht0 hne ht hbig ht1
  have e : ti29.bys = 64 := rfl
  rw [e]; omega
theorem bD6 (h : LG l k x ∧ True) (hp : decide (0 < (x : Int)) = true) (ht0 : l[Int.toNat 0]? = some t0) (hne : (gd t0 x == 0) = false) (ht : l[Int.toNat 0]? = some t) (hbig : decide (1073741824 < gd t x) = false) (ht1 : l[Int.toNat 0]? = some t1) : (gd t1 x + 1).toNat = (exAt l x 0 + 1).toNat := by rw [(bD h hp ht0 hne ht hbig ht1).1]
theorem bD7 (h : LG l k x ∧ True) (hp : decide (0 < (x : Int)) = true) (ht0 : l[Int.toNat 0]? = some t0) (hne : (gd t0 x == 0) = false) (ht : l[Int.toNat 0]? = some t) (hbig : decide (1073741824 < gd t x) = false) (ht1 : l[Int.toNat 0]? = some t1) : List.replicate (gd t1 x + 1).toNat (PolyD.mk 0 false [] []) = coefTo f l x (exAt l x 0 + 1).toNat 0 := by
  rw [bD6 h hp ht0 hne ht hbig ht1]
  exact coefTo_0 f l x _
theorem bD8 (h : LG l k x ∧ True) (hp : decide (0 < (x : Int)) = true) (ht0 : l[Int.toNat 0]? = some t0) (hne : (gd t0 x == 0) = false) (ht : l[Int.toNat 0]? = some t) (hbig : decide (1073741824 < gd t x) = false) (ht1 : l[Int.toNat 0]? = some t1) : BG l k x (exAt l x 0 + 1).toNat 0 := by
  have := bD h hp ht0 hne ht hbig ht1
  unfold BG
  exact ⟨h.1, lv_a h hp, rfl, this.2.1, this.2.2.2, Nat.zero_le _, cut_0 l x⟩
end
section
variable {f : Nat} {l : List TermD} {k y n s e : Nat} {t : TermD}
theorem BG.lg (h : BG l k y n s ∧ True) : LG l k y ∧ True := by have := h.1; unfold BG at this; exact ⟨this.1, trivial⟩
theorem BG.one (h : BG l k y n s ∧ True) : 1 ≤ y ∧ y ≤ 4 := by have h2 := LG.k4 (BG.lg h); have := h.1; unfold BG at this; exact ⟨this.2.1, h2⟩
theorem bE1 (h : BG l k y n s ∧ True) : -9223372036854775808 ≤ (y : Int) - 1 := by omega
theorem bE2 (h : BG l k y n s ∧ True) : (y : Int) - 1 ≤ 9223372036854775807 := by have := BG.one h; omega
theorem bE3 (h : BG l k y n s ∧ True) : 0 ≤ (y : Int) - 1 := by have := BG.one h; omega
theorem bE4 (h : BG l k y n s ∧ True) : (y : Int) - 1 < ((4 : Nat) : Int) := by have := BG.one h; omega
theorem bE5 (h : decide ((s : Int) < (l.length : Int)) = true) : ((s : Int)).toNat < l.length := by simp only [decide_eq_true_eq] at h; omega
theorem bE6 (h : BG l k y n s ∧ True) (ht : l[((s : Nat) : Int).toNat]? = some t) : gd t y = exAt l y s := by
  rw [Int.toNat_natCast] at ht
  have := BG.one h
  unfold gd
  rw [ixE this.1 this.2, exAt_of ht]
theorem bE7 (h : BG l k y n s ∧ True) (hs : decide ((s : Int) < (l.length : Int)) = true) : CGd l k y n s s := by
  simp only [decide_eq_true_eq] at hs
  unfold CGd
  exact ⟨h.1, by omega, Nat.le_refl _, by omega, runs_0 _ _ _ _⟩
theorem CGd.bg (h : CGd l k y n s e ∧ True) : BG l k y n s ∧ True := by have := h.1; unfold CGd at this; exact ⟨this.1, trivial⟩
theorem CGd.le (h : CGd l k y n s e ∧ True) : s < l.length ∧ s ≤ e ∧ e ≤ l.length := by have := h.1; unfold CGd at this; exact ⟨this.2.1, this.2.2.1, this.2.2.2.1⟩
theorem CGd.len (h : CGd l k y n s e ∧ True) : l.length ≤ 1000000000 := (LG.bp (BG.lg (CGd.bg h))).len
theorem bF1 (h : CGd l k y n s e ∧ True) : -9223372036854775808 ≤ (e : Int) + 1 := by omega
theorem bF2 (h : CGd l k y n s e ∧ True) : (e : Int) + 1 ≤ 9223372036854775807 := by have := CGd.le h; have := CGd.len h; omega
theorem bF3 (h : CGd l k y n s e ∧ True) (he : decide ((e : Int) < (l.length : Int)) = true) (ht : l[((e : Nat) : Int).toNat]? = some t) (hz : (gd t y == exAt l y s) = true) : CGd l k y n s (e + 1) := by
  rw [Int.toNat_natCast] at ht
  simp only [decide_eq_true_eq] at he
  have h1 := BG.one (CGd.bg h)
  have hz : gd t y = exAt l y s := by simpa using hz
  unfold gd at hz
  rw [ixE h1.1 h1.2] at hz
  have hh := h.1
  unfold CGd at hh ⊢
  obtain ⟨a, b, c, d, r⟩ := hh
  exact ⟨a, b, by omega, by omega, runs_succ r ht hz⟩
theorem bF4 (h : CGd l k y n s e ∧ True) (hl : l.length + k ≤ f + 1) : SelfP f ((l.drop ((s : Int)).toNat).take (((e : Int)).toNat - ((s : Int)).toNat)) ((y : Int) - 1) := by
  have h1 := BG.one (CGd.bg h)
  have hlg := (BG.lg (CGd.bg h))
  have hk : y ≤ k := by have := hlg.1; unfold LG at this; exact this.1
  have hle := CGd.le h
  have hh := h.1
  unfold CGd at hh
  obtain ⟨m, rfl⟩ : ∃ m, y = m + 1 := ⟨y - 1, by omega⟩
  have e1 : (((m + 1 : Nat) : Int) - 1).toNat = m := by omega
  unfold SelfP
  rw [e1, Int.toNat_natCast, Int.toNat_natCast]
  refine ⟨by omega, ?_, by rw [List.length_take, List.length_drop]; omega⟩
  exact ((LG.bp hlg).sub (part_sub l s (e - s))).down (runs_part hh.2.2.2.2)
theorem bF5 (h : CGd l k y n s e ∧ True) : 0 ≤ exAt l y s := by
  have h1 := BG.one (CGd.bg h)
  have hle := CGd.le h
  obtain ⟨a, ha⟩ : ∃ a, l[s]? = some a := ⟨l[s]'hle.1, by simp⟩
  rw [exAt_of ha]
  exact ((LG.bp (BG.lg (CGd.bg h))).exb (List.mem_of_getElem? ha) h1.1 h1.2).1
theorem exle (h : CGd l k y n s e ∧ True) : exAt l y s ≤ exAt l y 0 := by
  have h1 := BG.one (CGd.bg h)
  have hle := CGd.le h
  obtain ⟨a, ha⟩ : ∃ a, l[s]? = some a := ⟨l[s]'hle.1, by simp⟩
  obtain ⟨b, hb⟩ : ∃ b, l[0]? = some b := ⟨l[0]'(by omega), by simp⟩
  rw [exAt_of ha, exAt_of hb]
  exact (LG.bp (BG.lg (CGd.bg h))).head h1.1 hb a (List.mem_of_getElem? ha)
theorem nn (h : CGd l k y n s e ∧ True) : n = (exAt l y 0 + 1).toNat := by have := (CGd.bg h).1; unfold BG at this; exact this.2.2.1
theorem bF6 (h : CGd l k y n s e ∧ True) : exAt l y s < (n : Int) := by have := exle h; have := nn h; have := bF5 h; omega
theorem bF7 (h : CGd l k y n s e ∧ True) : (exAt l y s).toNat < (coefTo f l y n s).length := by rw [coefTo_len]; have := bF6 h; have := bF5 h; omega
/-- How the inner loop ends. -/
def Ends (l : List TermD) (y s e : Nat) : Prop := decide ((e : Int) < (l.length : Int)) = !true ∨ ∃ t, l[((e : Nat) : Int).toNat]? = some t ∧ (gd t y == exAt l y s) = false
theorem ends (h : CGd l k y n s e ∧ True) (he : Ends l y s e) : s < e ∧ ∀ t, l[e]? = some t → ex y t ≠ exAt l y s := by
  have h1 := BG.one (CGd.bg h)
  have hle := CGd.le h
  rcases he with he | ⟨t, ht, hz⟩
  · simp only [Bool.not_true, decide_eq_false_iff_not] at he
    refine ⟨by omega, fun t ht => ?_⟩
    rw [List.getElem?_eq_none (by omega)] at ht; cases ht
  · rw [Int.toNat_natCast] at ht
    have hz : gd t y ≠ exAt l y s := by simpa using hz
    unfold gd at hz
    rw [ixE h1.1 h1.2] at hz
    refine ⟨?_, fun u hu => by rw [ht] at hu; injection hu with hu; subst hu; exact hz⟩
    rcases Nat.lt_or_eq_of_le hle.2.1 with h2 | h2
    · exact h2
    · subst h2; exact absurd (exAt_of ht).symm hz
theorem bG1 (h : CGd l k y n s e ∧ True) (he : Ends l y s e) : BG l k y n e := by
  have h2 := ends h he
  have h1 := BG.one (CGd.bg h)
  have hle := CGd.le h
  have hb := LG.bp (BG.lg (CGd.bg h))
  have hh := h.1
  unfold CGd at hh
  obtain ⟨hbg, _, _, _, hr⟩ := hh
  unfold BG at hbg ⊢
  obtain ⟨a, b, c, d, e', g, i⟩ := hbg
  exact ⟨a, b, c, d, e', by omega, cut_next hb h1.1 i hr (by omega) h2.2 h2.1⟩
theorem bG2 (h : CGd l k y n s e ∧ True) (he : Ends l y s e) : (coefTo f l y n s).set (exAt l y s).toNat (PolyD.mk (buildF f ((l.drop ((s : Int)).toNat).take (((e : Int)).toNat - ((s : Int)).toNat)) ((y : Int) - 1).toNat).level (buildF f ((l.drop ((s : Int)).toNat).take (((e : Int)).toNat - ((s : Int)).toNat)) ((y : Int) - 1).toNat).neg (buildF f ((l.drop ((s : Int)).toNat).take (((e : Int)).toNat - ((s : Int)).toNat)) ((y : Int) - 1).toNat).abs (buildF f ((l.drop ((s : Int)).toNat).take (((e : Int)).toNat - ((s : Int)).toNat)) ((y : Int) - 1).toNat).coefs) = coefTo f l y n e := by
  have h2 := ends h he
  have h1 := BG.one (CGd.bg h)
  have hle := CGd.le h
  have h5 := bF5 h
  have h6 := bF6 h
  have hh := h.1
  unfold CGd at hh
  obtain ⟨hbg, _, _, _, hr⟩ := hh
  unfold BG at hbg
  obtain ⟨a, b, c, d, e', g, i⟩ := hbg
  have e1 : ((y : Int) - 1).toNat = y - 1 := by omega
  rw [eP_eq, e1, Int.toNat_natCast, Int.toNat_natCast]
  exact coefTo_next i hr h2.1 hle.2.2 h5 (by omega)
theorem bG3 (h : CGd l k y n s e ∧ True) : (e : Int) ≤ (l.length : Int) := by have := CGd.le h; omega
theorem bG4 (h : CGd l k y n s e ∧ True) : (s : Int) ≤ (e : Int) := by have := CGd.le h; omega
theorem bH {hz : decide ((s : Int) < (l.length : Int)) = false} (h : BG l k y n s ∧ True) (hl : ((l.length : Int) == 0) = false) : buildF (f + 1) l k = .mk (y : Int) false [] (coefTo f l y n s) := by
  have h0 := lz_5 hl
  have e0 : Int.toNat 0 = 0 := rfl
  simp only [decide_eq_false_iff_not] at hz
  obtain ⟨t, ht⟩ : ∃ t, l[Int.toNat 0]? = some t := ⟨l[Int.toNat 0]'h0, by simp⟩
  obtain ⟨r, hr, e⟩ := unf (f := f) (BG.lg h) ht
  have ht0 : l[0]? = some t := ht
  have h1 := BG.one h
  have hh := h.1
  unfold BG at hh
  obtain ⟨a, b, c, d, e', g, i⟩ := hh
  rw [exAt_of ht0] at c d e'
  rw [lowLv_ne d h1.1] at e
  have hs : s = l.length := by omega
  rw [hs]
  unfold coefTo
  rw [List.take_length, c]
  subst hr
  rw [buildF_cons, e, if_neg (by omega), if_neg (by omega)]
theorem bH1 (h : BG l k y n s ∧ True) (hz : decide ((s : Int) < (l.length : Int)) = false) (hl : ((l.length : Int) == 0) = false) : (y : Int) = (buildF (f + 1) l k).level := by rw [bH (hz := hz) h hl]; rfl
theorem bH2 (h : BG l k y n s ∧ True) (hz : decide ((s : Int) < (l.length : Int)) = false) (hl : ((l.length : Int) == 0) = false) : false = (buildF (f + 1) l k).neg := by rw [bH (hz := hz) h hl]; rfl
theorem bH3 (h : BG l k y n s ∧ True) (hz : decide ((s : Int) < (l.length : Int)) = false) (hl : ((l.length : Int) == 0) = false) : (buildF (f + 1) l k).abs = [] := by rw [bH (hz := hz) h hl]; rfl
theorem bH4 (h : BG l k y n s ∧ True) (hz : decide ((s : Int) < (l.length : Int)) = false) (hl : ((l.length : Int) == 0) = false) : coefTo f l y n s = (buildF (f + 1) l k).coefs := by rw [bH (hz := hz) h hl]; rfl
theorem cl1 (h : BG l k y n s ∧ True) : n = (coefTo f l y n s).length := (coefTo_len f l y n s).symm
end
theorem castS (n : Nat) : (n : Int) + 1 = ((n + 1 : Nat) : Int) := by omega
theorem muB {l : List TermD} {k y n s e s' : Nat} (h : CGd l k y n s e ∧ True) (he : Ends l y s e) (hr : s = s') : l.length - e < l.length - s' := by have := ends h he; have := CGd.le h; omega
theorem z3 {a b : Nat} : (0 : Int) = (((a, b, 0) : Nat × Nat × Nat).2.2 : Int) := rfl
theorem endsL {l : List TermD} {y s e : Nat} (h : decide ((e : Int) < (l.length : Int)) = !true) : Ends l y s e := .inl h
theorem endsR {l : List TermD} {y s e : Nat} {t : TermD} (ht : l[((e : Nat) : Int).toNat]? = some t) (hz : (gd t y == exAt l y s) = false) : Ends l y s e := .inr ⟨t, ht, hz⟩
theorem noLv {x : Nat} (h0 : decide (0 < (x : Int)) = false) (h1 : ((x : Int) == 0) = false) : False := by
  simp only [decide_eq_false_iff_not] at h0
  have : (x : Int) ≠ 0 := by simpa using h1
  omega
theorem noLv2 {x : Nat} (h0 : decide (0 < (x : Int)) = true) (h1 : ((x : Int) == 0) = true) : False := by
  simp only [decide_eq_true_eq] at h0
  have : (x : Int) = 0 := by simpa using h1
  omega

end Go.Proofs.YtfbmhjooliccnaaGreatDoor
end

section
namespace Go.Proofs.YtfbmhjooliccnaaGreatDoor
open Go Go.Ab

set_option maxRecDepth 20000 in
set_option maxHeartbeats 4000000 in
theorem build_s (f : Nat) (ih : ∀ (l : List TermD) (k : Nat), BP l k → l.length + k ≤ f → Pur Tryz.prog 127 [(wrP Vw (.ls Kd.term) l).den, (wrP Vw (.int .i64) (k : Int)).den] (eT .poly (buildF f l k)).den)
    (ih2 : ∀ (l : List TermD) (k : Int), SelfP f l k → Pur Tryz.prog 127 [(wrP Vw (.ls Kd.term) l).den, (wrP Vw (.int .i64) k).den] (eT .poly (buildF f l k.toNat)).den)
    (l : List TermD) (k : Nat) (hb : BP l k) (hf : l.length + k ≤ f + 1) : Pur Tryz.prog 127 [(wrP Vw (.ls Kd.term) l).den, (wrP Vw (.int .i64) (k : Int)).den] (eT .poly (buildF (f + 1) l k)).den := by
  refine vcF_ok (V := Vw) (reg := ⟨[ct2 Vw 127 (.ls Kd.term) (.int .i64) (fun l k => SelfP f l k) (fun l k => eT .poly (buildF f l k.toNat)) ih2], []⟩) (ls := [(3, ⟨Nat, fun x => ⟨[(0, lT .term l), (1, iT x), (4, .e (.c (.ptr 0 0)))], [(0, .cells ((kdRow .poly zP).map .d))], 1⟩, fun x => LG l k x ∧ True, fun x => x⟩), (11, ⟨Nat × Nat × Nat, fun x => ⟨[(0, lT .term l), (1, iT x.1), (4, .e (.c (.ptr 0 0))), (5, .e (.c (.own 1 (U := Un) Kd.poly x.2.1))), (6, iT x.2.2)], [(0, .cells ((kdRow .poly zP).map .d)), (1, .rows (U := Un) Kd.poly (coefTo f l x.1 x.2.1 x.2.2))], 2⟩, fun x => BG l k x.1 x.2.1 x.2.2 ∧ True, fun x => l.length - x.2.2⟩), (1000014, ⟨Nat × Nat × Nat × Nat, fun x => ⟨[(0, lT .term l), (1, iT x.1), (4, .e (.c (.ptr 0 0))), (5, .e (.c (.own 1 (U := Un) Kd.poly x.2.1))), (6, iT x.2.2.1), (7, iT (exAt l x.1 x.2.2.1)), (8, iT x.2.2.2)], [(0, .cells ((kdRow .poly zP).map .d)), (1, .rows (U := Un) Kd.poly (coefTo f l x.1 x.2.1 x.2.2.1))], 2⟩, fun x => CGd l k x.1 x.2.1 x.2.2.1 x.2.2.2 ∧ True, fun x => l.length - x.2.2.2⟩)]) mixed Tryz.func127 rfl (by kernel_rfl) (Nat.le_of_ble_eq_true rfl) (noNames rfl) (args := [(wrP Vw (.ls Kd.term) l), (wrP Vw (.int .i64) (k : Int))]) (r := eT .poly (buildF (f + 1) l k)) ?_
  repeat' (first | intro _ | apply And.intro)
  case right =>
    rename_i hlen hl
    repeat' (first
      | (rename_i a b; exact (noLv a b).elim)
      | (rename_i a _ _ _ b; exact (noLv2 a b).elim)
      | intro _ | apply And.intro
      | refine Exists.intro k (And.intro ?_ fun (x : Nat) (hx : LG l k x ∧ True) => ?_)
      | refine Exists.intro (x, (exAt l x 0 + 1).toNat, 0) (And.intro ?_ fun (y : Nat × Nat × Nat) (hy : BG l k y.1 y.2.1 y.2.2 ∧ True) => ?_)
      | refine Exists.intro (fun v => v.1 = y.1 ∧ v.2.2.1 = y.2.2) (Exists.intro (y.1, y.2.1, y.2.2, y.2.2) (And.intro ?_ fun (v : Nat × Nat × Nat × Nat) (hv : CGd l k v.1 v.2.1 v.2.2.1 v.2.2.2 ∧ True) (hr : v.1 = y.1 ∧ v.2.2.1 = y.2.2) => ?_))
      | refine Exists.intro (v.1, v.2.1, v.2.2.1, v.2.2.2 + 1) ?_
      | refine Exists.intro (v.1, v.2.1, v.2.2.2) ?_
      | refine Exists.intro (x - 1) ?_)
    all_goals clear ih ih2
    all_goals first
      | exact True.intro
      | (with_reducible rfl)
      | (with_reducible exact z3) | (with_reducible exact LG_0 hb) | (with_reducible exact lz_5 hl) | (with_reducible exact lz_6 hl) | (with_reducible exact Int.natCast_nonneg _) | (with_reducible exact castS _)
      | (with_reducible exact cl1 hy) | (with_reducible exact bE1 hy) | (with_reducible exact bE2 hy) | (with_reducible exact bE3 hy) | (with_reducible exact bE4 hy)
      | (with_reducible exact bE1 (CGd.bg hv)) | (with_reducible exact bE2 (CGd.bg hv)) | (with_reducible exact bE3 (CGd.bg hv)) | (with_reducible exact bE4 (CGd.bg hv))
      | (with_reducible exact bF1 hv) | (with_reducible exact bF2 hv) | (with_reducible exact bF4 hv hf) | (with_reducible exact bF5 hv) | (with_reducible exact bF6 hv) | (with_reducible exact bF7 hv) | (with_reducible exact bG3 hv) | (with_reducible exact bG4 hv) | (with_reducible exact hr.1) | (with_reducible exact hr.2)
      | (with_reducible exact lz_1 hx) | (with_reducible exact lz_2 hx) | (with_reducible exact lz_4 hx) | (with_reducible exact selfC hx hf hl)
      | (rename_i hp; with_reducible exact lz_3 hx hp) | (rename_i hp _ _; with_reducible exact lz_3 hx hp) | (rename_i hp _ _ _ _; with_reducible exact lz_3 hx hp) | (rename_i hp _ _ _ _ _ _; with_reducible exact lz_3 hx hp) | (rename_i hp _ _ _ _ _ _ _; with_reducible exact lz_3 hx hp) | (rename_i hp _ _ _ _ _ _ _ _ _; with_reducible exact lz_3 hx hp)
      | (rename_i hp t0 ht0 hz; first | with_reducible exact LG_n hx hp ht0 hz | with_reducible exact LG_c hx hp)
      | (rename_i hx0 t ht; first | with_reducible exact bB1 hx hx0 ht | with_reducible exact bB2 hx hx0 ht | with_reducible exact bB3 hx hx0 ht | with_reducible exact bB4 hx hx0 ht)
      | (rename_i hp t0 ht0 hne hx0 t ht hbig; first | with_reducible exact bC1 hx hp ht0 hne ht hbig | with_reducible exact bC2 hx hp ht0 hne ht hbig | with_reducible exact bC3 hx hp ht0 hne ht hbig | with_reducible exact bC4 hx hp ht0 hne ht hbig)
      | (rename_i hp t0 ht0 hne hx0 t ht hbig t1 ht1; first | with_reducible exact bD1 hx hp ht0 hne ht hbig ht1 | with_reducible exact bD2 hx hp ht0 hne ht hbig ht1 | with_reducible exact bD3 hx hp ht0 hne ht hbig ht1 | with_reducible exact bD4 hx hp ht0 hne ht hbig ht1 | with_reducible exact bD5 hx hp ht0 hne ht hbig ht1 | with_reducible exact bD6 hx hp ht0 hne ht hbig ht1 | with_reducible exact bD7 hx hp ht0 hne ht hbig ht1 | with_reducible exact bD8 hx hp ht0 hne ht hbig ht1)
      | (rename_i hs; first | with_reducible exact bE5 hs | with_reducible exact bH1 hy hs hl | with_reducible exact bH2 hy hs hl | with_reducible exact bH3 hy hs hl | with_reducible exact bH4 hy hs hl)
      | (rename_i hs t ht; first | with_reducible exact bE6 hy ht | with_reducible exact bE7 hy hs)
      | (rename_i he t ht hz; first | with_reducible exact bF3 hv he ht hz | with_reducible exact bG1 hv (endsR ht hz) | with_reducible exact bG2 hv (endsR ht hz) | exact muB hv (endsR ht hz) hr.2)
      | (rename_i he t ht hz _ _; first | with_reducible exact bG1 hv (endsR ht hz) | with_reducible exact bG2 hv (endsR ht hz) | exact muB hv (endsR ht hz) hr.2)
      | (rename_i he; first | with_reducible exact bE5 he | with_reducible exact bG1 hv (endsL he) | with_reducible exact bG2 hv (endsL he) | exact muB hv (endsL he) hr.2)
      | (rename_i he _ _; first | with_reducible exact bG1 hv (endsL he) | with_reducible exact bG2 hv (endsL he) | exact muB hv (endsL he) hr.2)
      | decide
      | (show x - 1 < x; simp only [decide_eq_true_eq, decide_eq_false_iff_not] at *; omega)
      | (show l.length - (v.2.2.2 + 1) < l.length - v.2.2.2; simp only [decide_eq_true_eq, decide_eq_false_iff_not] at *; omega)
      | trace_state
  all_goals clear ih ih2
  all_goals first
    | exact True.intro
    | (rename_i h; first | with_reducible exact bA1 h | with_reducible exact bA2 h | with_reducible exact bA3 h | with_reducible exact bA4 h)
    | trace_state

theorem selfI {f : Nat} (ih : ∀ (l : List TermD) (k : Nat), BP l k → l.length + k ≤ f → Pur Tryz.prog 127 [(wrP Vw (.ls Kd.term) l).den, (wrP Vw (.int .i64) (k : Int)).den] (eT .poly (buildF f l k)).den) (l : List TermD) (k : Int) (h : SelfP f l k) : Pur Tryz.prog 127 [(wrP Vw (.ls Kd.term) l).den, (wrP Vw (.int .i64) k).den] (eT .poly (buildF f l k.toNat)).den := by
  unfold SelfP at h
  have e : k = ((k.toNat : Nat) : Int) := by omega
  have := ih l k.toNat h.2.1 h.2.2
  rw [← e] at this
  exact this
set_option maxRecDepth 20000 in
set_option maxHeartbeats 4000000 in
theorem build_n (k : Int) : Pur Tryz.prog 127 [(wrP Vw (.ls Kd.term) ([] : List TermD)).den, (wrP Vw (.int .i64) k).den] (eT .poly zP).den := by
  refine vcF_ok (V := Vw) (reg := ⟨[], []⟩) (ls := []) mixed Tryz.func127 rfl (by kernel_rfl) (Nat.le_of_ble_eq_true rfl) (noNames rfl) (args := [(wrP Vw (.ls Kd.term) ([] : List TermD)), (wrP Vw (.int .i64) k)]) (r := eT .poly zP) ?_
  repeat' (first | (rename_i h; exact absurd h (by decide)) | intro _ | apply And.intro)
  all_goals first | exact True.intro | rfl
theorem build_c : ∀ (f : Nat) (l : List TermD) (k : Nat), BP l k → l.length + k ≤ f → Pur Tryz.prog 127 [(wrP Vw (.ls Kd.term) l).den, (wrP Vw (.int .i64) (k : Int)).den] (eT .poly (buildF f l k)).den
  | 0, l, k, _, hf => by
    have : l = [] := List.eq_nil_of_length_eq_zero (by omega)
    subst this
    rw [buildF]
    exact build_n k
  | f + 1, l, k, hb, hf => build_s f (build_c f) (selfI (build_c f)) l k hb hf
@[irreducible] def BPre (l : List TermD) (k : Int) : Prop := k = 4 ∧ BP l 4
theorem build_4 (l : List TermD) (k : Int) (h : BPre l k) : Pur Tryz.prog 127 [(wrP Vw (.ls Kd.term) l).den, (wrP Vw (.int .i64) k).den] (eT .poly (buildF (l.length + 4) l 4)).den := by
  unfold BPre at h
  obtain ⟨rfl, h⟩ := h
  exact build_c (l.length + 4) l 4 h (Nat.le_refl _)
def ct_build : Ct Tryz.prog Un := ct2 Vw 127 (.ls Kd.term) (.int .i64) (fun (l : List TermD) (k : Int) => BPre l k) (fun (l : List TermD) (k : Int) => eT .poly (buildF (l.length + 4) l 4)) (fun l k h => build_4 l k h)

end Go.Proofs.YtfbmhjooliccnaaGreatDoor
end
