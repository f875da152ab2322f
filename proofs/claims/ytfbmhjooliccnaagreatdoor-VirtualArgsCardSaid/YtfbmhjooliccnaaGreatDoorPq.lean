/- The bridge: what a reading of arguments gives in the framework. No condition. The bridge: what a reading of a form gives in the framework. No condition. The bridge: a whole form, and the arguments of the law. No condition. -/
import Derived.Test.YtfbmhjooliccnaaGreatDoorPn
import Derived.Test.YtfbmhjooliccnaaGreatDoorPp
set_option linter.all false

section
namespace Go.Proofs.YtfbmhjooliccnaaGreatDoor
open Go Go.Ab

theorem exists_list {X : Type} : ∀ (n : Nat) (P : Nat → X → Prop), (∀ i, i < n → ∃ x, P i x) → ∃ l : List X, l.length = n ∧ ∀ i x, l[i]? = some x → P i x
  | 0, P, _ => ⟨[], rfl, fun i x h => by simp at h⟩
  | n + 1, P, h => by
    obtain ⟨l, hl, hp⟩ := exists_list n P fun i hi => h i (by omega)
    obtain ⟨x, hx⟩ := h n (by omega)
    refine ⟨l ++ [x], by simp [hl], fun i y hy => ?_⟩
    by_cases hi : i < n
    · rw [List.getElem?_append_left (by omega)] at hy; exact hp i y hy
    · rw [List.getElem?_append_right (by omega)] at hy
      have : i = n := by
        have := (List.getElem?_eq_some_iff.1 hy).1
        simp at this; omega
      subst this
      rw [hl, Nat.sub_self] at hy
      simp only [List.getElem?_cons_zero, Option.some.injEq] at hy
      subst hy; exact hx

def S0 (w : World) : Nat → Prop := stab w (fun _ => False) noG
def RelCs (w : World) (r : List D) (cs : List Value) : Prop := r.length = cs.length ∧ ∀ (i : Nat) (x : D) (u : Value), r[i]? = some x → cs[i]? = some u → DRel w (S0 w) x u

theorem mapM_get {α β : Type} (f : α → Option β) : ∀ (l : List α) (r : List β), l.mapM f = some r → r.length = l.length ∧ ∀ (i : Nat) (a : α) (b : β), l[i]? = some a → r[i]? = some b → f a = some b
  | [], r, h => by simp at h; subst h; exact ⟨rfl, fun i a b ha => by simp at ha⟩
  | x :: l, r, h => by
    rw [List.mapM_cons] at h
    simp only [Option.bind_eq_bind, Option.bind_eq_some_iff, Option.pure_def, Option.some.injEq] at h
    obtain ⟨y, hy, r', hr', rfl⟩ := h
    obtain ⟨h1, h2⟩ := mapM_get f l r' hr'
    refine ⟨by simp [h1], fun i a b ha hb => ?_⟩
    cases i with
    | zero => simp at ha hb; subst ha; subst hb; exact hy
    | succ i => exact h2 i a b (by simpa using ha) (by simpa using hb)
theorem cells_get {w : World} {base n : Nat} {a : Addr} {cs : List Value} (h : w.cells? base a n = some cs) : cs.length = n ∧ ∀ (j : Nat) (u : Value), cs[j]? = some u → w.cell? (a.add j) = some u := by
  unfold World.cells? at h
  split at h
  · obtain ⟨h1, h2⟩ := mapM_get _ _ _ h
    refine ⟨by simpa using h1, fun j u hu => ?_⟩
    have hj : j < n := by have := (List.getElem?_eq_some_iff.1 hu).1; simp at h1; omega
    exact h2 j j u (by simp [hj]) hu
  · cases h
theorem cell_facts {w : World} {a : Addr} {u : Value} (h : w.cell? a = some u) : a.spot = none ∧ a.block < w.heap.size := by
  unfold World.cell? at h
  split at h
  · rename_i hb
    split at h
    · cases h
    · rename_i hs
      exact ⟨by simpa using hs, (Array.getElem?_eq_some_iff.1 hb).1⟩
  · cases h

section
variable {H : Type} {enc : TypeId × Value → H} {P : Program} {w : World} {base : Nat} {sp : Nat → Bool} {held : Bool}

theorem slice_rel {fuel : Nat} {t e : TypeId} {v : Value} {d : DataW H} {ps : List MemPlace} {X : Type} (encX : X → List D) (good : X → Prop) (hu : P.underlying t = some (.slice e)) (hk : 0 < P.cellsOf e) (hlen : ∀ x, (encX x).length = P.cellsOf e)
    (elem : ∀ cs d ps, DataW.trod enc P w base sp held fuel e cs = some (d, ps) → cs.length = P.cellsOf e → ∃ x, good x ∧ RelCs w (encX x) cs)
    (h : DataW.trod enc P w base sp held (fuel + 1) t [v] = some (d, ps)) : ∃ l : List X, (∀ x ∈ l, good x) ∧ DRel w (S0 w) (.sl (l.map encX)) v := by
  unfold DataW.trod at h
  rw [hu] at h
  have hv : (∃ a len cap, v = .slice (some a) len cap) ∨ v = .slice none 0 0 := by
    cases v
    case slice A len cap =>
      cases A with
      | some a => exact .inl ⟨a, len, cap, rfl⟩
      | none =>
        cases len with
        | zero => cases cap with
          | zero => exact .inr rfl
          | succ c => simp at h
        | succ c => simp at h
    all_goals (simp at h)
  rcases hv with ⟨a, len, cap, rfl⟩ | rfl
  case inr => exact ⟨[], fun x hx => by simp at hx, DRel.sl [] 1 0 none (fun _ _ => .bool false) (by simp) (by simp) (fun r hr => by simp at hr) (fun hne => absurd rfl hne) (fun i j x hx => by simp at hx)⟩
  case inl =>
    simp only at h
    split at h
    · rename_i hc
      rw [Option.bind_eq_some_iff] at h
      obtain ⟨elems, hm, _⟩ := h
      obtain ⟨h1, h2⟩ := mapM_get _ _ _ hm
      have hl : elems.length = len := by simpa using h1
      have key : ∀ i, i < len → ∃ x : X, good x ∧ ∃ cs, cs.length = P.cellsOf e ∧ (∀ (j : Nat) (u : Value), cs[j]? = some u → w.cell? (a.add (i * P.cellsOf e + j)) = some u) ∧ RelCs w (encX x) cs := by
        intro i hi
        have := h2 i i (elems[i]'(by omega)) (by simp [hi]) (by simp)
        rw [Option.bind_eq_some_iff] at this
        obtain ⟨cs, hcs, htr⟩ := this
        obtain ⟨c1, c2⟩ := cells_get hcs
        obtain ⟨x, g, r⟩ := elem cs _ _ htr c1
        refine ⟨x, g, cs, c1, fun j u hu => ?_, r⟩
        have := c2 j u hu
        rwa [add_add] at this
      obtain ⟨l, l1, l2⟩ := exists_list len (fun i x => good x ∧ ∃ cs, cs.length = P.cellsOf e ∧ (∀ (j : Nat) (u : Value), cs[j]? = some u → w.cell? (a.add (i * P.cellsOf e + j)) = some u) ∧ RelCs w (encX x) cs) key
      refine ⟨l, fun x hx => ?_, ?_⟩
      · obtain ⟨i, hi⟩ := List.getElem?_of_mem hx
        exact (l2 i x hi).1
      · have e0 : len = (l.map encX).length := by simp [l1]
        have cellAt : ∀ i j, i < len → j < P.cellsOf e → ∃ u, w.cell? (a.add (i * P.cellsOf e + j)) = some u := by
          intro i j hi hj
          obtain ⟨_, cs, c1, c2, _⟩ := l2 i (l[i]'(by omega)) (by simp)
          obtain ⟨u, hu⟩ : ∃ u, cs[j]? = some u := ⟨cs[j]'(by omega), by simp⟩
          exact ⟨u, c2 j u hu⟩
        have := DRel.sl (w := w) (S := S0 w) (l.map encX) (P.cellsOf e) cap (some a) (fun i j => (w.cell? (a.add (i * P.cellsOf e + j))).getD (.bool false)) (by have := hc.2.1; simp; omega) hc.2.2
          (fun r hr => by rw [List.mem_map] at hr; obtain ⟨x, _, rfl⟩ := hr; exact hlen x) (fun hne => ?_) (fun i j x hx => ?_)
        · rw [← e0] at this; exact this
        · have h0 : 0 < len := by
            rcases Nat.eq_zero_or_pos len with h | h
            · exact absurd (List.eq_nil_of_length_eq_zero (by rw [List.length_map]; omega)) hne
            · exact h
          obtain ⟨u, hu⟩ := cellAt 0 0 h0 hk
          have hf := cell_facts hu
          rw [Nat.zero_mul, Nat.add_zero] at hf
          have hz : a.add 0 = a := by unfold Addr.add; simp
          rw [hz] at hf
          refine ⟨a, rfl, hf.1, ⟨hf.2, fun h => h, fun s hs => by cases hs⟩, fun i j hi hj => ?_⟩
          obtain ⟨u, hu⟩ := cellAt i j (by simpa [l1] using hi) hj
          rw [hu]; rfl
        · rw [Option.bind_eq_some_iff] at hx
          obtain ⟨r, hr, hx⟩ := hx
          rw [List.getElem?_map, Option.map_eq_some_iff] at hr
          obtain ⟨y, hy, rfl⟩ := hr
          obtain ⟨_, cs, c1, c2, c3⟩ := l2 i y hy
          have hj : j < P.cellsOf e := by have := (List.getElem?_eq_some_iff.1 hx).1; rw [hlen] at this; exact this
          obtain ⟨u, hu⟩ : ∃ u, cs[j]? = some u := ⟨cs[j]'(by omega), by simp⟩
          rw [c2 j u hu]
          exact c3.2 j x u hx hu
    · cases h
end
end Go.Proofs.YtfbmhjooliccnaaGreatDoor
end

section
namespace Go.Proofs.YtfbmhjooliccnaaGreatDoor
open Go Go.Ab

section
variable {H : Type} {enc : TypeId × Value → H} {P : Program} {w : World} {base : Nat} {sp : Nat → Bool} {held : Bool}

theorem trod_succ {fuel : Nat} {t : TypeId} {cs : List Value} {d : DataW H} {ps : List MemPlace} (h : DataW.trod enc P w base sp held fuel t cs = some (d, ps)) : ∃ f, fuel = f + 1 := by
  cases fuel with
  | zero => simp [DataW.trod] at h
  | succ f => exact ⟨f, rfl⟩

theorem bool_read {fuel : Nat} {t : TypeId} {cs : List Value} {d : DataW H} {ps : List MemPlace} (hu : P.underlying t = some .bool) (h : DataW.trod enc P w base sp held fuel t cs = some (d, ps)) : ∃ b, cs = [.bool b] := by
  obtain ⟨f, rfl⟩ := trod_succ h
  unfold DataW.trod at h
  rw [hu] at h
  match cs, h with
  | [.bool b], _ => exact ⟨b, rfl⟩
theorem int_read {fuel : Nat} {t : TypeId} {k : IntKind} {cs : List Value} {d : DataW H} {ps : List MemPlace} (hu : P.underlying t = some (.int k)) (h : DataW.trod enc P w base sp held fuel t cs = some (d, ps)) : ∃ n, cs = [.int k n] ∧ (Lit.int k n).wf = true := by
  obtain ⟨f, rfl⟩ := trod_succ h
  unfold DataW.trod at h
  rw [hu] at h
  match cs, h with
  | [.int k' n], h =>
    simp only at h
    split at h
    · rename_i hc
      exact ⟨n, by rw [hc.1], hc.2⟩
    · cases h
theorem str_read {fuel : Nat} {t : TypeId} {cs : List Value} {d : DataW H} {ps : List MemPlace} (hu : P.underlying t = some .string) (h : DataW.trod enc P w base sp held fuel t cs = some (d, ps)) : ∃ s, cs = [.string s] := by
  obtain ⟨f, rfl⟩ := trod_succ h
  unfold DataW.trod at h
  rw [hu] at h
  match cs, h with
  | [.string s], _ => exact ⟨s, rfl⟩
theorem struct_read {fuel : Nat} {t : TypeId} {fs : Array Field} {cs : List Value} {d : DataW H} {ps : List MemPlace} (hu : P.underlying t = some (.struct fs)) (h : DataW.trod enc P w base sp held (fuel + 1) t cs = some (d, ps)) :
    cs.length = P.cellsOf t ∧ ∀ (i : Nat) (f : Field), fs.toList[i]? = some f → ∃ d ps, DataW.trod enc P w base sp held fuel f.type ((cs.drop f.offset).take (P.cellsOf f.type)) = some (d, ps) := by
  unfold DataW.trod at h
  rw [hu] at h
  simp only at h
  split at h
  · rename_i hl
    refine ⟨hl, fun i f hf => ?_⟩
    rw [Option.map_eq_some_iff] at h
    obtain ⟨xs, hm, _⟩ := h
    obtain ⟨h1, h2⟩ := mapM_get _ _ _ hm
    have hi : i < xs.length := by have := (List.getElem?_eq_some_iff.1 hf).1; omega
    have := h2 i f xs[i] hf (List.getElem?_eq_getElem hi)
    exact ⟨xs[i].1, xs[i].2, this⟩
  · cases h

theorem RelCs.cons {x : D} {u : Value} {r : List D} {cs : List Value} (h : DRel w (S0 w) x u) (h' : RelCs w r cs) : RelCs w (x :: r) (u :: cs) := by
  refine ⟨by simp [h'.1], fun i y v hy hv => ?_⟩
  cases i with
  | zero => simp at hy hv; subst hy; subst hv; exact h
  | succ i => exact h'.2 i y v (by simpa using hy) (by simpa using hv)
theorem RelCs.nil : RelCs w [] [] := ⟨rfl, fun i x u hx => by simp at hx⟩
theorem RelCs.sc (v : Value) (h : v.oneCell' = true) : DRel w (S0 w) (.sc v) v := .sc v h
theorem slice_one {fuel : Nat} {t e : TypeId} {cs : List Value} {d : DataW H} {ps : List MemPlace} (hu : P.underlying t = some (.slice e)) (h : DataW.trod enc P w base sp held fuel t cs = some (d, ps)) : ∃ v, cs = [v] := by
  obtain ⟨f, rfl⟩ := trod_succ h
  unfold DataW.trod at h
  rw [hu] at h
  match cs, h with
  | [v], _ => exact ⟨v, rfl⟩
  | [], h => simp at h
  | a :: b :: c, h => simp at h
end

section
variable {H : Type} {enc : TypeId × Value → H} {w : World} {base : Nat} {sp : Nat → Bool} {held : Bool}

theorem c3 : Tryz.prog.cellsOf 3 = 1 := by kernel_rfl
theorem c4 : Tryz.prog.cellsOf 4 = 1 := by kernel_rfl
theorem c9 : Tryz.prog.cellsOf 9 = 1 := by kernel_rfl
theorem c22 : Tryz.prog.cellsOf 22 = 1 := by kernel_rfl
theorem c24 : Tryz.prog.cellsOf 24 = 1 := by kernel_rfl
theorem c26 : Tryz.prog.cellsOf 26 = 2 := by kernel_rfl
theorem c27 : Tryz.prog.cellsOf 27 = 1 := by kernel_rfl
theorem c29 : Tryz.prog.cellsOf 29 = 4 := by kernel_rfl
theorem c30 : Tryz.prog.cellsOf 30 = 1 := by kernel_rfl
theorem c32 : Tryz.prog.cellsOf 32 = 7 := by kernel_rfl

def U32 (n : Int) : Prop := isD n
theorem u32_wf {n : Int} (h : (Lit.int .u32 n).wf = true) : isD n := by
  simp [Lit.wf, IntKind.min, IntKind.max, IntKind.bits, IntKind.signed] at h
  unfold isD
  omega

/-- A number. -/
theorem digits_rel {fuel : Nat} {v : Value} {d : DataW H} {ps : List MemPlace} (h : DataW.trod enc Tryz.prog w base sp held fuel 24 [v] = some (d, ps)) : ∃ l : List Int, Dg l ∧ DRel w (S0 w) (.sl (l.map cU32)) v := by
  obtain ⟨f, rfl⟩ := trod_succ h
  have hu : Tryz.prog.underlying 24 = some (.slice 168) := by kernel_rfl
  have ce : Tryz.prog.cellsOf 168 = 1 := by kernel_rfl
  have hi : Tryz.prog.underlying 168 = some (.int .u32) := by kernel_rfl
  obtain ⟨l, h1, h2⟩ := slice_rel (X := Int) cU32 isD hu (by rw [ce]; decide) (fun x => by rw [ce]; rfl) (fun cs d ps hd hl => by
    obtain ⟨n, rfl, hw⟩ := int_read hi hd
    exact ⟨n, u32_wf hw, RelCs.cons (.sc _ rfl) RelCs.nil⟩) h
  exact ⟨l, h1, h2⟩

theorem len2 {l : List Value} (h : l.length = 2) : ∃ a b, l = [a, b] := by
  match l, h with
  | [a, b], _ => exact ⟨a, b, rfl⟩
theorem len4 {l : List Value} (h : l.length = 4) : ∃ a b c d, l = [a, b, c, d] := by
  match l, h with
  | [a, b, c, d], _ => exact ⟨a, b, c, d, rfl⟩
theorem len7 {l : List Value} (h : l.length = 7) : ∃ a b c d e f g, l = [a, b, c, d, e, f, g] := by
  match l, h with
  | [a, b, c, d, e, f, g], _ => exact ⟨a, b, c, d, e, f, g, rfl⟩
theorem len10 {l : List Value} (h : l.length = 10) : ∃ x y z a b c d e f g, l = [x, y, z, a, b, c, d, e, f, g] := by
  match l, h with
  | [x, y, z, a, b, c, d, e, f, g], _ => exact ⟨x, y, z, a, b, c, d, e, f, g, rfl⟩

theorem fld_read {fuel : Nat} {t i off : Nat} {ft : TypeId} {cs : List Value} {d : DataW H} {ps : List MemPlace} (h : DataW.trod enc Tryz.prog w base sp held (fuel + 1) t cs = some (d, ps)) (hf : tfld Tryz.prog t i = some (off, ft)) :
    cs.length = Tryz.prog.cellsOf t ∧ ∃ d ps, DataW.trod enc Tryz.prog w base sp held fuel ft ((cs.drop off).take (Tryz.prog.cellsOf ft)) = some (d, ps) := by
  obtain ⟨fs, fd, hu, hfd, e1, e2⟩ := tfld_some hf
  obtain ⟨h1, h2⟩ := struct_read hu h
  have := h2 i fd (by simpa using hfd)
  rw [e1, e2] at this
  exact ⟨h1, this⟩

theorem intd_rel {fuel : Nat} {cs : List Value} {d : DataW H} {ps : List MemPlace} (h : DataW.trod enc Tryz.prog w base sp held fuel 26 cs = some (d, ps)) : ∃ x : IntD, Dg x.abs ∧ RelCs w (cIntD x) cs := by
  obtain ⟨f, rfl⟩ := trod_succ h
  obtain ⟨hl, d0, p0, h0⟩ := fld_read (i := 0) (off := 0) (ft := 4) h (by kernel_rfl)
  obtain ⟨_, d1, p1, h1⟩ := fld_read (i := 1) (off := 1) (ft := 24) h (by kernel_rfl)
  rw [c26] at hl
  rw [c4] at h0
  rw [c24] at h1
  obtain ⟨v0, v1, rfl⟩ := len2 hl
  obtain ⟨b, e⟩ := bool_read (show Tryz.prog.underlying 4 = some .bool by kernel_rfl) h0
  obtain ⟨l, hd, hr⟩ := digits_rel (v := v1) h1
  simp at e
  subst e
  exact ⟨⟨b, l⟩, hd, RelCs.cons (.sc _ rfl) (RelCs.cons hr RelCs.nil)⟩

theorem poly_rel : ∀ (fuel : Nat) {cs : List Value} {d : DataW H} {ps : List MemPlace}, DataW.trod enc Tryz.prog w base sp held fuel 29 cs = some (d, ps) → ∃ x : PolyD, DgP x ∧ RelCs w (cPoly x) cs := by
  intro fuel
  induction fuel using Nat.strongRecOn with
  | _ fuel ih =>
    intro cs d ps h
    obtain ⟨f, rfl⟩ := trod_succ h
    obtain ⟨hl, d0, p0, h0⟩ := fld_read (i := 0) (off := 0) (ft := 3) h (by kernel_rfl)
    obtain ⟨_, d1, p1, h1⟩ := fld_read (i := 1) (off := 1) (ft := 26) h (by kernel_rfl)
    obtain ⟨_, d2, p2, h2⟩ := fld_read (i := 2) (off := 3) (ft := 27) h (by kernel_rfl)
    rw [c29] at hl
    rw [c3] at h0
    rw [c26] at h1
    rw [c27] at h2
    obtain ⟨v0, v1, v2, v3, rfl⟩ := len4 hl
    obtain ⟨n, e, _⟩ := int_read (show Tryz.prog.underlying 3 = some (.int .i64) by kernel_rfl) h0
    simp at e
    subst e
    obtain ⟨x, hx, hr⟩ := intd_rel (cs := [v1, v2]) h1
    obtain ⟨f', rfl⟩ := trod_succ h2
    obtain ⟨l, g1, g2⟩ := slice_rel (X := PolyD) (v := v3) cPoly DgP (show Tryz.prog.underlying 27 = some (.slice 29) by kernel_rfl) (by rw [c29]; decide) (fun x => by rw [c29, cPoly_eq]; rfl)
      (fun cs d ps hd hl => ih f' (by omega) hd) h2
    refine ⟨.mk n x.neg x.abs l, .mk _ _ _ _ hx g1, ?_⟩
    rw [cPoly_eq]
    have a1 := hr.2 0 _ _ rfl rfl
    have a2 := hr.2 1 _ _ rfl rfl
    exact RelCs.cons (.sc _ rfl) (RelCs.cons a1 (RelCs.cons a2 (RelCs.cons g2 RelCs.nil)))

theorem mat_rel : ∀ (fuel : Nat) {cs : List Value} {d : DataW H} {ps : List MemPlace}, DataW.trod enc Tryz.prog w base sp held fuel 32 cs = some (d, ps) → ∃ x : MatD, DgM x ∧ RelCs w (cMat x) cs := by
  intro fuel
  induction fuel using Nat.strongRecOn with
  | _ fuel ih =>
    intro cs d ps h
    obtain ⟨f, rfl⟩ := trod_succ h
    obtain ⟨hl, d0, p0, h0⟩ := fld_read (i := 0) (off := 0) (ft := 3) h (by kernel_rfl)
    obtain ⟨_, d1, p1, h1⟩ := fld_read (i := 1) (off := 1) (ft := 22) h (by kernel_rfl)
    obtain ⟨_, d2, p2, h2⟩ := fld_read (i := 2) (off := 2) (ft := 29) h (by kernel_rfl)
    obtain ⟨_, d3, p3, h3⟩ := fld_read (i := 3) (off := 6) (ft := 30) h (by kernel_rfl)
    rw [c32] at hl
    rw [c3] at h0
    rw [c22] at h1
    rw [c29] at h2
    rw [c30] at h3
    obtain ⟨v0, v1, v2, v3, v4, v5, v6, rfl⟩ := len7 hl
    obtain ⟨n, e, _⟩ := int_read (show Tryz.prog.underlying 3 = some (.int .i64) by kernel_rfl) h0
    simp at e
    subst e
    obtain ⟨m, e, _⟩ := int_read (show Tryz.prog.underlying 22 = some (.int .i64) by kernel_rfl) h1
    simp at e
    subst e
    obtain ⟨x, hx, hr⟩ := poly_rel f (cs := [v2, v3, v4, v5]) h2
    obtain ⟨f', rfl⟩ := trod_succ h3
    obtain ⟨l, g1, g2⟩ := slice_rel (X := MatD) (v := v6) cMat DgM (show Tryz.prog.underlying 30 = some (.slice 32) by kernel_rfl) (by rw [c32]; decide) (fun x => by rw [c32, cMat_eq]; rfl)
      (fun cs d ps hd hl => ih f' (by omega) hd) h3
    refine ⟨.mk n m x l, .mk _ _ _ _ hx g1, ?_⟩
    rw [cMat_eq]
    rw [cPoly_eq] at hr
    exact RelCs.cons (.sc _ rfl) (RelCs.cons (.sc _ rfl) (RelCs.cons (hr.2 0 _ _ rfl rfl) (RelCs.cons (hr.2 1 _ _ rfl rfl) (RelCs.cons (hr.2 2 _ _ rfl rfl) (RelCs.cons (hr.2 3 _ _ rfl rfl) (RelCs.cons g2 RelCs.nil))))))

theorem c50 : Tryz.prog.cellsOf 50 = 10 := by kernel_rfl
end
end Go.Proofs.YtfbmhjooliccnaaGreatDoor
end

section
namespace Go.Proofs.YtfbmhjooliccnaaGreatDoor
open Go Go.Ab
section
variable {H : Type} {enc : TypeId × Value → H} {w : World} {base : Nat} {sp : Nat → Bool} {held : Bool}
theorem c47 : Tryz.prog.cellsOf 47 = 1 := by kernel_rfl
theorem c48 : Tryz.prog.cellsOf 48 = 1 := by kernel_rfl
theorem pre_rel {fuel : Nat} {cs : List Value} {d : DataW H} {ps : List MemPlace} (h : DataW.trod enc Tryz.prog w base sp held fuel 50 cs = some (d, ps)) : ∃ x : PreD, DgM x.mat ∧ RelCs w (cPre x) cs := by
  obtain ⟨f, rfl⟩ := trod_succ h
  obtain ⟨hl, d0, p0, h0⟩ := fld_read (i := 0) (off := 0) (ft := 3) h (by kernel_rfl)
  obtain ⟨_, d1, p1, h1⟩ := fld_read (i := 1) (off := 1) (ft := 47) h (by kernel_rfl)
  obtain ⟨_, d2, p2, h2⟩ := fld_read (i := 2) (off := 2) (ft := 48) h (by kernel_rfl)
  obtain ⟨_, d3, p3, h3⟩ := fld_read (i := 3) (off := 3) (ft := 32) h (by kernel_rfl)
  rw [c50] at hl
  rw [c3] at h0
  rw [c47] at h1
  rw [c48] at h2
  rw [c32] at h3
  obtain ⟨x, y, z, a, b, c, d, e, f2, g, rfl⟩ := len10 hl
  obtain ⟨n, en, _⟩ := int_read (show Tryz.prog.underlying 3 = some (.int .i64) by kernel_rfl) h0
  simp at en
  subst en
  obtain ⟨m, hm, hr⟩ := mat_rel f (cs := [a, b, c, d, e, f2, g]) h3
  obtain ⟨f', rfl⟩ := trod_succ h1
  obtain ⟨la, _, ra⟩ := slice_rel (X := Bool) (v := y) cBool (fun _ => True) (show Tryz.prog.underlying 47 = some (.slice 4) by kernel_rfl) (by rw [c4]; decide) (fun x => by rw [c4]; rfl) (fun cs d ps hd hl => by
    obtain ⟨b, rfl⟩ := bool_read (show Tryz.prog.underlying 4 = some .bool by kernel_rfl) hd
    exact ⟨b, trivial, RelCs.cons (.sc _ rfl) RelCs.nil⟩) h1
  obtain ⟨ln, _, rn⟩ := slice_rel (X := ByteArray) (v := z) cStr (fun _ => True) (show Tryz.prog.underlying 48 = some (.slice 9) by kernel_rfl) (by rw [c9]; decide) (fun x => by rw [c9]; rfl) (fun cs d ps hd hl => by
    obtain ⟨b, rfl⟩ := str_read (show Tryz.prog.underlying 9 = some .string by kernel_rfl) hd
    exact ⟨b, trivial, RelCs.cons (.sc _ rfl) RelCs.nil⟩) h2
  exact ⟨⟨n, la, ln, m⟩, hm, RelCs.cons (.sc _ rfl) (RelCs.cons ra (RelCs.cons rn hr))⟩
end

theorem den_pre (p : PreD) : (wrP Vw (.el Kd.pre) p).den = .agg ((cPre p).map .d) := by
  show E.agg (((kdRow .pre p).map _).map _) = _
  rw [show cPre p = (kdRow .pre p).map SD.den from (kdRow_ok .pre p).symm, List.map_map, List.map_map]
  rfl
theorem den_int (n : Int) : (wrP Vw (.int .i64) n).den = .c (.d (.sc (.int .i64 n))) := rfl

/-- The law's call, at arguments that read as a form and a number. -/
theorem args_calls (hw : Pur Tryz.prog 8 [] (bT true).den) {W : World} {cs : List Value} {p : PreD} {n : Int} (hd : DgM p.mat) (hr : RelCs W (cPre p) cs) :
    Calls Tryz.prog 4 #[.agg cs.toArray, .int .i64 n] W fun e W' => e = .returned (.bool true) ∧ Keep nobody W W' := by
  have := (args_c hw p n hd).2 (fun _ => False) noG W [.agg cs.toArray, .int .i64 n] ⟨fun b h => h.elim, (fun s t b h => by cases h), (fun s b h => by cases h), (fun _ _ => rfl), (fun s cs h => by cases h)⟩ ⟨rfl, fun i x u hx hu => by
    match i, hx, hu with
    | 0, hx, hu =>
      simp only [List.getElem?_cons_zero, Option.some.injEq] at hx hu
      subst hx; subst hu
      rw [den_pre]
      refine ⟨cs, rfl, by simpa using hr.1, fun j y v hy hv => ?_⟩
      rw [List.getElem?_map, Option.map_eq_some_iff] at hy
      obtain ⟨y0, hy0, rfl⟩ := hy
      exact hr.2 j y0 v hy0 hv
    | 1, hx, hu =>
      simp only [List.getElem?_cons_succ, List.getElem?_cons_zero, Option.some.injEq] at hx hu
      subst hx; subst hu
      exact DRel.sc _ rfl
    | i + 2, hx, hu => simp at hx⟩
  refine this.mono fun e W' he => ?_
  obtain ⟨v, γ', rfl, _, hv, hk, _⟩ := he
  have hv' : TRel W' (fun _ => False) γ' (.e (.c (.d (.sc (.bool true))))) v := hv
  refine ⟨by rw [sc_inv hv'], ⟨hk.os, hk.tape, hk.output, hk.drawn, hk.size, fun b hb _ => hk.same b hb (fun ⟨s, h⟩ => by cases h), hk.shape⟩⟩
end Go.Proofs.YtfbmhjooliccnaaGreatDoor
end
