/- The sort of a slice of terms: what it does, in plain terms. No condition. The sort of a slice of terms, as a contract. No condition. The sort of a slice of terms: the contracts. No condition. Contracts: the sort and the gathered polynomial. No condition. Contracts: sparse.Normal. No condition. Contracts: sparse.Normal. No condition. Plain: the recursive form of sorted terms. No condition. -/
import Derived.Test.YtfbmhjooliccnaaGreatDoorPg
import Derived.Test.YtfbmhjooliccnaaGreatDoorPj
set_option linter.all false

section
namespace Go.Proofs.YtfbmhjooliccnaaGreatDoor
open Go Go.Ab

theorem cmpI_neg {x y : Int} : cmpI x y < 0 ↔ x < y := by unfold cmpI; split <;> (try split) <;> simp <;> omega
theorem cmpI_zero {x y : Int} : cmpI x y = 0 ↔ x = y := by unfold cmpI; split <;> (try split) <;> simp <;> omega
def lexL (p q : MonoD) : Prop := p.e4 < q.e4 ∨ (p.e4 = q.e4 ∧ (p.e3 < q.e3 ∨ (p.e3 = q.e3 ∧ (p.e2 < q.e2 ∨ (p.e2 = q.e2 ∧ p.e1 < q.e1)))))
theorem cmpMo_neg {p q : MonoD} : cmpMo p q < 0 ↔ lexL p q := by
  unfold cmpMo lexL
  have a1 := @cmpI_neg p.e1 q.e1
  have a2 := @cmpI_neg p.e2 q.e2
  have a3 := @cmpI_neg p.e3 q.e3
  have a4 := @cmpI_neg p.e4 q.e4
  have b2 := @cmpI_zero p.e2 q.e2
  have b3 := @cmpI_zero p.e3 q.e3
  have b4 := @cmpI_zero p.e4 q.e4
  split
  · rename_i h; rw [ne_eq, b4] at h; rw [a4]; omega
  · rename_i h; rw [ne_eq, b4] at h
    split
    · rename_i h3; rw [ne_eq, b3] at h3; rw [a3]; omega
    · rename_i h3; rw [ne_eq, b3] at h3
      split
      · rename_i h2; rw [ne_eq, b2] at h2; rw [a2]; omega
      · rename_i h2; rw [ne_eq, b2] at h2; rw [a1]; omega
def moAt (l : List TermD) (i : Nat) : MonoD := match l[i]? with | some t => t.mono | none => ⟨0, 0, 0, 0⟩
def cfT (l : List TermD) (i j : Nat) : Int := cmpMo (moAt l j) (moAt l i)
theorem ltT {l : List TermD} {i j : Nat} : Go.Proofs.ltOf (cfT l) i j = true ↔ lexL (moAt l j) (moAt l i) := by
  unfold Go.Proofs.ltOf cfT
  rw [decide_eq_true_eq, cmpMo_neg]
theorem ltF {l : List TermD} {i j : Nat} : Go.Proofs.ltOf (cfT l) i j = false ↔ ¬ lexL (moAt l j) (moAt l i) := by
  rw [← ltT]; simp
theorem swoT (l : List TermD) : Go.Sort.SWO (Go.Proofs.ltOf (cfT l)) where
  irrefl x := by rw [ltF]; unfold lexL; omega
  trans x y z h1 h2 := by rw [ltT] at *; unfold lexL at *; omega
  ntrans x y z h1 h2 := by rw [ltF] at *; unfold lexL at *; omega
def sortIx (l : List TermD) (lim : Nat) : Array Nat := Go.Sort.pdq (Go.Proofs.ltOf (cfT l)) (List.range l.length).toArray 0 l.length lim true true
@[irreducible] def sortT (l : List TermD) (lim : Nat) : List TermD := (sortIx l lim).toList.filterMap fun i => l[i]?
theorem sortIx_sorts (l : List TermD) (lim : Nat) : (sortIx l lim).size = l.length ∧ (sortIx l lim).toList.Perm (List.range l.length) ∧ Go.Sort.SortedIn (Go.Proofs.ltOf (cfT l)) 0 l.length (sortIx l lim) := by
  have h := Go.Sort.pdq_sorts (Go.Proofs.ltOf (cfT l)) (swoT l) (List.range l.length).toArray 0 l.length lim true true (Nat.zero_le _) (by simp) (Or.inl rfl)
  obtain ⟨⟨h1, _, h3⟩, h4⟩ := h
  have h1 : (sortIx l lim).size = l.length := by simpa [sortIx] using h1
  refine ⟨h1, ?_, h4⟩
  have h3 : ((sortIx l lim).extract 0 l.length).toList.Perm ((List.range l.length).toArray.extract 0 l.length).toList := h3
  have e1 : (sortIx l lim).extract 0 l.length = sortIx l lim := by
    apply Array.extract_eq_self_of_le; omega
  have e2 : (List.range l.length).toArray.extract 0 l.length = (List.range l.length).toArray := by
    apply Array.extract_eq_self_of_le; simp
  rw [e1, e2] at h3
  simpa using h3
theorem sortIx_lt {l : List TermD} {lim : Nat} {i : Nat} (h : i ∈ (sortIx l lim).toList) : i < l.length := by
  have := (sortIx_sorts l lim).2.1.mem_iff.1 h
  simpa using this
theorem range_all (l : List TermD) : (List.range l.length).filterMap (fun i => l[i]?) = l := by
  have h : ∀ m, m ≤ l.length → (List.range m).filterMap (fun i => l[i]?) = l.take m := by
    intro m
    induction m with
    | zero => intro _; rfl
    | succ m ih =>
      intro hm
      rw [List.range_succ, List.filterMap_append, ih (by omega), List.take_add_one]
      obtain ⟨t, ht⟩ : ∃ t, l[m]? = some t := ⟨l[m]'(by omega), by simp⟩
      simp [ht]
  rw [h _ (Nat.le_refl _), List.take_length]
theorem sortT_perm (l : List TermD) (lim : Nat) : (sortT l lim).Perm l := by
  have h := (sortIx_sorts l lim).2.1.filterMap (fun i => l[i]?)
  rw [range_all] at h
  unfold sortT
  exact h
theorem sortT_get (l : List TermD) (lim : Nat) (j : Nat) (hj : j < l.length) : ∃ i t, (sortIx l lim)[j]? = some i ∧ i < l.length ∧ l[i]? = some t ∧ (sortT l lim)[j]? = some t := by
  have hs := (sortIx_sorts l lim).1
  have key : ∀ (a : List Nat), (∀ i ∈ a, i < l.length) → ∀ j : Nat, (a.filterMap fun i => l[i]?)[j]? = (a[j]?).bind fun i => l[i]? := by
    intro a
    induction a with
    | nil => intro _ j; simp
    | cons x r ih =>
      intro ha j
      obtain ⟨t, ht⟩ : ∃ t, l[x]? = some t := ⟨l[x]'(ha x (by simp)), by simp⟩
      rw [List.filterMap_cons, ht]
      cases j with
      | zero => simp [ht]
      | succ j => simpa using ih (fun i hi => ha i (by simp [hi])) j
  have h1 : j < (sortIx l lim).size := by omega
  obtain ⟨i, hi⟩ : ∃ i, (sortIx l lim)[j]? = some i := ⟨(sortIx l lim)[j], by simp⟩
  have hil := sortIx_lt (l := l) (lim := lim) (i := i) (by rw [← Array.getElem?_toList] at hi; exact List.mem_of_getElem? hi)
  obtain ⟨t, ht⟩ : ∃ t, l[i]? = some t := ⟨l[i], by simp⟩
  refine ⟨i, t, hi, hil, ht, ?_⟩
  unfold sortT
  rw [key _ (fun i hi => sortIx_lt hi) j, Array.getElem?_toList, hi]
  exact ht
/-- The terms descend. -/
theorem sortT_sorted (l : List TermD) (lim : Nat) (i j : Nat) (s t : TermD) (hij : i < j) (hs : (sortT l lim)[i]? = some s) (ht : (sortT l lim)[j]? = some t) : ¬ lexL s.mono t.mono := by
  have hp := (sortT_perm l lim).length_eq
  have hj : j < l.length := by have := (List.getElem?_eq_some_iff.1 ht).1; omega
  obtain ⟨a, s', h1, _, h2, h3⟩ := sortT_get l lim i (by omega)
  obtain ⟨b, t', k1, _, k2, k3⟩ := sortT_get l lim j hj
  rw [hs] at h3; injection h3 with h3; subst h3
  rw [ht] at k3; injection k3 with k3; subst k3
  have := (sortIx_sorts l lim).2.2 i j (Nat.zero_le _) hij hj
  have e1 : (sortIx l lim)[i]! = a := by simp [getElem!_def, h1]
  have e2 : (sortIx l lim)[j]! = b := by simp [getElem!_def, k1]
  rw [e1, e2, ltF] at this
  simpa [moAt, h2, k2] using this
end Go.Proofs.YtfbmhjooliccnaaGreatDoor
end

section
namespace Go.Proofs.YtfbmhjooliccnaaGreatDoor
open Go Go.Ab Go.RowKit

/-- An own block is written anew, and other memory has grown. -/
theorem Mem.setGrow {M : Nat → Prop} {γ : G} {H : Heap} {w w' : World} (hm : Mem M γ H w) {s b : Nat} {t : TypeId} {old : Array Value} {cs' : List V} {vs' spare : List Value}
    (hg : γ s = some (some b)) (hb : w.heap[b]? = some (.cells old t (0, 0))) (hsz : (vs' ++ spare).length = old.size) (hc : CsRel w M γ cs' vs') (hsome : H s ≠ none)
    (h1 : w'.os = w.os) (h2 : w'.tape = w.tape) (h3 : w'.output = w.output) (h4 : w.drawn ≤ w'.drawn) (h5 : w.heap.size ≤ w'.heap.size)
    (h6 : w'.heap[b]? = some (.cells (vs' ++ spare).toArray t (0, 0))) (h7 : ∀ x, x < w.heap.size → x ≠ b → w'.heap[x]? = w.heap[x]?) :
    Mem M γ (updH H s (some cs')) w' ∧ Keep (fun b => ∃ s, γ s = some (some b)) w w' := by
  let C : Ctx := ⟨M, fun b => ∃ s, γ s = some (some b), w, γ, fun _ => False, 0⟩
  have R : RelAt C γ ⟨fun _ => .any, H⟩ { tmps := #[], defers := [] } w := ⟨hm, fun _ => trivial, Keep.refl _ _, fun s b h => .inl ⟨s, h⟩, fun _ h => h.elim, rfl, rfl⟩
  have R' := R.setOwn hg hb hsz hc hsome
  have k : Keep nobody (w.setRow b (vs' ++ spare).toArray) w' := by
    have hold : ∀ x, x < w.heap.size → w'.heap[x]? = (w.setRow b (vs' ++ spare).toArray).heap[x]? := by
      intro x hx
      by_cases e : x = b
      · subst e; rw [h6, setRow_heap w x old _ t _ hb]
      · rw [h7 x hx e, setRow_other w b x _ e]
    refine ⟨h1, h2, h3, h4, by simpa using h5, fun x hx _ => hold x (by simpa using hx), fun x cells ty hx => ⟨cells, ?_, rfl⟩⟩
    have := lt_of_heap hx
    rw [hold x (by simpa using this)]; exact hx
  exact ⟨R'.mem.keep0 k, R'.keep.trans k (fun _ _ h => h) (fun _ _ h => h.elim)⟩

/-- The row of the i-th term. -/
def rowT (vs : List Value) (n i : Nat) : List Value := if i < n then (vs.drop (i * 6)).take 6 else List.replicate 6 (.int .i64 0)

section
variable {w : World} {M : Nat → Prop} {γ : G} {l : List TermD} {vs : List Value}

theorem vs_len (hc : CsRel w M γ ((flatD (U := Un) Kd.term l).map .d) vs) : vs.length = l.length * 6 := by
  rw [← hc.1, List.length_map, flatD_len Vw]; rfl
theorem rowT_len (hc : CsRel w M γ ((flatD (U := Un) Kd.term l).map .d) vs) (i : Nat) : (rowT vs l.length i).length = 6 := by
  have := vs_len hc
  unfold rowT
  split
  · rw [List.length_take, List.length_drop]; omega
  · simp
theorem rowT_get (hc : CsRel w M γ ((flatD (U := Un) Kd.term l).map .d) vs) {i c : Nat} (hi : i < l.length) (hcc : c < 6) : (rowT vs l.length i)[c]? = vs[i * 6 + c]? := by
  unfold rowT
  rw [if_pos hi, List.getElem?_take_of_lt hcc, List.getElem?_drop]
theorem vs_at (hc : CsRel w M γ ((flatD (U := Un) Kd.term l).map .d) vs) {i c : Nat} {t : TermD} (ht : l[i]? = some t) (hcc : c < 6) : ∃ u x, vs[i * 6 + c]? = some u ∧ (cTerm t)[c]? = some x ∧ DRel w (stab w M γ) x u := by
  have hil : i < l.length := (List.getElem?_eq_some_iff.1 ht).1
  have hv := vs_len hc
  obtain ⟨u, hu⟩ : ∃ u, vs[i * 6 + c]? = some u := ⟨vs[i * 6 + c]'(by omega), by simp⟩
  obtain ⟨x, hx⟩ : ∃ x, (cTerm t)[c]? = some x := ⟨(cTerm t)[c]'(by simp [cTerm]; omega), by simp⟩
  obtain ⟨A, B, f1, f2, f3, f4, f5⟩ := flat_split (V := Vw) Kd.term l ht
  refine ⟨u, x, hu, hx, ?_⟩
  refine hc.2 (i * 6 + c) (.d x) u ?_ hu
  rw [List.getElem?_map, f1]
  have e : i * 6 + c = A.length + c := by
    have : i * Un.w Kd.term = A.length := f2.symm
    have e2 : Un.w Kd.term = 6 := rfl
    rw [e2] at this; omega
  rw [e, List.append_assoc, List.getElem?_append_right (by omega), Nat.add_sub_cancel_left]
  have hx' : (Un.enc Kd.term t)[c]? = some x := hx
  rw [List.getElem?_append_left (by have := (List.getElem?_eq_some_iff.1 hx').1; exact this), hx']
  rfl
theorem rowT_one (hc : CsRel w M γ ((flatD (U := Un) Kd.term l).map .d) vs) (i : Nat) : ∀ v ∈ rowT vs l.length i, v.oneCell' = true := by
  intro v hv
  unfold rowT at hv
  split at hv
  · rename_i hi
    have hv := List.mem_of_mem_drop (List.mem_of_mem_take hv)
    obtain ⟨j, hj⟩ := List.getElem?_of_mem hv
    have h1 := hc.1
    have hjl : j < vs.length := (List.getElem?_eq_some_iff.1 hj).1
    obtain ⟨x, hx⟩ : ∃ x, ((flatD (U := Un) Kd.term l).map Ab.V.d)[j]? = some x := ⟨_, List.getElem?_eq_getElem (by omega)⟩
    exact (hc.2 j x v hx hj).one
  · rw [List.mem_replicate] at hv
    rw [hv.2]; rfl
theorem rowT_rel (hc : CsRel w M γ ((flatD (U := Un) Kd.term l).map .d) vs) {W : World} (i : Nat) : ERel W (fun _ => False) noG (anyT (moAt l i)).den (.agg (rowT vs l.length i).toArray) := by
  have hlen := rowT_len hc i
  have hone := rowT_one hc i
  refine ⟨rowT vs l.length i, rfl, by rw [hlen]; rfl, fun j x u hx hu => ?_⟩
  have hj : j < 6 := by have := (List.getElem?_eq_some_iff.1 hu).1; omega
  have ho := hone u (List.mem_of_getElem? hu)
  have key : ∀ (c : Nat) (e : MonoD → Int), c < 6 → (∀ t, l[i]? = some t → (cTerm t)[c]? = some (.sc (.int .i64 (e t.mono)))) → e ⟨0, 0, 0, 0⟩ = 0 → (rowT vs l.length i)[c]? = some u → u = .int .i64 (e (moAt l i)) := by
    intro c e hcc ht h0 hu
    by_cases hi : i < l.length
    · obtain ⟨t, h⟩ : ∃ t, l[i]? = some t := ⟨l[i], by simp⟩
      rw [rowT_get hc hi hcc] at hu
      obtain ⟨u', y, hu', hy, hr⟩ := vs_at hc h hcc
      rw [hu] at hu'; injection hu' with hu'; subst hu'
      rw [ht t h] at hy; injection hy with hy; subst hy
      have : moAt l i = t.mono := by simp [moAt, h]
      rw [this]
      cases hr; rfl
    · have : moAt l i = ⟨0, 0, 0, 0⟩ := by simp [moAt, List.getElem?_eq_none (Nat.le_of_not_lt hi)]
      rw [this, h0]
      unfold rowT at hu
      rw [if_neg hi] at hu
      have := List.mem_of_getElem? hu
      rw [List.mem_replicate] at this
      exact this.2
  match j, hj with
  | 0, _ => injection hx with hx; subst hx; exact ho
  | 1, _ => injection hx with hx; subst hx; exact ho
  | 2, _ => injection hx with hx; subst hx; rw [key 2 MonoD.e1 (by omega) (fun t _ => rfl) rfl hu]; exact DRel.sc _ rfl
  | 3, _ => injection hx with hx; subst hx; rw [key 3 MonoD.e2 (by omega) (fun t _ => rfl) rfl hu]; exact DRel.sc _ rfl
  | 4, _ => injection hx with hx; subst hx; rw [key 4 MonoD.e3 (by omega) (fun t _ => rfl) rfl hu]; exact DRel.sc _ rfl
  | 5, _ => injection hx with hx; subst hx; rw [key 5 MonoD.e4 (by omega) (fun t _ => rfl) rfl hu]; exact DRel.sc _ rfl
end

theorem noMem (W : World) : Mem (fun _ => False) noG noHeap W where
  low _ h := h.elim
  inj s t b h _ := by cases h
  nm s b h := by cases h
  dom s _ := rfl
  blk s cs h := by cases h

theorem grown_of {W w' : World} {Pin : Nat → Prop} (hk : Keep Pin W w') (hp : ∀ b, ¬ Pin b) : ∃ q os', w' = Go.Sort.grow (W.drewN q) os' := by
  refine ⟨w'.drawn - W.drawn, w'.heap.extract W.heap.size w'.heap.size, ?_⟩
  have e : w'.heap = W.heap ++ w'.heap.extract W.heap.size w'.heap.size := by
    apply Array.ext
    · have := hk.size; simp; omega
    · intro i h1 h2
      by_cases hi : i < W.heap.size
      · rw [Array.getElem_append_left hi]
        have := hk.same i hi (hp i)
        rw [Array.getElem?_eq_getElem h1, Array.getElem?_eq_getElem hi] at this
        exact Option.some.inj this
      · rw [Array.getElem_append_right (by omega)]
        simp only [Array.getElem_extract]
        congr 1
        omega
  have h1 := hk.os; have h2 := hk.tape; have h3 := hk.output; have h4 := hk.drawn
  unfold Go.Sort.grow World.drewN
  cases w'; cases W
  simp only [World.mk.injEq] at *
  refine ⟨e, h2, by omega, h1, h3⟩

theorem cmpLaysT {w : World} {M : Nat → Prop} {γ : G} {l : List TermD} {vs : List Value} (hc : CsRel w M γ ((flatD (U := Un) Kd.term l).map .d) vs) (b : Nat) :
    CmpLays Tryz.prog 222 #[] (rowT vs l.length) 6 (cfT l) b 0 l.length w := by
  intro m os dk hdk x y
  have h := (less_c (moAt l x) (moAt l y)).2 (fun _ => False) noG (Go.Proofs.sortWorldK (rowT vs l.length) 6 w b 0 m dk os) [.agg (rowT vs l.length x).toArray, .agg (rowT vs l.length y).toArray] (noMem _) ⟨rfl, fun i z u hz hu => by
    match i with
    | 0 => injection hz with hz; subst hz; injection hu with hu; subst hu; exact rowT_rel hc x
    | 1 => injection hz with hz; subst hz; injection hu with hu; subst hu; exact rowT_rel hc y
    | i + 2 => simp at hz⟩
  refine h.mono ?_
  rintro e w' ⟨v, γ', rfl, _, hr, hk, _⟩
  refine ⟨?_, grown_of hk (fun b ⟨s, hs⟩ => by cases hs)⟩
  have : v = .int .i64 (cmpMo (moAt l y) (moAt l x)) := by cases hr; rfl
  rw [this]; rfl
end Go.Proofs.YtfbmhjooliccnaaGreatDoor
end

section
namespace Go.Proofs.YtfbmhjooliccnaaGreatDoor
open Go Go.Ab Go.RowKit

theorem sc_eq {w : World} {S : Nat → Prop} {v u : Value} (h : DRel w S (.sc v) u) : u = v := by cases h; rfl

theorem flatK_of {w : World} {M : Nat → Prop} {γ : G} {l : List TermD} {vs : List Value} (hc : CsRel w M γ ((flatD (U := Un) Kd.term l).map .d) vs) (d : Array Nat) (hd : ∀ i ∈ d.toList, i < l.length) (t : Nat) (ht : t < d.size * 6) :
    ∃ i, d[t / 6]? = some i ∧ i < l.length ∧ (Go.Sort.flatK (rowT vs l.length) 6 d)[t]! = (vs[i * 6 + t % 6]?).getD default ∧ (vs[i * 6 + t % 6]?).isSome := by
  have h1 : t / 6 < d.size := by omega
  obtain ⟨i, hi⟩ : ∃ i, d[t / 6]? = some i := ⟨d[t / 6], by simp⟩
  have hil := hd i (by rw [← Array.getElem?_toList] at hi; exact List.mem_of_getElem? hi)
  have hm : t % 6 < 6 := Nat.mod_lt _ (by omega)
  have hv := vs_len hc
  refine ⟨i, hi, hil, ?_, by rw [List.getElem?_eq_getElem (by omega)]; rfl⟩
  rw [Go.Sort.get_flatK _ _ _ _ ht]
  have e : d[t / 6]! = i := by simp [getElem!_def, hi]
  rw [e, ← rowT_get hc hil hm]
  simp [getElem!_def]
  cases (rowT vs l.length i)[t % 6]? <;> rfl

theorem holdsT {w : World} {M : Nat → Prop} {γ : G} {l : List TermD} {vs spare : List Value} {b : Nat} {t : TypeId} (hc : CsRel w M γ ((flatD (U := Un) Kd.term l).map .d) vs) (hb : w.heap[b]? = some (.cells (vs ++ spare).toArray t (0, 0))) :
    Go.Sort.HoldsK (rowT vs l.length) 6 w b 0 (List.range l.length).toArray := by
  intro j hj
  simp only [Go.Sort.size_flatK, List.size_toArray, List.length_range] at hj
  obtain ⟨i, h1, h2, h3, h4⟩ := flatK_of hc (List.range l.length).toArray (fun i hi => by simpa using hi) j (by simpa using hj)
  have e : i = j / 6 := by
    simp only [List.getElem?_toArray] at h1
    rw [List.getElem?_range (by omega)] at h1
    exact (Option.some.inj h1).symm
  subst e
  have hv := vs_len hc
  refine ⟨?_, by simp [World.frozen?, hb]⟩
  rw [Nat.zero_add, cell_blk hb]
  have e2 : j / 6 * 6 + j % 6 = j := by omega
  rw [e2] at h3
  show ((vs ++ spare).toArray)[j]? = some (Go.Sort.flatK (rowT vs l.length) 6 (List.range l.length).toArray)[j]!
  rw [h3]
  simp only [List.getElem?_toArray]
  rw [List.getElem?_append_left (by omega), List.getElem?_eq_getElem (by omega)]
  rfl

theorem heapT {w : World} {b n : Nat} {os : Array Obj} {cur : Array Value} {e : TypeId} {fr : Nat × Nat} {α : Type} [Inhabited α] (enc : α → List Value) (k : Nat) (d : Array α) (hb : w.heap[b]? = some (.cells cur e fr)) :
    (Go.Proofs.sortWorldK enc k w b 0 n d os).heap[b]? = some (.cells (Go.Sort.putCells id 0 (Go.Sort.flatK enc k d) cur) e fr) := by
  have hg : b < w.heap.size := (Array.getElem?_eq_some_iff.1 hb).1
  unfold Go.Proofs.sortWorldK Go.Sort.putRowK
  rw [Go.Sort.heap_grow_old _ _ (by simpa using hg)]
  simp [Go.Sort.putRow, Go.Sort.mapBlock, Go.Sort.ahead, Array.getElem?_modify, hb, Go.Sort.onCells]
theorem heapT_other {w : World} {b n x : Nat} {os : Array Obj} {α : Type} [Inhabited α] (enc : α → List Value) (k : Nat) (d : Array α) (hx : x < w.heap.size) (hne : x ≠ b) :
    (Go.Proofs.sortWorldK enc k w b 0 n d os).heap[x]? = w.heap[x]? := by
  unfold Go.Proofs.sortWorldK Go.Sort.putRowK
  rw [Go.Sort.heap_grow_old _ _ (by simpa using hx)]
  simp [Go.Sort.putRow, Go.Sort.mapBlock, Go.Sort.ahead, Array.getElem?_modify, Ne.symm hne]

theorem flat_at {l : List TermD} {i c : Nat} {t : TermD} (ht : l[i]? = some t) (hcc : c < 6) : ((flatD (U := Un) Kd.term l).map Ab.V.d)[i * 6 + c]? = ((cTerm t)[c]?).map Ab.V.d := by
  obtain ⟨A, B, f1, f2, f3, f4, f5⟩ := flat_split (V := Vw) Kd.term l ht
  rw [List.getElem?_map, f1]
  have e : i * 6 + c = A.length + c := by
    have : i * Un.w Kd.term = A.length := f2.symm
    have e2 : Un.w Kd.term = 6 := rfl
    rw [e2] at this; omega
  rw [e, List.append_assoc, List.getElem?_append_right (by omega), Nat.add_sub_cancel_left]
  have hl : (Un.enc Kd.term t).length = 6 := rfl
  rw [List.getElem?_append_left (by omega)]
  rfl
theorem put_eq (F : Array Value) (vs spare : List Value) (h : F.size = vs.length) : Go.Sort.putCells id 0 F (vs ++ spare).toArray = (F.toList ++ spare).toArray := by
  apply Array.ext
  · simp [Go.Sort.putCells]; omega
  · intro i h1 h2
    simp only [Go.Sort.putCells, Array.getElem_mapIdx, List.getElem_toArray]
    by_cases hi : i < F.size
    · rw [if_pos ⟨Nat.zero_le _, by omega⟩, List.getElem_append_left (by simpa using hi)]
      simp [getElem!_pos, hi]
    · rw [if_neg (by omega), List.getElem_append_right (by omega), List.getElem_append_right (by simp; omega)]
      simp [h]
theorem sort_rel {w : World} {M : Nat → Prop} {γ : G} {l : List TermD} {vs : List Value} (hc : CsRel w M γ ((flatD (U := Un) Kd.term l).map .d) vs) (lim : Nat) :
    CsRel w M γ ((flatD (U := Un) Kd.term (sortT l lim)).map .d) (Go.Sort.flatK (rowT vs l.length) 6 (sortIx l lim)).toList := by
  have hs := (sortIx_sorts l lim).1
  have hp := (sortT_perm l lim).length_eq
  have e6 : Un.w Kd.term = 6 := rfl
  refine ⟨by rw [List.length_map, flatD_len Vw, e6, Array.length_toList (xs := Go.Sort.flatK _ _ _), Go.Sort.size_flatK, hs, hp], fun j x u hx hu => ?_⟩
  have hjl : j < l.length * 6 := by
    have := (List.getElem?_eq_some_iff.1 hx).1
    rw [List.length_map, flatD_len Vw, e6, hp] at this
    exact this
  obtain ⟨i, h1, h2, h3, h4⟩ := flatK_of hc (sortIx l lim) (fun i hi => sortIx_lt hi) j (by rw [hs]; exact hjl)
  obtain ⟨i', t, k1, k2, k3, k4⟩ := sortT_get l lim (j / 6) (by omega)
  rw [h1] at k1; injection k1 with k1; subst k1
  have hm : j % 6 < 6 := Nat.mod_lt _ (by omega)
  have e : j / 6 * 6 + j % 6 = j := by omega
  have hx2 := flat_at k4 hm
  rw [e, hx] at hx2
  have hy := flat_at k3 hm
  rw [← hx2] at hy
  refine hc.2 _ x u hy ?_
  have hu2 : (Go.Sort.flatK (rowT vs l.length) 6 (sortIx l lim))[j]! = u := by
    rw [Array.getElem?_toList] at hu
    simp [getElem!_def, hu]
  rw [hu2] at h3
  obtain ⟨z, hz⟩ := Option.isSome_iff_exists.1 h4
  rw [hz] at h3 ⊢
  rw [h3]; rfl
theorem ent268 : Ent Tryz.prog 268 := ent_of Tryz.func268 (by kernel_rfl) rfl
theorem ent269 : Ent Tryz.prog 269 := ent_of Tryz.func269 (by kernel_rfl) rfl
def iE (n : Int) : SE Un := .c (.d (.sc (.int .i64 n)))
theorem sortT_nil (lim : Nat) : sortT [] lim = [] := List.Perm.eq_nil (sortT_perm [] lim)
theorem sortT_len (l : List TermD) (lim : Nat) : (sortT l lim).length = l.length := (sortT_perm l lim).length_eq

theorem pdq_c (l : List TermD) (lim : Nat) (hlen : l.length ≤ 1000000000) (hlim : lim ≤ 1000) : Sat Tryz.prog 268 (mkH (denH [(0, Blk.rows (U := Un) Kd.term l)])) ([.c (.own 0 Kd.term l.length), iE 0, iE l.length, iE lim, .c (.clo 222 [])].map SE.den)
    (mkH (denH [(0, Blk.rows (U := Un) Kd.term (sortT l lim))])) (· ∈ [0]) (ST.tup (U := Un) []).den := by
  refine ⟨ent268, fun M γ w vals hM hA => ?_⟩
  obtain ⟨hl5, hA⟩ := hA
  match vals, hl5 with
  | [v0, v1, v2, v3, v4], _ =>
    have a0 := hA 0 _ v0 rfl rfl
    have a1 := sc_eq (hA 1 _ v1 rfl rfl)
    have a2 := sc_eq (hA 2 _ v2 rfl rfl)
    have a3 := sc_eq (hA 3 _ v3 rfl rfl)
    have a4 := hA 4 _ v4 rfl rfl
    obtain ⟨cs, a4, hcs, _⟩ := a4
    have hcs : cs = [] := List.eq_nil_of_length_eq_zero hcs
    subst hcs; subst a1; subst a2; subst a3; subst a4
    have post0 : l = [] → SatPost M γ w (mkH (denH [(0, Blk.rows (U := Un) Kd.term (sortT l lim))])) (· ∈ [0]) (ST.tup (U := Un) []).den (.returned (.tuple #[])) w := by
      intro e
      subst e
      rw [sortT_nil]
      exact ⟨_, γ, rfl, hM, ⟨[], rfl, rfl, fun i x u hx => by simp at hx⟩, Keep.refl _ _, fun s b h => .inl ⟨s, h⟩, fun _ _ => rfl⟩
    have none0 : l = [] → ∀ (p : Option Addr) (cap : Nat), Calls Tryz.prog 268 #[.slice p 0 cap, .int .i64 0, .int .i64 (l.length : Int), .int .i64 (lim : Int), .func (.func 222) #[] #[]] w (SatPost M γ w (mkH (denH [(0, Blk.rows (U := Un) Kd.term (sortT l lim))])) (· ∈ [0]) (ST.tup (U := Un) []).den) := by
      intro e p cap
      have h := Go.Proofs.AnyF.pdqsortCmpFunc_none laysS p cap (lim : Int) (.func (.func 222) #[] #[]) w
      have e2 : ((l.length : Nat) : Int) = 0 := by rw [e]; rfl
      rw [e2]
      refine h.mono ?_
      rintro e' w' ⟨rfl, rfl⟩
      exact post0 e
    rcases a0 with ⟨b, cap, cells, t, hg, rfl, hlc, hmx, hb0, hroom⟩ | ⟨hg, _, hn, rfl⟩ | ⟨b, off', hg, hn, rfl⟩
    · have hH : mkH (denH [(0, Blk.rows (U := Un) Kd.term l)]) 0 = some ((flatD (U := Un) Kd.term l).map .d) := rfl
      rcases hM.blk 0 _ hH with ⟨b', t', vs, spare, hg', hb, hc⟩ | ⟨h0, _⟩ | ⟨b', en, clk, hg', hb', _⟩
      · rw [hg] at hg'; injection hg' with hg'; injection hg' with hg'; subst hg'
        have hsw := swoT l
        have aE : ∀ w, (isAgg (rnS.t 24)).run Tryz.prog w = .ok true w := Tryz.isAgg171
        have zE : ∀ w, (Go.sizeOf (rnS.t 24)).run Tryz.prog w = .ok 6 w := Tryz.sizeOf171
        have hsz : (List.range l.length).toArray.size = l.length := by simp
        have hcmp := cmpLaysT hc b
        rw [← hsz] at hcmp
        have hp := Go.Proofs.AnyQ.pdqsortCmpFunc_all (P := Tryz.prog) (ρ := rnS) laysS 6 aE zE (rowT vs l.length) (cfT l) 222 #[] hsw b 0 cap (List.range l.length).toArray w (enters_of Tryz.func222 (by kernel_rfl) rfl) (by simpa using hcmp)
          ⟨rowT_len hc, rowT_one hc, holdsT hc hb, lt_of_heap hb⟩ (l.length + 1) 0 l.length lim (List.range l.length).toArray w (by omega) rfl (Go.Proofs.SWK.start (holdsT hc hb)) (Nat.zero_le _) (by simp) (by simp; omega) (by omega) (Or.inl rfl)
        rw [hsz] at hp
        refine Calls.mono (P := Tryz.prog) hp ?_
        rintro e w' ⟨rfl, n, os, rfl⟩
        have hfs : (Go.Sort.flatK (rowT vs l.length) 6 (sortIx l lim)).size = vs.length := by rw [Go.Sort.size_flatK, (sortIx_sorts l lim).1, vs_len hc]
        have hheap := heapT (n := n) (os := os) (rowT vs l.length) 6 (sortIx l lim) hb
        rw [put_eq _ _ _ hfs] at hheap
        have hmg := Mem.setGrow (w' := Go.Proofs.sortWorldK (rowT vs l.length) 6 w b 0 n (sortIx l lim) os) hM hg hb (by simp [hfs]) (sort_rel hc lim) (by rw [hH]; simp) rfl rfl rfl (Nat.le_add_right _ _) (by simp [Go.Proofs.sortWorldK, Go.Sort.grow, Go.Sort.putRowK, Go.Sort.putRow, Go.Sort.mapBlock, Go.Sort.ahead]) hheap (fun x hx hne => heapT_other _ _ _ hx hne)
        refine ⟨_, γ, rfl, ?_, ⟨[], rfl, rfl, fun i x u hx => by simp at hx⟩, hmg.2, fun s b h => .inl ⟨s, h⟩, fun _ _ => rfl⟩
        refine cast (congrArg (fun H => Mem M γ H _) ?_) hmg.1
        funext u
        simp only [updH]
        by_cases hu : u = 0
        · subst hu; rfl
        · rw [if_neg hu]
          simp [denH, mkH, hu]
      · rw [hg] at h0; injection h0 with h0; cases h0
      · rw [hg] at hg'; injection hg' with hg'; injection hg' with hg'; subst hg'
        rw [hb0] at hb'; cases hb'
    · have e : l = [] := List.eq_nil_of_length_eq_zero hn
      exact none0 e none 0
    · have e : l = [] := List.eq_nil_of_length_eq_zero hn
      exact none0 e _ 0
end Go.Proofs.YtfbmhjooliccnaaGreatDoor
end

section
namespace Go.Proofs.YtfbmhjooliccnaaGreatDoor
open Go Go.Ab

theorem len_c (x : Int) (h : 0 ≤ x ∧ x ≤ 18446744073709551615) : Pur Tryz.prog 269 [(wrP Vw (.int .u64) x).den] (iT (Go.Lib.bitLen x.toNat : Nat)).den := by
  refine ⟨ent269, fun M γ w vals hM hA => ?_⟩
  obtain ⟨hl, hA⟩ := hA
  match vals, hl with
  | [v0], _ =>
    have a0 := sc_eq (hA 0 _ v0 rfl rfl)
    subst a0
    have hb := Go.Proofs.Any.bits_Len (Go.Proofs.SlLaysF0.n15.bits (P := Tryz.prog) (ρ := rnS) { laysS with }) x w h.1 h.2
    refine Calls.mono (P := Tryz.prog) hb ?_
    rintro e w' ⟨rfl, rfl⟩
    exact ⟨_, γ, rfl, hM, DRel.sc _ rfl, Keep.refl _ _, fun s b h => .inl ⟨s, h⟩, fun _ h => h.elim⟩
def ct_len : Ct Tryz.prog Un := ct1 Vw 269 (.int .u64) (fun (x : Int) => 0 ≤ x ∧ x ≤ 18446744073709551615) (fun (x : Int) => iT (Go.Lib.bitLen x.toNat : Nat)) (fun x h => len_c x h)
def run_pdq (H : List (Nat × Blk Un)) (args : List (SE Un)) (K : OOut Un → Prop) : Prop :=
  match H, args with
  | [(0, .rows Kd.term l)], [.c (.own 0 Kd.term m), .c (.d (.sc (.int .i64 z))), .c (.d (.sc (.int .i64 n))), .c (.d (.sc (.int .i64 lim))), .c (.clo 222 [])] =>
    m = l.length ∧ z = 0 ∧ n = l.length ∧ 0 ≤ lim ∧ lim ≤ 1000 ∧ l.length ≤ 1000000000 ∧ K ⟨.tup [], [(0, .rows Kd.term (sortT l lim.toNat))], [], [0]⟩
  | _, _ => False
def oc_pdq : OCt Tryz.prog Un where
  f := 268
  ent := ent268
  run := run_pdq
  ok H args K h := by
    unfold run_pdq at h
    split at h
    · rename_i l _ _ _ lim
      obtain ⟨rfl, rfl, rfl, h1, h2, h3, h4⟩ := h
      refine ⟨_, ?_, fun u hu hw => ?_, h4⟩
      · have e : lim = ((lim.toNat : Nat) : Int) := by omega
        have := pdq_c l lim.toNat h3 (by omega)
        rw [← e] at this
        exact this.stays fun u hu => by
          have h3 : u < 1 := hu.1
          simp; omega
      · have : u < 1 := hu
        simp at hw; omega
    · exact h.elim
def sortF (l : List TermD) : List TermD := sortT l (Go.Lib.bitLen (IntKind.u64.wrap (l.length : Int)).toNat)
theorem sortF_eq (l : List TermD) : sortT l (((Go.Lib.bitLen (IntKind.u64.wrap (l.length : Int)).toNat : Nat) : Int).toNat) = sortF l := by rw [Int.toNat_natCast]; rfl
theorem wrap_1 (n : Nat) : 0 ≤ IntKind.u64.wrap (n : Int) := by simp [IntKind.wrap, IntKind.bits, IntKind.signed]; omega
theorem wrap_2 (n : Nat) : IntKind.u64.wrap (n : Int) ≤ 18446744073709551615 := by simp [IntKind.wrap, IntKind.bits, IntKind.signed]; omega
theorem bl_1 (n : Nat) : ((Go.Lib.bitLen (IntKind.u64.wrap (n : Int)).toNat : Nat) : Int) ≤ 1000 := by
  have h := wrap_1 n
  have h2 := wrap_2 n
  have := Go.Lib.bitLen_le (IntKind.u64.wrap (n : Int)).toNat 64 (by omega) (by omega)
  omega
theorem ent221 : Ent Tryz.prog 221 := ent_of Tryz.func221 (by kernel_rfl) rfl
set_option maxRecDepth 20000 in
set_option maxHeartbeats 4000000 in
theorem sortF_c (l : List TermD) (h : l.length ≤ 1000000000) : Sat Tryz.prog 221 (mkH (denH [(0, Blk.rows (U := Un) Kd.term l)])) (([.c (.own 0 Kd.term l.length), .c (.clo 222 [])] : List (SE Un)).map SE.den) (mkH (denH [(0, Blk.rows (U := Un) Kd.term (sortF l))])) (· ∈ [0]) (ST.tup (U := Un) []).den := by
  refine vcO_ok (V := Vw) (reg := ⟨[ct_len], [oc_pdq]⟩) (ls := []) (keep := [0]) (τ := ⟨[], [(0, .rows Kd.term (sortF l))], 1⟩) mixed Tryz.func221 rfl (by kernel_rfl) (Nat.le_of_ble_eq_true rfl) rfl rfl rfl rfl (fun _ _ h => h) ?_
  repeat' (first | intro _ | apply And.intro)
  all_goals first
    | exact True.intro
    | (with_reducible rfl)
    | (with_reducible exact h)
    | (with_reducible exact wrap_1 _) | (with_reducible exact wrap_2 _) | (with_reducible exact bl_1 _) | (with_reducible exact Int.natCast_nonneg _) | (with_reducible exact sortF_eq l)
    | trace_state
def run_sortF (H : List (Nat × Blk Un)) (args : List (SE Un)) (K : OOut Un → Prop) : Prop :=
  match H, args with
  | [(0, .rows Kd.term l)], [.c (.own 0 Kd.term m), .c (.clo 222 [])] =>
    m = l.length ∧ l.length ≤ 1000000000 ∧ K ⟨.tup [], [(0, .rows Kd.term (sortF l))], [], [0]⟩
  | _, _ => False
def oc_sortF : OCt Tryz.prog Un where
  f := 221
  ent := ent221
  run := run_sortF
  ok H args K h := by
    unfold run_sortF at h
    split at h
    · rename_i l _
      obtain ⟨rfl, h3, h4⟩ := h
      refine ⟨_, ?_, fun u hu hw => ?_, h4⟩
      · exact (sortF_c l h3).stays fun u hu => by
          have h3 : u < 1 := hu.1
          simp; omega
      · have : u < 1 := hu
        simp at hw; omega
    · exact h.elim

end Go.Proofs.YtfbmhjooliccnaaGreatDoor
end

section
namespace Go.Proofs.YtfbmhjooliccnaaGreatDoor
open Go Go.Ab

def nzT (t : TermD) : Bool := signI ⟨t.neg, t.abs⟩ != 0
@[irreducible] def filTo (l : List TermD) (i : Nat) : List TermD := (l.take i).filter nzT
def polyF (l : List TermD) : List TermD := sortF (l.filter nzT)
theorem filTo_0 (l : List TermD) : [] = filTo l 0 := by unfold filTo; rfl
theorem filTo_0n (l : List TermD) : 0 = (filTo l 0).length := by rw [← filTo_0]; rfl
theorem filTo_len (l : List TermD) (i : Nat) : (filTo l i).length ≤ l.length := by
  unfold filTo
  exact Nat.le_trans (List.length_filter_le _ _) (by simp; omega)
theorem filTo_succ {l : List TermD} {i : Nat} {t : TermD} (h : l[((i : Nat) : Int).toNat]? = some t) : filTo l (i + 1) = filTo l i ++ (if nzT t then [t] else []) := by
  rw [Int.toNat_natCast] at h
  unfold filTo
  rw [List.take_add_one, h, List.filter_append]
  congr 1
  simp [List.filter_cons]
theorem filTo_yes {l : List TermD} {i : Nat} {t : TermD} (h : l[((i : Nat) : Int).toNat]? = some t) (hs : (signI ⟨t.neg, t.abs⟩ != 0) = true) : filTo l i ++ [⟨t.neg, t.abs, t.e1, t.e2, t.e3, t.e4⟩] = filTo l (i + 1) := by
  rw [filTo_succ h, if_pos (show nzT t = true from hs)]
theorem filTo_yesn {l : List TermD} {i : Nat} {t : TermD} (h : l[((i : Nat) : Int).toNat]? = some t) (hs : (signI ⟨t.neg, t.abs⟩ != 0) = true) (x : TermD) : (filTo l i).length + [x].length = (filTo l (i + 1)).length := by
  rw [← filTo_yes h hs]; simp
theorem filTo_no {l : List TermD} {i : Nat} {t : TermD} (h : l[((i : Nat) : Int).toNat]? = some t) (hs : (signI ⟨t.neg, t.abs⟩ != 0) = false) : filTo l i = filTo l (i + 1) := by
  rw [filTo_succ h, if_neg (by unfold nzT; simp [hs])]; simp
theorem filTo_non {l : List TermD} {i : Nat} {t : TermD} (h : l[((i : Nat) : Int).toNat]? = some t) (hs : (signI ⟨t.neg, t.abs⟩ != 0) = false) : (filTo l i).length = (filTo l (i + 1)).length := by rw [← filTo_no h hs]
theorem filTo_end {l : List TermD} {i : Nat} (h : decide ((i : Int) < (l.length : Int)) = false) : sortF (filTo l i) = polyF l := by
  simp only [decide_eq_false_iff_not] at h
  unfold filTo polyF
  rw [List.take_of_length_le (by omega)]
theorem sortF_len (l : List TermD) : (sortF l).length = l.length := sortT_len l _
theorem filTo_endn {l : List TermD} {i : Nat} (h : decide ((i : Int) < (l.length : Int)) = false) : (filTo l i).length = (polyF l).length := by rw [← filTo_end h, sortF_len]
theorem fil_b1 {l : List TermD} (h : l.length ≤ 1000000000) (i : Nat) (x : TermD) : ((filTo l i).length + [x].length) * ti171.bys ≤ 140737488355328 := by
  have := filTo_len l i
  have e : ti171.bys = 64 := rfl
  have e2 : [x].length = 1 := rfl
  rw [e, e2]; omega
theorem fil_b2 {l : List TermD} (h : l.length ≤ 1000000000) (i : Nat) (x : TermD) : (filTo l i).length + [x].length ≤ 140737488355328 := by
  have := filTo_len l i
  have e2 : [x].length = 1 := rfl
  rw [e2]; omega
theorem fil_b3 {l : List TermD} (h : l.length ≤ 1000000000) (i : Nat) : (filTo l i).length ≤ 1000000000 := Nat.le_trans (filTo_len l i) h
theorem ent176 : Ent Tryz.prog 176 := ent_of Tryz.func176 (by kernel_rfl) rfl
set_option maxRecDepth 20000 in
set_option maxHeartbeats 4000000 in
theorem poly_c (l : List TermD) (h : l.length ≤ 1000000000) : Sat Tryz.prog 176 (mkH (denH (gH 0 1 2 l))) (([.c (.ptr 0 0)] : List (SE Un)).map SE.den) (mkH (denH [(3, Blk.rows (U := Un) Kd.term (polyF l))])) (· ∈ []) (ST.e (U := Un) (.c (.own 3 Kd.term (polyF l).length))).den := by
  refine vcO_ok (V := Vw) (reg := ⟨[ct_signI], [oc_sortF]⟩) (ls := [(3, ⟨Nat, fun x => ⟨[(3, .e (.c (.own 0 Kd.term (filTo l x).length))), (9, .e (.c (.own 1 Kd.term l.length))), (10, iT l.length), (11, iT x)], [(0, .rows Kd.term (filTo l x)), (1, .rows Kd.term l)], 2⟩, fun x => x ≤ l.length ∧ True, fun x => l.length - x⟩)]) (keep := []) (τ := ⟨[(2, .e (.c (.own 3 Kd.term (polyF l).length)))], [(3, .rows Kd.term (polyF l))], 4⟩) mixed Tryz.func176 rfl (by kernel_rfl) (Nat.le_of_ble_eq_true rfl) rfl rfl rfl rfl (fun _ _ h => h) ?_
  repeat' (first | intro _ | apply And.intro | refine Exists.intro 0 (And.intro ?_ fun (x : Nat) (hx : x ≤ l.length ∧ True) => ?_) | refine Exists.intro (x + 1) ?_)
  all_goals first
    | exact True.intro
    | (with_reducible rfl)
    | (with_reducible exact filTo_0 l) | (with_reducible exact filTo_0n l) | (with_reducible exact fil_b1 h _ _) | (with_reducible exact fil_b2 h _ _) | (with_reducible exact fil_b3 h _)
    | (with_reducible exact (filTo_0 l).symm) | (with_reducible exact (filTo_0n l).symm)
    | (rename_i h1 h2; first | with_reducible exact filTo_yes h1 h2 | with_reducible exact filTo_yesn h1 h2 _ | with_reducible exact filTo_no h1 h2 | with_reducible exact filTo_non h1 h2)
    | (rename_i h1 h2 _; first | with_reducible exact filTo_yes h1 h2 | with_reducible exact filTo_yesn h1 h2 _ | with_reducible exact filTo_no h1 h2 | with_reducible exact filTo_non h1 h2)
    | (rename_i h1; first | with_reducible exact filTo_end h1 | with_reducible exact filTo_endn h1)
    | (simp only [decide_eq_true_eq, decide_eq_false_iff_not] at *; have := hx.1; omega)
    | omega
    | trace_state
def run_poly (H : List (Nat × Blk Un)) (args : List (SE Un)) (K : OOut Un → Prop) : Prop :=
  match H, args with
  | [(0, .cells [.mp 1, .own 2 Kd.term m]), (1, .mapb es), (2, .rows Kd.term l)], [.c (.ptr 0 0)] =>
    m = l.length ∧ es = mapEs l 0 ∧ l.length ≤ 1000000000 ∧ K ⟨.e (.c (.own 3 Kd.term (polyF l).length)), [(3, .rows Kd.term (polyF l))], [0, 1, 2], [0, 1, 2]⟩
  | _, _ => False
def oc_poly : OCt Tryz.prog Un where
  f := 176
  ent := ent176
  run := run_poly
  ok H args K h := by
    unfold run_poly at h
    split at h
    · rename_i _ _ l
      obtain ⟨rfl, rfl, h3, h4⟩ := h
      refine ⟨_, ?_, fun u hu hw => ?_, h4⟩
      · exact (poly_c l h3).stays fun u hu => by
          have h3 : u < 3 := hu.1
          have h4 := hu.2
          simp at h4; omega
      · have : u < 3 := hu
        simp at hw; omega
    · exact h.elim

end Go.Proofs.YtfbmhjooliccnaaGreatDoor
end

section
namespace Go.Proofs.YtfbmhjooliccnaaGreatDoor
open Go Go.Ab

@[irreducible] def gTo (p : List TermD) (i : Nat) : List TermD := (p.take i).foldl (fun a t => gadd a t.mono t.coef) []
theorem gTo_0 (p : List TermD) : gTo p 0 = [] := by unfold gTo; rfl
theorem gTo_succ {p : List TermD} {i : Nat} {t : TermD} (h : p[((i : Nat) : Int).toNat]? = some t) : gadd (gTo p i) ⟨t.e1, t.e2, t.e3, t.e4⟩ ⟨t.neg, t.abs⟩ = gTo p (i + 1) := by
  rw [Int.toNat_natCast] at h
  unfold gTo
  rw [List.take_add_one, h, List.foldl_append]
  rfl
@[irreducible] def normT (p : List TermD) : List TermD := polyF (gTo p p.length)
@[irreducible] def NB (n : Nat) (p : List TermD) : Prop := LB n p ∧ n ≤ 1000000000 ∧ p.length ≤ 1000000000
theorem gTo_ok {n : Nat} {p : List TermD} (h : NB n p) : ∀ i, i ≤ p.length → LB (n + i) (gTo p i) ∧ (gTo p i).length ≤ i
  | 0, _ => by rw [gTo_0]; exact ⟨fun t ht => by simp at ht, by simp⟩
  | i + 1, hi => by
    obtain ⟨h1, h2⟩ := gTo_ok h i (by omega)
    obtain ⟨t, ht⟩ : ∃ t, p[((i : Nat) : Int).toNat]? = some t := by rw [Int.toNat_natCast]; exact ⟨p[i]'(by omega), by simp⟩
    rw [← gTo_succ ht]
    unfold NB at h
    have h3 := h.1 t (List.mem_of_getElem? ht)
    have h4 := gadd_len (gTo p i) ⟨t.e1, t.e2, t.e3, t.e4⟩ ⟨t.neg, t.abs⟩
    refine ⟨gadd_LB h1 ⟨by show t.abs.length ≤ n + i; omega, h3.2⟩, by omega⟩
theorem gTo_GB {n : Nat} {p : List TermD} (h : NB n p) {i : Nat} {t : TermD} (hi : i ≤ p.length) (ht : p[((i : Nat) : Int).toNat]? = some t) : GBe (gTo p i) ⟨t.neg, t.abs⟩ := by
  have h1 := gTo_ok h i hi
  unfold NB at h
  have h3 := h.1 t (List.mem_of_getElem? ht)
  exact GB.e (n := n + i) ⟨h1.1, by show t.abs.length ≤ n + i; omega, h3.2, by omega, by omega⟩
theorem gTo_len {n : Nat} {p : List TermD} (h : NB n p) {i : Nat} (hi : i ≤ p.length) : (gTo p i).length ≤ 1000000000 := by
  have h1 := gTo_ok h i hi
  unfold NB at h
  omega
theorem gTo_end {p : List TermD} {i : Nat} (hi : i ≤ p.length) (h : decide ((i : Int) < (p.length : Int)) = false) : polyF (gTo p i) = normT p := by
  simp only [decide_eq_false_iff_not] at h
  have : i = p.length := by omega
  subst this
  unfold normT; rfl
theorem gS1 {p : List TermD} {i : Nat} {t : TermD} (h : p[((i : Nat) : Int).toNat]? = some t) : (gadd (gTo p i) ⟨t.e1, t.e2, t.e3, t.e4⟩ ⟨t.neg, t.abs⟩).length = (gTo p (i + 1)).length := by rw [gTo_succ h]
theorem gS2 {p : List TermD} {i : Nat} {t : TermD} (h : p[((i : Nat) : Int).toNat]? = some t) : mapEs (gadd (gTo p i) ⟨t.e1, t.e2, t.e3, t.e4⟩ ⟨t.neg, t.abs⟩) 0 = mapEs (gTo p (i + 1)) 0 := by rw [gTo_succ h]
theorem g01 (p : List TermD) : ([] : List TermD).length = (gTo p 0).length := by rw [gTo_0]
theorem g02 (p : List TermD) : mapEs [] 0 = mapEs (gTo p 0) 0 := by rw [gTo_0]
theorem g03 (p : List TermD) : [] = gTo p 0 := by rw [gTo_0]

set_option maxRecDepth 20000 in
set_option maxHeartbeats 4000000 in
theorem normT_c (p : List TermD) (n : Nat) (h : NB n p) : Pur Tryz.prog 128 [(wrP Vw (.ls Kd.term) p).den] (lT .term (normT p)).den := by
  refine vcF_ok (V := Vw) (reg := ⟨[], [oc_newg, oc_gadd, oc_poly]⟩) (ls := [(3, ⟨Nat, fun x => ⟨[(3, .e (.c (.ptr 0 0))), (7, lT .term p), (8, iT p.length), (9, iT x)], gH 0 1 2 (gTo p x), 3⟩, fun x => x ≤ p.length ∧ True, fun x => p.length - x⟩)]) mixed Tryz.func128 rfl (by kernel_rfl) (Nat.le_of_ble_eq_true rfl) (noNames rfl) (args := [(wrP Vw (.ls Kd.term) p)]) (r := lT .term (normT p)) ?_
  repeat' (first | intro _ | apply And.intro | refine Exists.intro 0 (And.intro ?_ fun (x : Nat) (hx : x ≤ p.length ∧ True) => ?_) | refine Exists.intro (x + 1) ?_)
  all_goals first
    | exact True.intro
    | (with_reducible rfl)
    | (with_reducible exact g01 p) | (with_reducible exact g02 p) | (with_reducible exact g03 p)
    | (with_reducible exact gTo_len h hx.1)
    | (rename_i h1; first | with_reducible exact gTo_end hx.1 h1 | with_reducible exact gTo_GB h hx.1 h1 | with_reducible exact gS1 h1 | with_reducible exact gS2 h1 | with_reducible exact gTo_succ h1)
    | (rename_i h1 _; first | with_reducible exact gTo_GB h hx.1 h1 | with_reducible exact gS1 h1 | with_reducible exact gS2 h1 | with_reducible exact gTo_succ h1)
    | (simp only [decide_eq_true_eq, decide_eq_false_iff_not] at *; have := hx.1; omega)
    | omega
    | trace_state

@[irreducible] def NBe (p : List TermD) : Prop := ∃ n, NB n p
theorem NB.e {n : Nat} {p : List TermD} (h : NB n p) : NBe p := by unfold NBe; exact ⟨n, h⟩
theorem normT_ce (p : List TermD) (h : NBe p) : Pur Tryz.prog 128 [(wrP Vw (.ls Kd.term) p).den] (lT .term (normT p)).den := by
  unfold NBe at h
  obtain ⟨n, h⟩ := h
  exact normT_c p n h
def ct_normT : Ct Tryz.prog Un := ct1 Vw 128 (.ls Kd.term) (fun (p : List TermD) => NBe p) (fun (p : List TermD) => lT .term (normT p)) (fun p h => normT_ce p h)

end Go.Proofs.YtfbmhjooliccnaaGreatDoor
end

section
namespace Go.Proofs.YtfbmhjooliccnaaGreatDoor
open Go Go.Ab

def ex (k : Nat) (t : TermD) : Int := getMo t.mono (k : Int)
theorem ex1 (t : TermD) : ex 1 t = t.e1 := rfl
theorem ex2 (t : TermD) : ex 2 t = t.e2 := rfl
theorem ex3 (t : TermD) : ex 3 t = t.e3 := rfl
theorem ex4 (t : TermD) : ex 4 t = t.e4 := rfl
def lowLv (t : TermD) : Nat → Nat
  | 0 => 0
  | k + 1 => if ex (k + 1) t = 0 then lowLv t k else k + 1
@[irreducible] def BP (l : List TermD) (k : Nat) : Prop :=
  k ≤ 4 ∧ l.length ≤ 1000000000 ∧ (∀ t ∈ l, ∀ v : Nat, 1 ≤ v → v ≤ 4 → 0 ≤ ex v t ∧ ex v t ≤ 1000000000000) ∧ l.Pairwise (fun s t => ¬ lexL s.mono t.mono) ∧ (∀ s ∈ l, ∀ t ∈ l, ∀ v : Nat, k < v → v ≤ 4 → ex v s = ex v t)
theorem BP.k4 {l : List TermD} {k : Nat} (h : BP l k) : k ≤ 4 := by unfold BP at h; exact h.1
theorem BP.len {l : List TermD} {k : Nat} (h : BP l k) : l.length ≤ 1000000000 := by unfold BP at h; exact h.2.1
theorem BP.exb {l : List TermD} {k : Nat} (h : BP l k) {t : TermD} (ht : t ∈ l) {v : Nat} (h1 : 1 ≤ v) (h4 : v ≤ 4) : 0 ≤ ex v t ∧ ex v t ≤ 1000000000000 := by unfold BP at h; exact h.2.2.1 t ht v h1 h4
theorem BP.mono {l : List TermD} {k : Nat} (h : BP l k) (h1 : 1 ≤ k) : l.Pairwise (fun s t => ex k t ≤ ex k s) := by
  unfold BP at h
  obtain ⟨h4, _, _, hp, he⟩ := h
  refine hp.imp_of_mem fun {s t} hs ht hn => ?_
  have e2 := he s hs t ht 2
  have e3 := he s hs t ht 3
  have e4 := he s hs t ht 4
  rw [ex2, ex2] at e2; rw [ex3, ex3] at e3; rw [ex4, ex4] at e4
  unfold lexL at hn
  simp only [TermD.mono] at hn
  match k, h1, h4 with
  | 1, _, _ => rw [ex1, ex1]; have := e2 (by omega) (by omega); have := e3 (by omega) (by omega); have := e4 (by omega) (by omega); omega
  | 2, _, _ => rw [ex2, ex2]; have := e3 (by omega) (by omega); have := e4 (by omega) (by omega); omega
  | 3, _, _ => rw [ex3, ex3]; have := e4 (by omega) (by omega); omega
  | 4, _, _ => rw [ex4, ex4]; omega
theorem BP.sub {l l' : List TermD} {k : Nat} (h : BP l k) (hs : List.Sublist l' l) : BP l' k := by
  unfold BP at *
  obtain ⟨a, b, c, d, e⟩ := h
  exact ⟨a, Nat.le_trans hs.length_le b, fun t ht => c t (hs.subset ht), d.sublist hs, fun s h1 t h2 => e s (hs.subset h1) t (hs.subset h2)⟩
theorem BP.down {l : List TermD} {k : Nat} {z : Int} (h : BP l (k + 1)) (hz : ∀ t ∈ l, ex (k + 1) t = z) : BP l k := by
  unfold BP at *
  obtain ⟨a, b, c, d, e⟩ := h
  refine ⟨by omega, b, c, d, fun s h1 t h2 v hv hv4 => ?_⟩
  by_cases hk : v = k + 1
  · subst hk; rw [hz s h1, hz t h2]
  · exact e s h1 t h2 v (by omega) hv4
theorem BP.head {l : List TermD} {k : Nat} (h : BP l k) (h1 : 1 ≤ k) {t : TermD} (ht : l[0]? = some t) : ∀ u ∈ l, ex k u ≤ ex k t := by
  have hm := h.mono h1
  intro u hu
  cases l with
  | nil => simp at ht
  | cons a r =>
    simp only [List.getElem?_cons_zero, Option.some.injEq] at ht; subst ht
    rcases List.mem_cons.1 hu with rfl | hu
    · exact Int.le_refl _
    · exact (List.pairwise_cons.1 hm).1 u hu
theorem BP.zero {l : List TermD} {k : Nat} (h : BP l (k + 1)) {t : TermD} (ht : l[0]? = some t) (hz : ex (k + 1) t = 0) : BP l k := by
  refine h.down (z := 0) fun u hu => ?_
  have h1 := h.head (by omega) ht u hu
  have h2 := h.exb hu (v := k + 1) (by omega) h.k4
  omega

def buildF : Nat → List TermD → Nat → PolyD
  | 0, _, _ => zP
  | _ + 1, [], _ => zP
  | f + 1, t :: r, k =>
    if lowLv t k = 0 then .mk 0 t.neg t.abs []
    else if 1073741824 < ex (lowLv t k) t then buildF f r (lowLv t k)
    else .mk (lowLv t k : Nat) false [] ((List.range (ex (lowLv t k) t + 1).toNat).map fun (e : Nat) => buildF f ((t :: r).filter fun u => ex (lowLv t k) u == (e : Int)) (lowLv t k - 1))
theorem buildF_nil (f k : Nat) : buildF f [] k = zP := by cases f <;> rw [buildF]
theorem buildF_cons (f : Nat) (t : TermD) (r : List TermD) (k : Nat) : buildF (f + 1) (t :: r) k =
    if lowLv t k = 0 then .mk 0 t.neg t.abs []
    else if 1073741824 < ex (lowLv t k) t then buildF f r (lowLv t k)
    else .mk (lowLv t k : Nat) false [] ((List.range (ex (lowLv t k) t + 1).toNat).map fun (e : Nat) => buildF f ((t :: r).filter fun u => ex (lowLv t k) u == (e : Int)) (lowLv t k - 1)) := by rw [buildF]
theorem lowLv_le (t : TermD) : ∀ k, lowLv t k ≤ k
  | 0 => by rw [lowLv]; omega
  | k + 1 => by rw [lowLv]; have := lowLv_le t k; split <;> omega
theorem lowLv_ne {t : TermD} {x : Nat} (h : ex x t ≠ 0) (h1 : 1 ≤ x) : lowLv t x = x := by
  cases x with
  | zero => omega
  | succ x => rw [lowLv, if_neg h]

/-- The coefficients, once s terms are done. -/
@[irreducible] def coefTo (f : Nat) (l : List TermD) (k : Nat) (n s : Nat) : List PolyD := (List.range n).map fun (e : Nat) => buildF f ((l.take s).filter fun u => ex k u == (e : Int)) (k - 1)
theorem coefTo_0 (f : Nat) (l : List TermD) (k n : Nat) : List.replicate n zP = coefTo f l k n 0 := by
  unfold coefTo
  simp only [List.take_zero, List.filter_nil]
  apply List.ext_getElem?
  intro i
  by_cases hi : i < n
  · simp [hi, buildF_nil]
  · simp [hi]
theorem coefTo_len (f : Nat) (l : List TermD) (k n s : Nat) : (coefTo f l k n s).length = n := by unfold coefTo; simp
/-- Terms ahead of a place have greater exponents than those behind it. -/
@[irreducible] def cut (l : List TermD) (k s : Nat) : Prop := ∀ t ∈ l.take s, ∀ u ∈ l.drop s, ex k u < ex k t
theorem cut_0 (l : List TermD) (k : Nat) : cut l k 0 := by unfold cut; intro t ht; simp at ht
/-- The terms from s to e have one exponent. -/
@[irreducible] def runs (l : List TermD) (k s e : Nat) (z : Int) : Prop := ∀ j, s ≤ j → j < e → ∀ t, l[j]? = some t → ex k t = z
theorem runs_0 (l : List TermD) (k s : Nat) (z : Int) : runs l k s s z := by unfold runs; intro j h1 h2; omega
theorem runs_succ {l : List TermD} {k s e : Nat} {z : Int} (h : runs l k s e z) {t : TermD} (ht : l[e]? = some t) (hz : ex k t = z) : runs l k s (e + 1) z := by
  unfold runs at *
  intro j h1 h2 u hu
  by_cases hj : j = e
  · subst hj; rw [ht] at hu; injection hu with hu; subst hu; exact hz
  · exact h j h1 (by omega) u hu
theorem part_mem {l : List TermD} {s e : Nat} {t : TermD} (h : t ∈ (l.drop s).take (e - s)) : ∃ j, s ≤ j ∧ j < e ∧ l[j]? = some t := by
  obtain ⟨i, hi⟩ := List.getElem?_of_mem h
  have hil := (List.getElem?_eq_some_iff.1 hi).1
  rw [List.length_take] at hil
  rw [List.getElem?_take_of_lt (by omega), List.getElem?_drop] at hi
  exact ⟨s + i, by omega, by omega, hi⟩
theorem runs_part {l : List TermD} {k s e : Nat} {z : Int} (h : runs l k s e z) : ∀ t ∈ (l.drop s).take (e - s), ex k t = z := by
  intro t ht
  obtain ⟨j, h1, h2, h3⟩ := part_mem ht
  unfold runs at h
  exact h j h1 h2 t h3
theorem take_split (l : List TermD) (s e : Nat) (h : s ≤ e) : l.take e = l.take s ++ (l.drop s).take (e - s) := by
  have : e = s + (e - s) := by omega
  rw [this, List.take_add]
  congr 2
  omega
theorem cut_next {l : List TermD} {k s e : Nat} {z : Int} (hb : BP l k) (h1 : 1 ≤ k) (hc : cut l k s) (hr : runs l k s e z) (hse : s ≤ e) (hstop : ∀ t, l[e]? = some t → ex k t ≠ z) (hlt : s < e) : cut l k e := by
  have hm := hb.mono h1
  unfold cut at *
  intro t ht u hu
  have hz : ∀ v ∈ l.drop e, ex k v < z := by
    intro v hv
    obtain ⟨i, hi⟩ := List.getElem?_of_mem hv
    rw [List.getElem?_drop] at hi
    have hil := (List.getElem?_eq_some_iff.1 hi).1
    obtain ⟨a, ha⟩ : ∃ a, l[s]? = some a := ⟨l[s]'(by omega), by simp⟩
    obtain ⟨b, hbb⟩ : ∃ b, l[e]? = some b := ⟨l[e]'(by omega), by simp⟩
    have e1 : ex k a = z := by unfold runs at hr; exact hr s (Nat.le_refl _) hlt a ha
    have hne := hstop b hbb
    have hpw := List.pairwise_iff_getElem.1 hm
    have h2 := hpw s e (by omega) (by omega) hlt
    have ea : l[s]'(by omega) = a := (List.getElem?_eq_some_iff.1 ha).2
    have eb : l[e]'(by omega) = b := (List.getElem?_eq_some_iff.1 hbb).2
    rw [ea, eb] at h2
    have h3 : ex k v ≤ ex k b := by
      by_cases hi0 : i = 0
      · subst hi0; rw [Nat.add_zero, hbb] at hi; injection hi with hi; subst hi; exact Int.le_refl _
      · have := hpw e (e + i) (by omega) hil (by omega)
        have ev : l[e + i] = v := (List.getElem?_eq_some_iff.1 hi).2
        rw [eb, ev] at this; exact this
    omega
  rw [take_split l s e hse, List.mem_append] at ht
  rcases ht with ht | ht
  · have hu' : u ∈ l.drop s := by
      have : l.drop e = (l.drop s).drop (e - s) := by rw [List.drop_drop]; congr 1; omega
      rw [this] at hu
      exact List.mem_of_mem_drop hu
    exact hc t ht u hu'
  · rw [runs_part hr t ht]; exact hz u hu
theorem coefTo_next {f : Nat} {l : List TermD} {k n s e : Nat} {z : Int} (hc : cut l k s) (hr : runs l k s e z) (hse : s < e) (hl : e ≤ l.length) (h0 : 0 ≤ z) (hn : z.toNat < n) :
    (coefTo f l k n s).set z.toNat (buildF f ((l.drop s).take (e - s)) (k - 1)) = coefTo f l k n e := by
  have hz : ((z.toNat : Nat) : Int) = z := by omega
  unfold coefTo
  apply List.ext_getElem?
  intro i
  rw [List.getElem?_set]
  have hpart := runs_part hr
  by_cases hi : z.toNat = i
  · subst hi
    simp only [List.length_map, List.length_range, hn, if_true]
    simp only [List.getElem?_map, List.getElem?_range hn, Option.map_some]
    congr 2
    rw [take_split l s e (by omega), List.filter_append]
    have e1 : (l.take s).filter (fun u => ex k u == ((z.toNat : Nat) : Int)) = [] := by
      rw [List.filter_eq_nil_iff]
      intro t ht
      rw [hz]
      unfold cut at hc
      obtain ⟨a, ha⟩ : ∃ a, l[s]? = some a := ⟨l[s]'(by omega), by simp⟩
      have h1 := hc t ht a (by
        have : (l.drop s)[0]? = some a := by rw [List.getElem?_drop, Nat.add_zero]; exact ha
        exact List.mem_of_getElem? this)
      have h2 : ex k a = z := by unfold runs at hr; exact hr s (Nat.le_refl _) hse a ha
      simp; omega
    have e2 : ((l.drop s).take (e - s)).filter (fun u => ex k u == ((z.toNat : Nat) : Int)) = (l.drop s).take (e - s) := by
      rw [List.filter_eq_self]
      intro t ht
      rw [hpart t ht, hz]; simp
    rw [e1, e2, List.nil_append]
  · rw [if_neg hi]
    simp only [List.getElem?_map]
    by_cases hin : i < n
    · simp only [List.getElem?_range hin, Option.map_some]
      congr 2
      rw [take_split l s e (by omega), List.filter_append]
      have e2 : ((l.drop s).take (e - s)).filter (fun u => ex k u == ((i : Nat) : Int)) = [] := by
        rw [List.filter_eq_nil_iff]
        intro t ht
        rw [hpart t ht]; simp; omega
      rw [e2, List.append_nil]
    · simp [hin]
theorem part_sub (l : List TermD) (s m : Nat) : List.Sublist ((l.drop s).take m) l := (List.take_sublist _ _).trans (List.drop_sublist _ _)
end Go.Proofs.YtfbmhjooliccnaaGreatDoor
end
