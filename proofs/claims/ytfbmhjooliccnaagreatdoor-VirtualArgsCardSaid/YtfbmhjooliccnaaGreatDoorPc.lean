/- The framework: steps with footprints, for plain and for drawn regions. No condition. The framework: the append that gives its result a new label; copy; steps with footprints. No condition. The framework: append and copy with footprints. No condition. The framework: append to nil, literals of slices as own blocks, copy, with footprints. No condition. The framework: calls that take own blocks with them (a part of the own blocks goes to the called function, the rest stays aside). No condition. The framework: calls with own blocks, with footprints. No condition. The framework: maps with keys that are ints, strings or arrays of ints. No condition. The framework: steps on maps (make, look up, update). No condition. The framework: a slice literal as an own block. No condition. The framework: append of a string's bytes. No condition. The framework: more pure operations: a part of a string; a pointer against nil and against itself. No condition. -/
import Derived.Test.YtfbmhjooliccnaaGreatDoorPb
import Derived.Scope
import Derived.Lib.Builder
set_option linter.all false

section
namespace Go.Ab
open Go Go.RowKit

/-- The guard of an operation is not met. -/
def Passed (ops : Array Oper) (o : Oper) (σ : St) : Prop := ∃ j want t, o.guard = some (j, want) ∧ (ops[j]?).bind (·.dst) = some t ∧ ((∃ b, σ.env t = .e (.c (.d (.sc (.bool b)))) ∧ (b == want) = false) ∨ σ.env t = .tup [])

theorem Passed.congr {ops : Array Oper} {o : Oper} {σ τ : St} (h : Passed ops o σ) (hl : ∀ t ∈ looks ops o, τ.env t = σ.env t) : Passed ops o τ := by
  obtain ⟨j, want, t, h1, h2, h3⟩ := h
  have e := hl t (by simp [looks, h1, h2])
  exact ⟨j, want, t, h1, h2, by rw [e]; exact h3⟩

theorem rel_undef {w : World} {M : Nat → Prop} {γ : G} : TRel w M γ (.tup []) undef := ⟨[], rfl, rfl, fun i x u hx => by simp at hx⟩

theorem Passed.wanted {ops : Array Oper} {o : Oper} {σ : St} {C : Ctx} {a : Act} {w : World} (h : Passed ops o σ) (R : Rel C σ a w) : Region.wanted o (yielded ops a.tmps) = false := by
  obtain ⟨j, want, t, h1, h2, ⟨b, h3, h4⟩ | h3⟩ := h
  · simp [Region.wanted, h1, yielded_of R h2 h3]; simpa using h4
  · obtain ⟨γ, R⟩ := R
    have h := R.env t
    rw [h3] at h
    obtain ⟨us, hv, hl, _⟩ := h
    have hu : yielded ops a.tmps j = none := by
      unfold yielded
      rw [h2]
      simp only [Option.bind_some]
      cases ht : a.tmps[t]? with
      | none => rfl
      | some v =>
        simp [Array.getD_eq_getD_getElem?, ht] at hv
        rw [hv]
    simp [Region.wanted, h1, hu]

/-- One step of the operation o, whether its guard is met or not. -/
def OneOK (P : Program) (n : Nat) (stay : Nat → Prop) (ops : Array Oper) (o : Oper) (τ τ' : St) : Prop :=
  (Taken ops o τ ∧ StepOK P n stay o τ τ') ∨ (Passed ops o τ ∧ dstOK n o.dst ∧ τ' = τ.put o.dst (.tup []))

structure SQ (P : Program) (n : Nat) (stay : Nat → Prop) (ops : Array Oper) (o : Oper) (σ σ' : St) (f : Ft) : Prop where
  frame : ∀ l, l ∉ f.wr → σ'.at l = σ.at l
  go : ∀ τ : St, (∀ l, l ∈ f.rd ∨ l ∈ f.wr → τ.at l = σ.at l) → (∀ s ∈ f.kl, ∀ l, l ∉ f.wr → ¬ (τ.at l).names s) → OneOK P n stay ops o τ (over' τ σ' f.wr)

theorem over_self {σ σ' : St} {wr : List Nat} (h : ∀ l, l ∉ wr → σ'.at l = σ.at l) : over' σ σ' wr = σ' := by
  refine St.ext_at fun l => ?_
  rw [over_at]
  split
  · rfl
  · exact (h l (by assumption)).symm

theorem SQ.one {P : Program} {n : Nat} {stay : Nat → Prop} {ops : Array Oper} {o : Oper} {σ σ' : St} {f : Ft} (h : SQ P n stay ops o σ σ' f) (hk : ∀ s ∈ f.kl, ∀ l, l ∉ f.wr → ¬ (σ.at l).names s) : OneOK P n stay ops o σ σ' := by
  have := h.go σ (fun _ _ => rfl) hk
  rwa [over_self h.frame] at this

theorem WPops.one {P : Program} {n : Nat} {stay : Nat → Prop} {ops : Array Oper} {o : Oper} {rest : List Oper} {σ σ' : St} {K : St → Prop} (h : OneOK P n stay ops o σ σ') (hr : WPops P n stay ops rest σ' K) : WPops P n stay ops (o :: rest) σ K := by
  rcases h with ⟨hg, hs⟩ | ⟨hp, hd, rfl⟩
  · rcases hg with hg | ⟨j, want, t, h1, h2, h3⟩
    · exact .step hg hs hr
    · exact .yes h1 h2 h3 hs hr
  · intro C hn hst a w R Q hq
    refine wpList_step fun K' hK' => ?_
    rw [if_neg (by rw [hp.wanted R]; simp)]
    refine hK' _ _ (hr C hn hst _ _ ?_ Q hq)
    obtain ⟨γ, R⟩ := R
    exact ⟨γ, R.skipPut o.dst (by rw [hn]; exact hd) undef (.tup []) rel_undef⟩

theorem SQ.lq {P : Program} {n : Nat} {stay : Nat → Prop} {ops : Array Oper} {j : Nat} {o : Oper} {σ σ' : St} {f : Ft} (h : SQ P n stay ops o σ σ' f) (ho : ops[j]? = some o) : LQ P n stay ops j σ σ' f where
  frame := h.frame
  go := by
    intro τ h1 h2 C hn hs a w R K Q hK
    unfold wpOp
    simp only [ho]
    rcases h.go τ h1 h2 with ⟨hg, hst⟩ | ⟨hp, hd, he⟩
    · have hw : Region.wanted o (yielded ops a.tmps) = true := by
        rcases hg with hg | ⟨i, want, t, e1, e2, e3⟩
        · simp [Region.wanted, hg]
        · simp [Region.wanted, e1, yielded_of R e2 e3]
      rw [if_pos hw]
      exact .inl (hst C hn hs a w R K Q hK)
    · rw [if_neg (by rw [hp.wanted R]; simp)]
      obtain ⟨γ, R⟩ := R
      refine hK _ _ ?_
      rw [he]
      exact ⟨γ, R.skipPut o.dst (by rw [hn]; exact hd) undef (.tup []) rel_undef⟩

def lk (ops : Array Oper) (o : Oper) : List Nat := (looks ops o).map (2 * ·)
def dl (o : Oper) : List Nat := o.dst.toList.map (2 * ·)

theorem env_of_at {σ τ : St} {i : Nat} (h : τ.at (2 * i) = σ.at (2 * i)) : τ.env i = σ.env i := by
  rw [at_env, at_env] at h; injection h
theorem heap_of_at {σ τ : St} {i : Nat} (h : τ.at (2 * i + 1) = σ.at (2 * i + 1)) : τ.heap i = σ.heap i := by
  rw [at_heap, at_heap] at h; injection h

theorem looks_of {ops : Array Oper} {o : Oper} {σ τ : St} {f : Ft} (hf : ∀ l ∈ lk ops o, l ∈ f.rd) (h : ∀ l, l ∈ f.rd ∨ l ∈ f.wr → τ.at l = σ.at l) : ∀ t ∈ looks ops o, τ.env t = σ.env t :=
  fun t ht => env_of_at (h _ (.inl (hf _ (List.mem_map.2 ⟨t, ht, rfl⟩))))

theorem evs_of {ops : Array Oper} {o : Oper} {σ τ : St} (h : ∀ t ∈ looks ops o, τ.env t = σ.env t) : ∀ x ∈ o.op.operands.toList, τ.ev x = σ.ev x :=
  fun x hx => ev_of_env fun t ht => h t (by
    subst ht
    simp only [looks, List.mem_append, List.mem_filterMap]
    exact .inl ⟨_, hx, rfl⟩)

theorem mem_dl {o : Oper} {i : Nat} : 2 * i ∈ dl o ↔ o.dst = some i := by
  unfold dl
  cases o.dst with
  | none => simp
  | some d =>
    simp only [Option.toList, List.map_cons, List.map_nil, List.mem_singleton, Option.some.injEq]
    exact ⟨fun h => (Nat.eq_of_mul_eq_mul_left (by decide) h).symm, fun h => by rw [h]⟩
theorem not_mem_dl {o : Oper} {s : Nat} : 2 * s + 1 ∉ dl o := by
  unfold dl
  cases o.dst with
  | none => simp
  | some d => simp; omega

theorem put_at (σ : St) (o : Oper) (r : T) (l : Nat) (h : l ∉ dl o) : (σ.put o.dst r).at l = σ.at l := by
  unfold St.at
  split
  · rename_i e
    rw [put_env, if_neg]
    intro h'
    exact h (by rw [show l = 2 * (l / 2) by omega]; exact mem_dl.2 h')
  · rw [put_heap]

theorem over_put (τ σ : St) (o : Oper) (r : T) : over' τ (σ.put o.dst r) (dl o) = τ.put o.dst r := by
  have h1 : (over' τ (σ.put o.dst r) (dl o)).env = (τ.put o.dst r).env := by
    funext i
    simp only [over', put_env, mem_dl]
    split <;> simp_all
  have h2 : (over' τ (σ.put o.dst r) (dl o)).heap = (τ.put o.dst r).heap := by
    funext s
    simp only [over', put_heap, not_mem_dl, if_false]
  cases hτ : over' τ (σ.put o.dst r) (dl o) with | mk e H => cases hσ : τ.put o.dst r with | mk e' H' => rw [hτ, hσ] at h1 h2; simp only at h1 h2; rw [h1, h2]

section
variable {P : Program} {n : Nat} {stay : Nat → Prop} {ops : Array Oper} {o : Oper} {σ : St} {r : T}

theorem SQ.pure (hg : Taken ops o σ) (h : PureOK P o σ.ev r) (hd : dstOK n o.dst) : SQ P n stay ops o σ (σ.put o.dst r) ⟨lk ops o, dl o, []⟩ where
  frame l hl := put_at σ o r l hl
  go τ h1 _ := by
    have hl := looks_of (fun l h => h) h1
    rw [over_put]
    exact .inl ⟨hg.congr hl, .of_pure (h.congr (evs_of hl)) hd⟩

theorem SQ.skip (hg : Passed ops o σ) (hd : dstOK n o.dst) : SQ P n stay ops o σ (σ.put o.dst (.tup [])) ⟨lk ops o, dl o, []⟩ where
  frame l hl := put_at σ o _ l hl
  go τ h1 _ := by
    have hl := looks_of (fun l h => h) h1
    rw [over_put]
    exact .inr ⟨hg.congr hl, hd, rfl⟩

theorem SQ.load (hg : Taken ops o σ) (t : TypeId) (x : Operand) (s off : Nat) (cs : List V) (e1 : o.op = .load t x) (e2 : σ.ev x = .e (.c (.ptr s off))) (e3 : σ.heap s = some cs) (e4 : loadV P t cs off = some r) (hd : dstOK n o.dst) :
    SQ P n stay ops o σ (σ.put o.dst r) ⟨(2 * s + 1) :: lk ops o, dl o, []⟩ where
  frame l hl := put_at σ o r l hl
  go τ h1 _ := by
    have hl := looks_of (fun l h => List.mem_cons_of_mem _ h) h1
    rw [over_put]
    exact .inl ⟨hg.congr hl, .load t x e1 s off cs r (by rw [evs_of hl x (by simp [e1, Op.operands]), e2]) (by rw [heap_of_at (h1 (2 * s + 1) (.inl (by simp))), e3]) e4 hd⟩

/-- A step that writes the temporary and one own block. -/
theorem SQ.block {σ' : St} {rd : List Nat} (s : Nat) (c : Option (List V)) (e : σ' = ⟨(σ.put o.dst r).env, updH σ.heap s c⟩) (hrd : ∀ l ∈ lk ops o, l ∈ rd)
    (go : ∀ τ : St, (∀ l, l ∈ rd ∨ l ∈ (2 * s + 1) :: dl o → τ.at l = σ.at l) → (∀ t ∈ looks ops o, τ.env t = σ.env t) → OneOK P n stay ops o τ ⟨(τ.put o.dst r).env, updH τ.heap s c⟩) : SQ P n stay ops o σ σ' ⟨rd, (2 * s + 1) :: dl o, []⟩ where
  frame l hl := by
    subst e
    simp only [List.mem_cons, not_or] at hl
    have := put_at σ o r l hl.2
    unfold St.at at this ⊢
    split
    · rename_i e
      rw [if_pos e, if_pos e] at this
      exact this
    · rename_i e
      simp only [updH]
      rw [if_neg (by omega)]
  go τ h1 _ := by
    have hl := looks_of (f := ⟨rd, (2 * s + 1) :: dl o, []⟩) hrd h1
    have := go τ h1 hl
    have e2 : over' τ σ' ((2 * s + 1) :: dl o) = ⟨(τ.put o.dst r).env, updH τ.heap s c⟩ := by
      subst e
      refine St.ext_at fun l => ?_
      rw [over_at]
      unfold St.at
      by_cases hp : l % 2 = 0
      · simp only [hp, if_true]
        by_cases hm : l ∈ (2 * s + 1) :: dl o
        · rw [if_pos hm]
          have : l ∈ dl o := (List.mem_cons.1 hm).resolve_left (by omega)
          rw [show l = 2 * (l / 2) by omega, mem_dl] at this
          simp only [put_env, this, if_true]
        · rw [if_neg hm]
          have : ¬ o.dst = some (l / 2) := fun h => hm (List.mem_cons_of_mem _ (by rw [show l = 2 * (l / 2) by omega]; exact mem_dl.2 h))
          simp only [put_env, this, if_false]
      · simp only [hp, if_false]
        by_cases hm : l ∈ (2 * s + 1) :: dl o
        · rw [if_pos hm]
          have hs : l = 2 * s + 1 := (List.mem_cons.1 hm).resolve_right (fun h => by rw [show l = 2 * (l / 2) + 1 by omega] at h; exact not_mem_dl h)
          have : l / 2 = s := by omega
          simp only [updH, this, if_true]
        · rw [if_neg hm]
          have : ¬ l / 2 = s := fun h => hm (by rw [List.mem_cons]; exact .inl (by omega))
          simp only [updH, this, if_false]
    rw [e2]
    exact this

theorem SQ.alloc (hg : Taken ops o σ) (d : Nat) (cs : List V) (h : AllocOK P o σ.ev d cs r) (hd : dstOK n o.dst) (hst : ¬ stay d) (hf : σ.heap d = none) :
    SQ P n stay ops o σ ⟨(σ.put o.dst r).env, updH σ.heap d (some cs)⟩ ⟨lk ops o, (2 * d + 1) :: dl o, []⟩ :=
  SQ.block d (some cs) rfl (fun _ h => h) fun τ h1 hl => .inl ⟨hg.congr hl, .of_alloc (h.congr (evs_of hl)) hd (by rw [heap_of_at (h1 (2 * d + 1) (.inr (by simp))), hf]) hst⟩

theorem put_none {σ : St} {r : T} : σ.put none r = σ := rfl

theorem SQ.store (hg : Taken ops o σ) (t : TypeId) (x y : Operand) (ho : o.op = .store t x y) (hdst : o.dst = none) (s off : Nat) (cs : List V) (e : E) (m : Nat)
    (hx : σ.ev x = .e (.c (.ptr s off))) (hy : σ.ev y = .e e) (hs : σ.heap s = some cs) (ht : tsz P t = some m) (hl : e.cells.length = m) (hlen : off + m ≤ cs.length) (hM : notM cs = true) :
    SQ P n stay ops o σ ⟨σ.env, updH σ.heap s (some (splice cs off e.cells))⟩ ⟨lk ops o, (2 * s + 1) :: dl o, []⟩ :=
  SQ.block (r := .any) s (some (splice cs off e.cells)) (by rw [hdst, put_none]) (fun _ h => h) fun τ h1 hlk => by
    rw [hdst, put_none]
    refine .inl ⟨hg.congr hlk, .store t x y ho hdst s off cs e m ?_ ?_ (by rw [heap_of_at (h1 (2 * s + 1) (.inr (by simp))), hs]) ht hl hlen hM⟩
    · rw [evs_of hlk x (by simp [ho, Op.operands]), hx]
    · rw [evs_of hlk y (by simp [ho, Op.operands]), hy]
end

end Go.Ab
end

section
namespace Go.Ab
open Go Go.RowKit

def V.nmB (s : Nat) : V → Bool
  | .ptr t _ => t == s
  | .sub t _ _ _ => t == s
  | .clo _ caps => caps.any fun p => p.1 == s
  | .mp t => t == s
  | _ => false
def E.nmB (s : Nat) : E → Bool
  | .c v => v.nmB s
  | .agg vs => vs.any (V.nmB s)
def T.nmB (s : Nat) : T → Bool
  | .e x => x.nmB s
  | .tup xs => xs.any (E.nmB s)
  | .any => false

theorem V.nmB_iff {s : Nat} {x : V} : x.nmB s = true ↔ x.names s := by
  cases x <;> simp [V.nmB, V.names]
theorem E.nmB_iff {s : Nat} {x : E} : x.nmB s = true ↔ x.names s := by
  cases x with
  | c v => exact V.nmB_iff
  | agg vs => simp [E.nmB, E.names, V.nmB_iff]
theorem T.nmB_iff {s : Nat} {x : T} : x.nmB s = true ↔ x.names s := by
  cases x with
  | e v => exact E.nmB_iff
  | tup vs => simp [T.nmB, T.names, E.nmB_iff]
  | any => simp [T.nmB, T.names]

theorem V.kill_id {s : Nat} {x : V} (h : ¬ x.names s) : x.kill s = x := by
  cases x <;> simp_all [V.kill, V.names]
theorem CsKill_id {s : Nat} : ∀ {xs : List V}, (¬ ∃ v ∈ xs, v.names s) → xs.map (V.kill s) = xs
  | [], _ => rfl
  | x :: xs, h => by
    have h1 : ¬ ∃ v ∈ xs, v.names s := fun ⟨v, hv, hn⟩ => h ⟨v, List.mem_cons_of_mem _ hv, hn⟩
    rw [List.map_cons, V.kill_id (fun hx => h ⟨x, by simp, hx⟩), CsKill_id h1]
theorem E.kill_id {s : Nat} {x : E} (h : ¬ x.names s) : x.kill s = x := by
  cases x with
  | c v => simp only [E.kill, V.kill_id h]
  | agg vs => simp only [E.kill, CsKill_id h]
theorem EsKill_id {s : Nat} : ∀ {xs : List E}, (¬ ∃ v ∈ xs, v.names s) → xs.map (E.kill s) = xs
  | [], _ => rfl
  | x :: xs, h => by
    have h1 : ¬ ∃ v ∈ xs, v.names s := fun ⟨v, hv, hn⟩ => h ⟨v, List.mem_cons_of_mem _ hv, hn⟩
    rw [List.map_cons, E.kill_id (fun hx => h ⟨x, by simp, hx⟩), EsKill_id h1]
theorem T.kill_id {s : Nat} {x : T} (h : ¬ x.names s) : x.kill s = x := by
  cases x with
  | e v => simp only [T.kill, E.kill_id h]
  | tup vs => simp only [T.kill, EsKill_id h]
  | any => rfl

theorem StepOK.weak {P : Program} {n : Nat} {stay : Nat → Prop} {o : Oper} {σ σ1 σ2 : St} (h : StepOK P n stay o σ σ1) (hw : Weak n stay σ1 σ2) : StepOK P n stay o σ σ2 :=
  fun C hn hs a w R K Q hK => h C hn hs a w R K Q fun a' w' R' => hK a' w' (hw C hn hs a' w' R')

theorem Weak.anys {n : Nat} {stay : Nat → Prop} {σ : St} {e : Nat → T} (h : ∀ i, e i = σ.env i ∨ e i = .any) : Weak n stay σ ⟨e, σ.heap⟩ := by
  intro C hn hs a w ⟨γ, R⟩
  refine ⟨γ, R.mem, fun i => ?_, R.keep, R.own, R.stay, R.defers, R.size⟩
  rcases h i with h | h
  · show TRel _ _ _ (e i) _
    rw [h]; exact R.env i
  · show TRel _ _ _ (e i) _
    rw [h]; trivial

theorem Weak.relabel {n : Nat} {stay : Nat → Prop} {σ : St} (s s' d k len : Nat) {cs : List V} (hd : σ.env d = .e (.c (.sub s k 0 len))) (he : ∀ i, i ≠ d → ¬ (σ.env i).names s) (hh : ∀ u cs, σ.heap u = some cs → ¬ ∃ v ∈ cs, v.names s)
    (hs : σ.heap s = some cs) (hs' : σ.heap s' = none) (hst : ¬ stay s) (hst' : ¬ stay s') :
    Weak n stay σ ⟨upd σ.env d (.e (.c (.sub s' k 0 len))), fun u => if u = s' then some cs else if u = s then none else σ.heap u⟩ := by
  intro C hn hstay a w ⟨γ, R⟩
  have hne : s ≠ s' := by rintro rfl; rw [hs] at hs'; cases hs'
  have hγ' : γ s' = none := R.mem.dom s' hs'
  let γ' : G := fun u => if u = s' then γ s else if u = s then none else γ u
  have g1 : γ' s' = γ s := by simp [γ']
  have g2 : γ' s = none := by simp [γ', hne]
  have g3 : ∀ u, u ≠ s' → u ≠ s → γ' u = γ u := fun u h1 h2 => by simp [γ', h1, h2]
  have keepN : ∀ u, u ≠ s → γ u ≠ none → γ' u = γ u := fun u h1 h2 => g3 u (by rintro rfl; exact h2 hγ') h1
  have inv : ∀ u b, γ' u = some b → ∃ t, γ t = some b ∧ (u = s' ∧ t = s ∨ u ≠ s' ∧ u ≠ s ∧ t = u) := by
    intro u b h
    by_cases h1 : u = s'
    · subst h1; exact ⟨s, by rw [← g1]; exact h, .inl ⟨rfl, rfl⟩⟩
    · by_cases h2 : u = s
      · subst h2; rw [g2] at h; cases h
      · exact ⟨u, by rw [← g3 u h1 h2]; exact h, .inr ⟨h1, h2, rfl⟩⟩
  have hca : Carry C.M γ γ' w w := by
    refine ⟨Nat.le_refl _, fun _ _ => rfl, fun b hb u hu => ?_, fun _ cells _ h => ⟨cells, h, rfl⟩⟩
    obtain ⟨t, ht, _⟩ := inv u _ hu
    exact hb.2.2 t ht
  refine ⟨γ', ⟨R.mem.low, fun u v b h1 h2 => ?_, fun u b h1 => ?_, fun u h => ?_, fun u cs0 h => ?_⟩, fun i => ?_, R.keep, fun u b h => ?_, fun u h => ?_, R.defers, R.size⟩
  · obtain ⟨t1, e1, c1⟩ := inv u _ h1
    obtain ⟨t2, e2, c2⟩ := inv v _ h2
    have := R.mem.inj t1 t2 b e1 e2
    omega
  · obtain ⟨t1, e1, _⟩ := inv u _ h1
    exact R.mem.nm t1 b e1
  · simp only at h
    split at h
    · cases h
    · split at h
      · rename_i e; rw [e]; exact g2
      · rename_i e1 e2; rw [g3 u e1 e2]; exact R.mem.dom u h
  · simp only at h
    have tr : ∀ t cs1, σ.heap t = some cs1 → γ' u = γ t → (∃ (b : Nat) (ty : TypeId) (vs spare : List Value), γ' u = some (some b) ∧ w.heap[b]? = some (.cells (vs ++ spare).toArray ty (0, 0)) ∧ CsRel w C.M γ' cs1 vs) ∨ (γ' u = some none ∧ cs1 = []) ∨ (∃ (b : Nat) (ents : Array MapEntry) (clk : Nat), γ' u = some (some b) ∧ w.heap[b]? = some (.map ents clk) ∧ cs1 = [.mapc (ents.toList.map fun e => (e.key, e.val))]) := by
      intro t cs1 ht hg
      rcases R.mem.blk t cs1 ht with ⟨b, ty, vs, sp, e1, e2, e3⟩ | ⟨e1, e2⟩ | ⟨b, en, clk, e1, e2, e3⟩
      · exact .inl ⟨b, ty, vs, sp, hg.trans e1, e2, e3.carry hca fun x hx => keepN x (by rintro rfl; exact hh t cs1 ht hx) (e3.named x hx)⟩
      · exact .inr (.inl ⟨hg.trans e1, e2⟩)
      · exact .inr (.inr ⟨b, en, clk, hg.trans e1, e2, e3⟩)
    split at h
    · rename_i e; subst e
      injection h with h; subst h
      exact tr s cs hs g1
    · split at h
      · cases h
      · rename_i e1 e2
        exact tr u cs0 h (g3 u e1 e2)
  · show TRel w C.M γ' (upd σ.env d _ i) _
    unfold upd
    split
    · rename_i e; subst e
      have h1 := R.env i
      rw [hd] at h1
      rcases h1 with ⟨b, cap, cells, t, h1, h2⟩ | ⟨h1, h2⟩ | ⟨b, o, h1, h2⟩
      · exact .inl ⟨b, cap, cells, t, g1.trans h1, h2⟩
      · exact .inr (.inl ⟨g1.trans h1, h2⟩)
      · exact .inr (.inr ⟨b, o, g1.trans h1, h2⟩)
    · rename_i e
      exact (R.env i).carry hca fun x hx => keepN x (by rintro rfl; exact he i e hx) ((R.env i).named x hx)
  · obtain ⟨t1, e1, _⟩ := inv u _ h
    exact R.own t1 b e1
  · rw [hstay] at h
    rw [g3 u (by rintro rfl; exact hst' h) (by rintro rfl; exact hst h)]
    exact R.stay u (by rw [hstay]; exact h)

end Go.Ab
end

section
namespace Go.Ab
open Go Go.RowKit

theorem srcV_congr {k : Nat} {H H' : Heap} {x : T} (h : ∀ s, x.names s → H' s = H s) : srcV k H' x = srcV k H x := by
  unfold srcV
  split <;> first | rfl | (rename_i s _ _ _ ; rw [h s rfl]) | skip

def odd (l : List Nat) : List Nat := l.map fun s => 2 * s + 1
def even (l : List Nat) : List Nat := l.map fun s => 2 * s
theorem mem_even {l : List Nat} {i : Nat} : 2 * i ∈ even l ↔ i ∈ l := by
  simp only [even, List.mem_map]
  constructor
  · rintro ⟨j, hj, h⟩
    have : j = i := by omega
    exact this ▸ hj
  · exact fun h => ⟨i, h, rfl⟩
theorem mem_odd {l : List Nat} {i : Nat} : 2 * i + 1 ∈ odd l ↔ i ∈ l := by
  simp only [odd, List.mem_map]
  constructor
  · rintro ⟨j, hj, h⟩
    have : j = i := by omega
    exact this ▸ hj
  · exact fun h => ⟨i, h, rfl⟩
theorem even_odd {l : List Nat} {i : Nat} : 2 * i ∉ odd l := by
  simp only [odd, List.mem_map]
  rintro ⟨j, hj, h⟩
  omega
theorem odd_even {l : List Nat} {i : Nat} : 2 * i + 1 ∉ even l := by
  simp only [even, List.mem_map]
  rintro ⟨j, hj, h⟩
  omega

/-- The state behind an append: the result under the label c, the label s gone, the temporaries ts unknown, the blocks us without it. -/
def appSt (σ : St) (d s c k len : Nat) (cs : List V) (ts us : List Nat) : St :=
  ⟨upd (fun i => if i ∈ ts then .any else σ.env i) d (.e (.c (.sub c k 0 len))), fun u => if u = c then some cs else if u = s then none else if u ∈ us then (σ.heap u).map (List.map (V.kill s)) else σ.heap u⟩

theorem SQ.append {P : Program} {n : Nat} {stay : Nat → Prop} {ops : Array Oper} {o : Oper} {σ : St} (hg : Taken ops o σ) (x y : Operand) (t : TypeId) (ho : o.op = .call { callee := .builtin .append, args := #[x, y], argTypes := #[t, t] })
    (d s k len : Nat) (hdst : o.dst = some d) (cs news : List V) (m : Nat) (hx : σ.ev x = .e (.c (.sub s k 0 len))) (hs : σ.heap s = some cs) (hcs : cs.length = len * k) (hy : srcV k σ.heap (σ.ev y) = some (news, m))
    (e : TypeId) (bytes : Nat) (zs : List V) (ht : tsl P t = some e) (hk : tsz P e = some k) (hb : tby P e = some bytes) (hz : tzv P e = some zs) (hzk : zs.length = k)
    (hcn : ∀ v ∈ cs, ¬ v.names s) (hnn : ∀ v ∈ news, ¬ v.names s) (hfit : (len + m) * bytes ≤ 140737488355328) (hmax : len + m ≤ 140737488355328) (hst : ¬ stay s) (hd : d < n)
    (c : Nat) (hc : σ.heap c = none) (hstc : ¬ stay c) (ts us yl : List Nat) (hyl : ∀ u, (σ.ev y).names u → u ∈ yl) :
    SQ P n stay ops o σ (appSt σ d s c k (len + m) (cs ++ news) ts us) ⟨lk ops o ++ odd yl, even (d :: ts) ++ odd (c :: s :: us), [s]⟩ where
  frame l hl := by
    simp only [List.mem_append, not_or] at hl
    unfold St.at appSt
    split
    · rename_i e0
      have e1 : l = 2 * (l / 2) := by omega
      rw [e1, mem_even, List.mem_cons, not_or] at hl
      simp only [upd]
      rw [if_neg hl.1.1, if_neg hl.1.2]
    · rename_i e0
      have e1 : l = 2 * (l / 2) + 1 := by omega
      rw [e1, mem_odd, List.mem_cons, List.mem_cons, not_or, not_or] at hl
      simp only
      rw [if_neg hl.2.1, if_neg hl.2.2.1, if_neg hl.2.2.2]
  go τ h1 h2 := by
    have hlk : ∀ t ∈ looks ops o, τ.env t = σ.env t := looks_of (f := ⟨lk ops o ++ odd yl, even (d :: ts) ++ odd (c :: s :: us), [s]⟩) (fun l h => List.mem_append.2 (.inl h)) h1
    have hev := evs_of hlk
    have hheap : ∀ u, u ∈ c :: s :: us → τ.heap u = σ.heap u := fun u hu => heap_of_at (h1 _ (.inr (List.mem_append.2 (.inr (mem_odd.2 hu)))))
    have hyh : ∀ u, u ∈ yl → τ.heap u = σ.heap u := fun u hu => heap_of_at (h1 _ (.inl (List.mem_append.2 (.inr (mem_odd.2 hu)))))
    have hx' : τ.ev x = .e (.c (.sub s k 0 len)) := by rw [hev x (by simp [ho, Op.operands, Call.operands]), hx]
    have hy' : srcV k τ.heap (τ.ev y) = some (news, m) := by
      rw [hev y (by simp [ho, Op.operands, Call.operands]), srcV_congr (H := σ.heap) (fun u hu => hyh u (hyl u hu)), hy]
    have hsc : s ≠ c := by rintro rfl; rw [hs] at hc; cases hc
    have st := StepOK.append (P := P) (stay := stay) (σ := τ) x y t ho d s k len hdst cs news m hx' (by rw [hheap s (by simp), hs]) hcs hy' e bytes zs ht hk hb hz hzk hcn hnn hfit hmax hst hd
    have hkE : ∀ i, i ∉ d :: ts → (τ.env i).kill s = τ.env i := fun i hi => T.kill_id fun hn => h2 s (by simp) (2 * i) (by simp only [List.mem_append, mem_even]; rintro (h | h); exact hi h; exact even_odd h) (by rw [at_env]; exact hn)
    have hkH : ∀ u, u ∉ c :: s :: us → (τ.heap u).map (List.map (V.kill s)) = τ.heap u := by
      intro u hu
      cases hv : τ.heap u with
      | none => rfl
      | some cs0 =>
        simp only [Option.map_some, Option.some.injEq]
        refine CsKill_id fun hn => h2 s (by simp) (2 * u + 1) (by simp only [List.mem_append, mem_odd]; rintro (h | h); exact odd_even h; exact hu h) ?_
        rw [at_heap, hv]
        exact hn
    refine .inl ⟨hg.congr hlk, st.weak ?_⟩
    refine Weak.trans (Weak.anys (e := upd (fun i => if i ∈ ts then .any else (τ.env i).kill s) d (.e (.c (.sub s k 0 (len + m))))) (fun i => ?_)) ?_
    · simp only [upd]
      split
      · exact .inl rfl
      · split
        · exact .inr rfl
        · exact .inl rfl
    · refine Weak.trans (Weak.relabel s c d k (len + m) (cs := cs ++ news) (by simp [upd]) (fun i hi => ?_) (fun u cs0 hu => ?_) (by simp [updH]) ?_ hst hstc) ?_
      · simp only [upd, hi, if_false]
        split
        · exact fun h => h
        · exact T.kill_names _ s
      · simp only [updH] at hu
        split at hu
        · injection hu with hu; subst hu
          rintro ⟨v, hv, hn⟩
          rcases List.mem_append.1 hv with h | h
          · exact hcn v h hn
          · exact hnn v h hn
        · rw [Option.map_eq_some_iff] at hu
          obtain ⟨cs1, _, rfl⟩ := hu
          rintro ⟨v, hv, hn⟩
          simp only [List.mem_map] at hv
          obtain ⟨v0, _, rfl⟩ := hv
          exact v0.kill_names s hn
      · simp only [updH, hsc.symm, if_false, hheap c (by simp), hc, Option.map_none]
      · have : over' τ (appSt σ d s c k (len + m) (cs ++ news) ts us) (even (d :: ts) ++ odd (c :: s :: us)) =
            ⟨upd (upd (fun i => if i ∈ ts then .any else (τ.env i).kill s) d (.e (.c (.sub s k 0 (len + m))))) d (.e (.c (.sub c k 0 (len + m)))),
             fun u => if u = c then some (cs ++ news) else if u = s then none else updH (fun u => (τ.heap u).map (List.map (V.kill s))) s (some (cs ++ news)) u⟩ := by
          simp only [over', St.mk.injEq]
          constructor
          · funext i
            simp only [List.mem_append, mem_even, even_odd, or_false, appSt, upd]
            by_cases hi : i = d
            · simp [hi]
            · by_cases hit : i ∈ ts
              · simp [hi, hit]
              · have := hkE i (by simp [hi, hit])
                simp [hi, hit, this]
          · funext u
            simp only [List.mem_append, mem_odd, odd_even, false_or, appSt, updH]
            by_cases h1 : u = c
            · simp [h1]
            · by_cases h2 : u = s
              · simp [h2, hsc]
              · by_cases h3 : u ∈ us
                · simp [h1, h2, h3, hheap u (by simp [h3])]
                · have := hkH u (by simp [h1, h2, h3])
                  simp [h1, h2, h3, this]
        rw [this]
        exact fun C hn hs a w R => R

end Go.Ab
end

section
namespace Go.Ab
open Go Go.RowKit

theorem RelAt.newBlock {C : Ctx} {γ : G} {σ : St} {a : Act} {w w' : World} (R : RelAt C γ σ a w) {o : Oper} {d b : Nat} {cs : List V} {r : T} {v : Value} {t : TypeId} {vs spare : List Value} (hd : dstOK C.nt o.dst) (hf : σ.heap d = none) (hsd : ¬ C.stay d)
    (hk : Keep nobody w w') (hb : w.heap.size ≤ b) (hw' : w'.heap[b]? = some (.cells (vs ++ spare).toArray t (0, 0))) (hcs : CsRel w C.M γ cs vs) (hr : TRel w' C.M (updG γ d (some b)) r v) :
    Rel C ⟨(σ.put o.dst r).env, updH σ.heap d (some cs)⟩ (a.put o.dst v) w' := by
  refine ⟨updG γ d (some b), ?_⟩
  have hγd : γ d = none := R.mem.dom d hf
  have hca : Carry C.M γ (updG γ d (some b)) w w' := by
    refine ⟨hk.size, fun x hx => hk.same x hx.1 (fun h => h), fun x hx s => ?_, hk.shape⟩
    unfold updG
    split
    · intro e; injection e with e; injection e with e; have := hx.1; omega
    · exact hx.2.2 s
  have hnm : ∀ s, γ s ≠ none → updG γ d (some b) s = γ s := by
    intro s hs
    unfold updG
    rw [if_neg (by rintro rfl; exact hs hγd)]
  refine ⟨⟨fun x hx => Nat.lt_of_lt_of_le (R.mem.low x hx) hk.size, ?_, ?_, ?_, ?_⟩, fun i => ?_, R.keep.trans hk (fun _ _ h => h) (fun _ _ h => h.elim), ?_, ?_, ?_, ?_⟩
  · intro s t' x h1 h2
    unfold updG at h1 h2
    split at h1 <;> split at h2
    · omega
    · injection h1 with h1; injection h1 with h1; have := R.mem.lt h2; omega
    · injection h2 with h2; injection h2 with h2; have := R.mem.lt h1; omega
    · exact R.mem.inj s t' x h1 h2
  · intro s x h1
    unfold updG at h1
    split at h1
    · injection h1 with h1; injection h1 with h1; intro hM; have := R.mem.low x hM; omega
    · exact R.mem.nm s x h1
  · intro s hs
    simp only [updH] at hs
    unfold updG
    split at hs
    · cases hs
    · rw [if_neg (by assumption)]; exact R.mem.dom s hs
  · intro s cs' hs
    simp only [updH] at hs
    split at hs
    · rename_i e; subst e
      injection hs with hs; subst hs
      exact .inl ⟨b, t, vs, spare, by simp [updG], hw', hcs.carry hca fun s hs => hnm s (hcs.named s hs)⟩
    · rename_i hne
      rcases R.mem.blk s cs' hs with ⟨b', t', vs', sp', hg, hb', hc⟩ | ⟨hg, hc⟩ | ⟨b', en, clk, hg, hb', hc⟩
      · exact .inl ⟨b', t', vs', sp', by rw [hnm s (by rw [hg]; simp)]; exact hg, (hk.same b' (lt_of_heap hb') (fun h => h)).trans hb', hc.carry hca fun s hs => hnm s (hc.named s hs)⟩
      · exact .inr (.inl ⟨by rw [hnm s (by rw [hg]; simp)]; exact hg, hc⟩)
      · exact .inr (.inr ⟨b', en, clk, by rw [hnm s (by rw [hg]; simp)]; exact hg, (hk.same b' (lt_of_heap hb') (fun h => h)).trans hb', hc⟩)
  · rw [getD_put _ _ _ _ (by rw [R.size]; exact hd)]
    show TRel _ _ _ ((σ.put o.dst r).env i) _
    rw [put_env]
    split
    · exact hr
    · exact (R.env i).carry hca fun s hs => hnm s ((R.env i).named s hs)
  · intro s x h1
    unfold updG at h1
    split at h1
    · injection h1 with h1; injection h1 with h1; have := R.keep.size; exact .inr (by omega)
    · exact R.own s x h1
  · intro s hs'
    have := R.stay s hs'
    unfold updG
    rw [if_neg (by rintro rfl; exact hsd hs')]
    exact this
  · rw [put_defers]; exact R.defers
  · rw [put_size]; exact R.size

theorem keep_drew_alloc (w : World) (o : Obj) : Keep nobody w (w.drew.alloc o) :=
  ⟨rfl, rfl, rfl, Nat.le_succ _, by have := (keep_alloc w.drew o).size; exact this, fun b hb h => (keep_alloc w.drew o).same b hb h, fun b cells t h => (keep_alloc w.drew o).shape b cells t h⟩

/-- An append to nil of at least one element. -/
theorem StepOK.appendNil {P : Program} {n : Nat} {stay : Nat → Prop} {o : Oper} {σ : St} (x y : Operand) (t : TypeId) (ho : o.op = .call { callee := .builtin .append, args := #[x, y], argTypes := #[t, t] })
    (k : Nat) (news : List V) (m : Nat) (hx : σ.ev x = .e (.c (.d (.sc (.slice none 0 0))))) (hy : srcV k σ.heap (σ.ev y) = some (news, m)) (hm0 : m ≠ 0)
    (e : TypeId) (bytes : Nat) (zs : List V) (ht : tsl P t = some e) (hk : tsz P e = some k) (hb : tby P e = some bytes) (hz : tzv P e = some zs) (hzk : zs.length = k)
    (hfit : m * bytes ≤ 140737488355328) (hmax : m ≤ 140737488355328) (c : Nat) (hc : σ.heap c = none) (hst : ¬ stay c) (hd : dstOK n o.dst) :
    StepOK P n stay o σ ⟨(σ.put o.dst (.e (.c (.sub c k 0 m)))).env, updH σ.heap c (some news)⟩ := by
  intro C hn hstay a w ⟨γ, R⟩ K Q hK
  have h1 := R.ev x
  rw [hx] at h1
  have hvx : a.eval x = .slice none 0 0 := sc_inv h1
  obtain ⟨B, cc, us, hvy, hcu, hul, hsrc⟩ := src_rel R.mem hy (R.ev y)
  have hmax' : m ≤ maxLen := by simp only [maxLen]; omega
  obtain ⟨v', w', hrun, hres⟩ := append_run (P := P) (w := w) o.type ht hk hb hz hzk (A := none) (len := 0) (cap := 0) (vs := []) (spare := []) (B := B) (m := m) (c := cc) (us := us)
    (.inr ⟨rfl, rfl⟩) (Nat.le_refl _) (Nat.zero_le _) (by simp) hul hsrc hcu.ones (by simpa using hfit) (by simpa using hmax')
  refine wp_value (v := v') (w' := w') (exec_append ho (by rw [hvx, hvy]; exact hrun)) ?_
  rcases hres with ⟨_, hle, _⟩ | ⟨cap', rest, rfl, h1, h2, h3, rfl⟩
  · omega
  · refine hK _ _ (R.newBlock (by rw [hn]; exact hd) hc (by rw [hstay]; exact hst) (keep_drew_alloc _ _) (Nat.le_refl _) (t := e) (vs := us) (spare := rest) ?_ hcu ?_)
    · have := heap_alloc_at w.drew (.cells (([] ++ us) ++ rest).toArray e)
      simpa using this
    · refine .inl ⟨w.heap.size, cap', ((([] : List Value) ++ us) ++ rest).toArray, e, by simp [updG], by simp, by simpa using h1, h2, heap_alloc_at w.drew _, by simpa using h3⟩

theorem srcV_any {k : Nat} {H : Heap} {x : T} {yl : List Nat} {τ : St} {σ : St} (hyl : ∀ u, x.names u → u ∈ yl) (h : ∀ u, u ∈ yl → τ.heap u = σ.heap u) (hH : H = σ.heap) : srcV k τ.heap x = srcV k H x := by
  subst hH
  exact srcV_congr fun u hu => h u (hyl u hu)

theorem SQ.appendNil {P : Program} {n : Nat} {stay : Nat → Prop} {ops : Array Oper} {o : Oper} {σ : St} (hg : Taken ops o σ) (x y : Operand) (t : TypeId) (ho : o.op = .call { callee := .builtin .append, args := #[x, y], argTypes := #[t, t] })
    (k : Nat) (news : List V) (m : Nat) (hx : σ.ev x = .e (.c (.d (.sc (.slice none 0 0))))) (hy : srcV k σ.heap (σ.ev y) = some (news, m)) (hm0 : m ≠ 0)
    (e : TypeId) (bytes : Nat) (zs : List V) (ht : tsl P t = some e) (hk : tsz P e = some k) (hb : tby P e = some bytes) (hz : tzv P e = some zs) (hzk : zs.length = k)
    (hfit : m * bytes ≤ 140737488355328) (hmax : m ≤ 140737488355328) (c : Nat) (hc : σ.heap c = none) (hst : ¬ stay c) (hd : dstOK n o.dst) (yl : List Nat) (hyl : ∀ u, (σ.ev y).names u → u ∈ yl) :
    SQ P n stay ops o σ ⟨(σ.put o.dst (.e (.c (.sub c k 0 m)))).env, updH σ.heap c (some news)⟩ ⟨lk ops o ++ odd yl, (2 * c + 1) :: dl o, []⟩ :=
  SQ.block c (some news) rfl (fun _ h => List.mem_append.2 (.inl h)) fun τ h1 hlk => by
    have hyh : ∀ u, u ∈ yl → τ.heap u = σ.heap u := fun u hu => heap_of_at (h1 _ (.inl (List.mem_append.2 (.inr (mem_odd.2 hu)))))
    have hev := evs_of hlk
    refine .inl ⟨hg.congr hlk, .appendNil x y t ho k news m ?_ ?_ hm0 e bytes zs ht hk hb hz hzk hfit hmax c (by rw [heap_of_at (h1 (2 * c + 1) (.inr (by simp))), hc]) hst hd⟩
    · rw [hev x (by simp [ho, Op.operands, Call.operands]), hx]
    · rw [hev y (by simp [ho, Op.operands, Call.operands]), srcV_any hyl hyh rfl, hy]

theorem SQ.copy {P : Program} {n : Nat} {stay : Nat → Prop} {ops : Array Oper} {o : Oper} {σ : St} (hg : Taken ops o σ) (x y : Operand) (t t' : TypeId) (ho : o.op = .call { callee := .builtin .copy, args := #[x, y], argTypes := #[t, t'] })
    (s k off len : Nat) (cs src : List V) (m : Nat) (hx : σ.ev x = .e (.c (.sub s k off len))) (hs : σ.heap s = some cs) (hcs : off + len * k ≤ cs.length) (hy : srcV k σ.heap (σ.ev y) = some (src, m))
    (e : TypeId) (ht : tsl P t = some e) (hk : tsz P e = some k) (hd : dstOK n o.dst) (yl : List Nat) (hyl : ∀ u, (σ.ev y).names u → u ∈ yl) :
    SQ P n stay ops o σ ⟨(σ.put o.dst (.e (.c (.d (.sc (.int .i64 (min m len : Nat))))))).env, updH σ.heap s (some (splice cs off (src.take (min m len * k))))⟩ ⟨lk ops o ++ odd yl, (2 * s + 1) :: dl o, []⟩ :=
  SQ.block s _ rfl (fun _ h => List.mem_append.2 (.inl h)) fun τ h1 hlk => by
    have hyh : ∀ u, u ∈ yl → τ.heap u = σ.heap u := fun u hu => heap_of_at (h1 _ (.inl (List.mem_append.2 (.inr (mem_odd.2 hu)))))
    have hev := evs_of hlk
    refine .inl ⟨hg.congr hlk, ?_⟩
    have := StepOK.copy (P := P) (n := n) (stay := stay) (σ := τ) x y t t' ho s k off len cs src m (by rw [hev x (by simp [ho, Op.operands, Call.operands]), hx]) (by rw [heap_of_at (h1 (2 * s + 1) (.inr (by simp))), hs]) hcs
      (by rw [hev y (by simp [ho, Op.operands, Call.operands]), srcV_any hyl hyh rfl, hy]) e ht hk hd
    exact this

end Go.Ab
end

section
namespace Go.Ab
open Go Go.RowKit

theorem DRel.stabs {w : World} {M M' : Nat → Prop} {γ γ' : G} {x : D} {v : Value} (h : DRel w (stab w M γ) x v) (hs : ∀ b, stab w M γ b → stab w M' γ' b) : DRel w (stab w M' γ') x v := h.mono hs fun _ _ => rfl

/-- The same value under other names of the blocks. -/
theorem VRel.shift {w : World} {M M' : Nat → Prop} {γ γ' : G} {x : V} {v : Value} (h : VRel w M γ x v) (hs : ∀ b, stab w M γ b → stab w M' γ' b) (hn : ∀ s, x.names s → γ' s = γ s) : VRel w M' γ' x v := by
  cases x with
  | d x => exact DRel.stabs h hs
  | ptr s off =>
    obtain ⟨b, hb, e⟩ := h
    exact ⟨b, (hn s rfl).trans hb, e⟩
  | sub s k off len =>
    rcases h with ⟨b, cap, cells, t, hb, h1⟩ | ⟨h1, h2⟩ | ⟨b, o, h1, h2⟩
    · exact .inl ⟨b, cap, cells, t, (hn s rfl).trans hb, h1⟩
    · exact .inr (.inl ⟨(hn s rfl).trans h1, h2⟩)
    · exact .inr (.inr ⟨b, o, (hn s rfl).trans h1, h2⟩)
  | pim ds =>
    obtain ⟨a, e, hsp, hst, hd⟩ := h
    refine ⟨a, e, hsp, hs _ hst, fun j x hj => ?_⟩
    obtain ⟨u, hu, hr⟩ := hd j x hj
    exact ⟨u, hu, DRel.stabs hr hs⟩
  | clo f caps =>
    obtain ⟨cs, e, hl, hc⟩ := h
    refine ⟨cs, e, hl, fun i p c hp hcc => ?_⟩
    obtain ⟨b, hb, e'⟩ := hc i p c hp hcc
    exact ⟨b, (hn p.1 ⟨p, List.mem_of_getElem? hp, rfl⟩).trans hb, e'⟩
  | mp s => obtain ⟨b, hb, e⟩ := h; exact ⟨b, (hn s rfl).trans hb, e⟩
  | mapc es => exact h.elim
  | any => exact h
theorem CsRel.shift {w : World} {M M' : Nat → Prop} {γ γ' : G} {xs : List V} {vs : List Value} (h : CsRel w M γ xs vs) (hs : ∀ b, stab w M γ b → stab w M' γ' b) (hn : ∀ s, (∃ x ∈ xs, x.names s) → γ' s = γ s) : CsRel w M' γ' xs vs :=
  ⟨h.1, fun i x u hx hu => (h.2 i x u hx hu).shift hs fun s h => hn s ⟨x, List.mem_of_getElem? hx, h⟩⟩
theorem ERel.shift {w : World} {M M' : Nat → Prop} {γ γ' : G} {x : E} {v : Value} (h : ERel w M γ x v) (hs : ∀ b, stab w M γ b → stab w M' γ' b) (hn : ∀ s, x.names s → γ' s = γ s) : ERel w M' γ' x v := by
  cases x with
  | c x => exact VRel.shift h hs hn
  | agg xs => obtain ⟨us, e, hc⟩ := h; exact ⟨us, e, hc.shift hs hn⟩
theorem TRel.shift {w : World} {M M' : Nat → Prop} {γ γ' : G} {x : T} {v : Value} (h : TRel w M γ x v) (hs : ∀ b, stab w M γ b → stab w M' γ' b) (hn : ∀ s, x.names s → γ' s = γ s) : TRel w M' γ' x v := by
  cases x with
  | e x => exact ERel.shift h hs hn
  | tup xs =>
    obtain ⟨us, e, hl, hc⟩ := h
    exact ⟨us, e, hl, fun i x u hx hu => (hc i x u hx hu).shift hs fun s h => hn s ⟨x, List.mem_of_getElem? hx, h⟩⟩
  | any => trivial

/-- A part of the own blocks. -/
def part (H : Heap) (R : List Nat) : Heap := fun u => if u ∈ R then H u else none

def killT (ms : List Nat) (x : T) : T := if ms.any (fun s => x.nmB s) then .any else x
def killV (ms : List Nat) (x : V) : V := if ms.any (fun s => x.nmB s) then .any else x
theorem killV_mapc (ms : List Nat) (es : List (Value × Value)) : killV ms (.mapc es) = .mapc es := by
  unfold killV
  rw [if_neg (by simp [V.nmB])]
theorem killT_names {ms : List Nat} {x : T} {s : Nat} (h : (killT ms x).names s) : s ∉ ms ∧ x.names s := by
  unfold killT at h
  split at h
  · exact h.elim
  · rename_i hn
    refine ⟨fun hs => hn ?_, h⟩
    rw [List.any_eq_true]
    exact ⟨s, hs, T.nmB_iff.2 h⟩
theorem killV_names {ms : List Nat} {x : V} {s : Nat} (h : (killV ms x).names s) : s ∉ ms ∧ x.names s := by
  unfold killV at h
  split at h
  · exact h.elim
  · rename_i hn
    refine ⟨fun hs => hn ?_, h⟩
    rw [List.any_eq_true]
    exact ⟨s, hs, V.nmB_iff.2 h⟩
theorem killT_rel {w : World} {M : Nat → Prop} {γ : G} {ms : List Nat} {x : T} {v : Value} (h : TRel w M γ x v) : TRel w M γ (killT ms x) v := by
  unfold killT; split
  · trivial
  · exact h
theorem killV_rel {w : World} {M : Nat → Prop} {γ : G} {ms : List Nat} {x : V} {v : Value} (h : VRel w M γ x v) : VRel w M γ (killV ms x) v := by
  unfold killV; split
  · exact h.one
  · exact h
theorem killCs_rel {w : World} {M : Nat → Prop} {γ : G} {ms : List Nat} {xs : List V} {vs : List Value} (h : CsRel w M γ xs vs) : CsRel w M γ (xs.map (killV ms)) vs := by
  refine ⟨by simp [h.1], fun i x u hx hu => ?_⟩
  simp only [List.getElem?_map, Option.map_eq_some_iff] at hx
  obtain ⟨y, hy, rfl⟩ := hx
  exact killV_rel (h.2 i y u hy hu)

/-- The state behind a call that took the blocks R with it, made the blocks N and moved the blocks ms. -/
def callSt (σ : St) (d : Option Nat) (r : T) (R N ms : List Nat) (H' : Heap) : St :=
  ⟨((⟨fun i => killT ms (σ.env i), σ.heap⟩ : St).put d r).env, fun u => if u ∈ R ∨ u ∈ N then H' u else (σ.heap u).map (List.map (killV ms))⟩

structure Passes (P : Program) (f : FuncId) (H : Heap) (R N ms : List Nat) (args : List E) (H' : Heap) (r : T) : Prop where
  sat : Sat P f (part H R) args H' (fun u => u ∈ R ∧ u ∉ ms) r
  args : ∀ x ∈ args, ∀ s, x.names s → s ∈ R
  closed : ∀ u ∈ R, ∀ cs, H u = some cs → ∀ x ∈ cs, ∀ s, x.names s → s ∈ R
  dom : ∀ u, H' u ≠ none → u ∈ R ∨ u ∈ N
  fresh : ∀ u ∈ N, H u = none

theorem StepOK.callO {P : Program} {n : Nat} {stay : Nat → Prop} {o : Oper} {σ : St} {f : FuncId} {R N ms : List Nat} {args : List E} {H' : Heap} {r : T} (h : Passes P f σ.heap R N ms args H' r) (hms : ∀ u ∈ ms, ¬ stay u) (hN : ∀ u ∈ N, ¬ stay u) (hd : dstOK n o.dst)
    (hcall : ∀ (C : Ctx) (γ : G) (a : Act) (w : World), RelAt C γ σ a w → ∃ vals : List Value, (execOp a.eval o).run P w = .ok (.enter f vals.toArray) w ∧ EsRel w C.M γ args vals) :
    StepOK P n stay o σ (callSt σ o.dst r R N ms H') := by
  intro C hn hst a w ⟨γ, Rl⟩ K Q hK
  obtain ⟨vals, hrun, hvals⟩ := hcall C γ a w Rl
  obtain ⟨_, hsat⟩ := h.sat
  let γ1 : G := fun u => if u ∈ R then γ u else none
  let M1 : Nat → Prop := fun b => C.M b ∨ ∃ u, u ∉ R ∧ γ u = some (some b)
  have g1 : ∀ u, u ∈ R → γ1 u = γ u := fun u hu => by simp [γ1, hu]
  have g1' : ∀ u b, γ1 u = some b → u ∈ R ∧ γ u = some b := by
    intro u b hu
    by_cases hR : u ∈ R
    · exact ⟨hR, by rw [← g1 u hR]; exact hu⟩
    · simp [γ1, hR] at hu
  have st1 : ∀ b, stab w C.M γ b → stab w M1 γ1 b := by
    rintro b ⟨h1, h2, h3⟩
    refine ⟨h1, ?_, fun s hs => h3 s (g1' s _ hs).2⟩
    rintro (hb | ⟨u, _, hb⟩)
    · exact h2 hb
    · exact h3 u hb
  have mem1 : Mem M1 γ1 (part σ.heap R) w := by
    refine ⟨?_, fun s t b e1 e2 => Rl.mem.inj s t b (g1' s _ e1).2 (g1' t _ e2).2, ?_, ?_, ?_⟩
    · rintro b (hb | ⟨u, _, hb⟩)
      · exact Rl.mem.low b hb
      · exact Rl.mem.lt hb
    · rintro s b e1 (hb | ⟨u, hu, hb⟩)
      · exact Rl.mem.nm s b (g1' s _ e1).2 hb
      · have := Rl.mem.inj s u b (g1' s _ e1).2 hb
        subst this
        exact hu (g1' s _ e1).1
    · intro u hu
      by_cases hR : u ∈ R
      · rw [g1 u hR]
        exact Rl.mem.dom u (by simpa [part, hR] using hu)
      · simp [γ1, hR]
    · intro u cs hu
      by_cases hR : u ∈ R
      · have hu' : σ.heap u = some cs := by simpa [part, hR] using hu
        rcases Rl.mem.blk u cs hu' with ⟨b, t, vs, sp, e1, e2, e3⟩ | ⟨e1, e2⟩ | ⟨b, en, clk, e1, e2, e3⟩
        · exact .inl ⟨b, t, vs, sp, (g1 u hR).trans e1, e2, e3.shift st1 fun s ⟨x, hx, hs⟩ => g1 s (h.closed u hR cs hu' x hx s hs)⟩
        · exact .inr (.inl ⟨(g1 u hR).trans e1, e2⟩)
        · exact .inr (.inr ⟨b, en, clk, (g1 u hR).trans e1, e2, e3⟩)
      · simp [part, hR] at hu
  have vals1 : EsRel w M1 γ1 args vals := ⟨hvals.1, fun i x u hx hu => (hvals.2 i x u hx hu).shift st1 fun s hs => g1 s (h.args x (List.mem_of_getElem? hx) s hs)⟩
  unfold Oper.wp
  rw [hrun]
  refine (hsat M1 γ1 w vals mem1 vals1).mono fun e w' he => ?_
  obtain ⟨v, γ2, rfl, mem2, rel2, keep2, own2, stay2⟩ := he
  let γ' : G := fun u => if u ∈ R ∨ u ∈ N then γ2 u else γ u
  have a1 : ∀ u, (u ∈ R ∨ u ∈ N) → γ' u = γ2 u := fun u hu => by simp only [γ', if_pos hu]
  have a2 : ∀ u, ¬ (u ∈ R ∨ u ∈ N) → γ' u = γ u := fun u hu => by simp only [γ', if_neg hu]
  have dom2 : ∀ u, γ2 u ≠ none → u ∈ R ∨ u ∈ N := fun u hu => h.dom u fun hH => hu (mem2.dom u hH)
  have notM : ∀ u b, ¬ (u ∈ R ∨ u ∈ N) → γ u = some (some b) → M1 b := fun u b hu hb => .inr ⟨u, fun hR => hu (.inl hR), hb⟩
  have nN : ∀ u ∈ N, γ u = none := fun u hu => Rl.mem.dom u (h.fresh u hu)
  have same : ∀ b, b < w.heap.size → (∀ s, γ1 s ≠ some (some b)) → w'.heap[b]? = w.heap[b]? := fun b hb hs => keep2.same b hb fun ⟨s, e⟩ => hs s e
  have st2 : ∀ b, stab w' M1 γ2 b → stab w' C.M γ' b := by
    rintro b ⟨h1, h2, h3⟩
    refine ⟨h1, fun hb => h2 (.inl hb), fun s hs => ?_⟩
    by_cases hsR : s ∈ R ∨ s ∈ N
    · exact h3 s (by rw [← a1 s hsR]; exact hs)
    · exact h2 (notM s b hsR (by rw [← a2 s hsR]; exact hs))
  have carry : Carry C.M γ γ' w w' := by
    refine ⟨keep2.size, fun b hb => same b hb.1 fun s hs => hb.2.2 s (g1' s _ hs).2, fun b hb s hs => ?_, keep2.shape⟩
    by_cases hsR : s ∈ R ∨ s ∈ N
    · rw [a1 s hsR] at hs
      rcases own2 s b hs with ⟨t, ht⟩ | hge
      · exact hb.2.2 t (g1' t _ ht).2
      · have := hb.1; omega
    · rw [a2 s hsR] at hs
      exact hb.2.2 s hs
  have named : ∀ s, s ∉ ms → γ s ≠ none → γ' s = γ s := by
    intro s hs hne
    by_cases hR : s ∈ R
    · rw [a1 s (.inl hR), stay2 s ⟨hR, hs⟩, g1 s hR]
    · by_cases hNs : s ∈ N
      · exact absurd (nN s hNs) hne
      · exact a2 s (by rintro (h | h); exact hR h; exact hNs h)
  refine hK _ _ ⟨γ', ⟨fun b hb => Nat.lt_of_lt_of_le (Rl.mem.low b hb) keep2.size, ?_, ?_, ?_, ?_⟩, fun i => ?_, ?_, ?_, ?_, by rw [put_defers]; exact Rl.defers, by rw [put_size]; exact Rl.size⟩
  · intro s t b e1 e2
    by_cases hs : s ∈ R ∨ s ∈ N <;> by_cases ht : t ∈ R ∨ t ∈ N
    · rw [a1 s hs] at e1; rw [a1 t ht] at e2; exact mem2.inj s t b e1 e2
    · rw [a1 s hs] at e1; rw [a2 t ht] at e2; exact absurd (notM t b ht e2) (mem2.nm s b e1)
    · rw [a2 s hs] at e1; rw [a1 t ht] at e2; exact absurd (notM s b hs e1) (mem2.nm t b e2)
    · rw [a2 s hs] at e1; rw [a2 t ht] at e2; exact Rl.mem.inj s t b e1 e2
  · intro s b e1 hb
    by_cases hs : s ∈ R ∨ s ∈ N
    · rw [a1 s hs] at e1; exact mem2.nm s b e1 (.inl hb)
    · rw [a2 s hs] at e1; exact Rl.mem.nm s b e1 hb
  · intro u hu
    simp only [callSt] at hu
    by_cases hs : u ∈ R ∨ u ∈ N
    · rw [if_pos hs] at hu; rw [a1 u hs]; exact mem2.dom u hu
    · rw [if_neg hs] at hu; rw [a2 u hs]; exact Rl.mem.dom u (by simpa using hu)
  · intro u cs hu
    simp only [callSt] at hu
    by_cases hs : u ∈ R ∨ u ∈ N
    · rw [if_pos hs] at hu
      rcases mem2.blk u cs hu with ⟨b, t, vs, sp, e1, e2, e3⟩ | ⟨e1, e2⟩ | ⟨b, en, clk, e1, e2, e3⟩
      · exact .inl ⟨b, t, vs, sp, (a1 u hs).trans e1, e2, e3.shift st2 fun x hx => a1 x (dom2 x (e3.named x hx))⟩
      · exact .inr (.inl ⟨(a1 u hs).trans e1, e2⟩)
      · exact .inr (.inr ⟨b, en, clk, (a1 u hs).trans e1, e2, e3⟩)
    · rw [if_neg hs, Option.map_eq_some_iff] at hu
      obtain ⟨cs0, hu, rfl⟩ := hu
      rcases Rl.mem.blk u cs0 hu with ⟨b, t, vs, sp, e1, e2, e3⟩ | ⟨e1, e2⟩ | ⟨b, en, clk, e1, e2, e3⟩
      rotate_left 2
      · refine .inr (.inr ⟨b, en, clk, (a2 u hs).trans e1, ?_, by rw [e3]; exact congrArg (· :: []) (killV_mapc ms _)⟩)
        rw [same b (lt_of_heap e2) fun s hs' => ?_]
        · exact e2
        · have := Rl.mem.inj s u b (g1' s _ hs').2 e1
          subst this
          exact hs (.inl (g1' s _ hs').1)
      · refine .inl ⟨b, t, vs, sp, (a2 u hs).trans e1, ?_, (killCs_rel (ms := ms) e3).carry carry fun x hx => ?_⟩
        · rw [same b (lt_of_heap e2) fun s hs' => ?_]
          · exact e2
          · have := Rl.mem.inj s u b (g1' s _ hs').2 e1
            subst this
            exact hs (.inl (g1' s _ hs').1)
        · obtain ⟨y, hy, hx⟩ := hx
          rw [List.mem_map] at hy
          obtain ⟨y0, hy0, rfl⟩ := hy
          have := killV_names hx
          exact named x this.1 (e3.named x ⟨y0, hy0, this.2⟩)
      · exact .inr (.inl ⟨(a2 u hs).trans e1, by rw [e2]; rfl⟩)
  · rw [getD_put _ _ _ _ (by rw [Rl.size, hn]; exact hd)]
    show TRel _ _ _ ((St.put _ o.dst r).env i) _
    rw [put_env]
    split
    · exact rel2.shift st2 fun x hx => a1 x (dom2 x (rel2.named x hx))
    · refine (killT_rel (ms := ms) (Rl.env i)).carry carry fun x hx => ?_
      have := killT_names hx
      exact named x this.1 ((Rl.env i).named x this.2)
  · refine Rl.keep.trans keep2 (fun _ _ h => h) fun x hx ⟨s, hs⟩ => ?_
    rcases Rl.own s x (g1' s _ hs).2 with h | h
    · exact h
    · omega
  · intro s b hs
    by_cases hsR : s ∈ R ∨ s ∈ N
    · rw [a1 s hsR] at hs
      rcases own2 s b hs with ⟨t, ht⟩ | hge
      · exact Rl.own t b (g1' t _ ht).2
      · have := Rl.keep.size; exact .inr (by omega)
    · rw [a2 s hsR] at hs; exact Rl.own s b hs
  · intro s hs
    rw [hst] at hs
    have h0 := Rl.stay s (by rw [hst]; exact hs)
    by_cases hR : s ∈ R
    · rw [a1 s (.inl hR), stay2 s ⟨hR, fun hm => hms s hm hs⟩, g1 s hR]; exact h0
    · by_cases hNs : s ∈ N
      · exact absurd hs (hN s hNs)
      · rw [a2 s (by rintro (h | h); exact hR h; exact hNs h)]; exact h0

end Go.Ab
end

section
namespace Go.Ab
open Go Go.RowKit

/-- The operation enters the function f with these arguments. -/
def Enters (P : Program) (o : Oper) (ev : Operand → T) (f : FuncId) (args : List E) : Prop :=
  ∀ (M : Nat → Prop) (γ : G) (w : World) (a : Act), (∀ x ∈ o.op.operands.toList, TRel w M γ (ev x) (a.eval x)) →
    ∃ vals : List Value, (execOp a.eval o).run P w = .ok (.enter f vals.toArray) w ∧ EsRel w M γ args vals

theorem Enters.congr {P : Program} {o : Oper} {ev ev' : Operand → T} {f : FuncId} {args : List E} (h : Enters P o ev f args) (he : ∀ x ∈ o.op.operands.toList, ev' x = ev x) : Enters P o ev' f args :=
  fun M γ w a hx => h M γ w a fun x hx' => by rw [← he x hx']; exact hx x hx'

theorem args_rel' {w : World} {M : Nat → Prop} {γ : G} {ev : Operand → T} {a : Act} {args : List E} (xs : List Operand) (h : ∀ x ∈ xs, TRel w M γ (ev x) (a.eval x)) (he : xs.map ev = args.map .e) :
    EsRel w M γ args (xs.map a.eval) := by
  have hl : xs.length = args.length := by have := congrArg List.length he; simpa using this
  refine ⟨by simp [hl], fun i x u hx hu => ?_⟩
  simp only [List.getElem?_map] at hu
  cases hi : xs[i]? with
  | none => simp [hi] at hu
  | some y =>
    simp [hi] at hu
    subst hu
    have h1 := h y (List.mem_of_getElem? hi)
    have h2 := congrArg (fun l => l[i]?) he
    simp only [List.getElem?_map, hi, hx, Option.map_some, Option.some.injEq] at h2
    rw [h2] at h1
    exact h1

theorem enters_func {P : Program} {o : Oper} {ev : Operand → T} (f : FuncId) (xs : Array Operand) (ts : Array TypeId) (ho : o.op = .call { callee := .value (.func f), args := xs, argTypes := ts }) (hent : Ent P f)
    (args : List E) (he : xs.toList.map ev = args.map .e) : Enters P o ev f args := by
  intro M γ w a h
  refine ⟨xs.toList.map a.eval, ?_, args_rel' xs.toList (fun x hx => h x (by rw [ho]; simp only [Op.operands, Call.operands]; simp at hx ⊢; exact .inr hx)) he⟩
  simp only [execOp, ho, resolve, Act.eval, Deferred.ofValue, Sem.run_bind, Sem.run_pure, Result.andThen_ok, invoke]
  rw [hent]
  congr 2
  apply Array.ext'
  simp

theorem enters_clo {P : Program} {o : Oper} {ev : Operand → T} (f : FuncId) (x : Operand) (xs : Array Operand) (ts : Array TypeId) (ho : o.op = .call { callee := .value x, args := xs, argTypes := ts }) (hent : Ent P f)
    (caps : List (Nat × Nat)) (hx : ev x = .e (.c (.clo f caps))) (args : List E) (he : xs.toList.map ev = args.map .e) : Enters P o ev f (args ++ caps.map fun p => .c (.ptr p.1 p.2)) := by
  intro M γ w a h
  have hxs := args_rel' (a := a) xs.toList (fun x hx => h x (by rw [ho]; simp only [Op.operands, Call.operands]; simp at hx ⊢; exact .inr hx)) he
  have h1 := h x (by rw [ho]; simp [Op.operands, Call.operands])
  rw [hx] at h1
  obtain ⟨cs, hv, hl, hc⟩ := h1
  refine ⟨xs.toList.map a.eval ++ cs, ?_, ?_, ?_⟩
  · simp only [execOp, ho, resolve, hv, Deferred.ofValue, Sem.run_bind, Sem.run_pure, Result.andThen_ok, invoke]
    rw [hent]
    congr 2
    apply Array.ext'
    simp
  · simp [hxs.1, hl]
  · intro i y u hy hu
    have hlen := hxs.1
    rw [List.getElem?_append] at hy hu
    rw [← hlen] at hu
    split at hy
    · rename_i hi
      rw [if_pos hi] at hu
      exact hxs.2 i y u hy hu
    · rename_i hi
      rw [if_neg hi] at hu
      rw [List.getElem?_map, Option.map_eq_some_iff] at hy
      obtain ⟨p, hp, rfl⟩ := hy
      exact hc _ p u hp hu

theorem killT_id {ms : List Nat} {x : T} (h : ∀ s ∈ ms, ¬ x.names s) : killT ms x = x := by
  unfold killT
  rw [if_neg]
  intro h'
  rw [List.any_eq_true] at h'
  obtain ⟨s, hs, hn⟩ := h'
  exact h s hs (T.nmB_iff.1 hn)
theorem killV_id {ms : List Nat} {x : V} (h : ∀ s ∈ ms, ¬ x.names s) : killV ms x = x := by
  unfold killV
  rw [if_neg]
  intro h'
  rw [List.any_eq_true] at h'
  obtain ⟨s, hs, hn⟩ := h'
  exact h s hs (V.nmB_iff.1 hn)

theorem SQ.callO {P : Program} {n : Nat} {stay : Nat → Prop} {ops : Array Oper} {o : Oper} {σ : St} {f : FuncId} {R N ms W ts us : List Nat} {args : List E} {H' : Heap} {r : T} (hg : Taken ops o σ) (h : Passes P f σ.heap R N ms args H' r)
    (hms : ∀ u ∈ ms, ¬ stay u) (hN : ∀ u ∈ N, ¬ stay u) (hd : dstOK n o.dst) (hen : Enters P o σ.ev f args) (hW : ∀ u ∈ R, u ∉ W → H' u = σ.heap u)
    (hfe : ∀ i, o.dst ≠ some i → i ∉ ts → ∀ s ∈ ms, ¬ (σ.env i).names s) (hfh : ∀ u, u ∉ R → u ∉ N → u ∉ us → ∀ s ∈ ms, ∀ cs, σ.heap u = some cs → ¬ ∃ v ∈ cs, v.names s) :
    SQ P n stay ops o σ (callSt σ o.dst r R N ms H') ⟨lk ops o ++ odd R, dl o ++ even ts ++ odd (W ++ N ++ us), ms⟩ where
  frame l hl := by
    simp only [List.mem_append, not_or] at hl
    unfold St.at
    split
    · rename_i e0
      have e1 : l = 2 * (l / 2) := by omega
      rw [e1, mem_dl, mem_even] at hl
      simp only [callSt, put_env, if_neg hl.1.1]
      rw [killT_id (hfe _ hl.1.1 hl.1.2)]
    · rename_i e0
      have e1 : l = 2 * (l / 2) + 1 := by omega
      have hl2 := hl.2
      rw [e1, mem_odd, List.mem_append, List.mem_append, not_or, not_or] at hl2
      simp only [callSt]
      by_cases hR : l / 2 ∈ R
      · rw [if_pos (.inl hR), hW _ hR hl2.1.1]
      · rw [if_neg (by rintro (h | h); exact hR h; exact hl2.1.2 h)]
        cases hv : σ.heap (l / 2) with
        | none => rfl
        | some cs =>
          have : cs.map (killV ms) = cs := by
            have hk : ∀ v ∈ cs, killV ms v = v := fun v hv' => killV_id fun s hs hn => hfh _ hR hl2.1.2 hl2.2 s hs cs hv ⟨v, hv', hn⟩
            exact (List.map_congr_left hk).trans (List.map_id' cs)
          simp [this]
  go τ h1 h2 := by
    have hlk : ∀ t ∈ looks ops o, τ.env t = σ.env t := looks_of (f := ⟨lk ops o ++ odd R, dl o ++ even ts ++ odd (W ++ N ++ us), ms⟩) (fun l h => List.mem_append.2 (.inl h)) h1
    have hev := evs_of hlk
    have hR : ∀ u ∈ R, τ.heap u = σ.heap u := fun u hu => heap_of_at (h1 _ (.inl (List.mem_append.2 (.inr (mem_odd.2 hu)))))
    have hWh : ∀ u, u ∈ W ++ N ++ us → τ.heap u = σ.heap u := fun u hu => heap_of_at (h1 _ (.inr (List.mem_append.2 (.inr (mem_odd.2 hu)))))
    have hp : Passes P f τ.heap R N ms args H' r := by
      have e : part τ.heap R = part σ.heap R := by
        funext u
        simp only [part]
        split
        · rename_i hu; exact hR u hu
        · rfl
      exact ⟨by rw [e]; exact h.sat, h.args, fun u hu cs hcs => h.closed u hu cs (by rw [← hR u hu]; exact hcs), h.dom, fun u hu => by rw [hWh u (by simp [hu])]; exact h.fresh u hu⟩
    have st := StepOK.callO (n := n) (stay := stay) (o := o) hp hms hN hd (fun C γ a w Rl => (hen.congr hev) C.M γ w a fun x _ => Rl.ev x)
    refine .inl ⟨hg.congr hlk, ?_⟩
    have : over' τ (callSt σ o.dst r R N ms H') (dl o ++ even ts ++ odd (W ++ N ++ us)) = callSt τ o.dst r R N ms H' := by
      simp only [over', callSt, St.mk.injEq]
      constructor
      · funext i
        simp only [List.mem_append, mem_dl, mem_even, even_odd, or_false, put_env]
        by_cases hi : o.dst = some i
        · simp [hi]
        · by_cases hit : i ∈ ts
          · have : τ.env i = σ.env i := env_of_at (h1 _ (.inr (List.mem_append.2 (.inl (List.mem_append.2 (.inr (mem_even.2 hit)))))))
            simp [hi, hit, this]
          · simp only [hi, hit, or_self, if_false]
            refine (killT_id fun s hs hn => h2 s hs (2 * i) ?_ (by rw [at_env]; exact hn)).symm
            simp only [List.mem_append, mem_dl, mem_even]
            rintro ((h | h) | h)
            · exact hi h
            · exact hit h
            · exact even_odd h
      · funext u
        simp only [List.mem_append, not_mem_dl, odd_even, mem_odd, false_or]
        by_cases hRN : u ∈ R ∨ u ∈ N
        · rw [if_pos hRN, if_pos hRN]
          split
          · rfl
          · rename_i hn
            rcases hRN with hu | hu
            · rw [hR u hu, hW u hu (fun h => hn (.inl (.inl h)))]
            · exact absurd (.inl (.inr hu)) hn
        · rw [if_neg hRN, if_neg hRN]
          split
          · rename_i hm
            rw [hWh u (by simpa only [List.mem_append] using hm)]
          · rename_i hm
            cases hv : τ.heap u with
            | none => rfl
            | some cs =>
              have : cs.map (killV ms) = cs := by
                have hk : ∀ v ∈ cs, killV ms v = v := fun v hv' => killV_id fun s hs hn => h2 s hs (2 * u + 1) (by
                  simp only [List.mem_append, not_mem_dl, odd_even, mem_odd, false_or]
                  exact hm) (by rw [at_heap, hv]; exact ⟨v, hv', hn⟩)
                exact (List.map_congr_left hk).trans (List.map_id' cs)
              simp [this]
    rw [this]
    exact st

end Go.Ab
end

section
namespace Go.Ab
open Go Go.RowKit

/-- The form of a key. -/
inductive KF where
  | int (k : IntKind)
  | str
  | arr (n : Nat) (k : IntKind)
  deriving DecidableEq

def kfT (P : Program) (t : TypeId) : Option KF :=
  match P.underlying t with
  | some (.int k) => some (.int k)
  | some .string => some .str
  | some (.array n e) => (match P.underlying e, tsz P e with | some (.int k), some 1 => some (.arr n k) | _, _ => none)
  | _ => none

def intK (k : IntKind) : Value → Bool
  | .int k' _ => decide (k' = k)
  | _ => false
def keyOK : KF → Value → Bool
  | .int k, v => intK k v
  | .str, .string _ => true
  | .arr n k, .agg xs => Nat.beq xs.size n && xs.toList.all (intK k)
  | _, _ => false

def sameI1 : Value → Value → Bool
  | .int _ a, .int _ b => a == b
  | _, _ => false
def sameIs : List Value → List Value → Bool
  | [], [] => true
  | a :: r, b :: s => sameI1 a b && sameIs r s
  | _, _ => false
def sameKey : Value → Value → Bool
  | .int _ a, .int _ b => a == b
  | .string a, .string b => a.data.toList == b.data.toList
  | .agg xs, .agg ys => sameIs xs.toList ys.toList
  | _, _ => false

theorem run_equalIn_i {P : Program} {e : TypeId} {k : IntKind} (he : P.underlying e = some (.int k)) (w : World) (d : Nat) {x y : Value} (hx : intK k x = true) (hy : intK k y = true) :
    (Op.equalIn (d + 1) e x y).run P w = .ok (sameI1 x y) w := by
  cases x <;> simp only [intK, Bool.false_eq_true, decide_eq_true_eq] at hx
  cases y <;> simp only [intK, Bool.false_eq_true, decide_eq_true_eq] at hy
  subst hx; subst hy
  simp [Op.equalIn, run_underlying he, sameI1]

theorem run_eqLoop {P : Program} {e : TypeId} {k : IntKind} (he : P.underlying e = some (.int k)) (w : World) (d : Nat) (xs ys : List Value) :
    ∀ (n s : Nat), s + n = xs.length → xs.length = ys.length → (xs.drop s).all (intK k) = true → (ys.drop s).all (intK k) = true →
      (forIn (m := Sem) (List.range' s n) ((none, ()) : Option Bool × Unit) fun i _ => do
          let a ← Go.part e xs.toArray (i * 1)
          let b ← Go.part e ys.toArray (i * 1)
          let q ← Op.equalIn (d + 1) e a b
          if (!q) = true then pure (ForInStep.done (some false, ())) else pure (ForInStep.yield (none, ()))).run P w
        = .ok (if sameIs (xs.drop s) (ys.drop s) then (none, ()) else (some false, ())) w := by
  intro n
  induction n with
  | zero =>
    intro s hs hl _ _
    rw [List.drop_of_length_le (by omega), List.drop_of_length_le (by omega)]
    simp [sameIs]
  | succ n ih =>
    intro s hs hl h1 h2
    obtain ⟨x, hx⟩ : ∃ x, xs[s]? = some x := ⟨xs[s]'(by omega), by simp⟩
    obtain ⟨y, hy⟩ : ∃ y, ys[s]? = some y := ⟨ys[s]'(by omega), by simp⟩
    have ex : xs.drop s = x :: xs.drop (s + 1) := by
      rw [List.drop_eq_getElem_cons (by omega)]; congr 1; rw [List.getElem?_eq_some_iff] at hx; exact hx.2
    have ey : ys.drop s = y :: ys.drop (s + 1) := by
      rw [List.drop_eq_getElem_cons (by omega)]; congr 1; rw [List.getElem?_eq_some_iff] at hy; exact hy.2
    rw [ex] at h1 ⊢
    rw [ey] at h2 ⊢
    simp only [List.all_cons, Bool.and_eq_true] at h1 h2
    have p1 : (Go.part e xs.toArray (s * 1)).run P w = .ok x w := by simp [Go.part, isAgg, run_underlying he, hx]
    have p2 : (Go.part e ys.toArray (s * 1)).run P w = .ok y w := by simp [Go.part, isAgg, run_underlying he, hy]
    have p3 := run_equalIn_i (P := P) he w d h1.1 h2.1
    simp only [List.range'_succ, List.forIn_cons, Sem.run_bind, p1, p2, p3, Result.andThen_ok]
    cases hq : sameI1 x y with
    | true =>
      simp only [Bool.not_true, Bool.false_eq_true, if_false, Sem.run_pure, Result.andThen_ok, sameIs, hq, Bool.true_and]
      exact ih (s + 1) (by omega) hl h1.2 h2.2
    | false => simp [sameIs, hq]

theorem run_equal_arr {P : Program} {t : TypeId} {n : Nat} {k : IntKind} (ht : kfT P t = some (.arr n k)) (w : World) {x y : Value} (hx : keyOK (.arr n k) x = true) (hy : keyOK (.arr n k) y = true) :
    (Op.equal t x y).run P w = .ok (sameKey x y) w := by
  unfold kfT at ht
  split at ht
  · cases ht
  · cases ht
  · rename_i n' e hu
    split at ht
    · rename_i k' he hs
      injection ht with ht; injection ht with h1 h2
      subst h1; subst h2
      cases x <;> simp only [keyOK, Bool.false_eq_true] at hx
      rename_i xs
      cases y <;> simp only [keyOK, Bool.false_eq_true] at hy
      rename_i ys
      simp only [Bool.and_eq_true] at hx hy
      have hx1 := Nat.eq_of_beq_eq_true hx.1
      have hy1 := Nat.eq_of_beq_eq_true hy.1
      have key : ∀ d, (Op.equalIn (d + 1 + 1) t (.agg xs) (.agg ys)).run P w = .ok (sameKey (.agg xs) (.agg ys)) w := by
        intro d
        have hl := run_eqLoop (P := P) he w d xs.toList ys.toList xs.size 0 (by simp) (by simp; omega) (by simpa using hx.2) (by simpa using hy.2)
        simp only [List.drop_zero] at hl
        rw [Op.equalIn]
        simp only [Sem.run_bind, run_underlying hu, Result.andThen_ok, tsz_some hs, sameKey]
        rw [Std.Legacy.Range.forIn_eq_forIn_range']
        simp only [Std.Legacy.Range.size, Nat.sub_zero, Nat.add_sub_cancel, Nat.div_one, ← hx1]
        rw [hl]
        cases sameIs xs.toList ys.toList <;> simp
      exact key 9998
    · cases ht
  · cases ht

theorem run_checkKey_i {P : Program} {e : TypeId} {k : IntKind} (he : P.underlying e = some (.int k)) (w : World) (em : Bool) (d : Nat) (x : Value) : (Instr.checkKey em (d + 1) e x).run P w = .ok () w := by
  rw [Instr.checkKey]
  simp [run_underlying he]
theorem run_checkKey_s {P : Program} {e : TypeId} (he : P.underlying e = some .string) (w : World) (em : Bool) (d : Nat) (x : Value) : (Instr.checkKey em (d + 1) e x).run P w = .ok () w := by
  rw [Instr.checkKey]
  simp [run_underlying he]

theorem run_checkLoop {P : Program} {e : TypeId} {k : IntKind} (he : P.underlying e = some (.int k)) (hs : tsz P e = some 1) (w : World) (em : Bool) (d : Nat) (xs : List Value) :
    ∀ (n s : Nat), s + n = xs.length →
      (forIn (m := Sem) (List.range' s n) PUnit.unit fun i _ => do
          let q ← sizeOf e
          let a ← Go.part e xs.toArray (i * q)
          Instr.checkKey em (d + 1) e a
          pure (ForInStep.yield PUnit.unit)).run P w = .ok PUnit.unit w := by
  intro n
  induction n with
  | zero => intro s _; simp
  | succ n ih =>
    intro s hsn
    obtain ⟨x, hx⟩ : ∃ x, xs[s]? = some x := ⟨xs[s]'(by omega), by simp⟩
    have p1 : (Go.part e xs.toArray (s * 1)).run P w = .ok x w := by simp [Go.part, isAgg, run_underlying he, hx]
    have p3 := run_checkKey_i (P := P) he w em d x
    simp only [List.range'_succ, List.forIn_cons, Sem.run_bind, p1, p3, Result.andThen_ok, tsz_some hs, Sem.run_pure]
    exact ih (s + 1) (by omega)

theorem run_check {P : Program} {t : TypeId} {f : KF} (ht : kfT P t = some f) (w : World) (em : Bool) {x : Value} (hx : keyOK f x = true) : (Instr.checkKey em 10000 t x).run P w = .ok () w := by
  unfold kfT at ht
  split at ht
  · rename_i k hu; exact run_checkKey_i hu w em 9999 x
  · rename_i hu; exact run_checkKey_s hu w em 9999 x
  · rename_i n' e hu
    split at ht
    · rename_i k' he hs
      injection ht with ht; subst ht
      cases x <;> simp only [keyOK, Bool.false_eq_true] at hx
      rename_i xs
      simp only [Bool.and_eq_true] at hx
      have hx1 := Nat.eq_of_beq_eq_true hx.1
      have key : ∀ d, (Instr.checkKey em (d + 1 + 1) t (.agg xs)).run P w = .ok () w := by
        intro d
        have hl := run_checkLoop (P := P) he hs w em d xs.toList xs.size 0 (by simp)
        rw [Instr.checkKey]
        simp only [Sem.run_bind, run_underlying hu, Result.andThen_ok]
        rw [Std.Legacy.Range.forIn_eq_forIn_range']
        simp only [Std.Legacy.Range.size, Nat.sub_zero, Nat.add_sub_cancel, Nat.div_one, ← hx1]
        rw [hl]
        rfl
      exact key 9998
    · cases ht
  · cases ht

/-- The place of a key, and its value. -/
def mfind (k : Value) : List (Value × Value) → Nat → Option (Nat × Value)
  | [], _ => none
  | e :: es, i => match sameKey k e.1 with | true => some (i, e.2) | false => mfind k es (i + 1)

def prs (es : List MapEntry) : List (Value × Value) := es.map fun e => (e.key, e.val)

theorem run_findNow {P : Program} {t : TypeId} {f : KF} {kd : TypeDesc} (hu : P.underlying t = some kd) (ht : kfT P t = some f) (hf : ∀ n k, f ≠ .arr n k) {x : Value} (hx : keyOK f x = true) :
    ∀ (es : List MapEntry) (i : Nat), (prs es).all (fun p => keyOK f p.1) = true → Instr.findNow kd x es i = some (mfind x (prs es) i)
  | [], _, _ => rfl
  | e :: es, i, h => by
    simp only [prs, List.map_cons, List.all_cons, Bool.and_eq_true] at h
    have ih := run_findNow hu ht hf hx es (i + 1) h.2
    have hs : Instr.sameNow kd x e.key = some (sameKey x e.key) := by
      unfold kfT at ht
      rw [hu] at ht
      cases kd <;> simp only [reduceCtorEq, Option.some.injEq] at ht
      case int k =>
        subst ht
        have h1 := h.1
        cases x <;> simp only [keyOK, intK, Bool.false_eq_true, decide_eq_true_eq] at hx
        cases hk : e.key <;> rw [hk] at h1 <;> simp only [keyOK, intK, Bool.false_eq_true, decide_eq_true_eq] at h1
        subst hx; subst h1
        simp [Instr.sameNow, sameKey]
      case string =>
        subst ht
        have h1 := h.1
        cases x <;> simp only [keyOK, Bool.false_eq_true] at hx
        cases hk : e.key <;> rw [hk] at h1 <;> simp only [keyOK, Bool.false_eq_true] at h1
        rename_i a b
        simp only [Instr.sameNow, sameKey]
        congr 1
        cases a; cases b
        rename_i a b
        have : ∀ p q : Array UInt8, ((⟨p⟩ : ByteArray) == ⟨q⟩) = (p.toList == q.toList) := fun p q => by
          show (p == q) = _
          rw [Bool.eq_iff_iff]
          simp only [beq_iff_eq]
          exact ⟨fun h => by rw [h], fun h => Array.ext' h⟩
        exact this a b
      case array n e' =>
        split at ht
        · injection ht with ht; exact absurd ht.symm (hf _ _)
        · cases ht
    simp only [Instr.findNow, hs, prs, List.map_cons, mfind]
    cases sameKey x e.key with
    | true => rfl
    | false => exact ih

theorem run_findAsk {P : Program} {t : TypeId} {n : Nat} {k : IntKind} (ht : kfT P t = some (.arr n k)) (w : World) {x : Value} (hx : keyOK (.arr n k) x = true) :
    ∀ (es : List MapEntry) (i : Nat), (prs es).all (fun p => keyOK (.arr n k) p.1) = true → (Instr.findAsking t x es i).run P w = .ok (mfind x (prs es) i) w
  | [], _, _ => by simp [Instr.findAsking, prs, mfind]
  | e :: es, i, h => by
    simp only [prs, List.map_cons, List.all_cons, Bool.and_eq_true] at h
    have ih := run_findAsk ht w hx es (i + 1) h.2
    have he := run_equal_arr ht w hx h.1
    simp only [Instr.findAsking, Sem.run_bind, he, Result.andThen_ok, prs, List.map_cons, mfind]
    cases sameKey x e.key with
    | true => simp
    | false => simpa [prs] using ih

theorem run_find {P : Program} {t : TypeId} {f : KF} (ht : kfT P t = some f) (w : World) {x : Value} (hx : keyOK f x = true) (es : List MapEntry) (h : (prs es).all (fun p => keyOK f p.1) = true) :
    (Instr.findKey t x es).run P w = .ok (mfind x (prs es) 0) w := by
  obtain ⟨kd, hu⟩ : ∃ kd, P.underlying t = some kd := by
    unfold kfT at ht
    cases hu : P.underlying t with
    | none => simp [hu] at ht
    | some kd => exact ⟨kd, rfl⟩
  by_cases hf : ∀ n k, f ≠ .arr n k
  · simp [Instr.findKey, run_underlying hu, run_findNow hu ht hf hx es 0 h]
  · have : ∃ n k, f = .arr n k := by
      cases f with
      | int k => exact absurd (fun _ _ h => by cases h) hf
      | str => exact absurd (fun _ _ h => by cases h) hf
      | arr n k => exact ⟨n, k, rfl⟩
    obtain ⟨n, k, rfl⟩ := this
    have ha := run_findAsk ht w hx es 0 h
    cases es with
    | nil => simp [Instr.findKey, run_underlying hu, Instr.findNow, prs, mfind]
    | cons e es =>
      have hn : Instr.findNow kd x (e :: es) 0 = none := by
        have hx' := hx
        unfold kfT at ht
        rw [hu] at ht
        cases kd <;> simp only [reduceCtorEq, Option.some.injEq] at ht
        cases x <;> simp only [keyOK, Bool.false_eq_true] at hx'
        simp [Instr.findNow, Instr.sameNow]
      simp only [Instr.findKey, Sem.run_bind, run_underlying hu, Result.andThen_ok, hn]
      exact ha

end Go.Ab
end

section
namespace Go.Ab
open Go Go.RowKit

/-- A new own block of any form. -/
theorem RelAt.newBlk {C : Ctx} {γ : G} {σ : St} {a : Act} {w w' : World} (R : RelAt C γ σ a w) {b d : Nat} {cs : List V} (dst : Option Nat) {r : T} {v : Value} (hd : dstOK C.nt dst)
    (hf : σ.heap d = none) (hsd : ¬ C.stay d) (hk : Keep nobody w w') (hb : w.heap.size ≤ b)
    (hblk : (∃ (t : TypeId) (vs spare : List Value), w'.heap[b]? = some (.cells (vs ++ spare).toArray t (0, 0)) ∧ CsRel w' C.M (updG γ d (some b)) cs vs) ∨
      (∃ (ents : Array MapEntry) (clk : Nat), w'.heap[b]? = some (.map ents clk) ∧ cs = [.mapc (ents.toList.map fun e => (e.key, e.val))]))
    (hr : TRel w' C.M (updG γ d (some b)) r v) : RelAt C (updG γ d (some b)) ⟨(σ.put dst r).env, updH σ.heap d (some cs)⟩ (a.put dst v) w' := by
  have hγd : γ d = none := R.mem.dom d hf
  have hca : Carry C.M γ (updG γ d (some b)) w w' := by
    refine ⟨hk.size, fun x hx => hk.same x hx.1 (fun h => h), fun x hx s => ?_, hk.shape⟩
    unfold updG
    split
    · intro e; injection e with e; injection e with e; have := hx.1; omega
    · exact hx.2.2 s
  have hnm : ∀ s, γ s ≠ none → updG γ d (some b) s = γ s := by
    intro s hs
    unfold updG
    rw [if_neg (by rintro rfl; exact hs hγd)]
  refine ⟨⟨fun x hx => Nat.lt_of_lt_of_le (R.mem.low x hx) hk.size, ?_, ?_, ?_, ?_⟩, fun i => ?_, R.keep.trans hk (fun _ _ h => h) (fun _ _ h => h.elim), ?_, ?_, ?_, ?_⟩
  · intro s t' x h1 h2
    unfold updG at h1 h2
    split at h1 <;> split at h2
    · omega
    · injection h1 with h1; injection h1 with h1; have := R.mem.lt h2; omega
    · injection h2 with h2; injection h2 with h2; have := R.mem.lt h1; omega
    · exact R.mem.inj s t' x h1 h2
  · intro s x h1
    unfold updG at h1
    split at h1
    · injection h1 with h1; injection h1 with h1; intro hM; have := R.mem.low x hM; omega
    · exact R.mem.nm s x h1
  · intro s hs
    simp only [updH] at hs
    unfold updG
    split at hs
    · cases hs
    · rw [if_neg (by assumption)]; exact R.mem.dom s hs
  · intro s cs' hs
    simp only [updH] at hs
    split at hs
    · rename_i e; subst e
      injection hs with hs; subst hs
      rcases hblk with ⟨t, vs, sp, h1, h2⟩ | ⟨en, clk, h1, h2⟩
      · exact .inl ⟨b, t, vs, sp, by simp [updG], h1, h2⟩
      · exact .inr (.inr ⟨b, en, clk, by simp [updG], h1, h2⟩)
    · rename_i hne
      rcases R.mem.blk s cs' hs with ⟨b', t', vs', sp', hg, hb', hc⟩ | ⟨hg, hc⟩ | ⟨b', en, clk, hg, hb', hc⟩
      · exact .inl ⟨b', t', vs', sp', by rw [hnm s (by rw [hg]; simp)]; exact hg, (hk.same b' (lt_of_heap hb') (fun h => h)).trans hb', hc.carry hca fun s hs => hnm s (hc.named s hs)⟩
      · exact .inr (.inl ⟨by rw [hnm s (by rw [hg]; simp)]; exact hg, hc⟩)
      · exact .inr (.inr ⟨b', en, clk, by rw [hnm s (by rw [hg]; simp)]; exact hg, (hk.same b' (lt_of_heap hb') (fun h => h)).trans hb', hc⟩)
  · rw [getD_put _ _ _ _ (by rw [R.size]; exact hd)]
    show TRel _ _ _ ((σ.put dst r).env i) _
    rw [put_env]
    split
    · exact hr
    · exact (R.env i).carry hca fun s hs => hnm s ((R.env i).named s hs)
  · intro s x h1
    unfold updG at h1
    split at h1
    · injection h1 with h1; injection h1 with h1; have := R.keep.size; exact .inr (by omega)
    · exact R.own s x h1
  · intro s hs'
    have := R.stay s hs'
    unfold updG
    rw [if_neg (by rintro rfl; exact hsd hs')]
    exact this
  · rw [put_defers]; exact R.defers
  · rw [put_size]; exact R.size

theorem StepOK.makeMap {P : Program} {n : Nat} {stay : Nat → Prop} {o : Oper} {σ : St} (t : TypeId) (ho : o.op = .makeMap t none) (d : Nat) (hd : dstOK n o.dst) (hf : σ.heap d = none) (hsd : ¬ stay d) :
    StepOK P n stay o σ ⟨(σ.put o.dst (.e (.c (.mp d)))).env, updH σ.heap d (some [.mapc []])⟩ := by
  intro C hn hst a w ⟨γ, R⟩ K Q hK
  refine wp_value (v := .map (some w.heap.size)) (w' := w.alloc (.map #[] 0)) ?_ (hK _ _ ⟨updG γ d (some w.heap.size), ?_⟩)
  · simp [execOp, ho, Instr.makeMap]
  · exact R.newBlk o.dst (by rw [hn]; exact hd) hf (by rw [hst]; exact hsd) (keep_alloc _ _) (Nat.le_refl _) (.inr ⟨#[], 0, heap_alloc_at _ _, rfl⟩) ⟨_, by simp [updG], rfl⟩

theorem getM {P : Program} {w : World} {r : Nat} {es : Array MapEntry} {clock : Nat} (hb : w.heap[r]? = some (.map es clock)) : (getObj r).run P w = .ok (.map es clock) w := by simp [getObj, Sem.run, hb]
theorem setM {P : Program} {w : World} {r : Nat} {es : Array MapEntry} {clock : Nat} (o : Obj) (hb : w.heap[r]? = some (.map es clock)) : (setObj r o).run P w = .ok () { w with heap := w.heap.setIfInBounds r o } := by simp [setObj, Sem.run, hb]

/-- What is known of a map type. -/
structure MI where
  kt : TypeId
  et : TypeId
  kf : KF
  z : Value
structure MIOK (P : Program) (t : TypeId) (m : MI) : Prop where
  u : P.underlying t = some (.map m.kt m.et)
  kf : kfT P m.kt = some m.kf
  z : (P.info? m.et).bind (·.zero) = some m.z
  one : m.z.oneCell' = true

theorem MIOK.zero {P : Program} {t : TypeId} {m : MI} (h : MIOK P t m) (w : World) : (zeroValue m.et).run P w = .ok m.z w := by
  have hz := h.z
  cases hi : P.info? m.et with
  | none => simp [hi] at hz
  | some i =>
    simp only [hi, Option.bind_some] at hz
    simp [zeroValue, typeInfo, hi, hz]

def mapOK (f : KF) (es : List (Value × Value)) : Bool := es.all fun p => keyOK f p.1 && p.2.oneCell'
theorem mapOK_keys {f : KF} {es : List (Value × Value)} (h : mapOK f es = true) : es.all (fun p => keyOK f p.1) = true := by
  simp only [mapOK, List.all_eq_true, Bool.and_eq_true] at h ⊢
  exact fun p hp => (h p hp).1

theorem RelAt.mapBlk {C : Ctx} {γ : G} {σ : St} {a : Act} {w : World} (R : RelAt C γ σ a w) {s b : Nat} {es : List (Value × Value)} (hs : σ.heap s = some [.mapc es]) (hg : γ s = some (some b)) :
    ∃ (ents : Array MapEntry) (clk : Nat), w.heap[b]? = some (.map ents clk) ∧ es = prs ents.toList := by
  rcases R.mem.blk s _ hs with ⟨b', t, vs, sp, hg', hb', hc'⟩ | ⟨h0, h1⟩ | ⟨b', en, clk, hg', hb', he⟩
  · have h2 := hc'.1
    cases vs with
    | nil => simp at h2
    | cons v r => exact (hc'.2 0 (.mapc es) v rfl rfl).elim
  · cases h1
  · rw [hg] at hg'; injection hg' with hg'; injection hg' with hg'; subst hg'
    injection he with he _
    injection he with he
    exact ⟨en, clk, hb', he⟩

def mgetV (z k : Value) (es : List (Value × Value)) : Value × Bool := match mfind k es 0 with | some (_, v) => (v, true) | none => (z, false)

theorem mfind_mem {k : Value} : ∀ {es : List (Value × Value)} {i j : Nat} {v : Value}, mfind k es i = some (j, v) → ∃ p ∈ es, p.2 = v
  | [], _, _, _, h => by cases h
  | e :: es, i, j, v, h => by
    simp only [mfind] at h
    split at h
    · injection h with h; injection h with h1 h2; exact ⟨e, by simp, h2⟩
    · obtain ⟨p, hp, e'⟩ := mfind_mem h; exact ⟨p, by simp [hp], e'⟩

theorem mgetV_one {z k : Value} {f : KF} {es : List (Value × Value)} (hz : z.oneCell' = true) (h : mapOK f es = true) : (mgetV z k es).1.oneCell' = true := by
  unfold mgetV
  split
  · rename_i j v hm
    obtain ⟨p, hp, e⟩ := mfind_mem hm
    simp only [mapOK, List.all_eq_true, Bool.and_eq_true] at h
    rw [← e]
    exact (h p hp).2
  · exact hz

def keyL : List V → Option (List Value)
  | [] => some []
  | .d (.sc v) :: r => (keyL r).map (v :: ·)
  | _ :: _ => none
def keyT : T → Option Value
  | .e (.c (.d (.sc v))) => some v
  | .e (.agg vs) => (keyL vs).map fun l => .agg l.toArray
  | _ => none
theorem keyL_ok {w : World} {M : Nat → Prop} {γ : G} : ∀ {vs : List V} {us l : List Value}, CsRel w M γ vs us → keyL vs = some l → us = l
  | [], us, l, h, hk => by
    simp only [keyL, Option.some.injEq] at hk; subst hk
    have := h.1; cases us with | nil => rfl | cons _ _ => simp at this
  | v :: r, us, l, h, hk => by
    unfold keyL at hk
    split at hk
    · rename_i he; cases he
    · rename_i x r' he
      injection he with he1 he2; subst he1; subst he2
      cases us with
      | nil => have := h.1; simp at this
      | cons u us =>
        rw [Option.map_eq_some_iff] at hk
        obtain ⟨l', hl', rfl⟩ := hk
        have h0 := h.2 0 _ u rfl rfl
        cases h0
        have ih := keyL_ok (us := us) (vs := r) (w := w) (M := M) (γ := γ) ⟨by have := h.1; simpa using this, fun i x u hx hu => h.2 (i + 1) x u (by simpa using hx) (by simpa using hu)⟩ hl'
        rw [ih]
    · cases hk
theorem keyT_ok {w : World} {M : Nat → Prop} {γ : G} {x : T} {k v : Value} (h : TRel w M γ x v) (hk : keyT x = some k) : v = k := by
  unfold keyT at hk
  split at hk
  · injection hk with hk; subst hk; cases h; rfl
  · rename_i vs
    rw [Option.map_eq_some_iff] at hk
    obtain ⟨l, hl, rfl⟩ := hk
    obtain ⟨us, rfl, hc⟩ := h
    rw [keyL_ok hc hl]
  · cases hk

theorem StepOK.lookup {P : Program} {n : Nat} {stay : Nat → Prop} {o : Oper} {σ : St} (t : TypeId) (x y : Operand) (ok : Bool) (ho : o.op = .lookup t x y ok) (m : MI) (hm : MIOK P t m) (s : Nat) (es : List (Value × Value)) (k : Value)
    (hx : σ.ev x = .e (.c (.mp s))) (hy : keyT (σ.ev y) = some k) (hs : σ.heap s = some [.mapc es]) (hk : keyOK m.kf k = true) (he : mapOK m.kf es = true) (hd : dstOK n o.dst) :
    StepOK P n stay o σ (σ.put o.dst (if ok then .tup [.c (.d (.sc (mgetV m.z k es).1)), .c (.d (.sc (.bool (mgetV m.z k es).2)))] else .e (.c (.d (.sc (mgetV m.z k es).1))))) := by
  intro C hn _ a w ⟨γ, R⟩ K Q hK
  have h1 := R.ev x
  have h2 := keyT_ok (R.ev y) hy
  rw [hx] at h1
  obtain ⟨b, hg, hv⟩ := h1
  obtain ⟨ents, clk, hb, rfl⟩ := R.mapBlk hs hg
  have hone := mgetV_one (k := k) hm.one he
  have hrun : (Instr.lookup t (.map (some b)) k ok).run P w = .ok (if ok then .tuple #[(mgetV m.z k (prs ents.toList)).1, .bool (mgetV m.z k (prs ents.toList)).2] else (mgetV m.z k (prs ents.toList)).1) w := by
    simp only [Instr.lookup, Sem.run_bind, run_underlying hm.u, Result.andThen_ok, getM hb, Sem.run_pure, run_check hm.kf w _ hk, run_find hm.kf w hk _ (mapOK_keys he)]
    unfold mgetV
    cases hf : mfind k (prs ents.toList) 0 with
    | none => cases ok <;> simp [hm.zero w]
    | some p => cases ok <;> simp
  refine wp_value (v := if ok then .tuple #[(mgetV m.z k (prs ents.toList)).1, .bool (mgetV m.z k (prs ents.toList)).2] else (mgetV m.z k (prs ents.toList)).1) (w' := w) ?_ (hK _ _ ⟨γ, R.skipPut o.dst (by rw [hn]; exact hd) _ _ ?_⟩)
  · simp only [execOp, ho, hv, h2, Sem.run_bind, hrun, Result.andThen_ok, Sem.run_pure]
  · cases ok with
    | false => exact DRel.sc _ hone
    | true =>
      refine ⟨[_, _], rfl, rfl, fun i x u hx hu => ?_⟩
      match i with
      | 0 => simp only [List.getElem?_cons_zero, Option.some.injEq] at hx hu; subst hx; subst hu; exact DRel.sc _ hone
      | 1 => simp only [List.getElem?_cons_succ, List.getElem?_cons_zero, Option.some.injEq] at hx hu; subst hx; subst hu; exact DRel.sc _ rfl
      | i + 2 => simp at hx

/-- A map with one value set. -/
def msetV (k v : Value) (es : List (Value × Value)) : List (Value × Value) := match mfind k es 0 with | some (i, _) => es.set i (k, v) | none => es ++ [(k, v)]

theorem sameIs_bits : ∀ (xs ys : List Value) (k : IntKind) (d : Nat), xs.all (intK k) = true → ys.all (intK k) = true → sameIs xs ys = true → (xs.zip ys).all (fun (x, y) => Instr.sameBits d x y) = true ∧ xs.length = ys.length
  | [], [], _, _, _, _, _ => by simp
  | a :: r, b :: s, k, d, h1, h2, h3 => by
    simp only [List.all_cons, Bool.and_eq_true, sameIs] at h1 h2 h3
    have ih := sameIs_bits r s k d h1.2 h2.2 h3.2
    have hb : Instr.sameBits d a b = true := by
      cases a <;> simp only [intK, Bool.false_eq_true, decide_eq_true_eq, false_and] at h1
      cases b <;> simp only [intK, Bool.false_eq_true, decide_eq_true_eq, false_and] at h2
      have h4 := h3.1
      simp only [sameI1, beq_iff_eq] at h4
      rw [h1.1, h2.1, h4]
      simp [Instr.sameBits]
    simp [hb, ih.1, ih.2]
  | [], _ :: _, _, _, _, _, h => by simp [sameIs] at h
  | _ :: _, [], _, _, _, _, h => by simp [sameIs] at h

theorem sameKey_symm_bits {f : KF} {a b : Value} (ha : keyOK f a = true) (hb : keyOK f b = true) (h : sameKey a b = true) : Instr.sameBits 10000 b a = true := by
  cases f with
  | int k =>
    cases a <;> simp only [keyOK, intK, Bool.false_eq_true, decide_eq_true_eq] at ha
    cases b <;> simp only [keyOK, intK, Bool.false_eq_true, decide_eq_true_eq] at hb
    simp only [sameKey, beq_iff_eq] at h
    subst h; rw [ha, hb]
    simp [Instr.sameBits]
  | str =>
    cases a <;> simp only [keyOK, Bool.false_eq_true] at ha
    cases b <;> simp only [keyOK, Bool.false_eq_true] at hb
    rename_i a b
    simp only [sameKey, beq_iff_eq] at h
    have : a = b := by cases a; cases b; simp only [ByteArray.mk.injEq]; exact Array.ext' h
    subst this
    have hr : ∀ p : ByteArray, (p == p) = true := fun p => by cases p; rename_i p; show (p == p) = true; simp
    simp [Instr.sameBits, hr]
  | arr n k =>
    cases a <;> simp only [keyOK, Bool.false_eq_true] at ha
    cases b <;> simp only [keyOK, Bool.false_eq_true] at hb
    rename_i xs ys
    simp only [Bool.and_eq_true] at ha hb
    simp only [sameKey] at h
    have hsym : ∀ p q : List Value, sameIs p q = true → sameIs q p = true := by
      intro p
      induction p with
      | nil => intro q hq; cases q with | nil => rfl | cons _ _ => simp [sameIs] at hq
      | cons x r ih =>
        intro q hq
        cases q with
        | nil => simp [sameIs] at hq
        | cons y s =>
          simp only [sameIs, Bool.and_eq_true] at hq ⊢
          refine ⟨?_, ih s hq.2⟩
          have := hq.1
          cases x <;> simp only [sameI1, Bool.false_eq_true] at this
          cases y <;> simp only [Bool.false_eq_true] at this
          simp only [sameI1, beq_iff_eq] at this ⊢
          exact this.symm
    have := sameIs_bits ys.toList xs.toList k 9999 hb.2 ha.2 (hsym _ _ h)
    show Instr.sameBits (9999 + 1) _ _ = true
    have e : ys.size = xs.size := by simpa using this.2
    simp only [Instr.sameBits, e, beq_self_eq_true, Bool.true_and]
    exact this.1

theorem mfind_at {k : Value} : ∀ {es : List (Value × Value)} {i j : Nat} {v : Value}, mfind k es i = some (j, v) → i ≤ j ∧ ∃ p, es[j - i]? = some p ∧ sameKey k p.1 = true
  | [], _, _, _, h => by cases h
  | e :: es, i, j, v, h => by
    simp only [mfind] at h
    split at h
    · rename_i hs
      injection h with h; injection h with h1 h2; subst h1; exact ⟨Nat.le_refl _, e, by simp, hs⟩
    · obtain ⟨hl, p, hp, e'⟩ := mfind_at h
      refine ⟨by omega, p, ?_, e'⟩
      rw [show j - i = (j - (i + 1)) + 1 by omega]
      simpa using hp

theorem prs_push (ents : Array MapEntry) (e : MapEntry) : prs (ents.push e).toList = prs ents.toList ++ [(e.key, e.val)] := by simp [prs]
theorem prs_modify (ents : Array MapEntry) (i : Nat) (k v : Value) : prs (ents.modify i fun e => { e with key := k, val := v }).toList = (prs ents.toList).set i (k, v) := by
  simp only [prs, Array.toList_modify]
  apply List.ext_getElem?
  intro j
  simp only [List.getElem?_map, List.getElem?_modify, List.getElem?_set, List.length_map]
  by_cases hij : i = j
  · subst hij
    by_cases hl : i < ents.size
    · simp [hl]
    · simp [hl]
  · simp [hij]

/-- A map block is written anew. -/
theorem RelAt.setMap {C : Ctx} {γ : G} {σ : St} {a : Act} {w : World} (R : RelAt C γ σ a w) {s b : Nat} {ents : Array MapEntry} {clk : Nat} (ents' : Array MapEntry) (clk' : Nat)
    (hg : γ s = some (some b)) (hb : w.heap[b]? = some (.map ents clk)) (hsome : σ.heap s ≠ none) :
    RelAt C γ ⟨σ.env, updH σ.heap s (some [.mapc (prs ents'.toList)])⟩ a { w with heap := w.heap.setIfInBounds b (.map ents' clk') } := by
  have hlt := lt_of_heap hb
  have hother : ∀ x, x ≠ b → (w.heap.setIfInBounds b (.map ents' clk'))[x]? = w.heap[x]? := fun x hx => by rw [Array.getElem?_setIfInBounds_ne (Ne.symm hx)]
  have hself : (w.heap.setIfInBounds b (.map ents' clk'))[b]? = some (.map ents' clk') := by rw [Array.getElem?_setIfInBounds_self_of_lt hlt]
  have hka : Carry C.M γ γ w { w with heap := w.heap.setIfInBounds b (.map ents' clk') } := by
    refine ⟨by simp, fun x hx => hother x (by rintro rfl; exact hx.2.2 s hg), fun x hx => hx.2.2, fun x cells ty hx => ?_⟩
    refine ⟨cells, (hother x ?_).trans hx, rfl⟩
    rintro rfl
    rw [hb] at hx; cases hx
  refine ⟨⟨fun x hx => by simpa using R.mem.low x hx, R.mem.inj, R.mem.nm, fun x hx => ?_, fun x cs hx => ?_⟩, fun i => (R.env i).carry hka fun _ _ => rfl, ?_, R.own, R.stay, R.defers, R.size⟩
  · simp only [updH] at hx
    split at hx
    · cases hx
    · exact R.mem.dom x hx
  · simp only [updH] at hx
    split at hx
    · rename_i e; subst e
      injection hx with hx; subst hx
      exact .inr (.inr ⟨b, ents', clk', hg, hself, rfl⟩)
    · rename_i e
      rcases R.mem.blk x cs hx with ⟨b', t', vs, sp, hg', hb', hc'⟩ | h0 | ⟨b', en, clk, hg', hb', hc'⟩
      · exact .inl ⟨b', t', vs, sp, hg', (hother b' (by rintro rfl; exact e (R.mem.inj x s b' hg' hg))).trans hb', hc'.carry hka fun _ _ => rfl⟩
      · exact .inr (.inl h0)
      · exact .inr (.inr ⟨b', en, clk, hg', (hother b' (by rintro rfl; exact e (R.mem.inj x s b' hg' hg))).trans hb', hc'⟩)
  · have hk := R.keep
    have hpin := R.own s b hg
    refine ⟨hk.os, hk.tape, hk.output, hk.drawn, by simpa using hk.size, fun x hx hn => ?_, fun x cells ty hx => ?_⟩
    · exact (hother x (by rintro rfl; rcases hpin with h | h; exact hn h; omega)).trans (hk.same x hx hn)
    · obtain ⟨c1, e1, s1⟩ := hk.shape x cells ty hx
      obtain ⟨c2, e2, s2⟩ := hka.shape x c1 ty e1
      exact ⟨c2, e2, s2.trans s1⟩

theorem StepOK.mapUpdate {P : Program} {n : Nat} {stay : Nat → Prop} {o : Oper} {σ : St} (t : TypeId) (x y z : Operand) (ho : o.op = .mapUpdate t x y z) (hdst : o.dst = none) (m : MI) (hm : MIOK P t m) (s : Nat) (es : List (Value × Value)) (k v : Value)
    (hx : σ.ev x = .e (.c (.mp s))) (hy : keyT (σ.ev y) = some k) (hz : σ.ev z = .e (.c (.d (.sc v)))) (hs : σ.heap s = some [.mapc es]) (hk : keyOK m.kf k = true) (he : mapOK m.kf es = true) :
    StepOK P n stay o σ ⟨σ.env, updH σ.heap s (some [.mapc (msetV k v es)])⟩ := by
  intro C hn _ a w ⟨γ, R⟩ K Q hK
  have h1 := R.ev x
  have h2 := keyT_ok (R.ev y) hy
  have h3 := R.ev z
  rw [hx] at h1
  rw [hz] at h3
  obtain ⟨b, hg, hv⟩ := h1
  obtain ⟨ents, clk, hb, rfl⟩ := R.mapBlk hs hg
  have hvz : a.eval z = v := by cases h3; rfl
  cases hf : mfind k (prs ents.toList) 0 with
  | none =>
    refine wp_skipped (w' := { w with heap := w.heap.setIfInBounds b (.map (ents.push ⟨k, v, clk⟩) (clk + 1)) }) ?_ (hK _ _ ⟨γ, ?_⟩)
    · simp only [execOp, ho, hv, h2, hvz, Instr.mapUpdate, Sem.run_bind, run_underlying hm.u, Result.andThen_ok, getM hb, run_check hm.kf w _ hk, run_find hm.kf w hk _ (mapOK_keys he), hf, setM _ hb, Sem.run_pure]
    · have := R.setMap (ents.push ⟨k, v, clk⟩) (clk + 1) hg hb (by rw [hs]; simp)
      rw [hdst]
      simp only [msetV, hf]
      rw [prs_push] at this
      exact this
  | some p =>
    obtain ⟨i, u⟩ := p
    obtain ⟨_, q, hq, hsk⟩ := mfind_at hf
    simp only [Nat.sub_zero] at hq
    have hkq : keyOK m.kf q.1 = true := by
      have := (mapOK_keys he)
      rw [List.all_eq_true] at this
      exact this q (List.mem_of_getElem? hq)
    have hst := sameKey_symm_bits hk hkq hsk
    have hold : ((ents[i]?).map (·.key)).getD k = q.1 := by
      simp only [prs, List.getElem?_map, Array.getElem?_toList, Option.map_eq_some_iff] at hq
      obtain ⟨e0, h0, rfl⟩ := hq
      simp [h0]
    have hkeep : (Instr.keyThatStays q.1 k).run P w = .ok k w := by
      simp [Instr.keyThatStays, hst]
    refine wp_skipped (w' := { w with heap := w.heap.setIfInBounds b (.map (ents.modify i fun e => { e with key := k, val := v }) clk) }) ?_ (hK _ _ ⟨γ, ?_⟩)
    · simp only [execOp, ho, hv, h2, hvz, Instr.mapUpdate, Sem.run_bind, run_underlying hm.u, Result.andThen_ok, getM hb, run_check hm.kf w _ hk, run_find hm.kf w hk _ (mapOK_keys he), hf, hold, hkeep, setM _ hb, Sem.run_pure]
    · have := R.setMap (ents.modify i fun e => { e with key := k, val := v }) clk hg hb (by rw [hs]; simp)
      rw [hdst]
      simp only [msetV, hf]
      rw [prs_modify] at this
      exact this

section
variable {P : Program} {n : Nat} {stay : Nat → Prop} {ops : Array Oper} {o : Oper} {σ : St}

theorem SQ.makeMap (hg : Taken ops o σ) (t : TypeId) (ho : o.op = .makeMap t none) (d : Nat) (hd : dstOK n o.dst) (hst : ¬ stay d) (hf : σ.heap d = none) :
    SQ P n stay ops o σ ⟨(σ.put o.dst (.e (.c (.mp d)))).env, updH σ.heap d (some [.mapc []])⟩ ⟨lk ops o, (2 * d + 1) :: dl o, []⟩ :=
  SQ.block d (some [.mapc []]) rfl (fun _ h => h) fun τ h1 hl => .inl ⟨hg.congr hl, .makeMap t ho d hd (by rw [heap_of_at (h1 (2 * d + 1) (.inr (by simp))), hf]) hst⟩

theorem SQ.lookup (hg : Taken ops o σ) (t : TypeId) (x y : Operand) (ok : Bool) (ho : o.op = .lookup t x y ok) (m : MI) (hm : MIOK P t m) (s : Nat) (es : List (Value × Value)) (k : Value)
    (hx : σ.ev x = .e (.c (.mp s))) (hy : keyT (σ.ev y) = some k) (hs : σ.heap s = some [.mapc es]) (hk : keyOK m.kf k = true) (he : mapOK m.kf es = true) (hd : dstOK n o.dst) :
    SQ P n stay ops o σ (σ.put o.dst (if ok then .tup [.c (.d (.sc (mgetV m.z k es).1)), .c (.d (.sc (.bool (mgetV m.z k es).2)))] else .e (.c (.d (.sc (mgetV m.z k es).1))))) ⟨(2 * s + 1) :: lk ops o, dl o, []⟩ where
  frame l hl := put_at σ o _ l hl
  go τ h1 _ := by
    have hl := looks_of (fun l h => List.mem_cons_of_mem _ h) h1
    rw [over_put]
    exact .inl ⟨hg.congr hl, .lookup t x y ok ho m hm s es k (by rw [evs_of hl x (by simp [ho, Op.operands]), hx]) (by rw [evs_of hl y (by simp [ho, Op.operands]), hy]) (by rw [heap_of_at (h1 (2 * s + 1) (.inl (by simp))), hs]) hk he hd⟩

theorem SQ.mapUpdate (hg : Taken ops o σ) (t : TypeId) (x y z : Operand) (ho : o.op = .mapUpdate t x y z) (hdst : o.dst = none) (m : MI) (hm : MIOK P t m) (s : Nat) (es : List (Value × Value)) (k v : Value)
    (hx : σ.ev x = .e (.c (.mp s))) (hy : keyT (σ.ev y) = some k) (hz : σ.ev z = .e (.c (.d (.sc v)))) (hs : σ.heap s = some [.mapc es]) (hk : keyOK m.kf k = true) (he : mapOK m.kf es = true) :
    SQ P n stay ops o σ ⟨σ.env, updH σ.heap s (some [.mapc (msetV k v es)])⟩ ⟨lk ops o, (2 * s + 1) :: dl o, []⟩ :=
  SQ.block (r := .any) s (some [.mapc (msetV k v es)]) (by rw [hdst, put_none]) (fun _ h => h) fun τ h1 hlk => by
    rw [hdst, put_none]
    refine .inl ⟨hg.congr hlk, .mapUpdate t x y z ho hdst m hm s es k v ?_ ?_ ?_ (by rw [heap_of_at (h1 (2 * s + 1) (.inr (by simp))), hs]) hk he⟩
    · rw [evs_of hlk x (by simp [ho, Op.operands]), hx]
    · rw [evs_of hlk y (by simp [ho, Op.operands]), hy]
    · rw [evs_of hlk z (by simp [ho, Op.operands]), hz]
end
end Go.Ab
end

section
namespace Go.Ab
open Go Go.RowKit

theorem alloc_buildSlice {P : Program} {o : Oper} {ev : Operand → T} (t : TypeId) (len : Nat) (parts : Array (Nat × Operand)) (ho : o.op = .buildSlice t len parts) (d : Nat) (e : TypeId) (k : Nat) (zs : List V) (rs : List (List D))
    (ht : tsl P t = some e) (hk : tsz P e = some k) (hz : tzv P e = some zs) (hzk : zs.length = k) (hl : parts.size = len) (hsmall : len * k ≤ 16777216) (hk0 : 0 < k) (hl0 : 0 < len) (hr : litRows k ev 0 parts.toList = some rs) :
    AllocOK P o ev d (rs.flatten.map .d) (.e (.c (.sub d k 0 len))) := by
  intro M γ H w a hm h K Q hK
  obtain ⟨z0, hz0, hze, ha⟩ := tzv_some hz
  obtain ⟨z, hzr, hzc⟩ := tzero_some hz0 w
  have hzl : z0.length = k := by rw [← hzk, hze]; simp
  have hz' : z.cells = z0.toArray := by rw [← hzc]
  have hpl : parts.toList.length = len := by simpa using hl
  obtain ⟨h1, h2, us, h3, h4, h5⟩ := litRows_fill (w := w) (M := M) (γ := γ) (ev := ev) (a := a) k parts.toList 0 rs [] ((List.replicate len z0).flatten) (fun x hx => h x (by simpa [ho, Op.operands] using hx)) hr (by simp) (by simp [hpl, hzl])
  have hrl : rs.length = len := by rw [h2, hpl]
  have hmade : (Array.range (len * k)).map ((if len * k = 0 then (#[] : Array Value) else z.cells)[· % (if len * k = 0 then (#[] : Array Value) else z.cells).size]!) = ((List.replicate len z0).flatten).toArray := by
    apply Array.ext'
    rw [← range_flat z0 len, hzl]
    by_cases h0 : len * k = 0
    · simp [h0]
    · rw [if_neg h0, hz']
  refine wp_value (v := .slice (some ⟨w.heap.size, 0, none⟩) len len) (w' := w.alloc (.cells us.toArray e)) ?_ (hK _ _ w.heap.size e us [] (keep_alloc _ _) (Nat.le_refl _) ?_ h5 ?_)
  · have hns : ¬ (16777216 < len * k) := by omega
    simp only [List.nil_append] at h4
    have h0 : ¬ (len * k = 0) := by
      intro h0
      rcases Nat.mul_eq_zero.1 h0 with h | h <;> omega
    rw [if_neg h0] at hmade
    simp [execOp, ho, Instr.buildSlice, run_underlying (tsl_some ht), tsz_some hk, hns, h0, hzr, hmade, h4, newRow]
  · rw [heap_alloc_at]; simp
  · refine .inl ⟨w.heap.size, len, us.toArray, e, by simp [updG], rfl, Nat.le_refl _, by simp only [maxLen]; have := Nat.le_mul_of_pos_right len hk0; omega, heap_alloc_at _ _, ?_⟩
    simp [h3, hrl]

theorem WP.scope {P : Program} {n : Nat} {stay : Nat → Prop} {σ : St} {Q : Post} {c : Code} (h : WP P n stay c σ Q) : WP P n stay (.scope c) σ Q := by
  intro C hn hs a w R
  refine wp_scope_straight (wp_mono (h C hn hs a w R) fun e a' w' ⟨σ', R', hq⟩ => ?_)
  cases e with
  | normal => exact ⟨σ', R', hq⟩
  | exit j => exact ⟨σ', R', hq⟩
  | ret => exact ⟨σ', R', hq⟩
  | goto l => exact hq.elim
  | panic ch => exact hq.elim
  | outgrown => exact hq.elim

theorem WP.label {P : Program} {n : Nat} {stay : Nat → Prop} {σ : St} {Q : Post} {l : Nat} (h : Q.nrm σ) : WP P n stay (.label l) σ Q := fun _ _ _ _ _ R => wp_label ⟨σ, R, h⟩

end Go.Ab
end

section
namespace Go.Ab
open Go Go.RowKit

def bytesL (s : ByteArray) : List Value := s.data.toList.map fun b => .int .u8 b.toNat
def bytesV (s : ByteArray) : List V := s.data.toList.map fun b => .d (.sc (.int .u8 b.toNat))

theorem bytesL_len (s : ByteArray) : (bytesL s).length = s.size := by
  unfold bytesL
  rw [List.length_map]
  rfl
theorem firstCells_str {P : Program} (w : World) (k : Nat) (s : ByteArray) : (Builtin.firstCells k s.size (.string s)).run P w = .ok (bytesL s).toArray w := by
  simp [Builtin.firstCells]
  apply Array.ext'
  simp [bytesL]

theorem src_relS {w : World} {M : Nat → Prop} {γ : G} {k m : Nat} {news : List V} {sb : ByteArray} {ev : Operand → T} {y : Operand} {v : Value} (hk1 : k = 1) (hnews : news = bytesV sb) (hm : m = sb.size) (hy : ev y = .e (.c (.d (.sc (.string sb))))) (hr : TRel w M γ (ev y) v) :
    ∃ us : List Value, us = bytesL sb ∧ v = .string sb ∧ CsRel w M γ news us ∧ us.length = m * k := by
  rw [hy] at hr
  refine ⟨bytesL sb, rfl, sc_inv hr, ?_, by rw [bytesL_len, hk1, hm]; omega⟩
  subst hnews
  refine ⟨by simp [bytesL, bytesV], fun i x u hx hu => ?_⟩
  simp only [bytesV, bytesL, List.getElem?_map] at hx hu
  cases hb : sb.data.toList[i]? with
  | none => rw [hb] at hx; simp at hx
  | some c =>
    rw [hb] at hx hu
    simp only [Option.map_some, Option.some.injEq] at hx hu
    subst hx; subst hu
    exact DRel.sc _ rfl

theorem exec_appendS {P : Program} {o : Oper} {a : Act} {w w' : World} {x y : Operand} {t u : TypeId} {v : Value} (ho : o.op = .call { callee := .builtin .append, args := #[x, y], argTypes := #[t, u] })
    (h : (Builtin.append_ #[t, u] o.type #[a.eval x, a.eval y]).run P w = .ok v w') : (execOp a.eval o).run P w = .ok (.value v) w' := by
  simp [execOp, ho, resolve, invoke, builtin, h]

theorem append_runS {P : Program} {w : World} {t e : TypeId} {k y : Nat} {zs : List V} (ty : TypeId) (ht : tsl P t = some e) (hk : tsz P e = some k) (hb : tby P e = some y) (hz : tzv P e = some zs) (hzk : zs.length = k)
    {u0 : TypeId} (hu0 : tstr P u0 = true) (sb : ByteArray) {m : Nat} {us : List Value} (hk1 : k = 1) (hm : m = sb.size) (hus0 : us = bytesL sb)
    {A : Option Addr} {len cap : Nat} {vs spare : List Value}
    (hdst : (∃ (b : Nat) (t0 : TypeId), A = some ⟨b, 0, none⟩ ∧ w.heap[b]? = some (.cells (vs ++ spare).toArray t0 (0, 0)) ∧ cap * k ≤ (vs ++ spare).length) ∨ (len = 0 ∧ cap = 0))
    (hlc : len ≤ cap) (hcap : cap ≤ maxLen) (hvl : vs.length = len * k)
    (hul : us.length = m * k) (h1 : ∀ u ∈ us, u.oneCell' = true)
    (hfit : (len + m) * y ≤ 140737488355328) (hmax : len + m ≤ maxLen) :
    ∃ v' w', (Builtin.append_ #[t, u0] ty #[.slice A len cap, .string sb]).run P w = .ok v' w' ∧
      ((v' = .slice A (len + m) cap ∧ len + m ≤ cap ∧ ((m = 0 ∧ w' = w) ∨ (∃ b t0, A = some ⟨b, 0, none⟩ ∧ w.heap[b]? = some (.cells (vs ++ spare).toArray t0 (0, 0)) ∧ us.length ≤ spare.length ∧ w' = w.setRow b ((vs ++ us) ++ spare.drop us.length).toArray))) ∨
       (∃ cap' rest, v' = .slice (some ⟨w.heap.size, 0, none⟩) (len + m) cap' ∧ len + m ≤ cap' ∧ cap' ≤ maxLen ∧ cap' * k ≤ ((vs ++ us) ++ rest).length ∧ w' = w.drew.alloc (.cells ((vs ++ us) ++ rest).toArray e))) := by
  obtain ⟨i, z, z0, hi, hzi, hsz, hby, hzc, hze, ha⟩ := tinfo hk hb hz
  have hzl : z.cells.size = k := by rw [hzc, ← hzk, hze]; simp
  have hu := tsl_some ht
  have hus := tstr_true hu0
  have hmax' : len + m ≤ 9223372036854775807 := by simp only [maxLen] at hmax; omega
  subst hsz
  have hfs : ∀ w : World, (Builtin.firstCells i.size m (.string sb)).run P w = .ok us.toArray w := fun w => by rw [hus0, hm]; exact firstCells_str w _ sb
  by_cases hm0 : m = 0
  · have hus1 : us = [] := List.eq_nil_of_length_eq_zero (by rw [hul, hm0]; simp)
    have hs0 : sb.size = 0 := by omega
    have hf := hfs w
    rw [hus1, hm0] at hf
    refine ⟨.slice A len cap, w, ?_, .inl ⟨by simp [hm0], by omega, .inl ⟨hm0, rfl⟩⟩⟩
    cases A with
    | none => simp [Builtin.append_, run_underlying hu, run_underlying hus, sizeOf, typeInfo, hi, Builtin.lenOf, hlc, hf, hs0]
    | some a => simp [Builtin.append_, run_underlying hu, run_underlying hus, sizeOf, typeInfo, hi, Builtin.lenOf, hlc, hf, hs0, storeCells]
  · have hnext : ∀ old, old < len + m → Builtin.nextslicecap (len + m) old * i.bytes ≤ 281474976710656 := fun old ho => growslice_fits ho (by rw [hby]; exact hfit)
    have hgrow : ∀ (hlt : cap < len + m), (∀ w' : World, (∀ b : Nat, w'.heap[b]? = w.heap[b]?) → (Builtin.firstCells i.size len (.slice A len cap)).run P w' = .ok vs.toArray w') →
        ∃ v' w', (Builtin.append_ #[t, u0] ty #[.slice A len cap, .string sb]).run P w = .ok v' w' ∧
          (∃ cap' rest, v' = .slice (some ⟨w.heap.size, 0, none⟩) (len + m) cap' ∧ len + m ≤ cap' ∧ cap' ≤ maxLen ∧ cap' * i.size ≤ ((vs ++ us) ++ rest).length ∧ w' = w.drew.alloc (.cells ((vs ++ us) ++ rest).toArray e)) := by
      intro hlt hold
      have hn : ¬ (len + m ≤ cap) := by omega
      have h63' : ¬ (9223372036854775807 < ((len : Int) + (m : Int))) := by omega
      have h48' : ¬ (281474976710656 < Builtin.nextslicecap (len + m) cap * i.bytes) := by have := hnext cap hlt; omega
      have hf := hfs w.drew
      have hfo := hold w.drew (fun _ => rfl)
      have hms : sb.size = m := hm.symm
      refine ⟨.slice (some ⟨w.heap.size, 0, none⟩) (len + m) (grownCap w (len + m) cap e), w.drew.alloc (.cells ((vs ++ us) ++ (Builtin.zeroCells z.cells (grownCap w (len + m) cap e - (len + m))).toList).toArray e), ?_,
        grownCap w (len + m) cap e, (Builtin.zeroCells z.cells (grownCap w (len + m) cap e - (len + m))).toList, rfl, grownCap_ge _ _ _ _, grownCap_le_maxLen _ _ _ _ hmax, ?_, rfl⟩
      · simp [Builtin.append_, run_underlying hu, run_underlying hus, sizeOf, typeInfo, zeroValue, hi, hzi, Builtin.lenOf, hms, hn, h63', h48', Question.forced, hf, hfo, newRow, grownCap]
        try (congr 2; apply Array.ext'; simp [List.append_assoc])
      · have hge := grownCap_ge w (len + m) cap e
        simp only [List.length_append, hvl, hul, Array.length_toList, size_zeroCells, hzl, ← Nat.add_mul]
        apply Nat.mul_le_mul_right
        omega
    rcases hdst with ⟨b, t0, rfl, hb0, hcs⟩ | ⟨rfl, rfl⟩
    · by_cases hroom : len + m ≤ cap
      · have hfits : len * i.size + us.length ≤ (vs ++ spare).toArray.size := by
          have : (len + m) * i.size ≤ cap * i.size := Nat.mul_le_mul_right _ hroom
          rw [Nat.add_mul] at this
          simp only [List.size_toArray]
          omega
        have hff := hfs w
        have hst := run_storeCells_at P b (len * i.size) t0 us 0 (vs ++ spare).toArray w hb0 (by simpa using hfits) h1
        simp only [Nat.add_zero] at hst
        have hsl : us.length ≤ spare.length := by simp at hfits; omega
        have hrow : (vs ++ spare).take (len * i.size) ++ us ++ (vs ++ spare).drop (len * i.size + us.length) = (vs ++ us) ++ spare.drop us.length := by
          rw [← hvl, List.take_left', List.drop_append, List.drop_eq_nil_of_le (by omega)]
          · simp
          · rfl
        have hms : sb.size = m := hm.symm
        refine ⟨_, w.setRow b ((vs ++ us) ++ spare.drop us.length).toArray, ?_, .inl ⟨rfl, hroom, .inr ⟨b, t0, rfl, hb0, hsl, rfl⟩⟩⟩
        rw [← hrow]
        simp [Builtin.append_, run_underlying hu, run_underlying hus, sizeOf, typeInfo, hi, Builtin.lenOf, hms, hroom, hff, Addr.add_lit, hst]
      · obtain ⟨v', w', hr, h2⟩ := hgrow (by omega) (fun w' hw' => by
          refine run_firstCells_some (P := P) w' i.size len ⟨b, 0, none⟩ len cap vs hvl (fun j u hj => ?_)
          have hb0' : w'.heap[b]? = some (.cells (vs ++ spare).toArray t0 (0, 0)) := (hw' b).trans hb0
          rw [mk_add, Nat.zero_add, cell_blk hb0']
          exact getElem_blk hj)
        exact ⟨v', w', hr, .inr h2⟩
    · have hvs : vs = [] := List.eq_nil_of_length_eq_zero (by simpa using hvl)
      subst hvs
      obtain ⟨v', w', hr, h2⟩ := hgrow (by omega) (fun w' _ => by
        cases A <;> simp [Builtin.firstCells, loadCells, loadCellsFrom])
      exact ⟨v', w', hr, .inr h2⟩

theorem StepOK.appendS {P : Program} {n : Nat} {stay : Nat → Prop} {o : Oper} {σ : St} (x y : Operand) (t u0 : TypeId) (hu0 : tstr P u0 = true) (sb : ByteArray) (ho : o.op = .call { callee := .builtin .append, args := #[x, y], argTypes := #[t, u0] })
    (d s k len : Nat) (hdst : o.dst = some d) (cs news : List V) (m : Nat) (hk1 : k = 1) (hnews : news = bytesV sb) (hm : m = sb.size) (hx : σ.ev x = .e (.c (.sub s k 0 len))) (hs : σ.heap s = some cs) (hcs : cs.length = len * k) (hy : σ.ev y = .e (.c (.d (.sc (.string sb)))))
    (e : TypeId) (bytes : Nat) (zs : List V) (ht : tsl P t = some e) (hk : tsz P e = some k) (hb : tby P e = some bytes) (hz : tzv P e = some zs) (hzk : zs.length = k)
    (hcn : ∀ v ∈ cs, ¬ v.names s) (hnn : ∀ v ∈ news, ¬ v.names s) (hfit : (len + m) * bytes ≤ 140737488355328) (hmax : len + m ≤ 140737488355328) (hst : ¬ stay s) (hd : d < n) :
    StepOK P n stay o σ ⟨upd (fun i => (σ.env i).kill s) d (.e (.c (.sub s k 0 (len + m)))), updH (fun u => (σ.heap u).map (List.map (V.kill s))) s (some (cs ++ news))⟩ := by
  intro C hn hstay a w ⟨γ, R⟩ K Q hK
  have h1 := R.ev x
  rw [hx] at h1
  obtain ⟨us, hus0, hvy, hcu, hul⟩ := src_relS (k := k) (news := news) (m := m) hk1 hnews hm hy (R.ev y)
  have hmax' : len + m ≤ maxLen := by simp only [maxLen]; omega
  have hdd : dstOK C.nt o.dst := by rw [hdst, hn]; intro j hj; injection hj with hj; omega
  have hkillR := R.kill s
  have hkk : (∀ i, ¬ ((σ.kill s).env i).names s) ∧ ∀ u cs, u ≠ s → (σ.kill s).heap u = some cs → ∀ v ∈ cs, ¬ v.names s := by
    refine ⟨fun i => T.kill_names _ s, fun u cs _ hu v hv => ?_⟩
    simp only [St.kill, Option.map_eq_some_iff] at hu
    obtain ⟨cs0, _, rfl⟩ := hu
    simp only [List.mem_map] at hv
    obtain ⟨v0, _, rfl⟩ := hv
    exact v0.kill_names s
  have hcns : ∀ v ∈ cs ++ news, ¬ v.names s := by
    intro v hv
    rcases List.mem_append.1 hv with h | h
    · exact hcn v h
    · exact hnn v h
  -- the two ends
  have fin : ∀ (γ' : G) (v' : Value) (w' : World), RelAt C γ' ⟨(σ.kill s).env, updH (σ.kill s).heap s (some (cs ++ news))⟩ a w' → TRel w' C.M γ' (.e (.c (.sub s k 0 (len + m)))) v' → K (a.put o.dst v') w' := by
    intro γ' v' w' R' hr
    refine hK _ _ ⟨γ', ?_⟩
    have := R'.skipPut o.dst hdd v' _ hr
    rw [hdst] at this ⊢
    exact this
  have newEnd : ∀ (vs : List Value) (cap' : Nat) (rest : List Value), CsRel w C.M γ cs vs → len + m ≤ cap' → cap' ≤ maxLen → cap' * k ≤ ((vs ++ us) ++ rest).length →
      K (a.put o.dst (.slice (some ⟨w.heap.size, 0, none⟩) (len + m) cap')) (w.drew.alloc (.cells ((vs ++ us) ++ rest).toArray e)) := by
    intro vs cap' rest hc h1 h2 h3
    have R' := hkillR.moveOwn (s := s) (t := e) (spare := rest) w.drew (.inr rfl) (hc.append hcu) hcns (by rw [hstay]; exact hst) hkk
    refine fin _ _ _ R' (.inl ⟨w.heap.size, cap', ((vs ++ us) ++ rest).toArray, e, by simp [updG], rfl, h1, h2, ?_, by simpa using h3⟩)
    exact heap_alloc_at w.drew _
  rcases h1 with ⟨b, cap, cells, ty, hg, hvx, hlc, hcm, hbb, hroom⟩ | ⟨hg, _, h0, hvx⟩ | ⟨b, off', hg, h0, hvx⟩
  · obtain ⟨t0, vs, spare, hb0, hc0⟩ := R.blkC hs hg hbb
    rw [hb0] at hbb
    injection hbb with hbb; injection hbb with hbb _; subst hbb
    have hl0 := hc0.1
    obtain ⟨v', w', hrun, hres⟩ := append_runS (P := P) (w := w) o.type ht hk hb hz hzk hu0 sb hk1 hm hus0 (A := some ⟨b, 0, none⟩) (len := len) (cap := cap) (vs := vs) (spare := spare) (m := m) (us := us)
      (.inl ⟨b, t0, rfl, hb0, by simpa using hroom⟩) hlc hcm (by omega) hul hcu.ones hfit hmax'
    refine wp_value (v := v') (w' := w') (exec_appendS ho (by rw [hvx, hvy]; exact hrun)) ?_
    rcases hres with ⟨rfl, hle, ⟨rfl, hw0⟩ | ⟨b1, t1, hA, hb1, hsl, rfl⟩⟩ | ⟨cap', rest, rfl, h1, h2, h3, rfl⟩
    · have hus : us = [] := List.eq_nil_of_length_eq_zero (by simpa using hul)
      have hnw : news = [] := List.eq_nil_of_length_eq_zero (by rw [hcu.1, hus]; rfl)
      subst hus; subst hnw
      rw [hw0]
      refine fin γ _ _ ?_ (.inl ⟨b, cap, _, t0, hg, by simp, by simpa using hlc, hcm, hb0, hroom⟩)
      have := hkillR.setOwn (s := s) (cs' := cs ++ []) (vs' := vs) (spare := spare) hg hb0 (by simp) (by simpa using hc0) (by simp [St.kill, hs])
      rwa [setRow_self w b _ t0 _ hb0] at this
    · injection hA with hA; injection hA with hA; subst hA
      refine fin γ _ _ (hkillR.setOwn (s := s) (cs' := cs ++ news) (vs' := vs ++ us) (spare := spare.drop us.length) hg hb0 (by simp; omega) (hc0.append hcu) (by simp [St.kill, hs])) ?_
      refine .inl ⟨b, cap, _, t0, hg, rfl, hle, hcm, setRow_heap w b _ _ t0 _ hb0, ?_⟩
      simp at hroom ⊢
      omega
    · exact newEnd vs cap' rest hc0 h1 h2 h3
  · subst h0
    rcases R.mem.blk s cs hs with ⟨b', t', vs, sp, hg', hb', hc'⟩ | ⟨_, hc0⟩ | ⟨b', en, clk, hg', hb', hc'⟩
    rotate_left 2
    · rw [hg] at hg'; injection hg' with hg'; cases hg'
    · rw [hg] at hg'; injection hg' with hg'; cases hg'
    · subst hc0
      obtain ⟨v', w', hrun, hres⟩ := append_runS (P := P) (w := w) o.type ht hk hb hz hzk hu0 sb hk1 hm hus0 (A := none) (len := 0) (cap := 0) (vs := []) (spare := []) (m := m) (us := us)
        (.inr ⟨rfl, rfl⟩) (Nat.le_refl _) (Nat.zero_le _) (by simp) hul hcu.ones hfit hmax'
      refine wp_value (v := v') (w' := w') (exec_appendS ho (by rw [hvx, hvy]; exact hrun)) ?_
      rcases hres with ⟨rfl, hle, ⟨rfl, hw0⟩ | ⟨b1, t1, hA, _⟩⟩ | ⟨cap', rest, rfl, h1, h2, h3, rfl⟩
      · have hus : us = [] := List.eq_nil_of_length_eq_zero (by simpa using hul)
        have hnw : news = [] := List.eq_nil_of_length_eq_zero (by rw [hcu.1, hus]; rfl)
        subst hus; subst hnw
        rw [hw0]
        refine fin γ _ _ ?_ (.inr (.inl ⟨hg, rfl, rfl, rfl⟩))
        have hup : updH (σ.kill s).heap s (some ([] ++ [])) = (σ.kill s).heap := by
          funext u; simp only [updH]; split
          · rename_i e; subst e; simp [St.kill, hs]
          · rfl
        rw [hup]
        exact hkillR
      · cases hA
      · exact newEnd [] cap' rest CsRel.nil h1 h2 h3
  · subst h0
    have hcs0 : cs = [] := List.eq_nil_of_length_eq_zero (by simpa using hcs)
    subst hcs0
    obtain ⟨t0, vs, spare, hb0, hc0⟩ := R.blk hs hg rfl
    have hvs0 : vs = [] := List.eq_nil_of_length_eq_zero (by have := hc0.1; simpa using this.symm)
    subst hvs0
    obtain ⟨v', w', hrun, hres⟩ := append_runS (P := P) (w := w) o.type ht hk hb hz hzk hu0 sb hk1 hm hus0 (A := some ⟨b, off', none⟩) (len := 0) (cap := 0) (vs := []) (spare := []) (m := m) (us := us)
      (.inr ⟨rfl, rfl⟩) (Nat.le_refl _) (Nat.zero_le _) (by simp) hul hcu.ones hfit hmax'
    refine wp_value (v := v') (w' := w') (exec_appendS ho (by rw [hvx, hvy]; exact hrun)) ?_
    rcases hres with ⟨rfl, hle, ⟨rfl, hw0⟩ | ⟨b1, t1, hA, hb1, hsl, rfl⟩⟩ | ⟨cap', rest, rfl, h1, h2, h3, rfl⟩
    · have hus : us = [] := List.eq_nil_of_length_eq_zero (by simpa using hul)
      have hnw : news = [] := List.eq_nil_of_length_eq_zero (by rw [hcu.1, hus]; rfl)
      subst hus; subst hnw
      rw [hw0]
      refine fin γ _ _ ?_ (.inr (.inr ⟨b, off', hg, rfl, rfl⟩))
      have hup : updH (σ.kill s).heap s (some ([] ++ [])) = (σ.kill s).heap := by
        funext u; simp only [updH]; split
        · rename_i e; subst e; simp [St.kill, hs]
        · rfl
      rw [hup]
      exact hkillR
    · have hus : us = [] := List.eq_nil_of_length_eq_zero (by simpa using hsl)
      have hm0 : m = 0 := by omega
      subst hm0
      have hnw : news = [] := List.eq_nil_of_length_eq_zero (by rw [hcu.1, hus]; rfl)
      subst hus; subst hnw
      injection hA with hA; injection hA with hA _; subst hA
      refine fin γ _ _ ?_ (.inr (.inr ⟨b, off', hg, rfl, rfl⟩))
      simp at hb1
      have := hkillR.setOwn (s := s) (cs' := [] ++ []) (vs' := [] ++ []) (spare := ([] : List Value).drop 0) hg hb1 (by simp) (by simpa using CsRel.nil) (by simp [St.kill, hs])
      simpa using this
    · exact newEnd [] cap' rest CsRel.nil h1 h2 h3


theorem StepOK.appendNilS {P : Program} {n : Nat} {stay : Nat → Prop} {o : Oper} {σ : St} (x y : Operand) (t u0 : TypeId) (hu0 : tstr P u0 = true) (sb : ByteArray) (ho : o.op = .call { callee := .builtin .append, args := #[x, y], argTypes := #[t, u0] })
    (k : Nat) (news : List V) (m : Nat) (hk1 : k = 1) (hnews : news = bytesV sb) (hm : m = sb.size) (hx : σ.ev x = .e (.c (.d (.sc (.slice none 0 0))))) (hy : σ.ev y = .e (.c (.d (.sc (.string sb))))) (hm0 : m ≠ 0)
    (e : TypeId) (bytes : Nat) (zs : List V) (ht : tsl P t = some e) (hk : tsz P e = some k) (hb : tby P e = some bytes) (hz : tzv P e = some zs) (hzk : zs.length = k)
    (hfit : m * bytes ≤ 140737488355328) (hmax : m ≤ 140737488355328) (c : Nat) (hc : σ.heap c = none) (hst : ¬ stay c) (hd : dstOK n o.dst) :
    StepOK P n stay o σ ⟨(σ.put o.dst (.e (.c (.sub c k 0 m)))).env, updH σ.heap c (some news)⟩ := by
  intro C hn hstay a w ⟨γ, R⟩ K Q hK
  have h1 := R.ev x
  rw [hx] at h1
  have hvx : a.eval x = .slice none 0 0 := sc_inv h1
  obtain ⟨us, hus0, hvy, hcu, hul⟩ := src_relS (k := k) (news := news) (m := m) hk1 hnews hm hy (R.ev y)
  have hmax' : m ≤ maxLen := by simp only [maxLen]; omega
  obtain ⟨v', w', hrun, hres⟩ := append_runS (P := P) (w := w) o.type ht hk hb hz hzk hu0 sb hk1 hm hus0 (A := none) (len := 0) (cap := 0) (vs := []) (spare := []) (m := m) (us := us)
    (.inr ⟨rfl, rfl⟩) (Nat.le_refl _) (Nat.zero_le _) (by simp) hul hcu.ones (by simpa using hfit) (by simpa using hmax')
  refine wp_value (v := v') (w' := w') (exec_appendS ho (by rw [hvx, hvy]; exact hrun)) ?_
  rcases hres with ⟨_, hle, _⟩ | ⟨cap', rest, rfl, h1, h2, h3, rfl⟩
  · omega
  · refine hK _ _ (R.newBlock (by rw [hn]; exact hd) hc (by rw [hstay]; exact hst) (keep_drew_alloc _ _) (Nat.le_refl _) (t := e) (vs := us) (spare := rest) ?_ hcu ?_)
    · have := heap_alloc_at w.drew (.cells (([] ++ us) ++ rest).toArray e)
      simpa using this
    · refine .inl ⟨w.heap.size, cap', ((([] : List Value) ++ us) ++ rest).toArray, e, by simp [updG], by simp, by simpa using h1, h2, heap_alloc_at w.drew _, by simpa using h3⟩


theorem SQ.appendS {P : Program} {n : Nat} {stay : Nat → Prop} {ops : Array Oper} {o : Oper} {σ : St} (hg : Taken ops o σ) (x y : Operand) (t u0 : TypeId) (hu0 : tstr P u0 = true) (sb : ByteArray) (ho : o.op = .call { callee := .builtin .append, args := #[x, y], argTypes := #[t, u0] })
    (d s k len : Nat) (hdst : o.dst = some d) (cs news : List V) (m : Nat) (hk1 : k = 1) (hnews : news = bytesV sb) (hm : m = sb.size) (hx : σ.ev x = .e (.c (.sub s k 0 len))) (hs : σ.heap s = some cs) (hcs : cs.length = len * k) (hy : σ.ev y = .e (.c (.d (.sc (.string sb)))))
    (e : TypeId) (bytes : Nat) (zs : List V) (ht : tsl P t = some e) (hk : tsz P e = some k) (hb : tby P e = some bytes) (hz : tzv P e = some zs) (hzk : zs.length = k)
    (hcn : ∀ v ∈ cs, ¬ v.names s) (hnn : ∀ v ∈ news, ¬ v.names s) (hfit : (len + m) * bytes ≤ 140737488355328) (hmax : len + m ≤ 140737488355328) (hst : ¬ stay s) (hd : d < n)
    (c : Nat) (hc : σ.heap c = none) (hstc : ¬ stay c) (ts us yl : List Nat) (hyl : ∀ u, (σ.ev y).names u → u ∈ yl) :
    SQ P n stay ops o σ (appSt σ d s c k (len + m) (cs ++ news) ts us) ⟨lk ops o ++ odd yl, even (d :: ts) ++ odd (c :: s :: us), [s]⟩ where
  frame l hl := by
    simp only [List.mem_append, not_or] at hl
    unfold St.at appSt
    split
    · rename_i e0
      have e1 : l = 2 * (l / 2) := by omega
      rw [e1, mem_even, List.mem_cons, not_or] at hl
      simp only [upd]
      rw [if_neg hl.1.1, if_neg hl.1.2]
    · rename_i e0
      have e1 : l = 2 * (l / 2) + 1 := by omega
      rw [e1, mem_odd, List.mem_cons, List.mem_cons, not_or, not_or] at hl
      simp only
      rw [if_neg hl.2.1, if_neg hl.2.2.1, if_neg hl.2.2.2]
  go τ h1 h2 := by
    have hlk : ∀ t ∈ looks ops o, τ.env t = σ.env t := looks_of (f := ⟨lk ops o ++ odd yl, even (d :: ts) ++ odd (c :: s :: us), [s]⟩) (fun l h => List.mem_append.2 (.inl h)) h1
    have hev := evs_of hlk
    have hheap : ∀ u, u ∈ c :: s :: us → τ.heap u = σ.heap u := fun u hu => heap_of_at (h1 _ (.inr (List.mem_append.2 (.inr (mem_odd.2 hu)))))
    have hyh : ∀ u, u ∈ yl → τ.heap u = σ.heap u := fun u hu => heap_of_at (h1 _ (.inl (List.mem_append.2 (.inr (mem_odd.2 hu)))))
    have hx' : τ.ev x = .e (.c (.sub s k 0 len)) := by rw [hev x (by simp [ho, Op.operands, Call.operands]), hx]
    have hy' : τ.ev y = .e (.c (.d (.sc (.string sb)))) := by
      rw [hev y (by simp [ho, Op.operands, Call.operands]), hy]
    have hsc : s ≠ c := by rintro rfl; rw [hs] at hc; cases hc
    have st := StepOK.appendS (P := P) (stay := stay) (σ := τ) x y t u0 hu0 sb ho d s k len hdst cs news m hk1 hnews hm hx' (by rw [hheap s (by simp), hs]) hcs hy' e bytes zs ht hk hb hz hzk hcn hnn hfit hmax hst hd
    have hkE : ∀ i, i ∉ d :: ts → (τ.env i).kill s = τ.env i := fun i hi => T.kill_id fun hn => h2 s (by simp) (2 * i) (by simp only [List.mem_append, mem_even]; rintro (h | h); exact hi h; exact even_odd h) (by rw [at_env]; exact hn)
    have hkH : ∀ u, u ∉ c :: s :: us → (τ.heap u).map (List.map (V.kill s)) = τ.heap u := by
      intro u hu
      cases hv : τ.heap u with
      | none => rfl
      | some cs0 =>
        simp only [Option.map_some, Option.some.injEq]
        refine CsKill_id fun hn => h2 s (by simp) (2 * u + 1) (by simp only [List.mem_append, mem_odd]; rintro (h | h); exact odd_even h; exact hu h) ?_
        rw [at_heap, hv]
        exact hn
    refine .inl ⟨hg.congr hlk, st.weak ?_⟩
    refine Weak.trans (Weak.anys (e := upd (fun i => if i ∈ ts then .any else (τ.env i).kill s) d (.e (.c (.sub s k 0 (len + m))))) (fun i => ?_)) ?_
    · simp only [upd]
      split
      · exact .inl rfl
      · split
        · exact .inr rfl
        · exact .inl rfl
    · refine Weak.trans (Weak.relabel s c d k (len + m) (cs := cs ++ news) (by simp [upd]) (fun i hi => ?_) (fun u cs0 hu => ?_) (by simp [updH]) ?_ hst hstc) ?_
      · simp only [upd, hi, if_false]
        split
        · exact fun h => h
        · exact T.kill_names _ s
      · simp only [updH] at hu
        split at hu
        · injection hu with hu; subst hu
          rintro ⟨v, hv, hn⟩
          rcases List.mem_append.1 hv with h | h
          · exact hcn v h hn
          · exact hnn v h hn
        · rw [Option.map_eq_some_iff] at hu
          obtain ⟨cs1, _, rfl⟩ := hu
          rintro ⟨v, hv, hn⟩
          simp only [List.mem_map] at hv
          obtain ⟨v0, _, rfl⟩ := hv
          exact v0.kill_names s hn
      · simp only [updH, hsc.symm, if_false, hheap c (by simp), hc, Option.map_none]
      · have : over' τ (appSt σ d s c k (len + m) (cs ++ news) ts us) (even (d :: ts) ++ odd (c :: s :: us)) =
            ⟨upd (upd (fun i => if i ∈ ts then .any else (τ.env i).kill s) d (.e (.c (.sub s k 0 (len + m))))) d (.e (.c (.sub c k 0 (len + m)))),
             fun u => if u = c then some (cs ++ news) else if u = s then none else updH (fun u => (τ.heap u).map (List.map (V.kill s))) s (some (cs ++ news)) u⟩ := by
          simp only [over', St.mk.injEq]
          constructor
          · funext i
            simp only [List.mem_append, mem_even, even_odd, or_false, appSt, upd]
            by_cases hi : i = d
            · simp [hi]
            · by_cases hit : i ∈ ts
              · simp [hi, hit]
              · have := hkE i (by simp [hi, hit])
                simp [hi, hit, this]
          · funext u
            simp only [List.mem_append, mem_odd, odd_even, false_or, appSt, updH]
            by_cases h1 : u = c
            · simp [h1]
            · by_cases h2 : u = s
              · simp [h2, hsc]
              · by_cases h3 : u ∈ us
                · simp [h1, h2, h3, hheap u (by simp [h3])]
                · have := hkH u (by simp [h1, h2, h3])
                  simp [h1, h2, h3, this]
        rw [this]
        exact fun C hn hs a w R => R


theorem SQ.appendNilS {P : Program} {n : Nat} {stay : Nat → Prop} {ops : Array Oper} {o : Oper} {σ : St} (hg : Taken ops o σ) (x y : Operand) (t u0 : TypeId) (hu0 : tstr P u0 = true) (sb : ByteArray) (ho : o.op = .call { callee := .builtin .append, args := #[x, y], argTypes := #[t, u0] })
    (k : Nat) (news : List V) (m : Nat) (hk1 : k = 1) (hnews : news = bytesV sb) (hm : m = sb.size) (hx : σ.ev x = .e (.c (.d (.sc (.slice none 0 0))))) (hy : σ.ev y = .e (.c (.d (.sc (.string sb))))) (hm0 : m ≠ 0)
    (e : TypeId) (bytes : Nat) (zs : List V) (ht : tsl P t = some e) (hk : tsz P e = some k) (hb : tby P e = some bytes) (hz : tzv P e = some zs) (hzk : zs.length = k)
    (hfit : m * bytes ≤ 140737488355328) (hmax : m ≤ 140737488355328) (c : Nat) (hc : σ.heap c = none) (hst : ¬ stay c) (hd : dstOK n o.dst) (yl : List Nat) (hyl : ∀ u, (σ.ev y).names u → u ∈ yl) :
    SQ P n stay ops o σ ⟨(σ.put o.dst (.e (.c (.sub c k 0 m)))).env, updH σ.heap c (some news)⟩ ⟨lk ops o ++ odd yl, (2 * c + 1) :: dl o, []⟩ :=
  SQ.block c (some news) rfl (fun _ h => List.mem_append.2 (.inl h)) fun τ h1 hlk => by
    have hyh : ∀ u, u ∈ yl → τ.heap u = σ.heap u := fun u hu => heap_of_at (h1 _ (.inl (List.mem_append.2 (.inr (mem_odd.2 hu)))))
    have hev := evs_of hlk
    refine .inl ⟨hg.congr hlk, .appendNilS x y t u0 hu0 sb ho k news m hk1 hnews hm ?_ ?_ hm0 e bytes zs ht hk hb hz hzk hfit hmax c (by rw [heap_of_at (h1 (2 * c + 1) (.inr (by simp))), hc]) hst hd⟩
    · rw [hev x (by simp [ho, Op.operands, Call.operands]), hx]
    · rw [hev y (by simp [ho, Op.operands, Call.operands]), hy]

end Go.Ab
end

section
namespace Go.Ab
open Go Go.RowKit

theorem bounds_runS {P : Program} {w : World} {M : Nat → Prop} {γ : G} {ev : Operand → T} {a : Act} (lx hx : Option Operand) {lo hi len : Nat} (hh : boundV ev hx len = some hi) (hl : boundV ev lx 0 = some lo)
    (hr : ∀ x, (lx = some x ∨ hx = some x) → TRel w M γ (ev x) (a.eval x)) (h1 : lo ≤ hi) (h2 : hi ≤ len) :
    (Instr.sliceBounds false len len (lx.map a.eval) (hx.map a.eval) none).run P w = .ok (lo, hi, len) w := by
  have B : ∀ (x : Operand) (n y : Nat) (code : BoundsCode), natOf (ev x) = some n → (lx = some x ∨ hx = some x) → n ≤ y → (Instr.sliceBound (a.eval x) y code).run P w = .ok n w :=
    fun x n y code h1 h2 h3 => bound_run h1 (hr x h2) h3 code
  cases hx with
  | none =>
    simp only [boundV, Option.some.injEq] at hh
    subst hh
    cases lx with
    | none => simp only [boundV, Option.some.injEq] at hl; subst hl; simp [Instr.sliceBounds]
    | some x =>
      simp only [boundV] at hl
      have b1 := fun code => B x lo len code hl (.inl rfl) h1
      simp [Instr.sliceBounds, b1]
  | some z =>
    simp only [boundV] at hh
    have b2 := fun code => B z hi len code hh (.inr rfl) h2
    cases lx with
    | none => simp only [boundV, Option.some.injEq] at hl; subst hl; simp [Instr.sliceBounds, b2]
    | some x =>
      simp only [boundV] at hl
      have b1 := fun code => B x lo hi code hl (.inl rfl) h1
      simp [Instr.sliceBounds, b1, b2]

theorem pure_slice_str {P : Program} {o : Oper} {ev : Operand → T} (t : TypeId) (x : Operand) (lx hx : Option Operand) (ho : o.op = .slice t x lx hx none) (s : ByteArray) (lo hi : Nat)
    (ht : tstr P t = true) (hs : ev x = .e (.c (.d (.sc (.string s))))) (hh : boundV ev hx s.size = some hi) (hl : boundV ev lx 0 = some lo) (h1 : lo ≤ hi) (h2 : hi ≤ s.size) : PureOK P o ev (.e (.c (.d (.sc (.string (s.extract lo hi)))))) :=
  pure_same fun M γ H w a _ h => by
    have hx0 := h x (by simp [ho, Op.operands])
    rw [hs] at hx0
    have hv := sc_inv hx0
    have hops : ∀ y, (lx = some y ∨ hx = some y) → TRel w M γ (ev y) (a.eval y) := by
      intro y hy
      apply h
      rw [ho]
      simp only [Op.operands]
      rcases hy with rfl | rfl <;> simp
    have hb := bounds_runS (P := P) lx hx hh hl hops h1 h2
    refine ⟨_, ?_, .sc _ rfl⟩
    simp [execOp, ho, Instr.sliceAt, Instr.slice, run_underlying (tstr_true ht), hv, hb]

def tptr (P : Program) (t : TypeId) : Option TypeId := match P.underlying t with | some (.pointer e) => some e | _ => none
theorem tptr_some {P : Program} {t e : TypeId} (h : tptr P t = some e) : P.underlying t = some (.pointer e) := by
  unfold tptr at h; split at h <;> simp_all

/-- Whether two addresses are equal, where it is known. -/
def ptrEq : T → T → Option Bool
  | .e (.c (.ptr s o)), .e (.c (.ptr s' o')) => if s = s' ∧ o = o' then some true else none
  | .e (.c (.ptr _ _)), .e (.c (.d (.sc (.pointer none)))) => some false
  | .e (.c (.d (.sc (.pointer none)))), .e (.c (.ptr _ _)) => some false
  | .e (.c (.d (.sc (.pointer none)))), .e (.c (.d (.sc (.pointer none)))) => some true
  | _, _ => none

theorem ptrEq_run {P : Program} {w : World} {M : Nat → Prop} {γ : G} {t te : TypeId} {j : TypeInfo} (ht : tptr P t = some te) (hj : P.info? te = some j) {x y : T} {u v : Value} {b : Bool} (h : ptrEq x y = some b) (hx : TRel w M γ x u) (hy : TRel w M γ y v) :
    (∃ p q, u = .pointer p ∧ v = .pointer q) ∧ (Op.equal t u v).run P w = .ok b w := by
  have hp := tptr_some ht
  unfold ptrEq at h
  split at h
  · rename_i s o s' o'
    split at h
    · rename_i hc
      obtain ⟨rfl, rfl⟩ := hc
      injection h with h; subst h
      obtain ⟨b1, g1, rfl⟩ := hx
      obtain ⟨b2, g2, rfl⟩ := hy
      rw [g1] at g2
      injection g2 with g2; injection g2 with g2; subst g2
      refine ⟨⟨_, _, rfl, rfl⟩, ?_⟩
      have h : ∀ d : Nat, (Op.equalIn (d + 1) t (.pointer (some ⟨b1, o, none⟩)) (.pointer (some ⟨b1, o, none⟩))).run P w = .ok true w := fun d => by
        simp [Op.equalIn, run_underlying hp, sizeOf, typeInfo, hj, run_sameAddr_same]
      exact h 9999
    · cases h
  · injection h with h; subst h
    obtain ⟨b1, g1, rfl⟩ := hx
    have hy := sc_inv hy
    subst hy
    refine ⟨⟨_, _, rfl, rfl⟩, ?_⟩
    rename_i s o
    have h : ∀ d : Nat, (Op.equalIn (d + 1) t (.pointer (some ⟨b1, o, none⟩)) (.pointer none)).run P w = .ok false w := fun d => by
      simp [Op.equalIn, run_underlying hp]
    exact h 9999
  · injection h with h; subst h
    obtain ⟨b1, g1, rfl⟩ := hy
    have hx := sc_inv hx
    subst hx
    refine ⟨⟨_, _, rfl, rfl⟩, ?_⟩
    rename_i s o
    have h : ∀ d : Nat, (Op.equalIn (d + 1) t (.pointer none) (.pointer (some ⟨b1, o, none⟩))).run P w = .ok false w := fun d => by
      simp [Op.equalIn, run_underlying hp]
    exact h 9999
  · injection h with h; subst h
    have hx := sc_inv hx
    have hy := sc_inv hy
    subst hx; subst hy
    refine ⟨⟨_, _, rfl, rfl⟩, ?_⟩
    have h : ∀ d : Nat, (Op.equalIn (d + 1) t (.pointer none) (.pointer none)).run P w = .ok true w := fun d => by
      simp [Op.equalIn, run_underlying hp]
    exact h 9999
  · cases h

theorem pure_ptrEq {P : Program} {o : Oper} {ev : Operand → T} (t : TypeId) (x y : Operand) (ty : TypeId) (ng : Bool) (ho : o.op = .binOp (if ng then .neq else .eql) t x y ty) (te : TypeId) (j : TypeInfo) (ht : tptr P t = some te) (hj : P.info? te = some j) (b : Bool) (h : ptrEq (ev x) (ev y) = some b) :
    PureOK P o ev (.e (.c (.d (.sc (.bool (b != ng)))))) :=
  pure_same fun M γ H w a _ hh => by
    have h1 := hh x (by simp [ho, Op.operands])
    have h2 := hh y (by simp [ho, Op.operands])
    obtain ⟨⟨p, q, e1, e2⟩, hr⟩ := ptrEq_run ht hj h h1 h2
    refine ⟨_, ?_, .sc _ rfl⟩
    rw [e1, e2] at hr
    cases ng
    · simp [execOp, ho, e1, e2, eqGuard, binOp, hr]
    · simp [execOp, ho, e1, e2, eqGuard, binOp, hr]

/-- The further pure operations. -/
def opU (P : Program) (op : Op) (σ : St) : Option T :=
  match op with
  | .slice t x lx hx none =>
    if tstr P t then
      (match scOf (σ.ev x) with
       | some (.string s) => (match boundV σ.ev hx s.size, boundV σ.ev lx 0 with | some hi, some lo => if lo ≤ hi ∧ hi ≤ s.size then some (sc (.string (s.extract lo hi))) else none | _, _ => none)
       | _ => none)
    else none
  | .binOp .eql t x y _ => (match tptr P t with | some te => (match P.info? te, ptrEq (σ.ev x) (σ.ev y) with | some _, some b => some (sc (.bool b)) | _, _ => none) | none => none)
  | .binOp .neq t x y _ => (match tptr P t with | some te => (match P.info? te, ptrEq (σ.ev x) (σ.ev y) with | some _, some b => some (sc (.bool (!b))) | _, _ => none) | none => none)
  | _ => none

theorem opU_pure {P : Program} {o : Oper} {σ : St} {r : T} (h : opU P o.op σ = some r) : PureOK P o σ.ev r := by
  generalize hop : o.op = op at h
  unfold opU at h
  split at h
  · split at h
    · rename_i hts
      split at h
      · rename_i s hs
        split at h
        · rename_i hi lo h1 h2
          split at h
          · rename_i hc
            injection h with h; subst h
            exact pure_slice_str _ _ _ _ hop s lo hi hts (scOf_some hs) h1 h2 hc.1 hc.2
          · cases h
        · cases h
      · cases h
    · cases h
  · split at h
    · rename_i te ht
      split at h
      · rename_i j b hj hb
        injection h with h; subst h
        have := pure_ptrEq (P := P) (o := o) (ev := σ.ev) _ _ _ _ false (by simpa using hop) te j ht hj b hb
        simpa [sc] using this
      · cases h
    · cases h
  · split at h
    · rename_i te ht
      split at h
      · rename_i j b hj hb
        injection h with h; subst h
        have := pure_ptrEq (P := P) (o := o) (ev := σ.ev) _ _ _ _ true (by simpa using hop) te j ht hj b hb
        simpa [sc] using this
      · cases h
    · cases h
  · cases h
end Go.Ab
end
