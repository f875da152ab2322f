/- A framework: abstract data, abstract states, and their relation to the machine's memory (definitions and transport lemmas). No condition. The framework's pure operations: what an operation that touches no own block computes on abstract values. No condition. The framework's pure operations, second part: addresses, lengths, aggregates, slices. No condition. The framework's own blocks: new blocks, loads, stores. No condition. The framework's own blocks, second part: stores, made slices, append, copy. No condition. The framework: append to an own slice. No condition. The framework: append as a step. No condition. The framework: contracts of functions, pure calls, freezing, the rules of the code's forms. No condition. The framework: lists of operations, regions, weakening, entry and exit of a function. No condition. The framework: freezing an own block; a function's contract from its body. No condition. The framework: composite literals, slice expressions, fields and elements of values, closures. No condition. -/
import Derived.WalkKit
import Derived.Laws.CopyRow
import Derived.Laws.AppendOwn
import Derived.Laws.MakeOwn
set_option linter.all false

section
namespace Go.Ab
open Go Go.RowKit

/-- Data: a scalar value, or a slice of rows of cells that nobody writes. -/
inductive D where
  | sc (v : Value)
  | sl (es : List (List D))

/-- The content of one cell or of a temporary of one cell. -/
inductive V where
  | d (x : D)
  | ptr (s off : Nat)
  | sub (s k off len : Nat)
  | pim (ds : List D)
  | clo (f : Nat) (caps : List (Nat × Nat))
  | mp (s : Nat)
  | mapc (es : List (Value × Value))
  | any

inductive E where
  | c (v : V)
  | agg (vs : List V)

inductive T where
  | e (x : E)
  | tup (xs : List E)
  | any

abbrev Heap := Nat → Option (List V)

/-- Where the own blocks lie: no such label; a label of a nil slice; a block. -/
abbrev G := Nat → Option (Option Nat)

structure St where
  env : Nat → T
  heap : Heap

/-- The value v of one cell reads as the datum in the world w, through blocks of the set S alone. -/
inductive DRel (w : World) (S : Nat → Prop) : D → Value → Prop where
  | sc (v : Value) (h1 : v.oneCell' = true) : DRel w S (.sc v) v
  | sl (es : List (List D)) (k cap : Nat) (A : Option Addr) (U : Nat → Nat → Value) (hcap : es.length ≤ cap) (hmax : cap ≤ maxLen)
      (hrow : ∀ r ∈ es, r.length = k)
      (hA : es ≠ [] → ∃ a : Addr, A = some a ∧ a.spot = none ∧ S a.block ∧ ∀ i j, i < es.length → j < k → w.cell? (a.add (i * k + j)) = some (U i j))
      (hU : ∀ i j x, (es[i]?).bind (fun r => r[j]?) = some x → DRel w S x (U i j)) :
      DRel w S (.sl es) (.slice A es.length cap)

theorem block_add (a : Addr) (n : Nat) : (a.add n).block = a.block := by unfold Addr.add; split <;> rfl
theorem spot_add (a : Addr) (n : Nat) (h : a.spot = none) : (a.add n).spot = none := by unfold Addr.add; split <;> simp_all
theorem add_add (a : Addr) (i j : Nat) : (a.add i).add j = a.add (i + j) := by
  unfold Addr.add
  by_cases hi : i = 0 <;> by_cases hj : j = 0 <;> simp [hi, hj, Nat.add_assoc]
theorem mk_add (b o n : Nat) : (⟨b, o, none⟩ : Addr).add n = ⟨b, o + n, none⟩ := by
  unfold Addr.add
  split <;> simp_all

theorem cell_congr {w w' : World} {a : Addr} (h : w'.heap[a.block]? = w.heap[a.block]?) : w'.cell? a = w.cell? a := by
  unfold World.cell?; rw [h]

theorem DRel.mono {w w' : World} {S S' : Nat → Prop} {x : D} {v : Value} (h : DRel w S x v)
    (hS : ∀ b, S b → S' b) (hw : ∀ b, S b → w'.heap[b]? = w.heap[b]?) : DRel w' S' x v := by
  induction h with
  | sc v h1 => exact .sc v h1
  | sl es k cap A U hcap hmax hrow hA _ ih =>
    refine .sl es k cap A U hcap hmax hrow (fun hne => ?_) (fun i j x hx => ih i j x hx)
    obtain ⟨a, e, hsp, hs, hc⟩ := hA hne
    refine ⟨a, e, hsp, hS _ hs, fun i j hi hj => ?_⟩
    rw [cell_congr (w := w)]
    · exact hc i j hi hj
    · rw [block_add]; exact hw _ hs

theorem DRel.one {w : World} {S : Nat → Prop} {x : D} {v : Value} (h : DRel w S x v) : v.oneCell' = true := by
  cases h with
  | sc _ h1 => exact h1
  | sl => rfl

/-- Blocks that nobody of the call's own may write. -/
def stab (w : World) (M : Nat → Prop) (γ : G) (b : Nat) : Prop := b < w.heap.size ∧ ¬ M b ∧ ∀ s, γ s ≠ some (some b)

def PRel (γ : G) (s off : Nat) (v : Value) : Prop := ∃ b, γ s = some (some b) ∧ v = .pointer (some ⟨b, off, none⟩)

def VRel (w : World) (M : Nat → Prop) (γ : G) : V → Value → Prop
  | .d x, v => DRel w (stab w M γ) x v
  | .ptr s off, v => PRel γ s off v
  | .sub s k off len, v =>
    (∃ (b cap : Nat) (cells : Array Value) (t : TypeId), γ s = some (some b) ∧ v = .slice (some ⟨b, off, none⟩) len cap ∧ len ≤ cap ∧ cap ≤ maxLen ∧
      w.heap[b]? = some (.cells cells t (0, 0)) ∧ off + cap * k ≤ cells.size) ∨
    (γ s = some none ∧ off = 0 ∧ len = 0 ∧ v = .slice none 0 0) ∨
    (∃ (b off' : Nat), γ s = some (some b) ∧ len = 0 ∧ v = .slice (some ⟨b, off', none⟩) 0 0)
  | .pim ds, v => ∃ a : Addr, v = .pointer (some a) ∧ a.spot = none ∧ stab w M γ a.block ∧
      ∀ j x, ds[j]? = some x → ∃ u, w.cell? (a.add j) = some u ∧ DRel w (stab w M γ) x u
  | .clo f caps, v => ∃ cs : List Value, v = .func (.func f) #[] cs.toArray ∧ cs.length = caps.length ∧
      ∀ (i : Nat) (p : Nat × Nat) (c : Value), caps[i]? = some p → cs[i]? = some c → PRel γ p.1 p.2 c
  | .mp s, v => ∃ b, γ s = some (some b) ∧ v = .map (some b)
  | .mapc _, _ => False
  | .any, v => v.oneCell' = true

theorem VRel.one {w : World} {M : Nat → Prop} {γ : G} {x : V} {v : Value} (h : VRel w M γ x v) : v.oneCell' = true := by
  cases x with
  | d x => exact DRel.one h
  | ptr s off => obtain ⟨b, _, rfl⟩ := h; rfl
  | sub s k off len =>
    rcases h with ⟨_, _, _, _, _, rfl, _⟩ | ⟨_, _, _, rfl⟩ | ⟨_, _, _, _, rfl⟩ <;> rfl
  | pim ds => obtain ⟨_, rfl, _⟩ := h; rfl
  | clo f caps => obtain ⟨_, rfl, _⟩ := h; rfl
  | mp s => obtain ⟨_, _, rfl⟩ := h; rfl
  | mapc es => exact h.elim
  | any => exact h

/-- Cells, one by one. -/
def CsRel (w : World) (M : Nat → Prop) (γ : G) (cs : List V) (vs : List Value) : Prop :=
  cs.length = vs.length ∧ ∀ (i : Nat) (x : V) (u : Value), cs[i]? = some x → vs[i]? = some u → VRel w M γ x u

def ERel (w : World) (M : Nat → Prop) (γ : G) : E → Value → Prop
  | .c x, v => VRel w M γ x v
  | .agg xs, v => ∃ us : List Value, v = .agg us.toArray ∧ CsRel w M γ xs us

def EsRel (w : World) (M : Nat → Prop) (γ : G) (xs : List E) (vs : List Value) : Prop :=
  xs.length = vs.length ∧ ∀ (i : Nat) (x : E) (u : Value), xs[i]? = some x → vs[i]? = some u → ERel w M γ x u

def TRel (w : World) (M : Nat → Prop) (γ : G) : T → Value → Prop
  | .e x, v => ERel w M γ x v
  | .tup xs, v => ∃ us : List Value, v = .tuple us.toArray ∧ EsRel w M γ xs us
  | .any, _ => True

/-- What is asked of two worlds so that every relation of the first holds in the second, under γ and γ'. -/
structure Carry (M : Nat → Prop) (γ γ' : G) (w w' : World) : Prop where
  size : w.heap.size ≤ w'.heap.size
  stable : ∀ b, stab w M γ b → w'.heap[b]? = w.heap[b]?
  stays : ∀ b, stab w M γ b → ∀ s, γ' s ≠ some (some b)
  shape : ∀ (b : Nat) (cells : Array Value) (t : TypeId), w.heap[b]? = some (.cells cells t (0, 0)) → ∃ cells' : Array Value, w'.heap[b]? = some (.cells cells' t (0, 0)) ∧ cells'.size = cells.size

theorem Carry.stab {M : Nat → Prop} {γ γ' : G} {w w' : World} (h : Carry M γ γ' w w') (b : Nat) (hb : stab w M γ b) : stab w' M γ' b :=
  ⟨Nat.lt_of_lt_of_le hb.1 h.size, hb.2.1, h.stays b hb⟩

theorem DRel.carry {M : Nat → Prop} {γ γ' : G} {w w' : World} (h : Carry M γ γ' w w') {x : D} {v : Value} (hx : DRel w (Ab.stab w M γ) x v) :
    DRel w' (Ab.stab w' M γ') x v := hx.mono h.stab h.stable

/-- The labels that a cell's content names. -/
def V.names : V → Nat → Prop
  | .ptr s _, t => s = t
  | .sub s _ _ _, t => s = t
  | .clo _ caps, t => ∃ p ∈ caps, p.1 = t
  | .mp s, t => s = t
  | _, _ => False

theorem VRel.carry {M : Nat → Prop} {γ γ' : G} {w w' : World} (h : Carry M γ γ' w w') {x : V} {v : Value} (hx : VRel w M γ x v)
    (hn : ∀ s, x.names s → γ' s = γ s) : VRel w' M γ' x v := by
  cases x with
  | d x => exact DRel.carry h hx
  | ptr s off =>
    obtain ⟨b, hb, e⟩ := hx
    exact ⟨b, (hn s rfl).trans hb, e⟩
  | sub s k off len =>
    rcases hx with ⟨b, cap, cells, t, hb, e, h1, h2, h3, h4⟩ | ⟨h1, h2⟩ | ⟨b, o, h1, h2⟩
    · obtain ⟨cells', h5, h6⟩ := h.shape b cells t h3
      exact .inl ⟨b, cap, cells', t, (hn s rfl).trans hb, e, h1, h2, h5, by omega⟩
    · exact .inr (.inl ⟨(hn s rfl).trans h1, h2⟩)
    · exact .inr (.inr ⟨b, o, (hn s rfl).trans h1, h2⟩)
  | pim ds =>
    obtain ⟨a, e, hsp, hst, hd⟩ := hx
    refine ⟨a, e, hsp, h.stab _ hst, fun j x hj => ?_⟩
    obtain ⟨u, hu, hr⟩ := hd j x hj
    refine ⟨u, ?_, hr.carry h⟩
    rw [cell_congr (w := w)]
    · exact hu
    · rw [block_add]; exact h.stable _ hst
  | clo f caps =>
    obtain ⟨cs, e, hl, hc⟩ := hx
    refine ⟨cs, e, hl, fun i p c hp hcc => ?_⟩
    obtain ⟨b, hb, e'⟩ := hc i p c hp hcc
    exact ⟨b, (hn p.1 ⟨p, List.mem_of_getElem? hp, rfl⟩).trans hb, e'⟩
  | mp s =>
    obtain ⟨b, hb, e⟩ := hx
    exact ⟨b, (hn s rfl).trans hb, e⟩
  | mapc es => exact hx.elim
  | any => exact hx

def E.names : E → Nat → Prop
  | .c x, t => x.names t
  | .agg xs, t => ∃ x ∈ xs, x.names t

def T.names : T → Nat → Prop
  | .e x, t => x.names t
  | .tup xs, t => ∃ x ∈ xs, x.names t
  | .any, _ => False

theorem CsRel.carry {M : Nat → Prop} {γ γ' : G} {w w' : World} (h : Carry M γ γ' w w') {xs : List V} {vs : List Value} (hx : CsRel w M γ xs vs)
    (hn : ∀ s, (∃ x ∈ xs, x.names s) → γ' s = γ s) : CsRel w' M γ' xs vs :=
  ⟨hx.1, fun i x u hi hu => (hx.2 i x u hi hu).carry h fun s hs => hn s ⟨x, List.mem_of_getElem? hi, hs⟩⟩

theorem ERel.carry {M : Nat → Prop} {γ γ' : G} {w w' : World} (h : Carry M γ γ' w w') {x : E} {v : Value} (hx : ERel w M γ x v)
    (hn : ∀ s, x.names s → γ' s = γ s) : ERel w' M γ' x v := by
  cases x with
  | c x => exact VRel.carry h hx hn
  | agg xs =>
    obtain ⟨us, e, hc⟩ := hx
    exact ⟨us, e, hc.carry h hn⟩

theorem TRel.carry {M : Nat → Prop} {γ γ' : G} {w w' : World} (h : Carry M γ γ' w w') {x : T} {v : Value} (hx : TRel w M γ x v)
    (hn : ∀ s, x.names s → γ' s = γ s) : TRel w' M γ' x v := by
  cases x with
  | e x => exact ERel.carry h hx hn
  | tup xs =>
    obtain ⟨us, e, hl, hc⟩ := hx
    exact ⟨us, e, hl, fun i x u hi hu => (hc i x u hi hu).carry h fun s hs => hn s ⟨x, List.mem_of_getElem? hi, hs⟩⟩
  | any => trivial

/-- The own blocks. -/
structure Mem (M : Nat → Prop) (γ : G) (H : Heap) (w : World) : Prop where
  low : ∀ b, M b → b < w.heap.size
  inj : ∀ s t b, γ s = some (some b) → γ t = some (some b) → s = t
  nm : ∀ s b, γ s = some (some b) → ¬ M b
  dom : ∀ s, H s = none → γ s = none
  blk : ∀ s cs, H s = some cs →
    (∃ (b : Nat) (t : TypeId) (vs spare : List Value), γ s = some (some b) ∧ w.heap[b]? = some (.cells (vs ++ spare).toArray t (0, 0)) ∧ CsRel w M γ cs vs) ∨
    (γ s = some none ∧ cs = []) ∨
    (∃ (b : Nat) (ents : Array MapEntry) (clk : Nat), γ s = some (some b) ∧ w.heap[b]? = some (.map ents clk) ∧ cs = [.mapc (ents.toList.map fun e => (e.key, e.val))])

theorem lt_of_heap {w : World} {b : Nat} {o : Obj} (h : w.heap[b]? = some o) : b < w.heap.size := (Array.getElem?_eq_some_iff.1 h).1

theorem Mem.lt {M : Nat → Prop} {γ : G} {H : Heap} {w : World} (h : Mem M γ H w) {s b : Nat} (hs : γ s = some (some b)) : b < w.heap.size := by
  cases hH : H s with
  | none => rw [h.dom s hH] at hs; cases hs
  | some cs =>
    rcases h.blk s cs hH with ⟨b', t, vs, sp, hg, hb, _⟩ | ⟨hg, _⟩ | ⟨b', en, clk, hg, hb, _⟩
    · rw [hg] at hs; cases hs; exact lt_of_heap hb
    · rw [hg] at hs; cases hs
    · rw [hg] at hs; cases hs; exact lt_of_heap hb

/-- The world has only grown, but for the blocks of Pin, which have kept their shape. -/
structure Keep (Pin : Nat → Prop) (w w' : World) : Prop where
  os : w'.os = w.os
  tape : w'.tape = w.tape
  output : w'.output = w.output
  drawn : w.drawn ≤ w'.drawn
  size : w.heap.size ≤ w'.heap.size
  same : ∀ b, b < w.heap.size → ¬ Pin b → w'.heap[b]? = w.heap[b]?
  shape : ∀ (b : Nat) (cells : Array Value) (t : TypeId), w.heap[b]? = some (.cells cells t (0, 0)) → ∃ cells' : Array Value, w'.heap[b]? = some (.cells cells' t (0, 0)) ∧ cells'.size = cells.size

theorem Keep.refl (Pin : Nat → Prop) (w : World) : Keep Pin w w := ⟨rfl, rfl, rfl, Nat.le_refl _, Nat.le_refl _, fun _ _ _ => rfl, fun _ cells _ h => ⟨cells, h, rfl⟩⟩

theorem Keep.trans {P1 P2 P3 : Nat → Prop} {a b c : World} (h : Keep P1 a b) (k : Keep P2 b c) (h1 : ∀ x, x < a.heap.size → P1 x → P3 x) (h2 : ∀ x, x < a.heap.size → P2 x → P3 x) : Keep P3 a c :=
  ⟨k.os.trans h.os, k.tape.trans h.tape, k.output.trans h.output, Nat.le_trans h.drawn k.drawn, Nat.le_trans h.size k.size,
    fun x hx hn => (k.same x (Nat.lt_of_lt_of_le hx h.size) (fun hp => hn (h2 x hx hp))).trans (h.same x hx (fun hp => hn (h1 x hx hp))),
    fun x cells t hc => by
      obtain ⟨c1, e1, s1⟩ := h.shape x cells t hc
      obtain ⟨c2, e2, s2⟩ := k.shape x c1 t e1
      exact ⟨c2, e2, s2.trans s1⟩⟩

def nobody : Nat → Prop := fun _ => False

theorem Keep.carry {M Pin : Nat → Prop} {γ : G} {w w' : World} (h : Keep Pin w w') (hp : ∀ b, stab w M γ b → ¬ Pin b) : Carry M γ γ w w' :=
  ⟨h.size, fun b hb => h.same b hb.1 (hp b hb), fun _ hb => hb.2.2, h.shape⟩

theorem Keep.carry0 {M : Nat → Prop} {γ : G} {w w' : World} (h : Keep nobody w w') : Carry M γ γ w w' := h.carry fun _ _ hp => hp

theorem Mem.keep0 {M : Nat → Prop} {γ : G} {H : Heap} {w w' : World} (h : Mem M γ H w) (k : Keep nobody w w') : Mem M γ H w' where
  low b hb := Nat.lt_of_lt_of_le (h.low b hb) k.size
  inj := h.inj
  nm := h.nm
  dom := h.dom
  blk s cs hs := by
    rcases h.blk s cs hs with ⟨b, t, vs, sp, hg, hb, hc⟩ | h0 | ⟨b, en, clk, hg, hb, hc⟩
    · exact .inl ⟨b, t, vs, sp, hg, (k.same b (lt_of_heap hb) (fun x => x)).trans hb, hc.carry k.carry0 fun _ _ => rfl⟩
    · exact .inr (.inl h0)
    · exact .inr (.inr ⟨b, en, clk, hg, (k.same b (lt_of_heap hb) (fun x => x)).trans hb, hc⟩)

/-- The context of a call. -/
structure Ctx where
  M : Nat → Prop
  Pin : Nat → Prop
  w0 : World
  γ0 : G
  stay : Nat → Prop
  nt : Nat

structure RelAt (C : Ctx) (γ : G) (σ : St) (a : Act) (w : World) : Prop where
  mem : Mem C.M γ σ.heap w
  env : ∀ i, TRel w C.M γ (σ.env i) (a.tmps.getD i undef)
  keep : Keep C.Pin C.w0 w
  own : ∀ s b, γ s = some (some b) → C.Pin b ∨ C.w0.heap.size ≤ b
  stay : ∀ s, C.stay s → γ s = C.γ0 s
  defers : a.defers = []
  size : a.tmps.size = C.nt

def Rel (C : Ctx) (σ : St) (a : Act) (w : World) : Prop := ∃ γ, RelAt C γ σ a w

def upd (f : Nat → T) (i : Nat) (r : T) : Nat → T := fun j => if j = i then r else f j
def updH (f : Heap) (i : Nat) (r : Option (List V)) : Heap := fun j => if j = i then r else f j

def St.put (σ : St) (d : Option Nat) (r : T) : St := match d with | some i => { σ with env := upd σ.env i r } | none => σ

end Go.Ab
end

section
namespace Go.Ab
open Go Go.RowKit

def ofVal : Value → T
  | .agg vs => if vs.toList.all (fun v => v.oneCell') then .e (.agg (vs.toList.map fun v => .d (.sc v))) else .any
  | .tuple _ => .any
  | v => .e (.c (.d (.sc v)))

def St.ev (σ : St) : Operand → T
  | .tmp t => σ.env t
  | .const v => ofVal v
  | .func f => .e (.c (.clo f []))
  | .global _ => .any

theorem ofVal_rel (w : World) (M : Nat → Prop) (γ : G) (v : Value) : TRel w M γ (ofVal v) v := by
  cases v
  case agg vs =>
    simp only [ofVal]
    split
    · rename_i h
      rw [List.all_eq_true] at h
      refine ⟨vs.toList, by simp, by simp, fun i x u hx hu => ?_⟩
      rw [List.getElem?_map, hu] at hx
      simp only [Option.map_some, Option.some.injEq] at hx
      subst hx
      exact DRel.sc _ (h u (List.mem_of_getElem? hu))
    · trivial
  all_goals first | trivial | exact DRel.sc _ rfl

theorem RelAt.ev {C : Ctx} {γ : G} {σ : St} {a : Act} {w : World} (h : RelAt C γ σ a w) (x : Operand) : TRel w C.M γ (σ.ev x) (a.eval x) := by
  match x with
  | .tmp t => exact h.env t
  | .const v => exact ofVal_rel _ _ _ v
  | .func f => exact ⟨[], rfl, rfl, fun i p c hp => by simp at hp⟩
  | .global g => trivial

/-- An operation that touches no own block: whatever the memory, it yields a value that reads as r, and all that was there stays. -/
def PureOK (P : Program) (o : Oper) (ev : Operand → T) (r : T) : Prop :=
  ∀ (M : Nat → Prop) (γ : G) (H : Heap) (w : World) (a : Act), Mem M γ H w → (∀ x ∈ o.op.operands.toList, TRel w M γ (ev x) (a.eval x)) →
    ∀ (K : Act → World → Prop) (Q : Exit → Act → World → Prop), (∀ v w', Keep nobody w w' → TRel w' M γ r v → K (a.put o.dst v) w') → o.wp P a w K Q

theorem PureOK.congr {P : Program} {o : Oper} {ev ev' : Operand → T} {r : T} (h : PureOK P o ev r) (he : ∀ x ∈ o.op.operands.toList, ev' x = ev x) : PureOK P o ev' r :=
  fun M γ H w a hm hx K Q hK => h M γ H w a hm (fun x hx' => by rw [← he x hx']; exact hx x hx') K Q hK

theorem wp_value {P : Program} {o : Oper} {a : Act} {w w' : World} {v : Value} {K : Act → World → Prop} {Q : Exit → Act → World → Prop}
    (h : (execOp a.eval o).run P w = .ok (.value v) w') (hk : K (a.put o.dst v) w') : o.wp P a w K Q := by
  unfold Oper.wp; rw [h]; exact hk

theorem wp_skipped {P : Program} {o : Oper} {a : Act} {w w' : World} {K : Act → World → Prop} {Q : Exit → Act → World → Prop}
    (h : (execOp a.eval o).run P w = .ok .skip w') (hk : K (a.put o.dst undef) w') : o.wp P a w K Q := by
  unfold Oper.wp; rw [h]; exact hk

/-- The usual case: the world stays as it is. -/
theorem pure_same {P : Program} {o : Oper} {ev : Operand → T} {r : T}
    (h : ∀ (M : Nat → Prop) (γ : G) (H : Heap) (w : World) (a : Act), Mem M γ H w → (∀ x ∈ o.op.operands.toList, TRel w M γ (ev x) (a.eval x)) →
      ∃ v, (execOp a.eval o).run P w = .ok (.value v) w ∧ TRel w M γ r v) : PureOK P o ev r :=
  fun M γ H w a hm hx K Q hK => by
    obtain ⟨v, he, hr⟩ := h M γ H w a hm hx
    exact wp_value he (hK v w (Keep.refl _ _) hr)

/- the types -/
def tsz (P : Program) (t : TypeId) : Option Nat := (P.info? t).map (·.size)
def tby (P : Program) (t : TypeId) : Option Nat := (P.info? t).map (·.bytes)
def tzero (P : Program) (t : TypeId) : Option (List Value) := (P.info? t).bind fun i => i.zero.map (·.cells.toList)
def tag (P : Program) (t : TypeId) : Option Bool := (P.underlying t).map fun d => match d with | .struct _ | .array _ _ => true | _ => false
def tfld (P : Program) (t : TypeId) (f : Nat) : Option (Nat × TypeId) :=
  match P.underlying t with
  | some (.struct fs) => (fs[f]?).map fun f => (f.offset, f.type)
  | _ => none
def tsl (P : Program) (t : TypeId) : Option TypeId := match P.underlying t with | some (.slice e) => some e | _ => none
def tarr (P : Program) (t : TypeId) : Option (Nat × TypeId) := match P.underlying t with | some (.array n e) => some (n, e) | _ => none
def tint (P : Program) (t : TypeId) : Option IntKind := match P.underlying t with | some (.int k) => some k | _ => none
def tbool (P : Program) (t : TypeId) : Bool := match P.underlying t with | some .bool => true | _ => false
def tstr (P : Program) (t : TypeId) : Bool := match P.underlying t with | some .string => true | _ => false

theorem tsl_some {P : Program} {t e : TypeId} (h : tsl P t = some e) : P.underlying t = some (.slice e) := by
  unfold tsl at h; split at h <;> simp_all
theorem tarr_some {P : Program} {t e : TypeId} {n : Nat} (h : tarr P t = some (n, e)) : P.underlying t = some (.array n e) := by
  unfold tarr at h; split at h <;> simp_all
theorem tint_some {P : Program} {t : TypeId} {k : IntKind} (h : tint P t = some k) : P.underlying t = some (.int k) := by
  unfold tint at h; split at h <;> simp_all
theorem tbool_true {P : Program} {t : TypeId} (h : tbool P t = true) : P.underlying t = some .bool := by
  unfold tbool at h; split at h <;> simp_all
theorem tstr_true {P : Program} {t : TypeId} (h : tstr P t = true) : P.underlying t = some .string := by
  unfold tstr at h; split at h <;> simp_all
theorem tsz_some {P : Program} {t : TypeId} {n : Nat} (h : tsz P t = some n) (w : World) : (sizeOf t).run P w = .ok n w := by
  unfold tsz at h
  cases hi : P.info? t with
  | none => simp [hi] at h
  | some i => simp [hi] at h; simp [sizeOf, typeInfo, hi, h]
theorem tag_some {P : Program} {t : TypeId} {b : Bool} (h : tag P t = some b) (w : World) : (isAgg t).run P w = .ok b w := by
  unfold tag at h
  cases hi : P.underlying t with
  | none => simp [hi] at h
  | some d =>
    simp [hi] at h
    rw [← h]
    cases d <;> simp [isAgg, run_underlying hi]
theorem tfld_some {P : Program} {t : TypeId} {f off : Nat} {ft : TypeId} (h : tfld P t f = some (off, ft)) :
    ∃ (fs : Array Field) (fd : Field), P.underlying t = some (.struct fs) ∧ fs[f]? = some fd ∧ fd.offset = off ∧ fd.type = ft := by
  unfold tfld at h
  split at h
  · rename_i fs hu
    cases hf : fs[f]? with
    | none => simp [hf] at h
    | some fd => simp [hf] at h; exact ⟨fs, fd, hu, hf, h.1, h.2⟩
  · cases h
theorem tzero_some {P : Program} {t : TypeId} {cs : List Value} (h : tzero P t = some cs) (w : World) : ∃ z, (zeroValue t).run P w = .ok z w ∧ z.cells.toList = cs := by
  unfold tzero at h
  cases hi : P.info? t with
  | none => simp [hi] at h
  | some i =>
    cases hz : i.zero with
    | none => simp [hi, hz] at h
    | some z => simp [hi, hz] at h; exact ⟨z, by simp [zeroValue, typeInfo, hi, hz], h⟩

/- moves -/
theorem pure_move {P : Program} {o : Oper} {ev : Operand → T} (x : Operand) (ho : o.op = .move x) : PureOK P o ev (ev x) :=
  pure_same fun M γ H w a _ hx => ⟨a.eval x, by simp [execOp, ho], hx x (by simp [ho, Op.operands])⟩
theorem pure_assign {P : Program} {o : Oper} {ev : Operand → T} (x : Operand) (ho : o.op = .assign x) : PureOK P o ev (ev x) :=
  pure_same fun M γ H w a _ hx => ⟨a.eval x, by simp [execOp, ho], hx x (by simp [ho, Op.operands])⟩

theorem sc_inv {w : World} {M : Nat → Prop} {γ : G} {v u : Value} (h : TRel w M γ (.e (.c (.d (.sc v)))) u) : u = v := by
  cases h; rfl

theorem pure_pick {P : Program} {o : Oper} {ev : Operand → T} (c x y : Operand) (ho : o.op = .pick c x y) (t : Bool) (hc : ev c = .e (.c (.d (.sc (.bool t))))) :
    PureOK P o ev (if t then ev x else ev y) :=
  pure_same fun M γ H w a _ hx => by
    have h1 := hx c (by simp [ho, Op.operands])
    rw [hc] at h1
    have h2 := sc_inv h1
    have hxx := hx x (by simp [ho, Op.operands])
    have hyy := hx y (by simp [ho, Op.operands])
    refine ⟨if t then a.eval x else a.eval y, ?_, ?_⟩
    · simp [execOp, ho, h2, asBool]
    · cases t <;> simpa

/- scalars -/
def binV (P : Program) (op : BinOp) (t : TypeId) : Value → Value → Option Value
  | .int k a, .int k' b =>
    match op with
    | .shl => if b < 0 then none else some (.int k (k.wrap (a * 2 ^ min b.toNat k.bits)))
    | .shr => if b < 0 then none else some (.int k (a.fdiv (2 ^ min b.toNat k.bits)))
    | .add => if k = k' then some (.int k (k.wrap (a + b))) else none
    | .sub => if k = k' then some (.int k (k.wrap (a - b))) else none
    | .mul => if k = k' then some (.int k (k.wrap (a * b))) else none
    | .quo => if k = k' ∧ b ≠ 0 then some (.int k (k.wrap (a.tdiv b))) else none
    | .rem => if k = k' ∧ b ≠ 0 then some (.int k (a.tmod b)) else none
    | .and => if k = k' then some (.int k (k.wrap (BitVec.ofInt k.bits a &&& BitVec.ofInt k.bits b).toNat)) else none
    | .or => if k = k' then some (.int k (k.wrap (BitVec.ofInt k.bits a ||| BitVec.ofInt k.bits b).toNat)) else none
    | .xor => if k = k' then some (.int k (k.wrap (BitVec.ofInt k.bits a ^^^ BitVec.ofInt k.bits b).toNat)) else none
    | .andNot => none
    | .eql => if k = k' then some (.bool (a == b)) else none
    | .neq => if k = k' then some (.bool (a != b)) else none
    | .lss => if k = k' then some (.bool (decide (a < b))) else none
    | .leq => if k = k' then some (.bool (decide (a ≤ b))) else none
    | .gtr => if k = k' then some (.bool (decide (b < a))) else none
    | .geq => if k = k' then some (.bool (decide (b ≤ a))) else none
  | .bool a, .bool b =>
    match op with
    | .eql => if tbool P t then some (.bool (a == b)) else none
    | .neq => if tbool P t then some (.bool (!(a == b))) else none
    | _ => none
  | .string a, .string b =>
    match op with
    | .eql => some (.bool (a.toList == b.toList))
    | .neq => some (.bool (!(a.toList == b.toList)))
    | _ => none
  | _, _ => none

theorem binV_one {P : Program} {op : BinOp} {t : TypeId} {x y v : Value} (h : binV P op t x y = some v) : v.oneCell' = true := by
  unfold binV at h
  split at h
  · cases op <;> simp only at h <;> (try split at h) <;> first | (cases h; rfl) | cases h
  · cases op <;> simp only at h <;> (try split at h) <;> first | (cases h; rfl) | cases h
  · cases op <;> simp only at h <;> first | (cases h; rfl) | cases h
  · cases h

theorem run_equal_bool {P : Program} {t : TypeId} (h : P.underlying t = some .bool) (a b : Bool) (w : World) : (Op.equal t (.bool a) (.bool b)).run P w = .ok (a == b) w := by
  have h0 : ∀ d, (Op.equalIn (d + 1) t (.bool a) (.bool b)).run P w = .ok (a == b) w := fun d => by
    simp only [Op.equalIn, Sem.run_bind, run_underlying h, Result.andThen_ok, Sem.run_pure]
  exact h0 9999

theorem binV_run {P : Program} {op : BinOp} {t : TypeId} {x y v : Value} (h : binV P op t x y = some v) (w : World) (ox oy : Operand) :
    (do eqGuard op t ox oy x y; binOp op t x y : Sem Value).run P w = .ok v w := by
  unfold binV at h
  split at h
  · rename_i k a k' b
    have hg : (eqGuard op t ox oy (.int k a) (.int k' b)).run P w = .ok () w := by
      unfold eqGuard; cases op <;> simp
    simp only [Sem.run_bind, hg, Result.andThen_ok]
    cases op <;> simp only at h
    all_goals try split at h
    all_goals first
      | (cases h; done)
      | (rename_i hb; injection h with h; subst h; simp [binOp, Op.shift, hb]; done)
      | (injection h with h; subst h; simp_all [binOp, Op.intArith, Op.intDiv, Op.intBits, Op.intCmp]; done)
  · rename_i a b
    have hg : (eqGuard op t ox oy (.bool a) (.bool b)).run P w = .ok () w := by
      unfold eqGuard; cases op <;> simp
    simp only [Sem.run_bind, hg, Result.andThen_ok]
    cases op <;> simp only at h
    all_goals first
      | (cases h; done)
      | (split at h
         · rename_i hb
           injection h with h; subst h
           simp only [binOp, Sem.run_bind, run_equal_bool (tbool_true hb), Result.andThen_ok, Sem.run_pure]
         · cases h)
  · rename_i a b
    have hg : (eqGuard op t ox oy (.string a) (.string b)).run P w = .ok () w := by
      unfold eqGuard; cases op <;> simp
    simp only [Sem.run_bind, hg, Result.andThen_ok]
    cases op <;> simp only at h
    all_goals first
      | (cases h; done)
      | (injection h with h; subst h; simp [binOp, Op.stringOp]; done)
  · cases h

theorem pure_bin {P : Program} {o : Oper} {ev : Operand → T} (op : BinOp) (t : TypeId) (x y : Operand) (ty : TypeId) (ho : o.op = .binOp op t x y ty) (vx vy v : Value)
    (hx : ev x = .e (.c (.d (.sc vx)))) (hy : ev y = .e (.c (.d (.sc vy)))) (hv : binV P op t vx vy = some v) : PureOK P o ev (.e (.c (.d (.sc v)))) :=
  pure_same fun M γ H w a _ h => by
    have h1 := h x (by simp [ho, Op.operands])
    have h2 := h y (by simp [ho, Op.operands])
    rw [hx] at h1
    rw [hy] at h2
    refine ⟨v, ?_, .sc v (binV_one hv)⟩
    have := binV_run hv w x y
    simp only [execOp, ho, sc_inv h1, sc_inv h2]
    rw [Sem.run_bind, this]
    rfl

def unV : UnOp → Value → Option Value
  | .not, .bool b => some (.bool (!b))
  | .neg, .int k n => some (.int k (k.wrap (0 - n)))
  | .xor, .int k n => some (.int k (k.wrap (BitVec.ofInt k.bits (if k.signed then -1 else k.max) ^^^ BitVec.ofInt k.bits n).toNat))
  | _, _ => none

theorem pure_un {P : Program} {o : Oper} {ev : Operand → T} (op : UnOp) (t : TypeId) (x : Operand) (ho : o.op = .unOp op t x) (vx v : Value)
    (hx : ev x = .e (.c (.d (.sc vx)))) (hv : unV op vx = some v) : PureOK P o ev (.e (.c (.d (.sc v)))) :=
  pure_same fun M γ H w a _ h => by
    have h1 := h x (by simp [ho, Op.operands])
    rw [hx] at h1
    refine ⟨v, ?_, ?_⟩
    · simp only [execOp, ho, sc_inv h1]
      unfold unV at hv
      split at hv <;> first | (injection hv with hv; subst hv; simp [Op.unary, Op.intArith, Op.intBits]; done) | cases hv
    · unfold unV at hv
      split at hv <;> first | (injection hv with hv; subst hv; exact .sc _ rfl) | cases hv

theorem pure_conv {P : Program} {o : Oper} {ev : Operand → T} (src dst : TypeId) (x : Operand) (ho : o.op = .convert src dst x) (k k' : IntKind) (n : Int)
    (hx : ev x = .e (.c (.d (.sc (.int k n))))) (hs : (tint P src).isSome = true) (hd : tint P dst = some k') : PureOK P o ev (.e (.c (.d (.sc (.int k' (k'.wrap n)))))) :=
  pure_same fun M γ H w a _ h => by
    have h1 := h x (by simp [ho, Op.operands])
    rw [hx] at h1
    obtain ⟨k0, hs⟩ := Option.isSome_iff_exists.1 hs
    refine ⟨_, ?_, .sc _ rfl⟩
    simp [execOp, ho, sc_inv h1, convert, run_underlying (tint_some hs), run_underlying (tint_some hd), Conv.intToInt]

end Go.Ab
end

section
namespace Go.Ab
open Go Go.RowKit

theorem CsRel.drop {w : World} {M : Nat → Prop} {γ : G} {cs : List V} {vs : List Value} (h : CsRel w M γ cs vs) (n : Nat) : CsRel w M γ (cs.drop n) (vs.drop n) :=
  ⟨by simp [h.1], fun i x u hx hu => by
    rw [List.getElem?_drop] at hx hu
    exact h.2 _ x u hx hu⟩
theorem CsRel.take {w : World} {M : Nat → Prop} {γ : G} {cs : List V} {vs : List Value} (h : CsRel w M γ cs vs) (n : Nat) : CsRel w M γ (cs.take n) (vs.take n) :=
  ⟨by simp [h.1], fun i x u hx hu => by
    rw [List.getElem?_take] at hx hu
    split at hx <;> simp_all
    exact h.2 _ x u hx hu⟩
theorem CsRel.append {w : World} {M : Nat → Prop} {γ : G} {cs ds : List V} {vs us : List Value} (h : CsRel w M γ cs vs) (h' : CsRel w M γ ds us) : CsRel w M γ (cs ++ ds) (vs ++ us) :=
  ⟨by simp [h.1, h'.1], fun i x u hx hu => by
    rw [List.getElem?_append] at hx hu
    have h1 := h.1
    by_cases hi : i < cs.length
    · rw [if_pos hi] at hx
      rw [if_pos (by omega)] at hu
      exact h.2 _ x u hx hu
    · rw [if_neg hi] at hx
      rw [if_neg (by omega)] at hu
      rw [h1] at hx
      exact h'.2 _ x u hx hu⟩
theorem CsRel.nil {w : World} {M : Nat → Prop} {γ : G} : CsRel w M γ [] [] := ⟨rfl, fun i x u hx => by simp at hx⟩
theorem CsRel.one {w : World} {M : Nat → Prop} {γ : G} {x : V} {u : Value} (h : VRel w M γ x u) : CsRel w M γ [x] [u] :=
  ⟨rfl, fun i y v hy hv => by
    rcases i with _ | i
    · simp at hy hv; subst hy; subst hv; exact h
    · simp at hy⟩
theorem CsRel.at_ {w : World} {M : Nat → Prop} {γ : G} {cs : List V} {vs : List Value} (h : CsRel w M γ cs vs) {i : Nat} {x : V} (hx : cs[i]? = some x) : ∃ u, vs[i]? = some u ∧ VRel w M γ x u := by
  have hi : i < cs.length := (List.getElem?_eq_some_iff.1 hx).1
  have hi' : i < vs.length := by have := h.1; omega
  exact ⟨vs[i], List.getElem?_eq_getElem hi', h.2 i x _ hx (List.getElem?_eq_getElem hi')⟩
theorem CsRel.ones {w : World} {M : Nat → Prop} {γ : G} {cs : List V} {vs : List Value} (h : CsRel w M γ cs vs) : ∀ u ∈ vs, u.oneCell' = true := by
  intro u hu
  obtain ⟨i, hi, rfl⟩ := List.getElem_of_mem hu
  have hc : i < cs.length := by have := h.1; omega
  exact (h.2 i cs[i] vs[i] (List.getElem?_eq_getElem hc) (List.getElem?_eq_getElem hi)).one

def E.cells : E → List V
  | .c x => [x]
  | .agg xs => xs

theorem ERel.cells {w : World} {M : Nat → Prop} {γ : G} {x : E} {v : Value} (h : ERel w M γ x v) : CsRel w M γ x.cells v.cells.toList := by
  cases x with
  | c x =>
    have h1 := VRel.one h
    have : v.cells.toList = [v] := by cases v <;> first | rfl | (simp [Value.oneCell'] at h1)
    rw [this]
    exact CsRel.one h
  | agg xs =>
    obtain ⟨us, rfl, hc⟩ := h
    exact hc

/- field addresses -/
def faV (off : Nat) : T → Option T
  | .e (.c (.ptr s o)) => some (.e (.c (.ptr s (o + off))))
  | .e (.c (.pim ds)) => some (.e (.c (.pim (ds.drop off))))
  | _ => none

theorem addr_rel {w : World} {M : Nat → Prop} {γ : G} {off : Nat} {x r : T} {v : Value} (h : faV off x = some r) (hx : TRel w M γ x v) :
    ∃ a : Addr, v = .pointer (some a) ∧ TRel w M γ r (.pointer (some (a.add off))) := by
  unfold faV at h
  split at h
  · injection h with h; subst h
    obtain ⟨b, hb, rfl⟩ := hx
    exact ⟨_, rfl, b, hb, by rw [mk_add]⟩
  · injection h with h; subst h
    obtain ⟨a, rfl, hsp, hst, hd⟩ := hx
    refine ⟨a, rfl, a.add off, rfl, spot_add a off hsp, by rw [block_add]; exact hst, fun j x hj => ?_⟩
    rw [List.getElem?_drop] at hj
    obtain ⟨u, hu, hr⟩ := hd _ x hj
    exact ⟨u, by rw [add_add]; exact hu, hr⟩
  · cases h

theorem pure_fieldAddr {P : Program} {o : Oper} {ev : Operand → T} (s : TypeId) (x : Operand) (f : Nat) (ho : o.op = .fieldAddr s x f) (off : Nat) (ft : TypeId) (n : Nat)
    (hf : tfld P s f = some (off, ft)) (hs : tsz P ft = some (n + 1)) (r : T) (hx : faV off (ev x) = some r) : PureOK P o ev r :=
  pure_same fun M γ H w a _ h => by
    obtain ⟨fs, fd, hu, hfd, h1, h2⟩ := tfld_some hf
    obtain ⟨ad, e, hr⟩ := addr_rel hx (h x (by simp [ho, Op.operands]))
    refine ⟨_, ?_, hr⟩
    have hz := tsz_some hs w
    rw [← h2] at hz
    simp [execOp, ho, Instr.fieldAt, run_underlying hu, hfd, e, Instr.sureAddr, fieldPlace, hz, h1]

/- an element's address -/
def ixV (size : Nat) (i : Int) : T → Option T
  | .e (.c (.sub s k off len)) => if 0 ≤ i ∧ i < len ∧ k = size then some (.e (.c (.ptr s (off + i.toNat * k)))) else none
  | .e (.c (.d (.sl es))) =>
    if 0 ≤ i then
      match es[i.toNat]? with
      | some r => if r.length = size then some (.e (.c (.pim r))) else none
      | none => none
    else none
  | _ => none

theorem pure_indexAddr {P : Program} {o : Oper} {ev : Operand → T} (t : TypeId) (x ix : Operand) (ho : o.op = .indexAddr t x ix) (e : TypeId) (n : Nat) (k : IntKind) (i : Int)
    (ht : tsl P t = some e) (hs : tsz P e = some n) (hi : ev ix = .e (.c (.d (.sc (.int k i))))) (r : T) (hx : ixV n i (ev x) = some r) : PureOK P o ev r :=
  pure_same fun M γ H w a _ h => by
    have h1 := h x (by simp [ho, Op.operands])
    have h2 := h ix (by simp [ho, Op.operands])
    rw [hi] at h2
    have h2 := sc_inv h2
    unfold ixV at hx
    split at hx
    · rename_i s k' off len hxx
      split at hx
      · rename_i hc
        obtain ⟨c1, c2, rfl⟩ := hc
        injection hx with hx; subst hx
        rw [hxx] at h1
        rcases h1 with ⟨b, cap, cells, ty, hb, e1, _⟩ | ⟨_, _, h0, _⟩ | ⟨_, _, _, h0, _⟩
        · refine ⟨_, ?_, b, hb, rfl⟩
          have hcl : (0 : Int) ≤ i ∧ i < (len : Int) := ⟨c1, c2⟩
          simp [execOp, ho, Instr.indexAt, h2, asIntOf, run_underlying (tsl_some ht), e1, tsz_some hs, mk_add, hcl]
        · omega
        · omega
      · cases hx
    · rename_i es hxx
      split at hx
      · rename_i c1
        split at hx
        · rename_i r' hr
          split at hx
          · rename_i hl
            injection hx with hx; subst hx
            rw [hxx] at h1
            generalize hva : a.eval x = va at h1
            cases h1 with
            | sl _ kk cap A U hcap hmax hrow hA hU =>
              have hlt : i.toNat < es.length := (List.getElem?_eq_some_iff.1 hr).1
              obtain ⟨ad, rfl, hsp, hst, hcell⟩ := hA (by intro h0; rw [h0] at hlt; simp at hlt)
              have hkk : kk = n := by rw [← hrow r' (List.mem_of_getElem? hr), hl]
              subst hkk
              have hcl : (0 : Int) ≤ i ∧ i < (es.length : Int) := ⟨c1, by omega⟩
              refine ⟨.pointer (some (ad.add (i.toNat * kk))), ?_, ad.add (i.toNat * kk), rfl, spot_add _ _ hsp, by rw [block_add]; exact hst, fun j x hj => ?_⟩
              · simp [execOp, ho, Instr.indexAt, h2, asIntOf, run_underlying (tsl_some ht), hva, tsz_some hs, hcl]
              · have hjl : j < kk := by have := (List.getElem?_eq_some_iff.1 hj).1; omega
                refine ⟨U i.toNat j, ?_, hU i.toNat j x (by simp [hr, hj])⟩
                rw [add_add]
                exact hcell _ _ hlt hjl
          · cases hx
        · cases hx
      · cases hx
    · cases hx

theorem pure_indexAddr_array {P : Program} {o : Oper} {ev : Operand → T} (t : TypeId) (x ix : Operand) (ho : o.op = .indexAddr t x ix) (e : TypeId) (n len : Nat) (k : IntKind) (i : Int)
    (ht : tarr P t = some (len, e)) (hs : tsz P e = some n) (hi : ev ix = .e (.c (.d (.sc (.int k i))))) (h0 : 0 ≤ i) (h1 : i < len) (r : T) (hx : faV (i.toNat * n) (ev x) = some r) : PureOK P o ev r :=
  pure_same fun M γ H w a _ h => by
    have h2 := h ix (by simp [ho, Op.operands])
    rw [hi] at h2
    have h2 := sc_inv h2
    obtain ⟨ad, e, hr⟩ := addr_rel hx (h x (by simp [ho, Op.operands]))
    refine ⟨_, ?_, hr⟩
    simp [execOp, ho, Instr.indexAt, h2, asIntOf, run_underlying (tarr_some ht), e, Instr.sureAddr, tsz_some hs, h0, h1]

/- lengths -/
def lenV : T → Option Nat
  | .e (.c (.sub _ _ _ len)) => some len
  | .e (.c (.d (.sl es))) => some es.length
  | .e (.c (.d (.sc (.slice _ n _)))) => some n
  | _ => none

theorem slice_rel {w : World} {M : Nat → Prop} {γ : G} {x : T} {v : Value} {n : Nat} (h : lenV x = some n) (hx : TRel w M γ x v) : ∃ A c, v = .slice A n c := by
  unfold lenV at h
  split at h <;> first | (injection h with h; subst h) | cases h
  · rcases hx with ⟨_, _, _, _, _, rfl, _⟩ | ⟨_, _, rfl, rfl⟩ | ⟨_, _, _, rfl, rfl⟩ <;> exact ⟨_, _, rfl⟩
  · cases hx; exact ⟨_, _, rfl⟩
  · cases hx; exact ⟨_, _, rfl⟩

theorem pure_len {P : Program} {o : Oper} {ev : Operand → T} (t : TypeId) (x : Operand) (ho : o.op = .call { callee := .builtin .len, args := #[x], argTypes := #[t] }) (e : TypeId) (n : Nat)
    (ht : tsl P t = some e) (hx : lenV (ev x) = some n) : PureOK P o ev (.e (.c (.d (.sc (.int .i64 n))))) :=
  pure_same fun M γ H w a _ h => by
    obtain ⟨A, c, hv⟩ := slice_rel hx (h x (by simp [ho, Op.operands, Call.operands]))
    refine ⟨_, ?_, .sc _ rfl⟩
    simp [execOp, ho, resolve, invoke, builtin, Builtin.len_, run_underlying (tsl_some ht), hv, goInt]

theorem pure_len_str {P : Program} {o : Oper} {ev : Operand → T} (t : TypeId) (x : Operand) (ho : o.op = .call { callee := .builtin .len, args := #[x], argTypes := #[t] }) (s : ByteArray)
    (ht : tstr P t = true) (hx : ev x = .e (.c (.d (.sc (.string s))))) : PureOK P o ev (.e (.c (.d (.sc (.int .i64 s.size))))) :=
  pure_same fun M γ H w a _ h => by
    have h1 := h x (by simp [ho, Op.operands, Call.operands])
    rw [hx] at h1
    refine ⟨_, ?_, .sc _ rfl⟩
    simp [execOp, ho, resolve, invoke, builtin, Builtin.len_, run_underlying (tstr_true ht), sc_inv h1, goInt]

theorem pure_extract {P : Program} {o : Oper} {ev : Operand → T} (x : Operand) (i : Nat) (ho : o.op = .extract x i) (xs : List E) (r : E) (hx : ev x = .tup xs) (hr : xs[i]? = some r) : PureOK P o ev (.e r) :=
  pure_same fun M γ H w a _ h => by
    have h1 := h x (by simp [ho, Op.operands])
    rw [hx] at h1
    obtain ⟨us, hv, hl, hu⟩ := h1
    have hi : i < us.length := by have := (List.getElem?_eq_some_iff.1 hr).1; omega
    have hui : us[i]? = some us[i] := List.getElem?_eq_getElem hi
    refine ⟨us[i], ?_, hu i r _ hr hui⟩
    simp [execOp, ho, Instr.extract, hv, hi]

/- aggregates -/
def splice (cs : List V) (off : Nat) (xs : List V) : List V := cs.take off ++ xs ++ cs.drop (off + xs.length)

theorem splice_rel {w : World} {M : Nat → Prop} {γ : G} {cs xs : List V} {vs us : List Value} (off : Nat) (h : CsRel w M γ cs vs) (h' : CsRel w M γ xs us) :
    CsRel w M γ (splice cs off xs) (vs.take off ++ us ++ vs.drop (off + us.length)) := by
  unfold splice
  rw [h'.1]
  exact ((h.take off).append h').append (h.drop _)

theorem foldl_set (us : List Value) : ∀ (off j : Nat) (cs : Array Value), off + j + us.length ≤ cs.size →
    ((us.zipIdx j).foldl (fun cs (c, j) => cs.setIfInBounds (off + j) c) cs).toList = cs.toList.take (off + j) ++ us ++ cs.toList.drop (off + j + us.length) := by
  induction us with
  | nil => intro off j cs _; simp
  | cons u us ih =>
    intro off j cs hl
    simp only [List.zipIdx_cons, List.foldl_cons]
    rw [ih off (j + 1) _ (by simp at hl ⊢; omega)]
    have e := list_seg_step cs.toList (off + j) u us (by simp at hl ⊢; omega)
    simpa [Array.toList_setIfInBounds, Nat.add_assoc] using e

def fillD (place : Nat → Option (Nat × Nat)) (cells : List V) : List (Nat × T) → Option (List V)
  | [] => some cells
  | (i, t) :: rest =>
    match place i, t with
    | some (off, size), .e x => if x.cells.length = size ∧ off + size ≤ cells.length then fillD place (splice cells off x.cells) rest else none
    | _, _ => none

theorem fill_rel {w : World} {M : Nat → Prop} {γ : G} (place : Nat → Option (Nat × Nat)) : ∀ (ps : List (Nat × T)) (qs : List (Nat × Value)) (cells : List V) (vs : List Value) (r : List V),
    ps.length = qs.length → (∀ (i : Nat) (p : Nat × T) (q : Nat × Value), ps[i]? = some p → qs[i]? = some q → p.1 = q.1 ∧ TRel w M γ p.2 q.2) → CsRel w M γ cells vs → fillD place cells ps = some r →
    ∃ us : List Value, Instr.fill place vs.toArray qs = some us.toArray ∧ CsRel w M γ r us := by
  intro ps
  induction ps with
  | nil =>
    intro qs cells vs r hl _ hc hr
    have : qs = [] := List.eq_nil_of_length_eq_zero (by simpa using hl.symm)
    subst this
    simp only [fillD] at hr
    injection hr with hr; subst hr
    exact ⟨vs, rfl, hc⟩
  | cons p ps ih =>
    intro qs cells vs r hl hpq hc hr
    obtain ⟨q, qs, rfl⟩ : ∃ q qs', qs = q :: qs' := by
      cases qs with
      | nil => simp at hl
      | cons q qs => exact ⟨q, qs, rfl⟩
    obtain ⟨i, t⟩ := p
    obtain ⟨j, v⟩ := q
    obtain ⟨h1, h2⟩ := hpq 0 _ _ rfl rfl
    simp only at h1 h2
    subst h1
    simp only [fillD] at hr
    split at hr
    · rename_i off size x hp
      split at hr
      · rename_i hcond
        obtain ⟨c1, c2⟩ := hcond
        have hcs := ERel.cells h2
        have hlen : v.cells.toList.length = size := by rw [← hcs.1, c1]
        have hvl := hc.1
        obtain ⟨us, hus, hrel⟩ := ih qs (splice cells off x.cells) (vs.take off ++ v.cells.toList ++ vs.drop (off + v.cells.toList.length)) r (by simpa using hl)
          (fun i p q hp hq => hpq (i + 1) p q (by simpa using hp) (by simpa using hq)) (splice_rel off hc hcs) hr
        refine ⟨us, ?_, hrel⟩
        simp only [Instr.fill, hp]
        have hsz : v.cells.size = size := by simpa using hlen
        rw [if_neg (by simp; omega)]
        rw [← hus]
        congr 1
        have := foldl_set v.cells.toList off 0 vs.toArray (by simp; omega)
        apply Array.ext'
        rw [← Array.toList_zipIdx, Nat.add_zero] at this
        simp only [Array.foldl_toList] at this
        simpa using this
      · cases hr
    · cases hr

end Go.Ab
end

section
namespace Go.Ab
open Go Go.RowKit

def updG (γ : G) (d : Nat) (b : Option Nat) : G := fun s => if s = d then some b else γ s

theorem PRel.ne {γ : G} {s off : Nat} {v : Value} (h : PRel γ s off v) : γ s ≠ none := by
  obtain ⟨b, h, _⟩ := h; rw [h]; simp

theorem VRel.named {w : World} {M : Nat → Prop} {γ : G} {x : V} {v : Value} (h : VRel w M γ x v) (s : Nat) (hs : x.names s) : γ s ≠ none := by
  cases x with
  | ptr t off => cases hs; exact PRel.ne h
  | sub t k off len =>
    cases hs
    rcases h with ⟨b, _, _, _, h, _⟩ | ⟨h, _⟩ | ⟨b, _, h, _⟩ <;> rw [h] <;> simp
  | clo f caps =>
    obtain ⟨p, hp, rfl⟩ := hs
    obtain ⟨cs, _, hl, hc⟩ := h
    obtain ⟨i, hi, rfl⟩ := List.getElem_of_mem hp
    exact PRel.ne (hc i _ (cs[i]'(by omega)) (List.getElem?_eq_getElem hi) (List.getElem?_eq_getElem (by omega)))
  | mp t => cases hs; obtain ⟨b, h, _⟩ := h; rw [h]; simp
  | mapc es => exact hs.elim
  | d x => exact hs.elim
  | pim ds => exact hs.elim
  | any => exact hs.elim

theorem CsRel.named {w : World} {M : Nat → Prop} {γ : G} {xs : List V} {vs : List Value} (h : CsRel w M γ xs vs) (s : Nat) (hs : ∃ x ∈ xs, x.names s) : γ s ≠ none := by
  obtain ⟨x, hx, hs⟩ := hs
  obtain ⟨i, hi, rfl⟩ := List.getElem_of_mem hx
  obtain ⟨u, _, hr⟩ := h.at_ (List.getElem?_eq_getElem hi)
  exact hr.named s hs

theorem ERel.named {w : World} {M : Nat → Prop} {γ : G} {x : E} {v : Value} (h : ERel w M γ x v) (s : Nat) (hs : x.names s) : γ s ≠ none := by
  cases x with
  | c x => exact VRel.named h s hs
  | agg xs => obtain ⟨us, _, hc⟩ := h; exact hc.named s hs

theorem TRel.named {w : World} {M : Nat → Prop} {γ : G} {x : T} {v : Value} (h : TRel w M γ x v) (s : Nat) (hs : x.names s) : γ s ≠ none := by
  cases x with
  | e x => exact ERel.named h s hs
  | tup xs =>
    obtain ⟨us, _, hl, hc⟩ := h
    obtain ⟨x, hx, hs⟩ := hs
    obtain ⟨i, hi, rfl⟩ := List.getElem_of_mem hx
    exact (hc i _ (us[i]'(by omega)) (List.getElem?_eq_getElem hi) (List.getElem?_eq_getElem (by omega))).named s hs
  | any => exact hs.elim

theorem getD_put (a : Act) (d : Option Nat) (v : Value) (i : Nat) (h : ∀ j, d = some j → j < a.tmps.size) :
    (a.put d v).tmps.getD i undef = if d = some i then v else a.tmps.getD i undef := by
  cases d with
  | none => simp [Act.put]
  | some j =>
    have hj := h j rfl
    by_cases e : j = i
    · subst e; simp [Act.put, hj]
    · simp [Act.put, e]

theorem put_size (a : Act) (d : Option Nat) (v : Value) : (a.put d v).tmps.size = a.tmps.size := by cases d <;> simp [Act.put]
theorem put_defers (a : Act) (d : Option Nat) (v : Value) : (a.put d v).defers = a.defers := by cases d <;> rfl

theorem put_env (σ : St) (d : Option Nat) (r : T) (i : Nat) : (σ.put d r).env i = if d = some i then r else σ.env i := by
  cases d with
  | none => simp [St.put]
  | some j => simp only [St.put, upd, Option.some.injEq]; by_cases e : i = j <;> simp [e, eq_comm]
theorem put_heap (σ : St) (d : Option Nat) (r : T) : (σ.put d r).heap = σ.heap := by cases d <;> rfl

/-- A step of one operation from one abstract state to another. -/
def StepOK (P : Program) (n : Nat) (stay : Nat → Prop) (o : Oper) (σ σ' : St) : Prop :=
  ∀ C : Ctx, C.nt = n → C.stay = stay → ∀ a w, Rel C σ a w → ∀ (K : Act → World → Prop) (Q : Exit → Act → World → Prop), (∀ a' w', Rel C σ' a' w' → K a' w') → o.wp P a w K Q

def dstOK (n : Nat) (d : Option Nat) : Prop := ∀ j, d = some j → j < n

theorem StepOK.of_pure {P : Program} {n : Nat} {stay : Nat → Prop} {o : Oper} {σ : St} {r : T} (h : PureOK P o σ.ev r) (hd : dstOK n o.dst) :
    StepOK P n stay o σ (σ.put o.dst r) := by
  intro C hn _ a w ⟨γ, R⟩ K Q hK
  refine h C.M γ σ.heap w a R.mem (fun x _ => R.ev x) K Q fun v w' hk hr => hK _ _ ⟨γ, ?_⟩
  refine ⟨by rw [put_heap]; exact R.mem.keep0 hk, fun i => ?_, R.keep.trans hk (fun _ _ h => h) (fun _ _ h => h.elim), R.own, R.stay, by rw [put_defers]; exact R.defers, by rw [put_size]; exact R.size⟩
  rw [getD_put _ _ _ _ (by rw [R.size, hn]; exact hd), put_env]
  split
  · exact hr
  · exact (R.env i).carry hk.carry0 fun _ _ => rfl

/-- An operation that makes one new block, of the content cs, and yields r, which may name it by the label d. -/
def AllocOK (P : Program) (o : Oper) (ev : Operand → T) (d : Nat) (cs : List V) (r : T) : Prop :=
  ∀ (M : Nat → Prop) (γ : G) (H : Heap) (w : World) (a : Act), Mem M γ H w → (∀ x ∈ o.op.operands.toList, TRel w M γ (ev x) (a.eval x)) →
    ∀ (K : Act → World → Prop) (Q : Exit → Act → World → Prop),
      (∀ (v : Value) (w' : World) (b : Nat) (t : TypeId) (vs spare : List Value), Keep nobody w w' → w.heap.size ≤ b → w'.heap[b]? = some (.cells (vs ++ spare).toArray t (0, 0)) →
        CsRel w M γ cs vs → TRel w' M (updG γ d (some b)) r v → K (a.put o.dst v) w') → o.wp P a w K Q

theorem AllocOK.congr {P : Program} {o : Oper} {ev ev' : Operand → T} {d : Nat} {cs : List V} {r : T} (h : AllocOK P o ev d cs r) (he : ∀ x ∈ o.op.operands.toList, ev' x = ev x) : AllocOK P o ev' d cs r :=
  fun M γ H w a hm hx K Q hK => h M γ H w a hm (fun x hx' => by rw [← he x hx']; exact hx x hx') K Q hK

theorem StepOK.of_alloc {P : Program} {n : Nat} {stay : Nat → Prop} {o : Oper} {σ : St} {r : T} {d : Nat} {cs : List V} (h : AllocOK P o σ.ev d cs r) (hd : dstOK n o.dst)
    (hf : σ.heap d = none) (hsd : ¬ stay d) : StepOK P n stay o σ ⟨(σ.put o.dst r).env, updH σ.heap d (some cs)⟩ := by
  intro C hn hst a w ⟨γ, R⟩ K Q hK
  refine h C.M γ σ.heap w a R.mem (fun x _ => R.ev x) K Q fun v w' b t vs spare hk hb hw' hcs hr => hK _ _ ⟨updG γ d (some b), ?_⟩
  have hγd : γ d = none := R.mem.dom d hf
  have hca : Carry C.M γ (updG γ d (some b)) w w' := by
    refine ⟨hk.size, fun x hx => hk.same x hx.1 (fun h => h), fun x hx s => ?_, hk.shape⟩
    unfold updG
    split
    · intro e; injection e with e; injection e with e; have := hx.1; omega
    · exact hx.2.2 s
  have hnm : ∀ s, γ s ≠ none → updG γ d (some b) s = γ s := by
    intro s hs
    unfold updG
    rw [if_neg (by rintro rfl; exact hs hγd)]
  refine ⟨⟨fun x hx => Nat.lt_of_lt_of_le (R.mem.low x hx) hk.size, ?_, ?_, ?_, ?_⟩, fun i => ?_, R.keep.trans hk (fun _ _ h => h) (fun _ _ h => h.elim), ?_, ?_, ?_, ?_⟩
  · intro s t' x h1 h2
    unfold updG at h1 h2
    split at h1 <;> split at h2
    · omega
    · injection h1 with h1; injection h1 with h1; have := R.mem.lt h2; omega
    · injection h2 with h2; injection h2 with h2; have := R.mem.lt h1; omega
    · exact R.mem.inj s t' x h1 h2
  · intro s x h1
    unfold updG at h1
    split at h1
    · injection h1 with h1; injection h1 with h1; intro hM; have := R.mem.low x hM; omega
    · exact R.mem.nm s x h1
  · intro s hs
    simp only [updH] at hs
    unfold updG
    split at hs
    · cases hs
    · rw [if_neg (by assumption)]; exact R.mem.dom s hs
  · intro s cs' hs
    simp only [updH] at hs
    split at hs
    · rename_i e; subst e
      injection hs with hs; subst hs
      exact .inl ⟨b, t, vs, spare, by simp [updG], hw', hcs.carry hca fun s hs => hnm s (hcs.named s hs)⟩
    · rename_i hne
      rcases R.mem.blk s cs' hs with ⟨b', t', vs', sp', hg, hb', hc⟩ | ⟨hg, hc⟩ | ⟨b', en, clk, hg, hb', hc⟩
      · exact .inl ⟨b', t', vs', sp', by rw [hnm s (by rw [hg]; simp)]; exact hg, (hk.same b' (lt_of_heap hb') (fun h => h)).trans hb', hc.carry hca fun s hs => hnm s (hc.named s hs)⟩
      · exact .inr (.inl ⟨by rw [hnm s (by rw [hg]; simp)]; exact hg, hc⟩)
      · exact .inr (.inr ⟨b', en, clk, by rw [hnm s (by rw [hg]; simp)]; exact hg, (hk.same b' (lt_of_heap hb') (fun h => h)).trans hb', hc⟩)
  · rw [getD_put _ _ _ _ (by rw [R.size, hn]; exact hd)]
    show TRel _ _ _ ((σ.put o.dst r).env i) _
    rw [put_env]
    split
    · exact hr
    · exact (R.env i).carry hca fun s hs => hnm s ((R.env i).named s hs)
  · intro s x h1
    unfold updG at h1
    split at h1
    · injection h1 with h1; injection h1 with h1; have := R.keep.size; exact .inr (by omega)
    · exact R.own s x h1
  · intro s hs'
    rw [hst] at hs'
    have := R.stay s (by rw [hst]; exact hs')
    unfold updG
    rw [if_neg (by rintro rfl; exact hsd hs')]
    exact this
  · rw [put_defers]; exact R.defers
  · rw [put_size]; exact R.size

theorem keep_alloc (w : World) (o : Obj) : Keep nobody w (w.alloc o) :=
  ⟨rfl, rfl, rfl, Nat.le_refl _, by simp, fun b hb _ => Below.heap_alloc w o b hb, fun b cells t h => ⟨cells, (Below.heap_alloc w o b (lt_of_heap h)).trans h, rfl⟩⟩

theorem heap_alloc_at (w : World) (o : Obj) : (w.alloc o).heap[w.heap.size]? = some o := heap_alloc_new w o

theorem alloc_box {P : Program} {o : Oper} {ev : Operand → T} (t : TypeId) (x : Operand) (ho : o.op = .box t x) (d : Nat) (e : E) (hx : ev x = .e e) :
    AllocOK P o ev d e.cells (.e (.c (.ptr d 0))) := by
  intro M γ H w a hm h K Q hK
  have h1 := h x (by simp [ho, Op.operands])
  rw [hx] at h1
  have hc := ERel.cells h1
  refine wp_value (v := .pointer (some ⟨w.heap.size, 0, none⟩)) (w' := w.alloc (.cells (a.eval x).cells t)) ?_ ?_
  · simp [execOp, ho, Instr.box, newVar, newRow]
  · refine hK _ _ w.heap.size t (a.eval x).cells.toList [] (keep_alloc _ _) (Nat.le_refl _) ?_ hc ⟨w.heap.size, by simp [updG], rfl⟩
    rw [heap_alloc_at]; simp

def tzv (P : Program) (t : TypeId) : Option (List V) := (tzero P t).bind fun zs => if zs.all (·.oneCell') then some (zs.map fun v => .d (.sc v)) else none

theorem zero_rel {w : World} {M : Nat → Prop} {γ : G} (zs : List Value) (h : zs.all (·.oneCell') = true) : CsRel w M γ (zs.map fun v => .d (.sc v)) zs := by
  refine ⟨by simp, fun i x u hx hu => ?_⟩
  simp only [List.getElem?_map, hu, Option.map_some] at hx
  injection hx with hx; subst hx
  exact .sc u (by simp at h; exact h u (List.mem_of_getElem? hu))

theorem tzv_some {P : Program} {t : TypeId} {cs : List V} (h : tzv P t = some cs) : ∃ zs, tzero P t = some zs ∧ cs = zs.map (fun v => .d (.sc v)) ∧ zs.all (·.oneCell') = true := by
  unfold tzv at h
  cases hz : tzero P t with
  | none => simp [hz] at h
  | some zs =>
    simp only [hz, Option.bind_some] at h
    split at h
    · rename_i ha
      injection h with h
      exact ⟨zs, rfl, h.symm, ha⟩
    · cases h

theorem alloc_alloc {P : Program} {o : Oper} {ev : Operand → T} (t : TypeId) (ho : o.op = .alloc t) (d : Nat) (cs : List V) (hz : tzv P t = some cs) :
    AllocOK P o ev d cs (.e (.c (.ptr d 0))) := by
  intro M γ H w a hm h K Q hK
  obtain ⟨zs, hz0, rfl, ha⟩ := tzv_some hz
  obtain ⟨z, hzr, hzc⟩ := tzero_some hz0 w
  refine wp_value (v := .pointer (some ⟨w.heap.size, 0, none⟩)) (w' := w.alloc (.cells z.cells t)) ?_ ?_
  · simp [execOp, ho, Instr.alloc, hzr, newVar, newRow]
  · refine hK _ _ w.heap.size t zs [] (keep_alloc _ _) (Nat.le_refl _) ?_ (zero_rel zs ha) ⟨w.heap.size, by simp [updG], rfl⟩
    rw [heap_alloc_at, ← hzc]; simp

/- loads -/
/-- Cells, not a map. -/
def notM : List V → Bool
  | .mapc _ :: _ => false
  | _ => true
theorem notM_ds (ds : List D) : notM (ds.map .d) = true := by cases ds <;> rfl

def loadV (P : Program) (t : TypeId) (cs : List V) (off : Nat) : Option T :=
  match notM cs, tag P t with
  | true, some true =>
    match tsz P t with
    | some n => if off + n ≤ cs.length then some (.e (.agg ((cs.drop off).take n))) else none
    | none => none
  | true, some false => (cs[off]?).map fun v => .e (.c v)
  | _, _ => none

theorem cell_blk {w : World} {b : Nat} {cells : Array Value} {t : TypeId} (h : w.heap[b]? = some (.cells cells t (0, 0))) (i : Nat) : w.cell? ⟨b, i, none⟩ = cells[i]? := by
  simp [World.cell?, h]

/-- What is read at an address of which the cells are known. -/
theorem run_loadAt_of {P : Program} {w : World} {M : Nat → Prop} {γ : G} {t : TypeId} {cs : List V} {vs : List Value} {off : Nat} {r : T} {a : Addr} (hr : loadV P t cs off = some r)
    (hc : CsRel w M γ cs vs) (ha : ∀ j u, vs[off + j]? = some u → w.cell? (a.add j) = some u) : ∃ v, (Instr.loadAt t (.pointer (some a))).run P w = .ok v w ∧ TRel w M γ r v := by
  unfold loadV at hr
  split at hr
  · rename_i _ hag
    split at hr
    · rename_i n hn
      split at hr
      · rename_i hlen
        injection hr with hr; subst hr
        have hl := hc.1
        have e1 : ((vs.drop off).take n).length = n := by simp; omega
        refine ⟨.agg ((vs.drop off).take n).toArray, ?_, (vs.drop off).take n, rfl, (hc.drop off).take n⟩
        have := run_loadCells_list (P := P) w a ((vs.drop off).take n) (fun j u hj => ha j u (by
          rw [List.getElem?_take] at hj
          split at hj
          · rwa [List.getElem?_drop] at hj
          · cases hj))
        rw [e1] at this
        simp [Instr.loadAt, Instr.sureAddr, loadVar, tag_some hag, tsz_some hn, this]
      · cases hr
    · cases hr
  · rename_i _ hag
    cases hv : cs[off]? with
    | none => simp [hv] at hr
    | some x =>
      simp [hv] at hr
      subst hr
      obtain ⟨u, hu, hrel⟩ := hc.at_ hv
      refine ⟨u, ?_, hrel⟩
      have := ha 0 u (by simpa using hu)
      simp only [Addr.add, if_true] at this
      simp [Instr.loadAt, Instr.sureAddr, loadVar, tag_some hag, this]
  · cases hr

theorem getElem_blk {vs spare : List Value} {i : Nat} {u : Value} (h : vs[i]? = some u) : (vs ++ spare).toArray[i]? = some u := by
  have hi : i < vs.length := (List.getElem?_eq_some_iff.1 h).1
  rw [List.getElem?_toArray, List.getElem?_append, if_pos hi, h]

theorem Mem.load {P : Program} {M : Nat → Prop} {γ : G} {H : Heap} {w : World} (hm : Mem M γ H w) {s off : Nat} {cs : List V} (hs : H s = some cs) {t : TypeId} {r : T} (hr : loadV P t cs off = some r)
    {v : Value} (hv : PRel γ s off v) : ∃ u, (Instr.loadAt t v).run P w = .ok u w ∧ TRel w M γ r u := by
  obtain ⟨b, hb, rfl⟩ := hv
  rcases hm.blk s cs hs with ⟨b', ty, vs, spare, hg, hw, hc⟩ | ⟨hg, _⟩ | ⟨_, _, _, _, _, rfl⟩
  · rw [hg] at hb; injection hb with hb; injection hb with hb; subst hb
    exact run_loadAt_of hr hc fun j u hj => by rw [mk_add, cell_blk hw]; exact getElem_blk hj
  · rw [hg] at hb; injection hb with hb; cases hb
  · simp [loadV, notM] at hr

theorem StepOK.load {P : Program} {n : Nat} {stay : Nat → Prop} {o : Oper} {σ : St} (t : TypeId) (x : Operand) (ho : o.op = .load t x) (s off : Nat) (cs : List V) (r : T)
    (hx : σ.ev x = .e (.c (.ptr s off))) (hs : σ.heap s = some cs) (hr : loadV P t cs off = some r) (hd : dstOK n o.dst) : StepOK P n stay o σ (σ.put o.dst r) := by
  intro C hn _ a w ⟨γ, R⟩ K Q hK
  have h1 := R.ev x
  rw [hx] at h1
  obtain ⟨u, hu, hrel⟩ := R.mem.load hs hr h1
  refine wp_value (v := u) (w' := w) (by simp [execOp, ho, hu]) (hK _ _ ⟨γ, ?_⟩)
  refine ⟨by rw [put_heap]; exact R.mem, fun i => ?_, R.keep, R.own, R.stay, by rw [put_defers]; exact R.defers, by rw [put_size]; exact R.size⟩
  rw [getD_put _ _ _ _ (by rw [R.size, hn]; exact hd), put_env]
  split
  · exact hrel
  · exact R.env i

theorem pure_load {P : Program} {o : Oper} {ev : Operand → T} (t : TypeId) (x : Operand) (ho : o.op = .load t x) (ds : List D) (r : T)
    (hx : ev x = .e (.c (.pim ds))) (hr : loadV P t (ds.map .d) 0 = some r) : PureOK P o ev r :=
  pure_same fun M γ H w a _ h => by
    have h1 := h x (by simp [ho, Op.operands])
    rw [hx] at h1
    obtain ⟨ad, hv, hsp, hst, hd⟩ := h1
    have hch : ∀ j (x : D), ds[j]? = some x → ∃ u, w.cell? (ad.add j) = some u ∧ DRel w (stab w M γ) x u := hd
    let vs : List Value := (List.range ds.length).map fun j => (w.cell? (ad.add j)).getD undef
    have hvs : ∀ (j : Nat) (u : Value), vs[j]? = some u → w.cell? (ad.add j) = some u := by
      intro j u hj
      have hjl : j < ds.length := by have := (List.getElem?_eq_some_iff.1 hj).1; simpa [vs] using this
      obtain ⟨u', hu', _⟩ := hch j _ (List.getElem?_eq_getElem hjl)
      simp only [vs, List.getElem?_map, List.getElem?_range hjl, Option.map_some, hu', Option.getD_some, Option.some.injEq] at hj
      rw [hu', hj]
    have hc : CsRel w M γ (ds.map .d) vs := by
      refine ⟨by simp [vs], fun i x u hx hu => ?_⟩
      simp only [List.getElem?_map] at hx
      cases hdi : ds[i]? with
      | none => simp [hdi] at hx
      | some y =>
        simp [hdi] at hx
        subst hx
        obtain ⟨u', hu', hr'⟩ := hch i y hdi
        have := hvs i u hu
        rw [hu'] at this
        injection this with this; subst this
        exact hr'
    obtain ⟨u, hu, hrel⟩ := run_loadAt_of (P := P) (a := ad) hr hc fun j u hj => hvs j u (by simpa using hj)
    exact ⟨u, by simp [execOp, ho, hv, hu], hrel⟩

end Go.Ab
end

section
namespace Go.Ab
open Go Go.RowKit

/-- An own block is written anew, its size kept. -/
theorem RelAt.setOwn {C : Ctx} {γ : G} {σ : St} {a : Act} {w : World} (R : RelAt C γ σ a w) {s b : Nat} {t : TypeId} {old : Array Value} {cs' : List V} {vs' spare : List Value}
    (hg : γ s = some (some b)) (hb : w.heap[b]? = some (.cells old t (0, 0))) (hsz : (vs' ++ spare).length = old.size) (hc : CsRel w C.M γ cs' vs') (hsome : σ.heap s ≠ none) :
    RelAt C γ ⟨σ.env, updH σ.heap s (some cs')⟩ a (w.setRow b (vs' ++ spare).toArray) := by
  have hka : Carry C.M γ γ w (w.setRow b (vs' ++ spare).toArray) := by
    refine ⟨by simp, fun x hx => setRow_other w b x _ (by rintro rfl; exact hx.2.2 s hg), fun x hx => hx.2.2, fun x cells ty hx => ?_⟩
    by_cases e : x = b
    · subst e
      rw [hb] at hx
      injection hx with hx; injection hx with h1 h2
      subst h1; subst h2
      exact ⟨_, setRow_heap w x old _ t _ hb, by simpa using hsz⟩
    · exact ⟨cells, (setRow_other w b x _ e).trans hx, rfl⟩
  refine ⟨⟨fun x hx => by simpa using R.mem.low x hx, R.mem.inj, R.mem.nm, fun x hx => ?_, fun x cs hx => ?_⟩, fun i => (R.env i).carry hka fun _ _ => rfl, ?_, R.own, R.stay, R.defers, R.size⟩
  · simp only [updH] at hx
    split at hx
    · cases hx
    · exact R.mem.dom x hx
  · simp only [updH] at hx
    split at hx
    · rename_i e; subst e
      injection hx with hx; subst hx
      exact .inl ⟨b, t, vs', spare, hg, setRow_heap w b old _ t _ hb, hc.carry hka fun _ _ => rfl⟩
    · rename_i e
      rcases R.mem.blk x cs hx with ⟨b', t', vs, sp, hg', hb', hc'⟩ | h0 | ⟨b', en, clk, hg', hb', hc'⟩
      · exact .inl ⟨b', t', vs, sp, hg', (setRow_other w b b' _ (by rintro rfl; exact e (R.mem.inj x s b' hg' hg))).trans hb', hc'.carry hka fun _ _ => rfl⟩
      · exact .inr (.inl h0)
      · exact .inr (.inr ⟨b', en, clk, hg', (setRow_other w b b' _ (by rintro rfl; exact e (R.mem.inj x s b' hg' hg))).trans hb', hc'⟩)
  · have hk := R.keep
    have hpin := R.own s b hg
    refine ⟨hk.os, hk.tape, hk.output, hk.drawn, by simpa using hk.size, fun x hx hn => ?_, fun x cells ty hx => ?_⟩
    · rw [setRow_other w b x _ (by rintro rfl; rcases hpin with h | h; exact hn h; omega)]
      exact hk.same x hx hn
    · obtain ⟨c1, e1, s1⟩ := hk.shape x cells ty hx
      obtain ⟨c2, e2, s2⟩ := hka.shape x c1 ty e1
      exact ⟨c2, e2, s2.trans s1⟩

theorem RelAt.blk {C : Ctx} {γ : G} {σ : St} {a : Act} {w : World} (R : RelAt C γ σ a w) {s b : Nat} {cs : List V} (hs : σ.heap s = some cs) (hg : γ s = some (some b)) (hM : notM cs = true) :
    ∃ (t : TypeId) (vs spare : List Value), w.heap[b]? = some (.cells (vs ++ spare).toArray t (0, 0)) ∧ CsRel w C.M γ cs vs := by
  rcases R.mem.blk s cs hs with ⟨b', t, vs, sp, hg', hb', hc'⟩ | ⟨h0, _⟩ | ⟨_, _, _, _, _, rfl⟩
  · rw [hg] at hg'; injection hg' with hg'; injection hg' with hg'; subst hg'
    exact ⟨t, vs, sp, hb', hc'⟩
  · rw [hg] at h0; injection h0 with h0; cases h0
  · cases hM

theorem RelAt.blkC {C : Ctx} {γ : G} {σ : St} {a : Act} {w : World} (R : RelAt C γ σ a w) {s b : Nat} {cs : List V} (hs : σ.heap s = some cs) (hg : γ s = some (some b)) {c0 : Array Value} {t0 : TypeId} (h0 : w.heap[b]? = some (.cells c0 t0 (0, 0))) :
    ∃ (t : TypeId) (vs spare : List Value), w.heap[b]? = some (.cells (vs ++ spare).toArray t (0, 0)) ∧ CsRel w C.M γ cs vs := by
  rcases R.mem.blk s cs hs with ⟨b', t, vs, sp, hg', hb', hc'⟩ | ⟨h0, _⟩ | ⟨b', en, clk, hg', hb', _⟩
  · rw [hg] at hg'; injection hg' with hg'; injection hg' with hg'; subst hg'
    exact ⟨t, vs, sp, hb', hc'⟩
  · rw [hg] at h0; injection h0 with h0; cases h0
  · rw [hg] at hg'; injection hg' with hg'; injection hg' with hg'; subst hg'
    rw [h0] at hb'; cases hb'

theorem splice_spare (vs us spare : List Value) (off : Nat) (h : off + us.length ≤ vs.length) :
    (vs ++ spare).take off ++ us ++ (vs ++ spare).drop (off + us.length) = (vs.take off ++ us ++ vs.drop (off + us.length)) ++ spare := by
  rw [List.take_append_of_le_length (by omega), List.drop_append_of_le_length (by omega)]
  simp

theorem RelAt.skipPut {C : Ctx} {γ : G} {σ : St} {a : Act} {w : World} (R : RelAt C γ σ a w) (d : Option Nat) (hd : dstOK C.nt d) (v : Value) (r : T) (hr : TRel w C.M γ r v) : RelAt C γ (σ.put d r) (a.put d v) w := by
  refine ⟨by rw [put_heap]; exact R.mem, fun i => ?_, R.keep, R.own, R.stay, by rw [put_defers]; exact R.defers, by rw [put_size]; exact R.size⟩
  rw [getD_put _ _ _ _ (by rw [R.size]; exact hd), put_env]
  split
  · exact hr
  · exact R.env i

theorem StepOK.store {P : Program} {n : Nat} {stay : Nat → Prop} {o : Oper} {σ : St} (t : TypeId) (x y : Operand) (ho : o.op = .store t x y) (hdst : o.dst = none) (s off : Nat) (cs : List V) (e : E) (m : Nat)
    (hx : σ.ev x = .e (.c (.ptr s off))) (hy : σ.ev y = .e e) (hs : σ.heap s = some cs) (ht : tsz P t = some m) (hl : e.cells.length = m) (hlen : off + m ≤ cs.length) (hM : notM cs = true) :
    StepOK P n stay o σ ⟨σ.env, updH σ.heap s (some (splice cs off e.cells))⟩ := by
  intro C hn _ a w ⟨γ, R⟩ K Q hK
  have h1 := R.ev x
  have h2 := R.ev y
  rw [hx] at h1
  rw [hy] at h2
  obtain ⟨b, hg, hv⟩ := h1
  obtain ⟨ty, vs, spare, hb, hc⟩ := R.blk hs hg hM
  have he := ERel.cells h2
  have hle := he.1
  have hcl := hc.1
  have hul : (a.eval y).cells.size = m := by rw [← Array.length_toList, ← hle, hl]
  have hrun := run_storeCells_at P b off ty (a.eval y).cells.toList 0 (vs ++ spare).toArray w hb (by simp; omega) he.ones
  simp only [Nat.add_zero] at hrun
  rw [splice_spare vs _ spare off (by simp; omega)] at hrun
  refine wp_skipped (w' := w.setRow b ((vs.take off ++ (a.eval y).cells.toList ++ vs.drop (off + (a.eval y).cells.toList.length)) ++ spare).toArray) ?_ (hK _ _ ⟨γ, ?_⟩)
  · simp only [execOp, ho, Instr.storeAt, hv, Instr.sureAddr, storeVar, Sem.run_bind, Sem.run_pure, Result.andThen_ok, tsz_some ht, hul, ne_eq, not_true_eq_false, if_false, hrun]
  · have := R.setOwn (cs' := splice cs off e.cells) (spare := spare) hg hb (by simp; omega) (splice_rel off hc he) (by rw [hs]; simp)
    rw [hdst]
    exact this

/- a made slice -/
def rep (n : Nat) (zs : List V) : List V := (List.replicate n zs).flatten

theorem range_flat (zs : List Value) (n : Nat) : ((Array.range (n * zs.length)).map (fun i => zs.toArray[i % zs.toArray.size]!)).toList = (List.replicate n zs).flatten := by
  induction n with
  | zero => simp
  | succ n ih =>
    rw [List.replicate_succ', List.flatten_append, ← ih]
    simp only [Array.toList_map, Array.toList_range]
    rw [Nat.succ_mul, List.range_add]
    simp only [List.map_append, List.map_map, List.flatten_singleton]
    congr 1
    apply List.ext_getElem?
    intro i
    by_cases hi : i < zs.length
    · simp [hi, Nat.add_mod, Nat.mod_eq_of_lt hi]
    · simp [hi]

theorem rep_rel {w : World} {M : Nat → Prop} {γ : G} {zs : List V} {vs : List Value} (h : CsRel w M γ zs vs) (n : Nat) : CsRel w M γ (rep n zs) (List.replicate n vs).flatten := by
  induction n with
  | zero => exact CsRel.nil
  | succ n ih =>
    simp only [rep, List.replicate_succ, List.flatten_cons] at ih ⊢
    exact h.append ih

theorem tinfo {P : Program} {e : TypeId} {k y : Nat} {zs : List V} (hk : tsz P e = some k) (hb : tby P e = some y) (hz : tzv P e = some zs) :
    ∃ (i : TypeInfo) (z : Value) (z0 : List Value), P.info? e = some i ∧ i.zero = some z ∧ i.size = k ∧ i.bytes = y ∧ z.cells = z0.toArray ∧ zs = z0.map (fun v => .d (.sc v)) ∧ z0.all (·.oneCell') = true := by
  obtain ⟨z0, hz0, hze, ha⟩ := tzv_some hz
  unfold tzero at hz0
  unfold tsz at hk
  unfold tby at hb
  cases hi : P.info? e with
  | none => simp [hi] at hk
  | some i =>
    simp only [hi, Option.map_some, Option.some.injEq, Option.bind_some] at hk hb hz0
    cases hzz : i.zero with
    | none => simp [hzz] at hz0
    | some z =>
      simp only [hzz, Option.map_some, Option.some.injEq] at hz0
      exact ⟨i, z, z0, rfl, hzz, hk, hb, by rw [← hz0], hze, ha⟩

theorem alloc_makeSlice {P : Program} {o : Oper} {ev : Operand → T} (t : TypeId) (lx cx : Operand) (ho : o.op = .makeSlice t lx cx) (d : Nat) (e : TypeId) (k y : Nat) (zs : List V) (len : Nat) (kl kc : IntKind)
    (ht : tsl P t = some e) (hk : tsz P e = some k) (hb : tby P e = some y) (hz : tzv P e = some zs) (hzk : zs.length = k) (hl : ev lx = .e (.c (.d (.sc (.int kl len))))) (hc : ev cx = .e (.c (.d (.sc (.int kc len)))))
    (hbytes : y * len ≤ 281474976710656) (hmax : len ≤ 281474976710656) : AllocOK P o ev d (rep len zs) (.e (.c (.sub d k 0 len))) := by
  intro M γ H w a hm h K Q hK
  obtain ⟨i, z, z0, hi, hzi, hsz, hby, hzc, hze, ha⟩ := tinfo hk hb hz
  have h1 := h lx (by simp [ho, Op.operands])
  have h2 := h cx (by simp [ho, Op.operands])
  rw [hl] at h1
  rw [hc] at h2
  have hzl : z0.length = k := by rw [← hzk, hze]; simp
  have hb' : (i.bytes : Int) * (len : Int) ≤ 281474976710656 := by
    have h : ((i.bytes * len : Nat) : Int) ≤ 281474976710656 := by rw [hby]; omega
    rwa [Int.natCast_mul] at h
  have hr := run_make (P := P) w t e i z (tsl_some ht) hi hzi kl kc len len (by omega) (Int.le_refl _) hb' (by omega)
  have hcells : madeCells z.cells (len * i.size) = ((List.replicate len z0).flatten).toArray := by
    apply Array.ext'
    rw [← range_flat z0 len, hzl, hsz, hzc]
    rfl
  simp only [Int.toNat_natCast, hcells] at hr
  refine wp_value (v := .slice (some ⟨w.heap.size, 0, none⟩) len len) (w' := w.alloc (.cells ((List.replicate len z0).flatten).toArray e)) ?_ ?_
  · simp only [execOp, ho, sc_inv h1, sc_inv h2, Sem.run_bind, hr, Result.andThen_ok, Sem.run_pure]
  · refine hK _ _ w.heap.size e ((List.replicate len z0).flatten) [] (keep_alloc _ _) (Nat.le_refl _) (by rw [heap_alloc_at]; simp) ?_ ?_
    · rw [hze]
      exact rep_rel (zero_rel z0 ha) len
    · refine .inl ⟨w.heap.size, len, ((List.replicate len z0).flatten).toArray, e, by simp [updG], rfl, Nat.le_refl _, by simp only [maxLen]; omega, heap_alloc_at _ _, ?_⟩
      simp [hzl]

end Go.Ab
end

section
namespace Go.Ab
open Go Go.RowKit

def V.kill (s : Nat) : V → V
  | .ptr t o => if t = s then .any else .ptr t o
  | .sub t k o l => if t = s then .any else .sub t k o l
  | .clo f caps => if caps.any (fun p => p.1 == s) then .any else .clo f caps
  | .mp t => if t = s then .any else .mp t
  | v => v
def E.kill (s : Nat) : E → E
  | .c v => .c (v.kill s)
  | .agg vs => .agg (vs.map (V.kill s))
def T.kill (s : Nat) : T → T
  | .e x => .e (x.kill s)
  | .tup xs => .tup (xs.map (E.kill s))
  | .any => .any

theorem VRel.kill {w : World} {M : Nat → Prop} {γ : G} {x : V} {v : Value} (h : VRel w M γ x v) (s : Nat) : VRel w M γ (x.kill s) v := by
  have h1 := h.one
  cases x <;> simp only [V.kill] <;> (try split) <;> first | exact h | exact h1

theorem V.kill_names (x : V) (s : Nat) : ¬ (x.kill s).names s := by
  cases x with
  | ptr t o =>
    by_cases h : t = s
    · simp only [V.kill, if_pos h]; exact fun h => h
    · simp only [V.kill, if_neg h]; exact h
  | sub t k o l =>
    by_cases h : t = s
    · simp only [V.kill, if_pos h]; exact fun h => h
    · simp only [V.kill, if_neg h]; exact h
  | clo f caps =>
    by_cases h : caps.any (fun p => p.1 == s) = true
    · simp only [V.kill, if_pos h]; exact fun h => h
    · simp only [V.kill, if_neg h]
      rintro ⟨p, hp, e⟩
      apply h
      simp only [List.any_eq_true, beq_iff_eq]
      exact ⟨p, hp, e⟩
  | mp t =>
    by_cases h : t = s
    · simp only [V.kill, if_pos h]; exact fun h => h
    · simp only [V.kill, if_neg h]; exact h
  | mapc es => exact fun h => h
  | d x => exact fun h => h
  | pim ds => exact fun h => h
  | any => exact fun h => h

theorem CsRel.kill {w : World} {M : Nat → Prop} {γ : G} {xs : List V} {vs : List Value} (h : CsRel w M γ xs vs) (s : Nat) : CsRel w M γ (xs.map (V.kill s)) vs := by
  refine ⟨by simp [h.1], fun i x u hx hu => ?_⟩
  simp only [List.getElem?_map] at hx
  cases hi : xs[i]? with
  | none => simp [hi] at hx
  | some y => simp [hi] at hx; subst hx; exact (h.2 i y u hi hu).kill s

theorem ERel.kill {w : World} {M : Nat → Prop} {γ : G} {x : E} {v : Value} (h : ERel w M γ x v) (s : Nat) : ERel w M γ (x.kill s) v := by
  cases x with
  | c x => exact VRel.kill h s
  | agg xs => obtain ⟨us, e, hc⟩ := h; exact ⟨us, e, hc.kill s⟩

theorem E.kill_names (x : E) (s : Nat) : ¬ (x.kill s).names s := by
  cases x with
  | c x => exact x.kill_names s
  | agg xs =>
    rintro ⟨y, hy, h⟩
    simp only [List.mem_map] at hy
    obtain ⟨z, _, rfl⟩ := hy
    exact z.kill_names s h

theorem TRel.kill {w : World} {M : Nat → Prop} {γ : G} {x : T} {v : Value} (h : TRel w M γ x v) (s : Nat) : TRel w M γ (x.kill s) v := by
  cases x with
  | e x => exact ERel.kill h s
  | tup xs =>
    obtain ⟨us, e, hl, hc⟩ := h
    refine ⟨us, e, by simpa using hl, fun i x u hx hu => ?_⟩
    simp only [List.getElem?_map] at hx
    cases hi : xs[i]? with
    | none => simp [hi] at hx
    | some y => simp [hi] at hx; subst hx; exact (hc i y u hi hu).kill s
  | any => trivial

theorem T.kill_names (x : T) (s : Nat) : ¬ (x.kill s).names s := by
  cases x with
  | e x => exact x.kill_names s
  | tup xs =>
    rintro ⟨y, hy, h⟩
    simp only [List.mem_map] at hy
    obtain ⟨z, _, rfl⟩ := hy
    exact z.kill_names s h
  | any => intro h; exact h

/-- One state with every reference to the label s struck. -/
def St.kill (σ : St) (s : Nat) : St := ⟨fun i => (σ.env i).kill s, fun t => (σ.heap t).map (List.map (V.kill s))⟩

theorem append_run {P : Program} {w : World} {t e : TypeId} {k y : Nat} {zs : List V} (ty : TypeId) (ht : tsl P t = some e) (hk : tsz P e = some k) (hb : tby P e = some y) (hz : tzv P e = some zs) (hzk : zs.length = k)
    {A : Option Addr} {len cap : Nat} {vs spare : List Value}
    (hdst : (∃ (b : Nat) (t0 : TypeId), A = some ⟨b, 0, none⟩ ∧ w.heap[b]? = some (.cells (vs ++ spare).toArray t0 (0, 0)) ∧ cap * k ≤ (vs ++ spare).length) ∨ (len = 0 ∧ cap = 0))
    (hlc : len ≤ cap) (hcap : cap ≤ maxLen) (hvl : vs.length = len * k)
    {B : Option Addr} {m c : Nat} {us : List Value} (hul : us.length = m * k) (hsrc : m ≠ 0 → ∃ a, B = some a ∧ ∀ j u, us[j]? = some u → w.cell? (a.add j) = some u) (h1 : ∀ u ∈ us, u.oneCell' = true)
    (hfit : (len + m) * y ≤ 140737488355328) (hmax : len + m ≤ maxLen) :
    ∃ v' w', (Builtin.append_ #[t, t] ty #[.slice A len cap, .slice B m c]).run P w = .ok v' w' ∧
      ((v' = .slice A (len + m) cap ∧ len + m ≤ cap ∧ ((m = 0 ∧ w' = w) ∨ (∃ b t0, A = some ⟨b, 0, none⟩ ∧ w.heap[b]? = some (.cells (vs ++ spare).toArray t0 (0, 0)) ∧ us.length ≤ spare.length ∧ w' = w.setRow b ((vs ++ us) ++ spare.drop us.length).toArray))) ∨
       (∃ cap' rest, v' = .slice (some ⟨w.heap.size, 0, none⟩) (len + m) cap' ∧ len + m ≤ cap' ∧ cap' ≤ maxLen ∧ cap' * k ≤ ((vs ++ us) ++ rest).length ∧ w' = w.drew.alloc (.cells ((vs ++ us) ++ rest).toArray e))) := by
  obtain ⟨i, z, z0, hi, hzi, hsz, hby, hzc, hze, ha⟩ := tinfo hk hb hz
  have hzl : z.cells.size = k := by rw [hzc, ← hzk, hze]; simp
  have hu := tsl_some ht
  have hmax' : len + m ≤ 9223372036854775807 := by simp only [maxLen] at hmax; omega
  subst hsz
  by_cases hm : m = 0
  · subst hm
    have hus : us = [] := List.eq_nil_of_length_eq_zero (by simpa using hul)
    subst hus
    refine ⟨.slice A len cap, w, ?_, .inl ⟨by simp, by simpa using hlc, .inl ⟨rfl, rfl⟩⟩⟩
    have hf : (Builtin.firstCells i.size 0 (.slice B 0 c)).run P w = .ok #[] w := by
      cases B <;> simp [Builtin.firstCells, loadCells, loadCellsFrom]
    cases A with
    | none => simp [Builtin.append_, run_underlying hu, sizeOf, typeInfo, hi, Builtin.lenOf, hlc, hf]
    | some a => simp [Builtin.append_, run_underlying hu, sizeOf, typeInfo, hi, Builtin.lenOf, hlc, hf, storeCells]
  · obtain ⟨a, rfl, hcell⟩ := hsrc hm
    have hnext : ∀ old, old < len + m → Builtin.nextslicecap (len + m) old * i.bytes ≤ 281474976710656 := fun old ho => growslice_fits ho (by rw [hby]; exact hfit)
    have hgrow : ∀ (hlt : cap < len + m) (b : Addr), A = some b → (∀ j u, vs[j]? = some u → w.cell? (b.add j) = some u) →
        ∃ v' w', (Builtin.append_ #[t, t] ty #[.slice A len cap, .slice (some a) m c]).run P w = .ok v' w' ∧
          (∃ cap' rest, v' = .slice (some ⟨w.heap.size, 0, none⟩) (len + m) cap' ∧ len + m ≤ cap' ∧ cap' ≤ maxLen ∧ cap' * i.size ≤ ((vs ++ us) ++ rest).length ∧ w' = w.drew.alloc (.cells ((vs ++ us) ++ rest).toArray e)) := by
      intro hlt b hA hold
      subst hA
      have hr := run_append_grow (P := P) w t ty e i z hu hi hzi b len cap vs hvl hold a m c us hul hcell hlt (by omega) (hnext cap hlt)
      refine ⟨_, _, hr, grownCap w (len + m) cap e, (Builtin.zeroCells z.cells (grownCap w (len + m) cap e - (len + m))).toList, rfl, grownCap_ge _ _ _ _, grownCap_le_maxLen _ _ _ _ hmax, ?_, ?_⟩
      · have hge := grownCap_ge w (len + m) cap e
        simp only [List.length_append, hvl, hul, Array.length_toList, size_zeroCells, hzl, ← Nat.add_mul]
        apply Nat.mul_le_mul_right
        omega
      · congr 2
        apply Array.ext'
        simp
    rcases hdst with ⟨b, t0, rfl, hb0, hcs⟩ | ⟨rfl, rfl⟩
    · by_cases hroom : len + m ≤ cap
      · have hfits : len * i.size + us.length ≤ (vs ++ spare).toArray.size := by
          have : (len + m) * i.size ≤ cap * i.size := Nat.mul_le_mul_right _ hroom
          rw [Nat.add_mul] at this
          simp only [List.size_toArray]
          omega
        have hff := run_firstCells_some (P := P) w i.size m a m c us hul hcell
        have hst := run_storeCells_at P b (len * i.size) t0 us 0 (vs ++ spare).toArray w hb0 (by simpa using hfits) h1
        simp only [Nat.add_zero] at hst
        have hsl : us.length ≤ spare.length := by simp at hfits; omega
        have hrow : (vs ++ spare).take (len * i.size) ++ us ++ (vs ++ spare).drop (len * i.size + us.length) = (vs ++ us) ++ spare.drop us.length := by
          rw [← hvl, List.take_left', List.drop_append, List.drop_eq_nil_of_le (by omega)]
          · simp
          · rfl
        refine ⟨_, w.setRow b ((vs ++ us) ++ spare.drop us.length).toArray, ?_, .inl ⟨rfl, hroom, .inr ⟨b, t0, rfl, hb0, hsl, rfl⟩⟩⟩
        rw [← hrow]
        simp [Builtin.append_, run_underlying hu, sizeOf, typeInfo, hi, Builtin.lenOf, hroom, hff, Addr.add_lit, hst]
      · obtain ⟨v', w', hr, h2⟩ := hgrow (by omega) ⟨b, 0, none⟩ rfl (fun j u hj => by rw [mk_add, Nat.zero_add, cell_blk hb0]; exact getElem_blk hj)
        exact ⟨v', w', hr, .inr h2⟩
    · have hvs : vs = [] := List.eq_nil_of_length_eq_zero (by simpa using hvl)
      subst hvs
      cases A with
      | some b =>
        obtain ⟨v', w', hr, h2⟩ := hgrow (by omega) b rfl (fun j u hj => by simp at hj)
        exact ⟨v', w', hr, .inr h2⟩
      | none =>
        have hr := run_append_nil (P := P) w t ty e i z hu hi hzi a m c us hul hcell (by omega) (by omega) (by rw [hby]; simp only [Nat.zero_add] at hfit; omega)
        simp only [Nat.zero_add] at hmax ⊢
        refine ⟨_, _, hr, .inr ⟨grownCap w m 0 e, (Builtin.zeroCells z.cells (grownCap w m 0 e - m)).toList, rfl, grownCap_ge _ _ _ _, grownCap_le_maxLen _ _ _ _ hmax, ?_, ?_⟩⟩
        · have hge := grownCap_ge w m 0 e
          simp only [List.nil_append, List.length_append, hul, Array.length_toList, size_zeroCells, hzl, ← Nat.add_mul]
          apply Nat.mul_le_mul_right
          omega
        · congr 2
          apply Array.ext'
          simp

end Go.Ab
end

section
namespace Go.Ab
open Go Go.RowKit

theorem RelAt.kill {C : Ctx} {γ : G} {σ : St} {a : Act} {w : World} (R : RelAt C γ σ a w) (s : Nat) : RelAt C γ (σ.kill s) a w := by
  refine ⟨⟨R.mem.low, R.mem.inj, R.mem.nm, fun t ht => ?_, fun t cs ht => ?_⟩, fun i => (R.env i).kill s, R.keep, R.own, R.stay, R.defers, R.size⟩
  · simp only [St.kill, Option.map_eq_none_iff] at ht
    exact R.mem.dom t ht
  · simp only [St.kill, Option.map_eq_some_iff] at ht
    obtain ⟨cs0, h0, rfl⟩ := ht
    rcases R.mem.blk t cs0 h0 with ⟨b, ty, vs, sp, hg, hb, hc⟩ | ⟨hg, hc⟩ | ⟨b, en, clk, hg, hb, hc⟩
    · exact .inl ⟨b, ty, vs, sp, hg, hb, hc.kill s⟩
    · exact .inr (.inl ⟨hg, by simp [hc]⟩)
    · exact .inr (.inr ⟨b, en, clk, hg, hb, by simp [hc, V.kill]⟩)

/-- The own block of the label s is left for a new one. -/
theorem RelAt.moveOwn {C : Ctx} {γ : G} {σ : St} {a : Act} {w : World} (R : RelAt C γ σ a w) {s : Nat} {t : TypeId} {cs' : List V} {vs' spare : List Value} (w1 : World) (hw1 : w1 = w ∨ w1 = w.drew)
    (hc : CsRel w C.M γ cs' vs') (hn : ∀ x ∈ cs', ¬ x.names s) (hst : ¬ C.stay s) (hkill : (∀ i, ¬ (σ.env i).names s) ∧ ∀ t cs, t ≠ s → σ.heap t = some cs → ∀ x ∈ cs, ¬ x.names s) :
    RelAt C (updG γ s (some w.heap.size)) ⟨σ.env, updH σ.heap s (some cs')⟩ a (w1.alloc (.cells (vs' ++ spare).toArray t)) := by
  have hh : w1.heap = w.heap := by rcases hw1 with rfl | rfl <;> rfl
  have hsz : w1.heap.size = w.heap.size := by rw [hh]
  have hold : ∀ b, b < w.heap.size → (w1.alloc (.cells (vs' ++ spare).toArray t)).heap[b]? = w.heap[b]? := fun b hb => by
    rw [Below.heap_alloc _ _ _ (by rw [hsz]; exact hb), hh]
  have hnew : (w1.alloc (.cells (vs' ++ spare).toArray t)).heap[w.heap.size]? = some (.cells (vs' ++ spare).toArray t (0, 0)) := by
    rw [← hsz]; exact heap_alloc_at _ _
  have hle : w.heap.size ≤ (w1.alloc (.cells (vs' ++ spare).toArray t)).heap.size := by simp [hh]
  have hca : Carry C.M γ (updG γ s (some w.heap.size)) w (w1.alloc (.cells (vs' ++ spare).toArray t)) := by
    refine ⟨hle, fun x hx => hold x hx.1, fun x hx u => ?_, fun x cells ty hx => ⟨cells, (hold x (lt_of_heap hx)).trans hx, rfl⟩⟩
    unfold updG
    split
    · intro e; injection e with e; injection e with e; have := hx.1; omega
    · exact hx.2.2 u
  have hnm : ∀ u, u ≠ s → updG γ s (some w.heap.size) u = γ u := fun u hu => by simp [updG, hu]
  refine ⟨⟨fun x hx => Nat.lt_of_lt_of_le (R.mem.low x hx) hle, ?_, ?_, ?_, ?_⟩, fun i => ?_, ?_, ?_, ?_, R.defers, R.size⟩
  · intro u v x h1 h2
    unfold updG at h1 h2
    split at h1 <;> split at h2
    · omega
    · injection h1 with h1; injection h1 with h1; have := R.mem.lt h2; omega
    · injection h2 with h2; injection h2 with h2; have := R.mem.lt h1; omega
    · exact R.mem.inj u v x h1 h2
  · intro u x h1
    unfold updG at h1
    split at h1
    · injection h1 with h1; injection h1 with h1; intro hM; have := R.mem.low x hM; omega
    · exact R.mem.nm u x h1
  · intro u hu
    simp only [updH] at hu
    unfold updG
    split at hu
    · cases hu
    · rw [if_neg (by assumption)]; exact R.mem.dom u hu
  · intro u cs hu
    simp only [updH] at hu
    split at hu
    · rename_i e; subst e
      injection hu with hu; subst hu
      exact .inl ⟨w.heap.size, t, vs', spare, by simp [updG], hnew, hc.carry hca fun v hv => hnm v (by rintro rfl; obtain ⟨x, hx, hv⟩ := hv; exact hn x hx hv)⟩
    · rename_i hne
      have hk := hkill.2 u cs hne hu
      have hcn : ∀ v, (∃ x ∈ cs, x.names v) → updG γ s (some w.heap.size) v = γ v := fun v hv => hnm v (by rintro rfl; obtain ⟨x, hx, hv⟩ := hv; exact hk x hx hv)
      rcases R.mem.blk u cs hu with ⟨b', t', vs, sp, hg, hb', hc'⟩ | ⟨hg, hc'⟩ | ⟨b', en, clk, hg, hb', hc'⟩
      · exact .inl ⟨b', t', vs, sp, by rw [hnm u hne]; exact hg, (hold b' (lt_of_heap hb')).trans hb', hc'.carry hca hcn⟩
      · exact .inr (.inl ⟨by rw [hnm u hne]; exact hg, hc'⟩)
      · exact .inr (.inr ⟨b', en, clk, by rw [hnm u hne]; exact hg, (hold b' (lt_of_heap hb')).trans hb', hc'⟩)
  · exact (R.env i).carry hca fun v hv => hnm v (by rintro rfl; exact hkill.1 i hv)
  · have hk := R.keep
    refine ⟨?_, ?_, ?_, ?_, Nat.le_trans hk.size hle, fun x hx hp => (hold x (Nat.lt_of_lt_of_le hx hk.size)).trans (hk.same x hx hp), fun x cells ty hx => ?_⟩
    · rcases hw1 with rfl | rfl <;> exact hk.os
    · rcases hw1 with rfl | rfl <;> exact hk.tape
    · rcases hw1 with rfl | rfl <;> exact hk.output
    · rcases hw1 with rfl | rfl
      · exact hk.drawn
      · exact Nat.le_trans hk.drawn (Nat.le_succ _)
    · obtain ⟨c1, e1, s1⟩ := hk.shape x cells ty hx
      exact ⟨c1, (hold x (lt_of_heap e1)).trans e1, s1⟩
  · intro u x h1
    unfold updG at h1
    split at h1
    · injection h1 with h1; injection h1 with h1; have := R.keep.size; exact .inr (by omega)
    · exact R.own u x h1
  · intro u hu
    rw [hnm u (by rintro rfl; exact hst hu)]
    exact R.stay u hu

/-- What append appends: the cells and how many elements. -/
def srcV (k : Nat) (H : Heap) : T → Option (List V × Nat)
  | .e (.c (.d (.sl es))) => if es.all (fun r => r.length == k) then some (es.flatten.map .d, es.length) else none
  | .e (.c (.sub s k' off len)) =>
    match H s with
    | some cs => if k' = k ∧ off + len * k ≤ cs.length then some ((cs.drop off).take (len * k), len) else none
    | none => none
  | .e (.c (.d (.sc (.slice none 0 0)))) => some ([], 0)
  | _ => none

theorem flat_get {α : Type} (k : Nat) : ∀ (es : List (List α)) (_ : ∀ r ∈ es, r.length = k) (i j : Nat), j < k → es.flatten[i * k + j]? = (es[i]?).bind (fun r => r[j]?)
  | [], _, i, j, _ => by simp
  | r :: es, h, i, j, hj => by
    have hr := h r (by simp)
    cases i with
    | zero => simp [List.getElem?_append, hr, hj]
    | succ i =>
      have ih := flat_get k es (fun r hr => h r (by simp [hr])) i j hj
      simp only [List.flatten_cons, List.getElem?_cons_succ]
      rw [List.getElem?_append_right (by rw [hr, Nat.succ_mul]; omega), hr, ← ih]
      congr 1
      rw [Nat.succ_mul]; omega

theorem flat_len {α : Type} (k : Nat) : ∀ (es : List (List α)), (∀ r ∈ es, r.length = k) → es.flatten.length = es.length * k
  | [], _ => by simp
  | r :: es, h => by
    have ih := flat_len k es (fun r hr => h r (by simp [hr]))
    simp [h r (by simp), ih, Nat.succ_mul, Nat.add_comm]

theorem src_rel {w : World} {M : Nat → Prop} {γ : G} {H : Heap} (hm : Mem M γ H w) {k : Nat} {x : T} {cs : List V} {m : Nat} {v : Value} (hx : srcV k H x = some (cs, m)) (hr : TRel w M γ x v) :
    ∃ (B : Option Addr) (c : Nat) (us : List Value), v = .slice B m c ∧ CsRel w M γ cs us ∧ us.length = m * k ∧ (m ≠ 0 → ∃ a, B = some a ∧ ∀ j u, us[j]? = some u → w.cell? (a.add j) = some u) := by
  unfold srcV at hx
  split at hx
  · rename_i es
    split at hx
    · rename_i hall
      injection hx with hx; injection hx with h1 h2; subst h1; subst h2
      have hrow0 : ∀ r ∈ es, r.length = k := by simpa using hall
      have hfl := flat_len k es hrow0
      cases hr with
      | sl _ kk cap A U hcap hmax hrow hA hU =>
        refine ⟨A, cap, (List.range (es.length * k)).map (fun n => U (n / k) (n % k)), rfl, ⟨by rw [List.length_map, hfl]; simp, fun i x u hx hu => ?_⟩, by simp, fun hne => ?_⟩
        · have hi : i < es.length * k := by have := (List.getElem?_eq_some_iff.1 hu).1; simpa using this
          have hk0 : 0 < k := Nat.pos_of_ne_zero (by rintro rfl; simp at hi)
          rw [List.getElem?_map, List.getElem?_range hi] at hu
          simp only [Option.map_some, Option.some.injEq] at hu
          subst hu
          have hfg := flat_get k es hrow0 (i / k) (i % k) (Nat.mod_lt _ hk0)
          rw [Nat.div_add_mod'] at hfg
          simp only [List.getElem?_map, hfg] at hx
          cases hb : (es[i / k]?).bind (fun r => r[i % k]?) with
          | none => rw [hb] at hx; simp at hx
          | some y =>
            rw [hb] at hx
            simp only [Option.map_some, Option.some.injEq] at hx
            subst hx
            exact hU _ _ y hb
        · have hne' : es ≠ [] := by rintro rfl; simp at hne
          obtain ⟨a, rfl, hsp, hst, hc⟩ := hA hne'
          have hkk : kk = k := by
            obtain ⟨r, hr⟩ := List.exists_mem_of_ne_nil es hne'
            rw [← hrow r hr, hrow0 r hr]
          subst hkk
          refine ⟨a, rfl, fun j u hj => ?_⟩
          have hjl : j < es.length * kk := by have := (List.getElem?_eq_some_iff.1 hj).1; simpa using this
          have hk0 : 0 < kk := Nat.pos_of_ne_zero (by rintro rfl; simp at hjl)
          rw [List.getElem?_map, List.getElem?_range hjl] at hj
          simp only [Option.map_some, Option.some.injEq] at hj
          have := hc (j / kk) (j % kk) (Nat.div_lt_of_lt_mul (by rw [Nat.mul_comm]; exact hjl)) (Nat.mod_lt _ hk0)
          rw [Nat.div_add_mod'] at this
          rw [this, hj]
    · cases hx
  · rename_i s k' off len
    split at hx
    · rename_i cs0 hs
      split at hx
      · rename_i hcond
        obtain ⟨rfl, hle⟩ := hcond
        injection hx with hx; injection hx with h1 h2; subst h1; subst h2
        rcases hr with ⟨b, cap, cells, ty, hg, rfl, _, _, hb, _⟩ | ⟨hg, rfl, rfl, rfl⟩ | ⟨b, off', hg, rfl, rfl⟩
        · rcases hm.blk s cs0 hs with ⟨b', t', vs, sp, hg', hb', hc'⟩ | ⟨hg', _⟩ | ⟨b', en, clk, hg', hb', _⟩
          rotate_left 2
          · rw [hg] at hg'; injection hg' with hg'; injection hg' with hg'; subst hg'
            rw [hb] at hb'; cases hb'
          · rw [hg] at hg'; injection hg' with hg'; injection hg' with hg'; subst hg'
            have hl := hc'.1
            refine ⟨some ⟨b, off, none⟩, cap, (vs.drop off).take (len * k'), rfl, (hc'.drop off).take _, by simp; omega, fun _ => ⟨_, rfl, fun j u hj => ?_⟩⟩
            rw [mk_add, cell_blk hb']
            apply getElem_blk
            rw [List.getElem?_take] at hj
            split at hj
            · rwa [List.getElem?_drop] at hj
            · cases hj
          · rw [hg] at hg'; injection hg' with hg'; cases hg'
        · exact ⟨none, 0, [], rfl, by simpa using CsRel.nil, by simp, fun h => absurd rfl h⟩
        · exact ⟨_, 0, [], rfl, by simpa using CsRel.nil, by simp, fun h => absurd rfl h⟩
      · cases hx
    · cases hx
  · injection hx with hx; injection hx with h1 h2; subst h1; subst h2
    cases hr
    exact ⟨none, 0, [], rfl, CsRel.nil, by simp, fun h => absurd rfl h⟩
  · cases hx

theorem exec_append {P : Program} {o : Oper} {a : Act} {w w' : World} {x y : Operand} {t : TypeId} {v : Value} (ho : o.op = .call { callee := .builtin .append, args := #[x, y], argTypes := #[t, t] })
    (h : (Builtin.append_ #[t, t] o.type #[a.eval x, a.eval y]).run P w = .ok v w') : (execOp a.eval o).run P w = .ok (.value v) w' := by
  simp [execOp, ho, resolve, invoke, builtin, h]

theorem StepOK.append {P : Program} {n : Nat} {stay : Nat → Prop} {o : Oper} {σ : St} (x y : Operand) (t : TypeId) (ho : o.op = .call { callee := .builtin .append, args := #[x, y], argTypes := #[t, t] })
    (d s k len : Nat) (hdst : o.dst = some d) (cs news : List V) (m : Nat) (hx : σ.ev x = .e (.c (.sub s k 0 len))) (hs : σ.heap s = some cs) (hcs : cs.length = len * k) (hy : srcV k σ.heap (σ.ev y) = some (news, m))
    (e : TypeId) (bytes : Nat) (zs : List V) (ht : tsl P t = some e) (hk : tsz P e = some k) (hb : tby P e = some bytes) (hz : tzv P e = some zs) (hzk : zs.length = k)
    (hcn : ∀ v ∈ cs, ¬ v.names s) (hnn : ∀ v ∈ news, ¬ v.names s) (hfit : (len + m) * bytes ≤ 140737488355328) (hmax : len + m ≤ 140737488355328) (hst : ¬ stay s) (hd : d < n) :
    StepOK P n stay o σ ⟨upd (fun i => (σ.env i).kill s) d (.e (.c (.sub s k 0 (len + m)))), updH (fun u => (σ.heap u).map (List.map (V.kill s))) s (some (cs ++ news))⟩ := by
  intro C hn hstay a w ⟨γ, R⟩ K Q hK
  have h1 := R.ev x
  rw [hx] at h1
  obtain ⟨B, c, us, hvy, hcu, hul, hsrc⟩ := src_rel R.mem hy (R.ev y)
  have hmax' : len + m ≤ maxLen := by simp only [maxLen]; omega
  have hdd : dstOK C.nt o.dst := by rw [hdst, hn]; intro j hj; injection hj with hj; omega
  have hkillR := R.kill s
  have hkk : (∀ i, ¬ ((σ.kill s).env i).names s) ∧ ∀ u cs, u ≠ s → (σ.kill s).heap u = some cs → ∀ v ∈ cs, ¬ v.names s := by
    refine ⟨fun i => T.kill_names _ s, fun u cs _ hu v hv => ?_⟩
    simp only [St.kill, Option.map_eq_some_iff] at hu
    obtain ⟨cs0, _, rfl⟩ := hu
    simp only [List.mem_map] at hv
    obtain ⟨v0, _, rfl⟩ := hv
    exact v0.kill_names s
  have hcns : ∀ v ∈ cs ++ news, ¬ v.names s := by
    intro v hv
    rcases List.mem_append.1 hv with h | h
    · exact hcn v h
    · exact hnn v h
  -- the two ends
  have fin : ∀ (γ' : G) (v' : Value) (w' : World), RelAt C γ' ⟨(σ.kill s).env, updH (σ.kill s).heap s (some (cs ++ news))⟩ a w' → TRel w' C.M γ' (.e (.c (.sub s k 0 (len + m)))) v' → K (a.put o.dst v') w' := by
    intro γ' v' w' R' hr
    refine hK _ _ ⟨γ', ?_⟩
    have := R'.skipPut o.dst hdd v' _ hr
    rw [hdst] at this ⊢
    exact this
  have newEnd : ∀ (vs : List Value) (cap' : Nat) (rest : List Value), CsRel w C.M γ cs vs → len + m ≤ cap' → cap' ≤ maxLen → cap' * k ≤ ((vs ++ us) ++ rest).length →
      K (a.put o.dst (.slice (some ⟨w.heap.size, 0, none⟩) (len + m) cap')) (w.drew.alloc (.cells ((vs ++ us) ++ rest).toArray e)) := by
    intro vs cap' rest hc h1 h2 h3
    have R' := hkillR.moveOwn (s := s) (t := e) (spare := rest) w.drew (.inr rfl) (hc.append hcu) hcns (by rw [hstay]; exact hst) hkk
    refine fin _ _ _ R' (.inl ⟨w.heap.size, cap', ((vs ++ us) ++ rest).toArray, e, by simp [updG], rfl, h1, h2, ?_, by simpa using h3⟩)
    exact heap_alloc_at w.drew _
  rcases h1 with ⟨b, cap, cells, ty, hg, hvx, hlc, hcm, hbb, hroom⟩ | ⟨hg, _, h0, hvx⟩ | ⟨b, off', hg, h0, hvx⟩
  · obtain ⟨t0, vs, spare, hb0, hc0⟩ := R.blkC hs hg hbb
    rw [hb0] at hbb
    injection hbb with hbb; injection hbb with hbb _; subst hbb
    have hl0 := hc0.1
    obtain ⟨v', w', hrun, hres⟩ := append_run (P := P) (w := w) o.type ht hk hb hz hzk (A := some ⟨b, 0, none⟩) (len := len) (cap := cap) (vs := vs) (spare := spare) (B := B) (m := m) (c := c) (us := us)
      (.inl ⟨b, t0, rfl, hb0, by simpa using hroom⟩) hlc hcm (by omega) hul hsrc hcu.ones hfit hmax'
    refine wp_value (v := v') (w' := w') (exec_append ho (by rw [hvx, hvy]; exact hrun)) ?_
    rcases hres with ⟨rfl, hle, ⟨rfl, hw0⟩ | ⟨b1, t1, hA, hb1, hsl, rfl⟩⟩ | ⟨cap', rest, rfl, h1, h2, h3, rfl⟩
    · have hus : us = [] := List.eq_nil_of_length_eq_zero (by simpa using hul)
      have hnw : news = [] := List.eq_nil_of_length_eq_zero (by rw [hcu.1, hus]; rfl)
      subst hus; subst hnw
      rw [hw0]
      refine fin γ _ _ ?_ (.inl ⟨b, cap, _, t0, hg, by simp, by simpa using hlc, hcm, hb0, hroom⟩)
      have := hkillR.setOwn (s := s) (cs' := cs ++ []) (vs' := vs) (spare := spare) hg hb0 (by simp) (by simpa using hc0) (by simp [St.kill, hs])
      rwa [setRow_self w b _ t0 _ hb0] at this
    · injection hA with hA; injection hA with hA; subst hA
      refine fin γ _ _ (hkillR.setOwn (s := s) (cs' := cs ++ news) (vs' := vs ++ us) (spare := spare.drop us.length) hg hb0 (by simp; omega) (hc0.append hcu) (by simp [St.kill, hs])) ?_
      refine .inl ⟨b, cap, _, t0, hg, rfl, hle, hcm, setRow_heap w b _ _ t0 _ hb0, ?_⟩
      simp at hroom ⊢
      omega
    · exact newEnd vs cap' rest hc0 h1 h2 h3
  · subst h0
    rcases R.mem.blk s cs hs with ⟨b', t', vs, sp, hg', hb', hc'⟩ | ⟨_, hc0⟩ | ⟨b', en, clk, hg', hb', hc'⟩
    rotate_left 2
    · rw [hg] at hg'; injection hg' with hg'; cases hg'
    · rw [hg] at hg'; injection hg' with hg'; cases hg'
    · subst hc0
      obtain ⟨v', w', hrun, hres⟩ := append_run (P := P) (w := w) o.type ht hk hb hz hzk (A := none) (len := 0) (cap := 0) (vs := []) (spare := []) (B := B) (m := m) (c := c) (us := us)
        (.inr ⟨rfl, rfl⟩) (Nat.le_refl _) (Nat.zero_le _) (by simp) hul hsrc hcu.ones hfit hmax'
      refine wp_value (v := v') (w' := w') (exec_append ho (by rw [hvx, hvy]; exact hrun)) ?_
      rcases hres with ⟨rfl, hle, ⟨rfl, hw0⟩ | ⟨b1, t1, hA, _⟩⟩ | ⟨cap', rest, rfl, h1, h2, h3, rfl⟩
      · have hus : us = [] := List.eq_nil_of_length_eq_zero (by simpa using hul)
        have hnw : news = [] := List.eq_nil_of_length_eq_zero (by rw [hcu.1, hus]; rfl)
        subst hus; subst hnw
        rw [hw0]
        refine fin γ _ _ ?_ (.inr (.inl ⟨hg, rfl, rfl, rfl⟩))
        have hup : updH (σ.kill s).heap s (some ([] ++ [])) = (σ.kill s).heap := by
          funext u; simp only [updH]; split
          · rename_i e; subst e; simp [St.kill, hs]
          · rfl
        rw [hup]
        exact hkillR
      · cases hA
      · exact newEnd [] cap' rest CsRel.nil h1 h2 h3
  · subst h0
    have hcs0 : cs = [] := List.eq_nil_of_length_eq_zero (by simpa using hcs)
    subst hcs0
    obtain ⟨t0, vs, spare, hb0, hc0⟩ := R.blk hs hg rfl
    have hvs0 : vs = [] := List.eq_nil_of_length_eq_zero (by have := hc0.1; simpa using this.symm)
    subst hvs0
    obtain ⟨v', w', hrun, hres⟩ := append_run (P := P) (w := w) o.type ht hk hb hz hzk (A := some ⟨b, off', none⟩) (len := 0) (cap := 0) (vs := []) (spare := []) (B := B) (m := m) (c := c) (us := us)
      (.inr ⟨rfl, rfl⟩) (Nat.le_refl _) (Nat.zero_le _) (by simp) hul hsrc hcu.ones hfit hmax'
    refine wp_value (v := v') (w' := w') (exec_append ho (by rw [hvx, hvy]; exact hrun)) ?_
    rcases hres with ⟨rfl, hle, ⟨rfl, hw0⟩ | ⟨b1, t1, hA, hb1, hsl, rfl⟩⟩ | ⟨cap', rest, rfl, h1, h2, h3, rfl⟩
    · have hus : us = [] := List.eq_nil_of_length_eq_zero (by simpa using hul)
      have hnw : news = [] := List.eq_nil_of_length_eq_zero (by rw [hcu.1, hus]; rfl)
      subst hus; subst hnw
      rw [hw0]
      refine fin γ _ _ ?_ (.inr (.inr ⟨b, off', hg, rfl, rfl⟩))
      have hup : updH (σ.kill s).heap s (some ([] ++ [])) = (σ.kill s).heap := by
        funext u; simp only [updH]; split
        · rename_i e; subst e; simp [St.kill, hs]
        · rfl
      rw [hup]
      exact hkillR
    · have hus : us = [] := List.eq_nil_of_length_eq_zero (by simpa using hsl)
      have hm0 : m = 0 := by omega
      subst hm0
      have hnw : news = [] := List.eq_nil_of_length_eq_zero (by rw [hcu.1, hus]; rfl)
      subst hus; subst hnw
      injection hA with hA; injection hA with hA _; subst hA
      refine fin γ _ _ ?_ (.inr (.inr ⟨b, off', hg, rfl, rfl⟩))
      simp at hb1
      have := hkillR.setOwn (s := s) (cs' := [] ++ []) (vs' := [] ++ []) (spare := ([] : List Value).drop 0) hg hb1 (by simp) (by simpa using CsRel.nil) (by simp [St.kill, hs])
      simpa using this
    · exact newEnd [] cap' rest CsRel.nil h1 h2 h3

end Go.Ab
end

section
namespace Go.Ab
open Go Go.RowKit

def Ent (P : Program) (f : FuncId) : Prop := ∀ (args : Array Value) (w : World), (callFunc f args).run P w = .ok (.enter f args) w

theorem ent_of {P : Program} {f : FuncId} {fn : Func} {c : Code} (hf : P.funcs[f]? = some fn) (hname : (fn.name == "runtime.NumGoroutine") = false) (hb : fn.body = some c) : Ent P f := by
  intro args w
  have h1 : fn.name ≠ "runtime.NumGoroutine" := by simpa using hname
  simp [callFunc, hf, h1, hb, mark]

def noHeap : Heap := fun _ => none
def noG : G := fun _ => none

/-- What comes behind a call: a value that reads as r, the own blocks H', all else as it was. -/
def SatPost (M : Nat → Prop) (γ : G) (w : World) (H' : Heap) (stay : Nat → Prop) (r : T) (e : Ending) (w' : World) : Prop :=
  ∃ v γ', e = .returned v ∧ Mem M γ' H' w' ∧ TRel w' M γ' r v ∧ Keep (fun b => ∃ s, γ s = some (some b)) w w' ∧
    (∀ s b, γ' s = some (some b) → (∃ t, γ t = some (some b)) ∨ w.heap.size ≤ b) ∧ ∀ s, stay s → γ' s = γ s

/-- A contract: called with arguments that read as args, beside own blocks that read as H, in whatever memory. -/
def Sat (P : Program) (f : FuncId) (H : Heap) (args : List E) (H' : Heap) (stay : Nat → Prop) (r : T) : Prop :=
  Ent P f ∧ ∀ (M : Nat → Prop) (γ : G) (w : World) (vals : List Value), Mem M γ H w → EsRel w M γ args vals → Calls P f vals.toArray w (SatPost M γ w H' stay r)

/-- A pure contract. -/
def Pur (P : Program) (f : FuncId) (args : List E) (r : T) : Prop := Sat P f noHeap args noHeap (fun _ => False) r

def outM (M : Nat → Prop) (γ : G) : Nat → Prop := fun b => M b ∨ ∃ s, γ s = some (some b)

theorem stab_out {w : World} {M : Nat → Prop} {γ : G} {b : Nat} : stab w (outM M γ) noG b ↔ stab w M γ b := by
  constructor
  · rintro ⟨h1, h2, _⟩
    exact ⟨h1, fun h => h2 (.inl h), fun s h => h2 (.inr ⟨s, h⟩)⟩
  · rintro ⟨h1, h2, h3⟩
    refine ⟨h1, ?_, fun s h => by cases h⟩
    rintro (h | ⟨s, h⟩)
    · exact h2 h
    · exact h3 s h

theorem VRel.toOut {w : World} {M : Nat → Prop} {γ : G} {x : V} {v : Value} (h : VRel w M γ x v) (hn : ∀ s, ¬ x.names s) : VRel w (outM M γ) noG x v := by
  cases x with
  | d x => exact DRel.mono h (fun b hb => stab_out.2 hb) (fun _ _ => rfl)
  | ptr s off => exact (hn s rfl).elim
  | sub s k off len => exact (hn s rfl).elim
  | pim ds =>
    obtain ⟨a, e, hsp, hst, hd⟩ := h
    refine ⟨a, e, hsp, stab_out.2 hst, fun j x hj => ?_⟩
    obtain ⟨u, hu, hr⟩ := hd j x hj
    exact ⟨u, hu, hr.mono (fun b hb => stab_out.2 hb) (fun _ _ => rfl)⟩
  | clo f caps =>
    obtain ⟨cs, e, hl, hc⟩ := h
    refine ⟨cs, e, hl, fun i p c hp _ => (hn p.1 ⟨p, List.mem_of_getElem? hp, rfl⟩).elim⟩
  | mp s => exact (hn s rfl).elim
  | mapc es => exact h.elim
  | any => exact h

theorem VRel.ofOut {w : World} {M : Nat → Prop} {γ : G} {x : V} {v : Value} (h : VRel w (outM M γ) noG x v) : VRel w M γ x v := by
  have hn : ∀ s, ¬ x.names s := fun s hs => h.named s hs rfl
  cases x with
  | d x => exact DRel.mono h (fun b hb => stab_out.1 hb) (fun _ _ => rfl)
  | ptr s off => exact (hn s rfl).elim
  | sub s k off len => exact (hn s rfl).elim
  | pim ds =>
    obtain ⟨a, e, hsp, hst, hd⟩ := h
    refine ⟨a, e, hsp, stab_out.1 hst, fun j x hj => ?_⟩
    obtain ⟨u, hu, hr⟩ := hd j x hj
    exact ⟨u, hu, hr.mono (fun b hb => stab_out.1 hb) (fun _ _ => rfl)⟩
  | clo f caps =>
    obtain ⟨cs, e, hl, hc⟩ := h
    refine ⟨cs, e, hl, fun i p c hp _ => (hn p.1 ⟨p, List.mem_of_getElem? hp, rfl⟩).elim⟩
  | mp s => exact (hn s rfl).elim
  | mapc es => exact h.elim
  | any => exact h

theorem CsRel.toOut {w : World} {M : Nat → Prop} {γ : G} {xs : List V} {vs : List Value} (h : CsRel w M γ xs vs) (hn : ∀ s, ¬ ∃ x ∈ xs, x.names s) : CsRel w (outM M γ) noG xs vs :=
  ⟨h.1, fun i x u hx hu => (h.2 i x u hx hu).toOut fun s hs => hn s ⟨x, List.mem_of_getElem? hx, hs⟩⟩
theorem CsRel.ofOut {w : World} {M : Nat → Prop} {γ : G} {xs : List V} {vs : List Value} (h : CsRel w (outM M γ) noG xs vs) : CsRel w M γ xs vs :=
  ⟨h.1, fun i x u hx hu => (h.2 i x u hx hu).ofOut⟩
theorem ERel.toOut {w : World} {M : Nat → Prop} {γ : G} {x : E} {v : Value} (h : ERel w M γ x v) (hn : ∀ s, ¬ x.names s) : ERel w (outM M γ) noG x v := by
  cases x with
  | c x => exact VRel.toOut h hn
  | agg xs => obtain ⟨us, e, hc⟩ := h; exact ⟨us, e, hc.toOut hn⟩
theorem ERel.ofOut {w : World} {M : Nat → Prop} {γ : G} {x : E} {v : Value} (h : ERel w (outM M γ) noG x v) : ERel w M γ x v := by
  cases x with
  | c x => exact VRel.ofOut h
  | agg xs => obtain ⟨us, e, hc⟩ := h; exact ⟨us, e, hc.ofOut⟩
theorem TRel.ofOut {w : World} {M : Nat → Prop} {γ : G} {x : T} {v : Value} (h : TRel w (outM M γ) noG x v) : TRel w M γ x v := by
  cases x with
  | e x => exact ERel.ofOut h
  | tup xs => obtain ⟨us, e, hl, hc⟩ := h; exact ⟨us, e, hl, fun i x u hx hu => (hc i x u hx hu).ofOut⟩
  | any => trivial

/- nil reads as a slice of no rows -/
def D.norm : D → D
  | .sc (.slice none 0 0) => .sl []
  | x => x
def V.norm : V → V
  | .d x => .d x.norm
  | v => v
def E.norm : E → E
  | .c v => .c v.norm
  | .agg vs => .agg (vs.map V.norm)
def T.norm : T → T
  | .e x => .e x.norm
  | .tup xs => .tup (xs.map E.norm)
  | .any => .any

theorem DRel.norm {w : World} {S : Nat → Prop} {x : D} {v : Value} (h : DRel w S x v) : DRel w S x.norm v := by
  unfold D.norm
  split
  · cases h
    exact .sl [] 0 0 none (fun _ _ => undef) (Nat.le_refl _) (by simp only [maxLen]; omega) (fun r hr => by simp at hr) (fun h => absurd rfl h) (fun i j x hx => by simp at hx)
  · exact h
theorem VRel.norm {w : World} {M : Nat → Prop} {γ : G} {x : V} {v : Value} (h : VRel w M γ x v) : VRel w M γ x.norm v := by
  cases x <;> first | exact DRel.norm h | exact h
theorem CsRel.norm {w : World} {M : Nat → Prop} {γ : G} {xs : List V} {vs : List Value} (h : CsRel w M γ xs vs) : CsRel w M γ (xs.map V.norm) vs := by
  refine ⟨by simp [h.1], fun i x u hx hu => ?_⟩
  simp only [List.getElem?_map] at hx
  cases hi : xs[i]? with
  | none => simp [hi] at hx
  | some y => simp [hi] at hx; subst hx; exact (h.2 i y u hi hu).norm
theorem ERel.norm {w : World} {M : Nat → Prop} {γ : G} {x : E} {v : Value} (h : ERel w M γ x v) : ERel w M γ x.norm v := by
  cases x with
  | c x => exact VRel.norm h
  | agg xs => obtain ⟨us, e, hc⟩ := h; exact ⟨us, e, hc.norm⟩
theorem TRel.norm {w : World} {M : Nat → Prop} {γ : G} {x : T} {v : Value} (h : TRel w M γ x v) : TRel w M γ x.norm v := by
  cases x with
  | e x => exact ERel.norm h
  | tup xs =>
    obtain ⟨us, e, hl, hc⟩ := h
    refine ⟨us, e, by simpa using hl, fun i x u hx hu => ?_⟩
    simp only [List.getElem?_map] at hx
    cases hi : xs[i]? with
    | none => simp [hi] at hx
    | some y => simp [hi] at hx; subst hx; exact (hc i y u hi hu).norm
  | any => trivial

theorem no_mem {M : Nat → Prop} {γ : G} {H : Heap} {w : World} (h : Mem M γ H w) : Mem (outM M γ) noG noHeap w :=
  ⟨fun b hb => hb.elim (h.low b) (fun ⟨_, hs⟩ => h.lt hs), (fun s t b h1 => by cases h1), (fun s b h1 => by cases h1), (fun _ _ => rfl), (fun s cs hs => by cases hs)⟩

theorem args_rel {w : World} {M : Nat → Prop} {γ : G} {ev : Operand → T} {a : Act} {args : List E} (xs : List Operand) (h : ∀ x ∈ xs, TRel w M γ (ev x) (a.eval x)) (he : (xs.map fun x => (ev x).norm) = args.map .e) :
    EsRel w M γ args (xs.map a.eval) := by
  have hl : xs.length = args.length := by have := congrArg List.length he; simpa using this
  refine ⟨by simp [hl], fun i x u hx hu => ?_⟩
  simp only [List.getElem?_map] at hu
  cases hi : xs[i]? with
  | none => simp [hi] at hu
  | some y =>
    simp [hi] at hu
    subst hu
    have h1 := (h y (List.mem_of_getElem? hi)).norm
    have h2 := congrArg (fun l => l[i]?) he
    simp only [List.getElem?_map, hi, hx, Option.map_some, Option.some.injEq] at h2
    rw [h2] at h1
    exact h1

theorem pure_call {P : Program} {o : Oper} {ev : Operand → T} (f : FuncId) (xs : Array Operand) (ts : Array TypeId) (ho : o.op = .call { callee := .value (.func f), args := xs, argTypes := ts })
    (args : List E) (r : T) (hs : Pur P f args r) (he : (xs.toList.map fun x => (ev x).norm) = args.map .e) (hn : ∀ x ∈ args, ∀ s, ¬ x.names s) : PureOK P o ev r := by
  intro M γ H w a hm h K Q hK
  obtain ⟨hent, hc⟩ := hs
  have hargs := args_rel (a := a) xs.toList (fun x hx => h x (by rw [ho]; simp only [Op.operands, Call.operands]; simp at hx ⊢; exact .inr hx)) he
  have hargs' : EsRel w (outM M γ) noG args (xs.toList.map a.eval) := ⟨hargs.1, fun i x u hx hu => (hargs.2 i x u hx hu).toOut (hn x (List.mem_of_getElem? hx))⟩
  have hcall := hc (outM M γ) noG w _ (no_mem hm) hargs'
  unfold Oper.wp
  have hrun : (execOp a.eval o).run P w = .ok (.enter f (xs.toList.map a.eval).toArray) w := by
    simp only [execOp, ho, resolve, Act.eval, Deferred.ofValue, Sem.run_bind, Sem.run_pure, Result.andThen_ok, invoke]
    rw [hent]
    congr 2
    apply Array.ext'
    simp
  rw [hrun]
  refine hcall.mono fun e w' he => ?_
  obtain ⟨v, γ', rfl, hm', hr, hk, _, _⟩ := he
  have hγ : γ' = noG := funext fun s => hm'.dom s rfl
  subst hγ
  refine hK v w' ?_ hr.ofOut
  exact ⟨hk.os, hk.tape, hk.output, hk.drawn, hk.size, fun b hb _ => hk.same b hb (fun ⟨s, hs⟩ => by cases hs), hk.shape⟩

/- the forms of the code -/
structure Post where
  nrm : St → Prop
  ext : Nat → St → Prop
  ret : St → Prop

def Post.at (Q : Post) : Exit → St → Prop
  | .normal, σ => Q.nrm σ
  | .exit i, σ => Q.ext i σ
  | .ret, σ => Q.ret σ
  | _, _ => False

def WP (P : Program) (n : Nat) (stay : Nat → Prop) (c : Code) (σ : St) (Q : Post) : Prop :=
  ∀ C : Ctx, C.nt = n → C.stay = stay → ∀ a w, Rel C σ a w → c.wp P (fun e a' w' => ∃ σ', Rel C σ' a' w' ∧ Q.at e σ') a w

def WPops (P : Program) (n : Nat) (stay : Nat → Prop) (ops : Array Oper) (l : List Oper) (σ : St) (K : St → Prop) : Prop :=
  ∀ C : Ctx, C.nt = n → C.stay = stay → ∀ a w, Rel C σ a w → ∀ Q : Exit → Act → World → Prop, (∀ a' w' σ', Rel C σ' a' w' → K σ' → Q .normal a' w') → wpList P ops Q l a w

section
variable {P : Program} {n : Nat} {stay : Nat → Prop} {σ : St} {Q : Post}

theorem WP.skip (h : Q.nrm σ) : WP P n stay .skip σ Q := fun _ _ _ _ _ R => wp_skip ⟨σ, R, h⟩
theorem WP.ret (h : Q.ret σ) : WP P n stay .ret σ Q := fun _ _ _ _ _ R => wp_ret ⟨σ, R, h⟩
theorem WP.exit {i : Nat} (h : Q.ext i σ) : WP P n stay (.exit i) σ Q := fun _ _ _ _ _ R => wp_exit ⟨σ, R, h⟩

theorem WP.seq {c1 c2 : Code} (h : WP P n stay c1 σ ⟨fun σ' => WP P n stay c2 σ' Q, Q.ext, Q.ret⟩) : WP P n stay (.seq c1 c2) σ Q := by
  intro C hn hs a w R
  refine wp_seq (wp_mono (h C hn hs a w R) fun e a' w' ⟨σ', R', hq⟩ => ?_)
  cases e with
  | normal => exact hq C hn hs a' w' R'
  | exit i => exact ⟨σ', R', hq⟩
  | ret => exact ⟨σ', R', hq⟩
  | goto l => exact hq.elim
  | panic ch => exact hq.elim
  | outgrown => exact hq.elim

theorem WP.block {c : Code} {i : Nat} (h : WP P n stay c σ ⟨Q.nrm, fun j σ' => if j = i then Q.nrm σ' else Q.ext j σ', Q.ret⟩) : WP P n stay (.block i c) σ Q := by
  intro C hn hs a w R
  refine wp_block (wp_mono (h C hn hs a w R) fun e a' w' ⟨σ', R', hq⟩ => ?_)
  cases e with
  | normal => exact ⟨σ', R', hq⟩
  | exit j =>
    simp only [Post.at] at hq
    simp only [Exit.inBlock]
    split at hq
    · rename_i e; rw [if_pos e]; exact ⟨σ', R', hq⟩
    · rename_i e; rw [if_neg e]; exact ⟨σ', R', hq⟩
  | ret => exact ⟨σ', R', hq⟩
  | goto l => exact hq.elim
  | panic ch => exact hq.elim
  | outgrown => exact hq.elim

theorem WP.cond {c : Operand} {x y : Code} (t : Bool) (hc : σ.ev c = .e (.c (.d (.sc (.bool t))))) (h1 : t = true → WP P n stay x σ Q) (h2 : t = false → WP P n stay y σ Q) : WP P n stay (.cond c x y) σ Q := by
  intro C hn hs a w R
  obtain ⟨γ, R0⟩ := R
  have h := R0.ev c
  rw [hc] at h
  exact wp_cond_split (sc_inv h) (fun ht => h1 ht C hn hs a w ⟨γ, R0⟩) (fun ht => h2 ht C hn hs a w ⟨γ, R0⟩)

/-- One abstract state for another, of which less is known. -/
def Weak (n : Nat) (stay : Nat → Prop) (σ σ' : St) : Prop := ∀ C : Ctx, C.nt = n → C.stay = stay → ∀ a w, Rel C σ a w → Rel C σ' a w

theorem WP.weak {c : Code} {σ' : St} (hw : Weak n stay σ σ') (h : WP P n stay c σ' Q) : WP P n stay c σ Q := fun C hn hs a w R => h C hn hs a w (hw C hn hs a w R)

theorem WP.mono {c : Code} {Q' : Post} (h : WP P n stay c σ Q) (h1 : ∀ σ, Q.nrm σ → Q'.nrm σ) (h2 : ∀ i σ, Q.ext i σ → Q'.ext i σ) (h3 : ∀ σ, Q.ret σ → Q'.ret σ) : WP P n stay c σ Q' :=
  fun C hn hs a w R => wp_mono (h C hn hs a w R) fun e a' w' ⟨σ', R', hq⟩ => ⟨σ', R', by cases e <;> first | exact h1 _ hq | exact h2 _ _ hq | exact h3 _ hq | exact hq⟩

/-- A loop: a family of states, one of which stands at each round's head, and a measure. -/
theorem WP.loop {c : Code} {X : Type} (I : X → St) (G : X → Prop) (μ : X → Nat) (x0 : X) (h0 : Weak n stay σ (I x0)) (g0 : G x0)
    (round : ∀ x, G x → WP P n stay c (I x) ⟨fun σ' => ∃ y, Weak n stay σ' (I y) ∧ G y ∧ μ y < μ x, Q.ext, Q.ret⟩) : WP P n stay (.loop c) σ Q := by
  intro C hn hs a w R b k cs
  have key : ∀ m (x : X), μ x = m → G x → ∀ a w, Rel C (I x) a w →
      ∃ e a' w', (∃ σ', Rel C σ' a' w' ∧ Q.at e σ') ∧ Arrives P (lone (b.at a (.code c :: .inLoop c :: k)) cs w) b k cs e a' w' := by
    intro m
    induction m using Nat.strongRecOn with
    | _ m ih =>
      intro x hx hg a w R
      obtain ⟨e, a₁, w₁, ⟨σ₁, R₁, hq⟩, harr⟩ := round x hg C hn hs a w R b (.inLoop c :: k) cs
      cases e with
      | normal =>
        obtain ⟨y, hwk, hgy, hlt⟩ := hq
        obtain ⟨e₂, a₂, w₂, hq₂, harr₂⟩ := ih (μ y) (hx ▸ hlt) y rfl hgy a₁ w₁ (hwk C hn hs a₁ w₁ R₁)
        exact ⟨e₂, a₂, w₂, hq₂, .of_steps (Steps.trans harr (.one step_inLoop)) harr₂⟩
      | exit i => exact ⟨.exit i, a₁, w₁, ⟨σ₁, R₁, hq⟩, .pass (x := .inLoop c) rfl (fun _ _ => .inl (by simp)) harr⟩
      | ret => exact ⟨.ret, a₁, w₁, ⟨σ₁, R₁, hq⟩, .pass (x := .inLoop c) rfl (fun _ _ => .inl (by simp)) harr⟩
      | goto l => exact hq.elim
      | panic ch => exact hq.elim
      | outgrown => exact hq.elim
  obtain ⟨e, a', w', hq, harr⟩ := key _ x0 rfl g0 a w (h0 C hn hs a w R)
  exact ⟨e, a', w', hq, .of_steps (.one step_loop) harr⟩
end

end Go.Ab
end

section
namespace Go.Ab
open Go Go.RowKit

section
variable {P : Program} {n : Nat} {stay : Nat → Prop} {ops : Array Oper} {rest : List Oper} {o : Oper} {σ σ' : St} {K : St → Prop}

theorem WPops.nil (h : K σ) : WPops P n stay ops [] σ K := fun _ _ _ a w R _ hq => hq a w σ R h

theorem WPops.step (hg : o.guard = none) (hs : StepOK P n stay o σ σ') (h : WPops P n stay ops rest σ' K) : WPops P n stay ops (o :: rest) σ K :=
  fun C hn hst a w R Q hq => wpList_plain hg fun K' hK' => hs C hn hst a w R K' Q fun a' w' R' => hK' _ _ (h C hn hst a' w' R' Q hq)

theorem yielded_of {C : Ctx} {a : Act} {w : World} (R : Rel C σ a w) {j t : Nat} {b : Bool} (hj : (ops[j]?).bind (·.dst) = some t) (hb : σ.env t = .e (.c (.d (.sc (.bool b))))) : yielded ops a.tmps j = some b := by
  obtain ⟨γ, R⟩ := R
  have h := R.env t
  rw [hb] at h
  have h := sc_inv h
  unfold yielded
  rw [hj]
  simp only [Option.bind_some]
  cases ht : a.tmps[t]? with
  | none => simp [Array.getD_eq_getD_getElem?, ht, undef] at h
  | some v => simp [Array.getD_eq_getD_getElem?, ht] at h; rw [h]

theorem WPops.yes {j t : Nat} {want : Bool} (hg : o.guard = some (j, want)) (hj : (ops[j]?).bind (·.dst) = some t) (hb : σ.env t = .e (.c (.d (.sc (.bool want)))))
    (hs : StepOK P n stay o σ σ') (h : WPops P n stay ops rest σ' K) : WPops P n stay ops (o :: rest) σ K :=
  fun C hn hst a w R Q hq => wpList_step fun K' hK' => by
    rw [if_pos (by simp [Region.wanted, hg, yielded_of R hj hb])]
    exact hs C hn hst a w R K' Q fun a' w' R' => hK' _ _ (h C hn hst a' w' R' Q hq)

theorem WPops.no {j t : Nat} {want b : Bool} (hg : o.guard = some (j, want)) (hj : (ops[j]?).bind (·.dst) = some t) (hb : σ.env t = .e (.c (.d (.sc (.bool b))))) (hne : (b == want) = false) (hd : dstOK n o.dst)
    (h : WPops P n stay ops rest (σ.put o.dst .any) K) : WPops P n stay ops (o :: rest) σ K :=
  fun C hn hst a w R Q hq => wpList_step fun K' hK' => by
    rw [if_neg (by simp [Region.wanted, hg, yielded_of R hj hb]; simpa using hne)]
    refine hK' _ _ (h C hn hst _ _ ?_ Q hq)
    obtain ⟨γ, R⟩ := R
    exact ⟨γ, R.skipPut o.dst (by rw [hn]; exact hd) undef .any trivial⟩

theorem WPops.weak (hw : Weak n stay σ σ') {l : List Oper} (h : WPops P n stay ops l σ' K) : WPops P n stay ops l σ K := fun C hn hs a w R => h C hn hs a w (hw C hn hs a w R)

theorem WP.region {id : Nat} {l : List Oper} {Q : Post} (h : WPops P n stay l.toArray l σ Q.nrm) : WP P n stay (.region id l.toArray false) σ Q :=
  fun C hn hs a w R => wp_region_lit (h C hn hs a w R _ fun _ _ σ' R' hk => ⟨σ', R', hk⟩)

theorem WP.seqRegion {id : Nat} {l : List Oper} {c : Code} {Q : Post} (h : WPops P n stay l.toArray l σ fun σ' => WP P n stay c σ' Q) : WP P n stay (.seq (.region id l.toArray false) c) σ Q :=
  WP.seq (WP.region h)
end

/- weakening -/
def TLe (x y : T) : Prop := ∀ (w : World) (M : Nat → Prop) (γ : G) (v : Value), TRel w M γ x v → TRel w M γ y v
def CsLe (xs ys : List V) : Prop := (∀ (w : World) (M : Nat → Prop) (γ : G) (vs : List Value), CsRel w M γ xs vs → CsRel w M γ ys vs) ∧ ∀ es, xs = [.mapc es] → ys = [.mapc es]
theorem TLe.refl (x : T) : TLe x x := fun _ _ _ _ h => h
theorem TLe.of_eq {x y : T} (h : x = y) : TLe x y := h ▸ TLe.refl x
theorem TLe.any (x : T) : TLe x .any := fun _ _ _ _ _ => trivial
theorem TLe.norm (x : T) : TLe x x.norm := fun _ _ _ _ h => h.norm
theorem CsLe.refl (x : List V) : CsLe x x := ⟨fun _ _ _ _ h => h, fun _ h => h⟩
theorem CsLe.of_eq {x y : List V} (h : x = y) : CsLe x y := h ▸ CsLe.refl x
theorem CsLe.norm (x : List V) : CsLe x (x.map V.norm) := ⟨fun _ _ _ _ h => h.norm, fun es h => by subst h; rfl⟩

def mk : List (Nat × T) → Nat → T
  | [], _ => .any
  | (j, t) :: r, i => if i = j then t else mk r i
def mkH : List (Nat × List V) → Heap
  | [], _ => none
  | (j, t) :: r, i => if i = j then some t else mkH r i

theorem mk_mem : ∀ (l : List (Nat × T)) (i : Nat), mk l i = .any ∨ (i, mk l i) ∈ l
  | [], _ => .inl rfl
  | (j, t) :: r, i => by
    simp only [mk]
    split
    · rename_i e; subst e; exact .inr (by simp)
    · rcases mk_mem r i with h | h
      · exact .inl h
      · exact .inr (List.mem_cons_of_mem _ h)
theorem mkH_mem : ∀ (l : List (Nat × List V)) (i : Nat) (cs : List V), mkH l i = some cs → (i, cs) ∈ l
  | [], _, _, h => by cases h
  | (j, t) :: r, i, cs, h => by
    simp only [mkH] at h
    split at h
    · rename_i e; subst e; injection h with h; subst h; simp
    · exact List.mem_cons_of_mem _ (mkH_mem r i cs h)

theorem Weak.refl (n : Nat) (stay : Nat → Prop) (σ : St) : Weak n stay σ σ := fun _ _ _ _ _ h => h
theorem Weak.trans {n : Nat} {stay : Nat → Prop} {a b c : St} (h : Weak n stay a b) (k : Weak n stay b c) : Weak n stay a c := fun C hn hs x w R => k C hn hs x w (h C hn hs x w R)

/-- The general weakening: listed temporaries, listed own blocks. -/
theorem Weak.lists {n : Nat} {stay : Nat → Prop} {σ : St} (l : List (Nat × T)) (hl : List (Nat × List V)) (h1 : ∀ p ∈ l, TLe (σ.env p.1) p.2) (h2 : ∀ p ∈ hl, ∃ cs, σ.heap p.1 = some cs ∧ CsLe cs p.2)
    (h3 : ∀ p ∈ l, ∀ s, p.2.names s → mkH hl s ≠ none) (h4 : ∀ p ∈ hl, ∀ x ∈ p.2, ∀ s, x.names s → mkH hl s ≠ none) (h5 : ∀ s, stay s → mkH hl s ≠ none) : Weak n stay σ ⟨mk l, mkH hl⟩ := by
  intro C hn hs a w ⟨γ, R⟩
  let γ' : G := fun s => match mkH hl s with | none => none | some _ => γ s
  have hsub : ∀ s, mkH hl s ≠ none → γ' s = γ s := by
    intro s hs
    simp only [γ']
    cases h : mkH hl s with
    | none => exact absurd h hs
    | some cs => rfl
  have hle : ∀ s b, γ' s = some b → γ s = some b := by
    intro s b h
    simp only [γ'] at h
    split at h
    · cases h
    · exact h
  have hca : Carry C.M γ γ' w w := ⟨Nat.le_refl _, fun _ _ => rfl, fun b hb s h => hb.2.2 s (hle s _ h), fun _ cells _ h => ⟨cells, h, rfl⟩⟩
  refine ⟨γ', ⟨R.mem.low, fun s t b x y => R.mem.inj s t b (hle s _ x) (hle t _ y), fun s b x => R.mem.nm s b (hle s _ x), fun s h => ?_, fun s cs h => ?_⟩, fun i => ?_, R.keep, fun s b x => R.own s b (hle s _ x), fun s h => ?_, R.defers, R.size⟩
  · show γ' s = none
    have h : mkH hl s = none := h
    simp only [γ', h]
  · have hmem := mkH_mem hl s cs h
    obtain ⟨cs0, h0, hcl⟩ := h2 _ hmem
    have hne : mkH hl s ≠ none := by rw [show mkH hl s = some cs from h]; simp
    rcases R.mem.blk s cs0 h0 with ⟨b, t, vs, sp, hg, hb, hc⟩ | ⟨hg, hc⟩ | ⟨b, en, clk, hg, hb, hc⟩
    rotate_left 2
    · exact .inr (.inr ⟨b, en, clk, by rw [hsub s hne]; exact hg, hb, hcl.2 _ hc⟩)
    · exact .inl ⟨b, t, vs, sp, by rw [hsub s hne]; exact hg, hb, (hcl.1 _ _ _ _ hc).carry hca fun u hu => by
        obtain ⟨x, hx, hu⟩ := hu
        exact hsub u (h4 _ hmem x hx u hu)⟩
    · refine .inr (.inl ⟨by rw [hsub s hne]; exact hg, ?_⟩)
      subst hc
      have := (hcl.1 w C.M γ [] CsRel.nil).1
      exact List.eq_nil_of_length_eq_zero (by simpa using this)
  · rcases mk_mem l i with h | h
    · show TRel w C.M γ' (mk l i) _
      rw [h]; trivial
    · exact (h1 _ h _ _ _ _ (R.env i)).carry hca fun s hs => hsub s (h3 _ h s hs)
  · rw [hsub s (h5 s (by rw [← hs]; exact h))]
    exact R.stay s h

/-- A nil slice in a temporary becomes an own slice of no elements. -/
theorem Weak.own {n : Nat} {stay : Nat → Prop} {σ : St} (i s k : Nat) (hi : σ.env i = .e (.c (.d (.sc (.slice none 0 0))))) (hs : σ.heap s = none) (hst : ¬ stay s) :
    Weak n stay σ ⟨upd σ.env i (.e (.c (.sub s k 0 0))), updH σ.heap s (some [])⟩ := by
  intro C hn hstay a w ⟨γ, R⟩
  have hγs : γ s = none := R.mem.dom s hs
  have hle : ∀ u b, updG γ s none u = some (some b) → γ u = some (some b) := by
    intro u b h
    unfold updG at h
    split at h
    · cases h
    · exact h
  have hne : ∀ u, γ u ≠ none → updG γ s none u = γ u := by
    intro u hu
    unfold updG
    rw [if_neg (by rintro rfl; exact hu hγs)]
  have hca : Carry C.M γ (updG γ s none) w w := ⟨Nat.le_refl _, fun _ _ => rfl, fun b hb u h => hb.2.2 u (hle u b h), fun _ cells _ h => ⟨cells, h, rfl⟩⟩
  refine ⟨updG γ s none, ⟨R.mem.low, fun u t b x y => R.mem.inj u t b (hle u _ x) (hle t _ y), fun u b x => R.mem.nm u b (hle u _ x), fun u h => ?_, fun u cs h => ?_⟩, fun j => ?_, R.keep, fun u b x => R.own u b (hle u _ x), fun u h => ?_, R.defers, R.size⟩
  · simp only [updH] at h
    split at h
    · cases h
    · rename_i e
      simp only [updG, if_neg e]
      exact R.mem.dom u h
  · simp only [updH] at h
    split at h
    · rename_i e; subst e
      injection h with h; subst h
      exact .inr (.inl ⟨by simp [updG], rfl⟩)
    · rename_i e
      rcases R.mem.blk u cs h with ⟨b, t, vs, sp, hg, hb, hc⟩ | ⟨hg, hc⟩ | ⟨b, en, clk, hg, hb, hc⟩
      · exact .inl ⟨b, t, vs, sp, by rw [hne u (by rw [hg]; simp)]; exact hg, hb, hc.carry hca fun v hv => hne v (hc.named v hv)⟩
      · exact .inr (.inl ⟨by rw [hne u (by rw [hg]; simp)]; exact hg, hc⟩)
      · exact .inr (.inr ⟨b, en, clk, by rw [hne u (by rw [hg]; simp)]; exact hg, hb, hc⟩)
  · simp only [upd]
    split
    · rename_i e; subst e
      have := R.env j
      rw [hi] at this
      exact .inr (.inl ⟨by simp [updG], rfl, rfl, sc_inv this⟩)
    · exact (R.env j).carry hca fun v hv => hne v ((R.env j).named v hv)
  · rw [hstay] at h
    have := R.stay u (by rw [hstay]; exact h)
    simp only [updG]
    rw [if_neg (by rintro rfl; exact hst h)]
    exact this

/- freezing -/
def rows (k off len : Nat) (ds : List D) : List (List D) := (List.range len).map fun i => (ds.drop (off + i * k)).take k

def V.frz (s : Nat) (ds : List D) : V → V
  | .sub t k off len => if t = s then (if off + len * k ≤ ds.length then .d (.sl (rows k off len ds)) else .any) else .sub t k off len
  | .ptr t off => if t = s then .any else .ptr t off
  | .clo f caps => if caps.any (fun p => p.1 == s) then .any else .clo f caps
  | .mp t => if t = s then .any else .mp t
  | v => v
def E.frz (s : Nat) (ds : List D) : E → E
  | .c v => .c (v.frz s ds)
  | .agg vs => .agg (vs.map (V.frz s ds))
def T.frz (s : Nat) (ds : List D) : T → T
  | .e x => .e (x.frz s ds)
  | .tup xs => .tup (xs.map (E.frz s ds))
  | .any => .any
def St.frz (σ : St) (s : Nat) (ds : List D) : St := ⟨fun i => (σ.env i).frz s ds, fun t => if t = s then none else (σ.heap t).map (List.map (V.frz s ds))⟩

def delG (γ : G) (s : Nat) : G := fun t => if t = s then none else γ t

theorem rows_get {k off len : Nat} {ds : List D} {i j : Nat} {x : D} (hx : ((rows k off len ds)[i]?).bind (fun r => r[j]?) = some x) : i < len ∧ j < k ∧ ds[off + i * k + j]? = some x := by
  unfold rows at hx
  rw [List.getElem?_map] at hx
  by_cases hi : i < len
  · rw [List.getElem?_range hi] at hx
    simp only [Option.map_some, Option.bind_some] at hx
    rw [List.getElem?_take] at hx
    split at hx
    · rename_i hj
      rw [List.getElem?_drop] at hx
      exact ⟨hi, hj, hx⟩
    · cases hx
  · rw [List.getElem?_eq_none (by simpa using hi)] at hx
    simp at hx

theorem VRel.frz {w : World} {M : Nat → Prop} {γ : G} {H : Heap} (hm : Mem M γ H w) {s : Nat} {ds : List D} (hs : H s = some (ds.map .d)) {x : V} {v : Value} (h : VRel w M γ x v) : VRel w M (delG γ s) (x.frz s ds) v := by
  have h1 := h.one
  have hle : ∀ u b, delG γ s u = some b → γ u = some b := by
    intro u b h
    unfold delG at h
    split at h
    · cases h
    · exact h
  have hca : Carry M γ (delG γ s) w w := ⟨Nat.le_refl _, fun _ _ => rfl, fun b hb u h => hb.2.2 u (hle u _ h), fun _ cells _ h => ⟨cells, h, rfl⟩⟩
  have hne : ∀ u, u ≠ s → delG γ s u = γ u := fun u hu => by simp [delG, hu]
  cases x with
  | d x => exact VRel.carry (x := .d x) hca h (fun _ h => h.elim)
  | pim ds' => exact VRel.carry (x := .pim ds') hca h (fun _ h => h.elim)
  | any => exact h
  | mapc es => exact h.elim
  | mp t =>
    by_cases e : t = s
    · simp only [V.frz, if_pos e]; exact h1
    · simp only [V.frz, if_neg e]; exact VRel.carry (x := .mp t) hca h (fun u hu => hne u (by cases hu; exact e))
  | ptr t off =>
    by_cases e : t = s
    · simp only [V.frz, if_pos e]; exact h1
    · simp only [V.frz, if_neg e]; exact VRel.carry (x := .ptr t off) hca h (fun u hu => hne u (by cases hu; exact e))
  | clo f caps =>
    by_cases e : caps.any (fun p => p.1 == s) = true
    · simp only [V.frz, if_pos e]; exact h1
    · simp only [V.frz, if_neg e]
      refine VRel.carry (x := .clo f caps) hca h (fun u hu => hne u ?_)
      rintro rfl
      obtain ⟨p, hp, e2⟩ := hu
      apply e
      simp only [List.any_eq_true, beq_iff_eq]
      exact ⟨p, hp, e2⟩
  | sub t k off len =>
    by_cases e : t = s
    · subst e
      simp only [V.frz, if_true]
      by_cases hlen : off + len * k ≤ ds.length
      · rw [if_pos hlen]
        have hrl : (rows k off len ds).length = len := by simp [rows]
        rcases h with ⟨b, cap, cells, ty, hg, rfl, hlc, hcm, hb, hroom⟩ | ⟨hg, rfl, rfl, rfl⟩ | ⟨b, off', hg, rfl, rfl⟩
        · rcases hm.blk t _ hs with ⟨b', t', vs, sp, hg', hb', hc'⟩ | ⟨hg', _⟩ | ⟨b', en, clk, hg', hb', _⟩
          rotate_left 2
          · rw [hg] at hg'; injection hg' with hg'; injection hg' with hg'; subst hg'
            rw [hb] at hb'; cases hb'
          · rw [hg] at hg'; injection hg' with hg'; injection hg' with hg'; subst hg'
            have hstab : stab w M (delG γ t) b := by
              refine ⟨lt_of_heap hb', hm.nm t b hg, fun u hu => ?_⟩
              have h2 := hle u _ hu
              have := hm.inj u t b h2 hg
              subst this
              simp [delG] at hu
            have hdl := hc'.1
            simp only [List.length_map] at hdl
            have key : DRel w (stab w M (delG γ t)) (.sl (rows k off len ds)) (.slice (some ⟨b, off, none⟩) (rows k off len ds).length cap) := by
              refine .sl (rows k off len ds) k cap (some ⟨b, off, none⟩) (fun i j => (vs[off + i * k + j]?).getD undef) (by rw [hrl]; exact hlc) hcm (fun r hr => ?_) (fun _ => ?_) (fun i j x hx => ?_)
              · simp only [rows, List.mem_map, List.mem_range] at hr
                obtain ⟨i, hi, rfl⟩ := hr
                have : (i + 1) * k ≤ len * k := Nat.mul_le_mul_right _ hi
                rw [Nat.succ_mul] at this
                simp
                omega
              · refine ⟨_, rfl, rfl, hstab, fun i j hi hj => ?_⟩
                rw [hrl] at hi
                have : (i + 1) * k ≤ len * k := Nat.mul_le_mul_right _ hi
                rw [Nat.succ_mul] at this
                have hlt : off + i * k + j < vs.length := by omega
                rw [mk_add, cell_blk hb', ← Nat.add_assoc]
                rw [List.getElem?_eq_getElem hlt, Option.getD_some]
                exact getElem_blk (List.getElem?_eq_getElem hlt)
              · obtain ⟨hi, hj, hx⟩ := rows_get hx
                obtain ⟨u, hu, hr⟩ := hc'.at_ (x := .d x) (i := off + i * k + j) (by simp [hx])
                rw [hu, Option.getD_some]
                exact VRel.carry (x := .d x) hca hr (fun _ h => h.elim)
            rw [hrl] at key
            exact key
          · rw [hg] at hg'; injection hg' with hg'; cases hg'
        · exact .sl [] 0 0 none (fun _ _ => undef) (Nat.le_refl _) (by simp only [maxLen]; omega) (fun r hr => by simp at hr) (fun h => absurd rfl h) (fun i j x hx => by simp at hx)
        · have : rows k off 0 ds = [] := rfl
          rw [this]
          exact .sl [] 0 0 (some ⟨b, off', none⟩) (fun _ _ => undef) (Nat.le_refl _) (by simp only [maxLen]; omega) (fun r hr => by simp at hr) (fun h => absurd rfl h) (fun i j x hx => by simp at hx)
      · rw [if_neg hlen]; exact h1
    · simp only [V.frz, if_neg e]; exact VRel.carry (x := .sub t k off len) hca h (fun u hu => hne u (by cases hu; exact e))

end Go.Ab
end

section
namespace Go.Ab
open Go Go.RowKit

theorem CsRel.frz {w : World} {M : Nat → Prop} {γ : G} {H : Heap} (hm : Mem M γ H w) {s : Nat} {ds : List D} (hs : H s = some (ds.map .d)) {xs : List V} {vs : List Value} (h : CsRel w M γ xs vs) : CsRel w M (delG γ s) (xs.map (V.frz s ds)) vs := by
  refine ⟨by simp [h.1], fun i x u hx hu => ?_⟩
  simp only [List.getElem?_map] at hx
  cases hi : xs[i]? with
  | none => simp [hi] at hx
  | some y => simp [hi] at hx; subst hx; exact (h.2 i y u hi hu).frz hm hs
theorem ERel.frz {w : World} {M : Nat → Prop} {γ : G} {H : Heap} (hm : Mem M γ H w) {s : Nat} {ds : List D} (hs : H s = some (ds.map .d)) {x : E} {v : Value} (h : ERel w M γ x v) : ERel w M (delG γ s) (x.frz s ds) v := by
  cases x with
  | c x => exact VRel.frz hm hs h
  | agg xs => obtain ⟨us, e, hc⟩ := h; exact ⟨us, e, hc.frz hm hs⟩
theorem TRel.frz {w : World} {M : Nat → Prop} {γ : G} {H : Heap} (hm : Mem M γ H w) {s : Nat} {ds : List D} (hs : H s = some (ds.map .d)) {x : T} {v : Value} (h : TRel w M γ x v) : TRel w M (delG γ s) (x.frz s ds) v := by
  cases x with
  | e x => exact ERel.frz hm hs h
  | tup xs =>
    obtain ⟨us, e, hl, hc⟩ := h
    refine ⟨us, e, by simpa using hl, fun i x u hx hu => ?_⟩
    simp only [List.getElem?_map] at hx
    cases hi : xs[i]? with
    | none => simp [hi] at hx
    | some y => simp [hi] at hx; subst hx; exact (hc i y u hi hu).frz hm hs
  | any => trivial

theorem Weak.freeze {n : Nat} {stay : Nat → Prop} {σ : St} (s : Nat) (ds : List D) (hs : σ.heap s = some (ds.map .d)) (hst : ¬ stay s) : Weak n stay σ (σ.frz s ds) := by
  intro C hn hstay a w ⟨γ, R⟩
  have hle : ∀ u b, delG γ s u = some b → γ u = some b := by
    intro u b h
    unfold delG at h
    split at h
    · cases h
    · exact h
  refine ⟨delG γ s, ⟨R.mem.low, fun u t b x y => R.mem.inj u t b (hle u _ x) (hle t _ y), fun u b x => R.mem.nm u b (hle u _ x), fun u h => ?_, fun u cs h => ?_⟩, fun i => (R.env i).frz R.mem hs, R.keep, fun u b x => R.own u b (hle u _ x), fun u h => ?_, R.defers, R.size⟩
  · simp only [St.frz] at h
    unfold delG
    split at h
    · rename_i e; rw [if_pos e]
    · rename_i e; rw [if_neg e]; exact R.mem.dom u (by simpa using h)
  · simp only [St.frz] at h
    split at h
    · cases h
    · rename_i e
      rw [Option.map_eq_some_iff] at h
      obtain ⟨cs0, h0, rfl⟩ := h
      rcases R.mem.blk u cs0 h0 with ⟨b, t, vs, sp, hg, hb, hc⟩ | ⟨hg, hc⟩ | ⟨b, en, clk, hg, hb, hc⟩
      · exact .inl ⟨b, t, vs, sp, by simp [delG, e, hg], hb, hc.frz R.mem hs⟩
      · exact .inr (.inl ⟨by simp [delG, e, hg], by simp [hc]⟩)
      · exact .inr (.inr ⟨b, en, clk, by simp [delG, e, hg], hb, by simp [hc, V.frz]⟩)
  · rw [hstay] at h
    have := R.stay u (by rw [hstay]; exact h)
    unfold delG
    rw [if_neg (by rintro rfl; exact hst h)]
    exact this

/- the results -/
def resOne (P : Program) (σ : St) : ResultVar → Option T
  | .tmp t => some (σ.env t)
  | .cell a t =>
    match σ.env a with
    | .e (.c (.ptr s off)) => match σ.heap s with | some cs => loadV P t cs off | none => none
    | _ => none

def toE : T → Option E
  | .e x => some x
  | _ => none

def resAll (P : Program) (σ : St) : List ResultVar → Option (List E)
  | [] => some []
  | r :: rs =>
    match (resOne P σ r).bind toE, resAll P σ rs with
    | some x, some xs => some (x :: xs)
    | _, _ => none

def resV (P : Program) (rs : List ResultVar) (σ : St) : Option T :=
  match rs with
  | [r] => resOne P σ r
  | rs => (resAll P σ rs).map .tup

def resSem (a : Act) : ResultVar → Sem Value
  | .tmp t => pure (a.tmps.getD t undef)
  | .cell b t => do loadVar t (← asAddr (a.tmps.getD b undef))

theorem results_eq (fn : Func) (a : Act) : results fn a.tmps = (do let vs ← fn.results.mapM (resSem a); pure (if h : vs.size = 1 then vs[0] else .tuple vs)) := rfl

theorem resOne_run {P : Program} {C : Ctx} {γ : G} {σ : St} {a : Act} {w : World} (R : RelAt C γ σ a w) {r : ResultVar} {x : T} (h : resOne P σ r = some x) :
    ∃ v, (resSem a r).run P w = .ok v w ∧ TRel w C.M γ x v := by
  cases r with
  | tmp t =>
    simp only [resOne] at h
    injection h with h; subst h
    exact ⟨_, rfl, R.env t⟩
  | cell b t =>
    simp only [resOne] at h
    split at h
    · rename_i s off he
      split at h
      · rename_i cs hs
        have h1 := R.env b
        rw [he] at h1
        obtain ⟨u, hu, hr⟩ := R.mem.load hs h h1
        refine ⟨u, ?_, hr⟩
        obtain ⟨bb, _, hv⟩ := h1
        rw [hv] at hu
        simp only [resSem, hv]
        simpa [Instr.loadAt, Instr.sureAddr, asAddr] using hu
      · cases h
    · cases h

theorem resAll_run {P : Program} {C : Ctx} {γ : G} {σ : St} {a : Act} {w : World} (R : RelAt C γ σ a w) : ∀ (rs : List ResultVar) (xs : List E), resAll P σ rs = some xs →
    ∃ vs : List Value, (rs.mapM (m := Sem) (resSem a)).run P w = .ok vs w ∧ EsRel w C.M γ xs vs
  | [], xs, h => by
    simp only [resAll] at h
    injection h with h; subst h
    exact ⟨[], by simp, rfl, fun i x u hx => by simp at hx⟩
  | r :: rs, xs, h => by
    simp only [resAll] at h
    split at h
    · rename_i x ys hx hys
      injection h with h; subst h
      obtain ⟨t, ht, hte⟩ := Option.bind_eq_some_iff.1 hx
      obtain ⟨v, hv, hr⟩ := resOne_run R ht
      obtain ⟨vs, hvs, hl, hc⟩ := resAll_run R rs ys hys
      have hte' : t = .e x := by
        cases t <;> simp [toE] at hte
        rw [hte]
      subst hte'
      refine ⟨v :: vs, ?_, by simp [hl], fun i y u hy hu => ?_⟩
      · rw [List.mapM_cons]
        simp only [Sem.run_bind, hv, hvs, Result.andThen_ok, Sem.run_pure]
      · cases i with
        | zero => simp at hy hu; subst hy; subst hu; exact hr
        | succ i => exact hc i y u (by simpa using hy) (by simpa using hu)
    · cases h

theorem resV_run {P : Program} {C : Ctx} {γ : G} {σ : St} {a : Act} {w : World} (R : RelAt C γ σ a w) (fn : Func) {r : T} (h : resV P fn.results.toList σ = some r) : ∃ v, (results fn a.tmps).run P w = .ok v w ∧ TRel w C.M γ r v := by
  rw [results_eq]
  generalize hfr : fn.results = fr at h
  obtain ⟨l⟩ := fr
  simp only at h
  rw [List.mapM_toArray]
  unfold resV at h
  split at h
  · rename_i r1
    obtain ⟨v, hv, hr⟩ := resOne_run R h
    refine ⟨v, ?_, hr⟩
    have : (([r1] : List ResultVar).mapM (m := Sem) (resSem a)).run P w = .ok [v] w := by
      rw [List.mapM_cons]
      simp only [Sem.run_bind, hv, Result.andThen_ok, List.mapM_nil, Sem.run_pure]
    simp only [Sem.run_bind, Sem.run_map, this, Result.andThen_ok, Sem.run_pure]
    simp
  · rename_i hne
    cases hx : resAll P σ l with
    | none => rw [hx] at h; simp at h
    | some xs =>
      rw [hx] at h
      simp only [Option.map_some, Option.some.injEq] at h
      subst h
      obtain ⟨vs, hvs, hr⟩ := resAll_run R l xs hx
      refine ⟨.tuple vs.toArray, ?_, vs, rfl, hr⟩
      simp only [Sem.run_bind, Sem.run_map, hvs, Result.andThen_ok, Sem.run_pure]
      have hl : vs.length ≠ 1 := by
        rw [← hr.1]
        intro h1
        have : l.length = 1 := by
          have h2 : ∀ (l : List ResultVar) (xs : List E), resAll P σ l = some xs → l.length = xs.length := by
            intro l
            induction l with
            | nil => intro xs h; simp only [resAll] at h; injection h with h; subst h; rfl
            | cons r rs ih =>
              intro xs h
              simp only [resAll] at h
              split at h
              · rename_i x ys _ hys
                injection h with h; subst h
                simp [ih ys hys]
              · cases h
          rw [h2 l xs hx, h1]
        match l, this with
        | [r1], _ => exact hne r1 rfl
      simp [hl]

def zipArgs : Nat → List E → List (Nat × T)
  | _, [] => []
  | k, x :: xs => (k, .e x) :: zipArgs (k + 1) xs
def argEnv (args : List E) : Nat → T := mk (zipArgs 0 args)

theorem zip_get : ∀ (args : List E) (k i : Nat), mk (zipArgs k args) (k + i) = match args[i]? with | some x => .e x | none => .any
  | [], k, i => by simp [zipArgs, mk]
  | x :: xs, k, i => by
    cases i with
    | zero => simp [zipArgs, mk]
    | succ i =>
      have := zip_get xs (k + 1) i
      rw [show k + 1 + i = k + (i + 1) by omega] at this
      simp only [zipArgs, mk]
      rw [if_neg (by omega), this]
      simp

theorem argEnv_get (args : List E) (i : Nat) : argEnv args i = match args[i]? with | some x => .e x | none => .any := by
  have := zip_get args 0 i
  rwa [Nat.zero_add] at this

/-- The names of a pure result: none. -/
theorem Sat.intro {P : Program} {f : FuncId} {fn : Func} {c : Code} (hf : P.funcs[f]? = some fn) (hb : fn.body = some c) (hname : (fn.name == "runtime.NumGoroutine") = false) {args : List E} {H H' : Heap} {stay : Nat → Prop} {r : T}
    (hn : args.length ≤ fn.ntmps) (hst : ∀ s, stay s → H' s ≠ none) (hnr : ∀ s, r.names s → H' s ≠ none) (hnh : ∀ t cs, H' t = some cs → ∀ x ∈ cs, ∀ s, x.names s → H' s ≠ none)
    (h : WP P fn.ntmps stay c ⟨argEnv args, H⟩ ⟨fun σ => ∃ r', resV P fn.results.toList σ = some r' ∧ TLe r' r ∧ ∀ s cs, H' s = some cs → ∃ cs', σ.heap s = some cs' ∧ CsLe cs' cs, fun _ _ => False,
      fun σ => ∃ r', resV P fn.results.toList σ = some r' ∧ TLe r' r ∧ ∀ s cs, H' s = some cs → ∃ cs', σ.heap s = some cs' ∧ CsLe cs' cs⟩) : Sat P f H args H' stay r := by
  refine ⟨ent_of hf hname hb, fun M γ w vals hm hargs => ?_⟩
  refine calls_of_wp hf hb ?_
  let C : Ctx := ⟨M, fun b => ∃ s, γ s = some (some b), w, γ, stay, fn.ntmps⟩
  have hvl : vals.length = args.length := hargs.1.symm
  have R0 : RelAt C γ ⟨argEnv args, H⟩ { tmps := vals.toArray ++ Array.replicate (fn.ntmps - vals.toArray.size) undef, defers := [] } w := by
    refine ⟨hm, fun i => ?_, Keep.refl _ _, fun s b hs => .inl ⟨s, hs⟩, fun _ _ => rfl, rfl, ?_⟩
    · show TRel w M γ (argEnv args i) _
      rw [argEnv_get]
      cases hx : args[i]? with
      | none => trivial
      | some x =>
        have hi : i < args.length := (List.getElem?_eq_some_iff.1 hx).1
        have hv : vals[i]? = some (vals[i]'(by omega)) := List.getElem?_eq_getElem (by omega)
        have : ((vals.toArray ++ Array.replicate (fn.ntmps - vals.toArray.size) undef).getD i undef) = vals[i]'(by omega) := by
          have hi2 : i < vals.length := by omega
          simp [Array.getElem?_append, hi2]
        rw [this]
        exact hargs.2 i x _ hx hv
    · show (vals.toArray ++ Array.replicate (fn.ntmps - vals.toArray.size) undef).size = fn.ntmps
      simp
      omega
  refine Code.wp_mono ?_ (h C rfl rfl _ _ ⟨γ, R0⟩)
  have fin : ∀ (a : Act) (w' : World) (σ : St), Rel C σ a w' → (∃ r', resV P fn.results.toList σ = some r' ∧ TLe r' r ∧ ∀ s cs, H' s = some cs → ∃ cs', σ.heap s = some cs' ∧ CsLe cs' cs) →
      a.defers = [] ∧ ∃ v, (results fn a.tmps).run P w' = .ok v w' ∧ SatPost M γ w H' stay r (.returned v) w' := by
    rintro a w' σ ⟨γ1, R⟩ ⟨r', hr', hle, hH⟩
    obtain ⟨v, hv, hrel⟩ := resV_run R fn hr'
    refine ⟨R.defers, v, hv, ?_⟩
    let γ' : G := fun s => match H' s with | none => none | some _ => γ1 s
    have hsub : ∀ s, H' s ≠ none → γ' s = γ1 s := by
      intro s hs
      simp only [γ']
      cases h : H' s with
      | none => exact absurd h hs
      | some cs => rfl
    have hlg : ∀ s b, γ' s = some b → γ1 s = some b := by
      intro s b h
      simp only [γ'] at h
      split at h
      · cases h
      · exact h
    have hca : Carry M γ1 γ' w' w' := ⟨Nat.le_refl _, fun _ _ => rfl, fun b hb s h => hb.2.2 s (hlg s _ h), fun _ cells _ h => ⟨cells, h, rfl⟩⟩
    refine ⟨v, γ', rfl, ⟨R.mem.low, fun s t b x y => R.mem.inj s t b (hlg s _ x) (hlg t _ y), fun s b x => R.mem.nm s b (hlg s _ x), fun s h => ?_, fun s cs h => ?_⟩, ?_, R.keep, fun s b hs => R.own s b (hlg s _ hs), fun s hs => ?_⟩
    · simp only [γ', h]
    · obtain ⟨cs', hs', hcl⟩ := hH s cs h
      have hne : H' s ≠ none := by rw [h]; simp
      rcases R.mem.blk s cs' hs' with ⟨b, t, vs, sp, hg, hb, hc⟩ | ⟨hg, hc⟩ | ⟨b, en, clk, hg, hb, hc⟩
      rotate_left 2
      · exact .inr (.inr ⟨b, en, clk, by rw [hsub s hne]; exact hg, hb, hcl.2 _ hc⟩)
      · exact .inl ⟨b, t, vs, sp, by rw [hsub s hne]; exact hg, hb, (hcl.1 _ _ _ _ hc).carry hca fun u hu => by
          obtain ⟨x, hx, hu⟩ := hu
          exact hsub u (hnh s cs h x hx u hu)⟩
      · refine .inr (.inl ⟨by rw [hsub s hne]; exact hg, ?_⟩)
        subst hc
        have := (hcl.1 w' M γ1 [] CsRel.nil).1
        exact List.eq_nil_of_length_eq_zero (by simpa using this)
    · exact (hle _ _ _ _ hrel).carry hca fun s hs => hsub s (hnr s hs)
    · rw [hsub s (hst s hs)]
      exact R.stay s hs
  intro e a w' ⟨σ, R, hq⟩
  cases e with
  | normal => exact fin a w' σ R hq
  | ret => exact fin a w' σ R hq
  | exit i => exact hq.elim
  | goto l => exact hq.elim
  | panic ch => exact hq.elim
  | outgrown => exact hq.elim

/-- What stands at the end of a pure function. -/
def Fin (P : Program) (rs : List ResultVar) (r : T) (σ : St) : Prop := ∃ r', resV P rs σ = some r' ∧ r'.norm = r

theorem Pur.intro {P : Program} {f : FuncId} {fn : Func} {c : Code} (hf : P.funcs[f]? = some fn) (hb : fn.body = some c) (hname : (fn.name == "runtime.NumGoroutine") = false) {args : List E} {r : T}
    (hn : args.length ≤ fn.ntmps) (hnr : ∀ s, ¬ r.names s)
    (h : WP P fn.ntmps (fun _ => False) c ⟨argEnv args, noHeap⟩ ⟨Fin P fn.results.toList r, fun _ _ => False, Fin P fn.results.toList r⟩) : Pur P f args r := by
  refine Sat.intro hf hb hname hn (fun s h => h.elim) (fun s h => (hnr s h).elim) (fun t cs h => by cases h) ?_
  refine h.mono ?_ (fun _ _ h => h) ?_
  · rintro σ ⟨r', h1, h2⟩
    exact ⟨r', h1, h2 ▸ TLe.norm r', fun s cs h => by cases h⟩
  · rintro σ ⟨r', h1, h2⟩
    exact ⟨r', h1, h2 ▸ TLe.norm r', fun s cs h => by cases h⟩

end Go.Ab
end

section
namespace Go.Ab
open Go Go.RowKit

def tplaces (P : Program) (t : TypeId) : Option (List (Nat × Nat)) :=
  match P.underlying t with
  | some (.struct fs) => fs.toList.mapM fun f => (tsz P f.type).map fun n => (f.offset, n)
  | some (.array n e) => (tsz P e).map fun k => (List.range n).map fun i => (i * k, k)
  | _ => none
theorem fill_mono {pl pl' : Nat → Option (Nat × Nat)} (h : ∀ i p, pl i = some p → pl' i = some p) : ∀ (l : List (Nat × Value)) (cells us : Array Value), Instr.fill pl cells l = some us → Instr.fill pl' cells l = some us
  | [], cells, us, hf => hf
  | (i, v) :: r, cells, us, hf => by
    simp only [Instr.fill] at hf ⊢
    cases hp : pl i with
    | none => rw [hp] at hf; cases hf
    | some p =>
      rw [hp] at hf
      rw [h i p hp]
      simp only at hf ⊢
      split at hf
      · cases hf
      · rename_i hc
        rw [if_neg hc]
        exact fill_mono h r _ us hf

theorem places_run {P : Program} (w : World) : ∀ (fs : List Field) (ps : List (Nat × Nat)), (fs.mapM fun f => (tsz P f.type).map fun n => (f.offset, n)) = some ps →
    (fs.mapM (m := Sem) fun f => do pure (f.offset, ← sizeOf f.type)).run P w = .ok ps w
  | [], ps, h => by
    simp at h; subst h; simp
  | f :: fs, ps, h => by
    rw [List.mapM_cons] at h
    cases hf : tsz P f.type with
    | none => simp [hf] at h
    | some n =>
      cases hr : fs.mapM (fun f => (tsz P f.type).map fun n => (f.offset, n)) with
      | none => simp [hf, hr] at h
      | some qs =>
        simp [hf, hr] at h
        subst h
        have ih := places_run w fs qs hr
        rw [List.mapM_cons]
        simp only [Sem.run_bind, tsz_some hf, Result.andThen_ok, Sem.run_pure, ih]

/-- The parts' values. -/
theorem parts_rel {w : World} {M : Nat → Prop} {γ : G} {ev : Operand → T} {a : Act} (parts : List (Nat × Operand)) (h : ∀ x ∈ parts.map (·.2), TRel w M γ (ev x) (a.eval x)) :
    ∀ (i : Nat) (p : Nat × T) (q : Nat × Value), (parts.map fun p => (p.1, ev p.2))[i]? = some p → (parts.map fun p => (p.1, a.eval p.2))[i]? = some q → p.1 = q.1 ∧ TRel w M γ p.2 q.2 := by
  intro i p q hp hq
  simp only [List.getElem?_map] at hp hq
  cases hi : parts[i]? with
  | none => simp [hi] at hp
  | some y =>
    simp [hi] at hp hq
    subst hp; subst hq
    exact ⟨rfl, h y.2 (List.mem_map_of_mem (List.mem_of_getElem? hi))⟩

theorem pure_build {P : Program} {o : Oper} {ev : Operand → T} (t : TypeId) (parts : Array (Nat × Operand)) (ho : o.op = .build t parts) (ps : List (Nat × Nat)) (zs cs : List V)
    (hp : tplaces P t = some ps) (hz : tzv P t = some zs) (hf : fillD (fun i => ps[i]?) zs (parts.toList.map fun p => (p.1, ev p.2)) = some cs) : PureOK P o ev (.e (.agg cs)) :=
  pure_same fun M γ H w a _ h => by
    obtain ⟨z0, hz0, rfl, ha⟩ := tzv_some hz
    obtain ⟨z, hzr, hzc⟩ := tzero_some hz0 w
    unfold tplaces at hp
    split at hp
    · rename_i fs hu
      have hpr := places_run w fs.toList ps hp
      obtain ⟨us, hus, hrel⟩ := fill_rel (w := w) (M := M) (γ := γ) (fun i => ps[i]?) (parts.toList.map fun p => (p.1, ev p.2)) (parts.toList.map fun p => (p.1, a.eval p.2)) _ z0 cs (by simp)
        (parts_rel parts.toList fun x hx => h x (by simpa [ho, Op.operands] using hx)) (zero_rel z0 ha) hf
      refine ⟨.agg us.toArray, ?_, us, rfl, hrel⟩
      have hz' : z.cells = z0.toArray := by rw [← hzc]
      obtain ⟨fl⟩ := fs
      simp only at hpr
      have hpl : (Functor.map List.toArray (fl.mapM (m := Sem) fun f => do pure (f.offset, ← sizeOf f.type)) : Sem (Array (Nat × Nat))).run P w = .ok ps.toArray w := by
        rw [Sem.run_map, hpr]; rfl
      have hparts : (parts.map fun p => (p.1, a.eval p.2)).toList = parts.toList.map fun p => (p.1, a.eval p.2) := by simp
      simp only [execOp, ho, Instr.build, Sem.run_bind, hzr, Result.andThen_ok, run_underlying hu, List.mapM_toArray, hpl, hz']
      have e1 : (fun x : Nat => (ps.toArray)[x]?) = fun i => ps[i]? := by funext i; simp
      rw [e1, hparts, hus]
      simp
    · rename_i n e hu
      rw [Option.map_eq_some_iff] at hp
      obtain ⟨k, hk, rfl⟩ := hp
      obtain ⟨us, hus, hrel⟩ := fill_rel (w := w) (M := M) (γ := γ) (fun i => ((List.range n).map fun i => (i * k, k))[i]?) (parts.toList.map fun p => (p.1, ev p.2)) (parts.toList.map fun p => (p.1, a.eval p.2)) _ z0 cs (by simp)
        (parts_rel parts.toList fun x hx => h x (by simpa [ho, Op.operands] using hx)) (zero_rel z0 ha) hf
      refine ⟨.agg us.toArray, ?_, us, rfl, hrel⟩
      have hz' : z.cells = z0.toArray := by rw [← hzc]
      have hparts : (parts.map fun p => (p.1, a.eval p.2)).toList = parts.toList.map fun p => (p.1, a.eval p.2) := by simp
      have hfill := fill_mono (pl' := fun i => some (i * k, k)) (fun i p hp => by
        simp only [List.getElem?_map, Option.map_eq_some_iff] at hp
        obtain ⟨j, hj, rfl⟩ := hp
        have := (List.getElem?_eq_some_iff.1 hj)
        obtain ⟨hl, he⟩ := this
        simp at he
        rw [he]) _ _ _ hus
      simp only [execOp, ho, Instr.build, Sem.run_bind, hzr, Result.andThen_ok, run_underlying hu, tsz_some hk, hz']
      rw [hparts, hfill]
      simp
    · cases hp

/-- A slice literal whose parts are given in order: rows of data, which nobody writes. -/
def toD : V → Option D
  | .d x => some x.norm
  | _ => none
def toDs : List V → Option (List D)
  | [] => some []
  | v :: vs => match toD v, toDs vs with | some x, some xs => some (x :: xs) | _, _ => none
def litRows (k : Nat) (ev : Operand → T) : Nat → List (Nat × Operand) → Option (List (List D))
  | _, [] => some []
  | i, (j, x) :: r =>
    match ev x with
    | .e e => if j = i ∧ e.cells.length = k then (match toDs e.cells, litRows k ev (i + 1) r with | some row, some rs => some (row :: rs) | _, _ => none) else none
    | _ => none

theorem toDs_len : ∀ (vs : List V) (ds : List D), toDs vs = some ds → ds.length = vs.length
  | [], ds, h => by simp only [toDs] at h; injection h with h; subst h; rfl
  | v :: vs, ds, h => by
    simp only [toDs] at h
    split at h
    · rename_i x xs _ hx
      injection h with h; subst h
      simp [toDs_len vs xs hx]
    · cases h

theorem toDs_rel {w : World} {M : Nat → Prop} {γ : G} : ∀ (vs : List V) (ds : List D) (us : List Value), toDs vs = some ds → CsRel w M γ vs us → CsRel w M γ (ds.map .d) us
  | [], ds, us, h, hc => by simp only [toDs] at h; injection h with h; subst h; exact hc
  | v :: vs, ds, us, h, hc => by
    simp only [toDs] at h
    split at h
    · rename_i x xs hx hxs
      injection h with h; subst h
      cases us with
      | nil => have := hc.1; simp at this
      | cons u us =>
        have hd := toDs_rel vs xs us hxs ⟨by have := hc.1; simpa using this, fun i y z hy hz => hc.2 (i + 1) y z (by simpa using hy) (by simpa using hz)⟩
        have hv : VRel w M γ v u := hc.2 0 v u rfl rfl
        cases v <;> simp [toD] at hx
        subst hx
        have := (CsRel.one (VRel.norm hv)).append hd
        simpa [V.norm] using this
    · cases h

theorem litRows_fill {w : World} {M : Nat → Prop} {γ : G} {ev : Operand → T} {a : Act} (k : Nat) : ∀ (parts : List (Nat × Operand)) (i : Nat) (rs : List (List D)) (pre : List Value) (z : List Value),
    (∀ x ∈ parts.map (·.2), TRel w M γ (ev x) (a.eval x)) → litRows k ev i parts = some rs → pre.length = i * k → z.length = parts.length * k →
    (∀ r ∈ rs, r.length = k) ∧ rs.length = parts.length ∧ ∃ us : List Value, us.length = rs.length * k ∧ Instr.fill (fun i => some (i * k, k)) (pre ++ z).toArray (parts.map fun p => (p.1, a.eval p.2)) = some (pre ++ us).toArray ∧ CsRel w M γ (rs.flatten.map .d) us
  | [], i, rs, pre, z, _, h, hp, hz => by
    simp only [litRows] at h
    injection h with h; subst h
    have hz0 : z = [] := List.eq_nil_of_length_eq_zero (by simpa using hz)
    subst hz0
    exact ⟨by simp, rfl, [], by simp, by simp [Instr.fill], CsRel.nil⟩
  | (j, x) :: parts, i, rs, pre, z, hx, h, hp, hz => by
    simp only [litRows] at h
    split at h
    · rename_i e he
      split at h
      · rename_i hcond
        obtain ⟨rfl, hk⟩ := hcond
        split at h
        · rename_i row rs' hrow hrs
          injection h with h; subst h
          have h1 := hx x (by simp)
          rw [he] at h1
          have hcs := ERel.cells h1
          have hcl : (a.eval x).cells.toList.length = k := by rw [← hcs.1, hk]
          have hzl : z.length = k + parts.length * k := by simpa [Nat.succ_mul, Nat.add_comm] using hz
          obtain ⟨ih1, ih2, us, ih3, ih4, ih5⟩ := litRows_fill k parts (j + 1) rs' (pre ++ (a.eval x).cells.toList) (z.drop k) (fun y hy => hx y (by simp at hy ⊢; exact .inr hy)) hrs (by simp at hcl; simp [hp, hcl, Nat.succ_mul]) (by simp [hzl])
          refine ⟨?_, by simp [ih2], (a.eval x).cells.toList ++ us, ?_, ?_, ?_⟩
          · intro r hr
            rcases List.mem_cons.1 hr with rfl | hr
            · rw [toDs_len _ _ hrow, hk]
            · exact ih1 r hr
          · simp only [List.length_append, hcl, ih3, List.length_cons, Nat.succ_mul]; omega
          · simp only [List.map_cons, Instr.fill]
            have hsz : (a.eval x).cells.size = k := by simpa using hcl
            rw [if_neg (by simp; omega)]
            have hfs := foldl_set (a.eval x).cells.toList (j * k) 0 (pre ++ z).toArray (by simp; omega)
            have harr : (a.eval x).cells.zipIdx.foldl (fun cs (p : Value × Nat) => cs.setIfInBounds (j * k + p.2) p.1) (pre ++ z).toArray = ((pre ++ (a.eval x).cells.toList) ++ z.drop k).toArray := by
              apply Array.ext'
              rw [← Array.toList_zipIdx, Nat.add_zero] at hfs
              simp only [Array.foldl_toList] at hfs
              have e2 : (pre ++ z).take (j * k) ++ (a.eval x).cells.toList ++ (pre ++ z).drop (j * k + (a.eval x).cells.toList.length) = (pre ++ (a.eval x).cells.toList) ++ z.drop k := by
                rw [← hp, List.take_left', List.drop_append, List.drop_eq_nil_of_le (by omega), hcl]
                · simp
                · rfl
              simp only at hfs e2 ⊢
              rw [← e2]
              exact hfs
            have harr' : (a.eval x).cells.zipIdx.foldl (fun cs x => match x with | (c, j_1) => cs.setIfInBounds (j * k + j_1) c) (pre ++ z).toArray = ((pre ++ (a.eval x).cells.toList) ++ z.drop k).toArray := harr
            rw [harr', ih4]
            simp
          · simp only [List.flatten_cons, List.map_append]
            exact (toDs_rel _ _ _ hrow hcs).append ih5
        · cases h
      · cases h
    · cases h

theorem pure_buildSlice {P : Program} {o : Oper} {ev : Operand → T} (t : TypeId) (len : Nat) (parts : Array (Nat × Operand)) (ho : o.op = .buildSlice t len parts) (e : TypeId) (k : Nat) (zs : List V) (rs : List (List D))
    (ht : tsl P t = some e) (hk : tsz P e = some k) (hz : tzv P e = some zs) (hzk : zs.length = k) (hl : parts.size = len) (hsmall : len * k ≤ 16777216) (hk0 : 0 < k) (hl0 : 0 < len) (hr : litRows k ev 0 parts.toList = some rs) : PureOK P o ev (.e (.c (.d (.sl rs)))) := by
  intro M γ H w a hm h K Q hK
  obtain ⟨z0, hz0, hze, ha⟩ := tzv_some hz
  obtain ⟨z, hzr, hzc⟩ := tzero_some hz0 w
  have hzl : z0.length = k := by rw [← hzk, hze]; simp
  have hz' : z.cells = z0.toArray := by rw [← hzc]
  have hpl : parts.toList.length = len := by simpa using hl
  obtain ⟨h1, h2, us, h3, h4, h5⟩ := litRows_fill (w := w) (M := M) (γ := γ) (ev := ev) (a := a) k parts.toList 0 rs [] ((List.replicate len z0).flatten) (fun x hx => h x (by simpa [ho, Op.operands] using hx)) hr (by simp) (by simp [hpl, hzl])
  have hrl : rs.length = len := by rw [h2, hpl]
  have hparts : (parts.map fun p => (p.1, a.eval p.2)).toList = parts.toList.map fun p => (p.1, a.eval p.2) := by simp
  have hmade : (Array.range (len * k)).map ((if len * k = 0 then (#[] : Array Value) else z.cells)[· % (if len * k = 0 then (#[] : Array Value) else z.cells).size]!) = ((List.replicate len z0).flatten).toArray := by
    apply Array.ext'
    rw [← range_flat z0 len, hzl]
    by_cases h0 : len * k = 0
    · simp [h0]
    · rw [if_neg h0, hz']
  refine wp_value (v := .slice (some ⟨w.heap.size, 0, none⟩) len len) (w' := w.alloc (.cells us.toArray e)) ?_ (hK _ _ (keep_alloc _ _) ?_)
  · have hns : ¬ (16777216 < len * k) := by omega
    simp only [List.nil_append] at h4
    have h0 : ¬ (len * k = 0) := by
      intro h0
      rcases Nat.mul_eq_zero.1 h0 with h | h <;> omega
    rw [if_neg h0] at hmade
    simp [execOp, ho, Instr.buildSlice, run_underlying (tsl_some ht), tsz_some hk, hns, h0, hzr, hmade, h4, newRow]
  · have hblk : (w.alloc (.cells us.toArray e)).heap[w.heap.size]? = some (.cells us.toArray e (0, 0)) := heap_alloc_at _ _
    have hst : stab (w.alloc (.cells us.toArray e)) M γ w.heap.size := by
      refine ⟨by simp, fun hM => by have := hm.low _ hM; omega, fun s hs => by have := hm.lt hs; omega⟩
    have h5' := h5.carry (w' := w.alloc (.cells us.toArray e)) (keep_alloc _ _).carry0 fun _ _ => rfl
    have key : DRel (w.alloc (.cells us.toArray e)) (stab (w.alloc (.cells us.toArray e)) M γ) (.sl rs) (.slice (some ⟨w.heap.size, 0, none⟩) rs.length len) := by
      refine .sl rs k len _ (fun i j => (us[i * k + j]?).getD undef) (by omega) (by simp only [maxLen]; have := Nat.le_mul_of_pos_right len hk0; omega) h1 (fun _ => ⟨_, rfl, rfl, hst, fun i j hi hj => ?_⟩) (fun i j x hx => ?_)
      · have : (i + 1) * k ≤ rs.length * k := Nat.mul_le_mul_right _ hi
        rw [Nat.succ_mul] at this
        have hlt : i * k + j < us.length := by omega
        rw [mk_add, cell_blk hblk, Nat.zero_add, List.getElem?_eq_getElem hlt, Option.getD_some]
        simp [hlt]
      · have hj : j < k := by
          cases hri : rs[i]? with
          | none => simp [hri] at hx
          | some r =>
            simp [hri] at hx
            have := (List.getElem?_eq_some_iff.1 hx).1
            rw [h1 r (List.mem_of_getElem? hri)] at this
            exact this
        have hfg := flat_get k rs h1 i j hj
        rw [hx] at hfg
        obtain ⟨u, hu, hrel⟩ := h5'.at_ (x := .d x) (i := i * k + j) (by rw [List.getElem?_map, hfg]; rfl)
        rw [hu, Option.getD_some]
        exact hrel
    rw [hrl] at key
    exact key

/- slice expressions -/
def natOf : T → Option Nat
  | .e (.c (.d (.sc (.int _ i)))) => if 0 ≤ i then some i.toNat else none
  | _ => none
def boundV (ev : Operand → T) (x : Option Operand) (dflt : Nat) : Option Nat := match x with | none => some dflt | some x => natOf (ev x)

def sliceV (k lo hi : Nat) : T → Option T
  | .e (.c (.sub s k' off len)) => if k' = k ∧ lo ≤ hi ∧ hi ≤ len then some (.e (.c (.sub s k (off + lo * k) (hi - lo)))) else none
  | .e (.c (.d (.sl es))) => if lo ≤ hi ∧ hi ≤ es.length ∧ es.all (fun r => r.length == k) then some (.e (.c (.d (.sl ((es.drop lo).take (hi - lo)))))) else none
  | .e (.c (.d (.sc (.slice none 0 0)))) => if lo = 0 ∧ hi = 0 then some (.e (.c (.d (.sc (.slice none 0 0))))) else none
  | _ => none

theorem natOf_rel {w : World} {M : Nat → Prop} {γ : G} {x : T} {v : Value} {n : Nat} (h : natOf x = some n) (hx : TRel w M γ x v) : ∃ k, v = .int k n := by
  unfold natOf at h
  split at h
  · rename_i k i
    split at h
    · injection h with h; subst h
      refine ⟨k, ?_⟩
      rw [sc_inv hx, Int.toNat_of_nonneg (by assumption)]
    · cases h
  · cases h

theorem bound_run {P : Program} {w : World} {M : Nat → Prop} {γ : G} {ev : Operand → T} {a : Act} {x : Operand} {n y : Nat} (h : natOf (ev x) = some n) (hx : TRel w M γ (ev x) (a.eval x)) (hn : n ≤ y) (code : BoundsCode) :
    (Instr.sliceBound (a.eval x) y code).run P w = .ok n w := by
  obtain ⟨k, hv⟩ := natOf_rel h hx
  simp [Instr.sliceBound, hv, asIntOf, hn]

theorem bounds_run {P : Program} {w : World} {M : Nat → Prop} {γ : G} {ev : Operand → T} {a : Act} (lx hx mx : Option Operand) {lo hi m len cap : Nat} (hm : boundV ev mx cap = some m) (hh : boundV ev hx len = some hi) (hl : boundV ev lx 0 = some lo)
    (hr : ∀ x, (lx = some x ∨ hx = some x ∨ mx = some x) → TRel w M γ (ev x) (a.eval x)) (h1 : lo ≤ hi) (h2 : hi ≤ m) (h3 : m ≤ cap) (hmx : mx ≠ none → hx ≠ none) :
    (Instr.sliceBounds true len cap (lx.map a.eval) (hx.map a.eval) (mx.map a.eval)).run P w = .ok (lo, hi, m) w := by
  have B : ∀ (x : Operand) (n y : Nat) (code : BoundsCode), natOf (ev x) = some n → (lx = some x ∨ hx = some x ∨ mx = some x) → n ≤ y → (Instr.sliceBound (a.eval x) y code).run P w = .ok n w :=
    fun x n y code h1 h2 h3 => bound_run h1 (hr x h2) h3 code
  cases mx with
  | none =>
    simp only [boundV, Option.some.injEq] at hm
    subst hm
    cases hx with
    | none =>
      simp only [boundV, Option.some.injEq] at hh
      subst hh
      cases lx with
      | none => simp only [boundV, Option.some.injEq] at hl; subst hl; simp [Instr.sliceBounds]
      | some x =>
        simp only [boundV] at hl
        have b1 := fun code => B x lo len code hl (.inl rfl) h1
        simp [Instr.sliceBounds, b1]
    | some z =>
      simp only [boundV] at hh
      have b2 := fun code => B z hi cap code hh (.inr (.inl rfl)) h2
      cases lx with
      | none => simp only [boundV, Option.some.injEq] at hl; subst hl; simp [Instr.sliceBounds, b2]
      | some x =>
        simp only [boundV] at hl
        have b1 := fun code => B x lo hi code hl (.inl rfl) h1
        simp [Instr.sliceBounds, b1, b2]
  | some y =>
    simp only [boundV] at hm
    have b3 := fun code => B y m cap code hm (.inr (.inr rfl)) h3
    cases hx with
    | none => exact absurd rfl (hmx (by simp))
    | some z =>
      simp only [boundV] at hh
      have b2 := fun code => B z hi m code hh (.inr (.inl rfl)) h2
      cases lx with
      | none => simp only [boundV, Option.some.injEq] at hl; subst hl; simp [Instr.sliceBounds, b2, b3]
      | some x =>
        simp only [boundV] at hl
        have b1 := fun code => B x lo hi code hl (.inl rfl) h1
        simp [Instr.sliceBounds, b1, b2, b3]

theorem pure_slice {P : Program} {o : Oper} {ev : Operand → T} (t : TypeId) (x : Operand) (lx hx mx : Option Operand) (ho : o.op = .slice t x lx hx mx) (e : TypeId) (k len lo hi : Nat) (r : T)
    (ht : tsl P t = some e) (hk : tsz P e = some k) (hlen : lenV (ev x) = some len) (hh : boundV ev hx len = some hi) (hl : boundV ev lx 0 = some lo) (hmx : mx = none ∨ (mx = hx ∧ hx ≠ none)) (hr : sliceV k lo hi (ev x) = some r) : PureOK P o ev r :=
  pure_same fun M γ H w a _ h => by
    have h1 := h x (by simp [ho, Op.operands])
    obtain ⟨A, cap, hv⟩ := slice_rel hlen h1
    have hops : ∀ y, (lx = some y ∨ hx = some y ∨ mx = some y) → TRel w M γ (ev y) (a.eval y) := by
      intro y hy
      apply h
      rw [ho]
      simp only [Op.operands]
      rcases hy with rfl | rfl | rfl <;> simp
    have hrun : ∀ (l1 : lo ≤ hi) (l2 : hi ≤ len) (l3 : len ≤ cap), ∃ m, m ≤ cap ∧ hi ≤ m ∧ (execOp a.eval o).run P w = .ok (.value (.slice (if m = lo then A else A.map (·.add (lo * k))) (hi - lo) (m - lo))) w := by
      intro l1 l2 l3
      rcases hmx with rfl | ⟨rfl, hne⟩
      · refine ⟨cap, Nat.le_refl _, by omega, ?_⟩
        have hb := bounds_run (P := P) (cap := cap) (m := cap) lx hx none rfl hh hl hops l1 (by omega) (Nat.le_refl _) (fun h => absurd rfl h)
        simp only [Option.map_none] at hb
        simp [execOp, ho, Instr.sliceAt, Instr.slice, run_underlying (tsl_some ht), hv, hb, tsz_some hk]
      · refine ⟨hi, by omega, Nat.le_refl _, ?_⟩
        have hm : boundV ev mx cap = some hi := by
          cases mx with
          | none => exact absurd rfl hne
          | some y => exact hh
        have hb := bounds_run (P := P) (cap := cap) (m := hi) lx mx mx hm hh hl hops l1 (Nat.le_refl _) (by omega) (fun _ => hne)
        simp [execOp, ho, Instr.sliceAt, Instr.slice, run_underlying (tsl_some ht), hv, hb, tsz_some hk]
    unfold sliceV at hr
    split at hr
    · rename_i s k' off len' hx'
      split at hr
      · rename_i hc
        obtain ⟨rfl, c1, c2⟩ := hc
        injection hr with hr; subst hr
        rw [hx'] at h1 hlen
        simp only [lenV, Option.some.injEq] at hlen
        subst hlen
        rcases h1 with ⟨b, cap', cells, ty, hg, e1, hlc, hcm, hb, hroom⟩ | ⟨hg, rfl, rfl, e1⟩ | ⟨b, off', hg, rfl, e1⟩
        · rw [e1] at hv
          injection hv with hA _ hcap
          subst hA; subst hcap
          obtain ⟨m, m1, m2, hrun⟩ := hrun c1 c2 hlc
          refine ⟨_, hrun, ?_⟩
          by_cases hml : m = lo
          · refine .inr (.inr ⟨b, off, hg, by omega, ?_⟩)
            rw [if_pos hml, hml]
            simp
            omega
          · refine .inl ⟨b, m - lo, cells, ty, hg, ?_, by omega, by omega, hb, ?_⟩
            · rw [if_neg hml]; simp [mk_add]
            · have : m * k' ≤ cap' * k' := Nat.mul_le_mul_right _ m1
              have e2 : (m - lo) * k' + lo * k' = m * k' := by rw [← Nat.add_mul]; congr 1; omega
              omega
        · rw [e1] at hv
          injection hv with hA _ hcap
          subst hA; subst hcap
          obtain ⟨m, m1, m2, hrun⟩ := hrun c1 c2 (Nat.le_refl _)
          have hlo : lo = 0 := by omega
          have hhi : hi = 0 := by omega
          have hmm : m = 0 := by omega
          subst hlo; subst hhi; subst hmm
          exact ⟨_, hrun, .inr (.inl ⟨hg, by simp, rfl, by simp⟩)⟩
        · rw [e1] at hv
          injection hv with hA _ hcap
          subst hA; subst hcap
          obtain ⟨m, m1, m2, hrun⟩ := hrun c1 c2 (Nat.le_refl _)
          have hlo : lo = 0 := by omega
          have hhi : hi = 0 := by omega
          have hmm : m = 0 := by omega
          subst hlo; subst hhi; subst hmm
          exact ⟨_, hrun, .inr (.inr ⟨b, off', hg, rfl, by simp⟩)⟩
      · cases hr
    · rename_i es hx'
      split at hr
      · rename_i hc
        obtain ⟨c1, c2, c3⟩ := hc
        have c3 : ∀ r ∈ es, r.length = k := by simpa using c3
        injection hr with hr; subst hr
        rw [hx'] at h1 hlen
        simp only [lenV, Option.some.injEq] at hlen
        subst hlen
        generalize hva : a.eval x = va at h1 hv
        cases h1 with
        | sl _ kk cap' A' U hcap hmax hrow hA hU =>
          injection hv with e1 _ e3
          subst e1; subst e3
          obtain ⟨m, m1, m2, hrun⟩ := hrun c1 c2 hcap
          refine ⟨_, hrun, ?_⟩
          have hl' : ((es.drop lo).take (hi - lo)).length = hi - lo := by simp; omega
          have key : DRel w (stab w M γ) (.sl ((es.drop lo).take (hi - lo))) (.slice (if m = lo then A' else A'.map (·.add (lo * k))) ((es.drop lo).take (hi - lo)).length (m - lo)) := by
            refine .sl _ kk (m - lo) _ (fun i j => U (lo + i) j) (by rw [hl']; omega) (by omega) (fun r hr => hrow r (List.mem_of_mem_drop (List.mem_of_mem_take hr))) (fun hne => ?_) (fun i j x hx => ?_)
            · have hpos : 0 < hi - lo := by
                rcases Nat.eq_zero_or_pos (hi - lo) with h0 | h0
                · exact absurd (List.eq_nil_of_length_eq_zero (by rw [hl', h0])) hne
                · exact h0
              have hes : es ≠ [] := by rintro rfl; simp at c2; omega
              obtain ⟨ad, rfl, hsp, hst, hc⟩ := hA hes
              have hkk : kk = k := by
                obtain ⟨r, hr⟩ := List.exists_mem_of_ne_nil es hes
                rw [← hrow r hr, c3 r hr]
              subst hkk
              rw [if_neg (by omega)]
              refine ⟨ad.add (lo * kk), rfl, spot_add _ _ hsp, by rw [block_add]; exact hst, fun i j hi' hj => ?_⟩
              rw [hl'] at hi'
              rw [add_add, ← Nat.add_assoc, ← Nat.add_mul]
              exact hc (lo + i) j (by omega) hj
            · rw [List.getElem?_take] at hx
              split at hx
              · rw [List.getElem?_drop] at hx
                exact hU (lo + i) j x hx
              · simp at hx
          rw [hl'] at key
          exact key
      · cases hr
    · rename_i hx'
      split at hr
      · rename_i hc
        obtain ⟨rfl, rfl⟩ := hc
        injection hr with hr; subst hr
        rw [hx'] at h1 hlen
        simp only [lenV, Option.some.injEq] at hlen
        subst hlen
        have e1 := sc_inv h1
        rw [e1] at hv
        injection hv with hA _ hcap
        subst hA; subst hcap
        obtain ⟨m, m1, m2, hrun⟩ := hrun (Nat.le_refl _) (Nat.le_refl _) (Nat.le_refl _)
        have hmm : m = 0 := by omega
        subst hmm
        exact ⟨_, hrun, .sc _ rfl⟩
      · cases hr
    · cases hr

end Go.Ab
end
