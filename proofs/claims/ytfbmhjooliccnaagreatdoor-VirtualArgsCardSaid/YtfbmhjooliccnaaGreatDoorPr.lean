/- The framework: fixed contexts, rounds of a range over a function, the beginning of a region in whatever order. No condition. sparse.Content at one term: the walk. No condition. The framework: calls by hand at one context; a strings.Builder's first write and its end. No condition. A strings.Builder that has been written to: WriteString and WriteByte (generic walk). No condition. A strings.Builder that has been written to: one writing method (generic walk). No condition. An executor for code that writes to a strings.Builder. No condition. An executor for code that writes to a strings.Builder: its soundness. No condition. A strings.Builder that is new: its first WriteString (generic walk). No condition. testpoint.key: the walk (generic). No condition. -/
import Derived.Test.YtfbmhjooliccnaaGreatDoorPd
import Derived.RangeFuncLeaves
import Derived.RangeFuncRecord
import Derived.OrdersIn
import Derived.TacticsIn
import Derived.Test.YtfbmhjooliccnaaGreatDoorPc
import Derived.Laws.Externs
set_option linter.all false

section
namespace Go.Ab
open Go Go.RowKit

/- operations inside the wide fence -/
def wideAt (ro : Option Nat) : Fence := { Fence.wide with round := ro }

theorem wpIn_of_wp {ro : Option Nat} {n : Nat} {P : Program} {o : Oper} {a : Act} {w : World} {K : Act → World → Prop} {Q : Exit → Act → World → Prop} (hd : ∀ c, o.op ≠ .defer c) (h : o.wp P a w K Q) : o.wpIn (wideAt ro) n P a w K Q := by
  refine ⟨fun f _ => trivial, ?_⟩
  rw [show (wideAt ro).round = ro from rfl, Oper.semAt_eq ro a.eval o hd]
  unfold Oper.wp at h
  generalize (execOp a.eval o).run P w = r at h
  cases r with
  | ok x w' =>
    cases x <;> simp only [Oper.upon, Oper.uponIn] at h ⊢ <;> try exact h
    · refine ⟨(fun h => by cases h), ?_⟩
      have h2 := (callsIn_wide (n := n - 1)).2 h
      exact ⟨trivial, fun cs hr => by
        obtain ⟨e, w2, fr, r, s, x⟩ := h2.2 cs (room_wide _)
        exact ⟨e, w2, fr, by cases e <;> exact r, s, x⟩⟩
    · refine ⟨(fun h => by cases h), fun c cs _ => ?_⟩
      obtain ⟨v, w2, r, s⟩ := h c cs
      exact ⟨v, w2, r, stepsIn_wide.2 s⟩
  | halt x w' => cases x <;> exact h

theorem wpListIn_of {ro : Option Nat} {n : Nat} {P : Program} {ops : Array Oper} {Q : Exit → Act → World → Prop} (hQ : ¬ LetsOut Q) : ∀ (l : List Oper) (a : Act) (w : World), (∀ o ∈ l, ∀ c, o.op ≠ .defer c) → wpList P ops Q l a w → wpListIn (wideAt ro) n P ops Q l a w
  | [], a, w, _, h => h
  | o :: l, a, w, hd, h => by
    simp only [wpList] at h
    simp only [wpListIn]
    split
    · rename_i hw
      rw [if_pos hw] at h
      rcases h with h | ⟨_, h⟩
      · exact Oper.wpIn_mono (fun a w h => wpListIn_of hQ l a w (fun o ho => hd o (by simp [ho])) h) (wpIn_of_wp (hd o (by simp)) h)
      · exact absurd h hQ
    · rename_i hw
      rw [if_neg hw] at h
      exact ⟨fun _ _ => trivial, wpListIn_of hQ l _ w (fun o ho => hd o (by simp [ho])) h⟩

/- an activation with deferred calls behind its own -/
def addD (ds : List Deferred) (a : Act) : Act := { a with defers := a.defers ++ ds }
theorem addD_eval (ds : List Deferred) (a : Act) : (addD ds a).eval = a.eval := by funext x; cases x <;> rfl
theorem addD_put (ds : List Deferred) (a : Act) (d : Option Tmp) (v : Value) : (addD ds a).put d v = addD ds (a.put d v) := by cases d <;> rfl
def QD (ds : List Deferred) (Q : Exit → Act → World → Prop) : Exit → Act → World → Prop := fun e a' w' => ∃ a0, a' = addD ds a0 ∧ Q e a0 w'
theorem wp_addD {ds : List Deferred} {P : Program} {o : Oper} {a : Act} {w : World} {K : Act → World → Prop} {Q : Exit → Act → World → Prop} (h : o.wp P a w K Q) : o.wp P (addD ds a) w (fun a' w' => ∃ a0, a' = addD ds a0 ∧ K a0 w') (QD ds Q) := by
  unfold Oper.wp at *
  rw [addD_eval]
  generalize (execOp a.eval o).run P w = r at *
  cases r with
  | ok x w' =>
    cases x with
    | value v => exact ⟨_, addD_put _ _ _ _, h⟩
    | skip => exact ⟨_, addD_put _ _ _ _, h⟩
    | defer d =>
      refine ⟨_, ?_, h⟩
      exact addD_put ds { a with defers := d :: a.defers } _ _
    | enter f args =>
      refine Calls.mono h fun e w2 he => ?_
      cases e with
      | returned v => exact ⟨_, addD_put _ _ _ _, he⟩
      | panicked c => exact ⟨_, rfl, he⟩
      | outgrown => obtain ⟨a1, w1, h1⟩ := he; exact ⟨addD ds a1, w1, a1, rfl, h1⟩
    | row r args => exact Rows.mono h fun v w2 he => ⟨_, addD_put _ _ _ _, he⟩
    | _ => exact h
  | halt x w' => cases x <;> simp only [Oper.upon] at h ⊢ <;> first | exact h | exact ⟨_, rfl, h⟩
theorem wpOper_mono {P : Program} {o : Oper} {a : Act} {w : World} {K K' : Act → World → Prop} {Q : Exit → Act → World → Prop} (h : ∀ a w, K a w → K' a w) (hh : o.wp P a w K Q) : o.wp P a w K' Q := by
  unfold Oper.wp at *
  generalize (execOp a.eval o).run P w = r at *
  cases r with
  | ok x w' =>
    cases x with
    | value v => exact h _ _ hh
    | skip => exact h _ _ hh
    | defer d => exact h _ _ hh
    | enter f args => exact Calls.mono hh fun e w2 he => by cases e <;> first | exact h _ _ he | exact he
    | row r args => exact Rows.mono hh fun v w2 he => h _ _ he
    | _ => exact hh
  | halt x w' => cases x <;> simp only [Oper.upon] at hh ⊢ <;> exact hh
theorem wpList_addD {ds : List Deferred} {P : Program} {ops : Array Oper} {Q : Exit → Act → World → Prop} : ∀ (l : List Oper) (a : Act) (w : World), wpList P ops Q l a w → wpList P ops (QD ds Q) l (addD ds a) w
  | [], a, w, h => ⟨a, rfl, h⟩
  | o :: l, a, w, h => by
    simp only [wpList] at h ⊢
    rw [show (addD ds a).tmps = a.tmps from rfl]
    split
    · rename_i hw
      rw [if_pos hw] at h
      rcases h with h | ⟨h, a1, w1, h1⟩
      · refine .inl (wpOper_mono ?_ (wp_addD h))
        rintro a' w' ⟨a0, rfl, h⟩
        exact wpList_addD l a0 w' h
      · refine .inr ⟨?_, addD ds a1, w1, a1, rfl, h1⟩
        unfold Oper.asks at *
        rw [addD_eval]
        exact h
    · rename_i hw
      rw [if_neg hw] at h
      rw [addD_put]
      exact wpList_addD l _ w h

/- other sets of foreign blocks -/
structure CarryM (M M' : Nat → Prop) (γ γ' : G) (w w' : World) : Prop where
  stab : ∀ b, stab w M γ b → Ab.stab w' M' γ' b
  same : ∀ b, Ab.stab w M γ b → w'.heap[b]? = w.heap[b]?
  shape : ∀ (b : Nat) (cells : Array Value) (t : TypeId), w.heap[b]? = some (.cells cells t (0, 0)) → ∃ cells' : Array Value, w'.heap[b]? = some (.cells cells' t (0, 0)) ∧ cells'.size = cells.size

theorem VRel.carryM {M M' : Nat → Prop} {γ γ' : G} {w w' : World} (h : CarryM M M' γ γ' w w') {x : V} {v : Value} (hx : VRel w M γ x v)
    (hn : ∀ s, x.names s → γ' s = γ s) : VRel w' M' γ' x v := by
  cases x with
  | d x => exact DRel.mono hx h.stab h.same
  | ptr s off =>
    obtain ⟨b, hb, e⟩ := hx
    exact ⟨b, (hn s rfl).trans hb, e⟩
  | sub s k off len =>
    rcases hx with ⟨b, cap, cells, t, hb, e, h1, h2, h3, h4⟩ | ⟨h1, h2⟩ | ⟨b, o, h1, h2⟩
    · obtain ⟨cells', h5, h6⟩ := h.shape b cells t h3
      exact .inl ⟨b, cap, cells', t, (hn s rfl).trans hb, e, h1, h2, h5, by omega⟩
    · exact .inr (.inl ⟨(hn s rfl).trans h1, h2⟩)
    · exact .inr (.inr ⟨b, o, (hn s rfl).trans h1, h2⟩)
  | pim ds =>
    obtain ⟨a, e, hsp, hst, hd⟩ := hx
    refine ⟨a, e, hsp, h.stab _ hst, fun j x hj => ?_⟩
    obtain ⟨u, hu, hr⟩ := hd j x hj
    refine ⟨u, ?_, DRel.mono hr h.stab h.same⟩
    rw [cell_congr (w := w)]
    · exact hu
    · rw [block_add]; exact h.same _ hst
  | clo f caps =>
    obtain ⟨cs, e, hl, hc⟩ := hx
    refine ⟨cs, e, hl, fun i p c hp hcc => ?_⟩
    obtain ⟨b, hb, e'⟩ := hc i p c hp hcc
    exact ⟨b, (hn p.1 ⟨p, List.mem_of_getElem? hp, rfl⟩).trans hb, e'⟩
  | mp s =>
    obtain ⟨b, hb, e⟩ := hx
    exact ⟨b, (hn s rfl).trans hb, e⟩
  | mapc es => exact hx.elim
  | any => exact hx
theorem CsRel.carryM {M M' : Nat → Prop} {γ γ' : G} {w w' : World} (h : CarryM M M' γ γ' w w') {xs : List V} {vs : List Value} (hx : CsRel w M γ xs vs)
    (hn : ∀ s, (∃ x ∈ xs, x.names s) → γ' s = γ s) : CsRel w' M' γ' xs vs :=
  ⟨hx.1, fun i x u hi hu => (hx.2 i x u hi hu).carryM h fun s hs => hn s ⟨x, List.mem_of_getElem? hi, hs⟩⟩
theorem ERel.carryM {M M' : Nat → Prop} {γ γ' : G} {w w' : World} (h : CarryM M M' γ γ' w w') {x : E} {v : Value} (hx : ERel w M γ x v)
    (hn : ∀ s, x.names s → γ' s = γ s) : ERel w' M' γ' x v := by
  cases x with
  | c x => exact VRel.carryM h hx hn
  | agg xs =>
    obtain ⟨us, e, hc⟩ := hx
    exact ⟨us, e, hc.carryM h hn⟩
theorem TRel.carryM {M M' : Nat → Prop} {γ γ' : G} {w w' : World} (h : CarryM M M' γ γ' w w') {x : T} {v : Value} (hx : TRel w M γ x v)
    (hn : ∀ s, x.names s → γ' s = γ s) : TRel w' M' γ' x v := by
  cases x with
  | e x => exact ERel.carryM h hx hn
  | tup xs =>
    obtain ⟨us, e, hl, hc⟩ := hx
    exact ⟨us, e, hl, fun i x u hi hu => (hc i x u hi hu).carryM h fun s hs => hn s ⟨x, List.mem_of_getElem? hi, hs⟩⟩
  | any => trivial
theorem Mem.carryM {M M' : Nat → Prop} {γ : G} {H : Heap} {w w' : World} (hm : Mem M γ H w) (h : CarryM M M' γ γ w w') (ho : ∀ s b, γ s = some (some b) → w'.heap[b]? = w.heap[b]?) (hl : ∀ b, M' b → b < w'.heap.size) (hn : ∀ s b, γ s = some (some b) → ¬ M' b) : Mem M' γ H w' where
  low := hl
  inj := hm.inj
  nm := hn
  dom := hm.dom
  blk s cs hs := by
    rcases hm.blk s cs hs with ⟨b, t, vs, sp, hg, hb, hc⟩ | h0 | ⟨b, en, clk, hg, hb, hc⟩
    · exact .inl ⟨b, t, vs, sp, hg, (ho s b hg).trans hb, hc.carryM h fun _ _ => rfl⟩
    · exact .inr (.inl h0)
    · exact .inr (.inr ⟨b, en, clk, hg, (ho s b hg).trans hb, hc⟩)
theorem RelAt.world {C : Ctx} {γ : G} {σ : St} {a : Act} {w : World} (R : RelAt C γ σ a w) {M' : Nat → Prop} {w' : World} (hc : CarryM C.M M' γ γ w w') (ho : ∀ s b, γ s = some (some b) → w'.heap[b]? = w.heap[b]?) (hl : ∀ b, M' b → b < w'.heap.size)
    (hn : ∀ s b, γ s = some (some b) → ¬ M' b) (hk : Keep C.Pin C.w0 w') : RelAt { C with M := M' } γ σ a w' :=
  ⟨R.mem.carryM hc ho hl hn, fun i => (R.env i).carryM hc fun _ _ => rfl, hk, R.own, R.stay, R.defers, R.size⟩
/-- A foreign block that is no row of cells is written. -/
theorem carry_put {M : Nat → Prop} {γ : G} {w : World} {l : Nat} {old new : Obj} (hM : M l) (hl : w.heap[l]? = some old) (hold : ∀ cells t r, old ≠ .cells cells t r) : CarryM M M γ γ w (w.putObj l new) :=
  ⟨fun b hb => ⟨by simpa using hb.1, hb.2.1, hb.2.2⟩, fun b hb => World.putObj_heap_other (fun e => hb.2.1 (e ▸ hM)), fun b cells t hb => ⟨cells, (World.putObj_heap_other (fun e => by subst e; rw [hl] at hb; injection hb with hb; exact hold _ _ _ hb)).trans hb, rfl⟩⟩

/-- Behind a call: the caller's state. -/
theorem RelAt.back {C : Ctx} {γ : G} {env : Nat → T} {H : Heap} {a : Act} {w : World} (R : RelAt C γ ⟨env, H⟩ a w) {γ' : G} {H' : Heap} {w' : World} (hm : Mem C.M γ' H' w') (hk : Keep (fun b => ∃ s, γ s = some (some b)) w w')
    (ho : ∀ s b, γ' s = some (some b) → (∃ t, γ t = some (some b)) ∨ w.heap.size ≤ b) (hs : ∀ s, (∃ i, (env i).names s) ∨ C.stay s → γ' s = γ s) : RelAt C γ' ⟨env, H'⟩ a w' := by
  have hc : Carry C.M γ γ' w w' := ⟨hk.size, fun b hb => hk.same b hb.1 (fun ⟨s, h⟩ => hb.2.2 s h), fun b hb s h => by
    rcases ho s b h with ⟨t, ht⟩ | h2
    · exact hb.2.2 t ht
    · have := hb.1; omega, hk.shape⟩
  refine ⟨hm, fun i => (R.env i).carry hc fun s hs' => hs s (.inl ⟨i, hs'⟩), R.keep.trans hk (fun x _ h => h) (fun x hx ⟨s, h⟩ => ?_), fun s b h => ?_, fun s h => (hs s (.inr h)).trans (R.stay s h), R.defers, R.size⟩
  · rcases R.own s x h with h | h
    · exact h
    · omega
  · rcases ho s b h with ⟨t, ht⟩ | h2
    · exact R.own t b ht
    · have := R.keep.size; exact .inr (by omega)

/-- A context that begins here. -/
def Ctx.here (M : Nat → Prop) (γ : G) (w : World) (stay : Nat → Prop) (nt : Nat) : Ctx := ⟨M, fun b => ∃ s, γ s = some (some b), w, γ, stay, nt⟩
theorem RelAt.here {M : Nat → Prop} {γ : G} {H : Heap} {w : World} (hm : Mem M γ H w) {env : Nat → T} {a : Act} (he : ∀ i, TRel w M γ (env i) (a.tmps.getD i undef)) (hd : a.defers = []) (stay : Nat → Prop) : RelAt (Ctx.here M γ w stay a.tmps.size) γ ⟨env, H⟩ a w :=
  ⟨hm, he, Keep.refl _ _, fun s b h => .inl ⟨s, h⟩, fun _ _ => rfl, hd, rfl⟩

/- the executor at one context -/
def Out.exit : Out → Exit
  | .nrm => .normal
  | .ext i => .exit i
  | .ret => .ret
theorem exec_at {P : Program} {n c0 : Nat} {hd : Hand} {lf : Nat} (hm : P.follows .mixedOrders = true) (H : HandOK P hd) {code : Code} {c c' : CS} {out : Out} (h : execC P n c0 hd lf code c = some (out, c')) {C : Ctx} (hn : C.nt = n)
    (hst : ∀ s, C.stay s → s < c0 ∧ s ∉ c'.mv) (h0 : c0 ≤ c.ctr) {a : Act} {w : World} (R : Rel C c.st a w) {Q : Exit → Act → World → Prop} (hQ : ∀ a' w', Rel C c'.st a' w' → Q out.exit a' w') : code.wp P Q a w := by
  have := (execC_ok hm H code c out c' h).2 C.stay c' hst h0 (.refl _ _) ⟨fun σ => out = .nrm ∧ σ = c'.st, fun i σ => out = .ext i ∧ σ = c'.st, fun σ => out = .ret ∧ σ = c'.st⟩ (by cases out <;> exact ⟨rfl, rfl⟩) C hn rfl a w R
  refine wp_mono this fun e a' w' ⟨σ', R', hq⟩ => ?_
  cases e with
  | normal => obtain ⟨rfl, rfl⟩ := hq; exact hQ a' w' R'
  | exit i => obtain ⟨rfl, rfl⟩ := hq; exact hQ a' w' R'
  | ret => obtain ⟨rfl, rfl⟩ := hq; exact hQ a' w' R'
  | goto l => exact hq.elim
  | panic ch => exact hq.elim
  | outgrown => exact hq.elim
theorem ops_at {P : Program} {n c0 : Nat} {hd : Hand} {ops : Array Oper} (H : HandOK P hd) {l : List Oper} {c c' : CS} (h : runY P n c0 ops hd l c = some c') {C : Ctx} (hn : C.nt = n)
    (hst : ∀ s, C.stay s → s < c0 ∧ s ∉ c'.mv) (h0 : c0 ≤ c.ctr) {a : Act} {w : World} (R : Rel C c.st a w) {Q : Exit → Act → World → Prop} (hQ : ∀ a' w', Rel C c'.st a' w' → Q .normal a' w') : wpList P ops Q l a w :=
  runY_ok (stay := C.stay) (K := fun σ => σ = c'.st) H hst l c c' h h0 (.refl _ _) rfl C hn rfl a w R Q fun a' w' σ' R' e => by subst e; exact hQ a' w' R'

theorem region_any' {P : Program} {n : Nat} {stay : Nat → Prop} {ops : Array Oper} {fp : List Ft} {X : Nat → St} (hlen : fp.length = ops.size)
    (hX : ∀ (j : Nat) (f : Ft), fp[j]? = some f → LQ P n stay ops j (X j) (X (j + 1)) f) (hc : chk' ops fp = true)
    (hk : ∀ (j : Nat) (f : Ft), fp[j]? = some f → ∀ s ∈ f.kl, ∀ m, m ≤ ops.size → ∀ l, l ∉ f.wr → ¬ ((X m).at l).names s)
    {C : Ctx} (hn : C.nt = n) (hs : C.stay = stay) {a : Act} {w : World} (R : Rel C (X 0) a w) {Q : Exit → Act → World → Prop} (hQ : ∀ a' w', Rel C (X ops.size) a' w' → Q .normal a' w') : wpAny P .any ops Q ops.size (Array.replicate ops.size false) a { w with drawn := w.drawn + 1 } := by
  have hsz : ops.toList.length = ops.size := by simp
  have hF : ∀ (m l : Nat), l ∉ wrs fp m → m < fp.length → (X (m + 1)).at l = (X m).at l := by
    intro m l hl hml
    have hf : fp[m]? = some fp[m] := List.getElem?_eq_getElem hml
    refine (hX m _ hf).frame l ?_
    simpa [wrs, hf] using hl
  have wr_lt : ∀ (k l : Nat), l ∈ wrs fp k → k < ops.size := by
    intro k l h
    rcases Nat.lt_or_ge k ops.size with h' | h'
    · exact h'
    · simp [wrs, List.getElem?_eq_none (show fp.length ≤ k by omega)] at h
  have key : ∀ (fuel : Nat) (U : List Nat) (listed : Array Bool) (a : Act) (w : World), U.length ≤ fuel → listed.size = ops.size → (∀ i, i < ops.size → listed.getD i false = false → i ∈ U) →
      (∀ (j : Nat) (o : Oper), ops.toList[j]? = some o → listed.getD j false = true → ∀ e ∈ o.after.toList, Region.binds .any e = true → listed.getD e.on false = true) →
      Rel C (mixS fp X (fun i => listed.getD i false = true) ops.size) a w → wpAny P .any ops Q fuel listed a w := by
    intro fuel
    have allDone : ∀ (listed : Array Bool) (a : Act) (w : World), (∀ i, i < ops.size → listed.getD i false = true) →
        Rel C (mixS fp X (fun i => listed.getD i false = true) ops.size) a w → Q .normal a w := by
      intro listed a w hall R
      refine hQ a w ?_
      have e1 : mixS fp X (fun i => listed.getD i false = true) ops.size = X ops.size := by
        refine St.ext_at fun l => ?_
        have := mixS_eq hF (fun i => listed.getD i false = true) l ops.size (fun k hk _ => hall k hk) (fun k hk hd => by have := wr_lt k l hd; omega) ops.size (by omega)
        rw [this, Nat.min_self]
      rw [e1] at R
      exact R
    have noneReady : ∀ (listed : Array Bool), listed.size = ops.size → Region.ready .any ops listed = [] → ∀ i, i < ops.size → listed.getD i false = true := by
      intro listed hls hre i
      induction i using Nat.strongRecOn with
      | _ i ih =>
        intro hi
        cases hv : listed.getD i false with
        | true => rfl
        | false =>
          exfalso
          have ho : ops[i]? = some ops[i] := Array.getElem?_eq_getElem hi
          have hmem : i ∈ Region.ready .any ops listed := by
            simp only [Region.ready, List.mem_filter, List.mem_range]
            refine ⟨hi, ?_⟩
            have hl1 : listed.getD i true = false := by
              have : i < listed.size := by omega
              simp [this] at hv ⊢
              exact hv
            rw [hl1, ho]
            simp only [Bool.not_false, Bool.true_and, Option.map_some, Option.getD_some, Array.all_eq_true']
            intro e he
            by_cases hb : Region.binds .any e = true
            · have hlt := chk'_edge hc (j := i) (o := ops[i]) (by simp) (by simpa using he) hb
              rw [ih e.on hlt (by omega)]
              simp
            · simp at hb; simp [hb]
          rw [hre] at hmem
          simp at hmem
    induction fuel with
    | zero =>
      intro U listed a w hU hls hun hcl R
      have hU0 : U = [] := List.eq_nil_of_length_eq_zero (by omega)
      subst hU0
      have hall : ∀ i, i < ops.size → listed.getD i false = true := fun i hi => by
        cases hv : listed.getD i false with
        | true => rfl
        | false => have := hun i hi hv; simp at this
      refine ⟨?_, allDone listed a w hall R⟩
      simp only [Region.ready, List.filter_eq_nil_iff, List.mem_range]
      intro i hi
      have : i < listed.size := by omega
      have h1 := hall i hi
      simp [this] at h1 ⊢
      intro h2; rw [h1] at h2; cases h2
    | succ fuel ih =>
      intro U listed a w hU hls hun hcl R
      refine ⟨fun hre => allDone listed a w (noneReady listed hls hre) R, fun j hj => ?_⟩
      simp only [Region.ready, List.mem_filter, List.mem_range] at hj
      obtain ⟨hjs, hjr⟩ := hj
      have hoa : ops[j]? = some ops[j] := Array.getElem?_eq_getElem hjs
      have ho : ops.toList[j]? = some ops[j] := by simp
      rw [hoa] at hjr
      simp only [Bool.and_eq_true, Bool.not_eq_true', Option.map_some, Option.getD_some, Array.all_eq_true'] at hjr
      obtain ⟨hjl, hedges⟩ := hjr
      have hjlt : j < listed.size := by omega
      have hjf : listed.getD j false = false := by simp [hjlt] at hjl ⊢; exact hjl
      have hedge : ∀ e ∈ ops[j].after.toList, Region.binds .any e = true → listed.getD e.on false = true := by
        intro e he hb
        have := hedges e (by simpa using he)
        simpa [hb] using this
      have hf : fp[j]? = some (fp[j]'(by omega)) := List.getElem?_eq_getElem (by omega)
      have hLS := hX j _ hf
      have hbefore : ∀ i, i ∈ ((ancs ops.toList [])[j]?).getD [] → listed.getD i false = true := by
        intro i hi
        have := ancs_ok (fun k => listed.getD k false = true ∨ k = j) ops.toList (fun k o hk hSk e he hb => by
          rcases hSk with h | rfl
          · exact .inl (hcl k o hk h e he hb)
          · rw [ho] at hk; injection hk with hk; subst hk; exact .inl (hedge e he hb)) ops.toList [] [] rfl rfl (fun k i hi => by simp at hi) j i hi (.inr rfl)
        rcases this with h | rfl
        · exact h
        · exfalso
          have hlow := ancs_low ops.toList (fun k o hk e he hb => chk'_edge hc hk he hb) i i hi
          omega
      have hafter : ∀ k, listed.getD k false = true → j ∈ ((ancs ops.toList [])[k]?).getD [] → False := by
        intro k hk hjk
        have := ancs_ok (fun k => listed.getD k false = true) ops.toList hcl ops.toList [] [] rfl rfl (fun k i hi => by simp at hi) k j hjk hk
        rw [hjf] at this; cases this
      have hpl : ∀ t, (t ∈ (fp[j]'(by omega)).rd ∨ t ∈ (fp[j]'(by omega)).wr) → (∀ k, k < j → t ∈ wrs fp k → listed.getD k false = true) ∧ (∀ k, j < k → t ∈ wrs fp k → ¬ listed.getD k false = true) := by
        intro t ht
        refine ⟨fun k hk hd => ?_, fun k hk hd hl => ?_⟩
        · have hkl := wr_lt k t hd
          have hfk : fp[k]? = some (fp[k]'(by omega)) := List.getElem?_eq_getElem (by omega)
          simp only [wrs, hfk, Option.map_some, Option.getD_some] at hd
          refine hbefore k (chk'_conf hc hk (by omega) hfk hf ?_)
          unfold clash
          rcases ht with ht | ht
          · rw [meets_true hd ht]; simp
          · rw [meets_true (a := (fp[k]'(by omega)).wr) (b := (fp[j]'(by omega)).wr) hd ht]; simp
        · have hkl := wr_lt k t hd
          have hfk : fp[k]? = some (fp[k]'(by omega)) := List.getElem?_eq_getElem (by omega)
          simp only [wrs, hfk, Option.map_some, Option.getD_some] at hd
          refine hafter k hl (chk'_conf hc hk (by omega) hf hfk ?_)
          unfold clash
          rcases ht with ht | ht
          · rw [meets_true (a := (fp[k]'(by omega)).wr) (b := (fp[j]'(by omega)).rd) hd ht]; simp
          · rw [meets_true (a := (fp[j]'(by omega)).wr) (b := (fp[k]'(by omega)).wr) ht hd]; simp
      refine hLS.go (mixS fp X (fun i => listed.getD i false = true) ops.size) (fun t ht => ?_) (fun s hs l hl hnm => ?_) C hn hs a w R _ Q fun a' w' R' => ih (U.erase j) (listed.setIfInBounds j true) a' w' ?_ (by simp [hls]) ?_ ?_ ?_
      · have h1 := hpl t ht
        have := mixS_eq hF (fun i => listed.getD i false = true) t j h1.1 (fun k hk hd => by
            rcases Nat.lt_or_ge j k with h | h
            · exact h1.2 k h hd
            · have : k = j := by omega
              subst this; rw [hjf]; simp) ops.size (by omega)
        rw [show min ops.size j = j by omega] at this
        exact this
      · obtain ⟨k, hk1, hk2⟩ := mixS_some fp X (fun i => listed.getD i false = true) l ops.size
        rw [hk2] at hnm
        exact hk j _ hf s hs k hk1 l hl hnm
      · have := List.length_erase_of_mem (hun j hjs hjf)
        omega
      · intro i hi hv
        have hne : i ≠ j := by
          rintro rfl
          simp [hjlt] at hv
        have hv' : listed.getD i false = false := by rw [getD_set_ne false (Ne.symm hne)] at hv; exact hv
        exact (List.mem_erase_of_ne hne).2 (hun i hi hv')
      · intro k o hk hl e he hb
        by_cases hkj : k = j
        · subst hkj
          rw [ho] at hk; injection hk with hk; subst hk
          exact getD_set_true (hedge e he hb)
        · rw [getD_set_ne false (fun h => hkj h.symm)] at hl
          exact getD_set_true (hcl k o hk hl e he hb)
      · have eS : ∀ k, (listed.setIfInBounds j true).getD k false = true ↔ (listed.getD k false = true ∨ k = j) := by
          intro k
          by_cases hkj : k = j
          · subst hkj; simp [hjlt]
          · rw [getD_set_ne false (fun h => hkj h.symm)]; simp [hkj]
        have e3 : mixS fp X (fun i => (listed.setIfInBounds j true).getD i false = true) ops.size = over' (mixS fp X (fun i => listed.getD i false = true) ops.size) (X (j + 1)) (fp[j]'(by omega)).wr := by
          refine St.ext_at fun t => ?_
          rw [over_at]
          by_cases hd : t ∈ (fp[j]'(by omega)).wr
          · rw [if_pos hd]
            have h1 := hpl t (.inr hd)
            have := mixS_eq hF (fun i => (listed.setIfInBounds j true).getD i false = true) t (j + 1) (fun k hk hdk => by
              rw [eS]
              rcases Nat.lt_or_ge k j with h | h
              · exact .inl (h1.1 k h hdk)
              · exact .inr (by omega)) (fun k hk hdk => by
              rw [eS]
              rintro (h | h)
              · exact h1.2 k (by omega) hdk h
              · omega) ops.size (by omega)
            rw [this, show min ops.size (j + 1) = j + 1 by omega]
          · rw [if_neg hd]
            exact mixS_congr fp X _ _ t (fun k hdk => by
              rw [eS]
              constructor
              · rintro (h | rfl)
                · exact h
                · simp only [wrs, hf, Option.map_some, Option.getD_some] at hdk; exact absurd hdk hd
              · exact .inl) _
        rw [e3]
        exact R'
  refine key ops.size (List.range ops.size) _ a _ (by simp) (by simp) (fun i hi _ => by simpa using hi) (fun j o hj hl => ?_) ?_
  · exfalso
    have hjl : j < ops.size := by have := (List.getElem?_eq_some_iff.1 hj).1; omega
    simp [hjl] at hl
  · have e1 : mixS fp X (fun i => (Array.replicate ops.size false).getD i false = true) ops.size = X 0 := by
      refine St.ext_at fun l => ?_
      have := mixS_eq hF (fun i => (Array.replicate ops.size false).getD i false = true) l 0 (fun k hk => by omega) (fun k hk hd => by
        have hkl := wr_lt k l hd
        simp [hkl]) ops.size (by omega)
      rw [this, show min ops.size 0 = 0 by omega]
    rw [e1]
    obtain ⟨γ, R0⟩ := R
    exact ⟨γ, R0.drawn⟩


theorem drawX_any {P : Program} {n c0 : Nat} {ops : Array Oper} {hd : Hand} (H : HandOK P hd) {stay : Nat → Prop} {cF : CS} (hst : ∀ s, stay s → s < c0 ∧ s ∉ cF.mv) {c c' : CS} (h : drawX P n c0 ops hd c = some c')
    (h0 : c0 ≤ c.ctr) (hF : Goes c0 c' cF) {C : Ctx} (hn : C.nt = n) (hs : C.stay = stay) {a : Act} {w : World} (R : Rel C c.st a w) {Q : Exit → Act → World → Prop} (hQ : ∀ a' w', Rel C c'.st a' w' → Q .normal a' w') : wpAny P .any ops Q ops.size (Array.replicate ops.size false) a { w with drawn := w.drawn + 1 } := by
  unfold drawX at h
  split at h
  · rename_i cs fs hr
    split at h
    · rename_i hc
      simp only [Bool.and_eq_true] at hc
      obtain ⟨cl, hl, hg⟩ := runS_goes H _ _ _ _ hr
      rw [hl] at h; injection h with h; subst h
      obtain ⟨i1, i2, i3, i4⟩ := runS_ok H _ _ _ _ hr
      have hsz : ops.toList.length = ops.size := by simp
      have hgetL : cs[ops.size]? = some cl := by
        rw [List.getLast?_eq_getElem?, i1] at hl
        simpa using hl
      have hin : ∀ m, m ≤ ops.size → ∃ x, cs[m]? = some x ∧ x ∈ cs := fun m hm => ⟨cs[m]'(by omega), List.getElem?_eq_getElem _, List.getElem_mem _⟩
      have X0 : ((cs[0]?).getD c).st = c.st := by rw [i3]; rfl
      have XL : ((cs[ops.size]?).getD c).st = cl.st := by rw [hgetL]; rfl
      refine region_any' (fp := fs) (X := fun m => ((cs[m]?).getD c).st) (by omega) (fun j f hf => ?_) hc.1 (fun j f hf s hs m hm' l hl' => ?_) hn hs (by simpa only [X0] using R) (fun a' w' R' => hQ a' w' (by simpa only [XL] using R'))
      · have hj : j < ops.size := by have := (List.getElem?_eq_some_iff.1 hf).1; omega
        obtain ⟨x, hx, hxm⟩ := hin j (by omega)
        obtain ⟨y, hy, hym⟩ := hin (j + 1) (by omega)
        have ho : ops.toList[j]? = some ops[j] := by simp
        obtain ⟨b', hb, e⟩ := i4 j _ x y f ho hx hy hf
        simp only [hx, hy, Option.getD_some]
        have gy := (hg y hym).2.trans hF
        rw [e] at gy ⊢
        rw [acct_st]
        exact SQ.lq (hb.sq stay (fun s h => by have := (hst s h).1; have := (hg x hxm).1.ctr; omega) (hb.notStay hst gy)) (by simp)
      · obtain ⟨x, hx, hxm⟩ := hin m hm'
        simp only [hx, Option.getD_some]
        exact kchk_ok hc.2 (List.mem_of_getElem? hf) hs hxm l hl'
    · cases h
  · cases h


/- a region whose first k operations come in whatever order, then two more -/
def bools : Nat → List (List Bool)
  | 0 => [[]]
  | k + 1 => (bools k).flatMap fun l => [false :: l, true :: l]
theorem mem_bools : ∀ (l : List Bool), l ∈ bools l.length
  | [] => by simp [bools]
  | b :: l => by
    simp only [List.length_cons, bools, List.mem_flatMap]
    refine ⟨l, mem_bools l, ?_⟩
    cases b <;> simp
def levelsR (ops : Array Oper) : Nat → List (List Bool) → List (List Bool)
  | 0, S => S
  | n + 1, S => S ++ levelsR ops n ((S.flatMap fun l => (Region.ready .any ops l.toArray).map fun i => l.set i true).eraseDups)
def simOK (ops : Array Oper) (k : Nat) (S : List (List Bool)) : Bool := S.contains (List.replicate k false) && S.all fun l =>
  let r := Region.ready .any (ops.extract 0 k) l.toArray
  decide (l.length = k) && (if r.isEmpty then l.all (fun b => b) else decide (Region.ready .any ops (l ++ [false, false]).toArray = r) && r.all (fun i => decide (i < k) && S.contains (l.set i true)))

theorem prefix_sim {P : Program} {n k : Nat} {ops : Array Oper} {S : List (List Bool)} {Q Q6 : Exit → Act → World → Prop} (hsz : ops.size = k + 2) (hs : simOK ops k S = true) (hg : ∀ o ∈ ops.toList, o.guard = none) (hd : ∀ o ∈ ops.toList, ∀ c, o.op ≠ .defer c)
    (hQ6 : ∀ e a w, e ≠ .normal → ¬ Q6 e a w)
    (hQ : ∀ a w, Q6 .normal a w → ∀ f, wpAnyIn (wideAt none) n P .any ops Q (f + 2) (List.replicate k true ++ [false, false]).toArray a w) :
    ∀ (fuel : Nat) (l : List Bool) (a : Act) (w : World), l ∈ S → wpAny P .any (ops.extract 0 k) Q6 fuel l.toArray a w → wpAnyIn (wideAt none) n P .any ops Q (fuel + 2) (l ++ [false, false]).toArray a w := by
  have hsim : ∀ l : List Bool, l ∈ S → l.length = k ∧ (Region.ready .any (ops.extract 0 k) l.toArray = [] → l = List.replicate k true) ∧ (Region.ready .any (ops.extract 0 k) l.toArray ≠ [] → Region.ready .any ops (l ++ [false, false]).toArray = Region.ready .any (ops.extract 0 k) l.toArray ∧ ∀ i ∈ Region.ready .any (ops.extract 0 k) l.toArray, i < k ∧ l.set i true ∈ S) := by
    intro l hl
    unfold simOK at hs
    rw [Bool.and_eq_true] at hs
    have h1 := List.all_eq_true.1 hs.2 l hl
    simp only [Bool.and_eq_true, decide_eq_true_eq] at h1
    obtain ⟨h0, h1⟩ := h1
    refine ⟨h0, ?_⟩
    split at h1
    · rename_i he
      rw [List.isEmpty_iff] at he
      refine ⟨fun _ => ?_, fun h => absurd he h⟩
      rw [← h0]
      apply List.eq_replicate_of_mem
      intro b hb
      simpa using List.all_eq_true.1 h1 b hb
    · rename_i he
      rw [List.isEmpty_iff] at he
      simp only [Bool.and_eq_true, decide_eq_true_eq, List.all_eq_true, List.contains_iff_mem] at h1
      exact ⟨fun h => absurd h he, fun _ => h1⟩
  intro fuel
  induction fuel with
  | zero =>
    intro l a w hl h
    obtain ⟨h1, h2⟩ := h
    rw [(hsim l hl).2.1 h1]
    exact hQ a w h2 0
  | succ fuel ih =>
    intro l a w hl h
    obtain ⟨h1, h2⟩ := h
    by_cases he : Region.ready .any (ops.extract 0 k) l.toArray = []
    · rw [(hsim l hl).2.1 he]
      exact hQ a w (h1 he) (fuel + 1)
    · obtain ⟨hlen, _, hnx⟩ := hsim l hl
      obtain ⟨e1, e2⟩ := hnx he
      show wpAnyIn (wideAt none) n P .any ops Q ((fuel + 2) + 1) (l ++ [false, false]).toArray a w
      refine ⟨fun h => absurd (e1 ▸ h) he, fun i hi => ?_⟩
      rw [e1] at hi
      have hik := (e2 i hi).1
      have h3 := h2 i hi
      have ho : ops[i]? = some (ops[i]'(by omega)) := Array.getElem?_eq_getElem _
      have ho6 : (ops.extract 0 k)[i]? = some (ops[i]'(by omega)) := by
        rw [Array.getElem?_extract_of_lt (by omega)]
        simp
      have hmem : ops[i]'(by omega) ∈ ops.toList := by simp
      unfold wpOp at h3
      unfold wpOpIn
      simp only [ho6] at h3
      simp only [ho]
      have hw : ∀ y, Region.wanted (ops[i]'(by omega)) y = true := fun y => by simp [Region.wanted, hg _ hmem]
      rw [if_pos (hw _)] at h3
      rw [if_pos (hw _)]
      have hset : (l ++ [false, false]).toArray.setIfInBounds i true = (l.set i true ++ [false, false]).toArray := by
        apply Array.ext'
        simp [List.set_append, hlen, hik]
      have hset6 : l.toArray.setIfInBounds i true = (l.set i true).toArray := by simp
      have hlet : ¬ LetsOut Q6 := fun ⟨a, w, h⟩ => hQ6 _ a w (by simp) h
      rcases h3 with h3 | ⟨_, h3⟩
      · have h4 := wpIn_of_wp (ro := none) (n := n) (hd _ hmem) h3
        -- the panics and the way out are none
        have h5 : (ops[i]'(by omega)).wpIn (wideAt none) n P a w (wpAny P .any (ops.extract 0 k) Q6 fuel (l.toArray.setIfInBounds i true)) Q := by
          refine ⟨h4.1, ?_⟩
          have h6 := h4.2
          generalize ((ops[i]'(by omega)).semAt (wideAt none).round a.eval).run P w = r at h6
          cases r with
          | ok x w' =>
            cases x <;> simp only [Oper.uponIn] at h6 ⊢ <;> try exact h6
            · exact ⟨h6.1, CallsIn.mono h6.2 fun e w2 he => by
                cases e with
                | returned v => exact he
                | panicked c => exact absurd he (hQ6 _ _ _ (by simp))
                | outgrown => exact absurd he hlet⟩
            · exact ⟨h6.1, RoundIn.mono h6.2 fun e w2 he => by
                cases e with
                | returned v => exact he
                | panicked c => exact absurd he (hQ6 _ _ _ (by simp))
                | outgrown => exact absurd he hlet⟩
          | halt x w' =>
            cases x <;> simp only [Oper.uponIn] at h6 ⊢ <;> first | exact h6 | exact absurd h6 (hQ6 _ _ _ (by simp))
        refine Oper.wpIn_mono (fun a w h => ?_) h5
        rw [hset]
        rw [hset6] at h
        exact ih (l.set i true) a w (e2 i hi).2 h
      · exact absurd h3 hlet
end Go.Ab
end

section
set_option maxRecDepth 100000
namespace Go.Proofs.YtfbmhjooliccnaaGreatDoor.Kw
open Go Go.Ab Go.RowKit

/-- The names of the temporaries lie below a number. -/
def nmBel (c : CS) (n : Nat) : Bool := (c.env.list id).all fun p => p.2.labs.all fun s => decide (s < n)
theorem nmBel_ok {c : CS} {n : Nat} (h : nmBel c n = true) {i s : Nat} (hs : (c.st.env i).names s) : s < n := by
  have hs' : (envOf c.env i).names s := hs
  unfold envOf at hs'
  cases hv : c.env.get i with
  | none => rw [hv] at hs'; exact hs'.elim
  | some x =>
    rw [hv] at hs'
    have hx : x.names s := hs'
    have h1 := List.all_eq_true.1 h _ (Tr.mem_list c.env id i x hv)
    have h2 := List.all_eq_true.1 h1 s (T.labs_ok hx)
    simpa using h2
theorem noDef {l : List Oper} (h : (l.all fun o => match o.op with | .defer _ => false | _ => true) = true) : ∀ o ∈ l, ∀ c, o.op ≠ .defer c := fun o ho c e => by
  have := List.all_eq_true.1 h o ho
  rw [e] at this
  simp at this

/-- The record of the loop. -/
def recL (asO bdO : Array Oper) (fnR : FuncId) (ta : Array Value) (D : Nat) : Loop := { state := .ready, pending := Option.none, fn := fnR, tmps := ta, params := #[9, 10], assign := .region 3 asO false, body := .block 1 (.region 4 bdO false), defers := D }

theorem not_cells_loop (r : Loop) : ∀ cells t x, (Obj.loop r) ≠ .cells cells t x := fun _ _ _ h => by cases h
theorem not_cells_def (r : Option (List Deferred)) : ∀ cells t x, (Obj.deferred r) ≠ .cells cells t x := fun _ _ _ h => by cases h

theorem set_getD (t : Array Value) (j : Nat) (v : Value) (hj : j < t.size) (i : Nat) : (t.setIfInBounds j v).getD i undef = if i = j then v else t.getD i undef := by
  simp only [Array.getD_eq_getD_getElem?, Array.getElem?_setIfInBounds]
  by_cases h : j = i
  · subst h; simp [hj]
  · rw [if_neg h, if_neg (fun e => h e.symm)]

section
variable {P : Program} {hd : Hand} {S1 Q4 M0 M1 M2 : CS} {asO bdO : Array Oper} {ct1 ct4 : Nat}

theorem zip_fold (ta : Array Value) (x y : Value) : (((#[9, 10] : Array Tmp).zip #[x, y]).foldl (fun t (p : Tmp × Value) => t.setIfInBounds p.1 p.2) ta) = (ta.setIfInBounds 9 x).setIfInBounds 10 y := by
  rw [← Array.foldl_toList, Array.toList_zip]
  rfl

theorem round_ok (hH : HandOK P hd) (nm_s1 : nmBel S1 ct1 = true) (nm_q4 : nmBel Q4 ct4 = true) (e1 : M0.st.env = upd (upd S1.st.env 9 (Q4.st.env 13)) 10 (Q4.st.env 16)) (e2 : M0.st.heap = Q4.st.heap) (e3 : ct4 ≤ M0.ctr)
    (m1_ok : runY P 15 ct4 asO hd asO.toList M0 = some M1) (m2_ok : runY P 15 ct4 bdO hd bdO.toList M1 = some M2) (mv_m2 : M2.mv = []) (dfA : (asO.toList.all fun o => match o.op with | .defer _ => false | _ => true) = true) (dfB : (bdO.toList.all fun o => match o.op with | .defer _ => false | _ => true) = true) (ct_le4 : ct1 ≤ ct4)
    {n l : Nat} {fnR : FuncId} {D : Nat} {M : Nat → Prop} {γ2 γ : G} {w2 w : World} {ta : Array Value} {a : Act}
    (hM : M l) (hta : ta.size = 15) (hnm2 : ∀ s b, γ2 s = some (some b) → ¬ M b)
    (E : ∀ i, TRel w2 M γ2 (S1.st.env i) (ta.getD i undef)) (hl : w2.heap[l]? = some (.loop (recL asO bdO fnR ta D)))
    (R : RelAt (Ctx.here M γ2 w2 (fun s => s < ct1) 20) γ Q4.st a w) :
    w.heap[l]? = some (.loop (recL asO bdO fnR ta D)) ∧
    RoundIn Fence.wide n P l fnR (((#[9, 10] : Array Tmp).zip #[a.eval (.tmp 13), a.eval (.tmp 16)]).foldl (fun t (p : Tmp × Value) => t.setIfInBounds p.1 p.2) ta) (.region 3 asO false) (.block 1 (.region 4 bdO false)) w
      (fun e w' => e = .returned (.bool true) ∧ ∃ γ', RelAt (Ctx.here M γ2 w2 (fun s => s < ct1) 20) γ' ⟨Q4.st.env, M2.st.heap⟩ a w') := by
  have notIn : ∀ {γ : G} {H : Heap} {w : World}, Mem M γ H w → ¬ ∃ s, γ s = some (some l) := fun hm ⟨s, h⟩ => hm.nm s l h hM
  have hlw : w.heap[l]? = some (.loop (recL asO bdO fnR ta D)) := (R.keep.same l (lt_of_heap hl) (fun ⟨s, h⟩ => hnm2 s l h hM)).trans hl
  refine ⟨hlw, ?_⟩
  have hc : Carry M γ2 γ w2 w := ⟨R.keep.size, fun b hb => R.keep.same b hb.1 (fun ⟨s, h⟩ => hb.2.2 s h), fun b hb s h => by
    rcases R.own s b h with ⟨t, ht⟩ | h2
    · exact hb.2.2 t ht
    · have := hb.1; have h3 : w2.heap.size ≤ b := h2; omega, R.keep.shape⟩
  have E' : ∀ i, TRel w M γ (S1.st.env i) (ta.getD i undef) := fun i => (E i).carry hc fun s hs => R.stay s (nmBel_ok nm_s1 hs)
  obtain ⟨ar, har⟩ : ∃ ar : Act, ar = { tmps := (((#[9, 10] : Array Tmp).zip #[a.eval (.tmp 13), a.eval (.tmp 16)]).foldl (fun t (p : Tmp × Value) => t.setIfInBounds p.1 p.2) ta), defers := [] } := ⟨_, rfl⟩
  have htm : ar.tmps = (ta.setIfInBounds 9 (a.eval (.tmp 13))).setIfInBounds 10 (a.eval (.tmp 16)) := by rw [har]; exact zip_fold _ _ _
  have hsz : ar.tmps.size = 15 := by rw [htm]; simp [hta]
  have henv : ∀ i, TRel w M γ (M0.st.env i) (ar.tmps.getD i undef) := by
    intro i
    rw [e1, htm, set_getD _ _ _ (by simp [hta]), set_getD _ _ _ (by omega)]
    simp only [upd]
    split
    · exact R.env 16
    · split
      · exact R.env 13
      · exact E' i
  have R4 : RelAt (Ctx.here M γ w (fun s => s < ct4) ar.tmps.size) γ M0.st ar w := by
    have := RelAt.here (H := Q4.st.heap) R.mem henv (by rw [har]) (fun s => s < ct4)
    rw [← e2] at this
    exact this
  have gm2 := runY_goes hH _ _ _ m2_ok
  have gm1 := runY_goes hH _ _ _ m1_ok
  have mv1 : ∀ s, s ∉ M1.mv := fun s hs => by have := gm2.mv s hs; rw [mv_m2] at this; simp at this
  have mv2 : ∀ s, s ∉ M2.mv := fun s hs => by rw [mv_m2] at hs; simp at hs
  refine roundIn_of_wpIn (F := Fence.wide) trivial ?_
  rw [← har]
  have step1 := wpIn_region_list (F := wideAt (some l)) (n := n) (id := 3) (ops := asO) (Q := fun e a' w' => e = .normal ∧ Rel (Ctx.here M γ w (fun s => s < ct4) ar.tmps.size) M1.st a' w')
    (wpListIn_of (by rintro ⟨_, _, h, _⟩; cases h) asO.toList ar w (noDef dfA)
      (ops_at hH m1_ok hsz (fun s hs => ⟨hs, mv1 s⟩) e3 ⟨γ, R4⟩ (fun a' w' R' => ⟨rfl, R'⟩)))
  refine wpIn_mono (F := wideAt (some l)) step1 ?_
  rintro e a1 wA ⟨rfl, γA, RA⟩
  have hlA : wA.heap[l]? = some (.loop (recL asO bdO fnR ta D)) := (RA.keep.same l (lt_of_heap hlw) (notIn R.mem)).trans hlw
  refine ⟨wA.putObj l (.loop { recL asO bdO fnR ta D with state := .busy }), run_beginRound hlA rfl, ?_⟩
  have cp := carry_put (M := M) (γ := γA) (w := wA) (new := .loop { recL asO bdO fnR ta D with state := .busy }) hM hlA (not_cells_loop _)
  have RB : RelAt (Ctx.here M γA (wA.putObj l (.loop { recL asO bdO fnR ta D with state := .busy })) (fun s => s < ct4) a1.tmps.size) γA M1.st a1 (wA.putObj l (.loop { recL asO bdO fnR ta D with state := .busy })) :=
    RelAt.here (H := M1.st.heap) (RA.mem.carryM cp (fun s b hs => World.putObj_heap_other (fun e => notIn RA.mem ⟨s, e ▸ hs⟩)) (fun b hb => by have := RA.mem.low b hb; simpa using this) RA.mem.nm) (fun i => (RA.env i).carryM cp fun _ _ => rfl) RA.defers _
  have hsz1 : a1.tmps.size = 15 := RA.size.trans hsz
  have hlB : (wA.putObj l (.loop { recL asO bdO fnR ta D with state := .busy })).heap[l]? = some (.loop { recL asO bdO fnR ta D with state := .busy }) := World.putObj_heap_same (lt_of_heap hlA)
  have step2 := wpIn_region_list (F := wideAt (some l)) (n := n) (id := 4) (ops := bdO) (Q := fun e a' w' => e = .normal ∧ Rel (Ctx.here M γA (wA.putObj l (.loop { recL asO bdO fnR ta D with state := .busy })) (fun s => s < ct4) a1.tmps.size) M2.st a' w')
    (wpListIn_of (by rintro ⟨_, _, h, _⟩; cases h) bdO.toList a1 _ (noDef dfB)
      (ops_at hH m2_ok hsz1 (fun s hs => ⟨hs, mv2 s⟩) (Nat.le_trans e3 gm1.ctr) ⟨γA, RB⟩ (fun a' w' R' => ⟨rfl, R'⟩)))
  refine wpIn_block (F := wideAt (some l)) (wpIn_mono (F := wideAt (some l)) step2 ?_)
  rintro e a2 wC ⟨rfl, γC, RC⟩
  have hlC : wC.heap[l]? = some (.loop { recL asO bdO fnR ta D with state := .busy }) := (RC.keep.same l (lt_of_heap hlB) (notIn RB.mem)).trans hlB
  have hend := run_endRound (P := P) Option.none hlC
  refine ⟨.bool true, wC.putObj l (.loop (recL asO bdO fnR ta D)), hend, rfl, γC, ?_⟩
  have cp2 := carry_put (M := M) (γ := γC) (w := wC) (new := .loop (recL asO bdO fnR ta D)) hM hlC (not_cells_loop _)
  have sizeB : (wA.putObj l (.loop { recL asO bdO fnR ta D with state := .busy })).heap.size = wA.heap.size := by simp
  have k1 : w.heap.size ≤ wA.heap.size := RA.keep.size
  have k2 : wA.heap.size ≤ wC.heap.size := by have := RC.keep.size; have h3 : (wA.putObj l (.loop { recL asO bdO fnR ta D with state := .busy })).heap.size ≤ wC.heap.size := this; omega
  refine RelAt.back (env := Q4.st.env) (H := Q4.st.heap) R (RC.mem.carryM cp2 (fun s b hs => World.putObj_heap_other (fun e => notIn RC.mem ⟨s, e ▸ hs⟩)) (fun b hb => by have := RC.mem.low b hb; simpa using this) RC.mem.nm) ?_ ?_ ?_
  · refine ⟨RC.keep.os.trans RA.keep.os, RC.keep.tape.trans RA.keep.tape, RC.keep.output.trans RA.keep.output, Nat.le_trans RA.keep.drawn RC.keep.drawn, by simp; omega, fun b hb hn => ?_, fun b cells t hb => ?_⟩
    · by_cases e : b = l
      · subst e
        exact (World.putObj_heap_same (lt_of_heap hlC)).trans hlw.symm
      · refine (World.putObj_heap_other e).trans ((RC.keep.same b (by show b < _; rw [show (Ctx.here M γA (wA.putObj l (.loop { recL asO bdO fnR ta D with state := .busy })) (fun s => s < ct4) a1.tmps.size).w0.heap.size = wA.heap.size from sizeB]; omega) ?_).trans ((World.putObj_heap_other e).trans (RA.keep.same b hb hn)))
        rintro ⟨s, hs⟩
        rcases RA.own s b hs with h | h
        · exact hn h
        · have h3 : w.heap.size ≤ b := h; omega
    · obtain ⟨c1, h1, z1⟩ := RA.keep.shape b cells t hb
      have e : b ≠ l := fun e => by subst e; rw [hlA] at h1; cases h1
      obtain ⟨c2, h2, z2⟩ := RC.keep.shape b c1 t ((World.putObj_heap_other e).trans h1)
      exact ⟨c2, (World.putObj_heap_other e).trans h2, z2.trans z1⟩
  · intro s b hs
    rcases RC.own s b hs with ⟨t, ht⟩ | h
    · rcases RA.own t b ht with h | h
      · exact .inl h
      · exact .inr h
    · have h3 : (wA.putObj l (.loop { recL asO bdO fnR ta D with state := .busy })).heap.size ≤ b := h
      exact .inr (by omega)
  · intro s hs
    have hlt : s < ct4 := by
      rcases hs with ⟨i, hi⟩ | h
      · exact nmBel_ok nm_q4 hi
      · have h3 : s < ct1 := h
        omega
    exact (RC.stay s hlt).trans (RA.stay s hlt)

theorem wpIn_postQ {F : Fence} {n : Nat} {o : Oper} {a : Act} {w : World} {K : Act → World → Prop} {Q Q' : Exit → Act → World → Prop} (hQ : ∀ e a w, e ≠ .normal → ¬ Q' e a w) (h : o.wpIn F n P a w K Q') : o.wpIn F n P a w K Q := by
  refine ⟨h.1, ?_⟩
  have h6 := h.2
  have hlet : ¬ LetsOut Q' := fun ⟨a, w, h⟩ => hQ _ a w (by simp) h
  generalize (o.semAt F.round a.eval).run P w = r at h6
  cases r with
  | ok x w' =>
    cases x <;> simp only [Oper.uponIn] at h6 ⊢ <;> try exact h6
    · exact ⟨h6.1, CallsIn.mono h6.2 fun e w2 he => by
        cases e with
        | returned v => exact he
        | panicked c => exact absurd he (hQ _ _ _ (by simp))
        | outgrown => exact absurd he hlet⟩
    · exact ⟨h6.1, RoundIn.mono h6.2 fun e w2 he => by
        cases e with
        | returned v => exact he
        | panicked c => exact absurd he (hQ _ _ _ (by simp))
        | outgrown => exact absurd he hlet⟩
  | halt x w' =>
    cases x <;> simp only [Oper.uponIn] at h6 ⊢ <;> first | exact h6 | exact absurd h6 (hQ _ _ _ (by simp))
theorem op_in {n i : Nat} {ops : Array Oper} {o : Oper} {a : Act} {w : World} {K : Act → World → Prop} {Q : Exit → Act → World → Prop} (hd : ∀ c, o.op ≠ .defer c) (hg : o.guard = Option.none) (ho : ops[i]? = some o)
    (h : wpList P ops (fun e a w => e = .normal ∧ K a w) [o] a w) : wpOpIn (wideAt Option.none) n P ops Q i K a w := by
  unfold wpOpIn
  simp only [ho]
  simp only [wpList] at h
  have hw : ∀ y, Region.wanted o y = true := fun y => by simp [Region.wanted, hg]
  rw [if_pos (hw _)] at h
  rw [if_pos (hw _)]
  rcases h with h | ⟨_, _, _, h, _⟩
  · exact wpIn_postQ (Q' := fun e a w => e = .normal ∧ K a w) (fun e a w he h => he h.1) (wpIn_of_wp hd (wpOper_mono (fun a w h => h.2) h))
  · cases h

theorem init_env {w : World} {M : Nat → Prop} {γ : G} {args : List E} {vals : List Value} (h : EsRel w M γ args vals) (k : Nat) (i : Nat) : TRel w M γ (argEnv args i) ((vals.toArray ++ Array.replicate k undef).getD i undef) := by
  rw [argEnv_get]
  cases hx : args[i]? with
  | none => trivial
  | some x =>
    have hvl : vals.length = args.length := h.1.symm
    have hi : i < args.length := (List.getElem?_eq_some_iff.1 hx).1
    have hv : vals[i]? = some (vals[i]'(by omega)) := List.getElem?_eq_getElem (by omega)
    have : ((vals.toArray ++ Array.replicate k undef).getD i undef) = vals[i]'(by omega) := by
      have hi2 : i < vals.length := by omega
      simp [Array.getElem?_append, hi2]
    rw [this]
    exact h.2 i x _ hx hv

def mu7 (v : Value) : Nat := match v with | .int _ i => if i = 0 then 1 else 0 | _ => 0

/-- The iterator, called once. -/
theorem iter_ok (hH : HandOK P hd) (mix : P.follows .mixedOrders = true) (nm_s1 : nmBel S1 ct1 = true) (nm_q4 : nmBel Q4 ct4 = true) (e1 : M0.st.env = upd (upd S1.st.env 9 (Q4.st.env 13)) 10 (Q4.st.env 16)) (e2 : M0.st.heap = Q4.st.heap) (e3 : ct4 ≤ M0.ctr)
    (m1_ok : runY P 15 ct4 asO hd asO.toList M0 = some M1) (m2_ok : runY P 15 ct4 bdO hd bdO.toList M1 = some M2) (mv_m2 : M2.mv = []) (dfA : (asO.toList.all fun o => match o.op with | .defer _ => false | _ => true) = true) (dfB : (bdO.toList.all fun o => match o.op with | .defer _ => false | _ => true) = true) (ct_le4 : ct1 ≤ ct4)
    {f : FuncId} {fn : Func} (hf : P.funcs[f]? = some fn) {j0 j1 j1c j2 j3c j4 : Code} {j3O : Array Oper} {lf : Nat} (hb : fn.body = some (.seq j0 (.block 0 (.loop (.seq j1 (.seq j1c (.seq (.block 1 (.seq j2 (.seq (.region 3 j3O true) j3c))) j4))))))) (hnt : fn.ntmps = 20) (hres : fn.results.toList = [])
    {l LL : Nat} {Q0 Q1 Qa Q2 Q5 Q6 Q7 Q8 : CS} (eq0 : Q0.st = ⟨argEnv [.c (.d (.sc (.func (.yield l) #[] #[]))), .c (.ptr LL 0)], S1.st.heap⟩) (c0 : ct1 ≤ Q0.ctr)
    (x1 : execC P 20 ct1 hd lf j0 Q0 = some (.nrm, Q1)) (xa : execC P 20 ct1 hd lf j1 Q1 = some (.nrm, Qa)) (xb : execC P 20 ct1 hd lf j1c Qa = some (.nrm, Qa)) (x2 : execC P 20 ct1 hd lf j2 Qa = some (.nrm, Q2))
    (x4 : drawX P 20 ct1 (j3O.extract 0 6) hd (frzS ct1 Q2) = some Q4) (e11 : Q4.st.env 11 = .e (.c (.d (.sc (.func (.yield l) #[] #[])))))
    (e5 : Q5.st = ⟨upd Q4.st.env 17 (.e (.c (.d (.sc (.bool true))))), M2.st.heap⟩) (c5 : ct1 ≤ Q5.ctr) {o6 o7 : Oper} (ho6 : j3O[6]? = some o6) (ho7 : j3O[7]? = some o7) (hop6 : ∃ ts, o6.op = .call { callee := .value (.tmp 11), args := #[.tmp 13, .tmp 16], argTypes := ts }) (hdst6 : o6.dst = some 17)
    (x6 : runY P 20 ct1 j3O hd [o7] Q5 = some Q6) (x6c : execC P 20 ct1 hd lf j3c Q6 = some (.nrm, Q6)) (x7 : execC P 20 ct1 hd lf j4 Q6 = some (.nrm, Q7)) (x8 : execC P 20 ct1 hd lf j1 Q7 = some (.nrm, Q8)) (x8c : execC P 20 ct1 hd lf j1c Q8 = some (.ext 0, Q8))
    (e17 : Q1.st.env 7 = .e (.c (.d (.sc (.int .i64 0))))) (e77 : Q7.st.env 7 = .e (.c (.d (.sc (.int .i64 1))))) (mvs : Q1.mv = [] ∧ Qa.mv = [] ∧ Q2.mv = [] ∧ Q4.mv = [] ∧ Q6.mv = [] ∧ Q7.mv = [] ∧ Q8.mv = []) (cts : ct1 ≤ Q1.ctr ∧ ct1 ≤ Qa.ctr ∧ ct1 ≤ Q2.ctr ∧ ct1 ≤ Q6.ctr ∧ ct1 ≤ Q7.ctr ∧ ct1 ≤ Q8.ctr)
    {S3 : List (List Bool)} (sim3 : simOK j3O 6 S3 = true) (sz3 : j3O.size = 8) (df3 : (j3O.toList.all fun o => match o.op with | .defer _ => false | _ => true) = true) (g3 : (j3O.toList.all fun o => o.guard.isNone) = true) (ch7 : Region.ready .any j3O #[true, true, true, true, true, true, false, false] = [6]) (ch8 : Region.ready .any j3O #[true, true, true, true, true, true, true, false] = [7]) (ch9 : Region.ready .any j3O #[true, true, true, true, true, true, true, true] = [])
    {n : Nat} {fnR : FuncId} {D : Nat} {M : Nat → Prop} {γ2 : G} {w2 : World} {ta : Array Value} (hM : M l) (hta : ta.size = 15) (hm2 : Mem M γ2 S1.st.heap w2)
    (E : ∀ i, TRel w2 M γ2 (S1.st.env i) (ta.getD i undef)) (hl : w2.heap[l]? = some (.loop (recL asO bdO fnR ta D))) {pv : Value} (hpv : PRel γ2 LL 0 pv) :
    CallsIn Fence.wide n P f #[.func (.yield l) #[] #[], pv] w2 (fun e w' => ∃ v γ', e = .returned v ∧ Mem M γ' Q8.st.heap w' ∧ Keep (fun b => ∃ s, γ2 s = some (some b)) w2 w' ∧ (∀ s b, γ' s = some (some b) → (∃ t, γ2 t = some (some b)) ∨ w2.heap.size ≤ b) ∧ ∀ s, s < ct1 → γ' s = γ2 s) := by
  obtain ⟨mq1, mqa, mq2, mq4, mq6, mq7, mq8⟩ := mvs
  obtain ⟨cq1, cqa, cq2, cq6, cq7, cq8⟩ := cts
  have C3n : ∀ {c : CS}, c.mv = [] → ∀ s, (Ctx.here M γ2 w2 (fun s => s < ct1) 20).stay s → s < ct1 ∧ s ∉ c.mv := fun h s hs => ⟨hs, by rw [h]; simp⟩
  refine callsIn_of_wp (F := Fence.wide) hf hb trivial ?_
  have hes : EsRel w2 M γ2 [.c (.d (.sc (.func (.yield l) #[] #[]))), .c (.ptr LL 0)] [.func (.yield l) #[] #[], pv] := by
    refine ⟨rfl, fun i x u hx hu => ?_⟩
    match i, hx, hu with
    | 0, hx, hu => simp at hx hu; subst hx; subst hu; exact DRel.sc _ rfl
    | 1, hx, hu => simp at hx hu; subst hx; subst hu; exact hpv
    | i + 2, hx, hu => simp at hx
  have R0 : Rel (Ctx.here M γ2 w2 (fun s => s < ct1) 20) Q0.st { tmps := #[.func (.yield l) #[] #[], pv] ++ Array.replicate (fn.ntmps - (#[.func (.yield l) #[] #[], pv] : Array Value).size) undef, defers := [] } w2 := by
    have := RelAt.here (env := argEnv [.c (.d (.sc (.func (.yield l) #[] #[]))), .c (.ptr LL 0)]) (a := { tmps := #[.func (.yield l) #[] #[], pv] ++ Array.replicate (fn.ntmps - (#[.func (.yield l) #[] #[], pv] : Array Value).size) undef, defers := [] }) hm2 (init_env hes _) rfl (fun s => s < ct1)
    rw [eq0]
    refine ⟨γ2, ?_⟩
    have e : (#[.func (.yield l) #[] #[], pv] ++ Array.replicate (fn.ntmps - (#[.func (.yield l) #[] #[], pv] : Array Value).size) undef).size = 20 := by rw [hnt]; simp
    rw [← e]
    exact this
  refine wpIn_seq (wpIn_wide.2 (exec_at mix hH x1 rfl (C3n mq1) c0 R0 fun a1 w1 R1 => ?_))
  refine wpIn_block ?_
  refine wpIn_loop (fun a w => Rel (Ctx.here M γ2 w2 (fun s => s < ct1) 20) Q1.st a w ∨ Rel (Ctx.here M γ2 w2 (fun s => s < ct1) 20) Q7.st a w) (fun a _ => mu7 (a.tmps.getD 7 undef)) (.inl R1) ?_
  rintro a w (R | R)
  · have hmu : mu7 (a.tmps.getD 7 undef) = 1 := by
      obtain ⟨γ, R⟩ := R
      have := R.env 7
      rw [e17] at this
      rw [sc_inv this]; rfl
    refine wpIn_seq (wpIn_wide.2 (exec_at mix hH xa rfl (C3n mqa) cq1 R fun a2 w2' R2 => ?_))
    refine wpIn_seq (wpIn_wide.2 (exec_at mix hH xb rfl (C3n mqa) cqa R2 fun a3 w3 R3 => ?_))
    refine wpIn_seq (wpIn_block (wpIn_seq (wpIn_wide.2 (exec_at mix hH x2 rfl (C3n mq2) cqa R3 fun a4 w4 R4 => ?_))))
    have R4' : Rel (Ctx.here M γ2 w2 (fun s => s < ct1) 20) (frzS ct1 Q2).st a4 w4 := (frzB_ok (c0 := ct1) _ Q2).2 20 (fun s => s < ct1) (fun s h => h) _ rfl rfl a4 w4 R4
    have cfz : ct1 ≤ (frzS ct1 Q2).ctr := Nat.le_trans cq2 (frzB_ok (c0 := ct1) _ Q2).1.ctr
    refine wpIn_seq ?_
    have hany := drawX_any hH (stay := fun s => s < ct1) (cF := Q4) (fun s hs => ⟨hs, by rw [mq4]; simp⟩) x4 cfz (.refl _ _) (C := Ctx.here M γ2 w2 (fun s => s < ct1) 20) rfl rfl R4' (Q := fun e a w => e = .normal ∧ Rel (Ctx.here M γ2 w2 (fun s => s < ct1) 20) Q4.st a w) (fun a' w' R' => ⟨rfl, R'⟩)
    have hsz6 : (j3O.extract 0 6).size = 6 := by simp [sz3]
    rw [hsz6] at hany
    refine wpIn_region_any (F := Fence.wide) mix ?_
    rw [sz3]
    have hin0 : List.replicate 6 false ∈ S3 := by
      unfold simOK at sim3
      rw [Bool.and_eq_true] at sim3
      simpa using sim3.1
    refine prefix_sim (n := n) (S := S3) (Q6 := fun e a w => e = .normal ∧ Rel (Ctx.here M γ2 w2 (fun s => s < ct1) 20) Q4.st a w) sz3 sim3 (fun o ho => by simpa using List.all_eq_true.1 g3 o ho) (noDef df3) (fun e a w he h => he h.1) ?_ 6 (List.replicate 6 false) a4 _ hin0 hany
    rintro a5 w5 ⟨_, γ5, R5⟩ f6
    show wpAnyIn (wideAt Option.none) n P .any j3O _ (f6 + 1 + 1) #[true, true, true, true, true, true, false, false] a5 w5
    refine ⟨(fun h => by rw [ch7] at h; cases h), fun i hi => ?_⟩
    rw [ch7] at hi
    simp only [List.mem_singleton] at hi
    subst hi
    obtain ⟨ts, hop⟩ := hop6
    have hv : a5.eval (.tmp 11) = .func (.yield l) #[] #[] := by
      have h := R5.env 11
      rw [e11] at h
      exact sc_inv h
    obtain ⟨hlw, hround⟩ := round_ok (n := n - 1) hH nm_s1 nm_q4 e1 e2 e3 m1_ok m2_ok mv_m2 dfA dfB ct_le4 hM hta hm2.nm E hl R5
    have hmem6 : o6 ∈ j3O.toList := by simpa using Array.mem_of_getElem? ho6
    have hmem7 : o7 ∈ j3O.toList := by simpa using Array.mem_of_getElem? ho7
    unfold wpOpIn
    simp only [ho6]
    have hg6 : o6.guard = Option.none := by simpa using List.all_eq_true.1 g3 o6 hmem6
    have hg7 : o7.guard = Option.none := by simpa using List.all_eq_true.1 g3 o7 hmem7
    rw [if_pos (by simp [Region.wanted, hg6])]
    refine ⟨fun _ _ => trivial, ?_⟩
    have hrun : (o6.semAt (wideAt Option.none).round a5.eval).run P w5 = .ok (.round l fnR (((#[9, 10] : Array Tmp).zip #[a5.eval (.tmp 13), a5.eval (.tmp 16)]).foldl (fun t (p : Tmp × Value) => t.setIfInBounds p.1 p.2) ta) (.region 3 asO false) (.block 1 (.region 4 bdO false))) w5 := by
      rw [Oper.semAt_eq _ _ _ (noDef df3 o6 hmem6)]
      have hy : (Instr.yield l #[a5.eval (.tmp 13), a5.eval (.tmp 16)]).run P w5 = .ok (.round l fnR ((ta.setIfInBounds 9 (a5.eval (.tmp 13))).setIfInBounds 10 (a5.eval (.tmp 16))) (.region 3 asO false) (.block 1 (.region 4 bdO false))) w5 := by
        rw [run_yield (P := P) (args := #[a5.eval (.tmp 13), a5.eval (.tmp 16)]) hlw (by rfl), ← zip_fold]
        rfl
      rw [zip_fold]
      simp only [execOp, hop, resolve, hv, Deferred.ofValue, Sem.run_bind, Sem.run_pure, Result.andThen_ok, invoke]
      simpa using hy
    rw [hrun, Oper.uponIn_round]
    refine ⟨(fun h => by cases h), RoundIn.mono hround ?_⟩
    rintro e w6 ⟨rfl, γ6, R6⟩
    have R6' : RelAt (Ctx.here M γ2 w2 (fun s => s < ct1) 20) γ6 Q5.st (a5.put o6.dst (.bool true)) w6 := by
      have := R6.skipPut o6.dst (by rw [hdst6]; intro j hj; injection hj with hj; subst hj; show 17 < 20; omega) (.bool true) (.e (.c (.d (.sc (.bool true))))) (DRel.sc _ rfl)
      rw [e5]
      rw [hdst6] at this ⊢
      exact this
    show wpAnyIn (wideAt Option.none) n P .any j3O _ (f6 + 1) #[true, true, true, true, true, true, true, false] (a5.put o6.dst (.bool true)) w6
    refine ⟨(fun h => by rw [ch8] at h; cases h), fun i hi => ?_⟩
    rw [ch8] at hi
    simp only [List.mem_singleton] at hi
    subst hi
    refine op_in (noDef df3 o7 hmem7) hg7 ho7 (ops_at hH x6 rfl (C3n mq6) c5 ⟨γ6, R6'⟩ (fun a7 w7 R7 => ⟨rfl, ?_⟩))
    show wpAnyIn (wideAt Option.none) n P .any j3O _ f6 #[true, true, true, true, true, true, true, true] a7 w7
    refine wpAnyIn_done ch9 ?_ f6
    show Code.wpIn Fence.wide n P j3c _ a7 w7
    refine wpIn_wide.2 (exec_at mix hH x6c rfl (C3n mq6) cq6 R7 fun a8 w8 R8 => ?_)
    show Code.wpIn Fence.wide n P j4 _ a8 w8
    refine wpIn_wide.2 (exec_at mix hH x7 rfl (C3n mq7) cq6 R8 fun a9 w9 R9 => ?_)
    refine ⟨.inr R9, ?_⟩
    obtain ⟨γ9, R9⟩ := R9
    have := R9.env 7
    rw [e77] at this
    show mu7 (a9.tmps.getD 7 undef) < mu7 (a.tmps.getD 7 undef)
    rw [hmu, sc_inv this]
    exact Nat.zero_lt_one
  · refine wpIn_seq (wpIn_wide.2 (exec_at mix hH x8 rfl (C3n mq8) cq7 R fun a2 w2' R2 => ?_))
    refine wpIn_seq (wpIn_wide.2 (exec_at mix hH x8c rfl (C3n mq8) cq8 R2 fun a3 w3 R3 => ?_))
    obtain ⟨γ3, R3⟩ := R3
    obtain ⟨v, hv, _⟩ := resV_run (r := .tup []) R3 fn (by rw [hres]; rfl)
    exact ⟨R3.defers, v, hv, v, γ3, rfl, R3.mem, R3.keep, R3.own, fun s hs => R3.stay s hs⟩

theorem keep_put {Pin : Nat → Prop} {w0 w : World} {l : Nat} {old new : Obj} (h : Keep Pin w0 w) (hl : w.heap[l]? = some old) (hold : ∀ cells t r, old ≠ .cells cells t r) (hge : w0.heap.size ≤ l) : Keep Pin w0 (w.putObj l new) :=
  ⟨h.os, h.tape, h.output, h.drawn, by simpa using h.size, fun b hb hn => (World.putObj_heap_other (by omega)).trans (h.same b hb hn), fun b cells t hb => by
    obtain ⟨c1, h1, z1⟩ := h.shape b cells t hb
    exact ⟨c1, (World.putObj_heap_other (fun e => by subst e; rw [hl] at h1; injection h1 with h1; exact hold _ _ _ h1)).trans h1, z1⟩⟩

def gOne (x : Option (Option Nat)) : G := fun s => if s = 7 then x else Option.none
theorem gOne_some {x : Option (Option Nat)} {s : Nat} {b : Option Nat} (h : gOne x s = some b) : s = 7 ∧ x = some b := by
  unfold gOne at h
  split at h
  · rename_i e; exact ⟨e, h⟩
  · cases h
theorem gOne_7 (x : Option (Option Nat)) : gOne x 7 = x := by simp [gOne]
theorem gOne_ne {x : Option (Option Nat)} {s : Nat} (h : s ≠ 7) : gOne x s = Option.none := by simp [gOne, h]

/-- A function that ranges once over a function of its own. -/
theorem range_ok (hH : HandOK P hd) (mix : P.follows .mixedOrders = true) (nm_s1 : nmBel S1 ct1 = true) (ct8 : 8 ≤ ct1) {g f : FuncId} {fn : Func} (hf : P.funcs[f]? = some fn) (hname : (fn.name == "runtime.NumGoroutine") = false) {k0 k1 k2 : Code} {k5O : Array Oper} {lf : Nat}
    (hb : fn.body = some (.seq k0 (.seq k1 (.seq (.seq k2 (.block 0 (.rangeFunc (.tmp 8) #[9, 10] (.region 3 asO false) (.block 1 (.region 4 bdO false))))) (.seq (.region 5 k5O false) .ret))))) (hnt : fn.ntmps = 15) {res : List ResultVar} (hres : fn.results.toList = res) (hg : Ent P g)
    {args : List E} {H7 : List (Nat × List V)} {S0 Sa Sb : CS} (es0 : S0.st = ⟨argEnv args, mkH H7⟩) (hal : args.length ≤ 15) (c0 : 8 ≤ S0.ctr) (xa : execC P 15 8 hd lf k0 S0 = some (.nrm, Sa)) (xb : execC P 15 8 hd lf k1 Sa = some (.nrm, Sb)) (xc : execC P 15 8 hd lf k2 Sb = some (.nrm, S1))
    {LL : Nat} (e8 : S1.st.env 8 = .e (.c (.clo g [(LL, 0)]))) (mvs : Sa.mv = [] ∧ Sb.mv = [] ∧ S1.mv = []) (cts : 8 ≤ Sa.ctr ∧ 8 ≤ Sb.ctr ∧ 8 ≤ S1.ctr) {H8 : Heap}
    (iter : ∀ {n l : Nat} {fnR : FuncId} {D : Nat} {M : Nat → Prop} {γ2 : G} {w2 : World} {ta : Array Value}, M l → ta.size = 15 → Mem M γ2 S1.st.heap w2 →
      (∀ i, TRel w2 M γ2 (S1.st.env i) (ta.getD i undef)) → w2.heap[l]? = some (.loop (recL asO bdO fnR ta D)) → ∀ {pv : Value}, PRel γ2 LL 0 pv →
      CallsIn Fence.wide n P g #[.func (.yield l) #[] #[], pv] w2 (fun e w' => ∃ v γ', e = .returned v ∧ Mem M γ' H8 w' ∧ Keep (fun b => ∃ s, γ2 s = some (some b)) w2 w' ∧ (∀ s b, γ' s = some (some b) → (∃ t, γ2 t = some (some b)) ∨ w2.heap.size ≤ b) ∧ ∀ s, s < ct1 → γ' s = γ2 s))
    {S2 S3 S4 : CS} (es2 : S2.st = ⟨S1.st.env, H8⟩) (c2 : 8 ≤ S2.ctr) (x3 : runY P 15 8 k5O hd k5O.toList S2 = some S3) (df5 : (k5O.toList.all fun o => match o.op with | .defer _ => false | _ => true) = true) {fl : List Nat} (x4 : frzL 8 10000 fl S3 = some S4) (mv3 : S3.mv = []) {r : T} (hr : resV P res S4.st = some r) (hrn : ∀ s, ¬ r.names s)
    {cs7 : List V} (hH7 : H7 = [(7, cs7)]) (h7 : S4.st.heap 7 = some cs7) (hcn : ∀ s, ¬ ∃ x ∈ cs7, x.names s) (hnm7 : ∀ es, cs7 ≠ [.mapc es]) : Sat P f (mkH H7) args (mkH H7) (fun u => u < 8 ∧ u ∉ ([] : List Nat)) r := by
  obtain ⟨ma, mb, m1⟩ := mvs
  obtain ⟨ca, cb, c1⟩ := cts
  refine ⟨ent_of hf hname hb, fun M γ w vals hm hargs => ?_⟩
  refine (callsIn_wide (n := 2)).1 (callsIn_of_wp_marks (F := Fence.wide) hf hb trivial ?_)
  have C1n : ∀ {c : CS}, c.mv = [] → ∀ s, (Ctx.here M γ w (fun s => s < 8) 15).stay s → s < 8 ∧ s ∉ c.mv := fun h s hs => ⟨hs, by rw [h]; simp⟩
  have R0 : Rel (Ctx.here M γ w (fun s => s < 8) 15) S0.st { tmps := vals.toArray ++ Array.replicate (fn.ntmps - vals.toArray.size) undef, defers := [] } w := by
    have := RelAt.here (env := argEnv args) (a := { tmps := vals.toArray ++ Array.replicate (fn.ntmps - vals.toArray.size) undef, defers := [] }) hm (init_env hargs _) rfl (fun s => s < 8)
    rw [es0]
    refine ⟨γ, ?_⟩
    have e : (vals.toArray ++ Array.replicate (fn.ntmps - vals.toArray.size) undef).size = 15 := by
      have := hargs.1
      rw [hnt]; simp; omega
    rw [← e]
    exact this
  refine wpIn_seq (wpIn_wide.2 (exec_at mix hH xa rfl (C1n ma) c0 R0 fun a1 w1 R1 => ?_))
  refine wpIn_seq (wpIn_wide.2 (exec_at mix hH xb rfl (C1n mb) ca R1 fun a2 w2 R2 => ?_))
  refine wpIn_seq (wpIn_seq (wpIn_wide.2 (exec_at mix hH xc rfl (C1n m1) cb R2 fun a w3 R3 => ?_)))
  refine wpIn_block (wpIn_rangeFunc fun fnR _ => ?_)
  obtain ⟨γ1, R3⟩ := R3
  have h8 := R3.env 8
  rw [e8] at h8
  obtain ⟨cs, hv, hlen, hcs⟩ := h8
  obtain ⟨pv, rfl⟩ : ∃ pv, cs = [pv] := by
    match cs, hlen with
    | [pv], _ => exact ⟨pv, rfl⟩
  have hpv : PRel γ1 LL 0 pv := hcs 0 (LL, 0) pv rfl rfl
  obtain ⟨W, hW⟩ : ∃ W, W = (w3.alloc (.deferred (some []))).alloc (.loop (recL asO bdO fnR a.tmps w3.heap.size)) := ⟨_, rfl⟩
  have hWs : W.heap.size = w3.heap.size + 2 := by rw [hW]; simp
  have hWl : W.heap[w3.heap.size + 1]? = some (.loop (recL asO bdO fnR a.tmps w3.heap.size)) := by
    rw [hW]; have := World.alloc_heap_new (w3.alloc (.deferred (some []))) (.loop (recL asO bdO fnR a.tmps w3.heap.size)); rwa [World.size_alloc] at this
  have kW : Keep nobody w3 W := by
    rw [hW]
    exact (keep_alloc w3 _).trans (keep_alloc _ _) (fun _ _ h => h) (fun _ _ h => h)
  have hWd : W.heap[w3.heap.size]? = some (.deferred (some [])) := by
    rw [hW]
    exact ((keep_alloc (w3.alloc (.deferred (some []))) _).same w3.heap.size (by simp) (fun h => h)).trans (World.alloc_heap_new w3 _)
  have hM2 : ∀ s b, γ1 s = some (some b) → ¬ (M b ∨ b = w3.heap.size ∨ b = w3.heap.size + 1) := by
    rintro s b hs (h | h | h)
    · exact R3.mem.nm s b hs h
    · have := R3.mem.lt hs; omega
    · have := R3.mem.lt hs; omega
  have cW : CarryM M (fun b => M b ∨ b = w3.heap.size ∨ b = w3.heap.size + 1) γ1 γ1 w3 W :=
    ⟨fun b hb => ⟨by have := hb.1; omega, fun h => by
        rcases h with h | h | h
        · exact hb.2.1 h
        · have := hb.1; omega
        · have := hb.1; omega, hb.2.2⟩, fun b hb => kW.same b hb.1 (fun h => h), kW.shape⟩
  have RW : RelAt { Ctx.here M γ w (fun s => s < 8) 15 with M := fun b => M b ∨ b = w3.heap.size ∨ b = w3.heap.size + 1 } γ1 S1.st a W :=
    R3.world cW (fun s b hs => kW.same b (R3.mem.lt hs) (fun h => h)) (fun b hb => by
      rcases hb with h | h | h
      · have := R3.mem.low b h; omega
      · omega
      · omega) hM2 (R3.keep.trans kW (fun _ _ h => h) (fun _ _ h => h.elim))
  refine ⟨w3.heap.size + 1, [{ target := .collected w3.heap.size, args := #[] }], W, { target := .fn (.func g) #[pv], args := #[.func (.yield (w3.heap.size + 1)) #[] #[]] }, W, g, #[.func (.yield (w3.heap.size + 1)) #[] #[], pv], W, ?_, ?_, fun _ _ => trivial, ?_, (fun h => by cases h), ?_⟩
  · rw [hW]; exact run_enterLoop_outer _ _ _ _ _
  · have hv' : a.eval (.tmp 8) = .func (.func g) #[] #[pv] := hv
    simp only [resolve, hv']
    simp [go_sem]
  · have := hg #[.func (.yield (w3.heap.size + 1)) #[] #[], pv] W
    simp [invoke, this]
  refine CallsIn.mono (iter (M := fun b => M b ∨ b = w3.heap.size ∨ b = w3.heap.size + 1) (.inr (.inr rfl)) (R3.size) RW.mem RW.env hWl hpv) ?_
  rintro e w6 ⟨v, γ6, rfl, m6, k6, o6, s6⟩
  have nI : ∀ {x : Nat}, (x = w3.heap.size ∨ x = w3.heap.size + 1) → ¬ ∃ s, γ1 s = some (some x) := fun hx ⟨s, h⟩ => hM2 s _ h (.inr hx)
  have hl6 : w6.heap[w3.heap.size + 1]? = some (.loop (recL asO bdO fnR a.tmps w3.heap.size)) := (k6.same _ (by omega) (nI (.inr rfl))).trans hWl
  have hd6 : w6.heap[w3.heap.size]? = some (.deferred (some [])) := (k6.same _ (by omega) (nI (.inl rfl))).trans hWd
  refine ⟨Option.none, w6.putObj (w3.heap.size + 1) (.loop { recL asO bdO fnR a.tmps w3.heap.size with state := .exhausted }), run_endLoop hl6 (by simp [recL]), ?_⟩
  have R6 := RelAt.back (env := S1.st.env) (H := S1.st.heap) RW m6 k6 o6 (fun s hs => s6 s (by
    rcases hs with ⟨i, hi⟩ | h
    · exact nmBel_ok nm_s1 hi
    · have h3 : s < 8 := h
      omega))
  have hws : w.heap.size ≤ w3.heap.size := R3.keep.size
  have cp := carry_put (M := fun b => M b ∨ b = w3.heap.size ∨ b = w3.heap.size + 1) (γ := γ6) (w := w6) (new := .loop { recL asO bdO fnR a.tmps w3.heap.size with state := .exhausted }) (.inr (.inr rfl)) hl6 (not_cells_loop _)
  have m7 := m6.carryM cp (fun s b hs => World.putObj_heap_other (fun e => m6.nm s b hs (.inr (.inr e)))) (fun b hb => by have := m6.low b hb; simpa using this) m6.nm
  have k7 : Keep (Ctx.here M γ w (fun s => s < 8) 15).Pin w (w6.putObj (w3.heap.size + 1) (.loop { recL asO bdO fnR a.tmps w3.heap.size with state := .exhausted })) := keep_put R6.keep hl6 (not_cells_loop _) (by show w.heap.size ≤ _; omega)
  have R7 : RelAt (Ctx.here (fun b => M b ∨ b = w3.heap.size ∨ b = w3.heap.size + 1) γ6 (w6.putObj (w3.heap.size + 1) (.loop { recL asO bdO fnR a.tmps w3.heap.size with state := .exhausted })) (fun s => s < 8) a.tmps.size) γ6 ⟨S1.st.env, H8⟩ a (w6.putObj (w3.heap.size + 1) (.loop { recL asO bdO fnR a.tmps w3.heap.size with state := .exhausted })) :=
    RelAt.here m7 (fun i => (R6.env i).carryM cp fun _ _ => rfl) R6.defers _
  have hd7 : (w6.putObj (w3.heap.size + 1) (.loop { recL asO bdO fnR a.tmps w3.heap.size with state := .exhausted })).heap[w3.heap.size]? = some (.deferred (some [])) := (World.putObj_heap_other (by omega)).trans hd6
  obtain ⟨w7, hw7⟩ : ∃ w7, w7 = w6.putObj (w3.heap.size + 1) (.loop { recL asO bdO fnR a.tmps w3.heap.size with state := .exhausted }) := ⟨_, rfl⟩
  rw [← hw7] at R7 hd7 k7 m7 ⊢
  have hadd : ({ a with defers := [{ target := .collected w3.heap.size, args := #[] }] ++ a.defers } : Act) = addD [{ target := .collected w3.heap.size, args := #[] }] a := by
    have := R3.defers
    simp [addD, this]
  rw [hadd]
  show Code.wpIn Fence.wide 2 P (.seq (.region 5 k5O false) .ret) _ _ _
  refine wpIn_seq ?_
  have step5 := wpIn_region_list (F := wideAt Option.none) (n := 2) (id := 5) (ops := k5O) (Q := QD [{ target := .collected w3.heap.size, args := #[] }] fun e a' w' => e = .normal ∧ Rel (Ctx.here (fun b => M b ∨ b = w3.heap.size ∨ b = w3.heap.size + 1) γ6 w7 (fun s => s < 8) a.tmps.size) S3.st a' w')
    (wpListIn_of (by rintro ⟨_, _, _, _, h, _⟩; cases h) k5O.toList _ w7 (noDef df5) (wpList_addD _ a w7
      (ops_at hH x3 (R3.size) (fun s hs => ⟨hs, by rw [mv3]; simp⟩) c2 (by rw [es2]; exact ⟨γ6, R7⟩) (fun a' w' R' => ⟨rfl, R'⟩))))
  refine wpIn_mono (F := wideAt Option.none) step5 ?_
  rintro e aD w9 ⟨a9, rfl, rfl, R9⟩
  obtain ⟨γ9, R9⟩ := (frzL_ok _ _ _ _ x4).2 a.tmps.size (fun s => s < 8) (fun s h => h) _ rfl rfl a9 w9 R9
  refine wpIn_ret ?_
  have hdef : (addD [{ target := .collected w3.heap.size, args := #[] }] a9).defers = [{ target := .collected w3.heap.size, args := #[] }] := by
    have := R9.defers
    simp [addD, this]
  show LeavesInM Fence.wide 2 P fn a9.tmps _ (addD [{ target := .collected w3.heap.size, args := #[] }] a9).defers .returning w9
  rw [hdef]
  have hd9 : w9.heap[w3.heap.size]? = some (.deferred (some [])) := (R9.keep.same _ (lt_of_heap hd7) (fun ⟨s, h⟩ => m7.nm s _ h (.inr (.inl rfl)))).trans hd7
  refine ⟨by simp, .inl ⟨w3.heap.size, _, rfl, run_takeDeferred hd9, ?_⟩⟩
  have cp9 := carry_put (M := fun b => M b ∨ b = w3.heap.size ∨ b = w3.heap.size + 1) (γ := γ9) (w := w9) (new := .deferred Option.none) (.inr (.inl rfl)) hd9 (not_cells_def _)
  have m10 := R9.mem.carryM cp9 (fun s b hs => World.putObj_heap_other (fun e => R9.mem.nm s b hs (.inr (.inl e)))) (fun b hb => by have := R9.mem.low b hb; simpa using this) R9.mem.nm
  have R10 : RelAt (Ctx.here (fun b => M b ∨ b = w3.heap.size ∨ b = w3.heap.size + 1) γ9 (w9.putObj w3.heap.size (.deferred Option.none)) (fun s => s < 8) a9.tmps.size) γ9 S4.st a9 (w9.putObj w3.heap.size (.deferred Option.none)) := RelAt.here (H := S4.st.heap) m10 (fun i => (R9.env i).carryM cp9 fun _ _ => rfl) R9.defers _
  obtain ⟨v2, hv2, hr2⟩ := resV_run R10 fn (by rw [hres]; exact hr)
  refine ⟨v2, hv2, ?_⟩
  have g7 : γ9 7 = γ 7 := by
    have x1 : γ9 7 = γ6 7 := R9.stay 7 (by show 7 < 8; omega)
    have x2 : γ6 7 = γ1 7 := s6 7 (by omega)
    have x3 : γ1 7 = γ 7 := R3.stay 7 (by show 7 < 8; omega)
    rw [x1, x2, x3]
  have cF : CarryM (fun b => M b ∨ b = w3.heap.size ∨ b = w3.heap.size + 1) M γ9 (gOne (γ9 7)) (w9.putObj w3.heap.size (.deferred Option.none)) (w9.putObj w3.heap.size (.deferred Option.none)) :=
    ⟨fun b hb => ⟨hb.1, fun h => hb.2.1 (.inl h), fun s hs => hb.2.2 7 (gOne_some hs).2⟩, fun _ _ => rfl, fun b cells t h => ⟨cells, h, rfl⟩⟩
  have k9 : Keep (fun b => ∃ s, γ s = some (some b)) w w9 := by
    refine Keep.trans (P2 := fun b => ∃ s, γ6 s = some (some b)) k7 R9.keep (fun _ _ h => h) (fun x hx ⟨s, h⟩ => ?_)
    rcases R6.own s x h with h | h
    · exact h
    · have h3 : w.heap.size ≤ x := h
      omega
  refine ⟨v2, gOne (γ9 7), rfl, ⟨fun b hb => m10.low b (.inl hb), fun s t b hs ht => (gOne_some hs).1.trans (gOne_some ht).1.symm, fun s b hs h => R9.mem.nm 7 b (gOne_some hs).2 (.inl h), fun s hs => ?_, fun s cs hs => ?_⟩, hr2.carryM cF (fun s hs => (hrn s hs).elim), keep_put k9 hd9 (not_cells_def _) hws, fun s b hs => .inl ⟨7, by rw [← g7]; exact (gOne_some hs).2⟩, fun s hs => ?_⟩
  · refine gOne_ne fun e => ?_
    subst e; rw [hH7] at hs; simp [mkH] at hs
  · have e : s = 7 ∧ cs = cs7 := by
      rw [hH7] at hs
      simp only [mkH] at hs
      split at hs
      · rename_i e; injection hs with hs; exact ⟨e, hs.symm⟩
      · cases hs
    obtain ⟨rfl, rfl⟩ := e
    rcases m10.blk 7 cs h7 with ⟨b, t, vs, sp, hg, hb, hc⟩ | ⟨hg, hc⟩ | ⟨b, en, clk, hg, hb, hc⟩
    · exact .inl ⟨b, t, vs, sp, by rw [gOne_7]; exact hg, hb, hc.carryM cF (fun s hs => (hcn s hs).elim)⟩
    · exact .inr (.inl ⟨by rw [gOne_7]; exact hg, hc⟩)
    · exact (hnm7 _ hc).elim
  · by_cases e : s = 7
    · rw [e, gOne_7]; exact g7
    · rw [gOne_ne e, hm.dom s]
      rw [hH7]; simp [mkH, e]
end
end Go.Proofs.YtfbmhjooliccnaaGreatDoor.Kw
end

section
set_option maxRecDepth 100000
namespace Go.Proofs.YtfbmhjooliccnaaGreatDoor.Kw
open Go Go.Ab Go.RowKit

section
variable {P : Program}

/-- A call whose contract is at hand in this memory. -/
theorem call_at {C : Ctx} {γ : G} {σ : St} {a : Act} {w : World} (R : RelAt C γ σ a w) {o : Oper} {g : FuncId} {xs : Array Operand} {ts : Array TypeId} (ho : o.op = .call { callee := .value (.func g), args := xs, argTypes := ts }) (hent : Ent P g) {H' : Heap} {stay : Nat → Prop} {r : T}
    {vals : List Value} (hvals : (xs.toList.map a.eval) = vals) (hc : Calls P g vals.toArray w (SatPost C.M γ w H' stay r)) (hs : ∀ s, (∃ i, (σ.env i).names s) ∨ C.stay s → stay s) (hd : dstOK C.nt o.dst) {K : Act → World → Prop} {Q : Exit → Act → World → Prop}
    (hK : ∀ γ' a' w', RelAt C γ' ⟨(σ.put o.dst r).env, H'⟩ a' w' → K a' w') : o.wp P a w K Q := by
  unfold Oper.wp
  have hrun : (execOp a.eval o).run P w = .ok (.enter g vals.toArray) w := by
    simp only [execOp, ho, resolve, Act.eval, Deferred.ofValue, Sem.run_bind, Sem.run_pure, Result.andThen_ok, invoke]
    rw [hent, ← hvals]
    congr 2
    apply Array.ext'
    simp
  rw [hrun]
  refine hc.mono fun e w' he => ?_
  obtain ⟨v, γ', rfl, hm, hr, hk, ho', hst⟩ := he
  have R1 := RelAt.back (env := σ.env) (H := σ.heap) R hm hk ho' (fun s h => hst s (hs s h))
  have R2 := R1.skipPut o.dst hd v r hr
  refine hK γ' _ w' ?_
  have e : (St.put ⟨σ.env, H'⟩ o.dst r) = ⟨(σ.put o.dst r).env, H'⟩ := by cases o.dst <;> rfl
  rw [e] at R2
  exact R2

/-- A function's contract in this memory, out of its body. -/
theorem sat_at {f : FuncId} {fn : Func} {c : Code} (hf : P.funcs[f]? = some fn) (hb : fn.body = some c) {M : Nat → Prop} {γ : G} {H H' : Heap} {w : World} {args : List E} {vals : List Value} (hm : Mem M γ H w) (hargs : EsRel w M γ args vals) {nt : Nat} (hnt : fn.ntmps = nt) (hn : args.length ≤ nt) {stay : Nat → Prop} {r : T}
    (body : ∀ a, RelAt (Ctx.here M γ w stay nt) γ ⟨argEnv args, H⟩ a w → c.wp P (fun e a' w' => (e = .normal ∨ e = .ret) ∧ ∃ γ' σ', RelAt (Ctx.here M γ w stay nt) γ' σ' a' w' ∧ resV P fn.results.toList σ' = some r ∧ σ'.heap = H') a w) :
    Calls P f vals.toArray w (SatPost M γ w H' stay r) := by
  refine calls_of_wp hf hb ?_
  have R0 : RelAt (Ctx.here M γ w stay nt) γ ⟨argEnv args, H⟩ { tmps := vals.toArray ++ Array.replicate (fn.ntmps - vals.toArray.size) undef, defers := [] } w := by
    have := RelAt.here (env := argEnv args) (a := { tmps := vals.toArray ++ Array.replicate (fn.ntmps - vals.toArray.size) undef, defers := [] }) hm (init_env hargs _) rfl stay
    have e : (vals.toArray ++ Array.replicate (fn.ntmps - vals.toArray.size) undef).size = nt := by
      have := hargs.1
      rw [hnt]; simp; omega
    rw [← e]
    exact this
  refine Code.wp_mono ?_ (body _ R0)
  rintro e a' w' ⟨he, γ', σ', R, hr, rfl⟩
  obtain ⟨v, hv, hrel⟩ := resV_run R fn hr
  have fin : a'.defers = [] ∧ ∃ v, (results fn a'.tmps).run P w' = .ok v w' ∧ SatPost M γ w σ'.heap stay r (.returned v) w' := ⟨R.defers, v, hv, v, γ', rfl, R.mem, hrel, R.keep, R.own, R.stay⟩
  rcases he with rfl | rfl
  · exact fin
  · exact fin

/-- An operation that yields a value and leaves the memory. -/
theorem op_hand {C : Ctx} {γ : G} {σ : St} {a : Act} {w : World} (R : RelAt C γ σ a w) {o : Oper} {v : Value} {r : T} (hrun : (execOp a.eval o).run P w = .ok (.value v) w) (hr : TRel w C.M γ r v) (hd : dstOK C.nt o.dst) {K : Act → World → Prop} {Q : Exit → Act → World → Prop}
    (hK : ∀ a', RelAt C γ (σ.put o.dst r) a' w → K a' w) : o.wp P a w K Q := wp_value hrun (hK _ (R.skipPut o.dst hd v r hr))

theorem wpList_one {ops : Array Oper} {o : Oper} {l : List Oper} {a : Act} {w : World} {Q : Exit → Act → World → Prop} (hg : o.guard = Option.none) (h : o.wp P a w (wpList P ops Q l) Q) : wpList P ops Q (o :: l) a w := by
  simp only [wpList]
  rw [if_pos (by simp [Region.wanted, hg])]
  exact .inl h

/-- The beginning of a list of operations by the executor. -/
theorem ops_then {hd : Hand} {n c0 : Nat} {ops : Array Oper} (H : HandOK P hd) : ∀ {l : List Oper} {l' : List Oper} {c c' : CS}, runY P n c0 ops hd l c = some c' → ∀ {C : Ctx}, C.nt = n →
    (∀ s, C.stay s → s < c0 ∧ s ∉ c'.mv) → c0 ≤ c.ctr → ∀ {a : Act} {w : World}, Rel C c.st a w → ∀ {Q : Exit → Act → World → Prop}, (∀ a' w', Rel C c'.st a' w' → wpList P ops Q l' a' w') → wpList P ops Q (l ++ l') a w := by
  intro l l' c c' h C hn hst h0 a w R Q hQ
  have h1 := ops_at H h hn hst h0 R (Q := fun e a w => e = .normal ∧ wpList P ops Q l' a w) (fun a' w' R' => ⟨rfl, hQ a' w' R'⟩)
  have key : ∀ (l : List Oper) (a : Act) (w : World), wpList P ops (fun e a w => e = .normal ∧ wpList P ops Q l' a w) l a w → wpList P ops Q (l ++ l') a w := by
    intro l
    induction l with
    | nil => intro a w h; exact h.2
    | cons o l ih =>
      intro a w h
      simp only [wpList, List.cons_append] at h ⊢
      split
      · rename_i hw
        rw [if_pos hw] at h
        rcases h with h | ⟨_, _, _, h, _⟩
        · left
          have h2 := wpOper_mono (fun a w h => ih a w h) h
          unfold Oper.wp at *
          generalize (execOp a.eval o).run P w = r at *
          cases r with
          | ok x w' =>
            cases x with
            | value v => exact h2
            | skip => exact h2
            | defer d => exact h2
            | enter f args =>
              refine Calls.mono h2 ?_
              intro e w2 he
              cases e
              · exact he
              · cases he.1
              · obtain ⟨_, _, h, _⟩ := he; cases h
            | row r args => exact h2
            | _ => exact h2
          | halt x w' => cases x <;> first | exact h2 | cases h2.1
        · cases h
      · rename_i hw
        rw [if_neg hw] at h
        exact ih _ w h
  exact key l a w h1
end

/-- What a block's type is, in a context that keeps its label. -/
theorem typed_at {M : Nat → Prop} {γ0 γ : G} {w0 w : World} {stay : Nat → Prop} {nt : Nat} {σ : St} {a : Act} (R : RelAt (Ctx.here M γ0 w0 stay nt) γ σ a w) {s b : Nat} {cells : Array Value} {t : TypeId} (hs : stay s) (hg : γ0 s = some (some b)) (hb : w0.heap[b]? = some (.cells cells t (0, 0))) :
    γ s = some (some b) ∧ ∃ cells', w.heap[b]? = some (.cells cells' t (0, 0)) ∧ cells'.size = cells.size :=
  ⟨(R.stay s hs).trans hg, R.keep.shape b cells t hb⟩
end Go.Proofs.YtfbmhjooliccnaaGreatDoor.Kw
end

section
set_option maxRecDepth 100000
namespace Go.Proofs.YtfbmhjooliccnaaGreatDoor.Kw
open Go Go.Ab Go.RowKit

def byteV (x : UInt8) : Value := .int .u8 x.toNat
/-- The builder in block b, its bytes bs in block g. -/
def BF (tb te : TypeId) (b g : Nat) (bs : List UInt8) (cap : Nat) (cur : Array Value) (w : World) : Prop :=
  w.heap[b]? = some (.cells #[.pointer (some ⟨b, 0, Option.none⟩), .slice (some ⟨g, 0, Option.none⟩) bs.length cap] tb (0, 0)) ∧ w.heap[g]? = some (.cells cur te (0, 0)) ∧ bs.length ≤ cap ∧ cap ≤ maxLen ∧ cap ≤ cur.size ∧ cur.toList.take bs.length = bs.map byteV ∧ b ≠ g

def bPin (b g : Nat) : Nat → Prop := fun x => x = b ∨ x = g
def gB (b : Nat) : G := fun s => if s = 0 then some (some b) else Option.none
theorem gB_some {b s : Nat} {x : Option Nat} (h : gB b s = some x) : s = 0 ∧ x = some b := by
  unfold gB at h
  split at h
  · rename_i e; injection h with h; exact ⟨e, h.symm⟩
  · cases h
theorem gB_0 (b : Nat) : gB b 0 = some (some b) := by simp [gB]
def hB (v : Value) : List (Nat × List V) := [(0, [.ptr 0 0, .d (.sc v)])]
def mB (b : Nat) (w : World) : Nat → Prop := fun x => x < w.heap.size ∧ x ≠ b

theorem hB_mem {tb : TypeId} {b : Nat} {v : Value} (hv : v.oneCell' = true) {w : World} (h : w.heap[b]? = some (.cells #[.pointer (some ⟨b, 0, Option.none⟩), v] tb (0, 0))) : Mem (mB b w) (gB b) (mkH (hB v)) w where
  low x hx := hx.1
  inj s t x h1 h2 := (gB_some h1).1.trans (gB_some h2).1.symm
  nm s x h1 hx := hx.2 (by have := (gB_some h1).2; injection this)
  dom s hs := by
    unfold gB
    split
    · rename_i e; subst e; simp [hB, mkH] at hs
    · rfl
  blk s cs hs := by
    have e : s = 0 ∧ cs = [.ptr 0 0, .d (.sc v)] := by
      simp only [hB, mkH] at hs
      split at hs
      · rename_i e; injection hs with hs; exact ⟨e, hs.symm⟩
      · cases hs
    obtain ⟨rfl, rfl⟩ := e
    refine .inl ⟨b, tb, [.pointer (some ⟨b, 0, Option.none⟩), v], [], gB_0 b, by simpa using h, rfl, fun i x u hx hu => ?_⟩
    match i, hx, hu with
    | 0, hx, hu => simp at hx hu; subst hx; subst hu; exact ⟨b, gB_0 b, rfl⟩
    | 1, hx, hu => simp at hx hu; subst hx; subst hu; exact DRel.sc _ hv
    | i + 2, hx, hu => simp at hx

/-- What the block of label 0 holds. -/
theorem hB_read {M : Nat → Prop} {γ : G} {H : Heap} {w : World} (hm : Mem M γ H w) {v : Value} (h0 : H 0 = some [.ptr 0 0, .d (.sc v)]) {b : Nat} (hg : γ 0 = some (some b)) {cells : Array Value} {t : TypeId} (hb : w.heap[b]? = some (.cells cells t (0, 0))) (hsz : cells.size = 2) :
    cells = #[.pointer (some ⟨b, 0, Option.none⟩), v] := by
  rcases hm.blk 0 _ h0 with ⟨b', t', vs, sp, hg', hb', hc⟩ | ⟨hg', _⟩ | ⟨b', en, clk, hg', hb', _⟩
  · rw [hg] at hg'; injection hg' with hg'; injection hg' with hg'; subst hg'
    rw [hb] at hb'
    injection hb' with hb'; injection hb' with hb' _
    have hl := hc.1
    match vs, hl with
    | [x, y], _ =>
      have h1 := hc.2 0 _ _ rfl rfl
      have h2 := hc.2 1 _ _ rfl rfl
      obtain ⟨b2, hg2, e1⟩ := h1
      rw [hg] at hg2; injection hg2 with hg2; injection hg2 with hg2; subst hg2
      have e2 : y = v := sc_inv (w := w) (M := M) (γ := γ) h2
      subst e1; subst e2
      have hsp : sp = [] := by
        rw [hb'] at hsz
        simpa using hsz
      subst hsp
      rw [hb']
      rfl
  · rw [hg] at hg'; injection hg' with hg'; cases hg'
  · rw [hg] at hg'; injection hg' with hg'; injection hg' with hg'; subst hg'
    rw [hb] at hb'; cases hb'

/-- A foreign row is written: same size, same type. -/
theorem carry_row {M : Nat → Prop} {γ : G} {w : World} {g : Nat} {old new : Array Value} {t : TypeId} (hM : M g) (hg : w.heap[g]? = some (.cells old t (0, 0))) (hs : new.size = old.size) : CarryM M M γ γ w (w.setRow g new) := by
  have other : ∀ x, x ≠ g → (w.setRow g new).heap[x]? = w.heap[x]? := fun x hx => setRow_other w g x new hx
  refine ⟨fun x hx => ⟨by have := hx.1; simpa using this, hx.2.1, hx.2.2⟩, fun x hx => other x (fun e => hx.2.1 (e ▸ hM)), fun x cells ty hx => ?_⟩
  by_cases e : x = g
  · subst e
    rw [hg] at hx; injection hx with hx; injection hx with h1 h2; subst h1; subst h2
    exact ⟨new, setRow_heap w x _ _ t _ hg, hs⟩
  · exact ⟨cells, (other x e).trans hx, rfl⟩
theorem keep_row {Pin : Nat → Prop} {w : World} {g : Nat} {old new : Array Value} {t : TypeId} (hP : Pin g) (hg : w.heap[g]? = some (.cells old t (0, 0))) (hs : new.size = old.size) : Keep Pin w (w.setRow g new) := by
  have other : ∀ x, x ≠ g → (w.setRow g new).heap[x]? = w.heap[x]? := fun x hx => setRow_other w g x new hx
  refine ⟨rfl, rfl, rfl, Nat.le_refl _, by simp, fun x hx hn => other x (fun e => hn (e ▸ hP)), fun x cells ty hx => ?_⟩
  by_cases e : x = g
  · subst e
    rw [hg] at hx; injection hx with hx; injection hx with h1 h2; subst h1; subst h2
    exact ⟨new, setRow_heap w x _ _ t _ hg, hs⟩
  · exact ⟨cells, (other x e).trans hx, rfl⟩
end Go.Proofs.YtfbmhjooliccnaaGreatDoor.Kw
end

section
set_option maxRecDepth 100000
namespace Go.Proofs.YtfbmhjooliccnaaGreatDoor.Kw
open Go Go.Ab Go.RowKit

/-- What a writing method leaves. -/
def WPost (tb te : TypeId) (b g : Nat) (bs : List UInt8) (w : World) (rv : Value) (e : Ending) (w' : World) : Prop :=
  e = .returned rv ∧ ∃ g' cap cur, BF tb te b g' bs cap cur w' ∧ (g' = g ∨ w.heap.size ≤ g') ∧ Keep (bPin b g) w w'

section
variable {P : Program} {hd : Hand}

/-- What append does to the buffer. -/
def AppOK (P : Program) (te : TypeId) (oA : Oper) (news : List UInt8) (g len cap : Nat) (a : Act) (w : World) : Prop :=
  ∀ vs spare : List Value, w.heap[g]? = some (.cells (vs ++ spare).toArray te (0, 0)) → vs.length = len → cap ≤ (vs ++ spare).length →
    ∃ v' w', (execOp a.eval oA).run P w = .ok (.value v') w' ∧
      ((v' = .slice (some ⟨g, 0, Option.none⟩) (len + news.length) cap ∧ len + news.length ≤ cap ∧ news.length ≤ spare.length ∧ w' = w.setRow g ((vs ++ news.map byteV) ++ spare.drop news.length).toArray) ∨
       (∃ cap' rest, v' = .slice (some ⟨w.heap.size, 0, Option.none⟩) (len + news.length) cap' ∧ len + news.length ≤ cap' ∧ cap' ≤ maxLen ∧ cap' ≤ ((vs ++ news.map byteV) ++ rest).length ∧ w' = w.drew.alloc (.cells ((vs ++ news.map byteV) ++ rest).toArray te)))

theorem writer_ok (hH : HandOK P hd) (mix : P.follows .mixedOrders = true) {tb te : TypeId} {f : FuncId} {fn : Func} {k0 k1 k3 : Code} {OP : Array Oper} {lf nt d : Nat} (hf : P.funcs[f]? = some fn) (hb : fn.body = some (.seq k0 (.seq k1 (.seq (.region 2 OP false) (.seq k3 .ret))))) (hnt : fn.ntmps = nt) (h2 : 2 ≤ nt)
    {L1 L2 : List Oper} {oA : Oper} (hOP : OP.toList = L1 ++ oA :: L2) (hgA : oA.guard = Option.none) (hdA : oA.dst = some d) (hdn : d < nt)
    {bs news : List UInt8} {g cap : Nat} {va : Value} (hva : va.oneCell' = true) {S0 S1 S2 S3 : CS}
    (es0 : S0.st = ⟨argEnv [.c (.ptr 0 0), .c (.d (.sc va))], mkH (hB (.slice (some ⟨g, 0, Option.none⟩) bs.length cap))⟩) (c0 : 1 ≤ S0.ctr) (x1 : execC P nt 1 hd lf k0 S0 = some (.nrm, S1)) (x2 : execC P nt 1 hd lf k1 S1 = some (.nrm, S2)) (x3 : runY P nt 1 OP hd L1 S2 = some S3)
    (mvs : S1.mv = [] ∧ S2.mv = [] ∧ S3.mv = []) (cts : 1 ≤ S1.ctr ∧ 1 ≤ S2.ctr)
    (happ : ∀ {C : Ctx} {γ : G} {a : Act} {w : World}, RelAt C γ S3.st a w → AppOK P te oA news g bs.length cap a w)
    {SA S4 S5 : Value → CS} (esA : ∀ v, (SA v).st = ⟨upd S3.st.env d (.e (.c (.d (.sc v)))), S3.st.heap⟩) (cA : ∀ v, 1 ≤ (SA v).ctr) (x4 : ∀ v, runY P nt 1 OP hd L2 (SA v) = some (S4 v)) (x5 : ∀ v, execC P nt 1 hd lf k3 (S4 v) = some (.nrm, S5 v)) (mvs2 : ∀ v, (S4 v).mv = [] ∧ (S5 v).mv = []) (cts2 : ∀ v, 1 ≤ (S4 v).ctr)
    (h5 : ∀ v, (S5 v).st.heap 0 = some [.ptr 0 0, .d (.sc v)]) {r : T} {rv : Value} (hr : ∀ v, resV P fn.results.toList (S5 v).st = some r) (hrv : ∀ {w : World} {M : Nat → Prop} {γ : G} {v : Value}, TRel w M γ r v → v = rv)
    {b : Nat} {cur : Array Value} {w : World} (hBF : BF tb te b g bs cap cur w) :
    Calls P f #[.pointer (some ⟨b, 0, Option.none⟩), va] w (WPost tb te b g (bs ++ news) w rv) := by
  obtain ⟨hb0, hg0, hlen, hmax, hcap, htake, hbg⟩ := hBF
  have hbs := lt_of_heap hb0
  have hgs := lt_of_heap hg0
  have hm0 : Mem (mB b w) (gB b) (mkH (hB (.slice (some ⟨g, 0, Option.none⟩) bs.length cap))) w := hB_mem rfl hb0
  have hes : EsRel w (mB b w) (gB b) [.c (.ptr 0 0), .c (.d (.sc va))] [.pointer (some ⟨b, 0, Option.none⟩), va] := by
    refine ⟨rfl, fun i x u hx hu => ?_⟩
    match i, hx, hu with
    | 0, hx, hu => simp at hx hu; subst hx; subst hu; exact ⟨b, gB_0 b, rfl⟩
    | 1, hx, hu => simp at hx hu; subst hx; subst hu; exact DRel.sc _ hva
    | i + 2, hx, hu => simp at hx
  refine calls_of_wp hf hb ?_
  have R0 : RelAt (Ctx.here (mB b w) (gB b) w (fun s => s < 1) nt) (gB b) S0.st { tmps := #[.pointer (some ⟨b, 0, Option.none⟩), va] ++ Array.replicate (fn.ntmps - (#[.pointer (some ⟨b, 0, Option.none⟩), va] : Array Value).size) undef, defers := [] } w := by
    have := RelAt.here (env := argEnv [.c (.ptr 0 0), .c (.d (.sc va))]) (a := { tmps := #[.pointer (some ⟨b, 0, Option.none⟩), va] ++ Array.replicate (fn.ntmps - (#[.pointer (some ⟨b, 0, Option.none⟩), va] : Array Value).size) undef, defers := [] }) hm0 (init_env hes _) rfl (fun s => s < 1)
    have e : (#[.pointer (some ⟨b, 0, Option.none⟩), va] ++ Array.replicate (fn.ntmps - (#[.pointer (some ⟨b, 0, Option.none⟩), va] : Array Value).size) undef).size = nt := by rw [hnt]; simp; omega
    rw [es0]
    rw [← e]
    exact this
  have Cn : ∀ {M : Nat → Prop} {γ : G} {w : World} {c : CS}, c.mv = [] → ∀ s, (Ctx.here M γ w (fun s => s < 1) nt).stay s → s < 1 ∧ s ∉ c.mv := fun h s hs => ⟨hs, by rw [h]; simp⟩
  refine wp_seq (exec_at mix hH x1 rfl (Cn mvs.1) c0 ⟨_, R0⟩ fun a1 w1 R1 => ?_)
  refine wp_seq (exec_at mix hH x2 rfl (Cn mvs.2.1) cts.1 R1 fun a2 w2 R2 => ?_)
  refine wp_seq ?_
  have hOPa : OP = (L1 ++ oA :: L2).toArray := by apply Array.ext'; simpa using hOP
  rw [hOPa]
  refine wp_region_lit ?_
  rw [← hOPa]
  refine ops_then hH x3 rfl (Cn mvs.2.2) cts.2 R2 (fun a3 w3 R3 => ?_)
  obtain ⟨γ3, R3⟩ := R3
  have g30 : γ3 0 = some (some b) := (R3.stay 0 (by show 0 < 1; omega)).trans (gB_0 b)
  have notOwn : ∀ {x : Nat}, x < w.heap.size → x ≠ b → ¬ ∃ s, gB b s = some (some x) := fun hx hne ⟨s, h⟩ => hne (by have := (gB_some h).2; injection this)
  have hg3 : w3.heap[g]? = some (.cells cur te (0, 0)) := (R3.keep.same g hgs (notOwn hgs (Ne.symm hbg))).trans hg0
  have hMg : mB b w g := ⟨hgs, Ne.symm hbg⟩
  have own3 : ∀ s x, γ3 s = some (some x) → x = b ∨ w.heap.size ≤ x := fun s x hs => by
    rcases R3.own s x hs with ⟨t, ht⟩ | h
    · left; have := (gB_some ht).2; injection this
    · exact .inr h
  obtain ⟨cb3, hb3, zb3⟩ := R3.keep.shape b _ tb hb0
  have hcurt : cur.toList = bs.map byteV ++ cur.toList.drop bs.length := by rw [← htake, List.take_append_drop]
  obtain ⟨v', w4, hrun, hres⟩ := happ R3 (bs.map byteV) (cur.toList.drop bs.length) (by rw [hg3]; congr 2; apply Array.ext'; simpa using hcurt) (by simp) (by rw [← hcurt]; simpa using hcap)
  have hlcur : cur.size = bs.length + (cur.toList.drop bs.length).length := by
    have := congrArg List.length hcurt
    simpa using this
  have hk34 : Keep (bPin b g) w w3 := ⟨R3.keep.os, R3.keep.tape, R3.keep.output, R3.keep.drawn, R3.keep.size, fun x hx hn => R3.keep.same x hx (fun ⟨s, h⟩ => hn (.inl (by have := (gB_some h).2; injection this))), R3.keep.shape⟩
  -- behind the append: the block of the bytes, a set of foreign blocks
  have key : ∃ (g' : Nat) (cap' : Nat) (cur' : Array Value) (M' : Nat → Prop), v' = .slice (some ⟨g', 0, Option.none⟩) (bs ++ news).length cap' ∧ w4.heap[g']? = some (.cells cur' te (0, 0)) ∧ (bs ++ news).length ≤ cap' ∧ cap' ≤ maxLen ∧ cap' ≤ cur'.size ∧
      cur'.toList.take (bs ++ news).length = (bs ++ news).map byteV ∧ (g' = g ∨ w.heap.size ≤ g') ∧ M' g' ∧ Mem M' γ3 S3.st.heap w4 ∧ (∀ i, TRel w4 M' γ3 (S3.st.env i) (a3.tmps.getD i undef)) ∧ Keep (bPin b g) w w4 ∧ (∀ cells t, w3.heap[b]? = some (.cells cells t (0, 0)) → ∃ cells', w4.heap[b]? = some (.cells cells' t (0, 0)) ∧ cells'.size = cells.size) := by
    rcases hres with ⟨rfl, hle, hsl, rfl⟩ | ⟨cap', rest, rfl, hle, hmx, hro, rfl⟩
    · have hnsz : ((bs.map byteV ++ news.map byteV) ++ (cur.toList.drop bs.length).drop news.length).toArray.size = cur.size := by
        rw [hlcur]; simp at hsl ⊢; omega
      have cr := carry_row (M := mB b w) (γ := γ3) hMg hg3 hnsz
      refine ⟨g, cap, _, mB b w, by simp, setRow_heap w3 g _ _ te _ hg3, by simpa using hle, hmax, by rw [hnsz]; exact hcap, ?_, .inl rfl, hMg, R3.mem.carryM cr (fun s x hs => setRow_other w3 g x _ (fun e => by
          rcases own3 s x hs with h | h
          · exact hbg (h ▸ e ▸ rfl)
          · omega)) (fun x hx => by have := R3.mem.low x hx; simpa using this) R3.mem.nm, fun i => (R3.env i).carryM cr fun _ _ => rfl, hk34.trans (keep_row (Pin := bPin b g) (.inr rfl) hg3 hnsz) (fun _ _ h => h) (fun _ _ h => h), fun cells t h => ⟨cells, (setRow_other w3 g b _ hbg).trans h, rfl⟩⟩
      simp only [List.map_append]
      rw [List.take_left']
      simp
    · have kn := keep_drew_alloc w3 (.cells ((bs.map byteV ++ news.map byteV) ++ rest).toArray te)
      have hal := heap_alloc_at w3.drew (.cells ((bs.map byteV ++ news.map byteV) ++ rest).toArray te)
      have cr : CarryM (mB b w) (fun x => mB b w x ∨ x = w3.heap.size) γ3 γ3 w3 (w3.drew.alloc (.cells ((bs.map byteV ++ news.map byteV) ++ rest).toArray te)) :=
        ⟨fun x hx => ⟨Nat.lt_of_lt_of_le hx.1 kn.size, fun h => by
          rcases h with h | h
          · exact hx.2.1 h
          · have := hx.1; omega, hx.2.2⟩, fun x hx => kn.same x hx.1 (fun h => h), kn.shape⟩
      have hsz3 : w.heap.size ≤ w3.heap.size := R3.keep.size
      refine ⟨w3.heap.size, cap', _, fun x => mB b w x ∨ x = w3.heap.size, by simp, hal, by simpa using hle, hmx, by simpa using hro, ?_, .inr hsz3, .inr rfl, R3.mem.carryM cr (fun s x hs => kn.same x (R3.mem.lt hs) (fun h => h)) (fun x hx => by
          rcases hx with h | h
          · exact Nat.lt_of_lt_of_le (R3.mem.low x h) kn.size
          · rw [h]; exact lt_of_heap hal) (fun s x hs h => by
          rcases h with h | h
          · exact R3.mem.nm s x hs h
          · have := R3.mem.lt hs; omega), fun i => (R3.env i).carryM cr fun _ _ => rfl, hk34.trans kn (fun _ _ h => h) (fun _ _ h => h.elim), fun cells t h => kn.shape b cells t h⟩
      simp only [List.map_append]
      rw [List.take_left']
      simp
  obtain ⟨g', cap', cur', M', rfl, hg4, hl4, hm4, hc4, ht4, hgg, hMg', mem4, env4, k4, sh4⟩ := key
  refine wpList_one hgA (wp_value hrun ?_)
  have hsz3 : a3.tmps.size = nt := R3.size
  have R4a : RelAt (Ctx.here M' γ3 w4 (fun s => s < 1) a3.tmps.size) γ3 ⟨S3.st.env, S3.st.heap⟩ a3 w4 := RelAt.here mem4 env4 R3.defers _
  have R4 := R4a.skipPut oA.dst (by rw [hdA]; intro j hj; injection hj with hj; subst hj; show d < a3.tmps.size; omega) (.slice (some ⟨g', 0, Option.none⟩) (bs ++ news).length cap') (.e (.c (.d (.sc (.slice (some ⟨g', 0, Option.none⟩) (bs ++ news).length cap'))))) (DRel.sc _ rfl)
  have R4' : Rel (Ctx.here M' γ3 w4 (fun s => s < 1) nt) (SA (.slice (some ⟨g', 0, Option.none⟩) (bs ++ news).length cap')).st (a3.put oA.dst (.slice (some ⟨g', 0, Option.none⟩) (bs ++ news).length cap')) w4 := by
    rw [esA]
    rw [hsz3] at R4
    rw [hdA] at R4 ⊢
    exact ⟨γ3, R4⟩
  refine ops_at hH (x4 _) rfl (Cn (mvs2 _).1) (cA _) R4' (fun a5 w5 R5 => ?_)
  show Code.wp P (.seq k3 .ret) _ a5 w5
  refine wp_seq (exec_at mix hH (x5 _) rfl (Cn (mvs2 _).2) (cts2 _) R5 fun a6 w6 R6 => wp_ret ?_)
  obtain ⟨γ6, R6⟩ := R6
  obtain ⟨rv', hv, hrel⟩ := resV_run R6 fn (hr _)
  refine ⟨R6.defers, rv', hv, by rw [hrv hrel], ?_⟩
  have g60 : γ6 0 = some (some b) := (R6.stay 0 (by show 0 < 1; omega)).trans g30
  have nO3 : ¬ ∃ s, γ3 s = some (some g') := fun ⟨s, h⟩ => mem4.nm s g' h hMg'
  have hg6 : w6.heap[g']? = some (.cells cur' te (0, 0)) := (R6.keep.same g' (lt_of_heap hg4) nO3).trans hg4
  obtain ⟨cb4, hb4, zb4⟩ := sh4 cb3 tb hb3
  obtain ⟨cb6, hb6, zb6⟩ := R6.keep.shape b cb4 tb hb4
  have hcells := hB_read R6.mem (h5 _) g60 hb6 (by rw [zb6, zb4, zb3]; rfl)
  have hbg' : b ≠ g' := fun e => nO3 ⟨0, e ▸ g30⟩
  refine ⟨g', cap', cur', ⟨by rw [hb6, hcells], hg6, hl4, hm4, hc4, ht4, hbg'⟩, hgg, ?_⟩
  refine Keep.trans (P2 := fun x => ∃ s, γ3 s = some (some x)) k4 R6.keep (fun _ _ h => h) (fun x hx ⟨s, h⟩ => ?_)
  rcases own3 s x h with h | h
  · exact .inl h
  · omega
end
end Go.Proofs.YtfbmhjooliccnaaGreatDoor.Kw
end

section
set_option maxRecDepth 100000
namespace Go.Proofs.YtfbmhjooliccnaaGreatDoor.Kw
open Go Go.Ab Go.RowKit

structure BS where
  c : CS
  bs : List UInt8
  seen : List Value

abbrev HandB := FuncId → Value → List E → List UInt8 → Option (T × List UInt8 × List Value)

def pB (b : Nat) : Value := .pointer (some ⟨b, 0, Option.none⟩)

/-- The contract of a function that writes. -/
def WSat (P : Program) (tb te : TypeId) (b : Nat) (f : FuncId) (rest : List E) (bs : List UInt8) (r : T) (bs' : List UInt8) : Prop :=
  Ent P f ∧ ∀ (M : Nat → Prop) (w : World) (vals : List Value) (g cap : Nat) (cur : Array Value), BF tb te b g bs cap cur w → M b → M g → (∀ x, M x → x < w.heap.size) → EsRel w M noG rest vals →
    Calls P f (pB b :: vals).toArray w (fun e w' => ∃ v g' cap' cur', e = .returned v ∧ (∀ (w : World) (M : Nat → Prop) (γ : G), TRel w M γ r v) ∧ BF tb te b g' bs' cap' cur' w' ∧ (g' = g ∨ w.heap.size ≤ g') ∧ Keep (bPin b g) w w')

def HandBOK (P : Program) (tb te : TypeId) (b : Nat) (h : HandB) : Prop :=
  ∀ f pv rest bs r bs' seen, h f pv rest bs = some (r, bs', seen) → (∀ p ∈ pv :: seen, p = pB b) → WSat P tb te b f rest bs r bs'

/-- The call of a function that writes. -/
def callB (h : HandB) (isW : FuncId → Bool) (n : Nat) (o : Oper) (x : BS) : Option (Option BS) :=
  match o.op, o.guard with
  | .call ⟨.value (.func f), args, _⟩, Option.none =>
    if isW f then
      match toEs (args.toList.map fun y => (x.c.st.ev y).norm) with
      | some (.c (.d (.sc pv)) :: rest) =>
        if rest.all (fun e => e.labs.isEmpty) && dok n o.dst then
          match h f pv rest x.bs with
          | some (r, bs', seen) => some (some ⟨x.c.putO o.dst r, bs', pv :: seen ++ x.seen⟩)
          | Option.none => some Option.none
        else some Option.none
      | _ => some Option.none
    else Option.none
  | _, _ => Option.none

def stepB (P : Program) (n : Nat) (ops : Array Oper) (hd : Hand) (h : HandB) (isW : FuncId → Bool) (o : Oper) (x : BS) : Option BS :=
  match callB h isW n o x with
  | some r => r
  | Option.none => match stepY P n 0 ops hd o x.c with | some c' => some ⟨c', x.bs, x.seen⟩ | Option.none => Option.none

def runB (P : Program) (n : Nat) (ops : Array Oper) (hd : Hand) (h : HandB) (isW : FuncId → Bool) : List Oper → BS → Option BS
  | [], x => some x
  | o :: l, x => match stepB P n ops hd h isW o x with | some x' => runB P n ops hd h isW l x' | Option.none => Option.none

def loopB (body : BS → Option (Out × BS)) : Nat → BS → Option (Out × BS)
  | 0, _ => Option.none
  | k + 1, x => match body x with | some (.nrm, x1) => loopB body k x1 | r => r

def execB (P : Program) (n : Nat) (hd : Hand) (h : HandB) (isW : FuncId → Bool) (lf : Nat) : Code → BS → Option (Out × BS)
  | .skip, x => some (.nrm, x)
  | .ret, x => some (.ret, x)
  | .exit i, x => some (.ext i, x)
  | .seq a b, x => (match execB P n hd h isW lf a x with | some (.nrm, x1) => execB P n hd h isW lf b x1 | r => r)
  | .cond y a b, x => (match scOf (x.c.st.ev y) with | some (.bool true) => execB P n hd h isW lf a x | some (.bool false) => execB P n hd h isW lf b x | _ => Option.none)
  | .block i a, x => (match execB P n hd h isW lf a x with | some (.ext j, x1) => if j = i then some (.nrm, x1) else some (.ext j, x1) | r => r)
  | .loop a, x => loopB (execB P n hd h isW lf a) lf x
  | .region _ ops false, x => (match runB P n ops hd h isW ops.toList x with | some x1 => some (.nrm, x1) | Option.none => Option.none)
  | _, _ => Option.none

section
variable {P : Program} {hd : Hand} {tb te : TypeId} {b g0 : Nat} {w0 : World} {nt : Nat}

def RB (tb te : TypeId) (b g0 : Nat) (w0 : World) (nt : Nat) (x : BS) (a : Act) (w : World) : Prop :=
  ∃ M γ g cap cur, RelAt ⟨M, bPin b g0, w0, noG, fun _ => False, nt⟩ γ x.c.st a w ∧ BF tb te b g x.bs cap cur w ∧ M b ∧ M g ∧ (g = g0 ∨ w0.heap.size ≤ g)

theorem noG_none {s : Nat} {x : Option Nat} (h : noG s = some x) : False := by cases h

/-- A step of the executor leaves the builder. -/
theorem RB.step {x : BS} {c' : CS} {a a' : Act} {w w' : World} {M : Nat → Prop} {γ : G} {g cap : Nat} {cur : Array Value}
    (R : RelAt ⟨M, bPin b g0, w0, noG, fun _ => False, nt⟩ γ x.c.st a w) (hB : BF tb te b g x.bs cap cur w) (hMb : M b) (hMg : M g) (hg : g = g0 ∨ w0.heap.size ≤ g) (R' : Rel (Ctx.here M γ w (fun _ => False) nt) c'.st a' w') : RB tb te b g0 w0 nt ⟨c', x.bs, x.seen⟩ a' w' := by
  obtain ⟨γ', R'⟩ := R'
  obtain ⟨hb0, hg0, h1, h2, h3, h4, h5⟩ := hB
  have nO : ∀ {y : Nat}, M y → ¬ ∃ s, γ s = some (some y) := fun hy ⟨s, h⟩ => R.mem.nm s _ h hy
  have own : ∀ s y, γ' s = some (some y) → w0.heap.size ≤ y ∨ bPin b g0 y := fun s y hs => by
    rcases R'.own s y hs with ⟨t, ht⟩ | h
    · rcases R.own t y ht with h | h
      · exact .inr h
      · exact .inl h
    · have := R.keep.size; have h3 : w.heap.size ≤ y := h; exact .inl (by show w0.heap.size ≤ y; have h4 : w0.heap.size ≤ w.heap.size := this; omega)
  refine ⟨M, γ', g, cap, cur, ⟨R'.mem, R'.env, R.keep.trans R'.keep (fun _ _ h => h) (fun y hy ⟨s, h⟩ => ?_), fun s y hs => (own s y hs).symm, fun _ h => h.elim, R'.defers, R'.size⟩, ⟨(R'.keep.same b (lt_of_heap hb0) (nO hMb)).trans hb0, (R'.keep.same g (lt_of_heap hg0) (nO hMg)).trans hg0, h1, h2, h3, h4, h5⟩, hMb, hMg, hg⟩
  rcases R.own s y h with h | h
  · exact h
  · have h3 : w0.heap.size ≤ y := h
    have h4 : y < w0.heap.size := hy
    omega

/-- The call of a writing function. -/
theorem RB.write {x : BS} {a : Act} {w : World} {M : Nat → Prop} {γ : G} {g cap : Nat} {cur : Array Value} {d : Option Nat} {r : T} {bs' : List UInt8} {seen : List Value} {v : Value} {w' : World} {g' cap' : Nat} {cur' : Array Value}
    (R : RelAt ⟨M, bPin b g0, w0, noG, fun _ => False, nt⟩ γ x.c.st a w) (hB : BF tb te b g x.bs cap cur w) (hMb : M b) (hMg : M g) (hg : g = g0 ∨ w0.heap.size ≤ g) (hd : dok nt d = true)
    (hv : ∀ (w : World) (M : Nat → Prop) (γ : G), TRel w M γ r v) (hB' : BF tb te b g' bs' cap' cur' w') (hgg : g' = g ∨ w.heap.size ≤ g') (hk : Keep (bPin b g) w w') : RB tb te b g0 w0 nt ⟨x.c.putO d r, bs', seen⟩ (a.put d v) w' := by
  have nO : ∀ {y : Nat}, M y → ¬ ∃ s, γ s = some (some y) := fun hy ⟨s, h⟩ => R.mem.nm s _ h hy
  have hpin : ∀ y, bPin b g y → M y := fun y hy => by rcases hy with rfl | rfl <;> assumption
  have hws : w0.heap.size ≤ w.heap.size := R.keep.size
  have cr : CarryM M (fun y => M y ∨ y = g') γ γ w w' := ⟨fun y hy => ⟨Nat.lt_of_lt_of_le hy.1 hk.size, fun h => by
      rcases h with h | h
      · exact hy.2.1 h
      · rcases hgg with e | e
        · rw [h, e] at hy; exact hy.2.1 hMg
        · have := hy.1; omega, hy.2.2⟩, fun y hy => hk.same y hy.1 (fun h => hy.2.1 (hpin y h)), hk.shape⟩
  have own : ∀ s y, γ s = some (some y) → w'.heap[y]? = w.heap[y]? := fun s y hs => hk.same y (R.mem.lt hs) (fun h => R.mem.nm s y hs (hpin y h))
  have mem' := R.mem.carryM cr own (fun y hy => by
      rcases hy with h | h
      · exact Nat.lt_of_lt_of_le (R.mem.low y h) hk.size
      · rw [h]; exact lt_of_heap hB'.2.1) (fun s y hs h => by
      rcases h with h | h
      · exact R.mem.nm s y hs h
      · rcases hgg with e | e
        · rw [h, e] at hs; exact R.mem.nm s g hs hMg
        · have := R.mem.lt hs; omega)
  have keep' : Keep (bPin b g0) w0 w' := R.keep.trans hk (fun _ _ h => h) (fun y hy h => by
    rcases h with h | h
    · exact .inl h
    · rcases hg with e | e
      · exact .inr (h.trans e)
      · have h4 : y < w0.heap.size := hy
        omega)
  have R1 : RelAt ⟨fun y => M y ∨ y = g', bPin b g0, w0, noG, fun _ => False, nt⟩ γ x.c.st a w' := ⟨mem', fun i => (R.env i).carryM cr fun _ _ => rfl, keep', R.own, R.stay, R.defers, R.size⟩
  have R2 := R1.skipPut d (dok_ok hd) v r (hv _ _ _)
  rw [← putO_st hd] at R2
  refine ⟨fun y => M y ∨ y = g', γ, g', cap', cur', R2, hB', .inl hMb, .inr rfl, ?_⟩
  rcases hgg with e | e
  · rw [e]; exact hg
  · exact .inr (by omega)

theorem callB_seen {h : HandB} {isW : FuncId → Bool} {n : Nat} {o : Oper} {x x' : BS} (hc : callB h isW n o x = some (some x')) : ∀ p ∈ x.seen, p ∈ x'.seen := by
  unfold callB at hc
  split at hc
  · split at hc
    · split at hc
      · split at hc
        · split at hc
          · injection hc with hc; injection hc with hc; subst hc
            intro p hp
            simp [hp]
          · injection hc with hc; cases hc
        · injection hc with hc; cases hc
      · injection hc with hc; cases hc
    · cases hc
  · cases hc
theorem stepB_seen {n : Nat} {ops : Array Oper} {h : HandB} {isW : FuncId → Bool} {o : Oper} {x x' : BS} (hs : stepB P n ops hd h isW o x = some x') : ∀ p ∈ x.seen, p ∈ x'.seen := by
  unfold stepB at hs
  split at hs
  · rename_i r hr
    subst hs
    exact callB_seen hr
  · split at hs
    · injection hs with hs; subst hs; exact fun p hp => hp
    · cases hs
theorem runB_seen {n : Nat} {ops : Array Oper} {h : HandB} {isW : FuncId → Bool} : ∀ (l : List Oper) (x x' : BS), runB P n ops hd h isW l x = some x' → ∀ p ∈ x.seen, p ∈ x'.seen
  | [], x, x', hs => by simp only [runB] at hs; injection hs with hs; subst hs; exact fun p hp => hp
  | o :: l, x, x', hs => by
    simp only [runB] at hs
    split at hs
    · rename_i x1 h1
      exact fun p hp => runB_seen l x1 x' hs p (stepB_seen h1 p hp)
    · cases hs
end
end Go.Proofs.YtfbmhjooliccnaaGreatDoor.Kw
end

section
set_option maxRecDepth 100000
namespace Go.Proofs.YtfbmhjooliccnaaGreatDoor.Kw
open Go Go.Ab Go.RowKit

section
variable {P : Program} {hd : Hand} {tb te : TypeId} {b g0 : Nat} {w0 : World} {nt : Nat} {h : HandB} {isW : FuncId → Bool}

theorem outM_low {M : Nat → Prop} {γ : G} {H : Heap} {w : World} (hm : Mem M γ H w) : ∀ x, outM M γ x → x < w.heap.size := fun x hx => by
  rcases hx with hx | ⟨s, hs⟩
  · exact hm.low x hx
  · exact hm.lt hs

theorem stepB_ok (hH : HandOK P hd) (hW : HandBOK P tb te b h) {ops : Array Oper} {o : Oper} {l : List Oper} {x x' : BS} (hs : stepB P nt ops hd h isW o x = some x') (hp : ∀ p ∈ x'.seen, p = pB b) {a : Act} {w : World} (R : RB tb te b g0 w0 nt x a w) {Q : Exit → Act → World → Prop}
    (hQ : ∀ a' w', RB tb te b g0 w0 nt x' a' w' → wpList P ops Q l a' w') : wpList P ops Q (o :: l) a w := by
  obtain ⟨M, γ, g, cap, cur, R, hB, hMb, hMg, hg⟩ := R
  unfold stepB at hs
  split at hs
  · rename_i r hr
    subst hs
    unfold callB at hr
    split at hr
    · rename_i f args ts hop hgd
      split at hr
      · rename_i hw
        split at hr
        · rename_i pv rest hes
          split at hr
          · rename_i hc
            simp only [Bool.and_eq_true, List.all_eq_true] at hc
            split at hr
            · rename_i r bs' seen hh
              injection hr with hr; injection hr with hr; subst hr
              have hps : ∀ p ∈ pv :: seen, p = pB b := fun p hp' => hp p (by simp at hp' ⊢; rcases hp' with h | h; exact .inl h; exact .inr (.inl h))
              obtain ⟨hent, hcalls⟩ := hW f pv rest x.bs r bs' seen hh hps
              have hargs := args_rel (a := a) (w := w) (M := M) (γ := γ) (ev := x.c.st.ev) args.toList (fun y _ => R.ev y) (toEs_ok hes)
              have hlen := hargs.1
              obtain ⟨v0, vr, hvr⟩ : ∃ v0 vr, args.toList.map a.eval = v0 :: vr := by
                cases hm : args.toList.map a.eval with
                | nil => rw [hm] at hlen; simp at hlen
                | cons v0 vr => exact ⟨v0, vr, rfl⟩
              rw [hvr] at hargs
              have hv0 : v0 = pB b := by
                have h1 := hargs.2 0 _ _ rfl rfl
                rw [sc_inv (w := w) (M := M) (γ := γ) h1]
                exact hps pv (by simp)
              subst hv0
              have hrest : EsRel w (outM M γ) noG rest vr := ⟨by have := hargs.1; simpa using this, fun i y u hy hu => (hargs.2 (i + 1) y u (by simpa using hy) (by simpa using hu)).toOut (fun s => E.labs_nil (hc.1 y (List.mem_of_getElem? hy)) s)⟩
              have hcall := hcalls (outM M γ) w vr g cap cur hB (.inl hMb) (.inl hMg) (outM_low R.mem) hrest
              refine wpList_one hgd ?_
              unfold Oper.wp
              have hrun : (execOp a.eval o).run P w = .ok (.enter f (pB b :: vr).toArray) w := by
                simp only [execOp, hop, resolve, Act.eval, Deferred.ofValue, Sem.run_bind, Sem.run_pure, Result.andThen_ok, invoke]
                rw [hent, ← hvr]
                congr 2
                apply Array.ext'
                simp
              rw [hrun]
              refine hcall.mono fun e w' he => ?_
              obtain ⟨v, g', cap', cur', rfl, hv, hB', hgg, hk⟩ := he
              exact hQ _ _ (RB.write R hB hMb hMg hg hc.2 hv hB' hgg hk)
            · injection hr with hr; cases hr
          · injection hr with hr; cases hr
        · injection hr with hr; cases hr
      · cases hr
    · cases hr
  · split at hs
    · rename_i c' h1
      injection hs with hs; subst hs
      have R1 : Rel (Ctx.here M γ w (fun _ => False) nt) x.c.st a w := by
        have := RelAt.here (env := x.c.st.env) (H := x.c.st.heap) R.mem R.env R.defers (fun _ => False)
        rw [R.size] at this
        exact ⟨γ, this⟩
      have h2 : runY P nt 0 ops hd [o] x.c = some c' := by simp [runY, h1]
      exact ops_then hH h2 (C := Ctx.here M γ w (fun _ => False) nt) rfl (fun s hs => hs.elim) (Nat.zero_le _) R1 (fun a' w' R' => hQ a' w' (RB.step R hB hMb hMg hg R'))
    · cases hs

theorem runB_ok (hH : HandOK P hd) (hW : HandBOK P tb te b h) {ops : Array Oper} : ∀ (l : List Oper) (x x' : BS), runB P nt ops hd h isW l x = some x' → (∀ p ∈ x'.seen, p = pB b) → ∀ {a : Act} {w : World}, RB tb te b g0 w0 nt x a w → ∀ {Q : Exit → Act → World → Prop},
    (∀ a' w', RB tb te b g0 w0 nt x' a' w' → Q .normal a' w') → wpList P ops Q l a w
  | [], x, x', hs, hp, a, w, R, Q, hQ => by
    simp only [runB] at hs; injection hs with hs; subst hs
    exact hQ a w R
  | o :: l, x, x', hs, hp, a, w, R, Q, hQ => by
    simp only [runB] at hs
    split at hs
    · rename_i x1 h1
      exact stepB_ok hH hW h1 (fun p hp1 => hp p (runB_seen l x1 x' hs p hp1)) R fun a' w' R' => runB_ok hH hW l x1 x' hs hp R' hQ
    · cases hs

/-- What a run shows. -/
def ExB (P : Program) (tb te : TypeId) (b g0 : Nat) (w0 : World) (nt : Nat) (code : Code) (x : BS) (out : Out) (x' : BS) : Prop :=
  (∀ p ∈ x.seen, p ∈ x'.seen) ∧ ((∀ p ∈ x'.seen, p = pB b) → ∀ a w, RB tb te b g0 w0 nt x a w → ∀ Q : Exit → Act → World → Prop, (∀ a' w', RB tb te b g0 w0 nt x' a' w' → Q out.exit a' w') → code.wp P Q a w)

theorem loopB_ok {c : Code} {body : BS → Option (Out × BS)} (hb : ∀ x out x', body x = some (out, x') → ExB P tb te b g0 w0 nt c x out x') : ∀ (k : Nat) (x : BS) (out : Out) (x' : BS), loopB body k x = some (out, x') → ExB P tb te b g0 w0 nt (.loop c) x out x' := by
  intro k x out x' hk
  have mono : ∀ (k : Nat) (x : BS), loopB body k x = some (out, x') → (∀ p ∈ x.seen, p ∈ x'.seen) ∧ out ≠ .nrm := by
    intro k
    induction k with
    | zero => intro x h; cases h
    | succ k ih =>
      intro x h
      simp only [loopB] at h
      split at h
      · rename_i x1 h1
        exact ⟨fun p hp => (ih x1 h).1 p ((hb x _ x1 h1).1 p hp), (ih x1 h).2⟩
      · rename_i hne
        exact ⟨(hb x out x' h).1, fun e => by subst e; exact hne x' h⟩
  refine ⟨(mono k x hk).1, fun hp a w R Q hQ => ?_⟩
  intro fb kk cs
  have key : ∀ (k : Nat) (x : BS) (a : Act) (w : World), loopB body k x = some (out, x') → RB tb te b g0 w0 nt x a w →
      ∃ e a' w', Q e a' w' ∧ Arrives P (lone (fb.at a (.code c :: .inLoop c :: kk)) cs w) fb kk cs e a' w' := by
    intro k
    induction k with
    | zero => intro x a w h; cases h
    | succ k ih =>
      intro x a w h R
      simp only [loopB] at h
      split at h
      · rename_i x1 h1
        have hx1 : ∀ p ∈ x1.seen, p = pB b := fun p hp1 => hp p ((mono k x1 h).1 p hp1)
        obtain ⟨e, a1, w1, ⟨rfl, R1⟩, harr⟩ := (hb x _ x1 h1).2 hx1 a w R (fun e a' w' => e = .normal ∧ RB tb te b g0 w0 nt x1 a' w') (fun a' w' R' => ⟨rfl, R'⟩) fb (.inLoop c :: kk) cs
        obtain ⟨e2, a2, w2, hq2, harr2⟩ := ih x1 a1 w1 h R1
        exact ⟨e2, a2, w2, hq2, .of_steps (Steps.trans harr (.one step_inLoop)) harr2⟩
      · rename_i hne
        obtain ⟨e, a1, w1, ⟨he, hq⟩, harr⟩ := (hb x out x' h).2 hp a w R (fun e a' w' => e = out.exit ∧ Q e a' w') (fun a' w' R' => ⟨rfl, hQ a' w' R'⟩) fb (.inLoop c :: kk) cs
        refine ⟨e, a1, w1, hq, ?_⟩
        subst he
        cases out with
        | nrm => exact absurd h (hne x')
        | ext i => exact .pass (x := .inLoop c) rfl (fun _ _ => .inl (by simp [Out.exit])) harr
        | ret => exact .pass (x := .inLoop c) rfl (fun _ _ => .inl (by simp [Out.exit])) harr
  obtain ⟨e, a', w', hq, harr⟩ := key k x a w hk R
  exact ⟨e, a', w', hq, .of_steps (.one step_loop) harr⟩

theorem execB_ok (hH : HandOK P hd) (hW : HandBOK P tb te b h) {lf : Nat} : ∀ (code : Code) (x : BS) (out : Out) (x' : BS), execB P nt hd h isW lf code x = some (out, x') → ExB P tb te b g0 w0 nt code x out x'
  | .skip, x, out, x', hs => by
    simp only [execB] at hs; injection hs with hs; injection hs with h1 h2; subst h1; subst h2
    exact ⟨fun p hp => hp, fun _ a w R Q hQ => wp_skip (hQ a w R)⟩
  | .ret, x, out, x', hs => by
    simp only [execB] at hs; injection hs with hs; injection hs with h1 h2; subst h1; subst h2
    exact ⟨fun p hp => hp, fun _ a w R Q hQ => wp_ret (hQ a w R)⟩
  | .exit i, x, out, x', hs => by
    simp only [execB] at hs; injection hs with hs; injection hs with h1 h2; subst h1; subst h2
    exact ⟨fun p hp => hp, fun _ a w R Q hQ => wp_exit (hQ a w R)⟩
  | .seq c d, x, out, x', hs => by
    simp only [execB] at hs
    split at hs
    · rename_i x1 h1
      have hc := execB_ok hH hW c x _ x1 h1
      have hd' := execB_ok hH hW d x1 _ x' hs
      refine ⟨fun p hp => hd'.1 p (hc.1 p hp), fun hp a w R Q hQ => wp_seq (hc.2 (fun p hp1 => hp p (hd'.1 p hp1)) a w R _ fun a' w' R' => ?_)⟩
      exact hd'.2 hp a' w' R' Q hQ
    · rename_i hne
      have hc := execB_ok hH hW c x _ x' hs
      refine ⟨hc.1, fun hp a w R Q hQ => wp_seq (hc.2 hp a w R _ fun a' w' R' => ?_)⟩
      cases out with
      | nrm => exact absurd hs (hne x')
      | ext i => exact hQ a' w' R'
      | ret => exact hQ a' w' R'
  | .cond y c d, x, out, x', hs => by
    simp only [execB] at hs
    split at hs
    · rename_i hy
      have hc := execB_ok hH hW c x _ x' hs
      refine ⟨hc.1, fun hp a w R Q hQ => ?_⟩
      have hv : a.eval y = .bool true := by
        obtain ⟨M, γ, g, cap, cur, R, _⟩ := R
        have := R.ev y
        rw [scOf_some hy] at this
        exact sc_inv this
      exact wp_cond_true hv (hc.2 hp a w R Q hQ)
    · rename_i hy
      have hc := execB_ok hH hW d x _ x' hs
      refine ⟨hc.1, fun hp a w R Q hQ => ?_⟩
      have hv : a.eval y = .bool false := by
        obtain ⟨M, γ, g, cap, cur, R, _⟩ := R
        have := R.ev y
        rw [scOf_some hy] at this
        exact sc_inv this
      exact wp_cond_false hv (hc.2 hp a w R Q hQ)
    · cases hs
  | .block i c, x, out, x', hs => by
    simp only [execB] at hs
    split at hs
    · rename_i j x1 h1
      have hc := execB_ok hH hW c x _ x1 h1
      split at hs
      · rename_i e
        injection hs with hs; injection hs with e1 e2; subst e1; subst e2
        refine ⟨hc.1, fun hp a w R Q hQ => wp_block (hc.2 hp a w R _ fun a' w' R' => ?_)⟩
        show Exit.inBlock i Q (.exit j) a' w'
        simp only [Exit.inBlock]
        rw [if_pos e]
        exact hQ a' w' R'
      · rename_i e
        injection hs with hs; injection hs with e1 e2; subst e1; subst e2
        refine ⟨hc.1, fun hp a w R Q hQ => wp_block (hc.2 hp a w R _ fun a' w' R' => ?_)⟩
        show Exit.inBlock i Q (.exit j) a' w'
        simp only [Exit.inBlock]
        rw [if_neg e]
        exact hQ a' w' R'
    · rename_i hne
      have hc := execB_ok hH hW c x _ x' hs
      refine ⟨hc.1, fun hp a w R Q hQ => wp_block (hc.2 hp a w R _ fun a' w' R' => ?_)⟩
      cases out with
      | nrm => exact hQ a' w' R'
      | ext j => exact absurd hs (hne j x')
      | ret => exact hQ a' w' R'
  | .loop c, x, out, x', hs => by
    simp only [execB] at hs
    exact loopB_ok (fun x out x' hs => execB_ok hH hW c x out x' hs) lf x out x' hs
  | .region _ ops false, x, out, x', hs => by
    simp only [execB] at hs
    split at hs
    · rename_i x1 h1
      injection hs with hs; injection hs with e1 e2; subst e1; subst e2
      refine ⟨runB_seen _ _ _ h1, fun hp a w R Q hQ => ?_⟩
      have e : ops = ops.toList.toArray := by simp
      rw [e]
      refine wp_region_lit ?_
      rw [← e]
      exact runB_ok hH hW _ _ _ h1 hp R hQ
    · cases hs
  | .region _ ops true, _, _, _, hs => by cases hs
  | .rangeFunc _ _ _ _, _, _, _, hs => by cases hs
  | .scope _, _, _, _, hs => by cases hs
  | .label _, _, _, _, hs => by cases hs
  | .goto _, _, _, _, hs => by cases hs
  | .refuse _, _, _, _, hs => by cases hs

def scE : E → Bool
  | .c (.d (.sc _)) => true
  | _ => false
def scOnly : T → Bool
  | .e x => scE x
  | .tup xs => xs.all scE
  | .any => false
theorem scE_any {x : E} (hx : scE x = true) {w w' : World} {M M' : Nat → Prop} {γ γ' : G} {v : Value} (h : ERel w M γ x v) : ERel w' M' γ' x v := by
  unfold scE at hx
  split at hx
  · cases h; exact DRel.sc _ (by assumption)
  · cases hx
theorem scOnly_any {r : T} (hx : scOnly r = true) {w : World} {M : Nat → Prop} {γ : G} {v : Value} (h : TRel w M γ r v) : ∀ (w' : World) (M' : Nat → Prop) (γ' : G), TRel w' M' γ' r v := by
  intro w' M' γ'
  cases r with
  | e x => exact scE_any hx h
  | tup xs =>
    obtain ⟨us, e, hl, hc⟩ := h
    exact ⟨us, e, hl, fun i x u hi hu => scE_any (List.all_eq_true.1 hx x (List.mem_of_getElem? hi)) (hc i x u hi hu)⟩
  | any => cases hx

theorem WSat.intro (hH : HandOK P hd) (hW : HandBOK P tb te b h) {f : FuncId} {fn : Func} {c : Code} (hf : P.funcs[f]? = some fn) (hb : fn.body = some c) (hname : (fn.name == "runtime.NumGoroutine") = false) {rest : List E} {bs : List UInt8} {lf : Nat} {out : Out} {x' : BS} (hl : rest.length + 1 ≤ fn.ntmps ∧ rest.length + 1 < 1000000)
    (hx : execB P fn.ntmps hd h isW lf c ⟨initC (.c (.d (.sc (pB b))) :: rest) 0 [], bs, []⟩ = some (out, x')) (hout : out.ends = true) {r : T} (hr : resV P fn.results.toList x'.c.st = some r) (hsc : scOnly r = true) (hp : ∀ p ∈ x'.seen, p = pB b) : WSat P tb te b f rest bs r x'.bs := by
  refine ⟨ent_of hf hname hb, fun M w vals g cap cur hB hMb hMg hlow hes => ?_⟩
  refine calls_of_wp hf hb ?_
  have hes' : EsRel w M noG (.c (.d (.sc (pB b))) :: rest) (pB b :: vals) := by
    refine ⟨by simp [hes.1], fun i y u hy hu => ?_⟩
    cases i with
    | zero => simp at hy hu; subst hy; subst hu; exact DRel.sc _ rfl
    | succ i => exact hes.2 i y u (by simpa using hy) (by simpa using hu)
  have hm : Mem M noG noHeap w := ⟨hlow, (fun s t x h1 => by cases h1), (fun s x h1 => by cases h1), (fun _ _ => rfl), (fun s cs hs => by cases hs)⟩
  have R0 : RB tb te b g w fn.ntmps ⟨initC (.c (.d (.sc (pB b))) :: rest) 0 [], bs, []⟩ { tmps := (pB b :: vals).toArray ++ Array.replicate (fn.ntmps - (pB b :: vals).toArray.size) undef, defers := [] } w := by
    refine ⟨M, noG, g, cap, cur, ?_, hB, hMb, hMg, .inl rfl⟩
    rw [initC_st (by simpa using hl.2)]
    refine ⟨hm, init_env hes' _, Keep.refl _ _, (fun s x h1 => by cases h1), fun _ h => h.elim, rfl, ?_⟩
    have := hes.1
    show ((pB b :: vals).toArray ++ Array.replicate (fn.ntmps - (pB b :: vals).toArray.size) undef).size = fn.ntmps
    simp
    omega
  have hE := execB_ok (g0 := g) (w0 := w) hH hW c _ _ _ hx
  refine hE.2 hp _ _ R0 _ fun a' w' R' => ?_
  obtain ⟨M', γ', g', cap', cur', R', hB', _, _, hgg⟩ := R'
  obtain ⟨v, hv, hrel⟩ := resV_run R' fn hr
  have fin : a'.defers = [] ∧ ∃ v, (results fn a'.tmps).run P w' = .ok v w' ∧ ∃ v' g' cap' cur', Ending.returned v = .returned v' ∧ (∀ (w : World) (M : Nat → Prop) (γ : G), TRel w M γ r v') ∧ BF tb te b g' x'.bs cap' cur' w' ∧ (g' = g ∨ w.heap.size ≤ g') ∧ Keep (bPin b g) w w' :=
    ⟨R'.defers, v, hv, v, g', cap', cur', rfl, scOnly_any hsc hrel, hB', hgg, R'.keep⟩
  cases out with
  | nrm => exact fin
  | ret => exact fin
  | ext i => cases hout
end
end Go.Proofs.YtfbmhjooliccnaaGreatDoor.Kw
end

section
set_option maxRecDepth 100000
namespace Go.Proofs.YtfbmhjooliccnaaGreatDoor.Kw
open Go Go.Ab Go.RowKit

def hF (x : V) : List (Nat × List V) := [(0, [x, .d (.sc (.slice Option.none 0 0))])]
theorem hF_mem {tb : TypeId} {b : Nat} {w : World} (h : w.heap[b]? = some (.cells #[.pointer Option.none, .slice Option.none 0 0] tb (0, 0))) : Mem (mB b w) (gB b) (mkH (hF (.d (.sc (.pointer Option.none))))) w where
  low x hx := hx.1
  inj s t x h1 h2 := (gB_some h1).1.trans (gB_some h2).1.symm
  nm s x h1 hx := hx.2 (by have := (gB_some h1).2; injection this)
  dom s hs := by
    unfold gB
    split
    · rename_i e; subst e; simp [hF, mkH] at hs
    · rfl
  blk s cs hs := by
    have e : s = 0 ∧ cs = [.d (.sc (.pointer Option.none)), .d (.sc (.slice Option.none 0 0))] := by
      simp only [hF, mkH] at hs
      split at hs
      · rename_i e; injection hs with hs; exact ⟨e, hs.symm⟩
      · cases hs
    obtain ⟨rfl, rfl⟩ := e
    refine .inl ⟨b, tb, [.pointer Option.none, .slice Option.none 0 0], [], gB_0 b, by simpa using h, rfl, fun i x u hx hu => ?_⟩
    match i, hx, hu with
    | 0, hx, hu => simp at hx hu; subst hx; subst hu; exact DRel.sc _ rfl
    | 1, hx, hu => simp at hx hu; subst hx; subst hu; exact DRel.sc _ rfl
    | i + 2, hx, hu => simp at hx

section
variable {P : Program} {hd : Hand}

/-- copyCheck at a new builder. -/
theorem copy_ok (hH : HandOK P hd) (mix : P.follows .mixedOrders = true) {tb tp tu : TypeId} {j : TypeInfo} (hp : P.underlying tp = some (.pointer tb)) (hu : P.underlying tu = some .unsafePointer) (hj : P.info? tb = some j) (hjs : j.size ≠ 0) (hlies : liesAt P P.depth tb (2 / P.cellsOf tb) 0 tb 1 = true)
    {ne : FuncId} {fne : Func} (hne : P.funcs[ne]? = some fne) (hne1 : (fne.name == "runtime.NumGoroutine") = false) (hne2 : fne.body.isNone = true) (hne3 : Extern.findNext fne = Option.none) (hne4 : Extern.find fne = some Extern.AbiNoEscape.same)
    {f : FuncId} {fn : Func} {k0 kE : Code} {OP : Array Oper} {lf : Nat} (hf : P.funcs[f]? = some fn) (hb : fn.body = some (.seq k0 (.cond (.tmp 6) (.region 1 OP false) kE))) (hnt : fn.ntmps = 20) (hres : fn.results.toList = [])
    {L1 L2 : List Oper} {o2 o3 o4 : Oper} (hOP : OP.toList = L1 ++ o2 :: o3 :: o4 :: L2) (hg2 : o2.guard = Option.none ∧ o3.guard = Option.none ∧ o4.guard = Option.none) (hd2 : o2.dst = some 9 ∧ o3.dst = some 10 ∧ o4.dst = some 11)
    (ho2 : o2.op = .convert tp tu (.tmp 8)) {ts : Array TypeId} (ho3 : o3.op = .call { callee := .value (.func ne), args := #[.tmp 9], argTypes := ts }) (ho4 : o4.op = .convert tu tp (.tmp 10))
    {H0 : Heap} {K0 K1 K2 K3 K4 : CS} (e0 : K0.st = ⟨argEnv [.c (.ptr 0 0)], H0⟩) (c0 : 1 ≤ K0.ctr) (x0 : execC P 20 1 hd lf k0 K0 = some (.nrm, K1)) (e6 : K1.st.env 6 = .e (.c (.d (.sc (.bool true))))) (x1 : runY P 20 1 OP hd L1 K1 = some K2) (e8 : K2.st.env 8 = .e (.c (.ptr 0 0)))
    (e3 : K3.st = ((K2.st.put (some 9) (.e (.c (.ptr 0 0)))).put (some 10) (.e (.c (.ptr 0 0)))).put (some 11) (.e (.c (.ptr 0 0)))) (x2 : runY P 20 1 OP hd L2 K3 = some K4) (mvs : K1.mv = [] ∧ K2.mv = [] ∧ K4.mv = []) (cts : 1 ≤ K1.ctr ∧ 1 ≤ K3.ctr)
    {M : Nat → Prop} {γ : G} {w : World} (hm : Mem M γ H0 w) {b : Nat} (hg : γ 0 = some (some b)) {cells : Array Value} (hbk : w.heap[b]? = some (.cells cells tb (0, 0))) (hsz : cells.size = 2) :
    Calls P f #[pB b] w (SatPost M γ w K4.st.heap (fun s => s < 1) (.tup [])) := by
  have hes : EsRel w M γ [.c (.ptr 0 0)] [pB b] := ⟨rfl, fun i x u hx hu => by
    match i, hx, hu with
    | 0, hx, hu => simp at hx hu; subst hx; subst hu; exact ⟨b, hg, rfl⟩
    | i + 1, hx, hu => simp at hx⟩
  refine sat_at hf hb hm hes hnt (by simp) (fun a R0 => ?_)
  have Cn : ∀ {c : CS}, c.mv = [] → ∀ s, (Ctx.here M γ w (fun s => s < 1) 20).stay s → s < 1 ∧ s ∉ c.mv := fun h s hs => ⟨hs, by rw [h]; simp⟩
  rw [← e0] at R0
  refine wp_seq (exec_at mix hH x0 rfl (Cn mvs.1) c0 ⟨_, R0⟩ fun a1 w1 R1 => ?_)
  have hv6 : a1.eval (.tmp 6) = .bool true := by
    obtain ⟨γ1, R1⟩ := R1
    have := R1.env 6
    rw [e6] at this
    exact sc_inv this
  refine wp_cond_true hv6 ?_
  have hOPa : OP = (L1 ++ o2 :: o3 :: o4 :: L2).toArray := by apply Array.ext'; simpa using hOP
  rw [hOPa]
  refine wp_region_lit ?_
  rw [← hOPa]
  refine ops_then hH x1 rfl (Cn mvs.2.1) cts.1 R1 (fun a2 w2 R2 => ?_)
  obtain ⟨γ2, R2⟩ := R2
  obtain ⟨hg2', cells2, hb2, hz2⟩ := typed_at R2 (s := 0) (by show 0 < 1; omega) hg hbk
  have hsh : w2.shape? b = some (tb, 2) := by simp [World.shape?, hb2, hz2, hsz]
  have ptrRel : TRel w2 M γ2 (.e (.c (.ptr 0 0))) (pB b) := ⟨b, hg2', rfl⟩
  have hv8 : a2.eval (.tmp 8) = pB b := by
    have := R2.env 8
    rw [e8] at this
    obtain ⟨b', hb', e⟩ := this
    have hb'' : γ2 0 = some (some b') := hb'
    rw [hg2'] at hb''
    injection hb'' with hb''; injection hb'' with hb''; subst hb''
    exact e
  have dk : ∀ {o : Oper} {d : Nat}, o.dst = some d → d < 20 → dstOK (Ctx.here M γ w (fun s => s < 1) 20).nt o.dst := fun h hd => by rw [h]; intro i hi; injection hi with hi; subst hi; exact hd
  refine wpList_one hg2.1 (op_hand R2 (v := pB b) (r := .e (.c (.ptr 0 0))) ?_ ptrRel (dk hd2.1 (by omega)) fun a3 R3 => ?_)
  · have := Lib.run_to_unsafe (P := P) w2 ⟨b, 0, Option.none⟩ hp hu hj hjs hsh (by show 0 < 2; omega)
    simp [execOp, ho2, hv8, pB, this]
  rw [hd2.1] at R3
  have hv9 : a3.eval (.tmp 9) = pB b := by
    have := R3.env 9
    have e : (K2.st.put (some 9) (.e (.c (.ptr 0 0)))).env 9 = .e (.c (.ptr 0 0)) := by simp [St.put, upd]
    rw [e] at this
    obtain ⟨b', hb', e⟩ := this
    have hb'' : γ2 0 = some (some b') := hb'
    rw [hg2'] at hb''
    injection hb'' with hb''; injection hb'' with hb''; subst hb''
    exact e
  refine wpList_one hg2.2.1 (op_hand R3 (v := pB b) (r := .e (.c (.ptr 0 0))) ?_ ptrRel (dk hd2.2.1 (by omega)) fun a4 R4 => ?_)
  · have h1 := run_callFunc_extern (P := P) hne hne1 hne2 hne3 hne4 #[pB b] w2
    rw [Lib.run_noEscape] at h1
    have hv9' : a3.tmps.getD 9 undef = pB b := hv9
    simp [execOp, ho3, resolve, Act.eval, hv9', Deferred.ofValue, invoke, h1]
  rw [hd2.2.1] at R4
  have hv10 : a4.eval (.tmp 10) = pB b := by
    have := R4.env 10
    have e : ((K2.st.put (some 9) (.e (.c (.ptr 0 0)))).put (some 10) (.e (.c (.ptr 0 0)))).env 10 = .e (.c (.ptr 0 0)) := by simp [St.put, upd]
    rw [e] at this
    obtain ⟨b', hb', e⟩ := this
    have hb'' : γ2 0 = some (some b') := hb'
    rw [hg2'] at hb''
    injection hb'' with hb''; injection hb'' with hb''; subst hb''
    exact e
  refine wpList_one hg2.2.2 (op_hand R4 (v := pB b) (r := .e (.c (.ptr 0 0))) ?_ ptrRel (dk hd2.2.2 (by omega)) fun a5 R5 => ?_)
  · have := Lib.run_from_unsafe (P := P) w2 ⟨b, 0, Option.none⟩ hu hp hj hsh hlies
    simp [execOp, ho4, hv10, pB, this]
  rw [hd2.2.2, ← e3] at R5
  refine ops_at hH x2 rfl (Cn mvs.2.2) cts.2 ⟨γ2, R5⟩ (fun a6 w6 R6 => ?_)
  obtain ⟨γ6, R6⟩ := R6
  exact ⟨.inl rfl, γ6, K4.st, R6, by rw [hres]; rfl, rfl⟩

/-- The first WriteString. -/
theorem fresh_ok (hH : HandOK P hd) (mix : P.follows .mixedOrders = true) {tb te tsl0 tst : TypeId} {zs : List V} (ht : tsl P tsl0 = some te) (hk : tsz P te = some 1) (hy : tby P te = some 1) (hz : tzv P te = some zs) (hzk : zs.length = 1) (hst : tstr P tst = true)
    {f g8 : FuncId} {fn : Func} {k0 k3 : Code} {B1 OP : Array Oper} {lf : Nat} (hf : P.funcs[f]? = some fn) (hb : fn.body = some (.seq k0 (.seq (.region 1 B1 false) (.seq (.region 2 OP false) (.seq k3 .ret))))) (hnt : fn.ntmps = 19)
    {Lm L1 L2 : List Oper} {oC oA : Oper} (hB1 : B1.toList = Lm ++ [oC]) (hOP : OP.toList = L1 ++ oA :: L2) (hgC : oC.guard = Option.none) (hgA : oA.guard = Option.none) (hdC : oC.dst = some 7) (hdA : oA.dst = some 14) {tc : Array TypeId} (hoC : oC.op = .call { callee := .value (.func g8), args := #[.tmp 6], argTypes := tc })
    (hoA : oA.op = .call { callee := .builtin .append, args := #[.tmp 12, .tmp 13], argTypes := #[tsl0, tst] }) (hent : Ent P g8) {s : ByteArray} (hs0 : s.size ≠ 0) (hfit : s.size ≤ 140737488355328)
    {S0 S1 S2 S3 S4 : CS} {H1 : Heap} (es0 : S0.st = ⟨argEnv [.c (.ptr 0 0), .c (.d (.sc (.string s)))], mkH (hF (.d (.sc (.pointer Option.none))))⟩) (c0 : 1 ≤ S0.ctr) (x1 : execC P 19 1 hd lf k0 S0 = some (.nrm, S1)) (x2 : runY P 19 1 B1 hd Lm S1 = some S2) (e6 : S2.st.env 6 = .e (.c (.ptr 0 0))) (h2 : S2.st.heap = mkH (hF (.d (.sc (.pointer Option.none)))))
    (nm2 : nmBel S2 1 = true)
    (copy : ∀ {M : Nat → Prop} {γ : G} {w : World}, Mem M γ (mkH (hF (.d (.sc (.pointer Option.none))))) w → ∀ {b : Nat}, γ 0 = some (some b) → ∀ {cells : Array Value}, w.heap[b]? = some (.cells cells tb (0, 0)) → cells.size = 2 → Calls P g8 #[pB b] w (SatPost M γ w H1 (fun s => s < 1) (.tup [])))
    (es3 : S3.st = ⟨upd S2.st.env 7 (.tup []), H1⟩) (c3 : 1 ≤ S3.ctr) (x4 : runY P 19 1 OP hd L1 S3 = some S4) (e12 : S4.st.env 12 = .e (.c (.d (.sc (.slice Option.none 0 0))))) (e13 : S4.st.env 13 = .e (.c (.d (.sc (.string s)))))
    (mvs : S1.mv = [] ∧ S2.mv = [] ∧ S4.mv = []) (ct1 : 1 ≤ S1.ctr)
    {SA S5 S6 : Value → CS} (esA : ∀ v, (SA v).st = ⟨upd S4.st.env 14 (.e (.c (.d (.sc v)))), S4.st.heap⟩) (cA : ∀ v, 1 ≤ (SA v).ctr) (x5 : ∀ v, runY P 19 1 OP hd L2 (SA v) = some (S5 v)) (x6 : ∀ v, execC P 19 1 hd lf k3 (S5 v) = some (.nrm, S6 v)) (mvs2 : ∀ v, (S5 v).mv = [] ∧ (S6 v).mv = []) (cts2 : ∀ v, 1 ≤ (S5 v).ctr)
    (h6 : ∀ v, (S6 v).st.heap 0 = some [.ptr 0 0, .d (.sc v)]) {r : T} {rv : Value} (hr : ∀ v, resV P fn.results.toList (S6 v).st = some r) (hrv : ∀ {w : World} {M : Nat → Prop} {γ : G} {v : Value}, TRel w M γ r v → v = rv)
    {b : Nat} {w : World} (hbk : w.heap[b]? = some (.cells #[.pointer Option.none, .slice Option.none 0 0] tb (0, 0))) :
    Calls P f #[pB b, .string s] w (fun e w' => e = .returned rv ∧ ∃ g' cap cur, BF tb te b g' s.data.toList cap cur w' ∧ w.heap.size ≤ g' ∧ Keep (fun x => x = b) w w') := by
  have hm0 := hF_mem hbk
  have hbs := lt_of_heap hbk
  have hes : EsRel w (mB b w) (gB b) [.c (.ptr 0 0), .c (.d (.sc (.string s)))] [pB b, .string s] := by
    refine ⟨rfl, fun i x u hx hu => ?_⟩
    match i, hx, hu with
    | 0, hx, hu => simp at hx hu; subst hx; subst hu; exact ⟨b, gB_0 b, rfl⟩
    | 1, hx, hu => simp at hx hu; subst hx; subst hu; exact DRel.sc _ rfl
    | i + 2, hx, hu => simp at hx
  refine calls_of_wp hf hb ?_
  have R0 : RelAt (Ctx.here (mB b w) (gB b) w (fun s => s < 1) 19) (gB b) S0.st { tmps := #[pB b, .string s] ++ Array.replicate (fn.ntmps - (#[pB b, .string s] : Array Value).size) undef, defers := [] } w := by
    have := RelAt.here (env := argEnv [.c (.ptr 0 0), .c (.d (.sc (.string s)))]) (a := { tmps := #[pB b, .string s] ++ Array.replicate (fn.ntmps - (#[pB b, .string s] : Array Value).size) undef, defers := [] }) hm0 (init_env hes _) rfl (fun s => s < 1)
    have e : (#[pB b, .string s] ++ Array.replicate (fn.ntmps - (#[pB b, .string s] : Array Value).size) undef).size = 19 := by rw [hnt]; simp
    rw [es0]
    rw [← e]
    exact this
  have Cn : ∀ {M : Nat → Prop} {γ : G} {w : World} {c : CS}, c.mv = [] → ∀ s, (Ctx.here M γ w (fun s => s < 1) 19).stay s → s < 1 ∧ s ∉ c.mv := fun h s hs => ⟨hs, by rw [h]; simp⟩
  have own0 : ∀ {x : Nat}, (∃ s, gB b s = some (some x)) → x = b := fun ⟨s, h⟩ => by have := (gB_some h).2; injection this
  refine wp_seq (exec_at mix hH x1 rfl (Cn mvs.1) c0 ⟨_, R0⟩ fun a1 w1 R1 => ?_)
  refine wp_seq ?_
  have hB1a : B1 = (Lm ++ [oC]).toArray := by apply Array.ext'; simpa using hB1
  rw [hB1a]
  refine wp_region_lit ?_
  rw [← hB1a]
  refine ops_then hH x2 rfl (Cn mvs.2.1) ct1 R1 (fun a2 w2 R2 => ?_)
  obtain ⟨γ2, R2⟩ := R2
  obtain ⟨g20, cells2, hb2, hz2⟩ := typed_at R2 (s := 0) (by show 0 < 1; omega) (gB_0 b) hbk
  have hv6 : a2.eval (.tmp 6) = pB b := by
    have := R2.env 6
    rw [e6] at this
    obtain ⟨b', hb', e⟩ := this
    have hb'' : γ2 0 = some (some b') := hb'
    rw [g20] at hb''
    injection hb'' with hb''; injection hb'' with hb''; subst hb''
    exact e
  refine wpList_one hgC (call_at R2 hoC hent (vals := [pB b]) (by simpa using hv6) (copy (by have := R2.mem; rw [h2] at this; exact this) g20 hb2 hz2) (fun s hs => ?_) (by rw [hdC]; intro i hi; injection hi with hi; subst hi; show 7 < 19; omega) fun γ3 a3 w3 R3 => ?_)
  · rcases hs with ⟨i, hi⟩ | h
    · exact nmBel_ok nm2 hi
    · exact h
  show Code.wp P (.seq (.region 2 OP false) (.seq k3 .ret)) _ a3 w3
  have R3' : RelAt (Ctx.here (mB b w) (gB b) w (fun s => s < 1) 19) γ3 S3.st a3 w3 := by
    rw [es3]
    rw [hdC] at R3
    exact R3
  refine wp_seq ?_
  have hOPa : OP = (L1 ++ oA :: L2).toArray := by apply Array.ext'; simpa using hOP
  rw [hOPa]
  refine wp_region_lit ?_
  rw [← hOPa]
  refine ops_then hH x4 rfl (Cn mvs.2.2) c3 ⟨γ3, R3'⟩ (fun a4 w4 R4 => ?_)
  obtain ⟨γ4, R4⟩ := R4
  obtain ⟨g40, cells4, hb4, hz4⟩ := typed_at R4 (s := 0) (by show 0 < 1; omega) (gB_0 b) hbk
  have hv12 : a4.eval (.tmp 12) = .slice Option.none 0 0 := by have := R4.env 12; rw [e12] at this; exact sc_inv this
  have hv13 : a4.eval (.tmp 13) = .string s := by have := R4.env 13; rw [e13] at this; exact sc_inv this
  obtain ⟨v', w5, hrun, hres⟩ := append_runS (P := P) (w := w4) oA.type ht hk hy hz hzk hst s (m := s.size) (us := bytesL s) rfl rfl rfl (A := Option.none) (len := 0) (cap := 0) (vs := []) (spare := []) (.inr ⟨rfl, rfl⟩) (Nat.le_refl _) (Nat.zero_le _) (by simp) (by rw [bytesL_len]; omega) (fun u hu => by
      simp only [bytesL, List.mem_map] at hu
      obtain ⟨x, _, rfl⟩ := hu
      rfl) (by simpa using hfit) (by simp only [maxLen]; omega)
  rcases hres with ⟨_, hle, _⟩ | ⟨cap', rest, rfl, hle, hmx, hro, rfl⟩
  · exact absurd (by omega) hs0
  have eb : bytesL s = s.data.toList.map byteV := rfl
  have hl : s.data.toList.length = s.size := Array.length_toList
  have kn := keep_drew_alloc w4 (.cells (([] ++ bytesL s) ++ rest).toArray te)
  have hal := heap_alloc_at w4.drew (.cells (([] ++ bytesL s) ++ rest).toArray te)
  have hsz4 : w.heap.size ≤ w4.heap.size := R4.keep.size
  have cr : CarryM (mB b w) (fun x => mB b w x ∨ x = w4.heap.size) γ4 γ4 w4 (w4.drew.alloc (.cells (([] ++ bytesL s) ++ rest).toArray te)) :=
    ⟨fun x hx => ⟨Nat.lt_of_lt_of_le hx.1 kn.size, fun h => by
      rcases h with h | h
      · exact hx.2.1 h
      · have := hx.1; omega, hx.2.2⟩, fun x hx => kn.same x hx.1 (fun h => h), kn.shape⟩
  have mem5 := R4.mem.carryM cr (fun s x hs => kn.same x (R4.mem.lt hs) (fun h => h)) (fun x hx => by
          rcases hx with h | h
          · exact Nat.lt_of_lt_of_le (R4.mem.low x h) kn.size
          · rw [h]; exact lt_of_heap hal) (fun s x hs h => by
          rcases h with h | h
          · exact R4.mem.nm s x hs h
          · have := R4.mem.lt hs; omega)
  refine wpList_one hgA (wp_value (exec_appendS hoA (by rw [hv12, hv13]; exact hrun)) ?_)
  have hsz3 : a4.tmps.size = 19 := R4.size
  have R5a : RelAt (Ctx.here (fun x => mB b w x ∨ x = w4.heap.size) γ4 (w4.drew.alloc (.cells (([] ++ bytesL s) ++ rest).toArray te)) (fun s => s < 1) a4.tmps.size) γ4 ⟨S4.st.env, S4.st.heap⟩ a4 (w4.drew.alloc (.cells (([] ++ bytesL s) ++ rest).toArray te)) := RelAt.here mem5 (fun i => (R4.env i).carryM cr fun _ _ => rfl) R4.defers _
  have R5 := R5a.skipPut oA.dst (by rw [hdA]; intro j hj; injection hj with hj; subst hj; show 14 < a4.tmps.size; omega) (.slice (some ⟨w4.heap.size, 0, Option.none⟩) (0 + s.size) cap') (.e (.c (.d (.sc (.slice (some ⟨w4.heap.size, 0, Option.none⟩) (0 + s.size) cap'))))) (DRel.sc _ rfl)
  have R5' : Rel (Ctx.here (fun x => mB b w x ∨ x = w4.heap.size) γ4 (w4.drew.alloc (.cells (([] ++ bytesL s) ++ rest).toArray te)) (fun s => s < 1) 19) (SA (.slice (some ⟨w4.heap.size, 0, Option.none⟩) (0 + s.size) cap')).st (a4.put oA.dst (.slice (some ⟨w4.heap.size, 0, Option.none⟩) (0 + s.size) cap')) (w4.drew.alloc (.cells (([] ++ bytesL s) ++ rest).toArray te)) := by
    rw [esA]
    rw [hsz3] at R5
    rw [hdA] at R5 ⊢
    exact ⟨γ4, R5⟩
  refine ops_at hH (x5 _) rfl (Cn (mvs2 _).1) (cA _) R5' (fun a6 w6 R6 => ?_)
  show Code.wp P (.seq k3 .ret) _ a6 w6
  refine wp_seq (exec_at mix hH (x6 _) rfl (Cn (mvs2 _).2) (cts2 _) R6 fun a7 w7 R7 => wp_ret ?_)
  obtain ⟨γ7, R7⟩ := R7
  obtain ⟨rv', hv, hrel⟩ := resV_run R7 fn (hr _)
  refine ⟨R7.defers, rv', hv, by rw [hrv hrel], ?_⟩
  have g70 : γ7 0 = some (some b) := (R7.stay 0 (by show 0 < 1; omega)).trans g40
  have nO4 : ¬ ∃ s, γ4 s = some (some w4.heap.size) := fun ⟨s, h⟩ => by have := R4.mem.lt h; omega
  have hg7 := (R7.keep.same w4.heap.size (lt_of_heap hal) nO4).trans hal
  obtain ⟨cb5, hb5, zb5⟩ := kn.shape b cells4 tb hb4
  obtain ⟨cb7, hb7, zb7⟩ := R7.keep.shape b cb5 tb hb5
  have hcells := hB_read R7.mem (h6 _) g70 hb7 (by rw [zb7, zb5, hz4]; rfl)
  refine ⟨w4.heap.size, cap', _, ⟨by rw [hb7, hcells, hl, Nat.zero_add], hg7, by rw [hl]; omega, hmx, by simpa using hro, ?_, by omega⟩, hsz4, ?_⟩
  · rw [hl, ← eb]
    simp only [List.nil_append]
    rw [List.take_left']
    exact bytesL_len s
  · have k4 : Keep (fun x => x = b) w w4 := ⟨R4.keep.os, R4.keep.tape, R4.keep.output, R4.keep.drawn, R4.keep.size, fun x hx hn => R4.keep.same x hx (fun h => hn (own0 h)), R4.keep.shape⟩
    refine (k4.trans kn (fun _ _ h => h) (fun _ _ h => h.elim)).trans (P2 := fun x => ∃ s, γ4 s = some (some x)) R7.keep (fun _ _ h => h) (fun x hx ⟨s, h⟩ => ?_)
    rcases R4.own s x h with h | h
    · exact own0 h
    · have h3 : w.heap.size ≤ x := h
      omega
end
end Go.Proofs.YtfbmhjooliccnaaGreatDoor.Kw
end

section
set_option maxRecDepth 100000
namespace Go.Proofs.YtfbmhjooliccnaaGreatDoor.Kw
open Go Go.Ab Go.RowKit

theorem freeze_size (w : World) (g : Addr) (n : Nat) : (w.freeze g n).heap.size = w.heap.size := by
  unfold World.freeze
  split <;> simp
theorem freeze_os (w : World) (g : Addr) (n : Nat) : (w.freeze g n).os = w.os ∧ (w.freeze g n).tape = w.tape ∧ (w.freeze g n).output = w.output ∧ (w.freeze g n).drawn = w.drawn := by
  unfold World.freeze
  split <;> exact ⟨rfl, rfl, rfl, rfl⟩
theorem freeze_other (w : World) (g : Addr) (n x : Nat) (h : x ≠ g.block) : (w.freeze g n).heap[x]? = w.heap[x]? := by
  unfold World.freeze
  split
  · rfl
  · simp [Array.getElem?_modify, Ne.symm h]

section
variable {P : Program} {hd : Hand} {h : HandB} {isW : FuncId → Bool} {tb te : TypeId}

theorem key_ok (hH : HandOK P hd) (hW : ∀ b, HandBOK P tb te b h) (mix : P.follows .mixedOrders = true) {f fW fS : FuncId} {fn : Func} {k0 k3 k8 : Code} {A B D : Array Oper} {lf : Nat} (hf : P.funcs[f]? = some fn) (hname : (fn.name == "runtime.NumGoroutine") = false)
    (hb : fn.body = some (.seq k0 (.seq (.region 1 A false) (.seq (.region 2 B false) (.seq k3 (.seq k8 (.seq (.region 9 D false) .ret))))))) (hnt : fn.ntmps = 29) (hres : fn.results.toList = [.tmp 2])
    {oN oW oS oM : Oper} {L : List Oper} (hA : A.toList = [oN]) (hB : B.toList = L ++ [oW]) (hD : D.toList = [oS, oM]) (gN : oN.guard = Option.none ∧ oW.guard = Option.none ∧ oS.guard = Option.none ∧ oM.guard = Option.none) (dN : oN.dst = some 3 ∧ oW.dst = some 9 ∧ oS.dst = some 28 ∧ oM.dst = some 2)
    (opN : oN.op = .alloc tb) {tw ts : Array TypeId} (opW : oW.op = .call { callee := .value (.func fW), args := #[.tmp 3, .tmp 8], argTypes := tw }) (opS : oS.op = .call { callee := .value (.func fS), args := #[.tmp 3], argTypes := ts }) (opM : oM.op = .assign (.tmp 28))
    (hzero : ∀ w : World, (zeroValue tb).run P w = .ok (.agg #[.pointer Option.none, .slice Option.none 0 0]) w) (entW : Ent P fW) (entS : Ent P fS)
    {pt : E} {s : ByteArray} {A0 A1 : CS} {A2 A3 : Nat → CS} (ea0 : A0.st = ⟨argEnv [pt], noHeap⟩) (x1 : execC P 29 0 hd lf k0 A0 = some (.nrm, A1)) (e2 : ∀ b, (A2 b).st = A1.st.put (some 3) (.e (.c (.d (.sc (pB b)))))) (x3 : ∀ b, runY P 29 0 B hd L (A2 b) = some (A3 b))
    (e3 : ∀ b, (A3 b).st.env 3 = .e (.c (.d (.sc (pB b))))) (e8 : ∀ b, (A3 b).st.env 8 = .e (.c (.d (.sc (.string s))))) {rv : Value} {rT : T} (hrT : ∀ (w : World) (M : Nat → Prop) (γ : G), TRel w M γ rT rv)
    (first : ∀ {b : Nat} {w : World}, w.heap[b]? = some (.cells #[.pointer Option.none, .slice Option.none 0 0] tb (0, 0)) → Calls P fW #[pB b, .string s] w (fun e w' => e = .returned rv ∧ ∃ g' cap cur, BF tb te b g' s.data.toList cap cur w' ∧ w.heap.size ≤ g' ∧ Keep (fun x => x = b) w w'))
    {X4 X5 X6 : Nat → BS} (e4 : ∀ b, (X4 b).c.st = (A3 b).st.put (some 9) rT) (e4b : ∀ b, (X4 b).bs = s.data.toList) (x5 : ∀ b, execB P 29 hd h isW lf k3 (X4 b) = some (.nrm, X5 b)) (x6 : ∀ b, execB P 29 hd h isW lf k8 (X5 b) = some (.nrm, X6 b)) (hseen : ∀ b, ∀ p ∈ (X6 b).seen, p = pB b)
    (e6 : ∀ b, (X6 b).c.st.env 3 = .e (.c (.d (.sc (pB b))))) {bs : List UInt8} (hbs : ∀ b, (X6 b).bs = bs) (hne : bs ≠ [])
    (str : ∀ {b g cap : Nat} {cur : Array Value} {w : World}, BF tb te b g bs cap cur w → Calls P fS #[pB b] w (fun e w' => e = .returned (.string ⟨bs.toArray⟩) ∧ w' = w.drew.freeze ⟨g, 0, Option.none⟩ bs.length)) :
    Pur P f [pt] (.e (.c (.d (.sc (.string ⟨bs.toArray⟩))))) := by
  refine ⟨ent_of hf hname hb, fun M γ w vals hm hargs => ?_⟩
  have hγ : γ = noG := funext fun s => hm.dom s rfl
  subst hγ
  refine calls_of_wp hf hb ?_
  have R0 : RelAt (Ctx.here M noG w (fun _ => False) 29) noG A0.st { tmps := vals.toArray ++ Array.replicate (fn.ntmps - vals.toArray.size) undef, defers := [] } w := by
    have := RelAt.here (env := argEnv [pt]) (a := { tmps := vals.toArray ++ Array.replicate (fn.ntmps - vals.toArray.size) undef, defers := [] }) hm (init_env hargs _) rfl (fun _ => False)
    have e : (vals.toArray ++ Array.replicate (fn.ntmps - vals.toArray.size) undef).size = 29 := by
      have := hargs.1
      rw [hnt]; simp at this ⊢; omega
    rw [ea0]
    rw [← e]
    exact this
  refine wp_seq (exec_at mix hH x1 rfl (fun s (hs : False) => hs.elim) (Nat.zero_le _) ⟨_, R0⟩ fun a1 w1 R1 => ?_)
  obtain ⟨γ1, R1⟩ := R1
  have hs1 : w.heap.size ≤ w1.heap.size := R1.keep.size
  have own1 : ∀ s y, γ1 s = some (some y) → w.heap.size ≤ y := fun s y hs => by
    rcases R1.own s y hs with ⟨t, ht⟩ | h
    · cases ht
    · exact h
  -- the new builder
  refine wp_seq ?_
  have hAa : A = [oN].toArray := by apply Array.ext'; simpa using hA
  rw [hAa]
  refine wp_region_lit ?_
  have hrunN : (execOp a1.eval oN).run P w1 = .ok (.value (pB w1.heap.size)) (w1.alloc (.cells #[.pointer Option.none, .slice Option.none 0 0] tb)) := by
    simp [execOp, opN, Instr.alloc, hzero, newVar, newRow, Value.cells, pB]
  refine wpList_one gN.1 (wp_value hrunN ?_)
  obtain ⟨b, hbe⟩ : ∃ b, b = w1.heap.size := ⟨_, rfl⟩
  obtain ⟨w2, hw2⟩ : ∃ w2, w2 = w1.alloc (.cells #[.pointer Option.none, .slice Option.none 0 0] tb) := ⟨_, rfl⟩
  rw [← hw2, ← hbe]
  have kA : Keep nobody w1 w2 := by rw [hw2]; exact keep_alloc w1 _
  have hb2 : w2.heap[b]? = some (.cells #[.pointer Option.none, .slice Option.none 0 0] tb (0, 0)) := by rw [hw2, hbe]; exact heap_alloc_at w1 _
  have cr : CarryM M (fun x => M x ∨ x = b) γ1 γ1 w1 w2 := ⟨fun x hx => ⟨Nat.lt_of_lt_of_le hx.1 kA.size, fun h => by
      rcases h with h | h
      · exact hx.2.1 h
      · have := hx.1; omega, hx.2.2⟩, fun x hx => kA.same x hx.1 (fun h => h), kA.shape⟩
  have mem2 := R1.mem.carryM cr (fun s x hs => kA.same x (R1.mem.lt hs) (fun h => h)) (fun x hx => by
      rcases hx with h | h
      · exact Nat.lt_of_lt_of_le (R1.mem.low x h) kA.size
      · rw [h]; exact lt_of_heap hb2) (fun s x hs h => by
      rcases h with h | h
      · exact R1.mem.nm s x hs h
      · have := R1.mem.lt hs; omega)
  have hsz1 : a1.tmps.size = 29 := R1.size
  have R2a : RelAt (Ctx.here (fun x => M x ∨ x = b) γ1 w2 (fun _ => False) a1.tmps.size) γ1 ⟨A1.st.env, A1.st.heap⟩ a1 w2 := RelAt.here mem2 (fun i => (R1.env i).carryM cr fun _ _ => rfl) R1.defers _
  have R2 := R2a.skipPut oN.dst (by rw [dN.1]; intro j hj; injection hj with hj; subst hj; show 3 < a1.tmps.size; omega) (pB b) (.e (.c (.d (.sc (pB b))))) (DRel.sc _ rfl)
  have R2' : Rel (Ctx.here (fun x => M x ∨ x = b) γ1 w2 (fun _ => False) 29) (A2 b).st (a1.put oN.dst (pB b)) w2 := by
    rw [e2]
    rw [hsz1] at R2
    rw [dN.1] at R2 ⊢
    exact ⟨γ1, R2⟩
  show Code.wp P (.seq (.region 2 B false) (.seq k3 (.seq k8 (.seq (.region 9 D false) .ret)))) _ _ _
  refine wp_seq ?_
  have hBa : B = (L ++ [oW]).toArray := by apply Array.ext'; simpa using hB
  rw [hBa]
  refine wp_region_lit ?_
  rw [← hBa]
  refine ops_then hH (x3 b) rfl (fun s (hs : False) => hs.elim) (Nat.zero_le _) R2' (fun a3 w3 R3 => ?_)
  obtain ⟨γ3, R3⟩ := R3
  have hb3 : w3.heap[b]? = some (.cells #[.pointer Option.none, .slice Option.none 0 0] tb (0, 0)) := (R3.keep.same b (lt_of_heap hb2) (fun ⟨s, h⟩ => mem2.nm s b h (.inr rfl))).trans hb2
  have hv3 : a3.eval (.tmp 3) = pB b := by have := R3.env 3; rw [e3] at this; exact sc_inv this
  have hv8 : a3.eval (.tmp 8) = .string s := by have := R3.env 8; rw [e8] at this; exact sc_inv this
  have hs2 : w1.heap.size ≤ w2.heap.size := kA.size
  have hs3 : w2.heap.size ≤ w3.heap.size := R3.keep.size
  have own3 : ∀ s y, γ3 s = some (some y) → w.heap.size ≤ y := fun s y hs => by
    rcases R3.own s y hs with ⟨t, ht⟩ | h
    · exact own1 t y ht
    · have h3 : w2.heap.size ≤ y := h
      omega
  refine wpList_one gN.2.1 ?_
  unfold Oper.wp
  have hrunW : (execOp a3.eval oW).run P w3 = .ok (.enter fW #[pB b, .string s]) w3 := by
    have hv3' : a3.tmps.getD 3 undef = pB b := hv3
    have hv8' : a3.tmps.getD 8 undef = .string s := hv8
    simp only [execOp, opW, resolve, Act.eval, Deferred.ofValue, Sem.run_bind, Sem.run_pure, Result.andThen_ok, invoke]
    rw [entW]
    congr 2
    apply Array.ext'
    simp [hv3, hv8]
  rw [hrunW]
  refine (first hb3).mono fun e w4 he => ?_
  obtain ⟨rfl, g, cap, cur, hBF, hgs, k4⟩ := he
  show Code.wp P (.seq k3 (.seq k8 (.seq (.region 9 D false) .ret))) _ _ _
  have hs4 : w3.heap.size ≤ w4.heap.size := k4.size
  have kw4 : Keep (bPin b g) w w4 := by
    refine ((R1.keep.trans (P3 := bPin b g) kA (fun x hx ⟨s, h⟩ => by cases h) (fun _ _ h => h.elim)).trans (P3 := bPin b g) R3.keep (fun _ _ h => h) (fun x hx ⟨s, h⟩ => ?_)).trans k4 (fun _ _ h => h) (fun x hx h => .inl h)
    have := own1 s x h
    have h3 : x < w.heap.size := hx
    omega
  have RB4 : RB tb te b g w 29 (X4 b) (a3.put oW.dst rv) w4 := by
    have cr4 : CarryM (fun x => M x ∨ x = b) (fun x => (M x ∨ x = b) ∨ x = g) γ3 γ3 w3 w4 := ⟨fun x hx => ⟨Nat.lt_of_lt_of_le hx.1 hs4, fun h => by
        rcases h with h | h
        · exact hx.2.1 h
        · have := hx.1; omega, hx.2.2⟩, fun x hx => k4.same x hx.1 (fun e => hx.2.1 (.inr e)), k4.shape⟩
    have mem4 := R3.mem.carryM cr4 (fun s x hs => k4.same x (R3.mem.lt hs) (fun e => R3.mem.nm s x hs (.inr e))) (fun x hx => by
        rcases hx with h | h
        · exact Nat.lt_of_lt_of_le (R3.mem.low x h) hs4
        · rw [h]; exact lt_of_heap hBF.2.1) (fun s x hs h => by
        rcases h with h | h
        · exact R3.mem.nm s x hs h
        · have := R3.mem.lt hs; omega)
    have R4 : RelAt ⟨fun x => (M x ∨ x = b) ∨ x = g, bPin b g, w, noG, fun _ => False, 29⟩ γ3 (A3 b).st a3 w4 := ⟨mem4, fun i => (R3.env i).carryM cr4 fun _ _ => rfl, kw4, fun s y hs => .inr (own3 s y hs), fun _ h => h.elim, R3.defers, R3.size⟩
    have R4' := R4.skipPut oW.dst (by rw [dN.2.1]; intro j hj; injection hj with hj; subst hj; show 9 < 29; omega) rv rT (hrT _ _ _)
    rw [dN.2.1] at R4' ⊢
    rw [← e4] at R4'
    exact ⟨_, γ3, g, cap, cur, R4', by rw [e4b]; exact hBF, .inl (.inr rfl), .inr rfl, .inl rfl⟩
  have hX5 := execB_ok (g0 := g) (w0 := w) hH (hW b) k3 _ _ _ (x5 b)
  have hX6 := execB_ok (g0 := g) (w0 := w) hH (hW b) k8 _ _ _ (x6 b)
  refine wp_seq (hX5.2 (fun p hp => hseen b p (hX6.1 p hp)) _ _ RB4 _ fun a5 w5 RB5 => ?_)
  refine wp_seq (hX6.2 (hseen b) _ _ RB5 _ fun a6 w6 RB6 => ?_)
  obtain ⟨M6, γ6, g6, cap6, cur6, R6, hB6, _, _, hg6⟩ := RB6
  rw [hbs] at hB6
  have hv63 : a6.eval (.tmp 3) = pB b := by have := R6.env 3; rw [e6] at this; exact sc_inv this
  refine wp_seq ?_
  have hDa : D = [oS, oM].toArray := by apply Array.ext'; simpa using hD
  rw [hDa]
  refine wp_region_lit ?_
  refine wpList_one gN.2.2.1 ?_
  unfold Oper.wp
  have hrunS : (execOp a6.eval oS).run P w6 = .ok (.enter fS #[pB b]) w6 := by
    have hv3' : a6.tmps.getD 3 undef = pB b := hv63
    simp only [execOp, opS, resolve, Act.eval, Deferred.ofValue, Sem.run_bind, Sem.run_pure, Result.andThen_ok, invoke]
    rw [entS]
    congr 2
    apply Array.ext'
    simp [hv63]
  rw [hrunS]
  refine (str hB6).mono fun e w7 he => ?_
  obtain ⟨rfl, rfl⟩ := he
  have hsz6 : a6.tmps.size = 29 := R6.size
  have h28 : (a6.put oS.dst (.string ⟨bs.toArray⟩)).eval (.tmp 28) = .string ⟨bs.toArray⟩ := by
    show (a6.put oS.dst (.string ⟨bs.toArray⟩)).tmps.getD 28 undef = _
    rw [dN.2.2.1, getD_put _ _ _ _ (by intro j hj; injection hj with hj; subst hj; omega)]
    simp
  refine wpList_one gN.2.2.2 (wp_value (v := .string ⟨bs.toArray⟩) (by simp only [execOp, opM, h28]; rfl) ?_)
  show Code.wp P .ret _ _ _
  refine wp_ret ?_
  have hgw : w.heap.size ≤ g6 := by
    rcases hg6 with h | h
    · rw [h]; omega
    · exact h
  have hsz7 : ((a6.put oS.dst (.string ⟨bs.toArray⟩)).put oM.dst (.string ⟨bs.toArray⟩)).tmps.size = 29 := by rw [put_size, put_size]; exact hsz6
  have hdf : ((a6.put oS.dst (.string ⟨bs.toArray⟩)).put oM.dst (.string ⟨bs.toArray⟩)).defers = [] := by rw [put_defers, put_defers]; exact R6.defers
  have h2v : ((a6.put oS.dst (.string ⟨bs.toArray⟩)).put oM.dst (.string ⟨bs.toArray⟩)).tmps.getD 2 undef = .string ⟨bs.toArray⟩ := by
    rw [dN.2.2.2, getD_put _ _ _ _ (by intro j hj; injection hj with hj; subst hj; rw [put_size]; omega)]
    simp
  have hb1 : w.heap.size ≤ b := by omega
  have k7 : Keep (fun x => ∃ s, noG s = some (some x)) w (w6.drew.freeze ⟨g6, 0, Option.none⟩ bs.length) := by
    have hz := freeze_os w6.drew ⟨g6, 0, Option.none⟩ bs.length
    refine ⟨hz.1.trans R6.keep.os, hz.2.1.trans R6.keep.tape, hz.2.2.1.trans R6.keep.output, by rw [hz.2.2.2]; exact Nat.le_trans R6.keep.drawn (Nat.le_succ _), by rw [freeze_size]; exact R6.keep.size, fun x hx hn => ?_, fun x cells t hx => ?_⟩
    · have hxg : x ≠ g6 := by omega
      refine (freeze_other _ _ _ x hxg).trans (R6.keep.same x hx (fun h => ?_))
      rcases h with h | h <;> omega
    · have hlt := lt_of_heap hx
      have hxg : x ≠ g6 := by omega
      obtain ⟨c1, h1, z1⟩ := R6.keep.shape x cells t hx
      exact ⟨c1, (freeze_other _ _ _ x hxg).trans h1, z1⟩
  have m7 : Mem M noG noHeap (w6.drew.freeze ⟨g6, 0, Option.none⟩ bs.length) := ⟨fun x hx => Nat.lt_of_lt_of_le (hm.low x hx) k7.size, (fun s t x h1 => by cases h1), (fun s x h1 => by cases h1), (fun _ _ => rfl), (fun s cs hs => by cases hs)⟩
  have Rf : RelAt (Ctx.here M noG w (fun _ => False) 29) noG ⟨fun i => if i = 2 then .e (.c (.d (.sc (.string ⟨bs.toArray⟩)))) else .any, noHeap⟩ ((a6.put oS.dst (.string ⟨bs.toArray⟩)).put oM.dst (.string ⟨bs.toArray⟩)) (w6.drew.freeze ⟨g6, 0, Option.none⟩ bs.length) := by
    refine ⟨m7, fun i => ?_, k7, (fun s x h1 => by cases h1), fun _ h => h.elim, hdf, hsz7⟩
    show TRel _ M noG (if i = 2 then _ else _) _
    split
    · rename_i e; subst e; rw [h2v]; exact DRel.sc _ rfl
    · trivial
  obtain ⟨v, hv, hrel⟩ := resV_run (r := .e (.c (.d (.sc (.string ⟨bs.toArray⟩))))) Rf fn (by rw [hres]; rfl)
  exact ⟨hdf, v, hv, v, noG, rfl, m7, hrel, k7, (fun s x h1 => by cases h1), fun _ h => h.elim⟩
end
end Go.Proofs.YtfbmhjooliccnaaGreatDoor.Kw
end
