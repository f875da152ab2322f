/- The framework: the last operations, and one function that computes a step. No condition. The framework: lemmas by which simp computes steps. No condition. The framework: rules in the form in which a program prints proofs. No condition. The framework: a region that draws its order. One run in the order of the text serves every order, where what stands in conflict is ordered. No condition. The framework: the built-in copy; bounds that memory gives. No condition. The framework: regions that draw their order, in general: a step has places that it looks at, places that it writes, and labels that it takes away. No condition. -/
import Derived.Test.YtfbmhjooliccnaaGreatDoorPa
import Derived.Orders
set_option linter.all false

section
namespace Go.Ab
open Go Go.RowKit

/-- A part of an aggregate, as a value of the type t. -/
def partV (P : Program) (t : TypeId) (cs : List V) (off : Nat) : Option T := loadV P t cs off

theorem part_run {P : Program} {w : World} {M : Nat → Prop} {γ : G} {t : TypeId} {cs : List V} {vs : List Value} {off : Nat} {r : T} (hr : partV P t cs off = some r) (hc : CsRel w M γ cs vs) :
    ∃ v, (part t vs.toArray off).run P w = .ok v w ∧ TRel w M γ r v := by
  unfold partV loadV at hr
  split at hr
  · rename_i hag
    split at hr
    · rename_i n hn
      split at hr
      · rename_i hlen
        injection hr with hr; subst hr
        refine ⟨.agg (vs.toArray.extract off (off + n)), ?_, (vs.drop off).take n, ?_, (hc.drop off).take n⟩
        · simp [part, tag_some hag, tsz_some hn]
        · simp [List.extract_eq_take_drop]
      · cases hr
    · cases hr
  · rename_i hag
    cases hv : cs[off]? with
    | none => simp [hv] at hr
    | some x =>
      simp [hv] at hr
      subst hr
      obtain ⟨u, hu, hrel⟩ := hc.at_ hv
      refine ⟨u, ?_, hrel⟩
      simp [part, tag_some hag, hu]
  · cases hr

theorem pure_field {P : Program} {o : Oper} {ev : Operand → T} (t : TypeId) (x : Operand) (f : Nat) (ho : o.op = .field t x f) (off : Nat) (ft : TypeId) (cs : List V) (r : T)
    (hf : tfld P t f = some (off, ft)) (hx : ev x = .e (.agg cs)) (hr : partV P ft cs off = some r) : PureOK P o ev r :=
  pure_same fun M γ H w a _ h => by
    have h1 := h x (by simp [ho, Op.operands])
    rw [hx] at h1
    obtain ⟨us, hv, hc⟩ := h1
    obtain ⟨fs, fd, hu, hfd, e1, e2⟩ := tfld_some hf
    obtain ⟨v, hrun, hrel⟩ := part_run hr hc
    refine ⟨v, ?_, hrel⟩
    simp [execOp, ho, Instr.field, run_underlying hu, hfd, hv, asAgg, e1, e2, hrun]

theorem pure_index {P : Program} {o : Oper} {ev : Operand → T} (t : TypeId) (x ix : Operand) (ho : o.op = .index t x ix) (len : Nat) (e : TypeId) (n : Nat) (k : IntKind) (i : Int) (cs : List V) (r : T)
    (ht : tarr P t = some (len, e)) (hs : tsz P e = some n) (hx : ev x = .e (.agg cs)) (hi : ev ix = .e (.c (.d (.sc (.int k i))))) (h0 : 0 ≤ i) (h1 : i < len) (hr : partV P e cs (i.toNat * n) = some r) : PureOK P o ev r :=
  pure_same fun M γ H w a _ h => by
    have h2 := h x (by simp [ho, Op.operands])
    have h3 := h ix (by simp [ho, Op.operands])
    rw [hx] at h2
    rw [hi] at h3
    obtain ⟨us, hv, hc⟩ := h2
    obtain ⟨v, hrun, hrel⟩ := part_run hr hc
    refine ⟨v, ?_, hrel⟩
    simp [execOp, ho, Instr.index, sc_inv h3, asIntOf, run_underlying (tarr_some ht), hv, h0, h1, tsz_some hs, hrun]

theorem pure_index_str {P : Program} {o : Oper} {ev : Operand → T} (t : TypeId) (x ix : Operand) (ho : o.op = .index t x ix) (s : ByteArray) (k : IntKind) (i : Int)
    (ht : tstr P t = true) (hx : ev x = .e (.c (.d (.sc (.string s))))) (hi : ev ix = .e (.c (.d (.sc (.int k i))))) (h0 : 0 ≤ i) (c : UInt8) (hc : s[i.toNat]? = some c) : PureOK P o ev (.e (.c (.d (.sc (.int .u8 c.toNat))))) :=
  pure_same fun M γ H w a _ h => by
    have h2 := h x (by simp [ho, Op.operands])
    have h3 := h ix (by simp [ho, Op.operands])
    rw [hx] at h2
    rw [hi] at h3
    refine ⟨_, ?_, .sc _ rfl⟩
    simp [execOp, ho, Instr.index, sc_inv h2, sc_inv h3, asIntOf, run_underlying (tstr_true ht), h0, hc]

def capsV (ev : Operand → T) : List Operand → Option (List (Nat × Nat))
  | [] => some []
  | x :: xs => match ev x, capsV ev xs with | .e (.c (.ptr s off)), some r => some ((s, off) :: r) | _, _ => none

theorem caps_rel {w : World} {M : Nat → Prop} {γ : G} {ev : Operand → T} {a : Act} : ∀ (xs : List Operand) (caps : List (Nat × Nat)), (∀ x ∈ xs, TRel w M γ (ev x) (a.eval x)) → capsV ev xs = some caps →
    (xs.map a.eval).length = caps.length ∧ ∀ (i : Nat) (p : Nat × Nat) (c : Value), caps[i]? = some p → (xs.map a.eval)[i]? = some c → PRel γ p.1 p.2 c
  | [], caps, _, h => by simp only [capsV] at h; injection h with h; subst h; exact ⟨rfl, fun i p c hp => by simp at hp⟩
  | x :: xs, caps, hx, h => by
    simp only [capsV] at h
    split at h
    · rename_i s off r he hr
      injection h with h; subst h
      obtain ⟨ih1, ih2⟩ := caps_rel xs r (fun y hy => hx y (by simp [hy])) hr
      refine ⟨by simpa using ih1, fun i p c hp hc => ?_⟩
      cases i with
      | zero =>
        simp at hp hc
        subst hp; subst hc
        have := hx x (by simp)
        rw [he] at this
        exact this
      | succ i => exact ih2 i p c (by simpa using hp) (by simpa using hc)
    · cases h

theorem pure_makeFunc {P : Program} {o : Oper} {ev : Operand → T} (f : FuncId) (cap : Array Operand) (ho : o.op = .makeFunc (.func f) #[] cap) (caps : List (Nat × Nat)) (hc : capsV ev cap.toList = some caps) : PureOK P o ev (.e (.c (.clo f caps))) :=
  pure_same fun M γ H w a _ h => by
    obtain ⟨h1, h2⟩ := caps_rel (a := a) cap.toList caps (fun x hx => h x (by simpa [ho, Op.operands] using hx)) hc
    refine ⟨.func (.func f) #[] (cap.toList.map a.eval).toArray, ?_, cap.toList.map a.eval, rfl, h1, h2⟩
    have : Array.map a.eval cap = (cap.toList.map a.eval).toArray := by apply Array.ext'; simp
    simp [execOp, ho, Instr.makeFunc]
    exact this

def isAddr : T → Bool
  | .e (.c (.ptr _ _)) => true
  | .e (.c (.pim _)) => true
  | _ => false

theorem pure_nilCheck {P : Program} {o : Oper} {ev : Operand → T} (x : Operand) (ho : o.op = .nilCheck x) (hx : isAddr (ev x) = true) : PureOK P o ev (ev x) :=
  pure_same fun M γ H w a _ h => by
    have h1 := h x (by simp [ho, Op.operands])
    have : ∃ ad, a.eval x = .pointer (some ad) := by
      unfold isAddr at hx
      split at hx
      · rename_i he; rw [he] at h1; obtain ⟨b, _, e⟩ := h1; exact ⟨_, e⟩
      · rename_i he; rw [he] at h1; obtain ⟨ad, e, _⟩ := h1; exact ⟨_, e⟩
      · cases hx
    obtain ⟨ad, e⟩ := this
    refine ⟨_, ?_, h1⟩
    simp [execOp, ho, e]

theorem pure_max {P : Program} {o : Oper} {ev : Operand → T} (x y : Operand) (ts : Array TypeId) (ho : o.op = .call { callee := .builtin .max, args := #[x, y], argTypes := ts }) (k k' : IntKind) (i j : Int)
    (hx : ev x = .e (.c (.d (.sc (.int k i))))) (hy : ev y = .e (.c (.d (.sc (.int k' j))))) : PureOK P o ev (.e (.c (.d (.sc (.int k (max i j)))))) :=
  pure_same fun M γ H w a _ h => by
    have h1 := h x (by simp [ho, Op.operands, Call.operands])
    have h2 := h y (by simp [ho, Op.operands, Call.operands])
    rw [hx] at h1
    rw [hy] at h2
    refine ⟨_, ?_, .sc _ rfl⟩
    have e : (if j > i then j else i) = max i j := by by_cases hh : i < j <;> simp [hh] <;> omega
    simp [execOp, ho, resolve, invoke, builtin, Builtin.max_, Builtin.max2, sc_inv h1, sc_inv h2, e]

theorem pure_min {P : Program} {o : Oper} {ev : Operand → T} (x y : Operand) (ts : Array TypeId) (ho : o.op = .call { callee := .builtin .min, args := #[x, y], argTypes := ts }) (k k' : IntKind) (i j : Int)
    (hx : ev x = .e (.c (.d (.sc (.int k i))))) (hy : ev y = .e (.c (.d (.sc (.int k' j))))) : PureOK P o ev (.e (.c (.d (.sc (.int k (min i j)))))) :=
  pure_same fun M γ H w a _ h => by
    have h1 := h x (by simp [ho, Op.operands, Call.operands])
    have h2 := h y (by simp [ho, Op.operands, Call.operands])
    rw [hx] at h1
    rw [hy] at h2
    refine ⟨_, ?_, .sc _ rfl⟩
    have e : (if j < i then j else i) = min i j := by by_cases hh : j < i <;> simp [hh] <;> omega
    simp [execOp, ho, resolve, invoke, builtin, Builtin.min_, Builtin.min2, sc_inv h1, sc_inv h2, e]

/- one function -/
def scOf : T → Option Value
  | .e (.c (.d (.sc v))) => some v
  | _ => none
theorem scOf_some {x : T} {v : Value} (h : scOf x = some v) : x = .e (.c (.d (.sc v))) := by
  unfold scOf at h; split at h
  · injection h with h; subst h; rfl
  · cases h

def sc (v : Value) : T := .e (.c (.d (.sc v)))

/-- The built-in functions. -/
def opC (P : Program) (c : Call) (σ : St) : Option T :=
  match c.callee, c.args.toList, c.argTypes.toList with
  | .builtin .len, [x], [t] =>
    (match tsl P t with
     | some _ => (lenV (σ.ev x)).map fun (n : Nat) => sc (.int .i64 (n : Int))
     | none => if tstr P t then (match scOf (σ.ev x) with | some (.string s) => some (sc (.int .i64 s.size)) | _ => none) else none)
  | .builtin .max, [x, y], _ => (match scOf (σ.ev x), scOf (σ.ev y) with | some (.int k i), some (.int _ j) => some (sc (.int k (max i j))) | _, _ => none)
  | .builtin .min, [x, y], _ => (match scOf (σ.ev x), scOf (σ.ev y) with | some (.int k i), some (.int _ j) => some (sc (.int k (min i j))) | _, _ => none)
  | _, _, _ => none

theorem arr_of {α : Type} {a : Array α} {l : List α} (h : a.toList = l) : a = l.toArray := by apply Array.ext'; simpa using h

/-- What an operation yields that touches no own block but by a load. -/
def opT (P : Program) (op : Op) (σ : St) : Option T :=
  match op with
  | .move x => some (σ.ev x)
  | .assign x => some (σ.ev x)
  | .pick c x y => match scOf (σ.ev c) with | some (.bool t) => some (if t then σ.ev x else σ.ev y) | _ => none
  | .binOp b t x y _ => match scOf (σ.ev x), scOf (σ.ev y) with | some vx, some vy => (binV P b t vx vy).map sc | _, _ => none
  | .unOp u _ x => match scOf (σ.ev x) with | some vx => (unV u vx).map sc | none => none
  | .convert s d x => match tint P s, tint P d, scOf (σ.ev x) with | some _, some k, some (.int _ n) => some (sc (.int k (k.wrap n))) | _, _, _ => none
  | .fieldAddr s x f => match tfld P s f with | some (off, ft) => (match tsz P ft with | some (_ + 1) => faV off (σ.ev x) | _ => none) | none => none
  | .indexAddr t x ix =>
    match scOf (σ.ev ix) with
    | some (.int _ i) =>
      (match tsl P t with
       | some e => (match tsz P e with | some n => ixV n i (σ.ev x) | none => none)
       | none => (match tarr P t with
         | some (len, e) => if 0 ≤ i ∧ i < (len : Int) then (match tsz P e with | some n => faV (i.toNat * n) (σ.ev x) | none => none) else none
         | none => none))
    | _ => none
  | .load t x =>
    match σ.ev x with
    | .e (.c (.ptr s off)) => (match σ.heap s with | some cs => loadV P t cs off | none => none)
    | .e (.c (.pim ds)) => loadV P t (ds.map .d) 0
    | _ => none
  | .extract x i => match σ.ev x with | .tup xs => (xs[i]?).map .e | _ => none
  | .field t x f => match tfld P t f, σ.ev x with | some (off, ft), .e (.agg cs) => partV P ft cs off | _, _ => none
  | .index t x ix =>
    match scOf (σ.ev ix), tarr P t, σ.ev x with
    | some (.int _ i), some (len, e), .e (.agg cs) => if 0 ≤ i ∧ i < (len : Int) then (match tsz P e with | some n => partV P e cs (i.toNat * n) | none => none) else none
    | some (.int _ i), none, .e (.c (.d (.sc (.string s)))) => if tstr P t = true ∧ 0 ≤ i then (match s[i.toNat]? with | some c => some (.e (.c (.d (.sc (.int .u8 c.toNat))))) | none => none) else none
    | _, _, _ => none
  | .build t parts => match tplaces P t, tzv P t with | some ps, some zs => (fillD (fun i => ps[i]?) zs (parts.toList.map fun p => (p.1, σ.ev p.2))).map fun cs => .e (.agg cs) | _, _ => none
  | .buildSlice t len parts =>
    match tsl P t with
    | some e => (match tsz P e, tzv P e with
      | some k, some zs => if zs.length = k ∧ parts.size = len ∧ len * k ≤ 16777216 ∧ 0 < k ∧ 0 < len then (litRows k σ.ev 0 parts.toList).map fun rs => .e (.c (.d (.sl rs))) else none
      | _, _ => none)
    | none => none
  | .slice t x lx hx mx =>
    match tsl P t, lenV (σ.ev x) with
    | some e, some len => (match tsz P e, boundV σ.ev hx len, boundV σ.ev lx 0, mx with
      | some k, some hi, some lo, none => sliceV k lo hi (σ.ev x)
      | _, _, _, _ => none)
    | _, _ => none
  | .makeFunc fn first cap => match fn, first.toList with | .func f, [] => (capsV σ.ev cap.toList).map fun caps => .e (.c (.clo f caps)) | _, _ => none
  | .nilCheck x => if isAddr (σ.ev x) then some (σ.ev x) else none
  | .call c => opC P c σ
  | _ => none

theorem opT_pure {P : Program} {o : Oper} {σ : St} {r : T} (h : opT P o.op σ = some r) : PureOK P o σ.ev r ∨ ∃ t x s off cs, o.op = .load t x ∧ σ.ev x = .e (.c (.ptr s off)) ∧ σ.heap s = some cs ∧ loadV P t cs off = some r := by
  generalize hop : o.op = op at h
  unfold opT at h
  split at h
  · injection h with h; subst h; exact .inl (pure_move _ hop)
  · injection h with h; subst h; exact .inl (pure_assign _ hop)
  · split at h
    · rename_i t hc; injection h with h; subst h; exact .inl (pure_pick _ _ _ hop t (scOf_some hc))
    · cases h
  · split at h
    · rename_i vx vy h1 h2
      cases hb : binV P _ _ vx vy with
      | none => rw [hb] at h; simp at h
      | some v => rw [hb] at h; simp only [Option.map_some, Option.some.injEq] at h; subst h; exact .inl (pure_bin _ _ _ _ _ hop vx vy v (scOf_some h1) (scOf_some h2) hb)
    · cases h
  · split at h
    · rename_i vx h1
      cases hb : unV _ vx with
      | none => rw [hb] at h; simp at h
      | some v => rw [hb] at h; simp only [Option.map_some, Option.some.injEq] at h; subst h; exact .inl (pure_un _ _ _ hop vx v (scOf_some h1) hb)
    · cases h
  · split at h
    · rename_i k0 k k1 n h1 h2 h3; injection h with h; subst h; exact .inl (pure_conv _ _ _ hop _ _ _ (scOf_some h3) (by rw [h1]; rfl) h2)
    · cases h
  · split at h
    · rename_i off ft h1
      split at h
      · rename_i m h2; exact .inl (pure_fieldAddr _ _ _ hop off ft m h1 h2 r h)
      · cases h
    · cases h
  · split at h
    · rename_i k i h1
      split at h
      · rename_i e h2
        split at h
        · rename_i m h3; exact .inl (pure_indexAddr _ _ _ hop e m k i h2 h3 (scOf_some h1) r h)
        · cases h
      · split at h
        · rename_i len e h2
          split at h
          · rename_i hc
            split at h
            · rename_i m h3; exact .inl (pure_indexAddr_array _ _ _ hop e m len k i h2 h3 (scOf_some h1) hc.1 hc.2 r h)
            · cases h
          · cases h
        · cases h
    · cases h
  · split at h
    · rename_i s off h1
      split at h
      · rename_i cs h2; exact .inr ⟨_, _, s, off, cs, rfl, h1, h2, h⟩
      · cases h
    · rename_i ds h1; exact .inl (pure_load _ _ hop ds r h1 h)
    · cases h
  · split at h
    · rename_i xs h1
      rw [Option.map_eq_some_iff] at h
      obtain ⟨e, hx, rfl⟩ := h
      exact .inl (pure_extract _ _ hop xs e h1 hx)
    · cases h
  · split at h
    · rename_i off ft cs h1 h2; exact .inl (pure_field _ _ _ hop off ft cs r h1 h2 h)
    · cases h
  · split at h
    · rename_i k i len e cs h1 h2 h3
      split at h
      · rename_i hc
        split at h
        · rename_i m h4; exact .inl (pure_index _ _ _ hop len e m k i cs r h2 h4 h3 (scOf_some h1) hc.1 hc.2 h)
        · cases h
      · cases h
    · rename_i k i s h1 h2 h3
      split at h
      · rename_i hc
        split at h
        · rename_i c h4
          injection h with h; subst h
          exact .inl (pure_index_str _ _ _ hop s k i hc.1 h3 (scOf_some h1) hc.2 c h4)
        · cases h
      · cases h
    · cases h
  · split at h
    · rename_i ps zs h1 h2
      cases hf : fillD (fun i => ps[i]?) zs _ with
      | none => rw [hf] at h; simp at h
      | some cs => rw [hf] at h; simp only [Option.map_some, Option.some.injEq] at h; subst h; exact .inl (pure_build _ _ hop ps zs cs h1 h2 hf)
    · cases h
  · split at h
    · rename_i e h1
      split at h
      · rename_i k zs h2 h3
        split at h
        · rename_i hc
          cases hf : litRows k σ.ev 0 _ with
          | none => rw [hf] at h; simp at h
          | some rs => rw [hf] at h; simp only [Option.map_some, Option.some.injEq] at h; subst h; exact .inl (pure_buildSlice _ _ _ hop e k zs rs h1 h2 h3 hc.1 hc.2.1 hc.2.2.1 hc.2.2.2.1 hc.2.2.2.2 hf)
        · cases h
      · cases h
    · cases h
  · split at h
    · rename_i e len h1 h2
      split at h
      · rename_i k hi lo h3 h4 h5; exact .inl (pure_slice _ _ _ _ _ hop e k len lo hi r h1 h3 h2 h4 h5 (.inl rfl) h)
      · cases h
    · cases h
  · rename_i cap
    split at h
    · rename_i f hf
      rw [arr_of hf] at hop
      cases hc : capsV σ.ev cap.toList with
      | none => rw [hc] at h; simp at h
      | some caps => rw [hc] at h; simp only [Option.map_some, Option.some.injEq] at h; subst h; exact .inl (pure_makeFunc _ _ hop caps hc)
    · cases h
  · split at h
    · rename_i hc; injection h with h; subst h; exact .inl (pure_nilCheck _ hop hc)
    · cases h
  · rename_i c
    obtain ⟨callee, args, argTypes⟩ := c
    unfold opC at h
    simp only at h
    split at h
    · rename_i x t h1 h2
      rw [arr_of h1, arr_of h2] at hop
      split at h
      · rename_i e h1
        rw [Option.map_eq_some_iff] at h
        obtain ⟨m, hc, rfl⟩ := h
        exact .inl (pure_len _ _ hop e m h1 hc)
      · split at h
        · rename_i h1
          split at h
          · rename_i s h2; injection h with h; subst h; exact .inl (pure_len_str _ _ hop s h1 (scOf_some h2))
          · cases h
        · cases h
    · rename_i x y h1
      rw [arr_of h1] at hop
      split at h
      · rename_i k i k' j h1 h2; injection h with h; subst h; exact .inl (pure_max _ _ _ hop k k' i j (scOf_some h1) (scOf_some h2))
      · cases h
    · rename_i x y h1
      rw [arr_of h1] at hop
      split at h
      · rename_i k i k' j h1 h2; injection h with h; subst h; exact .inl (pure_min _ _ _ hop k k' i j (scOf_some h1) (scOf_some h2))
      · cases h
    · cases h
  · cases h


theorem opT_ok {P : Program} {n : Nat} {stay : Nat → Prop} {o : Oper} {σ : St} {r : T} (h : opT P o.op σ = some r) (hd : dstOK n o.dst) : StepOK P n stay o σ (σ.put o.dst r) := by
  rcases opT_pure h with h | ⟨t, x, s, off, cs, h1, h2, h3, h4⟩
  · exact .of_pure h hd
  · exact .load t x h1 s off cs r h2 h3 h4 hd

def boxF (d : Nat) (x : Operand) (σ : St) : Option St := match σ.heap d, σ.ev x with | none, .e e => some ⟨upd σ.env d (.e (.c (.ptr d 0))), updH σ.heap d (some e.cells)⟩ | _, _ => none
def allocF (P : Program) (d : Nat) (t : TypeId) (σ : St) : Option St := match σ.heap d, tzv P t with | none, some cs => some ⟨upd σ.env d (.e (.c (.ptr d 0))), updH σ.heap d (some cs)⟩ | _, _ => none
def makeF (P : Program) (d : Nat) (t : TypeId) (lx cx : Operand) (σ : St) : Option St :=
  match σ.heap d, tsl P t, scOf (σ.ev lx), scOf (σ.ev cx) with
  | none, some e, some (.int _ l), some (.int _ c) =>
    (match tsz P e, tby P e, tzv P e with
     | some k, some y, some zs => if zs.length = k ∧ 0 ≤ l ∧ l = c ∧ y * l.toNat ≤ 281474976710656 ∧ l ≤ 281474976710656 then some ⟨upd σ.env d (.e (.c (.sub d k 0 l.toNat))), updH σ.heap d (some (rep l.toNat zs))⟩ else none
     | _, _, _ => none)
  | _, _, _, _ => none
def storeF (P : Program) (t : TypeId) (x y : Operand) (σ : St) : Option St :=
  match σ.ev x, σ.ev y, tsz P t with
  | .e (.c (.ptr s off)), .e e, some m => (match σ.heap s with | some cs => if e.cells.length = m ∧ off + m ≤ cs.length ∧ notM cs = true then some ⟨σ.env, updH σ.heap s (some (splice cs off e.cells))⟩ else none | none => none)
  | _, _, _ => none

/-- A step of any operation but a call, an append and a copy. -/
def opF (P : Program) (n : Nat) (o : Oper) (σ : St) : Option St :=
  match o.dst with
  | none => (match o.op with | .store t x y => storeF P t x y σ | _ => none)
  | some d => if d < n then (match o.op with | .box _ x => boxF d x σ | .alloc t => allocF P d t σ | .makeSlice t l c => makeF P d t l c σ | op => (opT P op σ).map fun r => ⟨upd σ.env d r, σ.heap⟩) else none

theorem dst_ok {n d : Nat} (h : d < n) : dstOK n (some d) := fun j hj => by injection hj with hj; subst hj; exact h

theorem opF_ok {P : Program} {n : Nat} {stay : Nat → Prop} {o : Oper} {σ σ' : St} (h : opF P n o σ = some σ') (hst : ∀ d, o.dst = some d → ¬ stay d) : StepOK P n stay o σ σ' := by
  obtain ⟨dst, op, ty, pos, aft, gd⟩ := o
  cases dst with
  | none =>
    cases op <;> first | (cases h; done) | skip
    rename_i t x y
    change storeF P t x y σ = some σ' at h
    unfold storeF at h
    split at h
    · rename_i s off e m h1 h2 h3
      split at h
      · rename_i cs h4
        split at h
        · rename_i hc
          injection h with h; subst h
          exact .store t x y rfl rfl s off cs e m h1 h2 h4 h3 hc.1 hc.2.1 hc.2.2
        · cases h
      · cases h
    · cases h
  | some d =>
    have hsd := hst d rfl
    by_cases hlt : d < n
    · have plain : ∀ r, opT P op σ = some r → σ' = ⟨upd σ.env d r, σ.heap⟩ → StepOK P n stay ⟨some d, op, ty, pos, aft, gd⟩ σ σ' := by
        intro r hr e
        subst e
        exact opT_ok (o := ⟨some d, op, ty, pos, aft, gd⟩) hr (dst_ok hlt)
      cases op <;> simp only [opF, hlt, if_true] at h
      case box t x =>
        unfold boxF at h
        split at h
        · rename_i e h1 h2
          injection h with h; subst h
          exact StepOK.of_alloc (alloc_box (P := P) t x rfl d e h2) (dst_ok hlt) h1 hsd
        · cases h
      case alloc t =>
        unfold allocF at h
        split at h
        · rename_i cs h1 h2
          injection h with h; subst h
          exact StepOK.of_alloc (alloc_alloc (P := P) (ev := σ.ev) t rfl d cs h2) (dst_ok hlt) h1 hsd
        · cases h
      case makeSlice t lx cx =>
        unfold makeF at h
        split at h
        · rename_i e kl l kc c h0 h1 h2 h3
          split at h
          · rename_i k y zs h4 h5 h6
            split at h
            · rename_i hc
              obtain ⟨c3, c4, c5, c6, c7⟩ := hc
              subst c5
              injection h with h; subst h
              have hl : ((l.toNat : Nat) : Int) = l := Int.toNat_of_nonneg c4
              exact StepOK.of_alloc (alloc_makeSlice (P := P) t lx cx rfl d e k y zs l.toNat kl kc h1 h4 h5 h6 c3 (by rw [hl]; exact scOf_some h2) (by rw [hl]; exact scOf_some h3) c6 (by omega)) (dst_ok hlt) h0 hsd
            · cases h
          · cases h
        · cases h
      all_goals
        first
          | (rw [Option.map_eq_some_iff] at h; obtain ⟨r, hr, e⟩ := h; exact plain r hr e.symm)
    · simp only [opF, hlt, if_false] at h
      cases h

/-- Several steps at once. -/
def runF (P : Program) (n : Nat) : List Oper → St → Option St
  | [], σ => some σ
  | o :: l, σ => if o.guard.isNone then (match opF P n o σ with | some σ' => runF P n l σ' | none => none) else none

theorem WPops.run {P : Program} {n : Nat} {stay : Nat → Prop} {ops : Array Oper} {K : St → Prop} : ∀ (l rest : List Oper) (σ σ' : St), runF P n l σ = some σ' → (∀ d, ¬ stay d) → WPops P n stay ops rest σ' K → WPops P n stay ops (l ++ rest) σ K
  | [], rest, σ, σ', h, _, hk => by
    simp only [runF] at h
    injection h with h; subst h
    exact hk
  | o :: l, rest, σ, σ', h, hst, hk => by
    simp only [runF] at h
    split at h
    · rename_i hg
      split at h
      · rename_i σ1 h1
        exact WPops.step (by simpa using hg) (opF_ok h1 fun d _ => hst d) (WPops.run l rest σ1 σ' h hst hk)
      · cases h
    · cases h

end Go.Ab
end

section
namespace Go.Ab
open Go Go.RowKit

theorem upd_mk (l : List (Nat × T)) (i : Nat) (r : T) : upd (mk l) i r = mk ((i, r) :: l) := rfl
theorem updH_mk (l : List (Nat × List V)) (i : Nat) (r : List V) : updH (mkH l) i (some r) = mkH ((i, r) :: l) := rfl
theorem noHeap_mk : noHeap = mkH [] := rfl
theorem mk_cons (j : Nat) (t : T) (l : List (Nat × T)) (i : Nat) : mk ((j, t) :: l) i = if i = j then t else mk l i := rfl
theorem mk_nil (i : Nat) : mk [] i = .any := rfl
theorem mkH_cons (j : Nat) (t : List V) (l : List (Nat × List V)) (i : Nat) : mkH ((j, t) :: l) i = if i = j then some t else mkH l i := rfl
theorem mkH_nil (i : Nat) : mkH [] i = none := rfl
theorem ev_tmp (e : Nat → T) (H : Heap) (t : Nat) : St.ev ⟨e, H⟩ (.tmp t) = e t := rfl
theorem ev_int (e : Nat → T) (H : Heap) (k : IntKind) (i : Int) : St.ev ⟨e, H⟩ (.const (.int k i)) = .e (.c (.d (.sc (.int k i)))) := rfl
theorem ev_bool (e : Nat → T) (H : Heap) (b : Bool) : St.ev ⟨e, H⟩ (.const (.bool b)) = .e (.c (.d (.sc (.bool b)))) := rfl
theorem ev_str (e : Nat → T) (H : Heap) (b : ByteArray) : St.ev ⟨e, H⟩ (.const (.string b)) = .e (.c (.d (.sc (.string b)))) := rfl
theorem ev_slice (e : Nat → T) (H : Heap) (a : Option Addr) (n m : Nat) : St.ev ⟨e, H⟩ (.const (.slice a n m)) = .e (.c (.d (.sc (.slice a n m)))) := rfl
theorem ev_func (e : Nat → T) (H : Heap) (f : Nat) : St.ev ⟨e, H⟩ (.func f) = .e (.c (.clo f [])) := rfl
theorem heap_mk (e : Nat → T) (H : Heap) : (St.mk e H).heap = H := rfl
theorem env_mk (e : Nat → T) (H : Heap) : (St.mk e H).env = e := rfl

end Go.Ab
end

section
namespace Go.Ab
open Go Go.RowKit

section
variable {P : Program} {n : Nat} {stay : Nat → Prop} {ops : Array Oper} {rest : List Oper} {l : List (Nat × T)} {H : Heap} {K : St → Prop}

theorem WPops.call {d f : Nat} {xs : Array Operand} {ts : Array TypeId} {ty : TypeId} {pos : String} {af : Array Edge} {args : List E} {r : T}
    (hs : Pur P f args r) (he : (xs.toList.map fun x => (St.ev ⟨mk l, H⟩ x).norm) = args.map .e) (hn : ∀ x ∈ args, ∀ s, ¬ x.names s) (hd : d < n)
    (h : WPops P n stay ops rest ⟨mk ((d, r) :: l), H⟩ K) : WPops P n stay ops (⟨some d, .call ⟨.value (.func f), xs, ts⟩, ty, pos, af, none⟩ :: rest) ⟨mk l, H⟩ K :=
  WPops.step rfl (StepOK.of_pure (pure_call f xs ts rfl args r hs he hn) (dst_ok hd)) h

theorem WPops.callYes {d f : Nat} {xs : Array Operand} {ts : Array TypeId} {ty : TypeId} {pos : String} {af : Array Edge} {args : List E} {r : T} {j : Nat} {want : Bool} (t : Nat)
    (hj : (ops[j]?).bind (·.dst) = some t) (hb : mk l t = .e (.c (.d (.sc (.bool want)))))
    (hs : Pur P f args r) (he : (xs.toList.map fun x => (St.ev ⟨mk l, H⟩ x).norm) = args.map .e) (hn : ∀ x ∈ args, ∀ s, ¬ x.names s) (hd : d < n)
    (h : WPops P n stay ops rest ⟨mk ((d, r) :: l), H⟩ K) : WPops P n stay ops (⟨some d, .call ⟨.value (.func f), xs, ts⟩, ty, pos, af, some (j, want)⟩ :: rest) ⟨mk l, H⟩ K :=
  WPops.yes rfl hj hb (StepOK.of_pure (pure_call f xs ts rfl args r hs he hn) (dst_ok hd)) h

theorem env_same {l : List (Nat × T)} {t : Nat} {x : T} (h : mk l t = x) : mk ((t, x) :: l) = mk l := by
  funext i
  simp only [mk]
  split
  · rename_i e; subst e; exact h.symm
  · rfl

/-- A way for each outcome of a test. -/
theorem WPops.split {ol : List Oper} (t : Nat) (b : Bool) (hb : mk l t = .e (.c (.d (.sc (.bool b))))) (h1 : b = true → WPops P n stay ops ol ⟨mk ((t, .e (.c (.d (.sc (.bool true))))) :: l), H⟩ K)
    (h2 : b = false → WPops P n stay ops ol ⟨mk ((t, .e (.c (.d (.sc (.bool false))))) :: l), H⟩ K) : WPops P n stay ops ol ⟨mk l, H⟩ K := by
  cases b
  · rw [← env_same hb]; exact h2 rfl
  · rw [← env_same hb]; exact h1 rfl

/-- Steps with guards whose tests are known; gm: which operation's test lies in which temporary. -/
def guardOf (gm : List (Nat × Nat)) (j : Nat) : Option Nat := match gm with | [] => none | (i, t) :: r => if j = i then some t else guardOf r j

def runG (P : Program) (n : Nat) (gm : List (Nat × Nat)) : List Oper → St → Option St
  | [], σ => some σ
  | o :: ol, σ =>
    match o.guard with
    | none => (match opF P n o σ with | some σ' => runG P n gm ol σ' | none => none)
    | some (j, want) =>
      match guardOf gm j with
      | none => none
      | some t =>
        match scOf (σ.env t) with
        | some (.bool b) => if b = want then (match opF P n o σ with | some σ' => runG P n gm ol σ' | none => none) else (match o.dst with | some d => if d < n then runG P n gm ol ⟨upd σ.env d .any, σ.heap⟩ else none | none => runG P n gm ol σ)
        | _ => none

def gmOK (ops : Array Oper) : List (Nat × Nat) → Prop
  | [] => True
  | (j, t) :: r => (ops[j]?).bind (·.dst) = some t ∧ gmOK ops r

theorem guardOf_ok : ∀ (gm : List (Nat × Nat)) (j t : Nat), gmOK ops gm → guardOf gm j = some t → (ops[j]?).bind (·.dst) = some t
  | [], j, t, _, h => by cases h
  | (i, u) :: r, j, t, hg, h => by
    simp only [guardOf] at h
    split at h
    · rename_i e; subst e; injection h with h; subst h; exact hg.1
    · exact guardOf_ok r j t hg.2 h

theorem opF_lt {o : Oper} {σ σ' : St} (h : opF P n o σ = some σ') {d : Nat} (hd : o.dst = some d) : d < n := by
  unfold opF at h
  rw [hd] at h
  simp only at h
  split at h
  · assumption
  · cases h

theorem WPops.runG (gm : List (Nat × Nat)) (hgm : gmOK ops gm) (hst : ∀ d, d < n → ¬ stay d) : ∀ (ol rest : List Oper) (σ σ' : St), Ab.runG P n gm ol σ = some σ' → WPops P n stay ops rest σ' K → WPops P n stay ops (ol ++ rest) σ K
  | [], rest, σ, σ', h, hk => by
    simp only [Ab.runG] at h
    injection h with h; subst h
    exact hk
  | o :: ol, rest, σ, σ', h, hk => by
    simp only [Ab.runG] at h
    split at h
    · rename_i hg
      split at h
      · rename_i σ1 h1
        exact WPops.step hg (opF_ok h1 fun d hd => hst d (opF_lt h1 hd)) (WPops.runG gm hgm hst ol rest σ1 σ' h hk)
      · cases h
    · rename_i j want hg
      split at h
      · cases h
      · rename_i t ht
        have hj := guardOf_ok gm j t hgm ht
        split at h
        · rename_i b hb
          split at h
          · rename_i e; subst e
            split at h
            · rename_i σ1 h1
              exact WPops.yes hg hj (scOf_some hb) (opF_ok h1 fun d hd => hst d (opF_lt h1 hd)) (WPops.runG gm hgm hst ol rest σ1 σ' h hk)
            · cases h
          · rename_i hne
            have hbw : (b == want) = false := by simpa using hne
            split at h
            · rename_i d hd
              split at h
              · rename_i hlt
                refine WPops.no hg hj (scOf_some hb) hbw (by rw [hd]; exact dst_ok hlt) ?_
                rw [hd]
                exact WPops.runG gm hgm hst ol rest _ σ' h hk
              · cases h
            · rename_i hd
              refine WPops.no hg hj (scOf_some hb) hbw (by rw [hd]; intro j hj; cases hj) ?_
              rw [hd]
              exact WPops.runG gm hgm hst ol rest _ σ' h hk
        · cases h
end

/- lists -/
def LeAll (e : Nat → T) : List (Nat × T) → Prop
  | [] => True
  | (i, t) :: r => TLe (e i) t ∧ LeAll e r
def LeAllH (H : Heap) : List (Nat × List V) → Prop
  | [] => True
  | (i, cs) :: r => (∃ cs0, H i = some cs0 ∧ CsLe cs0 cs) ∧ LeAllH H r
theorem LeAll.mem {e : Nat → T} : ∀ {l : List (Nat × T)}, LeAll e l → ∀ p ∈ l, TLe (e p.1) p.2
  | [], _, p, hp => by simp at hp
  | (i, t) :: r, h, p, hp => by
    rcases List.mem_cons.1 hp with rfl | hp
    · exact h.1
    · exact LeAll.mem h.2 p hp
theorem LeAllH.mem {H : Heap} : ∀ {l : List (Nat × List V)}, LeAllH H l → ∀ p ∈ l, ∃ cs, H p.1 = some cs ∧ CsLe cs p.2
  | [], _, p, hp => by simp at hp
  | (i, t) :: r, h, p, hp => by
    rcases List.mem_cons.1 hp with rfl | hp
    · exact h.1
    · exact LeAllH.mem h.2 p hp

/-- Which labels stand in a list. -/
def V.inL (L : List Nat) : V → Bool
  | .ptr s _ => L.contains s
  | .sub s _ _ _ => L.contains s
  | .clo _ caps => caps.all fun p => L.contains p.1
  | .mp s => L.contains s
  | _ => true
def E.inL (L : List Nat) : E → Bool
  | .c v => v.inL L
  | .agg vs => vs.all (V.inL L)
def T.inL (L : List Nat) : T → Bool
  | .e x => x.inL L
  | .tup xs => xs.all (E.inL L)
  | .any => true

theorem V.inL_ok {L : List Nat} {x : V} (h : x.inL L = true) (s : Nat) (hs : x.names s) : s ∈ L := by
  cases x with
  | ptr t o => cases hs; simpa [V.inL] using h
  | sub t k o l => cases hs; simpa [V.inL] using h
  | clo f caps =>
    obtain ⟨p, hp, rfl⟩ := hs
    simp only [V.inL, List.all_eq_true] at h
    simpa using h p hp
  | mp t => cases hs; simpa [V.inL] using h
  | mapc es => exact hs.elim
  | d x => exact hs.elim
  | pim ds => exact hs.elim
  | any => exact hs.elim
theorem E.inL_ok {L : List Nat} {x : E} (h : x.inL L = true) (s : Nat) (hs : x.names s) : s ∈ L := by
  cases x with
  | c v => exact V.inL_ok h s hs
  | agg vs =>
    obtain ⟨v, hv, hs⟩ := hs
    simp only [E.inL, List.all_eq_true] at h
    exact V.inL_ok (h v hv) s hs
theorem T.inL_ok {L : List Nat} {x : T} (h : x.inL L = true) (s : Nat) (hs : x.names s) : s ∈ L := by
  cases x with
  | e x => exact E.inL_ok h s hs
  | tup xs =>
    obtain ⟨v, hv, hs⟩ := hs
    simp only [T.inL, List.all_eq_true] at h
    exact E.inL_ok (h v hv) s hs
  | any => exact hs.elim

theorem mkH_some : ∀ (hl : List (Nat × List V)) (s : Nat), s ∈ hl.map (·.1) → mkH hl s ≠ none
  | [], s, h => by simp at h
  | (i, cs) :: r, s, h => by
    simp only [mkH]
    split
    · simp
    · rename_i hne
      simp only [List.map_cons, List.mem_cons] at h
      rcases h with h | h
      · exact absurd h hne
      · exact mkH_some r s h

theorem Weak.of {n : Nat} {stay : Nat → Prop} {e : Nat → T} {H : Heap} {l : List (Nat × T)} {hl : List (Nat × List V)} (h1 : LeAll e l) (h2 : LeAllH H hl)
    (h3 : (l.all fun p => p.2.inL (hl.map (·.1))) = true) (h4 : (hl.all fun p => p.2.all (V.inL (hl.map (·.1)))) = true) (h5 : ∀ s, ¬ stay s) : Weak n stay ⟨e, H⟩ ⟨mk l, mkH hl⟩ := by
  refine Weak.lists l hl (fun p hp => h1.mem p hp) (fun p hp => h2.mem p hp) (fun p hp s hs => mkH_some hl s (T.inL_ok ?_ s hs)) (fun p hp x hx s hs => mkH_some hl s (V.inL_ok ?_ s hs)) (fun s hs => (h5 s hs).elim)
  · simp only [List.all_eq_true] at h3; exact h3 p hp
  · simp only [List.all_eq_true] at h4; exact h4 p hp x hx

theorem ext_pos {c a b : Prop} {d : Decidable c} (h : c) (ha : a) : @ite Prop c d a b := by rw [if_pos h]; exact ha
theorem ext_neg {c a b : Prop} {d : Decidable c} (h : ¬ c) (hb : b) : @ite Prop c d a b := by rw [if_neg h]; exact hb

theorem TLe_self (x : T) : TLe x x ↔ True := ⟨fun _ => trivial, fun _ => TLe.refl x⟩
theorem TLe_any (x : T) : TLe x .any ↔ True := ⟨fun _ => trivial, fun _ => TLe.any x⟩
theorem heapLe_self (x : List V) : (∃ cs0, some x = some cs0 ∧ CsLe cs0 x) ↔ True := ⟨fun _ => trivial, fun _ => ⟨x, rfl, CsLe.refl x⟩⟩

theorem names_of {x : E} (h : x.inL [] = true) (s : Nat) : ¬ x.names s := fun hs => by have := E.inL_ok h s hs; simp at this
theorem namesT_of {x : T} (h : x.inL [] = true) (s : Nat) : ¬ x.names s := fun hs => by have := T.inL_ok h s hs; simp at this
theorem args_names {args : List E} (h : (args.all fun x => x.inL []) = true) : ∀ x ∈ args, ∀ s, ¬ x.names s := fun x hx s => by
  simp only [List.all_eq_true] at h
  exact names_of (h x hx) s

end Go.Ab
end

section
namespace Go.Ab
open Go Go.RowKit

abbrev Foot := List Nat × List Nat

theorem RelAt.drawn {C : Ctx} {γ : G} {σ : St} {a : Act} {w : World} (R : RelAt C γ σ a w) : RelAt C γ σ a { w with drawn := w.drawn + 1 } := by
  have hk : Keep nobody w { w with drawn := w.drawn + 1 } := ⟨rfl, rfl, rfl, Nat.le_succ _, Nat.le_refl _, fun _ _ _ => rfl, fun _ cells _ h => ⟨cells, h, rfl⟩⟩
  exact ⟨R.mem.keep0 hk, fun i => (R.env i).carry hk.carry0 fun _ _ => rfl, R.keep.trans hk (fun _ _ h => h) (fun _ _ h => h.elim), R.own, R.stay, R.defers, R.size⟩

/-- The guard of an operation is met. -/
def Taken (ops : Array Oper) (o : Oper) (σ : St) : Prop := o.guard = none ∨ ∃ j want t, o.guard = some (j, want) ∧ (ops[j]?).bind (·.dst) = some t ∧ σ.env t = .e (.c (.d (.sc (.bool want))))

/-- One step of an operation, with the own blocks that it reads and that it writes. -/
inductive LS (P : Program) (n : Nat) (ops : Array Oper) : Oper → St → St → Foot → Prop where
  | plain {o : Oper} {σ : St} {r : T} (rd : List Nat) (hg : Taken ops o σ) (h : PureOK P o σ.ev r) (hd : dstOK n o.dst) : LS P n ops o σ (σ.put o.dst r) (rd, [])
  | load {o : Oper} {σ : St} {r : T} (hg : Taken ops o σ) (t : TypeId) (x : Operand) (s off : Nat) (cs : List V) (h1 : o.op = .load t x) (h2 : σ.ev x = .e (.c (.ptr s off))) (h3 : σ.heap s = some cs) (h4 : loadV P t cs off = some r)
      (hd : dstOK n o.dst) : LS P n ops o σ (σ.put o.dst r) ([s], [])
  | alloc {o : Oper} {σ : St} {r : T} (hg : Taken ops o σ) (d : Nat) (cs : List V) (h : AllocOK P o σ.ev d cs r) (hd : dstOK n o.dst) (hdn : d < n) (hf : σ.heap d = none) : LS P n ops o σ ⟨(σ.put o.dst r).env, updH σ.heap d (some cs)⟩ ([], [d])
  | store {o : Oper} {σ : St} (hg : Taken ops o σ) (t : TypeId) (x y : Operand) (ho : o.op = .store t x y) (hdst : o.dst = none) (s off : Nat) (cs : List V) (e : E) (m : Nat)
      (hx : σ.ev x = .e (.c (.ptr s off))) (hy : σ.ev y = .e e) (hs : σ.heap s = some cs) (ht : tsz P t = some m) (hl : e.cells.length = m) (hlen : off + m ≤ cs.length) (hM : notM cs = true) : LS P n ops o σ ⟨σ.env, updH σ.heap s (some (splice cs off e.cells))⟩ ([], [s])
  | skip {o : Oper} {σ : St} {j t : Nat} {want b : Bool} (hg : o.guard = some (j, want)) (hj : (ops[j]?).bind (·.dst) = some t) (hb : σ.env t = .e (.c (.d (.sc (.bool b))))) (hne : (b == want) = false) (hd : dstOK n o.dst) :
      LS P n ops o σ (σ.put o.dst .any) ([], [])

/-- The temporaries that an operation looks at. -/
def looks (ops : Array Oper) (o : Oper) : List Nat :=
  (o.op.operands.toList.filterMap fun | .tmp t => some t | _ => none) ++ (match o.guard with | none => [] | some (j, _) => ((ops[j]?).bind (·.dst)).toList)

theorem ev_of_env {σ τ : St} {x : Operand} (h : ∀ t, x = .tmp t → τ.env t = σ.env t) : τ.ev x = σ.ev x := by
  match x with
  | .tmp t => exact h t rfl
  | .const v => rfl
  | .func f => rfl
  | .global g => rfl

theorem Taken.congr {ops : Array Oper} {o : Oper} {σ τ : St} (h : Taken ops o σ) (hl : ∀ t ∈ looks ops o, τ.env t = σ.env t) : Taken ops o τ := by
  rcases h with h | ⟨j, want, t, h1, h2, h3⟩
  · exact .inl h
  · exact .inr ⟨j, want, t, h1, h2, by rw [hl t (by simp [looks, h1, h2]), h3]⟩

/-- The state τ with what the step from σ to σ' has written. -/
def over (τ σ' : St) (o : Oper) (wr : List Nat) : St := ⟨fun i => if o.dst = some i then σ'.env i else τ.env i, fun s => if s ∈ wr then σ'.heap s else τ.heap s⟩

theorem LS.frame {P : Program} {n : Nat} {ops : Array Oper} {o : Oper} {σ σ' : St} {f : Foot} (h : LS P n ops o σ σ' f) : (∀ i, o.dst ≠ some i → σ'.env i = σ.env i) ∧ ∀ s, s ∉ f.2 → σ'.heap s = σ.heap s := by
  cases h with
  | plain => exact ⟨fun i hi => by rw [put_env, if_neg hi], fun s _ => by rw [put_heap]⟩
  | load => exact ⟨fun i hi => by rw [put_env, if_neg hi], fun s _ => by rw [put_heap]⟩
  | alloc => exact ⟨fun i hi => by show (σ.put o.dst _).env i = _; rw [put_env, if_neg hi], fun s hs => by simp at hs; simp [updH, hs]⟩
  | store => exact ⟨fun i hi => rfl, fun s hs => by simp at hs; simp [updH, hs]⟩
  | skip => exact ⟨fun i hi => by rw [put_env, if_neg hi], fun s _ => by rw [put_heap]⟩

theorem LS.local_ {P : Program} {n : Nat} {ops : Array Oper} {o : Oper} {σ σ' : St} {f : Foot} (h : LS P n ops o σ σ' f) {τ : St} (hl : ∀ t ∈ looks ops o, τ.env t = σ.env t) (hh : ∀ s, s ∈ f.1 ∨ s ∈ f.2 → τ.heap s = σ.heap s) :
    LS P n ops o τ (over τ σ' o f.2) f := by
  have hev : ∀ x ∈ o.op.operands.toList, τ.ev x = σ.ev x := fun x hx => ev_of_env fun t ht => hl t (by
    subst ht
    simp only [looks, List.mem_append, List.mem_filterMap]
    exact .inl ⟨_, hx, rfl⟩)
  have eput : ∀ (r : T), over τ (σ.put o.dst r) o [] = τ.put o.dst r := by
    intro r
    have e1 : (over τ (σ.put o.dst r) o []).env = (τ.put o.dst r).env := by
      funext i
      simp only [over, put_env]
      split <;> rfl
    have e2 : (over τ (σ.put o.dst r) o []).heap = (τ.put o.dst r).heap := by
      rw [put_heap]; funext s; simp [over]
    cases hx : over τ (σ.put o.dst r) o []
    cases hy : τ.put o.dst r
    rw [hx, hy] at e1 e2
    simp only at e1 e2
    rw [e1, e2]
  cases h with
  | plain rd hg h hd => rw [eput]; exact .plain rd (hg.congr hl) (h.congr hev) hd
  | load hg t x s off cs h1 h2 h3 h4 hd =>
    rw [eput]
    exact .load (hg.congr hl) t x s off cs h1 (by rw [hev x (by simp [h1, Op.operands]), h2]) (by rw [hh s (.inl (by simp)), h3]) h4 hd
  | @alloc r hg d cs h hd hdn hf =>
    have e : over τ ⟨(σ.put o.dst r).env, updH σ.heap d (some cs)⟩ o [d] = ⟨(τ.put o.dst r).env, updH τ.heap d (some cs)⟩ := by
      have e1 : (fun i => if o.dst = some i then (σ.put o.dst r).env i else τ.env i) = (τ.put o.dst r).env := by
        funext i; simp only [put_env]; split <;> rfl
      have e2 : (fun s => if s ∈ [d] then updH σ.heap d (some cs) s else τ.heap s) = updH τ.heap d (some cs) := by
        funext s; by_cases hs : s = d <;> simp [updH, hs]
      show St.mk _ _ = St.mk _ _
      rw [e1, e2]
    rw [e]
    exact .alloc (hg.congr hl) d cs (h.congr hev) hd hdn (by rw [hh d (.inr (by simp)), hf])
  | store hg t x y ho hdst s off cs e m hx hy hs ht hle hlen hM =>
    have e' : over τ ⟨σ.env, updH σ.heap s (some (splice cs off e.cells))⟩ o [s] = ⟨τ.env, updH τ.heap s (some (splice cs off e.cells))⟩ := by
      have e1 : (fun i => if o.dst = some i then σ.env i else τ.env i) = τ.env := by
        funext i; simp [hdst]
      have e2 : (fun u => if u ∈ [s] then updH σ.heap s (some (splice cs off e.cells)) u else τ.heap u) = updH τ.heap s (some (splice cs off e.cells)) := by
        funext u; by_cases hs : u = s <;> simp [updH, hs]
      show St.mk _ _ = St.mk _ _
      rw [e1, e2]
    rw [e']
    exact .store (hg.congr hl) t x y ho hdst s off cs e m (by rw [hev x (by simp [ho, Op.operands]), hx]) (by rw [hev y (by simp [ho, Op.operands]), hy]) (by rw [hh s (.inr (by simp)), hs]) ht hle hlen hM
  | skip hg hj hb hne hd =>
    rw [eput]
    exact .skip hg hj (by rw [hl _ (by simp [looks, hg, hj]), hb]) hne hd

theorem LS.wp {P : Program} {n : Nat} {stay : Nat → Prop} {ops : Array Oper} {j : Nat} {o : Oper} {σ σ' : St} {f : Foot} (h : LS P n ops o σ σ' f) (hst : ∀ (s : Nat), s < n → ¬ stay s) (ho : ops[j]? = some o) {C : Ctx} (hn : C.nt = n) (hs : C.stay = stay)
    {a : Act} {w : World} (R : Rel C σ a w) {K : Act → World → Prop} {Q : Exit → Act → World → Prop} (hK : ∀ a' w', Rel C σ' a' w' → K a' w') : wpOp P ops Q j K a w := by
  have hw : ∀ (hg : Taken ops o σ), Region.wanted o (yielded ops a.tmps) = true := by
    intro hg
    rcases hg with hg | ⟨i, want, t, h1, h2, h3⟩
    · simp [Region.wanted, hg]
    · simp [Region.wanted, h1, yielded_of R h2 h3]
  have go : Taken ops o σ → StepOK P n stay o σ σ' → wpOp P ops Q j K a w := by
    intro hg h
    unfold wpOp
    simp only [ho]
    rw [if_pos (hw hg)]
    exact .inl (h C hn hs a w R K Q hK)
  cases h with
  | plain rd hg h hd => exact go hg (.of_pure h hd)
  | load hg t x s off cs h1 h2 h3 h4 hd => exact go hg (.load t x h1 s off cs _ h2 h3 h4 hd)
  | alloc hg d cs h hd hdn hf => exact go hg (.of_alloc h hd hf (hst d hdn))
  | store hg t x y ho hdst s off cs e m hx hy hs ht hle hlen hM => exact go hg (.store t x y ho hdst s off cs e m hx hy hs ht hle hlen hM)
  | skip hg hj hb hne hd =>
    unfold wpOp
    simp only [ho]
    rw [if_neg (by simp [Region.wanted, hg, yielded_of R hj hb]; simpa using hne)]
    obtain ⟨γ, R⟩ := R
    exact hK _ _ ⟨γ, R.skipPut o.dst (by rw [hn]; exact hd) undef .any trivial⟩

/-- The run in the order of the text. -/
inductive RunL (P : Program) (n : Nat) (ops : Array Oper) : List Oper → St → St → List Foot → Prop where
  | nil (σ : St) : RunL P n ops [] σ σ []
  | cons {o : Oper} {l : List Oper} {σ σ1 σ' : St} {f : Foot} {fs : List Foot} (h : LS P n ops o σ σ1 f) (r : RunL P n ops l σ1 σ' fs) : RunL P n ops (o :: l) σ σ' (f :: fs)

/- ancestors, conflicts -/
def ancs : List Oper → List (List Nat) → List (List Nat)
  | [], acc => acc
  | o :: r, acc => ancs r (acc ++ [((o.after.toList.filter (Region.binds .any)).flatMap fun e => e.on :: (acc[e.on]?).getD []).eraseDups])

def meets (a b : List Nat) : Bool := a.any fun x => b.contains x

def conflict (ops : Array Oper) (oi oj : Oper) (fi fj : Foot) : Bool :=
  meets oi.dst.toList (looks ops oj) || meets oj.dst.toList (looks ops oi) || meets oi.dst.toList oj.dst.toList || meets fi.2 (fj.1 ++ fj.2) || meets fj.2 (fi.1 ++ fi.2)

def chk (ops : Array Oper) (fp : List Foot) : Bool :=
  let l := ops.toList
  let A := ancs l []
  ((List.range l.length).all fun j => match l[j]? with | some o => o.after.toList.all (fun e => !Region.binds .any e || decide (e.on < j)) | none => false) && (List.range l.length).all fun j => (List.range j).all fun i =>
    match l[i]?, l[j]?, fp[i]?, fp[j]? with
    | some oi, some oj, some fi, some fj => !conflict ops oi oj fi fj || ((A[j]?).getD []).contains i
    | _, _, _, _ => false

theorem ancs_ok (S : Nat → Prop) (l0 : List Oper) (hcl : ∀ (j : Nat) (o : Oper), l0[j]? = some o → S j → ∀ e ∈ o.after.toList, Region.binds .any e = true → S e.on) :
    ∀ (r pre : List Oper) (acc : List (List Nat)), pre ++ r = l0 → acc.length = pre.length → (∀ j i, i ∈ (acc[j]?).getD [] → S j → S i) → ∀ j i, i ∈ ((ancs r acc)[j]?).getD [] → S j → S i
  | [], _, acc, _, _, hg => hg
  | o :: r, pre, acc, he, hl, hg => by
    simp only [ancs]
    refine ancs_ok S l0 hcl r (pre ++ [o]) _ (by simpa using he) (by simp [hl]) (fun j i hi hj => ?_)
    rw [List.getElem?_append] at hi
    split at hi
    · exact hg j i hi hj
    · rename_i hge
      by_cases hjl : j = acc.length
      · subst hjl
        simp only [Nat.sub_self, List.getElem?_cons_zero, Option.getD_some] at hi
        rw [List.mem_eraseDups] at hi
        simp only [List.mem_flatMap, List.mem_filter] at hi
        obtain ⟨e, ⟨he1, he2⟩, hi⟩ := hi
        have ho : l0[acc.length]? = some o := by rw [← he, hl]; simp
        have hon := hcl _ o ho hj e he1 he2
        rcases List.mem_cons.1 hi with rfl | hi
        · exact hon
        · exact hg _ i hi hon
      · rw [List.getElem?_eq_none (by simp; omega)] at hi
        simp at hi

theorem ancs_low (l0 : List Oper) (hlow : ∀ (j : Nat) (o : Oper), l0[j]? = some o → ∀ e ∈ o.after.toList, Region.binds .any e = true → e.on < j) : ∀ (j i : Nat), i ∈ ((ancs l0 [])[j]?).getD [] → i < j := by
  have key : ∀ (r pre : List Oper) (acc : List (List Nat)), pre ++ r = l0 → acc.length = pre.length → (∀ (j i : Nat), i ∈ (acc[j]?).getD [] → i < j) → ∀ (j i : Nat), i ∈ ((ancs r acc)[j]?).getD [] → i < j := by
    intro r
    induction r with
    | nil => intro pre acc _ _ h; exact h
    | cons o r ih =>
      intro pre acc he hl hg
      simp only [ancs]
      refine ih (pre ++ [o]) _ (by simpa using he) (by simp [hl]) (fun j i hi => ?_)
      rw [List.getElem?_append] at hi
      split at hi
      · exact hg j i hi
      · rename_i hge
        by_cases hjl : j = acc.length
        · subst hjl
          simp only [Nat.sub_self, List.getElem?_cons_zero, Option.getD_some] at hi
          rw [List.mem_eraseDups] at hi
          simp only [List.mem_flatMap, List.mem_filter] at hi
          obtain ⟨e, ⟨he1, he2⟩, hi⟩ := hi
          have ho : l0[acc.length]? = some o := by rw [← he, hl]; simp
          have hon := hlow _ o ho e he1 he2
          rcases List.mem_cons.1 hi with rfl | hi
          · exact hon
          · exact Nat.lt_trans (hg _ i hi) hon
        · rw [List.getElem?_eq_none (by simp; omega)] at hi
          simp at hi
  exact key l0 [] [] rfl rfl (fun j i hi => by simp at hi)

theorem meets_true {a b : List Nat} {x : Nat} (h1 : x ∈ a) (h2 : x ∈ b) : meets a b = true := by
  simp only [meets, List.any_eq_true, List.contains_iff_mem]
  exact ⟨x, h1, h2⟩

theorem RunL.len {P : Program} {n : Nat} {ops : Array Oper} : ∀ {l : List Oper} {σ σ' : St} {fp : List Foot}, RunL P n ops l σ σ' fp → fp.length = l.length
  | _, _, _, _, .nil _ => rfl
  | _, _, _, _, .cons _ r => by simp [RunL.len r]

/-- The states of a run. -/
theorem RunL.states {P : Program} {n : Nat} {ops : Array Oper} : ∀ {l : List Oper} {σ σ' : St} {fp : List Foot}, RunL P n ops l σ σ' fp →
    ∃ X : Nat → St, X 0 = σ ∧ X l.length = σ' ∧ ∀ (j : Nat) (o : Oper) (f : Foot), l[j]? = some o → fp[j]? = some f → LS P n ops o (X j) (X (j + 1)) f
  | _, _, _, _, .nil σ => ⟨fun _ => σ, rfl, rfl, fun j o f h => by simp at h⟩
  | _, _, _, _, .cons (σ := σ) h r => by
    obtain ⟨X, h0, h1, h2⟩ := RunL.states r
    refine ⟨fun j => match j with | 0 => σ | j + 1 => X j, rfl, by simpa using h1, fun j o f ho hf => ?_⟩
    cases j with
    | zero => simp at ho hf; subst ho; subst hf; simp only [h0]; exact h
    | succ j => simp at ho hf; exact h2 j o f ho hf

section
variable (l : List Oper) (fp : List Foot) (X : Nat → St) (S : Nat → Prop) [DecidablePred S]

/-- What stands when the operations of the set S have run, of the first m. -/
def envS : Nat → Nat → T
  | 0, i => (X 0).env i
  | m + 1, i => if S m ∧ (l[m]?).bind (·.dst) = some i then (X (m + 1)).env i else envS m i
def heapS : Nat → Nat → Option (List V)
  | 0, s => (X 0).heap s
  | m + 1, s => if S m ∧ s ∈ ((fp[m]?).map (·.2)).getD [] then (X (m + 1)).heap s else heapS m s
end

section
variable {P : Program} {n : Nat} {ops : Array Oper} {l : List Oper} {fp : List Foot} {X : Nat → St}

theorem frameX (hX : ∀ (j : Nat) (o : Oper) (f : Foot), l[j]? = some o → fp[j]? = some f → LS P n ops o (X j) (X (j + 1)) f) (hlen : fp.length = l.length) (m : Nat) (hm : m < l.length) : (∀ i, (l[m]?).bind (·.dst) ≠ some i → (X (m + 1)).env i = (X m).env i) ∧ ∀ s, s ∉ ((fp[m]?).map (·.2)).getD [] → (X (m + 1)).heap s = (X m).heap s := by
  have ho : l[m]? = some l[m] := List.getElem?_eq_getElem hm
  have hf : fp[m]? = some (fp[m]'(by omega)) := List.getElem?_eq_getElem (by omega)
  have h := (hX m _ _ ho hf).frame
  simp only [ho, hf, Option.bind_some, Option.map_some, Option.getD_some]
  exact h

theorem envS_congr (l : List Oper) (X : Nat → St) (S S' : Nat → Prop) [DecidablePred S] [DecidablePred S'] (t : Nat) (h : ∀ k, (l[k]?).bind (·.dst) = some t → (S k ↔ S' k)) : ∀ m, envS l X S m t = envS l X S' m t
  | 0 => rfl
  | m + 1 => by
    simp only [envS, envS_congr l X S S' t h m]
    by_cases hd : (l[m]?).bind (·.dst) = some t
    · simp only [hd, and_true, h m hd]
    · simp only [hd, and_false]
theorem heapS_congr (fp : List Foot) (X : Nat → St) (S S' : Nat → Prop) [DecidablePred S] [DecidablePred S'] (t : Nat) (h : ∀ k, t ∈ ((fp[k]?).map (·.2)).getD [] → (S k ↔ S' k)) : ∀ m, heapS fp X S m t = heapS fp X S' m t
  | 0 => rfl
  | m + 1 => by
    simp only [heapS, heapS_congr fp X S S' t h m]
    by_cases hd : t ∈ ((fp[m]?).map (·.2)).getD []
    · simp only [hd, and_true, h m hd]
    · simp only [hd, and_false]

/-- A temporary whose writers among the first m in S are just those below j. -/
theorem envS_eq (hX : ∀ (j : Nat) (o : Oper) (f : Foot), l[j]? = some o → fp[j]? = some f → LS P n ops o (X j) (X (j + 1)) f) (hlen : fp.length = l.length) (S : Nat → Prop) [DecidablePred S] (i j : Nat) (hj : j ≤ l.length) (h1 : ∀ k, k < j → (l[k]?).bind (·.dst) = some i → S k) (h2 : ∀ k, j ≤ k → (l[k]?).bind (·.dst) = some i → ¬ S k) :
    ∀ m, m ≤ l.length → envS l X S m i = (X (min m j)).env i
  | 0, _ => by simp [envS]
  | m + 1, hm => by
    have ih := envS_eq hX hlen S i j hj h1 h2 m (by omega)
    simp only [envS]
    by_cases hmj : m < j
    · rw [show min (m + 1) j = m + 1 by omega]
      rw [show min m j = m by omega] at ih
      split
      · rfl
      · rename_i hc
        rw [ih]
        by_cases hd : (l[m]?).bind (·.dst) = some i
        · exact absurd ⟨h1 m hmj hd, hd⟩ hc
        · exact ((frameX hX hlen m (by omega)).1 i hd).symm
    · rw [show min (m + 1) j = j by omega]
      rw [show min m j = j by omega] at ih
      rw [if_neg (by rintro ⟨a, b⟩; exact h2 m (by omega) b a)]
      exact ih

theorem heapS_eq (hX : ∀ (j : Nat) (o : Oper) (f : Foot), l[j]? = some o → fp[j]? = some f → LS P n ops o (X j) (X (j + 1)) f) (hlen : fp.length = l.length) (S : Nat → Prop) [DecidablePred S] (s j : Nat) (hj : j ≤ l.length) (h1 : ∀ k, k < j → s ∈ ((fp[k]?).map (·.2)).getD [] → S k) (h2 : ∀ k, j ≤ k → s ∈ ((fp[k]?).map (·.2)).getD [] → ¬ S k) :
    ∀ m, m ≤ l.length → heapS fp X S m s = (X (min m j)).heap s
  | 0, _ => by simp [heapS]
  | m + 1, hm => by
    have ih := heapS_eq hX hlen S s j hj h1 h2 m (by omega)
    simp only [heapS]
    by_cases hmj : m < j
    · rw [show min (m + 1) j = m + 1 by omega]
      rw [show min m j = m by omega] at ih
      split
      · rfl
      · rename_i hc
        rw [ih]
        by_cases hd : s ∈ ((fp[m]?).map (·.2)).getD []
        · exact absurd ⟨h1 m hmj hd, hd⟩ hc
        · exact ((frameX hX hlen m (by omega)).2 s hd).symm
    · rw [show min (m + 1) j = j by omega]
      rw [show min m j = j by omega] at ih
      rw [if_neg (by rintro ⟨a, b⟩; exact h2 m (by omega) b a)]
      exact ih
end

theorem chk_edge {ops : Array Oper} {fp : List Foot} (h : chk ops fp = true) {j : Nat} {o : Oper} (ho : ops.toList[j]? = some o) {e : Edge} (he : e ∈ o.after.toList) (hb : Region.binds .any e = true) : e.on < j := by
  unfold chk at h
  simp only [Bool.and_eq_true, List.all_eq_true, List.mem_range] at h
  have hj : j < ops.toList.length := (List.getElem?_eq_some_iff.1 ho).1
  have := h.1 j hj
  rw [ho] at this
  simp only [List.all_eq_true, Bool.or_eq_true, decide_eq_true_eq] at this
  rcases this e he with h | h
  · rw [hb] at h; cases h
  · exact h

theorem chk_conf {ops : Array Oper} {fp : List Foot} (h : chk ops fp = true) {i j : Nat} (hij : i < j) {oi oj : Oper} {fi fj : Foot} (hi : ops.toList[i]? = some oi) (hj : ops.toList[j]? = some oj) (hfi : fp[i]? = some fi) (hfj : fp[j]? = some fj)
    (hc : conflict ops oi oj fi fj = true) : i ∈ ((ancs ops.toList [])[j]?).getD [] := by
  unfold chk at h
  simp only [Bool.and_eq_true, List.all_eq_true, List.mem_range] at h
  have hjl : j < ops.toList.length := (List.getElem?_eq_some_iff.1 hj).1
  have := h.2 j hjl i hij
  rw [hi, hj, hfi, hfj] at this
  simp only [Bool.or_eq_true] at this
  rcases this with h | h
  · rw [hc] at h; cases h
  · simpa using h

theorem region_draw {P : Program} {n : Nat} {stay : Nat → Prop} {ops : Array Oper} {σ σ' : St} {fp : List Foot} (hm : P.follows .mixedOrders = true) (hr : RunL P n ops ops.toList σ σ' fp) (hc : chk ops fp = true) (hst : ∀ (s : Nat), s < n → ¬ stay s)
    {C : Ctx} (hn : C.nt = n) (hs : C.stay = stay) {a : Act} {w : World} (R : Rel C σ a w) {Q : Exit → Act → World → Prop} (hQ : ∀ a' w', Rel C σ' a' w' → Q .normal a' w') {id : Nat} : (Code.region id ops true).wp P Q a w := by
  obtain ⟨X, hX0, hXm, hX⟩ := hr.states
  have hlen := hr.len
  have hsz : ops.toList.length = ops.size := by simp
  refine wp_region_any hm ?_
  -- the induction
  have key : ∀ (fuel : Nat) (U : List Nat) (listed : Array Bool) (a : Act) (w : World), U.length ≤ fuel → listed.size = ops.size → (∀ i, i < ops.size → listed.getD i false = false → i ∈ U) →
      (∀ (j : Nat) (o : Oper), ops.toList[j]? = some o → listed.getD j false = true → ∀ e ∈ o.after.toList, Region.binds .any e = true → listed.getD e.on false = true) →
      Rel C ⟨envS ops.toList X (fun i => listed.getD i false = true) ops.toList.length, heapS fp X (fun i => listed.getD i false = true) ops.toList.length⟩ a w → wpAny P .any ops Q fuel listed a w := by
    intro fuel
    have allDone : ∀ (listed : Array Bool) (a : Act) (w : World), (∀ i, i < ops.size → listed.getD i false = true) →
        Rel C ⟨envS ops.toList X (fun i => listed.getD i false = true) ops.toList.length, heapS fp X (fun i => listed.getD i false = true) ops.toList.length⟩ a w → Q .normal a w := by
      intro listed a w hall R
      refine hQ a w ?_
      have e1 : envS ops.toList X (fun i => listed.getD i false = true) ops.toList.length = σ'.env := by
        funext i
        have := envS_eq hX hlen (fun i => listed.getD i false = true) i ops.toList.length (Nat.le_refl _) (fun k hk _ => hall k (by omega)) (fun k hk hd => by rw [List.getElem?_eq_none hk] at hd; simp at hd) ops.toList.length (Nat.le_refl _)
        rw [this, Nat.min_self, hXm]
      have e2 : heapS fp X (fun i => listed.getD i false = true) ops.toList.length = σ'.heap := by
        funext s
        have := heapS_eq hX hlen (fun i => listed.getD i false = true) s ops.toList.length (Nat.le_refl _) (fun k hk _ => hall k (by omega)) (fun k hk hd => by rw [List.getElem?_eq_none (by omega)] at hd; simp at hd) ops.toList.length (Nat.le_refl _)
        rw [this, Nat.min_self, hXm]
      rw [e1, e2] at R
      exact R
    have noneReady : ∀ (listed : Array Bool), listed.size = ops.size → Region.ready .any ops listed = [] → ∀ i, i < ops.size → listed.getD i false = true := by
      intro listed hls hre i
      induction i using Nat.strongRecOn with
      | _ i ih =>
        intro hi
        cases hv : listed.getD i false with
        | true => rfl
        | false =>
          exfalso
          have ho : ops[i]? = some ops[i] := Array.getElem?_eq_getElem hi
          have hmem : i ∈ Region.ready .any ops listed := by
            simp only [Region.ready, List.mem_filter, List.mem_range]
            refine ⟨hi, ?_⟩
            have hl1 : listed.getD i true = false := by
              have : i < listed.size := by omega
              simp [this] at hv ⊢
              exact hv
            rw [hl1, ho]
            simp only [Bool.not_false, Bool.true_and, Option.map_some, Option.getD_some, Array.all_eq_true']
            intro e he
            by_cases hb : Region.binds .any e = true
            · have hlt := chk_edge hc (j := i) (o := ops[i]) (by simp) (by simpa using he) hb
              rw [ih e.on hlt (by omega)]
              simp
            · simp at hb; simp [hb]
          rw [hre] at hmem
          simp at hmem
    induction fuel with
    | zero =>
      intro U listed a w hU hls hun hcl R
      have hU0 : U = [] := List.eq_nil_of_length_eq_zero (by omega)
      subst hU0
      have hall : ∀ i, i < ops.size → listed.getD i false = true := fun i hi => by
        cases hv : listed.getD i false with
        | true => rfl
        | false => have := hun i hi hv; simp at this
      refine ⟨?_, allDone listed a w hall R⟩
      simp only [Region.ready, List.filter_eq_nil_iff, List.mem_range]
      intro i hi
      have : i < listed.size := by omega
      have h1 := hall i hi
      simp [this] at h1 ⊢
      intro h2; rw [h1] at h2; cases h2
    | succ fuel ih =>
      intro U listed a w hU hls hun hcl R
      refine ⟨fun hre => allDone listed a w (noneReady listed hls hre) R, fun j hj => ?_⟩
      simp only [Region.ready, List.mem_filter, List.mem_range] at hj
      obtain ⟨hjs, hjr⟩ := hj
      have hoa : ops[j]? = some ops[j] := Array.getElem?_eq_getElem hjs
      have ho : ops.toList[j]? = some ops[j] := by simp
      rw [hoa] at hjr
      simp only [Bool.and_eq_true, Bool.not_eq_true', Option.map_some, Option.getD_some, Array.all_eq_true'] at hjr
      obtain ⟨hjl, hedges⟩ := hjr
      have hjlt : j < listed.size := by omega
      have hjf : listed.getD j false = false := by simp [hjlt] at hjl ⊢; exact hjl
      have hedge : ∀ e ∈ ops[j].after.toList, Region.binds .any e = true → listed.getD e.on false = true := by
        intro e he hb
        have := hedges e (by simpa using he)
        simpa [hb] using this
      have hf : fp[j]? = some (fp[j]'(by omega)) := List.getElem?_eq_getElem (by omega)
      have hLS := hX j _ _ ho hf
      -- what is ordered
      have hbefore : ∀ i, i ∈ ((ancs ops.toList [])[j]?).getD [] → listed.getD i false = true := by
        intro i hi
        -- i is an ancestor of j: by the set with j added
        have := ancs_ok (fun k => listed.getD k false = true ∨ k = j) ops.toList (fun k o hk hSk e he hb => by
          rcases hSk with h | rfl
          · exact .inl (hcl k o hk h e he hb)
          · rw [ho] at hk; injection hk with hk; subst hk; exact .inl (hedge e he hb)) ops.toList [] [] rfl rfl (fun k i hi => by simp at hi) j i hi (.inr rfl)
        rcases this with h | rfl
        · exact h
        · -- an ancestor lies below
          exfalso
          have hb := ancs_ok (fun k => listed.getD k false = true) ops.toList hcl ops.toList [] [] rfl rfl (fun k i hi => by simp at hi)
          have hlow := ancs_low ops.toList (fun k o hk e he hb => chk_edge hc hk he hb) i i hi
          omega
      have hafter : ∀ k, listed.getD k false = true → j ∈ ((ancs ops.toList [])[k]?).getD [] → False := by
        intro k hk hjk
        have := ancs_ok (fun k => listed.getD k false = true) ops.toList hcl ops.toList [] [] rfl rfl (fun k i hi => by simp at hi) k j hjk hk
        rw [hjf] at this; cases this
      have getf : ∀ (k : Nat) (hk : k < ops.toList.length), fp[k]? = some (fp[k]'(by omega)) := fun k hk => List.getElem?_eq_getElem _
      -- temporaries that are looked at, or written
      have henv : ∀ t, (t ∈ looks ops ops[j] ∨ ops[j].dst = some t) → (∀ k, k < j → (ops.toList[k]?).bind (·.dst) = some t → listed.getD k false = true) ∧ (∀ k, j < k → (ops.toList[k]?).bind (·.dst) = some t → ¬ listed.getD k false = true) := by
        intro t ht
        refine ⟨fun k hk hd => ?_, fun k hk hd hl => ?_⟩
        · obtain ⟨ok, hok, hdk⟩ := Option.bind_eq_some_iff.1 hd
          refine hbefore k (chk_conf hc hk hok ho (getf k (List.getElem?_eq_some_iff.1 hok).1) hf ?_)
          unfold conflict
          rcases ht with ht | ht
          · rw [meets_true (a := ok.dst.toList) (b := looks ops ops[j]) (x := t) (by simp [hdk]) ht]; simp
          · rw [meets_true (a := ok.dst.toList) (b := ops[j].dst.toList) (x := t) (by simp [hdk]) (by simp [ht])]; simp
        · obtain ⟨ok, hok, hdk⟩ := Option.bind_eq_some_iff.1 hd
          refine hafter k hl (chk_conf hc hk ho hok hf (getf k (List.getElem?_eq_some_iff.1 hok).1) ?_)
          unfold conflict
          rcases ht with ht | ht
          · rw [meets_true (a := ok.dst.toList) (b := looks ops ops[j]) (x := t) (by simp [hdk]) ht]; simp
          · rw [meets_true (a := ops[j].dst.toList) (b := ok.dst.toList) (x := t) (by simp [ht]) (by simp [hdk])]; simp
      have hheap : ∀ s, (s ∈ (fp[j]'(by omega)).1 ∨ s ∈ (fp[j]'(by omega)).2) → (∀ k, k < j → s ∈ ((fp[k]?).map (·.2)).getD [] → listed.getD k false = true) ∧ (∀ k, j < k → s ∈ ((fp[k]?).map (·.2)).getD [] → ¬ listed.getD k false = true) := by
        intro s hs
        refine ⟨fun k hk hd => ?_, fun k hk hd hl => ?_⟩
        · have hkl : k < ops.toList.length := by omega
          have hok : ops.toList[k]? = some ops.toList[k] := List.getElem?_eq_getElem hkl
          have hfk := getf k hkl
          rw [hfk] at hd
          simp only [Option.map_some, Option.getD_some] at hd
          refine hbefore k (chk_conf hc hk hok ho hfk hf ?_)
          unfold conflict
          rw [meets_true (a := (fp[k]'(by omega)).2) (b := (fp[j]'(by omega)).1 ++ (fp[j]'(by omega)).2) (x := s) hd (by simpa using hs)]; simp
        · have hkl : k < ops.toList.length := by
            rcases Nat.lt_or_ge k ops.toList.length with h | h
            · exact h
            · rw [List.getElem?_eq_none (by omega)] at hd; simp at hd
          have hok : ops.toList[k]? = some ops.toList[k] := List.getElem?_eq_getElem hkl
          have hfk := getf k hkl
          rw [hfk] at hd
          simp only [Option.map_some, Option.getD_some] at hd
          refine hafter k hl (chk_conf hc hk ho hok hf hfk ?_)
          unfold conflict
          rw [meets_true (a := (fp[k]'(by omega)).2) (b := (fp[j]'(by omega)).1 ++ (fp[j]'(by omega)).2) (x := s) hd (by simpa using hs)]; simp
      -- the step from the state of the set
      have hloc := hLS.local_ (τ := ⟨envS ops.toList X (fun i => listed.getD i false = true) ops.toList.length, heapS fp X (fun i => listed.getD i false = true) ops.toList.length⟩)
        (fun t ht => by
          have h1 := henv t (.inl ht)
          have := envS_eq hX hlen (fun i => listed.getD i false = true) t j (by omega) h1.1 (fun k hk hd => by
            rcases Nat.lt_or_ge j k with h | h
            · exact h1.2 k h hd
            · have : k = j := by omega
              subst this; rw [hjf]; simp) ops.toList.length (Nat.le_refl _)
          rw [show min ops.toList.length j = j by omega] at this
          exact this)
        (fun s hs => by
          have h1 := hheap s hs
          have := heapS_eq hX hlen (fun i => listed.getD i false = true) s j (by omega) h1.1 (fun k hk hd => by
            rcases Nat.lt_or_ge j k with h | h
            · exact h1.2 k h hd
            · have : k = j := by omega
              subst this; rw [hjf]; simp) ops.toList.length (Nat.le_refl _)
          rw [show min ops.toList.length j = j by omega] at this
          exact this)
      refine hloc.wp hst hoa hn hs R fun a' w' R' => ih (U.erase j) (listed.setIfInBounds j true) a' w' ?_ (by simp [hls]) ?_ ?_ ?_
      · have := List.length_erase_of_mem (hun j hjs hjf)
        omega
      · intro i hi hv
        have hne : i ≠ j := by
          rintro rfl
          simp [hjlt] at hv
        have hv' : listed.getD i false = false := by rw [getD_set_ne false (Ne.symm hne)] at hv; exact hv
        exact (List.mem_erase_of_ne hne).2 (hun i hi hv')
      · intro k o hk hl e he hb
        by_cases hkj : k = j
        · subst hkj
          rw [ho] at hk; injection hk with hk; subst hk
          exact getD_set_true (hedge e he hb)
        · rw [getD_set_ne false (fun h => hkj h.symm)] at hl
          exact getD_set_true (hcl k o hk hl e he hb)
      · -- the new state is that of the greater set
        have eS : ∀ k, (listed.setIfInBounds j true).getD k false = true ↔ (listed.getD k false = true ∨ k = j) := by
          intro k
          by_cases hkj : k = j
          · subst hkj; simp [hjlt]
          · rw [getD_set_ne false (fun h => hkj h.symm)]; simp [hkj]
        have e1 : envS ops.toList X (fun i => (listed.setIfInBounds j true).getD i false = true) ops.toList.length = (over ⟨envS ops.toList X (fun i => listed.getD i false = true) ops.toList.length, heapS fp X (fun i => listed.getD i false = true) ops.toList.length⟩ (X (j + 1)) ops[j] (fp[j]'(by omega)).2).env := by
          funext t
          simp only [over]
          by_cases hd : ops[j].dst = some t
          · rw [if_pos hd]
            have h1 := henv t (.inr hd)
            have := envS_eq hX hlen (fun i => (listed.setIfInBounds j true).getD i false = true) t (j + 1) (by omega) (fun k hk hdk => by
              rw [eS]
              rcases Nat.lt_or_ge k j with h | h
              · exact .inl (h1.1 k h hdk)
              · exact .inr (by omega)) (fun k hk hdk => by
              rw [eS]
              rintro (h | h)
              · exact h1.2 k (by omega) hdk h
              · omega) ops.toList.length (Nat.le_refl _)
            rw [this, show min ops.toList.length (j + 1) = j + 1 by omega]
          · rw [if_neg hd]
            exact envS_congr ops.toList X _ _ t (fun k hdk => by
              rw [eS]
              constructor
              · rintro (h | rfl)
                · exact h
                · rw [ho] at hdk; exact absurd hdk hd
              · exact .inl) _
        have e2 : heapS fp X (fun i => (listed.setIfInBounds j true).getD i false = true) ops.toList.length = (over ⟨envS ops.toList X (fun i => listed.getD i false = true) ops.toList.length, heapS fp X (fun i => listed.getD i false = true) ops.toList.length⟩ (X (j + 1)) ops[j] (fp[j]'(by omega)).2).heap := by
          funext s
          simp only [over]
          by_cases hd : s ∈ (fp[j]'(by omega)).2
          · rw [if_pos hd]
            have h1 := hheap s (.inr hd)
            have := heapS_eq hX hlen (fun i => (listed.setIfInBounds j true).getD i false = true) s (j + 1) (by omega) (fun k hk hdk => by
              rw [eS]
              rcases Nat.lt_or_ge k j with h | h
              · exact .inl (h1.1 k h hdk)
              · exact .inr (by omega)) (fun k hk hdk => by
              rw [eS]
              rintro (h | h)
              · exact h1.2 k (by omega) hdk h
              · omega) ops.toList.length (Nat.le_refl _)
            rw [this, show min ops.toList.length (j + 1) = j + 1 by omega]
          · rw [if_neg hd]
            exact heapS_congr fp X _ _ s (fun k hdk => by
              rw [eS]
              constructor
              · rintro (h | rfl)
                · exact h
                · rw [hf] at hdk; exact absurd hdk hd
              · exact .inl) _
        have e3 : (⟨envS ops.toList X (fun i => (listed.setIfInBounds j true).getD i false = true) ops.toList.length, heapS fp X (fun i => (listed.setIfInBounds j true).getD i false = true) ops.toList.length⟩ : St) = over ⟨envS ops.toList X (fun i => listed.getD i false = true) ops.toList.length, heapS fp X (fun i => listed.getD i false = true) ops.toList.length⟩ (X (j + 1)) ops[j] (fp[j]'(by omega)).2 := by
          rw [e1, e2]
        rw [e3]
        exact R'
  refine key ops.size (List.range ops.size) _ a _ (by simp) (by simp) (fun i hi _ => by simpa using hi) (fun j o hj hl => ?_) ?_
  · exfalso
    have hjl : j < ops.size := by have := (List.getElem?_eq_some_iff.1 hj).1; omega
    simp [hjl] at hl
  · have e1 : envS ops.toList X (fun i => (Array.replicate ops.size false).getD i false = true) ops.toList.length = σ.env := by
      funext i
      have := envS_eq hX hlen (fun i => (Array.replicate ops.size false).getD i false = true) i 0 (by omega) (fun k hk => by omega) (fun k hk hd => by
        have hkl : k < ops.size := by
          rcases Nat.lt_or_ge k ops.size with h | h
          · exact h
          · rw [List.getElem?_eq_none (by omega)] at hd; simp at hd
        simp [hkl]) ops.toList.length (Nat.le_refl _)
      rw [this, show min ops.toList.length 0 = 0 by omega, hX0]
    have e2 : heapS fp X (fun i => (Array.replicate ops.size false).getD i false = true) ops.toList.length = σ.heap := by
      funext s
      have := heapS_eq hX hlen (fun i => (Array.replicate ops.size false).getD i false = true) s 0 (by omega) (fun k hk => by omega) (fun k hk hd => by
        have hkl : k < ops.size := by
          rcases Nat.lt_or_ge k ops.size with h | h
          · exact h
          · rw [List.getElem?_eq_none (by omega)] at hd; simp at hd
        simp [hkl]) ops.toList.length (Nat.le_refl _)
      rw [this, show min ops.toList.length 0 = 0 by omega, hX0]
    rw [e1, e2]
    obtain ⟨γ, R0⟩ := R
    exact ⟨γ, R0.drawn⟩

/- the rules that a program prints -/
def foot (o : Oper) (σ : St) : Foot :=
  match o.op with
  | .load _ x => (match σ.ev x with | .e (.c (.ptr s _)) => ([s], []) | _ => ([], []))
  | .store _ x _ => (match σ.ev x with | .e (.c (.ptr s _)) => ([], [s]) | _ => ([], []))
  | .box _ _ => ([], o.dst.toList)
  | .alloc _ => ([], o.dst.toList)
  | .makeSlice _ _ _ => ([], o.dst.toList)
  | _ => ([], [])

theorem opF_LS {P : Program} {n : Nat} {ops : Array Oper} {o : Oper} {σ σ' : St} (h : opF P n o σ = some σ') (hg : Taken ops o σ) : LS P n ops o σ σ' (foot o σ) := by
  obtain ⟨dst, op, ty, pos, aft, gd⟩ := o
  cases dst with
  | none =>
    cases op <;> first | (cases h; done) | skip
    rename_i t x y
    change storeF P t x y σ = some σ' at h
    unfold storeF at h
    split at h
    · rename_i s off e m h1 h2 h3
      split at h
      · rename_i cs h4
        split at h
        · rename_i hc
          injection h with h; subst h
          have hf : foot ⟨none, .store t x y, ty, pos, aft, gd⟩ σ = ([], [s]) := by simp [foot, h1]
          rw [hf]
          exact .store hg t x y rfl rfl s off cs e m h1 h2 h4 h3 hc.1 hc.2.1 hc.2.2
        · cases h
      · cases h
    · cases h
  | some d =>
    by_cases hlt : d < n
    · have plain : ∀ r, opT P op σ = some r → σ' = ⟨upd σ.env d r, σ.heap⟩ → (foot ⟨some d, op, ty, pos, aft, gd⟩ σ = ([], []) ∨ ∃ t x, op = .load t x) → LS P n ops ⟨some d, op, ty, pos, aft, gd⟩ σ σ' (foot ⟨some d, op, ty, pos, aft, gd⟩ σ) := by
        intro r hr e hf
        subst e
        rcases opT_pure (o := ⟨some d, op, ty, pos, aft, gd⟩) hr with h1 | ⟨t, x, s, off, cs, h1, h2, h3, h4⟩
        · rcases hf with h0 | ⟨t, x, rfl⟩
          · rw [h0]
            exact .plain [] hg h1 (dst_ok hlt)
          · have hrd : ∃ rd, foot ⟨some d, .load t x, ty, pos, aft, gd⟩ σ = (rd, []) := by
              simp only [foot]
              split
              · exact ⟨_, rfl⟩
              · exact ⟨_, rfl⟩
            obtain ⟨rd, hrd⟩ := hrd
            rw [hrd]
            exact .plain rd hg h1 (dst_ok hlt)
        · simp only at h1
          subst h1
          have hf2 : foot ⟨some d, .load t x, ty, pos, aft, gd⟩ σ = ([s], []) := by simp [foot, h2]
          rw [hf2]
          exact .load hg t x s off cs rfl h2 h3 h4 (dst_ok hlt)
      cases op <;> simp only [opF, hlt, if_true] at h
      case box t x =>
        unfold boxF at h
        split at h
        · rename_i e h1 h2
          injection h with h; subst h
          exact .alloc hg d _ (alloc_box (P := P) t x rfl d e h2) (dst_ok hlt) hlt h1
        · cases h
      case alloc t =>
        unfold allocF at h
        split at h
        · rename_i cs h1 h2
          injection h with h; subst h
          exact .alloc hg d _ (alloc_alloc (P := P) (ev := σ.ev) t rfl d cs h2) (dst_ok hlt) hlt h1
        · cases h
      case makeSlice t lx cx =>
        unfold makeF at h
        split at h
        · rename_i e kl l kc c h0 h1 h2 h3
          split at h
          · rename_i k y zs h4 h5 h6
            split at h
            · rename_i hc
              obtain ⟨c3, c4, c5, c6, c7⟩ := hc
              subst c5
              injection h with h; subst h
              have hl : ((l.toNat : Nat) : Int) = l := Int.toNat_of_nonneg c4
              exact .alloc hg d _ (alloc_makeSlice (P := P) t lx cx rfl d e k y zs l.toNat kl kc h1 h4 h5 h6 c3 (by rw [hl]; exact scOf_some h2) (by rw [hl]; exact scOf_some h3) c6 (by omega)) (dst_ok hlt) hlt h0
            · cases h
          · cases h
        · cases h
      case store t x y =>
        rw [Option.map_eq_some_iff] at h
        obtain ⟨r, hr, e⟩ := h
        simp [opT] at hr
      case load t x =>
        rw [Option.map_eq_some_iff] at h
        obtain ⟨r, hr, e⟩ := h
        exact plain r hr e.symm (.inr ⟨t, x, rfl⟩)
      all_goals
        (rw [Option.map_eq_some_iff] at h; obtain ⟨r, hr, e⟩ := h; exact plain r hr e.symm (.inl rfl))
    · simp only [opF, hlt, if_false] at h
      cases h

def runD (P : Program) (n : Nat) (gm : List (Nat × Nat)) : List Oper → St → Option (St × List Foot)
  | [], σ => some (σ, [])
  | o :: ol, σ =>
    match o.guard with
    | none => (match opF P n o σ with | some σ' => (match runD P n gm ol σ' with | some (τ, fs) => some (τ, foot o σ :: fs) | none => none) | none => none)
    | some (j, want) =>
      match guardOf gm j with
      | none => none
      | some t =>
        match scOf (σ.env t) with
        | some (.bool b) =>
          if b = want then (match opF P n o σ with | some σ' => (match runD P n gm ol σ' with | some (τ, fs) => some (τ, foot o σ :: fs) | none => none) | none => none)
          else (match o.dst with
            | some d => if d < n then (match runD P n gm ol ⟨upd σ.env d .any, σ.heap⟩ with | some (τ, fs) => some (τ, ([], []) :: fs) | none => none) else none
            | none => (match runD P n gm ol σ with | some (τ, fs) => some (τ, ([], []) :: fs) | none => none))
        | _ => none

theorem RunL.append {P : Program} {n : Nat} {ops : Array Oper} : ∀ {l l' : List Oper} {σ σ1 σ' : St} {fp fp' : List Foot}, RunL P n ops l σ σ1 fp → RunL P n ops l' σ1 σ' fp' → RunL P n ops (l ++ l') σ σ' (fp ++ fp')
  | _, _, _, _, _, _, _, .nil _, h => h
  | _, _, _, _, _, _, _, .cons h r, h' => .cons h (RunL.append r h')

theorem runD_run {P : Program} {n : Nat} {ops : Array Oper} (gm : List (Nat × Nat)) (hgm : gmOK ops gm) : ∀ (ol : List Oper) (σ σ' : St) (fs : List Foot), runD P n gm ol σ = some (σ', fs) → RunL P n ops ol σ σ' fs
  | [], σ, σ', fs, h => by
    simp only [runD] at h
    injection h with h; injection h with h1 h2; subst h1; subst h2
    exact .nil _
  | o :: ol, σ, σ', fs, h => by
    simp only [runD] at h
    split at h
    · rename_i hg
      split at h
      · rename_i σ1 h1
        split at h
        · rename_i τ fs' h2
          injection h with h; injection h with e1 e2; subst e1; subst e2
          exact .cons (opF_LS h1 (.inl hg)) (runD_run gm hgm ol σ1 τ fs' h2)
        · cases h
      · cases h
    · rename_i j want hg
      split at h
      · cases h
      · rename_i t ht
        have hj := guardOf_ok gm j t hgm ht
        split at h
        · rename_i b hb
          split at h
          · rename_i e; subst e
            split at h
            · rename_i σ1 h1
              split at h
              · rename_i τ fs' h2
                injection h with h; injection h with e1 e2; subst e1; subst e2
                exact .cons (opF_LS h1 (.inr ⟨j, b, t, hg, hj, scOf_some hb⟩)) (runD_run gm hgm ol σ1 τ fs' h2)
              · cases h
            · cases h
          · rename_i hne
            have hbw : (b == want) = false := by simpa using hne
            split at h
            · rename_i d hd
              split at h
              · rename_i hlt
                split at h
                · rename_i τ fs' h2
                  injection h with h; injection h with e1 e2; subst e1; subst e2
                  refine .cons (.skip hg hj (scOf_some hb) hbw (by rw [hd]; exact dst_ok hlt)) ?_
                  rw [hd]
                  exact runD_run gm hgm ol _ τ fs' h2
                · cases h
              · cases h
            · rename_i hd
              split at h
              · rename_i τ fs' h2
                injection h with h; injection h with e1 e2; subst e1; subst e2
                refine .cons (.skip hg hj (scOf_some hb) hbw (by rw [hd]; intro j hj; cases hj)) ?_
                rw [hd]
                exact runD_run gm hgm ol _ τ fs' h2
              · cases h
        · cases h

def DOps (P : Program) (n : Nat) (ops : Array Oper) (dn : List Foot) (l : List Oper) (σ : St) (K : St → Prop) : Prop := ∃ σ' fp, RunL P n ops l σ σ' fp ∧ chk ops (dn ++ fp) = true ∧ K σ'

section
variable {P : Program} {n : Nat} {ops : Array Oper} {rest : List Oper} {dn : List Foot} {l : List (Nat × T)} {H : Heap} {K : St → Prop}

theorem DOps.nil {σ : St} (hc : chk ops dn = true) (h : K σ) : DOps P n ops dn [] σ K := ⟨σ, [], .nil σ, by simpa using hc, h⟩

theorem DOps.runG (gm : List (Nat × Nat)) (hgm : gmOK ops gm) (ol rest : List Oper) (σ σ' : St) (fs dn' : List Foot) (h : runD P n gm ol σ = some (σ', fs)) (he : dn ++ fs = dn') (hk : DOps P n ops dn' rest σ' K) : DOps P n ops dn (ol ++ rest) σ K := by
  obtain ⟨τ, fp, r, c, k⟩ := hk
  subst he
  exact ⟨τ, fs ++ fp, (runD_run gm hgm ol σ σ' fs h).append r, by rwa [← List.append_assoc], k⟩

theorem DOps.call {d f : Nat} {xs : Array Operand} {ts : Array TypeId} {ty : TypeId} {pos : String} {af : Array Edge} {args : List E} {r : T}
    (hs : Pur P f args r) (he : (xs.toList.map fun x => (St.ev ⟨mk l, H⟩ x).norm) = args.map .e) (hn : ∀ x ∈ args, ∀ s, ¬ x.names s) (hd : d < n)
    (h : DOps P n ops (dn ++ [([], [])]) rest ⟨mk ((d, r) :: l), H⟩ K) : DOps P n ops dn (⟨some d, .call ⟨.value (.func f), xs, ts⟩, ty, pos, af, none⟩ :: rest) ⟨mk l, H⟩ K := by
  obtain ⟨τ, fp, rr, c, k⟩ := h
  exact ⟨τ, ([], []) :: fp, .cons (.plain [] (.inl rfl) (pure_call f xs ts rfl args r hs he hn) (dst_ok hd)) rr, by simpa using c, k⟩

theorem DOps.callYes {d f : Nat} {xs : Array Operand} {ts : Array TypeId} {ty : TypeId} {pos : String} {af : Array Edge} {args : List E} {r : T} {j : Nat} {want : Bool} (t : Nat)
    (hj : (ops[j]?).bind (·.dst) = some t) (hb : mk l t = .e (.c (.d (.sc (.bool want)))))
    (hs : Pur P f args r) (he : (xs.toList.map fun x => (St.ev ⟨mk l, H⟩ x).norm) = args.map .e) (hn : ∀ x ∈ args, ∀ s, ¬ x.names s) (hd : d < n)
    (h : DOps P n ops (dn ++ [([], [])]) rest ⟨mk ((d, r) :: l), H⟩ K) : DOps P n ops dn (⟨some d, .call ⟨.value (.func f), xs, ts⟩, ty, pos, af, some (j, want)⟩ :: rest) ⟨mk l, H⟩ K := by
  obtain ⟨τ, fp, rr, c, k⟩ := h
  exact ⟨τ, ([], []) :: fp, .cons (.plain [] (.inr ⟨j, want, t, rfl, hj, hb⟩) (pure_call f xs ts rfl args r hs he hn) (dst_ok hd)) rr, by simpa using c, k⟩

theorem DOps.split {ol : List Oper} (t : Nat) (b : Bool) (hb : mk l t = .e (.c (.d (.sc (.bool b))))) (h1 : b = true → DOps P n ops dn ol ⟨mk ((t, .e (.c (.d (.sc (.bool true))))) :: l), H⟩ K)
    (h2 : b = false → DOps P n ops dn ol ⟨mk ((t, .e (.c (.d (.sc (.bool false))))) :: l), H⟩ K) : DOps P n ops dn ol ⟨mk l, H⟩ K := by
  cases b
  · rw [← env_same hb]; exact h2 rfl
  · rw [← env_same hb]; exact h1 rfl

theorem WP.regionD {stay : Nat → Prop} {id : Nat} {ol : List Oper} {σ : St} {Q : Post} (hm : P.follows .mixedOrders = true) (hst : ∀ (s : Nat), s < n → ¬ stay s) (h : DOps P n ol.toArray [] ol σ Q.nrm) : WP P n stay (.region id ol.toArray true) σ Q := by
  intro C hn hs a w R
  obtain ⟨σ', fp, r, c, k⟩ := h
  exact region_draw hm (by simpa using r) (by simpa using c) hst hn hs R fun a' w' R' => ⟨σ', R', k⟩
end

end Go.Ab
end

section
namespace Go.Ab
open Go Go.RowKit

theorem exec_copy {P : Program} {o : Oper} {a : Act} {w w' : World} {x y : Operand} {t t' : TypeId} {v : Value} (ho : o.op = .call { callee := .builtin .copy, args := #[x, y], argTypes := #[t, t'] })
    (h : (Builtin.copy_ #[t, t'] o.type #[a.eval x, a.eval y]).run P w = .ok v w') : (execOp a.eval o).run P w = .ok (.value v) w' := by
  simp [execOp, ho, resolve, invoke, builtin, h]

theorem StepOK.copy {P : Program} {n : Nat} {stay : Nat → Prop} {o : Oper} {σ : St} (x y : Operand) (t t' : TypeId) (ho : o.op = .call { callee := .builtin .copy, args := #[x, y], argTypes := #[t, t'] })
    (s k off len : Nat) (cs src : List V) (m : Nat) (hx : σ.ev x = .e (.c (.sub s k off len))) (hs : σ.heap s = some cs) (hcs : off + len * k ≤ cs.length) (hy : srcV k σ.heap (σ.ev y) = some (src, m))
    (e : TypeId) (ht : tsl P t = some e) (hk : tsz P e = some k) (hd : dstOK n o.dst) :
    StepOK P n stay o σ ⟨(σ.put o.dst (.e (.c (.d (.sc (.int .i64 (min m len : Nat))))))).env, updH σ.heap s (some (splice cs off (src.take (min m len * k))))⟩ := by
  intro C hn hstay a w ⟨γ, R⟩ K Q hK
  have h1 := R.ev x
  rw [hx] at h1
  obtain ⟨B, c, us, hvy, hcu, hul, hsrc⟩ := src_rel R.mem hy (R.ev y)
  have hdd : dstOK C.nt o.dst := by rw [hn]; exact hd
  have hu := tsl_some ht
  have hsz := tsz_some hk w
  have fin : ∀ (w' : World), RelAt C γ ⟨σ.env, updH σ.heap s (some (splice cs off (src.take (min m len * k))))⟩ a w' → K (a.put o.dst (.int .i64 (min m len : Nat))) w' := by
    intro w' R'
    refine hK _ _ ⟨γ, ?_⟩
    have := R'.skipPut o.dst hdd (.int .i64 (min m len : Nat)) (.e (.c (.d (.sc (.int .i64 (min m len : Nat)))))) (.sc _ rfl)
    have e1 : (St.put ⟨σ.env, updH σ.heap s (some (splice cs off (src.take (min m len * k))))⟩ o.dst (.e (.c (.d (.sc (.int .i64 (min m len : Nat))))))) = ⟨(σ.put o.dst (.e (.c (.d (.sc (.int .i64 (min m len : Nat))))))).env, updH σ.heap s (some (splice cs off (src.take (min m len * k))))⟩ := by cases o.dst <;> rfl
    rw [e1] at this
    exact this
  have htl : (us.take (min m len * k)).length = min m len * k := by
    have : min m len * k ≤ m * k := Nat.mul_le_mul_right _ (Nat.min_le_left _ _)
    simp; omega
  have hmk : min m len * k ≤ len * k := Nat.mul_le_mul_right _ (Nat.min_le_right _ _)
  have hfirst : (Builtin.firstCells k (min m len) (.slice B m c)).run P w = .ok (us.take (min m len * k)).toArray w := by
    by_cases hm : m = 0
    · subst hm
      have hus : us = [] := List.eq_nil_of_length_eq_zero (by simpa using hul)
      subst hus
      cases B <;> simp [Builtin.firstCells, loadCells, loadCellsFrom]
    · obtain ⟨ad, rfl, hcell⟩ := hsrc hm
      have := run_loadCells_list (P := P) w ad (us.take (min m len * k)) (fun j u hj => hcell j u (by
        rw [List.getElem?_take] at hj
        split at hj
        · exact hj
        · cases hj))
      rw [htl] at this
      simpa [Builtin.firstCells] using this
  have hcopy : ∀ (A : Option Addr) (cap : Nat) (w' : World), a.eval x = .slice A len cap → (match A with | some ad => (storeCells ad (us.take (min m len * k))).run P w = .ok () w' | none => w' = w) →
      (execOp a.eval o).run P w = .ok (.value (.int .i64 (min m len : Nat))) w' := by
    intro A cap w' hv hst
    refine exec_copy ho ?_
    rw [hv, hvy]
    cases A with
    | none =>
      simp only at hst
      subst hst
      simp only [Builtin.copy_, List.getElem?_toArray, List.getElem?_cons_zero, List.getElem?_cons_succ, Sem.run_bind, run_underlying hu, Result.andThen_ok, Builtin.lenOf, Sem.run_pure, hsz]
      have : m.min len = min m len := rfl
      rw [this, hfirst]
      simp [goInt]
    | some ad =>
      simp only at hst
      simp only [Builtin.copy_, List.getElem?_toArray, List.getElem?_cons_zero, List.getElem?_cons_succ, Sem.run_bind, run_underlying hu, Result.andThen_ok, Builtin.lenOf, Sem.run_pure, hsz]
      have : m.min len = min m len := rfl
      rw [this, hfirst]
      simp [goInt, hst]
  rcases h1 with ⟨b, cap, cells, ty, hg, hvx, hlc, hcm, hbb, hroom⟩ | ⟨hg, h0, hl0, hvx⟩ | ⟨b, off', hg, h0, hvx⟩
  · obtain ⟨t0, vs, spare, hb0, hc0⟩ := R.blkC hs hg hbb
    have hl0 := hc0.1
    have hst := run_storeCells_at P b off t0 (us.take (min m len * k)) 0 (vs ++ spare).toArray w hb0 (by rw [htl]; simp; omega) (fun v hv => hcu.ones v (List.mem_of_mem_take hv))
    simp only [Nat.add_zero] at hst
    rw [splice_spare vs _ spare off (by rw [htl]; omega)] at hst
    refine wp_value (hcopy _ cap _ hvx hst) (fin _ ?_)
    refine R.setOwn hg hb0 (by rw [List.length_append, List.length_append, List.length_append, htl]; simp; omega) (splice_rel off hc0 (hcu.take _)) (by rw [hs]; simp)
  · subst hl0
    have hmn : min m 0 = 0 := by omega
    refine wp_value (hcopy none 0 w hvx rfl) (fin _ ?_)
    have hup : updH σ.heap s (some (splice cs off (src.take (min m 0 * k)))) = σ.heap := by
      funext u; simp only [updH]; split
      · rename_i e; subst e; rw [hmn, hs]; simp [splice]
      · rfl
    rw [hup]
    exact R
  · subst h0
    have hmn : min m 0 = 0 := by omega
    refine wp_value (hcopy _ 0 w hvx (by simp [hmn, storeCells])) (fin _ ?_)
    have hup : updH σ.heap s (some (splice cs off (src.take (min m 0 * k)))) = σ.heap := by
      funext u; simp only [updH]; split
      · rename_i e; subst e; rw [hmn, hs]; simp [splice]
      · rfl
    rw [hup]
    exact R

section
variable {P : Program} {n : Nat} {stay : Nat → Prop} {ops : Array Oper} {rest : List Oper} {l : List (Nat × T)} {hl : List (Nat × List V)} {K : St → Prop}

theorem WPops.copy {d : Nat} {x y : Operand} {t t' ty : TypeId} {pos : String} {af : Array Edge} (s k off len : Nat) (cs src : List V) (m : Nat) (hx : St.ev ⟨mk l, mkH hl⟩ x = .e (.c (.sub s k off len))) (hs : mkH hl s = some cs) (hcs : off + len * k ≤ cs.length)
    (hy : srcV k (mkH hl) (St.ev ⟨mk l, mkH hl⟩ y) = some (src, m)) (e : TypeId) (ht : tsl P t = some e) (hk : tsz P e = some k) (hd : d < n) (cs' : List V) (hcs' : splice cs off (src.take (min m len * k)) = cs')
    (h : WPops P n stay ops rest ⟨mk ((d, .e (.c (.d (.sc (.int .i64 (min m len : Nat)))))) :: l), mkH ((s, cs') :: hl)⟩ K) :
    WPops P n stay ops (⟨some d, .call ⟨.builtin .copy, #[x, y], #[t, t']⟩, ty, pos, af, none⟩ :: rest) ⟨mk l, mkH hl⟩ K := by
  subst hcs'
  exact WPops.step rfl (StepOK.copy x y t t' rfl s k off len cs src m hx hs hcs hy e ht hk (dst_ok hd)) h

theorem WPops.append {d : Nat} {x y : Operand} {t ty : TypeId} {pos : String} {af : Array Edge} (s k len : Nat) (cs news : List V) (m : Nat) (hx : St.ev ⟨mk l, mkH hl⟩ x = .e (.c (.sub s k 0 len))) (hs : mkH hl s = some cs) (hcs : cs.length = len * k)
    (hy : srcV k (mkH hl) (St.ev ⟨mk l, mkH hl⟩ y) = some (news, m)) (e : TypeId) (bytes : Nat) (zs : List V) (ht : tsl P t = some e) (hk : tsz P e = some k) (hb : tby P e = some bytes) (hz : tzv P e = some zs) (hzk : zs.length = k)
    (hcn : ∀ v ∈ cs, ¬ v.names s) (hnn : ∀ v ∈ news, ¬ v.names s) (hfit : (len + m) * bytes ≤ 140737488355328) (hmax : len + m ≤ 140737488355328) (hst : ¬ stay s) (hd : d < n) {l' : List (Nat × T)} {hl' : List (Nat × List V)} (el : (l.map fun p => (p.1, p.2.kill s)) = l') (eh : (hl.map fun p => (p.1, p.2.map (V.kill s))) = hl') (cs' : List V) (hcs' : cs ++ news = cs')
    (h : WPops P n stay ops rest ⟨mk ((d, .e (.c (.sub s k 0 (len + m)))) :: l'), mkH ((s, cs') :: hl')⟩ K) :
    WPops P n stay ops (⟨some d, .call ⟨.builtin .append, #[x, y], #[t, t]⟩, ty, pos, af, none⟩ :: rest) ⟨mk l, mkH hl⟩ K := by
  subst el; subst eh; subst hcs'
  refine WPops.step rfl (StepOK.append x y t rfl d s k len rfl cs news m hx hs hcs hy e bytes zs ht hk hb hz hzk hcn hnn hfit hmax hst hd) ?_
  have e1 : ∀ (l : List (Nat × T)), (fun i => (mk l i).kill s) = mk (l.map fun p => (p.1, p.2.kill s)) := by
    intro l
    funext i
    induction l with
    | nil => rfl
    | cons p l ih => obtain ⟨j, t⟩ := p; simp only [mk, List.map_cons]; split <;> first | rfl | exact ih
  have e2 : ∀ (hl : List (Nat × List V)), (fun u => (mkH hl u).map (List.map (V.kill s))) = mkH (hl.map fun p => (p.1, p.2.map (V.kill s))) := by
    intro hl
    funext i
    induction hl with
    | nil => rfl
    | cons p l ih => obtain ⟨j, t⟩ := p; simp only [mkH, List.map_cons]; split <;> first | rfl | exact ih
  rw [show (fun i => ((St.mk (mk l) (mkH hl)).env i).kill s) = mk (l.map fun p => (p.1, p.2.kill s)) from e1 l, show (fun u => ((St.mk (mk l) (mkH hl)).heap u).map (List.map (V.kill s))) = mkH (hl.map fun p => (p.1, p.2.map (V.kill s))) from e2 hl]
  exact h

theorem WPops.freeze {ol : List Oper} (s : Nat) (ds : List D) (hs : mkH hl s = some (ds.map .d)) (hst : ¬ stay s) {l' : List (Nat × T)} {hl' : List (Nat × List V)} (el : (l.map fun p => (p.1, p.2.frz s ds)) = l')
    (eh : ((hl.filter fun p => p.1 != s).map fun p => (p.1, p.2.map (V.frz s ds))) = hl') (h : WPops P n stay ops ol ⟨mk l', mkH hl'⟩ K) :
    WPops P n stay ops ol ⟨mk l, mkH hl⟩ K := by
  subst el; subst eh
  refine WPops.weak (Weak.freeze s ds hs hst) ?_
  have e1 : ∀ (l : List (Nat × T)), (fun i => (mk l i).frz s ds) = mk (l.map fun p => (p.1, p.2.frz s ds)) := by
    intro l
    funext i
    induction l with
    | nil => rfl
    | cons p l ih => obtain ⟨j, t⟩ := p; simp only [mk, List.map_cons]; split <;> first | rfl | exact ih
  have e2 : ∀ (hl : List (Nat × List V)), (fun t => if t = s then none else (mkH hl t).map (List.map (V.frz s ds))) = mkH ((hl.filter fun p => p.1 != s).map fun p => (p.1, p.2.map (V.frz s ds))) := by
    intro hl
    funext i
    induction hl with
    | nil => simp [mkH]
    | cons p l ih =>
      obtain ⟨j, t⟩ := p
      by_cases hj : j = s
      · subst hj
        simp only [List.filter_cons, bne_self_eq_false, Bool.false_eq_true, if_false]
        rw [← ih]
        by_cases hi : i = j
        · simp [hi]
        · simp [hi, mkH]
      · have : (j != s) = true := by simpa using hj
        simp only [List.filter_cons, this, if_true, List.map_cons, mkH]
        rw [← ih]
        by_cases hi : i = j
        · subst hi; simp [hj]
        · simp [hi]
  unfold St.frz
  rw [show (fun i => ((St.mk (mk l) (mkH hl)).env i).frz s ds) = mk (l.map fun p => (p.1, p.2.frz s ds)) from e1 l, show (fun t => if t = s then none else ((St.mk (mk l) (mkH hl)).heap t).map (List.map (V.frz s ds))) = mkH ((hl.filter fun p => p.1 != s).map fun p => (p.1, p.2.map (V.frz s ds))) from e2 hl]
  exact h
end

section
variable {P : Program} {n : Nat} {stay : Nat → Prop} {σ : St} {c : Code} {Q : Post}

theorem WP.fact {φ : Prop} (h : ∀ C a w, Rel C σ a w → φ) (k : φ → WP P n stay c σ Q) : WP P n stay c σ Q := fun C hn hs a w R => k (h C a w R) C hn hs a w R

theorem len_of {w : World} {S : Nat → Prop} {es : List (List D)} {v : Value} (h : DRel w S (.sl es) v) : es.length ≤ 9223372036854775807 := by
  cases h with
  | sl _ k cap A U hcap hmax => simp only [maxLen] at hmax; omega

theorem WP.lenC (i : Nat) {es : List (List D)} (h : σ.env i = .e (.c (.d (.sl es)))) (k : es.length ≤ 9223372036854775807 → WP P n stay c σ Q) : WP P n stay c σ Q :=
  WP.fact (fun C a w ⟨γ, R⟩ => by have := R.env i; rw [h] at this; exact len_of this) k

theorem WP.lenA (i j : Nat) {vs : List V} {es : List (List D)} (h : σ.env i = .e (.agg vs)) (hj : vs[j]? = some (.d (.sl es))) (k : es.length ≤ 9223372036854775807 → WP P n stay c σ Q) : WP P n stay c σ Q :=
  WP.fact (fun C a w ⟨γ, R⟩ => by
    have := R.env i
    rw [h] at this
    obtain ⟨us, _, hc⟩ := this
    obtain ⟨u, _, hr⟩ := hc.at_ hj
    exact len_of hr) k

theorem WP.freeze {l : List (Nat × T)} {hl : List (Nat × List V)} (s : Nat) (ds : List D) (hs : mkH hl s = some (ds.map .d)) (hst : ¬ stay s) {l' : List (Nat × T)} {hl' : List (Nat × List V)} (el : (l.map fun p => (p.1, p.2.frz s ds)) = l')
    (eh : ((hl.filter fun p => p.1 != s).map fun p => (p.1, p.2.map (V.frz s ds))) = hl') (h : WP P n stay c ⟨mk l', mkH hl'⟩ Q) :
    WP P n stay c ⟨mk l, mkH hl⟩ Q := by
  subst el; subst eh
  intro C hn hs' a w R
  have key : WPops P n stay #[] [] ⟨mk l, mkH hl⟩ (fun σ' => σ' = ⟨mk (l.map fun p => (p.1, p.2.frz s ds)), mkH ((hl.filter fun p => p.1 != s).map fun p => (p.1, p.2.map (V.frz s ds)))⟩) := WPops.freeze s ds hs hst rfl rfl (WPops.nil rfl)
  have := key C hn hs' a w R (fun e a' w' => e = .normal ∧ Rel C ⟨mk (l.map fun p => (p.1, p.2.frz s ds)), mkH ((hl.filter fun p => p.1 != s).map fun p => (p.1, p.2.map (V.frz s ds)))⟩ a' w') (fun a' w' σ' R' e => ⟨rfl, e ▸ R'⟩)
  exact h C hn hs' a w this.2

/-- A nil slice in a temporary becomes an own slice of no elements. -/
theorem WP.own {l : List (Nat × T)} {hl : List (Nat × List V)} (i s k : Nat) (hi : mk l i = .e (.c (.d (.sc (.slice none 0 0))))) (hs : mkH hl s = none) (hst : ¬ stay s) (h : WP P n stay c ⟨mk ((i, .e (.c (.sub s k 0 0))) :: l), mkH ((s, []) :: hl)⟩ Q) :
    WP P n stay c ⟨mk l, mkH hl⟩ Q := WP.weak (Weak.own i s k hi hs hst) h
end

theorem splice_full (cs src : List V) (h : src.length = cs.length) : splice cs 0 src = src := by
  simp [splice, h]
theorem rep_length (n : Nat) (zs : List V) : (rep n zs).length = n * zs.length := by simp [rep]
theorem flat1 {α β : Type} (f : α → β) (l : List α) : (l.map fun x => [f x]).flatten = l.map f := by
  induction l with
  | nil => rfl
  | cons x l ih => simp [ih]
theorem rows_one (ds : List D) : rows 1 0 ds.length ds = ds.map fun x => [x] := by
  apply List.ext_getElem?
  intro i
  simp only [rows, List.getElem?_map]
  by_cases hi : i < ds.length
  · rw [List.getElem?_range hi]
    simp only [Option.map_some, Nat.zero_add, Nat.mul_one]
    rw [List.drop_eq_getElem_cons hi, List.getElem?_eq_getElem hi]
    rfl
  · rw [List.getElem?_eq_none (by simpa using hi), List.getElem?_eq_none (by simpa using hi)]
    rfl
theorem rows_flat {k : Nat} (es : List (List D)) (h : ∀ r ∈ es, r.length = k) : rows k 0 es.length es.flatten = es := by
  apply List.ext_getElem?
  intro i
  simp only [rows, List.getElem?_map]
  by_cases hi : i < es.length
  · rw [List.getElem?_range hi, List.getElem?_eq_getElem hi]
    simp only [Option.map_some, Nat.zero_add, Option.some.injEq]
    apply List.ext_getElem?
    intro j
    rw [List.getElem?_take]
    have hr := h es[i] (List.getElem_mem hi)
    split
    · rename_i hj
      rw [List.getElem?_drop, flat_get k es h i j hj, List.getElem?_eq_getElem hi]
      rfl
    · rw [List.getElem?_eq_none (by omega)]
  · rw [List.getElem?_eq_none (by simpa using hi), List.getElem?_eq_none (by simpa using hi)]
    rfl

theorem i64_succ {k : Nat} (h : k < 9223372036854775807) : IntKind.i64.wrap ((k : Int) + 1) = ((k + 1 : Nat) : Int) := by
  rw [IntWalk.i64_in _ (by omega)]; omega
theorem i64_pred {k : Nat} (h0 : 0 < k) (h : k ≤ 9223372036854775807) : IntKind.i64.wrap ((k : Int) - 1) = ((k - 1 : Nat) : Int) := by
  rw [IntWalk.i64_in _ (by omega)]; omega
theorem cast_beq (a b : Nat) : ((a : Int) == (b : Int)) = (a == b) := by
  rw [Bool.eq_iff_iff]; simp; omega
theorem cast_beq0 (a : Nat) : ((a : Int) == 0) = (a == 0) := cast_beq a 0
theorem cast_lt (a b : Nat) : decide ((a : Int) < (b : Int)) = decide (a < b) := by
  rw [decide_eq_decide]; omega
theorem cast_pos (a : Nat) : decide ((0 : Int) < (a : Int)) = decide (0 < a) := by
  rw [decide_eq_decide]; omega

end Go.Ab
end

section
namespace Go.Ab
open Go Go.RowKit

/-- What lies at a place: a temporary (even numbers) or an own block (odd ones). -/
inductive Pl where
  | t (x : T)
  | h (x : Option (List V))

def St.at (σ : St) (l : Nat) : Pl := if l % 2 = 0 then .t (σ.env (l / 2)) else .h (σ.heap (l / 2))
def Pl.names : Pl → Nat → Prop
  | .t x, s => x.names s
  | .h (some cs), s => ∃ v ∈ cs, v.names s
  | .h none, _ => False

theorem at_env (σ : St) (i : Nat) : σ.at (2 * i) = .t (σ.env i) := by
  unfold St.at
  rw [if_pos (by omega), show 2 * i / 2 = i by omega]
theorem at_heap (σ : St) (s : Nat) : σ.at (2 * s + 1) = .h (σ.heap s) := by
  unfold St.at
  rw [if_neg (by omega), show (2 * s + 1) / 2 = s by omega]
theorem St.ext_at {σ τ : St} (h : ∀ l, σ.at l = τ.at l) : σ = τ := by
  obtain ⟨e, H⟩ := σ
  obtain ⟨e', H'⟩ := τ
  have h1 : e = e' := funext fun i => by have := h (2 * i); rw [at_env, at_env] at this; injection this
  have h2 : H = H' := funext fun s => by have := h (2 * s + 1); rw [at_heap, at_heap] at this; injection this
  rw [h1, h2]

/-- τ with the places of wr as in σ'. -/
def over' (τ σ' : St) (wr : List Nat) : St := ⟨fun i => if 2 * i ∈ wr then σ'.env i else τ.env i, fun s => if 2 * s + 1 ∈ wr then σ'.heap s else τ.heap s⟩
theorem over_at (τ σ' : St) (wr : List Nat) (l : Nat) : (over' τ σ' wr).at l = if l ∈ wr then σ'.at l else τ.at l := by
  unfold St.at over'
  by_cases h : l % 2 = 0
  · rw [if_pos h, if_pos h, if_pos h]
    have e : 2 * (l / 2) = l := by omega
    simp only [e]
    split <;> rfl
  · rw [if_neg h, if_neg h, if_neg h]
    have e : 2 * (l / 2) + 1 = l := by omega
    simp only [e]
    split <;> rfl

structure Ft where
  rd : List Nat
  wr : List Nat
  kl : List Nat

/-- A step of the operation at j, which serves in every state that agrees at the footprint. -/
structure LQ (P : Program) (n : Nat) (stay : Nat → Prop) (ops : Array Oper) (j : Nat) (σ σ' : St) (f : Ft) : Prop where
  frame : ∀ l, l ∉ f.wr → σ'.at l = σ.at l
  go : ∀ τ : St, (∀ l, l ∈ f.rd ∨ l ∈ f.wr → τ.at l = σ.at l) → (∀ s ∈ f.kl, ∀ l, l ∉ f.wr → ¬ (τ.at l).names s) →
    ∀ C : Ctx, C.nt = n → C.stay = stay → ∀ a w, Rel C τ a w → ∀ (K : Act → World → Prop) (Q : Exit → Act → World → Prop), (∀ a' w', Rel C (over' τ σ' f.wr) a' w' → K a' w') → wpOp P ops Q j K a w

def clash (fi fj : Ft) : Bool := meets fi.wr fj.rd || meets fi.wr fj.wr || meets fj.wr fi.rd

def chk' (ops : Array Oper) (fp : List Ft) : Bool :=
  let l := ops.toList
  let A := ancs l []
  ((List.range l.length).all fun j => match l[j]? with | some o => o.after.toList.all (fun e => !Region.binds .any e || decide (e.on < j)) | none => false) && (List.range l.length).all fun j => (List.range j).all fun i =>
    match fp[i]?, fp[j]? with
    | some fi, some fj => !clash fi fj || ((A[j]?).getD []).contains i
    | _, _ => false

theorem chk'_edge {ops : Array Oper} {fp : List Ft} (h : chk' ops fp = true) {j : Nat} {o : Oper} (ho : ops.toList[j]? = some o) {e : Edge} (he : e ∈ o.after.toList) (hb : Region.binds .any e = true) : e.on < j := by
  unfold chk' at h
  simp only [Bool.and_eq_true, List.all_eq_true, List.mem_range] at h
  have hj : j < ops.toList.length := (List.getElem?_eq_some_iff.1 ho).1
  have := h.1 j hj
  rw [ho] at this
  simp only [List.all_eq_true, Bool.or_eq_true, decide_eq_true_eq] at this
  rcases this e he with h | h
  · simp [hb] at h
  · exact h

theorem chk'_conf {ops : Array Oper} {fp : List Ft} (h : chk' ops fp = true) {i j : Nat} (hij : i < j) (hjl : j < ops.toList.length) {fi fj : Ft} (hfi : fp[i]? = some fi) (hfj : fp[j]? = some fj)
    (hc : clash fi fj = true) : i ∈ ((ancs ops.toList [])[j]?).getD [] := by
  unfold chk' at h
  simp only [Bool.and_eq_true, List.all_eq_true, List.mem_range] at h
  have := h.2 j hjl i hij
  rw [hfi, hfj] at this
  simp only [Bool.or_eq_true] at this
  rcases this with h | h
  · simp [hc] at h
  · simpa using h

section
variable (fp : List Ft) (X : Nat → St) (S : Nat → Prop) [DecidablePred S]
def wrs (m : Nat) : List Nat := ((fp[m]?).map (·.wr)).getD []
/-- What stands when the operations of the set S have run, of the first m. -/
def mixS : Nat → St
  | 0 => X 0
  | m + 1 => if S m then over' (mixS m) (X (m + 1)) (wrs fp m) else mixS m
end

theorem mixS_at (fp : List Ft) (X : Nat → St) (S : Nat → Prop) [DecidablePred S] (m l : Nat) : (mixS fp X S (m + 1)).at l = if S m ∧ l ∈ wrs fp m then (X (m + 1)).at l else (mixS fp X S m).at l := by
  simp only [mixS]
  by_cases h : S m
  · rw [if_pos h, over_at]
    simp [h]
  · rw [if_neg h, if_neg (fun h' => h h'.1)]

theorem mixS_congr (fp : List Ft) (X : Nat → St) (S S' : Nat → Prop) [DecidablePred S] [DecidablePred S'] (l : Nat) (h : ∀ k, l ∈ wrs fp k → (S k ↔ S' k)) : ∀ m, (mixS fp X S m).at l = (mixS fp X S' m).at l
  | 0 => rfl
  | m + 1 => by
    rw [mixS_at, mixS_at, mixS_congr fp X S S' l h m]
    by_cases hd : l ∈ wrs fp m
    · simp only [hd, and_true, h m hd]
    · simp only [hd, and_false, if_false]

/-- Every place holds what it held in one of the states. -/
theorem mixS_some (fp : List Ft) (X : Nat → St) (S : Nat → Prop) [DecidablePred S] (l : Nat) : ∀ m, ∃ k, k ≤ m ∧ (mixS fp X S m).at l = (X k).at l
  | 0 => ⟨0, Nat.le_refl _, rfl⟩
  | m + 1 => by
    rw [mixS_at]
    split
    · exact ⟨m + 1, Nat.le_refl _, rfl⟩
    · obtain ⟨k, h1, h2⟩ := mixS_some fp X S l m
      exact ⟨k, by omega, h2⟩

section
variable {fp : List Ft} {X : Nat → St}

theorem mixS_eq (hX : ∀ (m l : Nat), l ∉ wrs fp m → m < fp.length → (X (m + 1)).at l = (X m).at l) (S : Nat → Prop) [DecidablePred S] (l j : Nat) (h1 : ∀ k, k < j → l ∈ wrs fp k → S k) (h2 : ∀ k, j ≤ k → l ∈ wrs fp k → ¬ S k) :
    ∀ m, m ≤ fp.length → (mixS fp X S m).at l = (X (min m j)).at l
  | 0, _ => by simp [mixS]
  | m + 1, hm => by
    have ih := mixS_eq hX S l j h1 h2 m (by omega)
    rw [mixS_at]
    by_cases hmj : m < j
    · rw [show min (m + 1) j = m + 1 by omega]
      rw [show min m j = m by omega] at ih
      split
      · rfl
      · rename_i hc
        rw [ih]
        by_cases hd : l ∈ wrs fp m
        · exact absurd ⟨h1 m hmj hd, hd⟩ hc
        · exact (hX m l hd (by omega)).symm
    · rw [show min (m + 1) j = j by omega]
      rw [show min m j = j by omega] at ih
      rw [if_neg (by rintro ⟨a, b⟩; exact h2 m (by omega) b a)]
      exact ih
end

theorem region_draw' {P : Program} {n : Nat} {stay : Nat → Prop} {ops : Array Oper} {fp : List Ft} {X : Nat → St} (hm : P.follows .mixedOrders = true) (hlen : fp.length = ops.size)
    (hX : ∀ (j : Nat) (f : Ft), fp[j]? = some f → LQ P n stay ops j (X j) (X (j + 1)) f) (hc : chk' ops fp = true)
    (hk : ∀ (j : Nat) (f : Ft), fp[j]? = some f → ∀ s ∈ f.kl, ∀ m, m ≤ ops.size → ∀ l, l ∉ f.wr → ¬ ((X m).at l).names s)
    {C : Ctx} (hn : C.nt = n) (hs : C.stay = stay) {a : Act} {w : World} (R : Rel C (X 0) a w) {Q : Exit → Act → World → Prop} (hQ : ∀ a' w', Rel C (X ops.size) a' w' → Q .normal a' w') {id : Nat} : (Code.region id ops true).wp P Q a w := by
  have hsz : ops.toList.length = ops.size := by simp
  have hF : ∀ (m l : Nat), l ∉ wrs fp m → m < fp.length → (X (m + 1)).at l = (X m).at l := by
    intro m l hl hml
    have hf : fp[m]? = some fp[m] := List.getElem?_eq_getElem hml
    refine (hX m _ hf).frame l ?_
    simpa [wrs, hf] using hl
  have wr_lt : ∀ (k l : Nat), l ∈ wrs fp k → k < ops.size := by
    intro k l h
    rcases Nat.lt_or_ge k ops.size with h' | h'
    · exact h'
    · simp [wrs, List.getElem?_eq_none (show fp.length ≤ k by omega)] at h
  refine wp_region_any hm ?_
  have key : ∀ (fuel : Nat) (U : List Nat) (listed : Array Bool) (a : Act) (w : World), U.length ≤ fuel → listed.size = ops.size → (∀ i, i < ops.size → listed.getD i false = false → i ∈ U) →
      (∀ (j : Nat) (o : Oper), ops.toList[j]? = some o → listed.getD j false = true → ∀ e ∈ o.after.toList, Region.binds .any e = true → listed.getD e.on false = true) →
      Rel C (mixS fp X (fun i => listed.getD i false = true) ops.size) a w → wpAny P .any ops Q fuel listed a w := by
    intro fuel
    have allDone : ∀ (listed : Array Bool) (a : Act) (w : World), (∀ i, i < ops.size → listed.getD i false = true) →
        Rel C (mixS fp X (fun i => listed.getD i false = true) ops.size) a w → Q .normal a w := by
      intro listed a w hall R
      refine hQ a w ?_
      have e1 : mixS fp X (fun i => listed.getD i false = true) ops.size = X ops.size := by
        refine St.ext_at fun l => ?_
        have := mixS_eq hF (fun i => listed.getD i false = true) l ops.size (fun k hk _ => hall k hk) (fun k hk hd => by have := wr_lt k l hd; omega) ops.size (by omega)
        rw [this, Nat.min_self]
      rw [e1] at R
      exact R
    have noneReady : ∀ (listed : Array Bool), listed.size = ops.size → Region.ready .any ops listed = [] → ∀ i, i < ops.size → listed.getD i false = true := by
      intro listed hls hre i
      induction i using Nat.strongRecOn with
      | _ i ih =>
        intro hi
        cases hv : listed.getD i false with
        | true => rfl
        | false =>
          exfalso
          have ho : ops[i]? = some ops[i] := Array.getElem?_eq_getElem hi
          have hmem : i ∈ Region.ready .any ops listed := by
            simp only [Region.ready, List.mem_filter, List.mem_range]
            refine ⟨hi, ?_⟩
            have hl1 : listed.getD i true = false := by
              have : i < listed.size := by omega
              simp [this] at hv ⊢
              exact hv
            rw [hl1, ho]
            simp only [Bool.not_false, Bool.true_and, Option.map_some, Option.getD_some, Array.all_eq_true']
            intro e he
            by_cases hb : Region.binds .any e = true
            · have hlt := chk'_edge hc (j := i) (o := ops[i]) (by simp) (by simpa using he) hb
              rw [ih e.on hlt (by omega)]
              simp
            · simp at hb; simp [hb]
          rw [hre] at hmem
          simp at hmem
    induction fuel with
    | zero =>
      intro U listed a w hU hls hun hcl R
      have hU0 : U = [] := List.eq_nil_of_length_eq_zero (by omega)
      subst hU0
      have hall : ∀ i, i < ops.size → listed.getD i false = true := fun i hi => by
        cases hv : listed.getD i false with
        | true => rfl
        | false => have := hun i hi hv; simp at this
      refine ⟨?_, allDone listed a w hall R⟩
      simp only [Region.ready, List.filter_eq_nil_iff, List.mem_range]
      intro i hi
      have : i < listed.size := by omega
      have h1 := hall i hi
      simp [this] at h1 ⊢
      intro h2; rw [h1] at h2; cases h2
    | succ fuel ih =>
      intro U listed a w hU hls hun hcl R
      refine ⟨fun hre => allDone listed a w (noneReady listed hls hre) R, fun j hj => ?_⟩
      simp only [Region.ready, List.mem_filter, List.mem_range] at hj
      obtain ⟨hjs, hjr⟩ := hj
      have hoa : ops[j]? = some ops[j] := Array.getElem?_eq_getElem hjs
      have ho : ops.toList[j]? = some ops[j] := by simp
      rw [hoa] at hjr
      simp only [Bool.and_eq_true, Bool.not_eq_true', Option.map_some, Option.getD_some, Array.all_eq_true'] at hjr
      obtain ⟨hjl, hedges⟩ := hjr
      have hjlt : j < listed.size := by omega
      have hjf : listed.getD j false = false := by simp [hjlt] at hjl ⊢; exact hjl
      have hedge : ∀ e ∈ ops[j].after.toList, Region.binds .any e = true → listed.getD e.on false = true := by
        intro e he hb
        have := hedges e (by simpa using he)
        simpa [hb] using this
      have hf : fp[j]? = some (fp[j]'(by omega)) := List.getElem?_eq_getElem (by omega)
      have hLS := hX j _ hf
      have hbefore : ∀ i, i ∈ ((ancs ops.toList [])[j]?).getD [] → listed.getD i false = true := by
        intro i hi
        have := ancs_ok (fun k => listed.getD k false = true ∨ k = j) ops.toList (fun k o hk hSk e he hb => by
          rcases hSk with h | rfl
          · exact .inl (hcl k o hk h e he hb)
          · rw [ho] at hk; injection hk with hk; subst hk; exact .inl (hedge e he hb)) ops.toList [] [] rfl rfl (fun k i hi => by simp at hi) j i hi (.inr rfl)
        rcases this with h | rfl
        · exact h
        · exfalso
          have hlow := ancs_low ops.toList (fun k o hk e he hb => chk'_edge hc hk he hb) i i hi
          omega
      have hafter : ∀ k, listed.getD k false = true → j ∈ ((ancs ops.toList [])[k]?).getD [] → False := by
        intro k hk hjk
        have := ancs_ok (fun k => listed.getD k false = true) ops.toList hcl ops.toList [] [] rfl rfl (fun k i hi => by simp at hi) k j hjk hk
        rw [hjf] at this; cases this
      have hpl : ∀ t, (t ∈ (fp[j]'(by omega)).rd ∨ t ∈ (fp[j]'(by omega)).wr) → (∀ k, k < j → t ∈ wrs fp k → listed.getD k false = true) ∧ (∀ k, j < k → t ∈ wrs fp k → ¬ listed.getD k false = true) := by
        intro t ht
        refine ⟨fun k hk hd => ?_, fun k hk hd hl => ?_⟩
        · have hkl := wr_lt k t hd
          have hfk : fp[k]? = some (fp[k]'(by omega)) := List.getElem?_eq_getElem (by omega)
          simp only [wrs, hfk, Option.map_some, Option.getD_some] at hd
          refine hbefore k (chk'_conf hc hk (by omega) hfk hf ?_)
          unfold clash
          rcases ht with ht | ht
          · rw [meets_true hd ht]; simp
          · rw [meets_true (a := (fp[k]'(by omega)).wr) (b := (fp[j]'(by omega)).wr) hd ht]; simp
        · have hkl := wr_lt k t hd
          have hfk : fp[k]? = some (fp[k]'(by omega)) := List.getElem?_eq_getElem (by omega)
          simp only [wrs, hfk, Option.map_some, Option.getD_some] at hd
          refine hafter k hl (chk'_conf hc hk (by omega) hf hfk ?_)
          unfold clash
          rcases ht with ht | ht
          · rw [meets_true (a := (fp[k]'(by omega)).wr) (b := (fp[j]'(by omega)).rd) hd ht]; simp
          · rw [meets_true (a := (fp[j]'(by omega)).wr) (b := (fp[k]'(by omega)).wr) ht hd]; simp
      refine hLS.go (mixS fp X (fun i => listed.getD i false = true) ops.size) (fun t ht => ?_) (fun s hs l hl hnm => ?_) C hn hs a w R _ Q fun a' w' R' => ih (U.erase j) (listed.setIfInBounds j true) a' w' ?_ (by simp [hls]) ?_ ?_ ?_
      · have h1 := hpl t ht
        have := mixS_eq hF (fun i => listed.getD i false = true) t j h1.1 (fun k hk hd => by
            rcases Nat.lt_or_ge j k with h | h
            · exact h1.2 k h hd
            · have : k = j := by omega
              subst this; rw [hjf]; simp) ops.size (by omega)
        rw [show min ops.size j = j by omega] at this
        exact this
      · obtain ⟨k, hk1, hk2⟩ := mixS_some fp X (fun i => listed.getD i false = true) l ops.size
        rw [hk2] at hnm
        exact hk j _ hf s hs k hk1 l hl hnm
      · have := List.length_erase_of_mem (hun j hjs hjf)
        omega
      · intro i hi hv
        have hne : i ≠ j := by
          rintro rfl
          simp [hjlt] at hv
        have hv' : listed.getD i false = false := by rw [getD_set_ne false (Ne.symm hne)] at hv; exact hv
        exact (List.mem_erase_of_ne hne).2 (hun i hi hv')
      · intro k o hk hl e he hb
        by_cases hkj : k = j
        · subst hkj
          rw [ho] at hk; injection hk with hk; subst hk
          exact getD_set_true (hedge e he hb)
        · rw [getD_set_ne false (fun h => hkj h.symm)] at hl
          exact getD_set_true (hcl k o hk hl e he hb)
      · have eS : ∀ k, (listed.setIfInBounds j true).getD k false = true ↔ (listed.getD k false = true ∨ k = j) := by
          intro k
          by_cases hkj : k = j
          · subst hkj; simp [hjlt]
          · rw [getD_set_ne false (fun h => hkj h.symm)]; simp [hkj]
        have e3 : mixS fp X (fun i => (listed.setIfInBounds j true).getD i false = true) ops.size = over' (mixS fp X (fun i => listed.getD i false = true) ops.size) (X (j + 1)) (fp[j]'(by omega)).wr := by
          refine St.ext_at fun t => ?_
          rw [over_at]
          by_cases hd : t ∈ (fp[j]'(by omega)).wr
          · rw [if_pos hd]
            have h1 := hpl t (.inr hd)
            have := mixS_eq hF (fun i => (listed.setIfInBounds j true).getD i false = true) t (j + 1) (fun k hk hdk => by
              rw [eS]
              rcases Nat.lt_or_ge k j with h | h
              · exact .inl (h1.1 k h hdk)
              · exact .inr (by omega)) (fun k hk hdk => by
              rw [eS]
              rintro (h | h)
              · exact h1.2 k (by omega) hdk h
              · omega) ops.size (by omega)
            rw [this, show min ops.size (j + 1) = j + 1 by omega]
          · rw [if_neg hd]
            exact mixS_congr fp X _ _ t (fun k hdk => by
              rw [eS]
              constructor
              · rintro (h | rfl)
                · exact h
                · simp only [wrs, hf, Option.map_some, Option.getD_some] at hdk; exact absurd hdk hd
              · exact .inl) _
        rw [e3]
        exact R'
  refine key ops.size (List.range ops.size) _ a _ (by simp) (by simp) (fun i hi _ => by simpa using hi) (fun j o hj hl => ?_) ?_
  · exfalso
    have hjl : j < ops.size := by have := (List.getElem?_eq_some_iff.1 hj).1; omega
    simp [hjl] at hl
  · have e1 : mixS fp X (fun i => (Array.replicate ops.size false).getD i false = true) ops.size = X 0 := by
      refine St.ext_at fun l => ?_
      have := mixS_eq hF (fun i => (Array.replicate ops.size false).getD i false = true) l 0 (fun k hk => by omega) (fun k hk hd => by
        have hkl := wr_lt k l hd
        simp [hkl]) ops.size (by omega)
      rw [this, show min ops.size 0 = 0 by omega]
    rw [e1]
    obtain ⟨γ, R0⟩ := R
    exact ⟨γ, R0.drawn⟩

end Go.Ab
end
