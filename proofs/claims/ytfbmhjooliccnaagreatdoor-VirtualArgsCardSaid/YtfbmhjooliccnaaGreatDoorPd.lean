/- The executor: a store of temporaries, a list of own blocks. No condition. The executor: one operation, but for calls of functions. No condition. The executor: append and copy. No condition. The executor: calls. No condition. The executor: maps. No condition. The executor: append of a string's bytes; further pure operations. No condition. The executor: one operation; regions. No condition. The executor: drawn regions, freezing. No condition. The executor: regions with freezing, code. No condition. The executor: functions. No condition. The executor: functions that take own blocks; the whole. No condition. The executor: the table of a program's functions. No condition. -/
import Derived.Test.YtfbmhjooliccnaaGreatDoorPc
set_option linter.all false

section
namespace Go.Ab
open Go Go.RowKit

inductive Tr (α : Type) where
  | lf
  | nd (v : Option α) (l r : Tr α)

def Tr.get {α : Type} : Tr α → Nat → Option α
  | .lf, _ => none
  | .nd v l r, k => if k = 0 then v else if k % 2 = 1 then l.get (k / 2) else r.get (k / 2 - 1)

def Tr.set {α : Type} : Nat → Tr α → Nat → α → Tr α
  | 0, t, _, _ => t
  | f + 1, .lf, k, x => if k = 0 then .nd (some x) .lf .lf else if k % 2 = 1 then .nd none (Tr.set f .lf (k / 2) x) .lf else .nd none .lf (Tr.set f .lf (k / 2 - 1) x)
  | f + 1, .nd v l r, k, x => if k = 0 then .nd (some x) l r else if k % 2 = 1 then .nd v (Tr.set f l (k / 2) x) r else .nd v l (Tr.set f r (k / 2 - 1) x)

theorem Tr.get_lf {α : Type} (k : Nat) : (Tr.lf : Tr α).get k = none := rfl

theorem Tr.get_set {α : Type} : ∀ (f : Nat) (t : Tr α) (k : Nat) (x : α) (i : Nat), k + 1 < 2 ^ f → (Tr.set f t k x).get i = if i = k then some x else t.get i
  | 0, t, k, x, i, h => by simp at h
  | f + 1, t, k, x, i, h => by
    have h' : k + 1 < 2 * 2 ^ f := by rw [Nat.pow_succ] at h; omega
    have key : ∀ (v : Option α) (l r : Tr α), (if k = 0 then Tr.nd (some x) l r else if k % 2 = 1 then Tr.nd v (Tr.set f l (k / 2) x) r else Tr.nd v l (Tr.set f r (k / 2 - 1) x)).get i = if i = k then some x else (Tr.nd v l r).get i := by
      intro v l r
      by_cases hk : k = 0
      · subst hk
        simp only [if_true, Tr.get]
        by_cases hi : i = 0 <;> simp [hi]
      · rw [if_neg hk]
        by_cases hk2 : k % 2 = 1
        · rw [if_pos hk2]
          simp only [Tr.get]
          by_cases hi : i = 0
          · rw [if_pos hi, if_pos hi, if_neg (by omega)]
          · rw [if_neg hi, if_neg hi]
            by_cases hi2 : i % 2 = 1
            · rw [if_pos hi2, if_pos hi2, Tr.get_set f l (k / 2) x (i / 2) (by omega)]
              by_cases e : i = k
              · rw [if_pos e, if_pos (by omega)]
              · rw [if_neg e, if_neg (by omega)]
            · rw [if_neg hi2, if_neg hi2, if_neg (by omega)]
        · rw [if_neg hk2]
          simp only [Tr.get]
          by_cases hi : i = 0
          · rw [if_pos hi, if_pos hi, if_neg (by omega)]
          · rw [if_neg hi, if_neg hi]
            by_cases hi2 : i % 2 = 1
            · rw [if_pos hi2, if_pos hi2, if_neg (by omega)]
            · rw [if_neg hi2, if_neg hi2, Tr.get_set f r (k / 2 - 1) x (i / 2 - 1) (by omega)]
              by_cases e : i = k
              · rw [if_pos e, if_pos (by omega)]
              · rw [if_neg e, if_neg (by omega)]
    cases t with
    | lf =>
      have := key none .lf .lf
      simp only [Tr.set]
      rw [this]
      by_cases hi : i = k
      · rw [if_pos hi, if_pos hi]
      · rw [if_neg hi, if_neg hi]
        simp only [Tr.get]
        split
        · rfl
        · split <;> rfl
    | nd v l r => exact key v l r

def Tr.map {α β : Type} (g : α → β) : Tr α → Tr β
  | .lf => .lf
  | .nd v l r => .nd (v.map g) (l.map g) (r.map g)
theorem Tr.get_map {α β : Type} (g : α → β) : ∀ (t : Tr α) (i : Nat), (t.map g).get i = (t.get i).map g
  | .lf, i => rfl
  | .nd v l r, i => by
    simp only [Tr.map, Tr.get]
    split
    · rfl
    · split
      · exact Tr.get_map g l _
      · exact Tr.get_map g r _

/-- The entries, with their places. -/
def Tr.list {α : Type} : Tr α → (Nat → Nat) → List (Nat × α)
  | .lf, _ => []
  | .nd v l r, j => (match v with | some x => [(j 0, x)] | none => []) ++ (l.list fun q => j (2 * q + 1)) ++ (r.list fun q => j (2 * q + 2))
theorem Tr.mem_list {α : Type} : ∀ (t : Tr α) (j : Nat → Nat) (i : Nat) (x : α), t.get i = some x → (j i, x) ∈ t.list j
  | .lf, j, i, x, h => by cases h
  | .nd v l r, j, i, x, h => by
    simp only [Tr.get] at h
    simp only [Tr.list, List.mem_append]
    split at h
    · rename_i hi; subst hi; subst h; exact .inl (.inl (by simp))
    · split at h
      · rename_i h0 h1
        have := Tr.mem_list l (fun q => j (2 * q + 1)) _ x h
        rw [show 2 * (i / 2) + 1 = i by omega] at this
        exact .inl (.inr this)
      · rename_i h0 h1
        have := Tr.mem_list r (fun q => j (2 * q + 2)) _ x h
        rw [show 2 * (i / 2 - 1) + 2 = i by omega] at this
        exact .inr this

def envOf (t : Tr T) (i : Nat) : T := (t.get i).getD .any
def fuelT : Nat := 20
theorem envOf_set {t : Tr T} {d : Nat} {r : T} (h : d < 1000000) : envOf (t.set fuelT d r) = upd (envOf t) d r := by
  funext i
  unfold envOf upd
  rw [Tr.get_set fuelT t d r i (by simp only [fuelT]; omega)]
  split <;> rfl

/- own blocks -/
def setH : List (Nat × List V) → Nat → List V → List (Nat × List V)
  | [], s, cs => [(s, cs)]
  | (u, c) :: l, s, cs => if u = s then (s, cs) :: l else (u, c) :: setH l s cs
theorem mkH_setH : ∀ (l : List (Nat × List V)) (s : Nat) (cs : List V), mkH (setH l s cs) = updH (mkH l) s (some cs)
  | [], s, cs => by funext j; simp [setH, mkH, updH]
  | (u, c) :: l, s, cs => by
    funext j
    simp only [setH]
    by_cases h : u = s
    · subst h
      simp only [if_true, mkH, updH]
      split <;> simp_all
    · rw [if_neg h]
      have ih := congrFun (mkH_setH l s cs) j
      simp only [mkH, updH] at ih ⊢
      rw [ih]
      by_cases hj : j = u
      · subst hj; simp [h]
      · simp [hj]
def delH (l : List (Nat × List V)) (s : Nat) : List (Nat × List V) := l.filter fun p => p.1 != s
theorem mkH_delH : ∀ (l : List (Nat × List V)) (s : Nat), mkH (delH l s) = updH (mkH l) s none
  | [], s => by funext j; simp [delH, mkH, updH]
  | (u, c) :: l, s => by
    have ih := mkH_delH l s
    funext j
    have ihj := congrFun ih j
    unfold delH at ihj ⊢
    rw [List.filter_cons]
    by_cases h : u = s
    · subst h
      rw [if_neg (by simp)]
      rw [ihj]
      simp only [mkH, updH]
      by_cases hj : j = u <;> simp [hj]
    · rw [if_pos (by simpa using h)]
      simp only [mkH, updH] at ihj ⊢
      rw [ihj]
      by_cases hj : j = u
      · subst hj; simp [h]
      · simp [hj]
def mapH (g : List V → List V) (l : List (Nat × List V)) : List (Nat × List V) := l.map fun p => (p.1, g p.2)
theorem mkH_mapH (g : List V → List V) : ∀ (l : List (Nat × List V)) (j : Nat), mkH (mapH g l) j = (mkH l j).map g
  | [], j => rfl
  | (u, c) :: l, j => by
    have ih := mkH_mapH g l j
    simp only [mapH, List.map_cons, mkH] at ih ⊢
    rw [ih]
    split <;> rfl
theorem mkH_in : ∀ (l : List (Nat × List V)) (j : Nat) (cs : List V), mkH l j = some cs → (j, cs) ∈ l
  | [], j, cs, h => by cases h
  | (u, c) :: l, j, cs, h => by
    simp only [mkH] at h
    split at h
    · rename_i e; subst e; injection h with h; subst h; simp
    · exact List.mem_cons_of_mem _ (mkH_in l j cs h)

structure CS where
  env : Tr T
  heap : List (Nat × List V)
  ctr : Nat
  mv : List Nat
  wl : List Nat

def CS.st (c : CS) : St := ⟨envOf c.env, mkH c.heap⟩

end Go.Ab
end

section
namespace Go.Ab
open Go Go.RowKit

def dok (n : Nat) : Option Nat → Bool
  | none => true
  | some d => decide (d < n) && decide (d < 1000000)
theorem dok_ok {n : Nat} {d : Option Nat} (h : dok n d = true) : dstOK n d := by
  intro j hj
  subst hj
  simp only [dok, Bool.and_eq_true, decide_eq_true_eq] at h
  exact h.1
def CS.putO (c : CS) : Option Nat → T → CS
  | none, _ => c
  | some d, r => { c with env := c.env.set fuelT d r }
theorem putO_st {n : Nat} {c : CS} {d : Option Nat} {r : T} (h : dok n d = true) : (c.putO d r).st = c.st.put d r := by
  cases d with
  | none => rfl
  | some d =>
    simp only [dok, Bool.and_eq_true, decide_eq_true_eq] at h
    simp only [CS.putO, CS.st, St.put, envOf_set h.2]
theorem putO_heap {c : CS} {d : Option Nat} {r : T} : (c.putO d r).heap = c.heap := by cases d <;> rfl
theorem putO_ctr {c : CS} {d : Option Nat} {r : T} : (c.putO d r).ctr = c.ctr := by cases d <;> rfl

/-- What a step yields. -/
structure StepR (P : Program) (n : Nat) (ops : Array Oper) (o : Oper) (c c' : CS) (f : Ft) : Prop where
  sq : ∀ stay : Nat → Prop, (∀ s, stay s → s < c.ctr) → (∀ s ∈ f.kl, ¬ stay s) → SQ P n stay ops o c.st c'.st f
  ctr : c.ctr ≤ c'.ctr
  kl : ∀ s ∈ f.kl, ∀ l, l ∉ f.wr → ¬ (c.st.at l).names s

def gate (ops : Array Oper) (o : Oper) (c : CS) : Option Bool :=
  match o.guard with
  | none => some true
  | some (j, want) =>
    match (ops[j]?).bind (·.dst) with
    | some t => (match envOf c.env t with | .e (.c (.d (.sc (.bool b)))) => some (b == want) | .tup [] => some false | _ => none)
    | none => none

theorem gate_true {ops : Array Oper} {o : Oper} {c : CS} (h : gate ops o c = some true) : Taken ops o c.st := by
  unfold gate at h
  split at h
  · rename_i hg; exact .inl hg
  · rename_i j want hg
    split at h
    · rename_i t ht
      split at h
      · rename_i b hb
        injection h with h
        have : b = want := by simpa using h
        subst this
        exact .inr ⟨j, b, t, hg, ht, hb⟩
      · cases h
      · cases h
    · cases h
theorem gate_false {ops : Array Oper} {o : Oper} {c : CS} (h : gate ops o c = some false) : Passed ops o c.st := by
  unfold gate at h
  split at h
  · cases h
  · rename_i j want hg
    split at h
    · rename_i t ht
      split at h
      · rename_i b hb
        injection h with h
        exact ⟨j, want, t, hg, ht, .inl ⟨b, hb, h⟩⟩
      · rename_i hb
        exact ⟨j, want, t, hg, ht, .inr hb⟩
      · cases h
    · cases h

section
variable (P : Program) (n : Nat) (ops : Array Oper) (o : Oper) (c : CS)

def skipX : Option (CS × Ft) := if dok n o.dst then some (c.putO o.dst (.tup []), ⟨lk ops o, dl o, []⟩) else none
def pureX : Option (CS × Ft) := match opT P o.op c.st with | some r => if dok n o.dst then some (c.putO o.dst r, ⟨lk ops o, dl o, []⟩) else none | none => none
def loadX (t : TypeId) (s off : Nat) : Option (CS × Ft) :=
  match mkH c.heap s with
  | some cs => (match loadV P t cs off with | some r => if dok n o.dst then some (c.putO o.dst r, ⟨(2 * s + 1) :: lk ops o, dl o, []⟩) else none | none => none)
  | none => none
def storeX (t : TypeId) (x y : Operand) : Option (CS × Ft) :=
  match o.dst, c.st.ev x, c.st.ev y, tsz P t with
  | none, .e (.c (.ptr s off)), .e e, some m =>
    (match mkH c.heap s with
     | some cs => if e.cells.length = m ∧ off + m ≤ cs.length ∧ notM cs = true then some ({ c with heap := setH c.heap s (splice cs off e.cells) }, ⟨lk ops o, (2 * s + 1) :: dl o, []⟩) else none
     | none => none)
  | _, _, _, _ => none
def newX (cs : List V) (r : T) : Option (CS × Ft) :=
  if dok n o.dst then (match mkH c.heap c.ctr with | none => some ({ c.putO o.dst r with heap := (c.ctr, cs) :: c.heap, ctr := c.ctr + 1 }, ⟨lk ops o, (2 * c.ctr + 1) :: dl o, []⟩) | some _ => none) else none
def makeX (t : TypeId) (lx cx : Operand) : Option (CS × Ft) :=
  match tsl P t, scOf (c.st.ev lx), scOf (c.st.ev cx) with
  | some e, some (.int _ l), some (.int _ k) =>
    (match tsz P e, tby P e, tzv P e with
     | some m, some y, some zs => if zs.length = m ∧ 0 ≤ l ∧ l = k ∧ y * l.toNat ≤ 281474976710656 ∧ l ≤ 281474976710656 then newX n ops o c (rep l.toNat zs) (.e (.c (.sub c.ctr m 0 l.toNat))) else none
     | _, _, _ => none)
  | _, _, _ => none
/-- The labels that a value names. -/
def V.labs : V → List Nat
  | .ptr s _ => [s]
  | .sub s _ _ _ => [s]
  | .clo _ caps => caps.map (·.1)
  | .mp s => [s]
  | _ => []
def E.labs : E → List Nat
  | .c v => v.labs
  | .agg vs => vs.flatMap V.labs
def T.labs : T → List Nat
  | .e x => x.labs
  | .tup xs => xs.flatMap E.labs
  | .any => []
/-- The temporaries, and the blocks, that name a label. -/
def tmpsOf (s : Nat) : List Nat := ((c.env.list id).filter fun p => p.2.nmB s).map (·.1)
def blksOf (s : Nat) : List Nat := (c.heap.filter fun p => p.2.any (V.nmB s)).map (·.1)
def appX (x y : Operand) (t : TypeId) : Option (CS × Ft) :=
  match o.dst, tsl P t with
  | some d, some e =>
    (match tsz P e, tby P e, tzv P e with
     | some k, some bytes, some zs =>
       (match srcV k (mkH c.heap) (c.st.ev y) with
        | some (news, m) =>
          if zs.length = k ∧ d < n ∧ d < 1000000 then
            (match c.st.ev x with
             | .e (.c (.d (.sc (.slice none 0 0)))) =>
               if m = 0 then none
               else if m * bytes ≤ 140737488355328 ∧ m ≤ 140737488355328 then
                 (match mkH c.heap c.ctr with
                  | none => some ({ c.putO (some d) (.e (.c (.sub c.ctr k 0 m))) with heap := (c.ctr, news) :: c.heap, ctr := c.ctr + 1 }, ⟨lk ops o ++ odd (c.st.ev y).labs, (2 * c.ctr + 1) :: dl o, []⟩)
                  | some _ => none)
               else none
             | .e (.c (.sub s k' 0 len)) =>
               (match mkH c.heap s, mkH c.heap c.ctr with
                | some cs, none =>
                  if k' = k ∧ cs.length = len * k ∧ (len + m) * bytes ≤ 140737488355328 ∧ len + m ≤ 140737488355328 ∧ cs.any (V.nmB s) = false ∧ news.any (V.nmB s) = false ∧ (tmpsOf c s).all (fun i => decide (i < 1000000)) = true then
                    some ({ c with env := (((tmpsOf c s).foldl (fun t i => if i < 1000000 then t.set fuelT i .any else t) c.env).set fuelT d (.e (.c (.sub c.ctr k 0 (len + m))))),
                                   heap := (c.ctr, cs ++ news) :: (delH c.heap s).map (fun p => (p.1, p.2.map (V.kill s))), ctr := c.ctr + 1 },
                      ⟨lk ops o ++ odd (c.st.ev y).labs, even (d :: tmpsOf c s) ++ odd (c.ctr :: s :: blksOf c s), [s]⟩)
                  else none
                | _, _ => none)
             | _ => none)
          else none
        | none => none)
     | _, _, _ => none)
  | _, _ => none
def copyX (x y : Operand) (t : TypeId) : Option (CS × Ft) :=
  match tsl P t, c.st.ev x with
  | some e, .e (.c (.sub s k off len)) =>
    (match tsz P e, mkH c.heap s, srcV k (mkH c.heap) (c.st.ev y) with
     | some k', some cs, some (src, m) =>
       if k' = k ∧ off + len * k ≤ cs.length ∧ dok n o.dst = true then
         some ({ c.putO o.dst (.e (.c (.d (.sc (.int .i64 (min m len : Nat)))))) with heap := setH c.heap s (splice cs off (src.take (min m len * k))) }, ⟨lk ops o ++ odd (c.st.ev y).labs, (2 * s + 1) :: dl o, []⟩)
       else none
     | _, _, _ => none)
  | _, _ => none
end

section
variable {P : Program} {n : Nat} {ops : Array Oper} {o : Oper} {c c' : CS} {f : Ft}

theorem skipX_ok (h : skipX n ops o c = some (c', f)) (hg : Passed ops o c.st) : StepR P n ops o c c' f := by
  unfold skipX at h
  split at h
  · rename_i hd
    injection h with h; injection h with h1 h2; subst h1; subst h2
    exact ⟨fun stay _ _ => by rw [putO_st hd]; exact .skip hg (dok_ok hd), by rw [putO_ctr]; exact Nat.le_refl _, fun s hs => by simp at hs⟩
  · cases h

theorem pureX_ok (h : pureX P n ops o c = some (c', f)) (hg : Taken ops o c.st) (hl : ∀ t x s off, o.op = .load t x → c.st.ev x ≠ .e (.c (.ptr s off))) : StepR P n ops o c c' f := by
  unfold pureX at h
  split at h
  · rename_i r hr
    split at h
    · rename_i hd
      injection h with h; injection h with h1 h2; subst h1; subst h2
      refine ⟨fun stay _ _ => ?_, by rw [putO_ctr]; exact Nat.le_refl _, fun s hs => by simp at hs⟩
      rw [putO_st hd]
      rcases opT_pure hr with h | ⟨t, x, s, off, cs, e1, e2, _⟩
      · exact .pure hg h (dok_ok hd)
      · exact absurd e2 (hl t x s off e1)
    · cases h
  · cases h

theorem loadX_ok {t : TypeId} {x : Operand} {s off : Nat} (h : loadX P n ops o c t s off = some (c', f)) (hg : Taken ops o c.st) (ho : o.op = .load t x) (hx : c.st.ev x = .e (.c (.ptr s off))) : StepR P n ops o c c' f := by
  unfold loadX at h
  split at h
  · rename_i cs hs
    split at h
    · rename_i r hr
      split at h
      · rename_i hd
        injection h with h; injection h with h1 h2; subst h1; subst h2
        refine ⟨fun stay _ _ => ?_, by rw [putO_ctr]; exact Nat.le_refl _, fun s hs => by simp at hs⟩
        rw [putO_st hd]
        exact .load hg t x s off cs ho hx hs hr (dok_ok hd)
      · cases h
    · cases h
  · cases h

theorem storeX_ok {t : TypeId} {x y : Operand} (h : storeX P ops o c t x y = some (c', f)) (hg : Taken ops o c.st) (ho : o.op = .store t x y) : StepR P n ops o c c' f := by
  unfold storeX at h
  split at h
  · rename_i s off e m hdst hx hy ht
    split at h
    · rename_i cs hs
      split at h
      · rename_i hc
        injection h with h; injection h with h1 h2; subst h1; subst h2
        refine ⟨fun stay _ _ => ?_, Nat.le_refl _, fun s hs => by simp at hs⟩
        have := SQ.store (P := P) (n := n) (stay := stay) hg t x y ho hdst s off cs e m hx hy hs ht hc.1 hc.2.1 hc.2.2
        have e2 : ({ c with heap := setH c.heap s (splice cs off e.cells) } : CS).st = ⟨c.st.env, updH c.st.heap s (some (splice cs off e.cells))⟩ := by
          simp only [CS.st, mkH_setH]
        rw [e2]
        exact this
      · cases h
    · cases h
  · cases h

theorem cons_updH (s : Nat) (cs : List V) (l : List (Nat × List V)) : mkH ((s, cs) :: l) = updH (mkH l) s (some cs) := by
  funext j; rfl

theorem newX_ok {cs : List V} {r : T} (h : newX n ops o c cs r = some (c', f)) (hg : Taken ops o c.st) (ha : AllocOK P o c.st.ev c.ctr cs r) : StepR P n ops o c c' f := by
  unfold newX at h
  split at h
  · rename_i hd
    split at h
    · rename_i hf
      injection h with h; injection h with h1 h2; subst h1; subst h2
      refine ⟨fun stay hs _ => ?_, by simp, fun s hs => by simp at hs⟩
      have := SQ.alloc (P := P) (n := n) (stay := stay) hg c.ctr cs ha (dok_ok hd) (fun h => by have := hs _ h; omega) hf
      have e2 : ({ c.putO o.dst r with heap := (c.ctr, cs) :: c.heap, ctr := c.ctr + 1 } : CS).st = ⟨(c.st.put o.dst r).env, updH c.st.heap c.ctr (some cs)⟩ := by
        rw [← putO_st hd]
        simp only [CS.st, cons_updH]
      rw [e2]
      exact this
    · cases h
  · cases h

theorem makeX_ok {t : TypeId} {lx cx : Operand} (h : makeX P n ops o c t lx cx = some (c', f)) (hg : Taken ops o c.st) (ho : o.op = .makeSlice t lx cx) : StepR P n ops o c c' f := by
  unfold makeX at h
  split at h
  · rename_i e kl l kc k h1 h2 h3
    split at h
    · rename_i m y zs h4 h5 h6
      split at h
      · rename_i hc
        obtain ⟨c3, c4, c5, c6, c7⟩ := hc
        subst c5
        have hl : ((l.toNat : Nat) : Int) = l := Int.toNat_of_nonneg c4
        exact newX_ok h hg (alloc_makeSlice (P := P) t lx cx ho c.ctr e m y zs l.toNat kl kc h1 h4 h5 h6 c3 (by rw [hl]; exact scOf_some h2) (by rw [hl]; exact scOf_some h3) c6 (by omega))
      · cases h
    · cases h
  · cases h

theorem V.labs_ok {x : V} {s : Nat} (h : x.names s) : s ∈ x.labs := by
  cases x with
  | ptr t o => cases h; simp [V.labs]
  | sub t k o l => cases h; simp [V.labs]
  | clo g caps => obtain ⟨p, hp, rfl⟩ := h; exact List.mem_map.2 ⟨p, hp, rfl⟩
  | mp t => cases h; simp [V.labs]
  | mapc es => exact h.elim
  | d x => exact h.elim
  | pim ds => exact h.elim
  | any => exact h.elim
theorem E.labs_ok {x : E} {s : Nat} (h : x.names s) : s ∈ x.labs := by
  cases x with
  | c v => exact V.labs_ok h
  | agg vs => obtain ⟨v, hv, h⟩ := h; exact List.mem_flatMap.2 ⟨v, hv, V.labs_ok h⟩
theorem T.labs_ok {x : T} {s : Nat} (h : x.names s) : s ∈ x.labs := by
  cases x with
  | e v => exact E.labs_ok h
  | tup vs => obtain ⟨v, hv, h⟩ := h; exact List.mem_flatMap.2 ⟨v, hv, E.labs_ok h⟩
  | any => exact h.elim

theorem tmpsOf_ok {s i : Nat} (h : (c.st.env i).names s) : i ∈ tmpsOf c s := by
  simp only [CS.st, envOf] at h
  cases hv : c.env.get i with
  | none => rw [hv] at h; exact h.elim
  | some x =>
    rw [hv] at h
    have := Tr.mem_list c.env id i x hv
    exact List.mem_map.2 ⟨(i, x), List.mem_filter.2 ⟨this, T.nmB_iff.2 h⟩, rfl⟩
theorem blksOf_ok {s u : Nat} {cs : List V} (hu : c.st.heap u = some cs) (h : ∃ v ∈ cs, v.names s) : u ∈ blksOf c s := by
  have := mkH_in c.heap u cs hu
  obtain ⟨v, hv, h⟩ := h
  exact List.mem_map.2 ⟨(u, cs), List.mem_filter.2 ⟨this, List.any_eq_true.2 ⟨v, hv, V.nmB_iff.2 h⟩⟩, rfl⟩

theorem envOf_anys : ∀ (l : List Nat) (t : Tr T) (i : Nat), (∀ j ∈ l, j < 1000000) → envOf (l.foldl (fun t i => if i < 1000000 then t.set fuelT i .any else t) t) i = if i ∈ l then .any else envOf t i
  | [], t, i, _ => by simp
  | j :: l, t, i, h => by
    have hj := h j (by simp)
    simp only [List.foldl_cons, hj, if_true]
    rw [envOf_anys l _ i (fun k hk => h k (by simp [hk])), envOf_set hj]
    simp only [upd, List.mem_cons]
    by_cases h1 : i ∈ l
    · simp [h1]
    · by_cases h2 : i = j <;> simp [h1, h2]
end

end Go.Ab
end

section
namespace Go.Ab
open Go Go.RowKit

section
variable {P : Program} {n : Nat} {ops : Array Oper} {o : Oper} {c c' : CS} {f : Ft}

theorem any_false {s : Nat} {cs : List V} (h : cs.any (V.nmB s) = false) : ∀ v ∈ cs, ¬ v.names s := by
  intro v hv hn
  have : cs.any (V.nmB s) = true := List.any_eq_true.2 ⟨v, hv, V.nmB_iff.2 hn⟩
  rw [h] at this; cases this

theorem copyX_ok {x y : Operand} {t t' : TypeId} (h : copyX P n ops o c x y t = some (c', f)) (hg : Taken ops o c.st) (ho : o.op = .call { callee := .builtin .copy, args := #[x, y], argTypes := #[t, t'] }) : StepR P n ops o c c' f := by
  unfold copyX at h
  split at h
  · rename_i e s k off len ht hx
    split at h
    · rename_i k' cs src m hk hs hy
      split at h
      · rename_i hc
        obtain ⟨rfl, h1, hd⟩ := hc
        injection h with h; injection h with e1 e2; subst e1; subst e2
        refine ⟨fun stay _ _ => ?_, by cases o.dst <;> exact Nat.le_refl _, fun s hs => by simp at hs⟩
        have := SQ.copy (P := P) (n := n) (stay := stay) hg x y t t' ho s k' off len cs src m hx hs h1 hy e ht hk (dok_ok hd) (c.st.ev y).labs (fun u hu => T.labs_ok hu)
        have e2 : ({ c.putO o.dst (.e (.c (.d (.sc (.int .i64 (min m len : Nat)))))) with heap := setH c.heap s (splice cs off (src.take (min m len * k'))) } : CS).st = ⟨(c.st.put o.dst (.e (.c (.d (.sc (.int .i64 (min m len : Nat))))))).env, updH c.st.heap s (some (splice cs off (src.take (min m len * k'))))⟩ := by
          rw [← putO_st hd]
          simp only [CS.st, mkH_setH]
        rw [e2]
        exact this
      · cases h
    · cases h
  · cases h

theorem appX_ok {x y : Operand} {t : TypeId} (h : appX P n ops o c x y t = some (c', f)) (hg : Taken ops o c.st) (ho : o.op = .call { callee := .builtin .append, args := #[x, y], argTypes := #[t, t] }) : StepR P n ops o c c' f := by
  unfold appX at h
  split at h
  · rename_i d e hdst ht
    split at h
    · rename_i k bytes zs hk hb hz
      split at h
      · rename_i news m hy
        split at h
        · rename_i hc
          obtain ⟨hzk, hdn, hdm⟩ := hc
          have hd : dok n (some d) = true := by simp [dok, hdn, hdm]
          split at h
          · rename_i hx
            split at h
            · cases h
            · rename_i hm0
              split at h
              · rename_i hfit
                split at h
                · rename_i hf
                  injection h with h; injection h with e1 e2; subst e1; subst e2
                  refine ⟨fun stay hs _ => ?_, by simp, fun s hs => by simp at hs⟩
                  have := SQ.appendNil (P := P) (n := n) (stay := stay) hg x y t ho k news m hx hy hm0 e bytes zs ht hk hb hz hzk hfit.1 hfit.2 c.ctr hf (fun h => by have := hs _ h; omega) (by rw [hdst]; exact dok_ok hd) (c.st.ev y).labs (fun u hu => T.labs_ok hu)
                  have e2 : ({ c.putO (some d) (.e (.c (.sub c.ctr k 0 m))) with heap := (c.ctr, news) :: c.heap, ctr := c.ctr + 1 } : CS).st = ⟨(c.st.put o.dst (.e (.c (.sub c.ctr k 0 m)))).env, updH c.st.heap c.ctr (some news)⟩ := by
                    rw [hdst, ← putO_st hd]
                    simp only [CS.st, cons_updH]
                  rw [e2]
                  exact this
                · cases h
              · cases h
          · rename_i s k' len hx
            split at h
            · rename_i cs hs hf
              split at h
              · rename_i hc
                obtain ⟨rfl, h1, h2, h3, h4, h5, h6⟩ := hc
                injection h with h; injection h with e1 e2; subst e1; subst e2
                have hlt : ∀ j ∈ tmpsOf c s, j < 1000000 := by
                  intro j hj
                  simpa using List.all_eq_true.1 h6 j hj
                have hsc : s ≠ c.ctr := by rintro rfl; rw [hs] at hf; cases hf
                refine ⟨fun stay hst hkl => ?_, by simp, fun u hu l hl hn => ?_⟩
                · have := SQ.append (P := P) (n := n) (stay := stay) hg x y t ho d s k' len hdst cs news m hx hs h1 hy e bytes zs ht hk hb hz hzk (any_false h4) (any_false h5) h2 h3 (hkl s (by simp)) hdn c.ctr hf (fun h => by have := hst _ h; omega) (tmpsOf c s) (blksOf c s) (c.st.ev y).labs (fun u hu => T.labs_ok hu)
                  refine cast (congrArg (fun z => SQ P n stay ops o c.st z _) ?_) this
                  simp only [appSt, CS.st, St.mk.injEq]
                  constructor
                  · rw [envOf_set hdm]
                    congr 1
                    funext i
                    rw [envOf_anys _ _ _ hlt]
                  · funext u
                    rw [mkH_cons]
                    by_cases hu : u = c.ctr
                    · rw [if_pos hu, if_pos hu]
                    · rw [if_neg hu, if_neg hu]
                      have e3 : mkH ((delH c.heap s).map fun p => (p.1, p.2.map (V.kill s))) u = (mkH (delH c.heap s) u).map (List.map (V.kill s)) := mkH_mapH (List.map (V.kill s)) (delH c.heap s) u
                      rw [e3, mkH_delH]
                      simp only [updH]
                      by_cases hus : u = s
                      · simp [hus]
                      · simp only [hus, if_false]
                        by_cases hb : u ∈ blksOf c s
                        · simp [hb]
                        · simp only [hb, if_false]
                          cases hv : mkH c.heap u with
                          | none => rfl
                          | some cs0 =>
                            simp only [Option.map_some, Option.some.injEq]
                            exact (CsKill_id fun hn => hb (blksOf_ok (c := c) hv hn)).symm
                · simp only [List.mem_singleton] at hu
                  subst hu
                  simp only [List.mem_append, not_or] at hl
                  unfold St.at at hn
                  split at hn
                  · rename_i e0
                    have e1 : l = 2 * (l / 2) := by omega
                    rw [e1, mem_even, List.mem_cons, not_or] at hl
                    exact hl.1.2 (tmpsOf_ok hn)
                  · rename_i e0
                    have e1 : l = 2 * (l / 2) + 1 := by omega
                    rw [e1, mem_odd, List.mem_cons, List.mem_cons, not_or, not_or] at hl
                    cases hv : c.st.heap (l / 2) with
                    | none => rw [hv] at hn; exact hn.elim
                    | some cs0 => rw [hv] at hn; exact hl.2.2.2 (blksOf_ok hv hn)
              · cases h
            · cases h
          · cases h
        · cases h
      · cases h
    · cases h
  · cases h
end

end Go.Ab
end

section
namespace Go.Ab
open Go Go.RowKit

abbrev OwnRes := T × List (Nat × List V) × Nat × List Nat × List Nat

/-- What serves the calls. -/
structure Hand where
  pur : FuncId → List E → Option T
  own : FuncId → List (Nat × List V) → Nat → List E → Option OwnRes
  isOwn : FuncId → Bool

structure HandOK (P : Program) (h : Hand) : Prop where
  pur : ∀ f args r, h.pur f args = some r → Pur P f args r
  own : ∀ f H ct args r H' ct' mv wl, h.own f H ct args = some (r, H', ct', mv, wl) → Sat P f (mkH H) args (mkH H') (fun u => u < ct ∧ u ∉ mv) r ∧ ∀ u, u < ct → u ∉ wl → mkH H' u = mkH H u

def toEs : List T → Option (List E)
  | [] => some []
  | .e x :: l => (toEs l).map (x :: ·)
  | _ :: _ => none
theorem toEs_ok : ∀ {l : List T} {es : List E}, toEs l = some es → l = es.map .e
  | [], es, h => by simp only [toEs] at h; injection h with h; subst h; rfl
  | .e x :: l, es, h => by
    simp only [toEs, Option.map_eq_some_iff] at h
    obtain ⟨es', h1, rfl⟩ := h
    rw [toEs_ok h1]; rfl
  | .tup _ :: l, es, h => by cases h
  | .any :: l, es, h => by cases h

def reachL (H : List (Nat × List V)) : Nat → List Nat → List Nat → List Nat
  | 0, _, seen => seen
  | _ + 1, [], seen => seen
  | k + 1, s :: l, seen => if seen.contains s then reachL H k l seen else reachL H k ((match mkH H s with | some cs => cs.flatMap V.labs | none => []) ++ l) (s :: seen)

section
variable (P : Program) (n : Nat) (ops : Array Oper) (hd : Hand) (o : Oper) (c : CS)

def purX (f : FuncId) (xs : List Operand) : Option (CS × Ft) :=
  match toEs (xs.map fun x => (c.st.ev x).norm) with
  | some args =>
    if args.all (fun x => x.labs.isEmpty) && dok n o.dst then (match hd.pur f args with | some r => some (c.putO o.dst r, ⟨lk ops o, dl o, []⟩) | none => none) else none
  | none => none

def ownX (f : FuncId) (args : List E) : Option (CS × Ft) :=
  let R := reachL c.heap 100000 (args.flatMap E.labs) []
  if args.all (fun x => x.labs.all R.contains) && c.heap.all (fun p => !R.contains p.1 || p.2.all fun v => v.labs.all R.contains) && R.all (fun u => decide (u < c.ctr)) && dok n o.dst then
    match hd.own f (c.heap.filter fun p => R.contains p.1) c.ctr args with
    | some (r, H', ct', mv, wl) =>
      let N := (H'.map (·.1)).filter fun u => decide (c.ctr ≤ u)
      let ms := mv.filter R.contains
      if H'.all (fun p => R.contains p.1 || decide (c.ctr ≤ p.1)) && N.all (fun u => (mkH c.heap u).isNone) && decide (c.ctr ≤ ct') then
        some ({ (({ c with env := c.env.map (killT ms) } : CS).putO o.dst r) with heap := H' ++ mapH (List.map (killV ms)) (c.heap.filter fun p => !R.contains p.1), ctr := ct' },
          ⟨lk ops o ++ odd R, dl o ++ even (ms.flatMap (tmpsOf c)) ++ odd (wl.filter R.contains ++ N ++ ms.flatMap (blksOf c)), ms⟩)
      else none
    | none => none
  else none
end

theorem E.labs_nil {x : E} (h : x.labs.isEmpty = true) (s : Nat) : ¬ x.names s := fun hs => by
  have := E.labs_ok hs
  rw [List.isEmpty_iff] at h
  rw [h] at this
  simp at this

theorem mkH_filter (p : Nat → Bool) : ∀ (l : List (Nat × List V)) (u : Nat), mkH (l.filter fun q => p q.1) u = if p u = true then mkH l u else none
  | [], u => by simp [mkH]
  | (j, cs) :: l, u => by
    have ih := mkH_filter p l u
    rw [List.filter_cons]
    by_cases hj : p j = true
    · rw [if_pos hj, mkH_cons, ih, mkH_cons]
      by_cases hu : u = j
      · subst hu; simp [hj]
      · simp [hu]
    · rw [if_neg hj, ih, mkH_cons]
      by_cases hu : u = j
      · subst hu; simp [hj]
      · simp [hu]

theorem mkH_append : ∀ (l l' : List (Nat × List V)) (u : Nat), mkH (l ++ l') u = match mkH l u with | some cs => some cs | none => mkH l' u
  | [], l', u => rfl
  | (j, cs) :: l, l', u => by
    rw [List.cons_append, mkH_cons, mkH_cons, mkH_append l l' u]
    split <;> rfl

section
variable {P : Program} {n : Nat} {ops : Array Oper} {hd : Hand} {o : Oper} {c c' : CS} {f : Ft}

theorem purX_ok (H : HandOK P hd) {g : FuncId} {xs : Array Operand} {ts : Array TypeId} (h : purX n ops hd o c g xs.toList = some (c', f)) (hg : Taken ops o c.st) (ho : o.op = .call { callee := .value (.func g), args := xs, argTypes := ts }) : StepR P n ops o c c' f := by
  unfold purX at h
  split at h
  · rename_i args ha
    split at h
    · rename_i hc
      simp only [Bool.and_eq_true, List.all_eq_true] at hc
      split at h
      · rename_i r hr
        injection h with h; injection h with h1 h2; subst h1; subst h2
        refine ⟨fun stay _ _ => ?_, by rw [putO_ctr]; exact Nat.le_refl _, fun s hs => by simp at hs⟩
        rw [putO_st hc.2]
        exact .pure hg (pure_call g xs ts ho args r (H.pur g args r hr) (toEs_ok ha) (fun x hx s => E.labs_nil (hc.1 x hx) s)) (dok_ok hc.2)
      · cases h
    · cases h
  · cases h

theorem envOf_map (ms : List Nat) (t : Tr T) : envOf (t.map (killT ms)) = fun i => killT ms (envOf t i) := by
  funext i
  unfold envOf
  rw [Tr.get_map]
  cases t.get i with
  | none => simp [killT, T.nmB]
  | some x => rfl

theorem Sat.stays {P : Program} {f : FuncId} {H H' : Heap} {args : List E} {stay stay' : Nat → Prop} {r : T} (h : Sat P f H args H' stay r) (hs : ∀ u, stay' u → stay u) : Sat P f H args H' stay' r := by
  refine ⟨h.1, fun M γ w vals hm ha => (h.2 M γ w vals hm ha).mono fun e w' he => ?_⟩
  obtain ⟨v, γ', e1, e2, e3, e4, e5, e6⟩ := he
  exact ⟨v, γ', e1, e2, e3, e4, e5, fun s h => e6 s (hs s h)⟩

theorem ownX_ok (H : HandOK P hd) {g : FuncId} {args : List E} (h : ownX n ops hd o c g args = some (c', f)) (hg : Taken ops o c.st) (hen : Enters P o c.st.ev g args) : StepR P n ops o c c' f := by
  unfold ownX at h
  simp only at h
  generalize reachL c.heap 100000 (args.flatMap E.labs) [] = R at h
  split at h
  · rename_i hc
    simp only [Bool.and_eq_true, List.all_eq_true, Bool.or_eq_true, Bool.not_eq_true', List.contains_iff_mem, decide_eq_true_eq] at hc
    obtain ⟨⟨⟨h1, h2⟩, h3⟩, h4⟩ := hc
    split at h
    · rename_i r H' ct' mv wl hown
      split at h
      · rename_i hc2
        simp only [Bool.and_eq_true, List.all_eq_true, Bool.or_eq_true, List.contains_iff_mem, decide_eq_true_eq] at hc2
        obtain ⟨⟨h5, h6⟩, h7⟩ := hc2
        injection h with h; injection h with e1 e2; subst e1; subst e2
        obtain ⟨hsat, hwl⟩ := H.own _ _ _ _ _ _ _ _ _ hown
        have hpart : mkH (c.heap.filter fun p => R.contains p.1) = part c.st.heap R := by
          funext u
          rw [mkH_filter (fun u => R.contains u)]
          simp only [part, CS.st, List.contains_iff_mem]
        have hdom : ∀ u, mkH H' u ≠ none → u ∈ R ∨ u ∈ (H'.map (·.1)).filter (fun u => decide (c.ctr ≤ u)) := by
          intro u hu
          cases hv : mkH H' u with
          | none => exact absurd hv hu
          | some cs =>
            have hm := mkH_in H' u cs hv
            rcases h5 _ hm with h | h
            · exact .inl h
            · exact .inr (List.mem_filter.2 ⟨List.mem_map.2 ⟨_, hm, rfl⟩, by simpa using h⟩)
        have hpass : Passes P g c.st.heap R ((H'.map (·.1)).filter fun u => decide (c.ctr ≤ u)) (mv.filter R.contains) args (mkH H') r := by
          refine ⟨?_, fun x hx s hs => h1 x hx s (E.labs_ok hs), fun u hu cs hcs x hx s hs => ?_, hdom, fun u hu => by simpa [CS.st] using h6 u hu⟩
          · rw [← hpart]
            refine hsat.stays fun u ⟨hu, hm⟩ => ⟨h3 u hu, fun hmv => hm (List.mem_filter.2 ⟨hmv, by simpa using hu⟩)⟩
          · rcases h2 _ (mkH_in c.heap u cs hcs) with h | h
            · have h' : ¬ u ∈ R := by simpa using h
              exact absurd hu h'
            · exact h x hx s (V.labs_ok hs)
        refine ⟨fun stay hst hkl => ?_, h7, fun s hs l hl hn => ?_⟩
        · have := SQ.callO (P := P) (n := n) (stay := stay) (W := wl.filter R.contains) (ts := (mv.filter R.contains).flatMap (tmpsOf c)) (us := (mv.filter R.contains).flatMap (blksOf c)) hg hpass hkl
            (fun u hu h => by
              have := hst u h
              have := (List.mem_filter.1 hu).2
              simp only [decide_eq_true_eq] at this
              omega) (dok_ok h4) hen
            (fun u hu hW => by
              rw [hwl u (h3 u hu) (fun h => hW (List.mem_filter.2 ⟨h, by simpa using hu⟩)), hpart]
              simp [part, hu])
            (fun i _ hi s hs hn => hi (List.mem_flatMap.2 ⟨s, hs, tmpsOf_ok hn⟩))
            (fun u _ _ hu s hs cs hcs hn => hu (List.mem_flatMap.2 ⟨s, hs, blksOf_ok hcs hn⟩))
          refine cast (congrArg (fun z => SQ P n stay ops o c.st z _) ?_) this
          simp only [callSt, CS.st, St.mk.injEq]
          constructor
          · have := congrArg St.env (putO_st (c := ({ c with env := c.env.map (killT (mv.filter R.contains)) } : CS)) (r := r) h4)
            simp only [CS.st] at this
            rw [this]
            simp only [envOf_map]
          · funext u
            rw [mkH_append, mkH_mapH, mkH_filter (fun u => !R.contains u)]
            by_cases hu : u ∈ R ∨ u ∈ (H'.map (·.1)).filter (fun u => decide (c.ctr ≤ u))
            · rw [if_pos hu]
              cases hv : mkH H' u with
              | some cs => rfl
              | none =>
                have hR : u ∈ R := by
                  rcases hu with h | h
                  · exact h
                  · have hm := (List.mem_filter.1 h).1
                    exact absurd hv (mkH_some H' u hm)
                simp [hR]
            · rw [if_neg hu]
              have hv : mkH H' u = none := by
                cases hv : mkH H' u with
                | none => rfl
                | some cs => exact absurd (hdom u (by rw [hv]; simp)) hu
              have hR : u ∉ R := fun h => hu (.inl h)
              simp [hv, hR]
        · simp only [List.mem_append, not_or] at hl
          unfold St.at at hn
          split at hn
          · rename_i e0
            have e1 : l = 2 * (l / 2) := by omega
            rw [e1, mem_dl, mem_even] at hl
            exact hl.1.2 (List.mem_flatMap.2 ⟨s, hs, tmpsOf_ok hn⟩)
          · rename_i e0
            have e1 : l = 2 * (l / 2) + 1 := by omega
            have hl2 := hl.2
            rw [e1, mem_odd, List.mem_append, List.mem_append, not_or, not_or] at hl2
            cases hv : c.st.heap (l / 2) with
            | none => rw [hv] at hn; exact hn.elim
            | some cs0 => rw [hv] at hn; exact hl2.2 (List.mem_flatMap.2 ⟨s, hs, blksOf_ok hv hn⟩)
      · cases h
    · cases h
  · cases h
end

end Go.Ab
end

section
namespace Go.Ab
open Go Go.RowKit

def miOf (P : Program) (t : TypeId) : Option MI :=
  match P.underlying t with
  | some (.map k e) => (match kfT P k, (P.info? e).bind (·.zero) with | some f, some z => if z.oneCell' = true then some ⟨k, e, f, z⟩ else none | _, _ => none)
  | _ => none
theorem miOf_ok {P : Program} {t : TypeId} {m : MI} (h : miOf P t = some m) : MIOK P t m := by
  unfold miOf at h
  split at h
  · rename_i k e hu
    split at h
    · rename_i f z h1 h2
      split at h
      · rename_i h3
        injection h with h; subst h
        exact ⟨hu, h1, h2, h3⟩
      · cases h
    · cases h
  · cases h

section
variable (P : Program) (n : Nat) (ops : Array Oper) (o : Oper) (c : CS)

def lookX (t : TypeId) (x y : Operand) (ok : Bool) : Option (CS × Ft) :=
  match miOf P t, c.st.ev x, keyT (c.st.ev y) with
  | some m, .e (.c (.mp s)), some k =>
    (match mkH c.heap s with
     | some [.mapc es] => if dok n o.dst = true ∧ keyOK m.kf k = true ∧ mapOK m.kf es = true then
        some (c.putO o.dst (if ok then .tup [.c (.d (.sc (mgetV m.z k es).1)), .c (.d (.sc (.bool (mgetV m.z k es).2)))] else .e (.c (.d (.sc (mgetV m.z k es).1)))), ⟨(2 * s + 1) :: lk ops o, dl o, []⟩) else none
     | _ => none)
  | _, _, _ => none
def updX (t : TypeId) (x y z : Operand) : Option (CS × Ft) :=
  match o.dst, miOf P t, c.st.ev x, keyT (c.st.ev y), c.st.ev z with
  | none, some m, .e (.c (.mp s)), some k, .e (.c (.d (.sc v))) =>
    (match mkH c.heap s with
     | some [.mapc es] => if keyOK m.kf k = true ∧ mapOK m.kf es = true then some ({ c with heap := setH c.heap s [.mapc (msetV k v es)] }, ⟨lk ops o, (2 * s + 1) :: dl o, []⟩) else none
     | _ => none)
  | _, _, _, _, _ => none
end

section
variable {P : Program} {n : Nat} {ops : Array Oper} {o : Oper} {c c' : CS} {f : Ft}

theorem mkMapX_ok {t : TypeId} (h : newX n ops o c [.mapc []] (.e (.c (.mp c.ctr))) = some (c', f)) (hg : Taken ops o c.st) (ho : o.op = .makeMap t none) : StepR P n ops o c c' f := by
  unfold newX at h
  split at h
  · rename_i hd
    split at h
    · rename_i hf
      injection h with h; injection h with h1 h2; subst h1; subst h2
      refine ⟨fun stay hs _ => ?_, by simp, fun s hs => by simp at hs⟩
      have := SQ.makeMap (P := P) (n := n) (stay := stay) hg t ho c.ctr (dok_ok hd) (fun h => by have := hs _ h; omega) hf
      have e2 : ({ c.putO o.dst (.e (.c (.mp c.ctr))) with heap := (c.ctr, [.mapc []]) :: c.heap, ctr := c.ctr + 1 } : CS).st = ⟨(c.st.put o.dst (.e (.c (.mp c.ctr)))).env, updH c.st.heap c.ctr (some [.mapc []])⟩ := by
        rw [← putO_st hd]
        simp only [CS.st, cons_updH]
      rw [e2]
      exact this
    · cases h
  · cases h

theorem lookX_ok {t : TypeId} {x y : Operand} {ok : Bool} (h : lookX P n ops o c t x y ok = some (c', f)) (hg : Taken ops o c.st) (ho : o.op = .lookup t x y ok) : StepR P n ops o c c' f := by
  unfold lookX at h
  split at h
  · rename_i m s k hm hx hy
    split at h
    · rename_i es hs
      split at h
      · rename_i hc
        injection h with h; injection h with h1 h2; subst h1; subst h2
        refine ⟨fun stay _ _ => ?_, by rw [putO_ctr]; exact Nat.le_refl _, fun s hs => by simp at hs⟩
        rw [putO_st hc.1]
        exact .lookup hg t x y ok ho m (miOf_ok hm) s es k hx hy hs hc.2.1 hc.2.2 (dok_ok hc.1)
      · cases h
    · cases h
  · cases h

theorem updX_ok {t : TypeId} {x y z : Operand} (h : updX P ops o c t x y z = some (c', f)) (hg : Taken ops o c.st) (ho : o.op = .mapUpdate t x y z) : StepR P n ops o c c' f := by
  unfold updX at h
  split at h
  · rename_i m s k v hdst hm hx hy hz
    split at h
    · rename_i es hs
      split at h
      · rename_i hc
        injection h with h; injection h with h1 h2; subst h1; subst h2
        refine ⟨fun stay _ _ => ?_, Nat.le_refl _, fun s hs => by simp at hs⟩
        have := SQ.mapUpdate (P := P) (n := n) (stay := stay) hg t x y z ho hdst m (miOf_ok hm) s es k v hx hy hz hs hc.1 hc.2
        have e2 : ({ c with heap := setH c.heap s [.mapc (msetV k v es)] } : CS).st = ⟨c.st.env, updH c.st.heap s (some [.mapc (msetV k v es)])⟩ := by
          simp only [CS.st, mkH_setH]
        rw [e2]
        exact this
      · cases h
    · cases h
  · cases h
end
end Go.Ab
end

section
namespace Go.Ab
open Go Go.RowKit

def srcStr (u0 : TypeId) (P : Program) (k : Nat) (x : T) : Option (ByteArray × List V × Nat) :=
  match x with
  | .e (.c (.d (.sc (.string sb)))) => if tstr P u0 = true ∧ k = 1 then some (sb, bytesV sb, sb.size) else none
  | _ => none
theorem srcStr_ok {u0 : TypeId} {P : Program} {k : Nat} {x : T} {sb : ByteArray} {news : List V} {m : Nat} (h : srcStr u0 P k x = some (sb, news, m)) : tstr P u0 = true ∧ k = 1 ∧ news = bytesV sb ∧ m = sb.size ∧ x = .e (.c (.d (.sc (.string sb)))) := by
  unfold srcStr at h
  split at h
  · split at h
    · rename_i hc
      injection h with h; injection h with h1 h; injection h with h2 h3
      subst h1; subst h2; subst h3
      exact ⟨hc.1, hc.2, rfl, rfl, rfl⟩
    · cases h
  · cases h

section
variable (P : Program) (n : Nat) (ops : Array Oper) (o : Oper) (c : CS)
def appSX (x y : Operand) (t u0 : TypeId) : Option (CS × Ft) :=
  match o.dst, tsl P t with
  | some d, some e =>
    (match tsz P e, tby P e, tzv P e with
     | some k, some bytes, some zs =>
       (match srcStr u0 P k (c.st.ev y) with
        | some (sb, news, m) =>
          if zs.length = k ∧ d < n ∧ d < 1000000 then
            (match c.st.ev x with
             | .e (.c (.d (.sc (.slice none 0 0)))) =>
               if m = 0 then none
               else if m * bytes ≤ 140737488355328 ∧ m ≤ 140737488355328 then
                 (match mkH c.heap c.ctr with
                  | none => some ({ c.putO (some d) (.e (.c (.sub c.ctr k 0 m))) with heap := (c.ctr, news) :: c.heap, ctr := c.ctr + 1 }, ⟨lk ops o ++ odd (c.st.ev y).labs, (2 * c.ctr + 1) :: dl o, []⟩)
                  | some _ => none)
               else none
             | .e (.c (.sub s k' 0 len)) =>
               (match mkH c.heap s, mkH c.heap c.ctr with
                | some cs, none =>
                  if k' = k ∧ cs.length = len * k ∧ (len + m) * bytes ≤ 140737488355328 ∧ len + m ≤ 140737488355328 ∧ cs.any (V.nmB s) = false ∧ news.any (V.nmB s) = false ∧ (tmpsOf c s).all (fun i => decide (i < 1000000)) = true then
                    some ({ c with env := (((tmpsOf c s).foldl (fun t i => if i < 1000000 then t.set fuelT i .any else t) c.env).set fuelT d (.e (.c (.sub c.ctr k 0 (len + m))))),
                                   heap := (c.ctr, cs ++ news) :: (delH c.heap s).map (fun p => (p.1, p.2.map (V.kill s))), ctr := c.ctr + 1 },
                      ⟨lk ops o ++ odd (c.st.ev y).labs, even (d :: tmpsOf c s) ++ odd (c.ctr :: s :: blksOf c s), [s]⟩)
                  else none
                | _, _ => none)
             | _ => none)
          else none
        | none => none)
     | _, _, _ => none)
  | _, _ => none

def pureU : Option (CS × Ft) := match opU P o.op c.st with | some r => if dok n o.dst then some (c.putO o.dst r, ⟨lk ops o, dl o, []⟩) else none | none => none
def pureV : Option (CS × Ft) := match pureX P n ops o c with | some r => some r | none => pureU P n ops o c
end

section
variable {P : Program} {n : Nat} {ops : Array Oper} {o : Oper} {c c' : CS} {f : Ft}

theorem pureU_ok (h : pureU P n ops o c = some (c', f)) (hg : Taken ops o c.st) : StepR P n ops o c c' f := by
  unfold pureU at h
  split at h
  · rename_i r hr
    split at h
    · rename_i hd
      injection h with h; injection h with h1 h2; subst h1; subst h2
      refine ⟨fun stay _ _ => ?_, by rw [putO_ctr]; exact Nat.le_refl _, fun s hs => by simp at hs⟩
      rw [putO_st hd]
      exact .pure hg (opU_pure hr) (dok_ok hd)
    · cases h
  · cases h

theorem pureV_ok (h : pureV P n ops o c = some (c', f)) (hg : Taken ops o c.st) (hl : ∀ t x s off, o.op = .load t x → c.st.ev x ≠ .e (.c (.ptr s off))) : StepR P n ops o c c' f := by
  unfold pureV at h
  split at h
  · rename_i r hr
    injection h with h; subst h
    exact pureX_ok hr hg hl
  · exact pureU_ok h hg

theorem appSX_ok {x y : Operand} {t u0 : TypeId} (h : appSX P n ops o c x y t u0 = some (c', f)) (hg : Taken ops o c.st) (ho : o.op = .call { callee := .builtin .append, args := #[x, y], argTypes := #[t, u0] }) : StepR P n ops o c c' f := by
  unfold appSX at h
  split at h
  · rename_i d e hdst ht
    split at h
    · rename_i k bytes zs hk hb hz
      split at h
      · rename_i sb news m hsrc
        obtain ⟨hu0, hk1, hnews, hm, hy⟩ := srcStr_ok hsrc
        split at h
        · rename_i hc
          obtain ⟨hzk, hdn, hdm⟩ := hc
          have hd : dok n (some d) = true := by simp [dok, hdn, hdm]
          split at h
          · rename_i hx
            split at h
            · cases h
            · rename_i hm0
              split at h
              · rename_i hfit
                split at h
                · rename_i hf
                  injection h with h; injection h with e1 e2; subst e1; subst e2
                  refine ⟨fun stay hs _ => ?_, by simp, fun s hs => by simp at hs⟩
                  have := SQ.appendNilS (P := P) (n := n) (stay := stay) hg x y t u0 hu0 sb ho k news m hk1 hnews hm hx hy hm0 e bytes zs ht hk hb hz hzk hfit.1 hfit.2 c.ctr hf (fun h => by have := hs _ h; omega) (by rw [hdst]; exact dok_ok hd) (c.st.ev y).labs (fun u hu => T.labs_ok hu)
                  have e2 : ({ c.putO (some d) (.e (.c (.sub c.ctr k 0 m))) with heap := (c.ctr, news) :: c.heap, ctr := c.ctr + 1 } : CS).st = ⟨(c.st.put o.dst (.e (.c (.sub c.ctr k 0 m)))).env, updH c.st.heap c.ctr (some news)⟩ := by
                    rw [hdst, ← putO_st hd]
                    simp only [CS.st, cons_updH]
                  rw [e2]
                  exact this
                · cases h
              · cases h
          · rename_i s k' len hx
            split at h
            · rename_i cs hs hf
              split at h
              · rename_i hc
                obtain ⟨rfl, h1, h2, h3, h4, h5, h6⟩ := hc
                injection h with h; injection h with e1 e2; subst e1; subst e2
                have hlt : ∀ j ∈ tmpsOf c s, j < 1000000 := by
                  intro j hj
                  simpa using List.all_eq_true.1 h6 j hj
                have hsc : s ≠ c.ctr := by rintro rfl; rw [hs] at hf; cases hf
                refine ⟨fun stay hst hkl => ?_, by simp, fun u hu l hl hn => ?_⟩
                · have := SQ.appendS (P := P) (n := n) (stay := stay) hg x y t u0 hu0 sb ho d s k' len hdst cs news m hk1 hnews hm hx hs h1 hy e bytes zs ht hk hb hz hzk (any_false h4) (any_false h5) h2 h3 (hkl s (by simp)) hdn c.ctr hf (fun h => by have := hst _ h; omega) (tmpsOf c s) (blksOf c s) (c.st.ev y).labs (fun u hu => T.labs_ok hu)
                  refine cast (congrArg (fun z => SQ P n stay ops o c.st z _) ?_) this
                  simp only [appSt, CS.st, St.mk.injEq]
                  constructor
                  · rw [envOf_set hdm]
                    congr 1
                    funext i
                    rw [envOf_anys _ _ _ hlt]
                  · funext u
                    rw [mkH_cons]
                    by_cases hu : u = c.ctr
                    · rw [if_pos hu, if_pos hu]
                    · rw [if_neg hu, if_neg hu]
                      have e3 : mkH ((delH c.heap s).map fun p => (p.1, p.2.map (V.kill s))) u = (mkH (delH c.heap s) u).map (List.map (V.kill s)) := mkH_mapH (List.map (V.kill s)) (delH c.heap s) u
                      rw [e3, mkH_delH]
                      simp only [updH]
                      by_cases hus : u = s
                      · simp [hus]
                      · simp only [hus, if_false]
                        by_cases hb : u ∈ blksOf c s
                        · simp [hb]
                        · simp only [hb, if_false]
                          cases hv : mkH c.heap u with
                          | none => rfl
                          | some cs0 =>
                            simp only [Option.map_some, Option.some.injEq]
                            exact (CsKill_id fun hn => hb (blksOf_ok (c := c) hv hn)).symm
                · simp only [List.mem_singleton] at hu
                  subst hu
                  simp only [List.mem_append, not_or] at hl
                  unfold St.at at hn
                  split at hn
                  · rename_i e0
                    have e1 : l = 2 * (l / 2) := by omega
                    rw [e1, mem_even, List.mem_cons, not_or] at hl
                    exact hl.1.2 (tmpsOf_ok hn)
                  · rename_i e0
                    have e1 : l = 2 * (l / 2) + 1 := by omega
                    rw [e1, mem_odd, List.mem_cons, List.mem_cons, not_or, not_or] at hl
                    cases hv : c.st.heap (l / 2) with
                    | none => rw [hv] at hn; exact hn.elim
                    | some cs0 => rw [hv] at hn; exact hl.2.2.2 (blksOf_ok hv hn)
              · cases h
            · cases h
          · cases h
        · cases h
      · cases h
    · cases h
  · cases h
end
end Go.Ab
end

section
namespace Go.Ab
open Go Go.RowKit

section
variable (P : Program) (n : Nat) (ops : Array Oper) (hd : Hand) (o : Oper) (c : CS)

def callX (cl : Call) : Option (CS × Ft) :=
  match cl with
  | ⟨.builtin .append, args, ats⟩ => (match args.toList, ats.toList with | [x, y], [t, t'] => if t = t' then appX P n ops o c x y t else appSX P n ops o c x y t t' | _, _ => none)
  | ⟨.builtin .copy, args, ats⟩ => (match args.toList, ats.toList with | [x, y], [t, _] => copyX P n ops o c x y t | _, _ => none)
  | ⟨.builtin _, _, _⟩ => pureX P n ops o c
  | ⟨.value (.func g), args, _⟩ => if hd.isOwn g then (match toEs (args.toList.map c.st.ev) with | some es => ownX n ops hd o c g es | none => none) else purX n ops hd o c g args.toList
  | ⟨.value x, args, _⟩ => (match c.st.ev x with | .e (.c (.clo g caps)) => (match toEs (args.toList.map c.st.ev) with | some es => ownX n ops hd o c g (es ++ caps.map fun p => .c (.ptr p.1 p.2)) | none => none) | _ => none)
  | _ => none

/-- A slice literal as an own block. -/
def bslX (t : TypeId) (len : Nat) (parts : Array (Nat × Operand)) : Option (CS × Ft) :=
  match tsl P t with
  | some e => (match tsz P e, tzv P e with
    | some k, some zs => if zs.length = k ∧ parts.size = len ∧ len * k ≤ 16777216 ∧ 0 < k ∧ 0 < len then (match litRows k c.st.ev 0 parts.toList with | some rs => newX n ops o c (rs.flatten.map .d) (.e (.c (.sub c.ctr k 0 len))) | none => none) else none
    | _, _ => none)
  | none => none

def actX : Option (CS × Ft) :=
  match o.op with
  | .load t x => (match c.st.ev x with | .e (.c (.ptr s off)) => loadX P n ops o c t s off | _ => pureX P n ops o c)
  | .store t x y => storeX P ops o c t x y
  | .box _ x => (match c.st.ev x with | .e e => newX n ops o c e.cells (.e (.c (.ptr c.ctr 0))) | _ => none)
  | .alloc t => (match tzv P t with | some cs => newX n ops o c cs (.e (.c (.ptr c.ctr 0))) | none => none)
  | .makeSlice t l k => makeX P n ops o c t l k
  | .call cl => callX P n ops hd o c cl
  | .makeMap _ none => newX n ops o c [.mapc []] (.e (.c (.mp c.ctr)))
  | .lookup t x y ok => lookX P n ops o c t x y ok
  | .mapUpdate t x y z => updX P ops o c t x y z
  | .buildSlice t len parts => if hd.isOwn (100000 + t) then bslX P n ops o c t len parts else pureX P n ops o c
  | _ => pureV P n ops o c

def stepX : Option (CS × Ft) := match gate ops o c with | some false => skipX n ops o c | some true => actX P n ops hd o c | none => none
end

section
variable {P : Program} {n : Nat} {ops : Array Oper} {hd : Hand} {o : Oper} {c c' : CS} {f : Ft}

theorem ownX_ent (H : HandOK P hd) {g : FuncId} {args : List E} (h : ownX n ops hd o c g args = some (c', f)) : Ent P g := by
  unfold ownX at h
  simp only at h
  split at h
  · split at h
    · rename_i r H' ct' mv wl hown
      exact (H.own _ _ _ _ _ _ _ _ _ hown).1.1
    · cases h
  · cases h

theorem callX_ok (H : HandOK P hd) {cl : Call} (h : callX P n ops hd o c cl = some (c', f)) (hg : Taken ops o c.st) (ho : o.op = .call cl) : StepR P n ops o c c' f := by
  unfold callX at h
  split at h
  · split at h
    · rename_i x y t t' e1 e2
      rw [arr_of e1, arr_of e2] at ho
      split at h
      · rename_i e; subst e; exact appX_ok h hg ho
      · exact appSX_ok h hg ho
    · cases h
  · split at h
    · rename_i x y t t' e1 e2
      rw [arr_of e1, arr_of e2] at ho
      exact copyX_ok h hg ho
    · cases h
  · exact pureX_ok h hg (fun t x s off e => by rw [ho] at e; cases e)
  · rename_i g args ats
    split at h
    · split at h
      · rename_i es hes
        exact ownX_ok H h hg (enters_func g args ats ho (ownX_ent H h) es (toEs_ok hes))
      · cases h
    · exact purX_ok H h hg ho
  · rename_i x args ats _
    split at h
    · rename_i g caps hx
      split at h
      · rename_i es hes
        exact ownX_ok H h hg (enters_clo g x args ats ho (ownX_ent H h) caps hx es (toEs_ok hes))
      · cases h
    · cases h
  · cases h

theorem bslX_ok {t : TypeId} {len : Nat} {parts : Array (Nat × Operand)} (h : bslX P n ops o c t len parts = some (c', f)) (hg : Taken ops o c.st) (ho : o.op = .buildSlice t len parts) : StepR P n ops o c c' f := by
  unfold bslX at h
  split at h
  · rename_i e ht
    split at h
    · rename_i k zs hk hz
      split at h
      · rename_i hc
        split at h
        · rename_i rs hr
          exact newX_ok h hg (alloc_buildSlice (P := P) t len parts ho c.ctr e k zs rs ht hk hz hc.1 hc.2.1 hc.2.2.1 hc.2.2.2.1 hc.2.2.2.2 hr)
        · cases h
      · cases h
    · cases h
  · cases h

theorem actX_ok (H : HandOK P hd) (h : actX P n ops hd o c = some (c', f)) (hg : Taken ops o c.st) : StepR P n ops o c c' f := by
  unfold actX at h
  split at h
  · rename_i t x ho
    split at h
    · rename_i s off hx; exact loadX_ok h hg ho hx
    · rename_i hx
      exact pureX_ok h hg (fun t' x' s off e => by rw [ho] at e; injection e with e1 e2; subst e2; exact hx s off)
  · rename_i t x y ho; exact storeX_ok h hg ho
  · rename_i t x ho
    split at h
    · rename_i e hx; exact newX_ok h hg (alloc_box (P := P) t x ho c.ctr e hx)
    · cases h
  · rename_i t ho
    split at h
    · rename_i cs hz; exact newX_ok h hg (alloc_alloc (P := P) t ho c.ctr cs hz)
    · cases h
  · rename_i t l k ho; exact makeX_ok h hg ho
  · rename_i cl ho; exact callX_ok H h hg ho
  · rename_i t ho; exact mkMapX_ok h hg ho
  · rename_i t x y ok ho; exact lookX_ok h hg ho
  · rename_i t x y z ho; exact updX_ok h hg ho
  · rename_i t len parts ho
    split at h
    · exact bslX_ok h hg ho
    · exact pureX_ok h hg (fun t x s off e => by rw [ho] at e; cases e)
  · rename_i hnl _ _ _ _ _ _ _ _ _
    exact pureV_ok h hg (fun t x s off e => (hnl t x e).elim)

theorem stepX_ok (H : HandOK P hd) (h : stepX P n ops hd o c = some (c', f)) : StepR P n ops o c c' f := by
  unfold stepX at h
  split at h
  · rename_i hg; exact skipX_ok h (gate_false hg)
  · rename_i hg; exact actX_ok H h (gate_true hg)
  · cases h
end

/- accounts -/
def labsOf (l : List Nat) : List Nat := l.filterMap fun x => if x % 2 = 1 then some (x / 2) else none
theorem mem_labsOf {l : List Nat} {s : Nat} (h : 2 * s + 1 ∈ l) : s ∈ labsOf l := by
  refine List.mem_filterMap.2 ⟨_, h, ?_⟩
  rw [if_pos (by omega), show (2 * s + 1) / 2 = s by omega]
/-- The step's result, with what was moved and written of the blocks that were there at the beginning. -/
def acct (c0 : Nat) (f : Ft) (c c' : CS) : CS := { c' with mv := f.kl.filter (fun s => decide (s < c0)) ++ c.mv, wl := (labsOf f.wr).filter (fun s => decide (s < c0)) ++ c.wl }
theorem acct_st (c0 : Nat) (f : Ft) (c c' : CS) : (acct c0 f c c').st = c'.st := rfl

/-- How two states of a run lie to one another. -/
structure Goes (c0 : Nat) (c c' : CS) : Prop where
  ctr : c.ctr ≤ c'.ctr
  mv : ∀ s ∈ c.mv, s ∈ c'.mv
  wl : ∀ s ∈ c.wl, s ∈ c'.wl
  same : ∀ u, u < c0 → u ∉ c'.wl → c'.st.heap u = c.st.heap u
theorem Goes.refl (c0 : Nat) (c : CS) : Goes c0 c c := ⟨Nat.le_refl _, fun _ h => h, fun _ h => h, fun _ _ _ => rfl⟩
theorem Goes.trans {c0 : Nat} {a b c : CS} (h : Goes c0 a b) (k : Goes c0 b c) : Goes c0 a c :=
  ⟨Nat.le_trans h.ctr k.ctr, fun s hs => k.mv s (h.mv s hs), fun s hs => k.wl s (h.wl s hs), fun u hu hn => (k.same u hu hn).trans (h.same u hu fun h' => hn (k.wl u h'))⟩

theorem StepR.goes {P : Program} {n : Nat} {ops : Array Oper} {o : Oper} {c c' : CS} {f : Ft} (h : StepR P n ops o c c' f) (c0 : Nat) : Goes c0 c (acct c0 f c c') := by
  refine ⟨h.ctr, fun s hs => ?_, fun s hs => ?_, fun u hu hn => ?_⟩
  · simp only [acct, List.mem_append]; exact .inr hs
  · simp only [acct, List.mem_append]; exact .inr hs
  · have hsq := h.sq (fun _ => False) (fun _ h => h.elim) (fun _ _ h => h)
    have := hsq.frame (2 * u + 1) (fun hw => hn (by
      simp only [acct, List.mem_append]
      exact .inl (List.mem_filter.2 ⟨mem_labsOf hw, by simpa using hu⟩)))
    rw [at_heap, at_heap] at this
    injection this

/-- A region in its order. -/
def runX (P : Program) (n c0 : Nat) (ops : Array Oper) (hd : Hand) : List Oper → CS → Option CS
  | [], c => some c
  | o :: l, c => match stepX P n ops hd o c with | some (c', f) => runX P n c0 ops hd l (acct c0 f c c') | none => none

theorem StepR.notStay {P : Program} {n : Nat} {ops : Array Oper} {o : Oper} {c c' cF : CS} {f : Ft} {c0 : Nat} {stay : Nat → Prop} (_h : StepR P n ops o c c' f) (hst : ∀ s, stay s → s < c0 ∧ s ∉ cF.mv) (hg : Goes c0 (acct c0 f c c') cF) : ∀ s ∈ f.kl, ¬ stay s := by
  intro s hs h
  have := hst s h
  exact this.2 (hg.mv s (by simp only [acct, List.mem_append]; exact .inl (List.mem_filter.2 ⟨hs, by simpa using this.1⟩)))

theorem runX_goes {P : Program} {n c0 : Nat} {ops : Array Oper} {hd : Hand} (H : HandOK P hd) : ∀ (l : List Oper) (c c' : CS), runX P n c0 ops hd l c = some c' → Goes c0 c c'
  | [], c, c', h => by simp only [runX] at h; injection h with h; subst h; exact .refl _ _
  | o :: l, c, c', h => by
    simp only [runX] at h
    split at h
    · rename_i c1 f h1
      exact ((stepX_ok H h1).goes c0).trans (runX_goes H l _ c' h)
    · cases h

theorem runX_ok {P : Program} {n c0 : Nat} {ops : Array Oper} {hd : Hand} (H : HandOK P hd) {stay : Nat → Prop} {cF : CS} (hst : ∀ s, stay s → s < c0 ∧ s ∉ cF.mv) {K : St → Prop} : ∀ (l : List Oper) (c c' : CS), runX P n c0 ops hd l c = some c' → c0 ≤ c.ctr → Goes c0 c' cF → K c'.st → WPops P n stay ops l c.st K
  | [], c, c', h, h0, hF, hK => by
    simp only [runX] at h; injection h with h; subst h
    exact WPops.nil hK
  | o :: l, c, c', h, h0, hF, hK => by
    simp only [runX] at h
    split at h
    · rename_i c1 f h1
      have hs := stepX_ok H h1
      have hg := runX_goes H l _ c' h
      refine WPops.one (σ' := c1.st) (SQ.one (f := f) (hs.sq stay (fun s h => by have := (hst s h).1; omega) (hs.notStay hst (hg.trans hF))) hs.kl) ?_
      exact runX_ok H hst l (acct c0 f c c1) c' h (Nat.le_trans h0 (hs.goes c0).ctr) hF hK
    · cases h

/-- A region that draws its order: the states and the footprints. -/
def runS (P : Program) (n c0 : Nat) (ops : Array Oper) (hd : Hand) : List Oper → CS → Option (List CS × List Ft)
  | [], c => some ([c], [])
  | o :: l, c => match stepX P n ops hd o c with
    | some (c', f) => (match runS P n c0 ops hd l (acct c0 f c c') with | some (cs, fs) => some (c :: cs, f :: fs) | none => none)
    | none => none

theorem runS_ok {P : Program} {n c0 : Nat} {ops : Array Oper} {hd : Hand} (H : HandOK P hd) : ∀ (l : List Oper) (c : CS) (cs : List CS) (fs : List Ft), runS P n c0 ops hd l c = some (cs, fs) →
    cs.length = l.length + 1 ∧ fs.length = l.length ∧ cs[0]? = some c ∧ ∀ (j : Nat) (o : Oper) (a b : CS) (f : Ft), l[j]? = some o → cs[j]? = some a → cs[j + 1]? = some b → fs[j]? = some f → ∃ b', StepR P n ops o a b' f ∧ b = acct c0 f a b'
  | [], c, cs, fs, h => by
    simp only [runS] at h; injection h with h; injection h with h1 h2; subst h1; subst h2
    exact ⟨rfl, rfl, rfl, fun j o a b f hj => by simp at hj⟩
  | o :: l, c, cs, fs, h => by
    simp only [runS] at h
    split at h
    · rename_i c1 f1 h1
      split at h
      · rename_i cs' fs' h2
        injection h with h; injection h with e1 e2; subst e1; subst e2
        obtain ⟨i1, i2, i3, i4⟩ := runS_ok H l _ cs' fs' h2
        refine ⟨by simp [i1], by simp [i2], rfl, fun j oj a b f hj ha hb hf => ?_⟩
        cases j with
        | zero =>
          simp at hj ha hb hf
          subst hj; subst ha; subst hf
          rw [← List.head?_eq_getElem?] at i3
          have : cs'[0]? = some b := by simpa using hb
          rw [← List.head?_eq_getElem?, i3] at this
          injection this with this
          exact ⟨c1, stepX_ok H h1, this.symm⟩
        | succ j =>
          simp at hj ha hb hf
          exact i4 j oj a b f hj ha hb hf
      · cases h
    · cases h

end Go.Ab
end

section
namespace Go.Ab
open Go Go.RowKit

theorem runS_goes {P : Program} {n c0 : Nat} {ops : Array Oper} {hd : Hand} (H : HandOK P hd) : ∀ (l : List Oper) (c : CS) (cs : List CS) (fs : List Ft), runS P n c0 ops hd l c = some (cs, fs) →
    ∃ cl, cs.getLast? = some cl ∧ ∀ a ∈ cs, Goes c0 c a ∧ Goes c0 a cl
  | [], c, cs, fs, h => by
    simp only [runS] at h; injection h with h; injection h with h1 h2; subst h1; subst h2
    exact ⟨c, rfl, fun a ha => by simp at ha; subst ha; exact ⟨.refl _ _, .refl _ _⟩⟩
  | o :: l, c, cs, fs, h => by
    simp only [runS] at h
    split at h
    · rename_i c1 f1 h1
      split at h
      · rename_i cs' fs' h2
        injection h with h; injection h with e1 e2; subst e1; subst e2
        obtain ⟨cl, hl, ih⟩ := runS_goes H l _ cs' fs' h2
        have hs := (stepX_ok H h1).goes c0
        obtain ⟨_, _, i3, _⟩ := runS_ok H l _ cs' fs' h2
        have hm : acct c0 f1 c c1 ∈ cs' := List.mem_of_getElem? i3
        refine ⟨cl, ?_, fun a ha => ?_⟩
        · cases cs' with
          | nil => simp at hm
          | cons x xs => simpa using hl
        · rcases List.mem_cons.1 ha with rfl | ha
          · exact ⟨.refl _ _, hs.trans (ih _ hm).2⟩
          · exact ⟨hs.trans (ih a ha).1, (ih a ha).2⟩
      · cases h
    · cases h

def kchk (cs : List CS) (fs : List Ft) : Bool :=
  fs.all fun f => f.kl.all fun s => cs.all fun c => (c.env.list id).all (fun p => f.wr.contains (2 * p.1) || !p.2.nmB s) && c.heap.all (fun p => f.wr.contains (2 * p.1 + 1) || !p.2.any (V.nmB s))

theorem kchk_ok {cs : List CS} {fs : List Ft} (h : kchk cs fs = true) {f : Ft} (hf : f ∈ fs) {s : Nat} (hs : s ∈ f.kl) {c : CS} (hc : c ∈ cs) (l : Nat) (hl : l ∉ f.wr) : ¬ (c.st.at l).names s := by
  unfold kchk at h
  simp only [List.all_eq_true] at h
  have h1 := h f hf s hs c hc
  simp only [Bool.and_eq_true, List.all_eq_true, Bool.or_eq_true, List.contains_iff_mem, Bool.not_eq_true'] at h1
  intro hn
  unfold St.at at hn
  split at hn
  · rename_i e0
    have e1 : l = 2 * (l / 2) := by omega
    simp only [Pl.names, CS.st, envOf] at hn
    cases hv : c.env.get (l / 2) with
    | none => rw [hv] at hn; exact hn.elim
    | some x =>
      rw [hv] at hn
      rcases h1.1 _ (Tr.mem_list c.env id _ x hv) with h2 | h2
      · simp only [id_eq] at h2; rw [← e1] at h2; exact hl h2
      · have : T.nmB s x = true := T.nmB_iff.2 hn
        simp only at h2
        rw [this] at h2; cases h2
  · rename_i e0
    have e1 : l = 2 * (l / 2) + 1 := by omega
    cases hv : c.st.heap (l / 2) with
    | none => rw [hv] at hn; exact hn.elim
    | some x =>
      rw [hv] at hn
      obtain ⟨v, hv', hn⟩ := hn
      rcases h1.2 _ (mkH_in c.heap _ x hv) with h2 | h2
      · simp only at h2; rw [← e1] at h2; exact hl h2
      · have : x.any (V.nmB s) = true := List.any_eq_true.2 ⟨v, hv', V.nmB_iff.2 hn⟩
        simp only at h2
        rw [this] at h2; cases h2

def drawX (P : Program) (n c0 : Nat) (ops : Array Oper) (hd : Hand) (c : CS) : Option CS :=
  match runS P n c0 ops hd ops.toList c with
  | some (cs, fs) => if chk' ops fs && kchk cs fs then cs.getLast? else none
  | none => none

theorem drawX_goes {P : Program} {n c0 : Nat} {ops : Array Oper} {hd : Hand} (H : HandOK P hd) {c c' : CS} (h : drawX P n c0 ops hd c = some c') : Goes c0 c c' := by
  unfold drawX at h
  split at h
  · rename_i cs fs hr
    split at h
    · obtain ⟨cl, hl, hg⟩ := runS_goes H _ _ _ _ hr
      rw [hl] at h; injection h with h; subst h
      exact (hg cl (List.mem_of_getLast? hl)).1
    · cases h
  · cases h

theorem drawX_ok {P : Program} {n c0 : Nat} {ops : Array Oper} {hd : Hand} (hm : P.follows .mixedOrders = true) (H : HandOK P hd) {stay : Nat → Prop} {cF : CS} (hst : ∀ s, stay s → s < c0 ∧ s ∉ cF.mv) {c c' : CS} (h : drawX P n c0 ops hd c = some c')
    (h0 : c0 ≤ c.ctr) (hF : Goes c0 c' cF) {Q : Post} (hQ : Q.nrm c'.st) {id : Nat} : WP P n stay (.region id ops true) c.st Q := by
  unfold drawX at h
  split at h
  · rename_i cs fs hr
    split at h
    · rename_i hc
      simp only [Bool.and_eq_true] at hc
      obtain ⟨cl, hl, hg⟩ := runS_goes H _ _ _ _ hr
      rw [hl] at h; injection h with h; subst h
      obtain ⟨i1, i2, i3, i4⟩ := runS_ok H _ _ _ _ hr
      have hsz : ops.toList.length = ops.size := by simp
      have hgetL : cs[ops.size]? = some cl := by
        rw [List.getLast?_eq_getElem?, i1] at hl
        simpa using hl
      intro C hn hs a w R
      have hin : ∀ m, m ≤ ops.size → ∃ x, cs[m]? = some x ∧ x ∈ cs := fun m hm => ⟨cs[m]'(by omega), List.getElem?_eq_getElem _, List.getElem_mem _⟩
      have X0 : ((cs[0]?).getD c).st = c.st := by rw [i3]; rfl
      have XL : ((cs[ops.size]?).getD c).st = cl.st := by rw [hgetL]; rfl
      refine region_draw' (fp := fs) (X := fun m => ((cs[m]?).getD c).st) hm (by omega) (fun j f hf => ?_) hc.1 (fun j f hf s hs m hm' l hl' => ?_) hn hs (by simpa only [X0] using R) (fun a' w' R' => ⟨cl.st, by simpa only [XL] using R', hQ⟩)
      · have hj : j < ops.size := by have := (List.getElem?_eq_some_iff.1 hf).1; omega
        obtain ⟨x, hx, hxm⟩ := hin j (by omega)
        obtain ⟨y, hy, hym⟩ := hin (j + 1) (by omega)
        have ho : ops.toList[j]? = some ops[j] := by simp
        obtain ⟨b', hb, e⟩ := i4 j _ x y f ho hx hy hf
        simp only [hx, hy, Option.getD_some]
        have gy := (hg y hym).2.trans hF
        rw [e] at gy ⊢
        rw [acct_st]
        exact SQ.lq (hb.sq stay (fun s h => by have := (hst s h).1; have := (hg x hxm).1.ctr; omega) (hb.notStay hst gy)) (by simp)
      · obtain ⟨x, hx, hxm⟩ := hin m hm'
        simp only [hx, Option.getD_some]
        exact kchk_ok hc.2 (List.mem_of_getElem? hf) hs hxm l hl'
    · cases h
  · cases h

/- freezing -/
def frzX (c0 s : Nat) (c : CS) : Option CS :=
  if c0 ≤ s then
    match mkH c.heap s with
    | some cs => (match toDs cs with | some ds => some { c with env := c.env.map (T.frz s ds), heap := mapH (List.map (V.frz s ds)) (delH c.heap s), wl := (blksOf c s).filter (fun u => decide (u < c0)) ++ c.wl } | none => none)
    | none => none
  else none

theorem Weak.content {n : Nat} {stay : Nat → Prop} {σ : St} {s : Nat} {cs cs' : List V} (hs : σ.heap s = some cs) (hle : CsLe cs cs') : Weak n stay σ ⟨σ.env, updH σ.heap s (some cs')⟩ := by
  intro C hn hst a w ⟨γ, R⟩
  refine ⟨γ, ⟨R.mem.low, R.mem.inj, R.mem.nm, fun u hu => ?_, fun u c hu => ?_⟩, R.env, R.keep, R.own, R.stay, R.defers, R.size⟩
  · simp only [updH] at hu
    split at hu
    · cases hu
    · exact R.mem.dom u hu
  · simp only [updH] at hu
    split at hu
    · rename_i e; subst e
      injection hu with hu; subst hu
      rcases R.mem.blk u cs hs with ⟨b, t, vs, sp, e1, e2, e3⟩ | ⟨e1, e2⟩ | ⟨b, en, clk, e1, e2, e3⟩
      rotate_left 2
      · exact .inr (.inr ⟨b, en, clk, e1, e2, hle.2 _ e3⟩)
      · exact .inl ⟨b, t, vs, sp, e1, e2, hle.1 _ _ _ _ e3⟩
      · refine .inr (.inl ⟨e1, ?_⟩)
        subst e2
        have := (hle.1 w C.M γ [] CsRel.nil).1
        exact List.eq_nil_of_length_eq_zero (by simpa using this)
    · exact R.mem.blk u c hu

theorem frzX_weak {c0 s : Nat} {c c' : CS} (h : frzX c0 s c = some c') {n : Nat} {stay : Nat → Prop} (hst : ∀ s, stay s → s < c0) : Weak n stay c.st c'.st := by
  unfold frzX at h
  split at h
  · rename_i hc
    split at h
    · rename_i cs hs
      split at h
      · rename_i ds hds
        injection h with h; subst h
        have h1 : Weak n stay c.st ⟨c.st.env, updH c.st.heap s (some (ds.map .d))⟩ := Weak.content hs ⟨fun w M γ vs hr => toDs_rel _ _ _ hds hr, fun es e => by subst e; simp [toDs, toD] at hds⟩
        have h2 := Weak.freeze (n := n) (stay := stay) (σ := ⟨c.st.env, updH c.st.heap s (some (ds.map .d))⟩) s ds (by simp [updH]) (fun h => by have := hst s h; omega)
        refine h1.trans ?_
        refine cast (congrArg (fun z => Weak n stay _ z) ?_) h2
        simp only [St.frz, CS.st, St.mk.injEq]
        constructor
        · funext i
          unfold envOf
          rw [Tr.get_map]
          cases c.env.get i with
          | none => rfl
          | some x => rfl
        · funext u
          rw [mkH_mapH, mkH_delH]
          simp only [updH]
          by_cases hu : u = s <;> simp [hu]
      · cases h
    · cases h
  · cases h

theorem V.frz_id {s : Nat} {ds : List D} {x : V} (h : ¬ x.names s) : x.frz s ds = x := by
  cases x with
  | ptr t o => simp only [V.frz]; rw [if_neg (show ¬ t = s from h)]
  | sub t k o l => simp only [V.frz]; rw [if_neg (show ¬ t = s from h)]
  | clo f caps =>
    simp only [V.frz]
    rw [if_neg]
    intro h'
    rw [List.any_eq_true] at h'
    obtain ⟨p, hp, e⟩ := h'
    exact h ⟨p, hp, by simpa using e⟩
  | mp t => simp only [V.frz]; rw [if_neg (show ¬ t = s from h)]
  | mapc es => rfl
  | d x => rfl
  | pim ds => rfl
  | any => rfl

theorem frzX_goes {c0 s : Nat} {c c' : CS} (h : frzX c0 s c = some c') : Goes c0 c c' := by
  unfold frzX at h
  split at h
  · rename_i hc
    split at h
    · split at h
      · rename_i ds hds
        injection h with h; subst h
        refine ⟨Nat.le_refl _, fun _ h => h, fun s hs => List.mem_append.2 (.inr hs), fun u hu hn => ?_⟩
        simp only [List.mem_append, not_or] at hn
        show mkH (mapH _ (delH c.heap s)) u = mkH c.heap u
        rw [mkH_mapH, mkH_delH]
        simp only [updH]
        rw [if_neg (by omega)]
        cases hv : mkH c.heap u with
        | none => rfl
        | some cs =>
          simp only [Option.map_some, Option.some.injEq]
          have hk : ∀ v ∈ cs, V.frz s ds v = v := fun v hv' => V.frz_id fun hn' => hn.1 (List.mem_filter.2 ⟨blksOf_ok (c := c) hv ⟨v, hv', hn'⟩, by simpa using hu⟩)
          exact (List.map_congr_left hk).trans (List.map_id' cs)
      · cases h
    · cases h
  · cases h

/-- Freezes the blocks of a list, and all that they name. -/
def frzL (c0 : Nat) : Nat → List Nat → CS → Option CS
  | 0, _, _ => none
  | _ + 1, [], c => some c
  | k + 1, s :: l, c =>
    match mkH c.heap s with
    | none => frzL c0 k l c
    | some cs => (match (cs.flatMap V.labs) with | [] => (match frzX c0 s c with | some c1 => frzL c0 k l c1 | none => none) | t :: ts => frzL c0 k ((t :: ts) ++ s :: l) c)

theorem frzL_ok {c0 : Nat} : ∀ (k : Nat) (l : List Nat) (c c' : CS), frzL c0 k l c = some c' → Goes c0 c c' ∧ ∀ (n : Nat) (stay : Nat → Prop), (∀ s, stay s → s < c0) → Weak n stay c.st c'.st
  | 0, _, _, _, h => by cases h
  | _ + 1, [], c, c', h => by simp only [frzL] at h; injection h with h; subst h; exact ⟨.refl _ _, fun _ _ _ _ _ _ _ _ R => R⟩
  | k + 1, s :: l, c, c', h => by
    simp only [frzL] at h
    split at h
    · exact frzL_ok k l c c' h
    · split at h
      · split at h
        · rename_i c1 h1
          obtain ⟨g, w⟩ := frzL_ok k l c1 c' h
          exact ⟨(frzX_goes h1).trans g, fun n stay hst => (frzX_weak h1 hst).trans (w n stay hst)⟩
        · cases h
      · exact frzL_ok k _ c c' h

end Go.Ab
end

section
namespace Go.Ab
open Go Go.RowKit

def opLabs (o : Oper) (c : CS) : List Nat := o.op.operands.toList.flatMap fun x => (c.st.ev x).labs

section
variable (P : Program) (n c0 : Nat) (ops : Array Oper) (hd : Hand)

def stepY (o : Oper) (c : CS) : Option CS :=
  match stepX P n ops hd o c with
  | some (c', f) => some (acct c0 f c c')
  | none =>
    match frzL c0 10000 (opLabs o c) c with
    | some c1 => (match stepX P n ops hd o c1 with | some (c', f) => some (acct c0 f c1 c') | none => none)
    | none => none

def runY : List Oper → CS → Option CS
  | [], c => some c
  | o :: l, c => match stepY P n c0 ops hd o c with | some c' => runY l c' | none => none

def V.ptrs : V → List Nat
  | .ptr s _ => [s]
  | .clo _ caps => caps.map (·.1)
  | .mp s => [s]
  | _ => []
def E.ptrs : E → List Nat
  | .c v => v.ptrs
  | .agg vs => vs.flatMap V.ptrs
def T.ptrs : T → List Nat
  | .e x => x.ptrs
  | .tup xs => xs.flatMap E.ptrs
  | .any => []
def frzB : List Nat → CS → CS
  | [], c => c
  | s :: l, c => match frzL c0 1000 [s] c with | some c1 => frzB l c1 | none => frzB l c
def frzS (c : CS) : CS :=
  let ps := (c.env.list id).flatMap (fun p => p.2.ptrs) ++ c.heap.flatMap (fun p => p.2.flatMap V.ptrs)
  frzB c0 ((c.heap.map (·.1)).filter fun s => decide (c0 ≤ s) && !ps.contains s) c

def regX (draw : Bool) (c : CS) : Option CS :=
  match draw with
  | false => runY P n c0 ops hd ops.toList c
  | true => (match drawX P n c0 ops hd c with | some c' => some c' | none => drawX P n c0 ops hd (frzS c0 c))
end

section
variable {P : Program} {n c0 : Nat} {ops : Array Oper} {hd : Hand}

theorem stepY_goes (H : HandOK P hd) {o : Oper} {c c' : CS} (h : stepY P n c0 ops hd o c = some c') : Goes c0 c c' := by
  unfold stepY at h
  split at h
  · rename_i c1 f h1
    injection h with h; subst h
    exact (stepX_ok H h1).goes c0
  · split at h
    · rename_i c1 h1
      split at h
      · rename_i c2 f h2
        injection h with h; subst h
        exact (frzL_ok _ _ _ _ h1).1.trans ((stepX_ok H h2).goes c0)
      · cases h
    · cases h

theorem stepY_ok (H : HandOK P hd) {stay : Nat → Prop} {cF : CS} (hst : ∀ s, stay s → s < c0 ∧ s ∉ cF.mv) {o : Oper} {c c' : CS} (h : stepY P n c0 ops hd o c = some c') (h0 : c0 ≤ c.ctr) (hF : Goes c0 c' cF) {K : St → Prop} {l : List Oper}
    (hK : WPops P n stay ops l c'.st K) : WPops P n stay ops (o :: l) c.st K := by
  have one : ∀ (c c1 : CS) (f : Ft), StepR P n ops o c c1 f → c0 ≤ c.ctr → Goes c0 (acct c0 f c c1) cF → WPops P n stay ops l (acct c0 f c c1).st K → WPops P n stay ops (o :: l) c.st K := by
    intro c c1 f hs h0 hF hK
    exact WPops.one (σ' := c1.st) (SQ.one (f := f) (hs.sq stay (fun s h => by have := (hst s h).1; omega) (hs.notStay hst hF)) hs.kl) hK
  unfold stepY at h
  split at h
  · rename_i c1 f h1
    injection h with h; subst h
    exact one c c1 f (stepX_ok H h1) h0 hF hK
  · split at h
    · rename_i c1 h1
      split at h
      · rename_i c2 f h2
        injection h with h; subst h
        obtain ⟨g, w⟩ := frzL_ok _ _ _ _ h1
        exact WPops.weak (w n stay fun s h => (hst s h).1) (one c1 c2 f (stepX_ok H h2) (Nat.le_trans h0 g.ctr) hF hK)
      · cases h
    · cases h

theorem runY_goes (H : HandOK P hd) : ∀ (l : List Oper) (c c' : CS), runY P n c0 ops hd l c = some c' → Goes c0 c c'
  | [], c, c', h => by simp only [runY] at h; injection h with h; subst h; exact .refl _ _
  | o :: l, c, c', h => by
    simp only [runY] at h
    split at h
    · rename_i c1 h1
      exact (stepY_goes H h1).trans (runY_goes H l _ c' h)
    · cases h

theorem runY_ok (H : HandOK P hd) {stay : Nat → Prop} {cF : CS} (hst : ∀ s, stay s → s < c0 ∧ s ∉ cF.mv) {K : St → Prop} : ∀ (l : List Oper) (c c' : CS), runY P n c0 ops hd l c = some c' → c0 ≤ c.ctr → Goes c0 c' cF → K c'.st → WPops P n stay ops l c.st K
  | [], c, c', h, h0, hF, hK => by
    simp only [runY] at h; injection h with h; subst h
    exact WPops.nil hK
  | o :: l, c, c', h, h0, hF, hK => by
    simp only [runY] at h
    split at h
    · rename_i c1 h1
      have g1 := stepY_goes H h1
      have g2 := runY_goes H l _ c' h
      exact stepY_ok H hst h1 h0 (g2.trans hF) (runY_ok H hst l c1 c' h (Nat.le_trans h0 g1.ctr) hF hK)
    · cases h

theorem frzB_ok : ∀ (l : List Nat) (c : CS), Goes c0 c (frzB c0 l c) ∧ ∀ (n : Nat) (stay : Nat → Prop), (∀ s, stay s → s < c0) → Weak n stay c.st (frzB c0 l c).st
  | [], c => ⟨.refl _ _, fun _ _ _ _ _ _ _ _ R => R⟩
  | s :: l, c => by
    simp only [frzB]
    split
    · rename_i c1 h1
      obtain ⟨g, w⟩ := frzL_ok _ _ _ _ h1
      obtain ⟨g2, w2⟩ := frzB_ok l c1
      exact ⟨g.trans g2, fun n stay hst => (w n stay hst).trans (w2 n stay hst)⟩
    · exact frzB_ok l c

theorem regX_goes (H : HandOK P hd) {draw : Bool} {c c' : CS} (h : regX P n c0 ops hd draw c = some c') : Goes c0 c c' := by
  unfold regX at h
  split at h
  · exact runY_goes H _ _ _ h
  · split at h
    · rename_i c1 h1
      injection h with h; subst h
      exact drawX_goes H h1
    · exact (frzB_ok _ c).1.trans (drawX_goes H h)

theorem regX_ok (hm : P.follows .mixedOrders = true) (H : HandOK P hd) {stay : Nat → Prop} {cF : CS} (hst : ∀ s, stay s → s < c0 ∧ s ∉ cF.mv) {draw : Bool} {c c' : CS} (h : regX P n c0 ops hd draw c = some c') (h0 : c0 ≤ c.ctr) (hF : Goes c0 c' cF)
    {Q : Post} (hQ : Q.nrm c'.st) {rid : Nat} : WP P n stay (.region rid ops draw) c.st Q := by
  unfold regX at h
  split at h
  · have := runY_ok (K := Q.nrm) H hst _ _ _ h h0 hF hQ
    have e : ops = ops.toList.toArray := by simp
    rw [e]
    refine WP.region ?_
    rw [← e]
    exact this
  · split at h
    · rename_i c1 h1
      injection h with h; subst h
      exact drawX_ok hm H hst h1 h0 hF hQ
    · have hb := frzB_ok (c0 := c0) ((c.heap.map (·.1)).filter fun s => decide (c0 ≤ s) && !(((c.env.list id).flatMap (fun p => p.2.ptrs) ++ c.heap.flatMap (fun p => p.2.flatMap V.ptrs)).contains s)) c
      exact WP.weak (hb.2 n stay fun s h => (hst s h).1) (drawX_ok hm H hst h (Nat.le_trans h0 hb.1.ctr) hF hQ)
end

/- code -/
inductive Out where
  | nrm
  | ext (i : Nat)
  | ret

def Post.out (Q : Post) : Out → St → Prop
  | .nrm => Q.nrm
  | .ext i => Q.ext i
  | .ret => Q.ret

def loopX (body : CS → Option (Out × CS)) : Nat → CS → Option (Out × CS)
  | 0, _ => none
  | k + 1, c => match body c with | some (.nrm, c1) => loopX body k c1 | r => r

def execC (P : Program) (n c0 : Nat) (hd : Hand) (lf : Nat) : Code → CS → Option (Out × CS)
  | .skip, c => some (.nrm, c)
  | .ret, c => some (.ret, c)
  | .exit i, c => some (.ext i, c)
  | .seq a b, c => (match execC P n c0 hd lf a c with | some (.nrm, c1) => execC P n c0 hd lf b c1 | r => r)
  | .cond x a b, c => (match scOf (c.st.ev x) with | some (.bool true) => execC P n c0 hd lf a c | some (.bool false) => execC P n c0 hd lf b c | _ => none)
  | .block i a, c => (match execC P n c0 hd lf a c with | some (.ext j, c1) => if j = i then some (.nrm, c1) else some (.ext j, c1) | r => r)
  | .loop a, c => loopX (execC P n c0 hd lf a) lf c
  | .region _ ops draw, c => (match regX P n c0 ops hd draw c with | some c1 => some (.nrm, c1) | none => none)
  | .scope a, c => execC P n c0 hd lf a c
  | .label _, c => some (.nrm, c)
  | _, _ => none

/-- What a run of a piece of code shows. -/
def ExecR (P : Program) (n c0 : Nat) (code : Code) (c : CS) (out : Out) (c' : CS) : Prop :=
  Goes c0 c c' ∧ ∀ (stay : Nat → Prop) (cF : CS), (∀ s, stay s → s < c0 ∧ s ∉ cF.mv) → c0 ≤ c.ctr → Goes c0 c' cF → ∀ Q : Post, Q.out out c'.st → WP P n stay code c.st Q

theorem loopX_ok {P : Program} {n c0 : Nat} {a : Code} {body : CS → Option (Out × CS)} (hb : ∀ c out c', body c = some (out, c') → ExecR P n c0 a c out c') : ∀ (k : Nat) (c : CS) (out : Out) (c' : CS), loopX body k c = some (out, c') →
    Goes c0 c c' ∧ ∀ (stay : Nat → Prop) (cF : CS), (∀ s, stay s → s < c0 ∧ s ∉ cF.mv) → c0 ≤ c.ctr → Goes c0 c' cF → ∀ Q : Post, Q.out out c'.st → (∃ i, out = .ext i) ∨ out = .ret → WP P n stay (.loop a) c.st Q := by
  intro k c out c' h
  have goes : ∀ (k : Nat) (c : CS), loopX body k c = some (out, c') → Goes c0 c c' ∧ out ≠ .nrm := by
    intro k
    induction k with
    | zero => intro c h; cases h
    | succ k ih =>
      intro c h
      simp only [loopX] at h
      split at h
      · rename_i c1 h1
        exact ⟨(hb c _ c1 h1).1.trans (ih c1 h).1, (ih c1 h).2⟩
      · rename_i hne
        exact ⟨(hb c out c' h).1, fun e => by subst e; exact hne c' h⟩
  refine ⟨(goes k c h).1, fun stay cF hst h0 hF Q hQ _ => ?_⟩
  refine WP.loop (X := Nat × CS) (fun x => x.2.st) (fun x => loopX body x.1 x.2 = some (out, c') ∧ c0 ≤ x.2.ctr) (fun x => x.1) (k, c) (fun _ _ _ _ _ R => R) ⟨h, h0⟩ ?_
  rintro ⟨k, c⟩ ⟨hk, hc0⟩
  cases k with
  | zero => cases hk
  | succ k =>
    simp only [loopX] at hk
    split at hk
    · rename_i c1 h1
      have g := goes k c1 hk
      refine (hb c _ c1 h1).2 stay cF hst hc0 (g.1.trans hF) _ ?_
      exact ⟨(k, c1), fun _ _ _ _ _ R => R, ⟨hk, Nat.le_trans hc0 (hb c _ c1 h1).1.ctr⟩, Nat.lt_succ_self k⟩
    · rename_i hne
      refine (hb c out c' hk).2 stay cF hst hc0 hF _ ?_
      cases out with
      | nrm => exact absurd hk (hne c')
      | ext i => exact hQ
      | ret => exact hQ

theorem loopX_nrm {body : CS → Option (Out × CS)} : ∀ (k : Nat) (c c' : CS), loopX body k c ≠ some (.nrm, c')
  | 0, _, _ => by simp [loopX]
  | k + 1, c, c' => by
    simp only [loopX]
    split
    · rename_i c1 h1; exact loopX_nrm k c1 c'
    · rename_i hne; exact fun h => hne c' h

theorem execC_ok {P : Program} {n c0 : Nat} {hd : Hand} {lf : Nat} (hm : P.follows .mixedOrders = true) (H : HandOK P hd) : ∀ (code : Code) (c : CS) (out : Out) (c' : CS), execC P n c0 hd lf code c = some (out, c') → ExecR P n c0 code c out c'
  | .skip, c, out, c', h => by
    simp only [execC] at h; injection h with h; injection h with h1 h2; subst h1; subst h2
    exact ⟨.refl _ _, fun stay cF hst h0 hF Q hQ => WP.skip hQ⟩
  | .ret, c, out, c', h => by
    simp only [execC] at h; injection h with h; injection h with h1 h2; subst h1; subst h2
    exact ⟨.refl _ _, fun stay cF hst h0 hF Q hQ => WP.ret hQ⟩
  | .exit i, c, out, c', h => by
    simp only [execC] at h; injection h with h; injection h with h1 h2; subst h1; subst h2
    exact ⟨.refl _ _, fun stay cF hst h0 hF Q hQ => WP.exit hQ⟩
  | .seq a b, c, out, c', h => by
    simp only [execC] at h
    split at h
    · rename_i c1 h1
      have ha := execC_ok hm H a c _ c1 h1
      have hb := execC_ok hm H b c1 _ c' h
      refine ⟨ha.1.trans hb.1, fun stay cF hst h0 hF Q hQ => WP.seq (ha.2 stay cF hst h0 (hb.1.trans hF) _ ?_)⟩
      exact hb.2 stay cF hst (Nat.le_trans h0 ha.1.ctr) hF Q hQ
    · rename_i hne
      have ha := execC_ok hm H a c _ c' h
      refine ⟨ha.1, fun stay cF hst h0 hF Q hQ => WP.seq (ha.2 stay cF hst h0 hF _ ?_)⟩
      cases out with
      | nrm => exact absurd h (hne c')
      | ext i => exact hQ
      | ret => exact hQ
  | .cond x a b, c, out, c', h => by
    simp only [execC] at h
    split at h
    · rename_i hx
      have ha := execC_ok hm H a c _ c' h
      exact ⟨ha.1, fun stay cF hst h0 hF Q hQ => WP.cond true (scOf_some hx) (fun _ => ha.2 stay cF hst h0 hF Q hQ) (fun e => by cases e)⟩
    · rename_i hx
      have ha := execC_ok hm H b c _ c' h
      exact ⟨ha.1, fun stay cF hst h0 hF Q hQ => WP.cond false (scOf_some hx) (fun e => by cases e) (fun _ => ha.2 stay cF hst h0 hF Q hQ)⟩
    · cases h
  | .block i a, c, out, c', h => by
    simp only [execC] at h
    split at h
    · rename_i j c1 h1
      have ha := execC_ok hm H a c _ c1 h1
      split at h
      · rename_i e
        injection h with h; injection h with e1 e2; subst e1; subst e2
        refine ⟨ha.1, fun stay cF hst h0 hF Q hQ => WP.block (ha.2 stay cF hst h0 hF _ ?_)⟩
        exact ext_pos e hQ
      · rename_i e
        injection h with h; injection h with e1 e2; subst e1; subst e2
        refine ⟨ha.1, fun stay cF hst h0 hF Q hQ => WP.block (ha.2 stay cF hst h0 hF _ ?_)⟩
        exact ext_neg e hQ
    · rename_i hne
      have ha := execC_ok hm H a c _ c' h
      refine ⟨ha.1, fun stay cF hst h0 hF Q hQ => WP.block (ha.2 stay cF hst h0 hF _ ?_)⟩
      cases out with
      | nrm => exact hQ
      | ext j => exact absurd h (hne j c')
      | ret => exact hQ
  | .loop a, c, out, c', h => by
    simp only [execC] at h
    have := loopX_ok (P := P) (n := n) (c0 := c0) (a := a) (fun c out c' h => execC_ok hm H a c out c' h) lf c out c' h
    refine ⟨this.1, fun stay cF hst h0 hF Q hQ => this.2 stay cF hst h0 hF Q hQ ?_⟩
    cases out with
    | nrm => exact absurd h (loopX_nrm lf c c')
    | ext i => exact .inl ⟨i, rfl⟩
    | ret => exact .inr rfl
  | .region _ ops draw, c, out, c', h => by
    simp only [execC] at h
    split at h
    · rename_i c1 h1
      injection h with h; injection h with e1 e2; subst e1; subst e2
      exact ⟨regX_goes H h1, fun stay cF hst h0 hF Q hQ => regX_ok hm H hst h1 h0 hF hQ⟩
    · cases h
  | .rangeFunc _ _ _ _, _, _, _, h => by cases h
  | .scope a, c, out, c', h => by
    simp only [execC] at h
    have ha := execC_ok hm H a c _ c' h
    exact ⟨ha.1, fun stay cF hst h0 hF Q hQ => WP.scope (ha.2 stay cF hst h0 hF Q hQ)⟩
  | .label _, c, out, c', h => by
    simp only [execC] at h; injection h with h; injection h with h1 h2; subst h1; subst h2
    exact ⟨.refl _ _, fun stay cF hst h0 hF Q hQ => WP.label hQ⟩
  | .goto _, _, _, _, h => by cases h
  | .refuse _, _, _, _, h => by cases h

end Go.Ab
end

section
namespace Go.Ab
open Go Go.RowKit

structure Fn where
  code : Code
  nt : Nat
  res : List ResultVar

def TabOK (P : Program) (tb : FuncId → Option Fn) : Prop :=
  ∀ f i, tb f = some i → ∃ fn, P.funcs[f]? = some fn ∧ fn.body = some i.code ∧ (fn.name == "runtime.NumGoroutine") = false ∧ fn.ntmps = i.nt ∧ fn.results.toList = i.res

def argTr : Nat → List E → Tr T → Tr T
  | _, [], t => t
  | k, x :: l, t => argTr (k + 1) l (t.set fuelT k (.e x))
theorem argTr_get : ∀ (l : List E) (k : Nat) (t : Tr T), k + l.length < 1000000 → ∀ i, envOf (argTr k l t) i = if k ≤ i ∧ i < k + l.length then (match l[i - k]? with | some x => .e x | none => .any) else envOf t i
  | [], k, t, _, i => by
    simp only [argTr, List.length_nil, Nat.add_zero]
    rw [if_neg (by omega)]
  | x :: l, k, t, h, i => by
    simp only [List.length_cons] at h
    simp only [argTr]
    rw [argTr_get l (k + 1) _ (by omega) i, envOf_set (by omega)]
    simp only [upd, List.length_cons]
    by_cases h1 : i = k
    · subst h1
      rw [if_neg (by omega), if_pos rfl, if_pos (by omega)]
      simp
    · by_cases h2 : k + 1 ≤ i ∧ i < k + 1 + l.length
      · rw [if_pos h2, if_pos (by omega)]
        rw [show i - k = (i - (k + 1)) + 1 by omega, List.getElem?_cons_succ]
      · rw [if_neg h2, if_neg h1, if_neg (by omega)]

def initC (args : List E) (ct : Nat) (H : List (Nat × List V)) : CS := ⟨argTr 0 args .lf, H, ct, [], []⟩
theorem initC_st {args : List E} {ct : Nat} {H : List (Nat × List V)} (h : args.length < 1000000) : (initC args ct H).st = ⟨argEnv args, mkH H⟩ := by
  simp only [initC, CS.st, St.mk.injEq, and_true]
  funext i
  rw [argTr_get args 0 .lf (by omega) i, argEnv_get]
  simp only [Nat.zero_add, Nat.zero_le, true_and, Nat.sub_zero]
  split
  · rfl
  · rename_i hi
    rw [List.getElem?_eq_none (by omega)]
    rfl

theorem WP.post {P : Program} {n : Nat} {stay : Nat → Prop} {c : Code} {σ : St} {Q Q' : Post} (h : WP P n stay c σ Q) (h1 : ∀ σ, Q.nrm σ → ∃ τ, Weak n stay σ τ ∧ Q'.nrm τ) (h2 : ∀ i σ, Q.ext i σ → ∃ τ, Weak n stay σ τ ∧ Q'.ext i τ) (h3 : ∀ σ, Q.ret σ → ∃ τ, Weak n stay σ τ ∧ Q'.ret τ) : WP P n stay c σ Q' := by
  intro C hn hs a w R
  refine wp_mono (h C hn hs a w R) fun e a' w' ⟨σ', R', hq⟩ => ?_
  cases e with
  | normal => obtain ⟨τ, hw, hq⟩ := h1 σ' hq; exact ⟨τ, hw C hn hs a' w' R', hq⟩
  | exit i => obtain ⟨τ, hw, hq⟩ := h2 i σ' hq; exact ⟨τ, hw C hn hs a' w' R', hq⟩
  | ret => obtain ⟨τ, hw, hq⟩ := h3 σ' hq; exact ⟨τ, hw C hn hs a' w' R', hq⟩
  | goto l => exact hq.elim
  | panic ch => exact hq.elim
  | outgrown => exact hq.elim

def Out.ends : Out → Bool
  | .ext _ => false
  | _ => true

def finF (P : Program) (res : List ResultVar) (c : CS) : Option T :=
  match resV P res c.st with
  | some r0 =>
    (match r0.labs with
     | [] => some r0.norm
     | l => (match frzL 0 10000 l c with | some c1 => (match resV P res c1.st with | some r1 => (match r1.labs with | [] => some r1.norm | _ => none) | none => none) | none => none))
  | none => none

def execF (P : Program) (tb : FuncId → Option Fn) (hd : Hand) (lf : Nat) (f : FuncId) (args : List E) : Option T :=
  match tb f with
  | some i =>
    if args.length ≤ i.nt ∧ args.length < 1000000 then
      (match execC P i.nt 0 hd lf i.code (initC args 0 []) with
       | some (out, c) => if out.ends then finF P i.res c else none
       | none => none)
    else none
  | none => none

theorem norm_names {x : T} {s : Nat} (h : x.labs = []) : ¬ x.norm.names s := by
  have hV : ∀ v : V, v.norm.names s → v.names s := by
    intro v h
    cases v <;> first | exact h | (simp only [V.norm, V.names] at h)
  have hE : ∀ v : E, v.norm.names s → v.names s := by
    intro v h
    cases v with
    | c v => exact hV v h
    | agg vs =>
      obtain ⟨v, hv, hn⟩ := h
      rw [List.mem_map] at hv
      obtain ⟨v0, hv0, rfl⟩ := hv
      exact ⟨v0, hv0, hV v0 hn⟩
  intro hn
  have : x.names s := by
    cases x with
    | e v => exact hE v hn
    | tup vs =>
      obtain ⟨v, hv, hn⟩ := hn
      rw [List.mem_map] at hv
      obtain ⟨v0, hv0, rfl⟩ := hv
      exact ⟨v0, hv0, hE v0 hn⟩
    | any => exact hn
  have := T.labs_ok this
  rw [h] at this
  simp at this

theorem finF_ok {P : Program} {res : List ResultVar} {c : CS} {r : T} (h : finF P res c = some r) : (∀ s, ¬ r.names s) ∧ ∃ τ, (∀ n, Weak n (fun _ => False) c.st τ) ∧ Fin P res r τ := by
  unfold finF at h
  split at h
  · rename_i r0 h0
    split at h
    · rename_i hl
      injection h with h; subst h
      exact ⟨fun s => norm_names hl, c.st, fun n _ _ _ _ _ R => R, r0, h0, rfl⟩
    · split at h
      · rename_i c1 h1
        split at h
        · rename_i r1 h2
          split at h
          · rename_i hl
            injection h with h; subst h
            exact ⟨fun s => norm_names hl, c1.st, fun n => (frzL_ok _ _ _ _ h1).2 n _ (fun s h => h.elim), r1, h2, rfl⟩
          · cases h
        · cases h
      · cases h
  · cases h

theorem execF_ok {P : Program} {tb : FuncId → Option Fn} {hd : Hand} {lf : Nat} (hm : P.follows .mixedOrders = true) (ht : TabOK P tb) (H : HandOK P hd) {f : FuncId} {args : List E} {r : T} (h : execF P tb hd lf f args = some r) : Pur P f args r := by
  unfold execF at h
  split at h
  · rename_i i hi
    obtain ⟨fn, e1, e2, e3, e4, e5⟩ := ht f i hi
    split at h
    · rename_i hl
      split at h
      · rename_i out c hx
        split at h
        · rename_i hout
          obtain ⟨hn, τ, hw, hf⟩ := finF_ok h
          refine Pur.intro e1 e2 e3 (by rw [e4]; exact hl.1) hn ?_
          rw [e4, e5]
          have hE := execC_ok hm H _ _ _ _ hx
          have := hE.2 (fun _ => False) c (fun s h => h.elim) (Nat.zero_le _) (.refl _ _) ⟨fun σ => σ = c.st, fun _ _ => False, fun σ => σ = c.st⟩ (by
            cases out with
            | nrm => rfl
            | ret => rfl
            | ext j => cases hout)
          rw [initC_st hl.2] at this
          have e6 : mkH [] = noHeap := rfl
          rw [e6] at this
          exact this.post (fun σ e => by subst e; exact ⟨τ, hw _, hf⟩) (fun _ _ h => h.elim) (fun σ e => by subst e; exact ⟨τ, hw _, hf⟩)
        · cases h
      · cases h
    · cases h
  · cases h

end Go.Ab
end

section
namespace Go.Ab
open Go Go.RowKit

def hasH (H : List (Nat × List V)) (s : Nat) : Bool := (mkH H s).isSome

def execO (P : Program) (tb : FuncId → Option Fn) (hd : Hand) (lf : Nat) (f : FuncId) (H : List (Nat × List V)) (ct : Nat) (args : List E) : Option OwnRes :=
  match tb f with
  | some i =>
    if args.length ≤ i.nt ∧ args.length < 1000000 then
      (match execC P i.nt ct hd lf i.code (initC args ct H) with
       | some (out, c) =>
         (match resV P i.res c.st with
          | some r =>
            let K := reachL c.heap 100000 (r.labs ++ H.map (·.1)) []
            let H' := c.heap.filter fun p => K.contains p.1
            if out.ends && r.labs.all (hasH H') && H'.all (fun p => p.2.all fun v => v.labs.all (hasH H')) && H'.all (fun p => decide (ct ≤ p.1) || hasH H p.1) && H.all (fun p => c.mv.contains p.1 || hasH H' p.1) && H.all (fun p => K.contains p.1) then
              some (r, H', c.ctr, c.mv, c.wl)
            else none
          | none => none)
       | none => none)
    else none
  | none => none

theorem hasH_ok {H : List (Nat × List V)} {s : Nat} (h : hasH H s = true) : mkH H s ≠ none := by
  unfold hasH at h
  intro e
  rw [e] at h
  cases h

theorem execO_ok {P : Program} {tb : FuncId → Option Fn} {hd : Hand} {lf : Nat} (hm : P.follows .mixedOrders = true) (ht : TabOK P tb) (Hh : HandOK P hd) {f : FuncId} {H : List (Nat × List V)} {ct : Nat} {args : List E} {r : T} {H' : List (Nat × List V)} {ct' : Nat} {mv wl : List Nat}
    (h : execO P tb hd lf f H ct args = some (r, H', ct', mv, wl)) : Sat P f (mkH H) args (mkH H') (fun u => u < ct ∧ u ∉ mv) r ∧ ∀ u, u < ct → u ∉ wl → mkH H' u = mkH H u := by
  unfold execO at h
  split at h
  · rename_i i hi
    obtain ⟨fn, e1, e2, e3, e4, e5⟩ := ht f i hi
    split at h
    · rename_i hl
      split at h
      · rename_i out c hx
        split at h
        · rename_i r0 hr
          simp only at h
          generalize hK : reachL c.heap 100000 (r0.labs ++ H.map (·.1)) [] = K at h
          split at h
          · rename_i hc
            simp only [Bool.and_eq_true, List.all_eq_true, Bool.or_eq_true, decide_eq_true_eq, List.contains_iff_mem] at hc
            obtain ⟨⟨⟨⟨⟨c1, c2⟩, c3⟩, c4⟩, c5⟩, c6⟩ := hc
            injection h with h; injection h with h1 h; injection h with h2 h; injection h with h3 h; injection h with h4 h5
            subst h1; subst h2; subst h3; subst h4; subst h5
            have hE := execC_ok hm Hh _ _ _ _ hx
            have hfil : ∀ u, mkH (c.heap.filter fun p => K.contains p.1) u = if u ∈ K then mkH c.heap u else none := by
              intro u
              rw [mkH_filter (fun u => K.contains u)]
              simp only [List.contains_iff_mem]
            refine ⟨?_, fun u hu hw => ?_⟩
            · have main : Sat P f (mkH H) args (mkH (c.heap.filter fun p => K.contains p.1)) (fun u => (u < ct ∧ u ∉ c.mv) ∧ mkH H u ≠ none) r0 := by
                refine Sat.intro e1 e2 e3 (by rw [e4]; exact hl.1) (fun s hs => ?_) (fun s hs => hasH_ok (c2 s (T.labs_ok hs))) (fun t cs hts x hxx s hs => hasH_ok (c3 _ (mkH_in _ t cs hts) x hxx s (V.labs_ok hs))) ?_
                · cases hv : mkH H s with
                  | none => exact absurd hv hs.2
                  | some cs =>
                    rcases c5 _ (mkH_in H s cs hv) with h | h
                    · exact absurd h hs.1.2
                    · exact hasH_ok h
                · rw [e4, e5]
                  have := hE.2 (fun u => (u < ct ∧ u ∉ c.mv) ∧ mkH H u ≠ none) c (fun s h => h.1) (Nat.le_refl _) (.refl _ _) ⟨fun σ => σ = c.st, fun _ _ => False, fun σ => σ = c.st⟩ (by
                    cases out with
                    | nrm => rfl
                    | ret => rfl
                    | ext j => cases c1)
                  rw [initC_st hl.2] at this
                  have fin : ∀ σ, σ = c.st → ∃ r', resV P i.res σ = some r' ∧ TLe r' r0 ∧ ∀ s cs, mkH (c.heap.filter fun p => K.contains p.1) s = some cs → ∃ cs', σ.heap s = some cs' ∧ CsLe cs' cs := by
                    intro σ e
                    subst e
                    refine ⟨r0, hr, TLe.refl _, fun s cs hs => ⟨cs, ?_, CsLe.refl _⟩⟩
                    rw [hfil] at hs
                    split at hs
                    · exact hs
                    · cases hs
                  exact this.mono fin (fun _ _ h => h) fin
              refine ⟨main.1, fun M γ w vals hmem ha => (main.2 M γ w vals hmem ha).mono fun e w' he => ?_⟩
              obtain ⟨v, γ', a1, a2, a3, a4, a5, a6⟩ := he
              refine ⟨v, γ', a1, a2, a3, a4, a5, fun s hs => ?_⟩
              by_cases hH : mkH H s = none
              · rw [hmem.dom s hH]
                refine a2.dom s ?_
                cases hv : mkH (c.heap.filter fun p => K.contains p.1) s with
                | none => rfl
                | some cs =>
                  rcases c4 _ (mkH_in _ s cs hv) with h | h
                  · have := hs.1; simp only at h; omega
                  · exact absurd hH (hasH_ok h)
              · exact a6 s ⟨hs, hH⟩
            · have hsame := hE.1.same u hu hw
              rw [initC_st hl.2] at hsame
              have hsame : mkH c.heap u = mkH H u := hsame
              rw [hfil]
              split
              · exact hsame
              · rename_i hn
                cases hv : mkH H u with
                | none => rfl
                | some cs => exact absurd (c6 _ (mkH_in H u cs hv)) hn
          · cases h
        · cases h
      · cases h
    · cases h
  · cases h

/-- The whole: contracts that stand, and functions that are run. -/
def hands (P : Program) (tb : FuncId → Option Fn) (ora : FuncId → List E → Option T) (isOwn : FuncId → Bool) (lf : Nat) : Nat → Hand
  | 0 => ⟨ora, fun _ _ _ _ => none, isOwn⟩
  | k + 1 => ⟨fun f args => match ora f args with | some r => some r | none => execF P tb (hands P tb ora isOwn lf k) lf f args, fun f H ct args => execO P tb (hands P tb ora isOwn lf k) lf f H ct args, isOwn⟩

theorem hands_ok {P : Program} {tb : FuncId → Option Fn} {ora : FuncId → List E → Option T} {isOwn : FuncId → Bool} {lf : Nat} (hm : P.follows .mixedOrders = true) (ht : TabOK P tb) (ho : ∀ f args r, ora f args = some r → Pur P f args r) : ∀ k, HandOK P (hands P tb ora isOwn lf k)
  | 0 => ⟨ho, fun _ _ _ _ _ _ _ _ _ h => by cases h⟩
  | k + 1 => by
    have ih := hands_ok (isOwn := isOwn) (lf := lf) hm ht ho k
    refine ⟨fun f args r h => ?_, fun f H ct args r H' ct' mv wl h => execO_ok hm ht ih h⟩
    simp only [hands] at h
    split at h
    · rename_i r' hr
      injection h with h; subst h
      exact ho f args r' hr
    · exact execF_ok hm ht ih h

end Go.Ab
end

section
namespace Go.Ab
open Go Go.RowKit

def tbP (P : Program) (f : FuncId) : Option Fn :=
  match P.funcs[f]? with
  | some fn => (match fn.body with | some c => if (fn.name == "runtime.NumGoroutine") = false then some ⟨c, fn.ntmps, fn.results.toList⟩ else none | none => none)
  | none => none

theorem tbP_ok (P : Program) : TabOK P (tbP P) := by
  intro f i h
  unfold tbP at h
  split at h
  · rename_i fn hf
    split at h
    · rename_i c hc
      split at h
      · rename_i hn
        injection h with h; subst h
        exact ⟨fn, hf, hc, hn, rfl, rfl⟩
      · cases h
    · cases h
  · cases h

end Go.Ab
end
