/- The symbolic engine: data with known forms, states, and what they denote. No condition. The symbolic engine: operations that touch no own block but by a load. No condition. The symbolic engine: one operation that touches no own block but by a load, as a condition. No condition. The symbolic engine: one operation that touches no own block but by a load, as a condition. No condition. The symbolic engine: the operations' soundness. No condition. The symbolic engine: the operations' soundness, together. No condition. The symbolic engine: steps; plain results, new blocks, stores. No condition. The symbolic engine: make, append, copy. No condition. The symbolic engine: make, append, copy as steps. No condition. The symbolic engine: steps on maps. No condition. The symbolic engine: copy, calls by contracts, freezing. No condition. The symbolic engine: freezing. No condition. -/
import Derived.Test.YtfbmhjooliccnaaGreatDoorPd
import Derived.Test.YtfbmhjooliccnaaGreatDoorPc
set_option linter.all false

section
namespace Go.Ab
open Go Go.RowKit

/-- Kinds of elements of slices, and how an element lies in cells. -/
structure Univ where
  K : Type
  El : K → Type
  w : K → Nat
  enc : (k : K) → El k → List D

inductive SD (U : Univ) where
  | sc (v : Value)
  | prp (b : Bool)
  | lst (k : U.K) (l : List (U.El k))

inductive SV (U : Univ) where
  | d (x : SD U)
  | ptr (s off : Nat)
  | rptr (s : Nat) (k : U.K) (i j : Nat)
  | sub (s : Nat) (k : U.K) (off len : Nat)
  | own (s : Nat) (k : U.K) (len : Nat)
  | pim (cs : List (SD U))
  | clo (f : Nat) (caps : List (Nat × Nat))
  | mp (s : Nat)
  | any

inductive SE (U : Univ) where
  | c (v : SV U)
  | agg (vs : List (SV U))

inductive ST (U : Univ) where
  | e (x : SE U)
  | tup (xs : List (SE U))
  | any

inductive Blk (U : Univ) where
  | cells (cs : List (SV U))
  | rows (k : U.K) (l : List (U.El k))
  | mapb (es : List (Value × Value))

section
variable {U : Univ}

def SD.den : SD U → D
  | .sc v => .sc v
  | .prp b => .sc (.bool b)
  | .lst k l => .sl (l.map (U.enc k))
def SV.den : SV U → V
  | .d x => .d x.den
  | .ptr s off => .ptr s off
  | .rptr s k i j => .ptr s (i * U.w k + j)
  | .sub s k off len => .sub s (U.w k) (off * U.w k) len
  | .own s k len => .sub s (U.w k) 0 len
  | .pim cs => .pim (cs.map SD.den)
  | .clo f caps => .clo f caps
  | .mp s => .mp s
  | .any => .any
def SE.den : SE U → E
  | .c v => .c v.den
  | .agg vs => .agg (vs.map SV.den)
def ST.den : ST U → T
  | .e x => .e x.den
  | .tup xs => .tup (xs.map SE.den)
  | .any => .any
def flatD (k : U.K) (l : List (U.El k)) : List D := (l.map (U.enc k)).flatten
def Blk.den : Blk U → List V
  | .cells cs => cs.map SV.den
  | .rows k l => (flatD k l).map .d
  | .mapb es => [.mapc es]

def getE : List (Nat × ST U) → Nat → ST U
  | [], _ => .any
  | (j, t) :: r, i => match Nat.beq i j with | true => t | false => getE r i
def getH : List (Nat × Blk U) → Nat → Option (Blk U)
  | [], _ => none
  | (j, t) :: r, i => match Nat.beq i j with | true => some t | false => getH r i
def setB : List (Nat × Blk U) → Nat → Blk U → List (Nat × Blk U)
  | [], _, _ => []
  | (j, t) :: r, i, b => match Nat.beq i j with | true => (j, b) :: r | false => (j, t) :: setB r i b

structure SS (U : Univ) where
  env : List (Nat × ST U)
  heap : List (Nat × Blk U)
  ctr : Nat

def denE (l : List (Nat × ST U)) : List (Nat × T) := l.map fun p => (p.1, p.2.den)
def denH (l : List (Nat × Blk U)) : List (Nat × List V) := l.map fun p => (p.1, p.2.den)
def SS.st (σ : SS U) : St := ⟨Ab.mk (denE σ.env), mkH (denH σ.heap)⟩

theorem beq_t {i j : Nat} (h : Nat.beq i j = true) : i = j := Nat.eq_of_beq_eq_true h
theorem beq_f {i j : Nat} (h : Nat.beq i j = false) : i ≠ j := Nat.ne_of_beq_eq_false h

theorem mk_denE : ∀ (l : List (Nat × ST U)) (i : Nat), mk (denE l) i = (getE l i).den
  | [], _ => rfl
  | (j, t) :: r, i => by
    simp only [denE, List.map_cons, mk, getE]
    cases h : Nat.beq i j with
    | true => rw [if_pos (beq_t h)]
    | false => rw [if_neg (beq_f h)]; exact mk_denE r i
theorem mkH_denH : ∀ (l : List (Nat × Blk U)) (i : Nat), mkH (denH l) i = (getH l i).map Blk.den
  | [], _ => rfl
  | (j, t) :: r, i => by
    simp only [denH, List.map_cons, mkH, getH]
    cases h : Nat.beq i j with
    | true => rw [if_pos (beq_t h)]; rfl
    | false => rw [if_neg (beq_f h)]; exact mkH_denH r i
theorem getH_setB : ∀ (l : List (Nat × Blk U)) (s : Nat) (b b' : Blk U) (i : Nat), getH l s = some b' → getH (setB l s b) i = if i = s then some b else getH l i
  | [], _, _, _, _, h => by cases h
  | (j, t) :: r, s, b, b', i, h => by
    simp only [getH] at h
    cases hs : Nat.beq s j with
    | true =>
      simp only [setB, hs, getH]
      cases hi : Nat.beq i j with
      | true => rw [if_pos ((beq_t hi).trans (beq_t hs).symm)]
      | false => rw [if_neg (fun e => beq_f hi (e.trans (beq_t hs)))]
    | false =>
      rw [hs] at h
      simp only [setB, hs, getH]
      cases hi : Nat.beq i j with
      | true => rw [if_neg (fun e => beq_f hs (e.symm.trans (beq_t hi)))]
      | false => exact getH_setB r s b b' i h
theorem st_env (σ : SS U) (i : Nat) : σ.st.env i = (getE σ.env i).den := mk_denE _ _
theorem st_heap (σ : SS U) (s : Nat) : σ.st.heap s = (getH σ.heap s).map Blk.den := mkH_denH _ _

/-- What an operand is. -/
def ofValS : Value → ST U
  | .agg vs => if vs.toList.all (fun v => v.oneCell') then .e (.agg (vs.toList.map fun v => .d (.sc v))) else .any
  | .tuple _ => .any
  | v => .e (.c (.d (.sc v)))
def SS.ev (σ : SS U) : Operand → ST U
  | .tmp t => getE σ.env t
  | .const v => ofValS v
  | .func f => .e (.c (.clo f []))
  | _ => .any
theorem ev_den (σ : SS U) (x : Operand) : σ.st.ev x = (σ.ev x).den := by
  cases x with
  | tmp t => exact st_env σ t
  | const v =>
    cases v
    case agg vs =>
      simp only [St.ev, SS.ev, ofVal, ofValS]
      split
      · simp [ST.den, SE.den, SV.den, SD.den]
      · rfl
    all_goals rfl
  | func f => rfl
  | global g => rfl

/-- What is known of a type. -/
structure TI where
  sz : Nat
  bys : Nat
  ag : Bool
  fld : List (Nat × TypeId)
  sl : Option TypeId
  ar : Option (Nat × TypeId)
  ik : Option IntKind
  st : Bool
  bo : Bool
  zs : Option (List Value)
  pl : Option (List (Nat × Nat))
  mpt : Option (TypeId × TypeId)

def tmap (P : Program) (t : TypeId) : Option (TypeId × TypeId) := match P.underlying t with | some (.map k e) => some (k, e) | _ => none

structure TyOK (P : Program) (t : TypeId) (i : TI) : Prop where
  sz : tsz P t = some i.sz
  bys : tby P t = some i.bys
  ag : tag P t = some i.ag
  fld : ∀ f p, i.fld[f]? = some p → tfld P t f = some p
  sl : tsl P t = i.sl
  ar : tarr P t = i.ar
  ik : tint P t = i.ik
  st : tstr P t = i.st
  bo : tbool P t = i.bo
  zs : ∀ zs, i.zs = some zs → tzv P t = some (zs.map fun v => .d (.sc v))
  zl : ∀ zs, i.zs = some zs → zs.length = i.sz
  pl : ∀ ps, i.pl = some ps → tplaces P t = some ps
  mpt : tmap P t = i.mpt

/-- The program's kinds, types and packing. -/
structure Views (P : Program) (U : Univ) where
  row : (k : U.K) → U.El k → List (SD U)
  row_ok : ∀ k x, (row k x).map SD.den = U.enc k x
  len : ∀ k x, (U.enc k x).length = U.w k
  pos : ∀ k, 0 < U.w k
  kind : TypeId → Option U.K
  pack : (k : U.K) → List (SD U) → Option (U.El k)
  pack_ok : ∀ k cs x, pack k cs = some x → cs.map (fun y => y.den.norm) = U.enc k x
  cast : (k k' : U.K) → List (U.El k') → Option (List (U.El k))
  cast_ok : ∀ k k' l l', cast k k' l = some l' → l.map (U.enc k') = l'.map (U.enc k) ∧ U.w k = U.w k'
  ty : TypeId → Option TI
  ty_ok : ∀ t i, ty t = some i → TyOK P t i
  kind_ok : ∀ t k, kind t = some k → tsz P t = some (U.w k)
  nrm : ∀ k x, (U.enc k x).map D.norm = U.enc k x
  wr : Bool
  mpi : TypeId → Option MI
  mpi_ok : ∀ t m, mpi t = some m → MIOK P t m
end
end Go.Ab
end

section
namespace Go.Ab
open Go Go.RowKit

/-- An int. -/
def InR (n : Int) : Prop := -9223372036854775808 ≤ n ∧ n ≤ 9223372036854775807
theorem InR.wrap {n : Int} (h : InR n) : IntKind.i64.wrap n = n := IntWalk.i64_in _ (by obtain ⟨h1, h2⟩ := h; omega)

section
variable {U : Univ}

def scS : ST U → Option Value
  | .e (.c (.d (.sc v))) => some v
  | .e (.c (.d (.prp b))) => some (.bool b)
  | _ => none
theorem scS_ok {x : ST U} {v : Value} (h : scS x = some v) : scOf x.den = some v := by
  unfold scS at h; split at h
  · injection h with h; subst h; rfl
  · injection h with h; subst h; rfl
  · cases h

/-- An integer result: an int must not overflow, other kinds wrap. -/
def intR (wr : Bool) (k : IntKind) (n : Int) (K : SD U → Prop) : Prop :=
  match k with
  | .i64 => (match wr with | false => InR n ∧ K (.sc (.int .i64 n)) | true => K (.sc (.int .i64 (IntKind.i64.wrap n))))
  | k => K (.sc (.int k (k.wrap n)))
theorem intR_ok {wr : Bool} {k : IntKind} {n : Int} {K : SD U → Prop} (h : intR wr k n K) : ∃ r, r.den = .sc (.int k (k.wrap n)) ∧ K r := by
  unfold intR at h
  split at h
  · split at h
    · exact ⟨_, by rw [h.1.wrap]; rfl, h.2⟩
    · exact ⟨_, rfl, h⟩
  · exact ⟨_, rfl, h⟩

def binI (wr : Bool) (op : BinOp) (k : IntKind) (a b : Int) (K : SD U → Prop) : Prop :=
  match op with
  | .shl => 0 ≤ b ∧ K (.sc (.int k (k.wrap (a * 2 ^ min b.toNat k.bits))))
  | .shr => 0 ≤ b ∧ K (.sc (.int k (a.fdiv (2 ^ min b.toNat k.bits))))
  | .add => intR wr k (a + b) K
  | .sub => intR wr k (a - b) K
  | .mul => intR wr k (a * b) K
  | .quo => b ≠ 0 ∧ intR wr k (a.tdiv b) K
  | .rem => b ≠ 0 ∧ K (.sc (.int k (a.tmod b)))
  | .and => K (.sc (.int k (k.wrap (BitVec.ofInt k.bits a &&& BitVec.ofInt k.bits b).toNat)))
  | .or => K (.sc (.int k (k.wrap (BitVec.ofInt k.bits a ||| BitVec.ofInt k.bits b).toNat)))
  | .xor => K (.sc (.int k (k.wrap (BitVec.ofInt k.bits a ^^^ BitVec.ofInt k.bits b).toNat)))
  | .andNot => False
  | .eql => K (.prp (a == b))
  | .neq => K (.prp (a != b))
  | .lss => K (.prp (decide (a < b)))
  | .leq => K (.prp (decide (a ≤ b)))
  | .gtr => K (.prp (decide (b < a)))
  | .geq => K (.prp (decide (b ≤ a)))

def isShift : BinOp → Bool
  | .shl => true
  | .shr => true
  | _ => false

def binS (wr bo : Bool) (op : BinOp) (vx vy : Value) (K : SD U → Prop) : Prop :=
  match vx, vy with
  | .int k a, .int k' b => (match isShift op || decide (k = k') with | true => binI wr op k a b K | false => False)
  | .bool a, .bool b => (match bo, op with | true, .eql => K (.prp (a == b)) | true, .neq => K (.prp (!(a == b))) | _, _ => False)
  | .string a, .string b => (match op with | .eql => K (.prp (a.toList == b.toList)) | .neq => K (.prp (!(a.toList == b.toList))) | _ => False)
  | _, _ => False

theorem binS_ok {P : Program} {wr : Bool} {op : BinOp} {t : TypeId} {vx vy : Value} {K : SD U → Prop} (h : binS wr (tbool P t) op vx vy K) : ∃ v r, binV P op t vx vy = some v ∧ r.den = .sc v ∧ K r := by
  unfold binS at h
  split at h
  · rename_i k a k' b
    split at h
    · rename_i hk
      simp only [Bool.or_eq_true, decide_eq_true_eq] at hk
      unfold binI at h
      cases op <;> simp only [isShift, Bool.false_eq_true, false_or] at hk h
      case shl => exact ⟨_, _, by simp only [binV, if_neg (show ¬ b < 0 by omega)], rfl, h.2⟩
      case shr => exact ⟨_, _, by simp only [binV, if_neg (show ¬ b < 0 by omega)], rfl, h.2⟩
      case add => obtain ⟨r, hr, hK⟩ := intR_ok h; exact ⟨_, r, by simp only [binV, if_pos hk], hr, hK⟩
      case sub => obtain ⟨r, hr, hK⟩ := intR_ok h; exact ⟨_, r, by simp only [binV, if_pos hk], hr, hK⟩
      case mul => obtain ⟨r, hr, hK⟩ := intR_ok h; exact ⟨_, r, by simp only [binV, if_pos hk], hr, hK⟩
      case quo => obtain ⟨r, hr, hK⟩ := intR_ok h.2; exact ⟨_, r, by simp only [binV, if_pos (And.intro hk h.1)], hr, hK⟩
      case rem => exact ⟨_, _, by simp only [binV, if_pos (And.intro hk h.1)], rfl, h.2⟩
      all_goals first | exact h.elim | exact ⟨_, _, by simp only [binV, if_pos hk], rfl, h⟩
    · exact h.elim
  · rename_i a b
    split at h
    · rename_i hb; exact ⟨_, _, by simp only [binV, hb, if_true], rfl, h⟩
    · rename_i hb; exact ⟨_, _, by simp only [binV, hb, if_true], rfl, h⟩
    · exact h.elim
  · rename_i a b
    split at h
    · exact ⟨_, _, by simp only [binV], rfl, h⟩
    · exact ⟨_, _, by simp only [binV], rfl, h⟩
    · exact h.elim
  · exact h.elim

def unS (u : UnOp) (v : Value) (K : SD U → Prop) : Prop :=
  match u, v with
  | .not, .bool b => K (.prp (!b))
  | .neg, .int k n => intR false k (0 - n) K
  | .xor, .int k n => K (.sc (.int k (k.wrap (BitVec.ofInt k.bits (if k.signed then -1 else k.max) ^^^ BitVec.ofInt k.bits n).toNat)))
  | _, _ => False
theorem unS_ok {u : UnOp} {vx : Value} {K : SD U → Prop} (h : unS u vx K) : ∃ v r, unV u vx = some v ∧ r.den = .sc v ∧ K r := by
  unfold unS at h
  split at h
  · exact ⟨_, _, rfl, rfl, h⟩
  · obtain ⟨r, hr, hK⟩ := intR_ok h; exact ⟨_, r, rfl, hr, hK⟩
  · exact ⟨_, _, rfl, rfl, h⟩
  · exact h.elim

/-- An address with an offset. -/
def faS (off : Nat) : ST U → Option (ST U)
  | .e (.c (.ptr s o)) => some (.e (.c (.ptr s (o + off))))
  | .e (.c (.rptr s k i j)) => some (.e (.c (.rptr s k i (j + off))))
  | .e (.c (.pim cs)) => some (.e (.c (.pim (cs.drop off))))
  | _ => none
theorem faS_ok {off : Nat} {x r : ST U} (h : faS off x = some r) : faV off x.den = some r.den := by
  unfold faS at h; split at h
  · injection h with h; subst h; rfl
  · injection h with h; subst h
    simp only [ST.den, SE.den, SV.den, faV, Nat.add_assoc]
  · injection h with h; subst h
    simp only [ST.den, SE.den, SV.den, faV, List.map_drop]
  · cases h

/-- A known place of an array. -/
def splitIx (i : Int) (K : Nat → Prop) : Nat → Prop
  | 0 => True
  | n + 1 => splitIx i K n ∧ (i = (n : Int) → K n)
theorem splitIx_ok {i : Int} {K : Nat → Prop} : ∀ {n m : Nat}, splitIx i K n → m < n → i = (m : Int) → K m
  | 0, m, _, hm, _ => by omega
  | n + 1, m, h, hm, e => by
    rcases Nat.lt_or_eq_of_le (Nat.le_of_lt_succ hm) with h1 | h1
    · exact splitIx_ok h.1 h1 e
    · subst h1; exact h.2 e

def getL {α : Type} : List α → Nat → Option α
  | [], _ => none
  | x :: _, 0 => some x
  | _ :: l, n + 1 => getL l n
theorem getL_eq {α : Type} : ∀ (l : List α) (n : Nat), getL l n = l[n]?
  | [], _ => rfl
  | _ :: _, 0 => rfl
  | _ :: l, n + 1 => by rw [getL, getL_eq l n]; rfl

/-- The cells of a value at a place. -/
def partS (ag : Bool) (n : Nat) (cs : List (SV U)) (off : Nat) : Option (ST U) :=
  match ag with
  | true => (match Nat.ble (off + n) cs.length with | true => some (.e (.agg ((cs.drop off).take n))) | false => none)
  | false => (match getL cs off with | some v => some (.e (.c v)) | none => none)

theorem SV_notM (v : SV U) : ∀ es, v.den ≠ .mapc es := by intro es; cases v <;> (intro h; cases h)
theorem cells_notM (cs : List (SV U)) : notM (cs.map SV.den) = true := by
  cases cs with
  | nil => rfl
  | cons v r =>
    simp only [List.map_cons]
    unfold notM
    split
    · rename_i es _ h; injection h with h _; exact absurd h (SV_notM v es)
    · rfl

theorem partS_ok {P : Program} {t : TypeId} {i : TI} (hi : TyOK P t i) {cs : List (SV U)} {off : Nat} {r : ST U} (h : partS i.ag i.sz cs off = some r) : loadV P t (cs.map SV.den) off = some r.den := by
  unfold partS at h
  unfold loadV
  rw [cells_notM, hi.ag, hi.sz]
  split at h
  · rename_i ha
    split at h
    · rename_i hl
      injection h with h; subst h
      simp only [ha, ST.den, SE.den, List.length_map]
      rw [if_pos (Nat.le_of_ble_eq_true hl)]
      simp
    · cases h
  · rename_i ha
    split at h
    · rename_i v hv
      injection h with h; subst h
      simp only [ha, ST.den, SE.den, List.getElem?_map]
      rw [← getL_eq, hv]; rfl
    · cases h

/-- Filling the places of a struct. -/
def splS (cs : List (SV U)) (off : Nat) (xs : List (SV U)) : List (SV U) := cs.take off ++ xs ++ cs.drop (off + xs.length)
def SE.cells : SE U → List (SV U)
  | .c v => [v]
  | .agg vs => vs
theorem cells_den (e : SE U) : e.den.cells = e.cells.map SV.den := by cases e <;> rfl
theorem splS_den (cs : List (SV U)) (off : Nat) (xs : List (SV U)) : (splS cs off xs).map SV.den = splice (cs.map SV.den) off (xs.map SV.den) := by
  simp [splS, splice, List.map_drop, List.map_take]
def fillS (ps : List (Nat × Nat)) (cells : List (SV U)) : List (Nat × ST U) → Option (List (SV U))
  | [] => some cells
  | (i, t) :: rest =>
    match getL ps i, t with
    | some (off, size), .e x => (match Nat.beq x.cells.length size, Nat.ble (off + size) cells.length with | true, true => fillS ps (splS cells off x.cells) rest | _, _ => none)
    | _, _ => none
theorem fillS_ok (ps : List (Nat × Nat)) : ∀ (l : List (Nat × ST U)) (cells r : List (SV U)), fillS ps cells l = some r → fillD (fun i => ps[i]?) (cells.map SV.den) (l.map fun p => (p.1, p.2.den)) = some (r.map SV.den)
  | [], cells, r, h => by simp only [fillS] at h; injection h with h; subst h; rfl
  | (i, t) :: rest, cells, r, h => by
    simp only [fillS] at h
    split at h
    · rename_i off size x hp
      split at h
      · rename_i h1 h2
        have e1 := beq_t h1
        have e2 := Nat.le_of_ble_eq_true h2
        have := fillS_ok ps rest _ r h
        rw [getL_eq] at hp
        rw [List.map_cons]
        show fillD _ _ ((i, T.e x.den) :: _) = _
        simp only [fillD, hp]
        rw [cells_den, if_pos ⟨by simpa using e1, by simpa using e2⟩, ← splS_den]
        exact this
      · cases h
    · cases h

end
end Go.Ab
end

section
namespace Go.Ab
open Go Go.RowKit

section
variable {P : Program} {U : Univ} (V : Views P U)

def toSDs : List (SV U) → Option (List (SD U))
  | [] => some []
  | .d x :: r => (match toSDs r with | some l => some (x :: l) | none => none)
  | _ :: _ => none
theorem toSDs_ok : ∀ (l : List (SV U)) (ds : List (SD U)), toSDs l = some ds → l = ds.map .d
  | [], ds, h => by simp only [toSDs] at h; injection h with h; subst h; rfl
  | v :: r, ds, h => by
    cases v <;> simp only [toSDs] at h
    case d x =>
      split at h
      · rename_i l hl
        injection h with h; subst h
        rw [toSDs_ok r l hl]; rfl
      · cases h
    all_goals cases h
theorem toDs_of_SDs (ds : List (SD U)) : toDs ((ds.map SV.d).map SV.den) = some (ds.map fun y => y.den.norm) := by
  induction ds with
  | nil => rfl
  | cons x r ih => simp only [List.map_cons, toDs, ih, SV.den, toD]

def packE (k : U.K) (e : SE U) : Option (U.El k) := match toSDs e.cells with | some ds => V.pack k ds | none => none
theorem packE_ok {k : U.K} {e : SE U} {x : U.El k} (h : packE V k e = some x) : toDs e.den.cells = some (U.enc k x) ∧ e.den.cells.length = U.w k := by
  unfold packE at h
  split at h
  · rename_i ds hd
    have h1 := toSDs_ok _ _ hd
    have h2 := V.pack_ok k ds x h
    have h3 : toDs e.den.cells = some (U.enc k x) := by rw [cells_den, h1, toDs_of_SDs, h2]
    refine ⟨h3, ?_⟩
    have h4 := toDs_len _ _ h3
    rw [← h4, V.len]
  · cases h

def packRows (k : U.K) (ev : Operand → ST U) : Nat → List (Nat × Operand) → Option (List (U.El k))
  | _, [] => some []
  | i, (j, x) :: r =>
    match ev x with
    | .e e => (match Nat.beq j i, packE V k e, packRows k ev (i + 1) r with | true, some a, some l => some (a :: l) | _, _, _ => none)
    | _ => none
theorem packRows_ok {k : U.K} (σ : SS U) : ∀ (l : List (Nat × Operand)) (i : Nat) (r : List (U.El k)), packRows V k σ.ev i l = some r → litRows (U.w k) σ.st.ev i l = some (r.map (U.enc k)) ∧ r.length = l.length
  | [], i, r, h => by simp only [packRows] at h; injection h with h; subst h; exact ⟨rfl, rfl⟩
  | (j, x) :: l, i, r, h => by
    simp only [packRows] at h
    split at h
    · rename_i e he
      split at h
      · rename_i a l' h1 h2 h3
        injection h with h; subst h
        have ih := packRows_ok σ l (i + 1) l' h3
        obtain ⟨p1, p2⟩ := packE_ok V h2
        simp only [litRows, ev_den, he, ST.den]
        rw [if_pos ⟨beq_t h1, p2⟩, p1, ih.1]
        exact ⟨rfl, by simp [ih.2]⟩
      · cases h
    · cases h

def natS : ST U → Option Int
  | .e (.c (.d (.sc (.int _ i)))) => some i
  | _ => none
theorem natS_ok {x : ST U} {i : Int} (h : natS x = some i) (h0 : 0 ≤ i) : natOf x.den = some i.toNat := by
  unfold natS at h; split at h
  · injection h with h; subst h; simp [ST.den, SE.den, SV.den, SD.den, natOf, h0]
  · cases h

/-- A part of a slice. -/
def sliceS (n : Nat) (lo hi : Option Int) (x : ST U) (K : ST U → Prop) : Prop :=
  match x with
  | .e (.c (.sub s k off len)) =>
    (match Nat.beq (U.w k) n with
     | true => (match lo, hi with
       | none, none => K (.e (.c (.sub s k off len)))
       | none, some h => 0 ≤ h ∧ h ≤ len ∧ K (.e (.c (.sub s k off h.toNat)))
       | some l, none => 0 ≤ l ∧ l ≤ len ∧ K (.e (.c (.sub s k (off + l.toNat) (len - l.toNat))))
       | some l, some h => 0 ≤ l ∧ l ≤ h ∧ h ≤ len ∧ K (.e (.c (.sub s k (off + l.toNat) (h.toNat - l.toNat)))))
     | false => False)
  | .e (.c (.own s k len)) =>
    (match Nat.beq (U.w k) n with
     | true => (match lo, hi with
       | none, none => K (.e (.c (.own s k len)))
       | none, some h => 0 ≤ h ∧ h ≤ len ∧ K (.e (.c (.sub s k 0 h.toNat)))
       | some l, none => 0 ≤ l ∧ l ≤ len ∧ K (.e (.c (.sub s k l.toNat (len - l.toNat))))
       | some l, some h => 0 ≤ l ∧ l ≤ h ∧ h ≤ len ∧ K (.e (.c (.sub s k l.toNat (h.toNat - l.toNat)))))
     | false => False)
  | .e (.c (.d (.lst k l))) =>
    (match Nat.beq (U.w k) n with
     | true => (match lo, hi with
       | none, none => K (.e (.c (.d (.lst k l))))
       | none, some h => 0 ≤ h ∧ h ≤ l.length ∧ K (.e (.c (.d (.lst k (l.take h.toNat)))))
       | some a, none => 0 ≤ a ∧ a ≤ l.length ∧ K (.e (.c (.d (.lst k (l.drop a.toNat)))))
       | some a, some h => 0 ≤ a ∧ a ≤ h ∧ h ≤ l.length ∧ K (.e (.c (.d (.lst k ((l.drop a.toNat).take (h.toNat - a.toNat)))))))
     | false => False)
  | .e (.c (.d (.sc (.slice none 0 0)))) =>
    (match lo, hi with
     | none, none => K (.e (.c (.d (.sc (.slice none 0 0)))))
     | none, some h => h = 0 ∧ K (.e (.c (.d (.sc (.slice none 0 0)))))
     | some l, none => l = 0 ∧ K (.e (.c (.d (.sc (.slice none 0 0)))))
     | some l, some h => l = 0 ∧ h = 0 ∧ K (.e (.c (.d (.sc (.slice none 0 0))))))
  | _ => False

def lenS : ST U → Option Nat
  | .e (.c (.sub _ _ _ len)) => some len
  | .e (.c (.own _ _ len)) => some len
  | .e (.c (.d (.lst _ l))) => some l.length
  | .e (.c (.d (.sc (.slice _ n _)))) => some n
  | _ => none
theorem lenS_ok {x : ST U} {n : Nat} (h : lenS x = some n) : lenV x.den = some n := by
  unfold lenS at h; split at h <;> first | (injection h with h; subst h; simp [ST.den, SE.den, SV.den, SD.den, lenV]) | cases h

theorem enc_all (V : Views P U) (k : U.K) (l : List (U.El k)) : (l.map (U.enc k)).all (fun r => r.length == U.w k) = true := by
  rw [List.all_eq_true]
  intro r hr
  rw [List.mem_map] at hr
  obtain ⟨x, _, rfl⟩ := hr
  have := V.len k x
  simp [this]

theorem sliceS_ok (V : Views P U) {n len : Nat} {lo hi : Option Int} {x : ST U} {K : ST U → Prop} (hl : lenS x = some len) (h : sliceS n lo hi x K) :
    ∃ (a b : Nat) (r : ST U), sliceV n a b x.den = some r.den ∧ K r ∧ (a = (lo.map Int.toNat).getD 0 ∧ b = (hi.map Int.toNat).getD len) ∧ (∀ i, lo = some i → 0 ≤ i) ∧ (∀ i, hi = some i → 0 ≤ i) := by
  unfold sliceS at h
  split at h
  · rename_i s k off ln
    simp only [lenS, Option.some.injEq] at hl
    subst hl
    split at h
    · rename_i hw
      have hw := beq_t hw
      subst hw
      split at h
      · exact ⟨0, ln, _, by simp [ST.den, SE.den, SV.den, sliceV], h, by simp, by simp, by simp⟩
      · rename_i hh
        obtain ⟨h1, h2, h3⟩ := h
        exact ⟨0, hh.toNat, _, by simp only [ST.den, SE.den, SV.den, sliceV]; rw [if_pos ⟨trivial, by omega, by omega⟩]; simp, h3, by simp, by simp, by simpa using h1⟩
      · rename_i a
        obtain ⟨h1, h2, h3⟩ := h
        exact ⟨a.toNat, ln, _, by simp only [ST.den, SE.den, SV.den, sliceV]; rw [if_pos ⟨trivial, by omega, by omega⟩]; simp [Nat.add_mul], h3, by simp, by simpa using h1, by simp⟩
      · rename_i a b
        obtain ⟨h1, h2, h3, h4⟩ := h
        exact ⟨a.toNat, b.toNat, _, by simp only [ST.den, SE.den, SV.den, sliceV]; rw [if_pos ⟨trivial, by omega, by omega⟩]; simp [Nat.add_mul], h4, by simp, by simpa using h1, by simp; omega⟩
    · exact h.elim
  · rename_i s k ln
    simp only [lenS, Option.some.injEq] at hl
    subst hl
    split at h
    · rename_i hw
      have hw := beq_t hw
      subst hw
      split at h
      · exact ⟨0, ln, _, by simp [ST.den, SE.den, SV.den, sliceV], h, by simp, by simp, by simp⟩
      · rename_i hh
        obtain ⟨h1, h2, h3⟩ := h
        exact ⟨0, hh.toNat, _, by simp only [ST.den, SE.den, SV.den, sliceV]; rw [if_pos ⟨trivial, by omega, by omega⟩]; simp, h3, by simp, by simp, by simpa using h1⟩
      · rename_i a
        obtain ⟨h1, h2, h3⟩ := h
        exact ⟨a.toNat, ln, _, by simp only [ST.den, SE.den, SV.den, sliceV]; rw [if_pos ⟨trivial, by omega, by omega⟩]; simp, h3, by simp, by simpa using h1, by simp⟩
      · rename_i a b
        obtain ⟨h1, h2, h3, h4⟩ := h
        exact ⟨a.toNat, b.toNat, _, by simp only [ST.den, SE.den, SV.den, sliceV]; rw [if_pos ⟨trivial, by omega, by omega⟩]; simp, h4, by simp, by simpa using h1, by simp; omega⟩
    · exact h.elim
  · rename_i k l
    simp only [lenS, Option.some.injEq] at hl
    subst hl
    have ha := enc_all V k l
    split at h
    · rename_i hw
      have hw := beq_t hw
      subst hw
      split at h
      · exact ⟨0, l.length, _, by simp only [ST.den, SE.den, SV.den, SD.den, sliceV]; rw [if_pos ⟨by simp, by simp, ha⟩, List.drop_zero, List.take_of_length_le (by simp)], h, by simp, by simp, by simp⟩
      · rename_i hh
        obtain ⟨h1, h2, h3⟩ := h
        exact ⟨0, hh.toNat, _, by simp only [ST.den, SE.den, SV.den, SD.den, sliceV]; rw [if_pos ⟨by omega, by simp; omega, ha⟩]; simp [List.map_take], h3, by simp, by simp, by simpa using h1⟩
      · rename_i a
        obtain ⟨h1, h2, h3⟩ := h
        exact ⟨a.toNat, l.length, _, by simp only [ST.den, SE.den, SV.den, SD.den, sliceV]; rw [if_pos ⟨by omega, by simp, ha⟩, List.take_of_length_le (by simp)]; simp [List.map_drop], h3, by simp, by simpa using h1, by simp⟩
      · rename_i a b
        obtain ⟨h1, h2, h3, h4⟩ := h
        exact ⟨a.toNat, b.toNat, _, by simp only [ST.den, SE.den, SV.den, SD.den, sliceV]; rw [if_pos ⟨by omega, by simp; omega, ha⟩]; simp [List.map_drop, List.map_take], h4, by simp, by simpa using h1, by simp; omega⟩
    · exact h.elim
  · simp only [lenS, Option.some.injEq] at hl
    subst hl
    split at h
    · exact ⟨0, 0, _, by simp [ST.den, SE.den, SV.den, SD.den, sliceV], h, by simp, by simp, by simp⟩
    · rename_i hh
      obtain ⟨rfl, h3⟩ := h
      exact ⟨0, 0, _, by simp [ST.den, SE.den, SV.den, SD.den, sliceV], h3, by simp, by simp, by simp⟩
    · rename_i a
      obtain ⟨rfl, h3⟩ := h
      exact ⟨0, 0, _, by simp [ST.den, SE.den, SV.den, SD.den, sliceV], h3, by simp, by simp, by simp⟩
    · rename_i a b
      obtain ⟨rfl, rfl, h3⟩ := h
      exact ⟨0, 0, _, by simp [ST.den, SE.den, SV.den, SD.den, sliceV], h3, by simp, by simp, by simp⟩
  · exact h.elim

end
end Go.Ab
end

section
namespace Go.Ab
open Go Go.RowKit

section
variable {P : Program} {U : Univ} (V : Views P U)

/-- Looking at a place of a list of data. -/
def atL {k : U.K} (l : List (U.El k)) (i : Nat) (K : U.El k → Prop) : Prop := i < l.length ∧ ∀ x, l[i]? = some x → K x
theorem atL_ok {k : U.K} {l : List (U.El k)} {i : Nat} {K : U.El k → Prop} (h : atL l i K) : ∃ x, l[i]? = some x ∧ K x := ⟨l[i]'h.1, List.getElem?_eq_getElem h.1, h.2 _ (List.getElem?_eq_getElem h.1)⟩

def sload (i : TI) (σ : SS U) (x : ST U) (K : ST U → Prop) : Prop :=
  match x with
  | .e (.c (.ptr s off)) =>
    (match getH σ.heap s with
     | some (.cells cs) => (match partS i.ag i.sz cs off with | some r => K r | none => False)
     | _ => False)
  | .e (.c (.rptr s k ix j)) =>
    (match getH σ.heap s with
     | some (.rows k' l) => (match V.cast k k' l with
       | some l => atL l ix fun x => (match partS i.ag i.sz ((V.row k x).map .d) j, Nat.ble (j + i.sz) (U.w k) with | some r, true => K r | _, _ => False)
       | none => False)
     | _ => False)
  | .e (.c (.pim cs)) => (match partS i.ag i.sz (cs.map .d) 0 with | some r => K r | none => False)
  | _ => False

/-- Ints that nobody writes. -/
def intsK (k : IntKind) : List (SD U) → Option (List Int)
  | [] => some []
  | .sc (.int k' n) :: r => (match decide (k' = k), intsK k r with | true, some l => some (n :: l) | _, _ => none)
  | _ :: _ => none
theorem intsK_ok (k : IntKind) : ∀ (cs : List (SD U)) (xs : List Int), intsK k cs = some xs → cs = xs.map fun n => .sc (.int k n)
  | [], xs, h => by simp only [intsK, Option.some.injEq] at h; subst h; rfl
  | c :: r, xs, h => by
    unfold intsK at h
    split at h
    · rename_i he; cases he
    · rename_i k' n r' he
      injection he with he1 he2; subst he1; subst he2
      split at h
      · rename_i l h1 h2
        injection h with h; subst h
        simp only [decide_eq_true_eq] at h1
        subst h1
        rw [intsK_ok k' r l h2]; rfl
      · cases h
    · cases h
def pimI (sz len : Nat) (x : ST U) : Option (IntKind × List Int × List (SD U)) :=
  match x with
  | .e (.c (.pim (.sc (.int k n) :: r))) => (match Nat.beq sz 1, intsK k r with | true, some l => (match Nat.beq (l.length + 1) len with | true => some (k, n :: l, .sc (.int k n) :: r) | false => none) | _, _ => none)
  | _ => none
theorem pimI_ok {sz len : Nat} {x : ST U} {k : IntKind} {xs : List Int} {cs : List (SD U)} (h : pimI sz len x = some (k, xs, cs)) : x = .e (.c (.pim cs)) ∧ sz = 1 ∧ xs.length = len ∧ cs = xs.map fun n => .sc (.int k n) := by
  unfold pimI at h
  split at h
  · rename_i k' n r
    split at h
    · rename_i l h1 h2
      split at h
      · rename_i h3
        injection h with h; injection h with e1 h; injection h with e2 e3
        subst e1; subst e2; subst e3
        refine ⟨rfl, beq_t h1, by simpa using beq_t h3, ?_⟩
        rw [intsK_ok k' r l h2]; rfl
      · cases h
    · cases h
  · cases h

def sidx (t : TypeId) (x : ST U) (i : Int) (K : ST U → Prop) : Prop :=
  match V.ty t with
  | some ti =>
    (match ti.sl with
     | some e =>
       (match V.ty e with
        | some te =>
          (match x with
           | .e (.c (.sub s k off len)) => (match Nat.beq (U.w k) te.sz with | true => 0 ≤ i ∧ i < len ∧ K (.e (.c (.rptr s k (off + i.toNat) 0))) | false => False)
           | .e (.c (.own s k len)) => (match Nat.beq (U.w k) te.sz with | true => 0 ≤ i ∧ i < len ∧ K (.e (.c (.rptr s k i.toNat 0))) | false => False)
           | .e (.c (.d (.lst k l))) => (match Nat.beq (U.w k) te.sz with | true => 0 ≤ i ∧ atL l i.toNat fun x => K (.e (.c (.pim (V.row k x)))) | false => False)
           | _ => False)
        | none => False)
     | none =>
       (match ti.ar with
        | some (len, e) =>
          (match V.ty e with
           | some te => (match pimI te.sz len x with
             | some (k, xs, cs) => 0 ≤ i ∧ i < (len : Int) ∧ K (.e (.c (.pim (.sc (.int k (xs.getD i.toNat 0)) :: cs.drop (i.toNat + 1)))))
             | none => 0 ≤ i ∧ i < (len : Int) ∧ splitIx i (fun m => match faS (m * te.sz) x with | some r => K r | none => False) len)
           | none => False)
        | none => False))
  | none => False

def scall (c : Call) (σ : SS U) (K : ST U → Prop) : Prop :=
  match c.callee, c.args.toList, c.argTypes.toList with
  | .builtin .len, [x], [t] =>
    (match V.ty t with
     | some ti =>
       (match ti.sl with
        | some _ => (match lenS (σ.ev x) with | some n => K (.e (.c (.d (.sc (.int .i64 (n : Int)))))) | none => False)
        | none => (match ti.st, scS (σ.ev x) with | true, some (.string s) => K (.e (.c (.d (.sc (.int .i64 (s.size : Int)))))) | _, _ => False))
     | none => False)
  | .builtin .max, [x, y], _ => (match scS (σ.ev x), scS (σ.ev y) with | some (.int k i), some (.int _ j) => K (.e (.c (.d (.sc (.int k (max i j)))))) | _, _ => False)
  | .builtin .min, [x, y], _ => (match scS (σ.ev x), scS (σ.ev y) with | some (.int k i), some (.int _ j) => K (.e (.c (.d (.sc (.int k (min i j)))))) | _, _ => False)
  | _, _, _ => False

def boundS (σ : SS U) : Option Operand → Option (Option Int)
  | none => some none
  | some x => (match natS (σ.ev x) with | some i => some (some i) | none => none)

def sopT (op : Op) (σ : SS U) (K : ST U → Prop) : Prop :=
  match op with
  | .move x => K (σ.ev x)
  | .assign x => K (σ.ev x)
  | .pick c x y =>
    (match σ.ev c with
     | .e (.c (.d (.sc (.bool true)))) => K (σ.ev x)
     | .e (.c (.d (.sc (.bool false)))) => K (σ.ev y)
     | .e (.c (.d (.prp b))) => (b = true → K (σ.ev x)) ∧ (b = false → K (σ.ev y))
     | _ => False)
  | .binOp b t x y _ => (match scS (σ.ev x), scS (σ.ev y), V.ty t with | some vx, some vy, some ti => binS V.wr ti.bo b vx vy (fun r => K (.e (.c (.d r)))) | _, _, _ => False)
  | .unOp u _ x => (match scS (σ.ev x) with | some vx => unS u vx (fun r => K (.e (.c (.d r)))) | none => False)
  | .convert s d x => (match V.ty s, V.ty d, scS (σ.ev x) with
    | some ts, some td, some (.int _ n) => (match ts.ik, td.ik with | some _, some k => K (.e (.c (.d (.sc (.int k (k.wrap n)))))) | _, _ => False)
    | _, _, _ => False)
  | .fieldAddr s x f => (match V.ty s with
    | some ti => (match getL ti.fld f with
      | some (off, ft) => (match V.ty ft with | some tf => (match Nat.ble 1 tf.sz, faS off (σ.ev x) with | true, some r => K r | _, _ => False) | none => False)
      | none => False)
    | none => False)
  | .indexAddr t x ix => (match natS (σ.ev ix) with | some i => sidx V t (σ.ev x) i K | none => False)
  | .load t x => (match V.ty t with | some ti => sload V ti σ (σ.ev x) K | none => False)
  | .extract x i => (match σ.ev x with | .tup xs => (match getL xs i with | some e => K (.e e) | none => False) | _ => False)
  | .field t x f => (match V.ty t, σ.ev x with
    | some ti, .e (.agg cs) => (match getL ti.fld f with
      | some (off, ft) => (match V.ty ft with | some tf => (match partS tf.ag tf.sz cs off with | some r => K r | none => False) | none => False)
      | none => False)
    | _, _ => False)
  | .index t x ix => (match natS (σ.ev ix), V.ty t, σ.ev x with
    | some i, some ti, .e (.agg cs) => (match ti.ar with
      | some (len, e) => (match V.ty e with
        | some te => 0 ≤ i ∧ i < (len : Int) ∧ splitIx i (fun m => match partS te.ag te.sz cs (m * te.sz) with | some r => K r | none => False) len
        | none => False)
      | none => False)
    | some i, some ti, .e (.c (.d (.sc (.string s)))) => (match ti.ar, ti.st with
      | none, true => 0 ≤ i ∧ i < (s.size : Int) ∧ K (.e (.c (.d (.sc (.int .u8 (s.data.toList.getD i.toNat 0).toNat)))))
      | _, _ => False)
    | _, _, _ => False)
  | .build t parts => (match V.ty t with
    | some ti => (match ti.pl, ti.zs with
      | some ps, some zs => (match fillS ps (zs.map fun v => .d (.sc v)) (parts.toList.map fun p => (p.1, σ.ev p.2)) with | some cs => K (.e (.agg cs)) | none => False)
      | _, _ => False)
    | none => False)
  | .buildSlice t len parts => (match V.ty t with
    | some ti => (match ti.sl with
      | some e => (match V.ty e, V.kind e with
        | some te, some k => (match te.zs, Nat.beq parts.size len, Nat.ble 1 len, Nat.ble (len * te.sz) 16777216, packRows V k σ.ev 0 parts.toList with
          | some _, true, true, true, some l => K (.e (.c (.d (.lst k l))))
          | _, _, _, _, _ => False)
        | _, _ => False)
      | none => False)
    | none => False)
  | .slice t x lx hx mx => (match V.ty t, mx, lenS (σ.ev x), boundS σ lx, boundS σ hx with
    | some ti, none, some _, some lo, some hi => (match ti.sl with
      | some e => (match V.ty e with | some te => sliceS te.sz lo hi (σ.ev x) K | none => False)
      | none => False)
    | _, _, _, _, _ => False)
  | .makeFunc fn first cap => (match fn, first.toList with
    | .func f, [] => (match capsV σ.st.ev cap.toList with | some caps => K (.e (.c (.clo f caps))) | none => False)
    | _, _ => False)
  | .nilCheck x => (match σ.ev x with
    | .e (.c (.ptr s off)) => K (.e (.c (.ptr s off)))
    | .e (.c (.rptr s k i j)) => K (.e (.c (.rptr s k i j)))
    | .e (.c (.pim cs)) => K (.e (.c (.pim cs)))
    | _ => False)
  | .call c => scall V c σ K
  | _ => False
end
end Go.Ab
end

section
namespace Go.Ab
open Go Go.RowKit

section
variable {P : Program} {U : Univ} (V : Views P U)

theorem flat_cell (V : Views P U) (k : U.K) (l : List (U.El k)) {i : Nat} {x : U.El k} (hx : l[i]? = some x) {j : Nat} (hj : j < U.w k) : (flatD k l)[i * U.w k + j]? = (U.enc k x)[j]? := by
  have := flat_get (U.w k) (l.map (U.enc k)) (fun r hr => by rw [List.mem_map] at hr; obtain ⟨y, _, rfl⟩ := hr; exact V.len k y) i j hj
  rw [flatD, this, List.getElem?_map, hx]; rfl

theorem flatD_len (V : Views P U) (k : U.K) (l : List (U.El k)) : (flatD k l).length = l.length * U.w k := by
  induction l with
  | nil => simp [flatD]
  | cons x r ih =>
    have : flatD k (x :: r) = U.enc k x ++ flatD k r := rfl
    rw [this, List.length_append, ih, V.len, List.length_cons, Nat.add_mul, Nat.one_mul, Nat.add_comm]

theorem ds_notM (ds : List D) : notM (ds.map Ab.V.d) = true := notM_ds ds

theorem row_load (V : Views P U) {t : TypeId} {ti : TI} (hi : TyOK P t ti) (k : U.K) (l : List (U.El k)) {i : Nat} {x : U.El k} (hx : l[i]? = some x) {j : Nat} {r : ST U}
    (h : partS ti.ag ti.sz ((V.row k x).map .d) j = some r) (hb : Nat.ble (j + ti.sz) (U.w k) = true) : loadV P t ((flatD k l).map .d) (i * U.w k + j) = some r.den := by
  have h0 := partS_ok hi h
  have hb := Nat.le_of_ble_eq_true hb
  have e1 : ((V.row k x).map SV.d).map SV.den = (U.enc k x).map Ab.V.d := by
    rw [← V.row_ok k x]; simp [Function.comp_def, SV.den]
  rw [e1] at h0
  have hil : i < l.length := (List.getElem?_eq_some_iff.1 hx).1
  have hlen : i * U.w k + U.w k ≤ (flatD k l).length := by
    rw [flatD_len V, ← Nat.succ_mul]; exact Nat.mul_le_mul_right _ hil
  unfold loadV at h0 ⊢
  rw [ds_notM, hi.ag, hi.sz] at h0 ⊢
  have hpos := V.pos k
  cases ha : ti.ag with
  | true =>
    simp only [ha, List.length_map] at h0 ⊢
    rw [V.len k x, if_pos hb] at h0
    rw [if_pos (by omega)]
    rw [← h0]
    congr 3
    apply List.ext_getElem?
    intro p
    simp only [List.getElem?_take, List.getElem?_drop, List.getElem?_map]
    split
    · rw [Nat.add_assoc, flat_cell V k l hx (by omega)]
    · rfl
  | false =>
    simp only [ha, List.getElem?_map] at h0 ⊢
    by_cases hj : j < U.w k
    · rw [flat_cell V k l hx hj]; exact h0
    · rw [List.getElem?_eq_none (by rw [V.len]; omega)] at h0; cases h0

theorem sload_ok {t : TypeId} {ti : TI} (hi : TyOK P t ti) {σ : SS U} {x : Operand} {K : ST U → Prop} (h : sload V ti σ (σ.ev x) K) : ∃ r, opT P (.load t x) σ.st = some r.den ∧ K r := by
  unfold sload at h
  simp only [opT, ev_den]
  split at h
  · rename_i s off he
    rw [he]
    simp only [ST.den, SE.den, SV.den, st_heap]
    split at h
    · rename_i cs hs
      rw [hs]
      split at h
      · rename_i r hr
        exact ⟨r, partS_ok hi hr, h⟩
      · exact h.elim
    · exact h.elim
  · rename_i s k ix j he
    rw [he]
    simp only [ST.den, SE.den, SV.den, st_heap]
    split at h
    · rename_i k' l hs
      rw [hs]
      split at h
      · rename_i l2 hl
        obtain ⟨x, hx, h⟩ := atL_ok h
        have hc := V.cast_ok k k' l l2 hl
        split at h
        · rename_i r hr hb
          refine ⟨r, ?_, h⟩
          have e1 : flatD k' l = flatD k l2 := by unfold flatD; rw [hc.1]
          simp only [Option.map_some, Blk.den, e1]
          exact row_load V hi k l2 hx hr hb
        · exact h.elim
      · exact h.elim
    · exact h.elim
  · rename_i cs he
    rw [he]
    simp only [ST.den, SE.den, SV.den]
    split at h
    · rename_i r hr
      refine ⟨r, ?_, h⟩
      have := partS_ok hi hr
      have e : (cs.map SV.d).map SV.den = (cs.map SD.den).map Ab.V.d := by simp [Function.comp_def, SV.den]
      rw [e] at this
      exact this
    · exact h.elim
  · exact h.elim

theorem sidx_ok {t : TypeId} {σ : SS U} {x ix : Operand} {i : Int} {K : ST U → Prop} (hn : natS (σ.ev ix) = some i) (h : sidx V t (σ.ev x) i K) : ∃ r, opT P (.indexAddr t x ix) σ.st = some r.den ∧ K r := by
  have hsc : ∃ kk, scOf (σ.ev ix).den = some (.int kk i) := by
    unfold natS at hn; split at hn
    · rename_i kk j he; injection hn with hn; subst hn; rw [he]; exact ⟨kk, rfl⟩
    · cases hn
  obtain ⟨kk, hsc⟩ := hsc
  unfold sidx at h
  simp only [opT, ev_den, hsc]
  split at h
  · rename_i ti hti
    have T1 := V.ty_ok t ti hti
    rw [T1.sl]
    split at h
    · rename_i e he
      rw [he]
      split at h
      · rename_i te hte
        have T2 := V.ty_ok e te hte
        simp only [T2.sz]
        split at h
        · rename_i s k off len hx
          split at h
          · rename_i hw
            have hw := beq_t hw
            obtain ⟨h1, h2, h3⟩ := h
            refine ⟨_, ?_, h3⟩
            rw [hx]
            simp only [ST.den, SE.den, SV.den, ixV]
            rw [if_pos ⟨h1, h2, hw⟩]
            simp [Nat.add_mul]
          · exact h.elim
        · rename_i s k len hx
          split at h
          · rename_i hw
            have hw := beq_t hw
            obtain ⟨h1, h2, h3⟩ := h
            refine ⟨_, ?_, h3⟩
            rw [hx]
            simp only [ST.den, SE.den, SV.den, ixV]
            rw [if_pos ⟨h1, h2, hw⟩]
            simp
          · exact h.elim
        · rename_i k l hx
          split at h
          · rename_i hw
            have hw := beq_t hw
            obtain ⟨h1, h2⟩ := h
            obtain ⟨y, hy, h3⟩ := atL_ok h2
            refine ⟨_, ?_, h3⟩
            rw [hx]
            simp only [ST.den, SE.den, SV.den, SD.den, ixV]
            rw [if_pos h1, List.getElem?_map, hy]
            simp only [Option.map_some]
            rw [if_pos (by rw [V.len]; exact hw), V.row_ok]
          · exact h.elim
        · exact h.elim
      · exact h.elim
    · rename_i he
      rw [he]
      simp only [T1.ar]
      split at h
      · rename_i len e hae
        rw [hae]
        split at h
        · rename_i te hte
          have T2 := V.ty_ok e te hte
          split at h
          · rename_i k xs cs hp
            obtain ⟨h1, h2, h3⟩ := h
            obtain ⟨p1, p2, p3, p4⟩ := pimI_ok hp
            refine ⟨_, ?_, h3⟩
            simp only
            rw [if_pos ⟨h1, h2⟩, T2.sz, p2, p1]
            have hi : i.toNat < xs.length := by omega
            have e1 : (cs.map SD.den).drop i.toNat = SD.den (.sc (.int k (xs.getD i.toNat 0)) : SD U) :: (cs.drop (i.toNat + 1)).map SD.den := by
              rw [p4, List.drop_eq_getElem_cons (by simpa using hi)]
              congr 1
              · simp [List.getD_eq_getElem?_getD, hi]
              · rw [List.map_drop]
            simp only [ST.den, SE.den, SV.den, faV, Nat.mul_one, e1, List.map_cons]
          · obtain ⟨h1, h2, h3⟩ := h
            have h4 := splitIx_ok (m := i.toNat) h3 (by omega) (by omega)
            split at h4
            · rename_i r hr
              refine ⟨r, ?_, h4⟩
              simp only
              rw [if_pos ⟨h1, h2⟩, T2.sz]
              exact faS_ok hr
            · exact h4.elim
        · exact h.elim
      · exact h.elim
  · exact h.elim

theorem scall_ok {c : Call} {σ : SS U} {K : ST U → Prop} (h : scall V c σ K) : ∃ r, opT P (.call c) σ.st = some r.den ∧ K r := by
  unfold scall at h
  simp only [opT, opC]
  split at h
  · rename_i x t h1 h2 h3
    rw [h1, h2, h3]
    split at h
    · rename_i ti hti
      have T1 := V.ty_ok t ti hti
      simp only [T1.sl, T1.st, ev_den]
      split at h
      · rename_i e he
        rw [he]
        split at h
        · rename_i n hn
          exact ⟨_, by simp only [lenS_ok hn]; rfl, h⟩
        · exact h.elim
      · rename_i he
        rw [he]
        split at h
        · rename_i s hst hs
          exact ⟨_, by simp only [hst, if_true, scS_ok hs]; rfl, h⟩
        · exact h.elim
    · exact h.elim
  · rename_i x y h1 h2
    split at h
    · rename_i k i k' j hx hy
      exact ⟨_, by rw [h1, h2]; simp only [ev_den, scS_ok hx, scS_ok hy]; rfl, h⟩
    · exact h.elim
  · rename_i x y h1 h2
    split at h
    · rename_i k i k' j hx hy
      exact ⟨_, by rw [h1, h2]; simp only [ev_den, scS_ok hx, scS_ok hy]; rfl, h⟩
    · exact h.elim
  · exact h.elim
end
end Go.Ab
end

section
namespace Go.Ab
open Go Go.RowKit

section
variable {P : Program} {U : Univ} (V : Views P U)

theorem zs_den (zs : List Value) : (zs.map fun v => (SV.d (SD.sc v) : SV U)).map SV.den = zs.map fun v => Ab.V.d (.sc v) := by
  simp [Function.comp_def, SV.den, SD.den]

theorem boundS_ok {σ : SS U} {x : Option Operand} {r : Option Int} (h : boundS σ x = some r) (d : Nat) (h0 : ∀ i, r = some i → 0 ≤ i) : boundV σ.st.ev x d = some ((r.map Int.toNat).getD d) := by
  cases x with
  | none => simp only [boundS, Option.some.injEq] at h; subst h; rfl
  | some x =>
    simp only [boundS] at h
    split at h
    · rename_i i hi
      injection h with h; subst h
      simp only [boundV, ev_den, natS_ok hi (h0 i rfl), Option.map_some, Option.getD_some]
    · cases h

theorem natS_sc {x : ST U} {i : Int} (h1 : natS x = some i) : ∃ kk, scOf x.den = some (.int kk i) := by
  unfold natS at h1; split at h1
  · rename_i kk j; injection h1 with h1; subst h1; exact ⟨kk, rfl⟩
  · cases h1

theorem sopT_ok {op : Op} {σ : SS U} {K : ST U → Prop} (h : sopT V op σ K) : ∃ r, opT P op σ.st = some r.den ∧ K r := by
  unfold sopT at h
  split at h
  · exact ⟨_, by simp only [opT, ev_den], h⟩
  · exact ⟨_, by simp only [opT, ev_den], h⟩
  · rename_i c x y
    split at h
    · rename_i hc; exact ⟨_, by simp only [opT, ev_den, hc]; rfl, h⟩
    · rename_i hc; exact ⟨_, by simp only [opT, ev_den, hc]; rfl, h⟩
    · rename_i b hc
      cases b with
      | true => exact ⟨_, by simp only [opT, ev_den, hc]; rfl, h.1 rfl⟩
      | false => exact ⟨_, by simp only [opT, ev_den, hc]; rfl, h.2 rfl⟩
    · exact h.elim
  · split at h
    · rename_i vx vy ti hx hy ht
      rw [← (V.ty_ok _ ti ht).bo] at h
      obtain ⟨v, r, h1, h2, h3⟩ := binS_ok h
      refine ⟨_, ?_, h3⟩
      simp only [opT, ev_den, scS_ok hx, scS_ok hy, h1, Option.map_some]
      show _ = some (T.e (E.c (Ab.V.d r.den)))
      rw [h2]; rfl
    · exact h.elim
  · split at h
    · rename_i vx hx
      obtain ⟨v, r, h1, h2, h3⟩ := unS_ok h
      refine ⟨_, ?_, h3⟩
      simp only [opT, ev_den, scS_ok hx, h1, Option.map_some]
      show _ = some (T.e (E.c (Ab.V.d r.den)))
      rw [h2]; rfl
    · exact h.elim
  · split at h
    · rename_i ts td k0 n h1 h2 h3
      split at h
      · rename_i k1 k h4 h5
        refine ⟨_, ?_, h⟩
        simp only [opT, ev_den, scS_ok h3, (V.ty_ok _ ts h1).ik, (V.ty_ok _ td h2).ik, h4, h5]
        rfl
      · exact h.elim
    · exact h.elim
  · split at h
    · rename_i ti h1
      split at h
      · rename_i off ft h2
        split at h
        · rename_i tf h3
          split at h
          · rename_i r h4 h5
            refine ⟨r, ?_, h⟩
            rw [getL_eq] at h2
            simp only [opT, ev_den, (V.ty_ok _ ti h1).fld _ _ h2, (V.ty_ok _ tf h3).sz]
            have h6 := Nat.le_of_ble_eq_true h4
            obtain ⟨m, hm⟩ : ∃ m, tf.sz = m + 1 := ⟨tf.sz - 1, by omega⟩
            rw [hm]
            exact faS_ok h5
          · exact h.elim
        · exact h.elim
      · exact h.elim
    · exact h.elim
  · split at h
    · rename_i i hi; exact sidx_ok V hi h
    · exact h.elim
  · split at h
    · rename_i ti hi; exact sload_ok V (V.ty_ok _ ti hi) h
    · exact h.elim
  · split at h
    · rename_i xs hx
      split at h
      · rename_i e he
        refine ⟨_, ?_, h⟩
        rw [getL_eq] at he
        simp only [opT, ev_den, hx]
        show (((xs.map SE.den)[_]?).map T.e) = _
        rw [List.getElem?_map, he]; rfl
      · exact h.elim
    · exact h.elim
  · split at h
    · rename_i ti cs h1 h2
      split at h
      · rename_i off ft h3
        split at h
        · rename_i tf h4
          split at h
          · rename_i r h5
            refine ⟨r, ?_, h⟩
            rw [getL_eq] at h3
            simp only [opT, ev_den, h2, (V.ty_ok _ ti h1).fld _ _ h3]
            exact partS_ok (V.ty_ok _ tf h4) h5
          · exact h.elim
        · exact h.elim
      · exact h.elim
    · exact h.elim
  · split at h
    · rename_i i ti cs h1 h2 h3
      obtain ⟨kk, hsc⟩ := natS_sc h1
      split at h
      · rename_i len e h4
        split at h
        · rename_i te h5
          obtain ⟨h6, h7, h8⟩ := h
          have h9 := splitIx_ok (m := i.toNat) h8 (by omega) (by omega)
          split at h9
          · rename_i r hr
            refine ⟨r, ?_, h9⟩
            simp only [opT, ev_den, hsc, (V.ty_ok _ ti h2).ar, h4, h3]
            show (if 0 ≤ i ∧ i < (len : Int) then (match tsz P e with | some n => partV P e (cs.map SV.den) (i.toNat * n) | none => none) else none) = _
            rw [if_pos ⟨h6, h7⟩, (V.ty_ok _ te h5).sz]
            exact partS_ok (V.ty_ok _ te h5) hr
          · exact h9.elim
        · exact h.elim
      · exact h.elim
    · rename_i i ti s h1 h2 h3
      obtain ⟨kk, hsc⟩ := natS_sc h1
      split at h
      · rename_i h4 h5
        obtain ⟨h6, h7, h8⟩ := h
        refine ⟨_, ?_, h8⟩
        have hT := V.ty_ok _ ti h2
        have hlt : i.toNat < s.data.size := by have : s.size = s.data.size := rfl
                                               omega
        have hc : s[i.toNat]? = some (s.data.toList.getD i.toNat 0) := by
          have e1 : i.toNat < s.size := hlt
          rw [getElem?_pos s i.toNat e1]
          congr 1
          rw [List.getD_eq_getElem?_getD, Array.getElem?_toList, Array.getElem?_eq_getElem hlt]
          rfl
        simp only [opT, ev_den, hsc, hT.ar, h4, h3]
        show (if tstr P _ = true ∧ 0 ≤ i then (match s[i.toNat]? with | some c => some (T.e (E.c (Ab.V.d (D.sc (.int .u8 c.toNat))))) | none => none) else none) = _
        rw [if_pos ⟨hT.st.trans h5, h6⟩, hc]
        rfl
      · exact h.elim
    · exact h.elim
  · split at h
    · rename_i ti h1
      split at h
      · rename_i ps zs h2 h3
        split at h
        · rename_i cs h4
          refine ⟨_, ?_, h⟩
          have h5 := fillS_ok ps _ _ _ h4
          rw [zs_den, List.map_map] at h5
          have T1 := V.ty_ok _ ti h1
          simp only [opT, T1.pl _ h2, T1.zs _ h3, ev_den]
          have e : ((fun p : Nat × ST U => (p.1, p.2.den)) ∘ fun p : Nat × Operand => (p.1, σ.ev p.2)) = fun p => (p.1, (σ.ev p.2).den) := rfl
          rw [e] at h5
          rw [h5]; rfl
        · exact h.elim
      · exact h.elim
    · exact h.elim
  · split at h
    · rename_i ti h1
      split at h
      · rename_i e h2
        split at h
        · rename_i te k h3 h4
          split at h
          · rename_i zs l h5 h6 h7 h8 h9
            refine ⟨_, ?_, h⟩
            have T1 := V.ty_ok _ ti h1
            have T2 := V.ty_ok _ te h3
            have hk := V.kind_ok _ _ h4
            rw [T2.sz, Option.some.injEq] at hk
            have hp := packRows_ok V σ _ _ _ h9
            have hz := T2.zl _ h5
            have h7' := Nat.le_of_ble_eq_true h7
            have h8' := Nat.le_of_ble_eq_true h8
            have hpos := V.pos k
            simp only [opT, T1.sl, h2, T2.sz, T2.zs _ h5]
            rw [if_pos ⟨by simpa using hz, beq_t h6, h8', by omega, by omega⟩, hk, hp.1]
            rfl
          · exact h.elim
        · exact h.elim
      · exact h.elim
    · exact h.elim
  · split at h
    · rename_i ti ln lo hi h1 h2 h3 h4
      split at h
      · rename_i e h5
        split at h
        · rename_i te h6
          have T1 := V.ty_ok _ ti h1
          obtain ⟨a, b, r, e1, hK, ⟨rfl, rfl⟩, e2, e3⟩ := sliceS_ok V h2 h
          refine ⟨r, ?_, hK⟩
          simp only [opT, T1.sl, h5, ev_den, lenS_ok h2, (V.ty_ok _ te h6).sz]
          have b1 := boundS_ok h3 0 e2
          have b2 := boundS_ok h4 ln e3
          have e0 : σ.st.ev = fun x => (σ.ev x).den := funext fun x => ev_den σ x
          rw [b1, b2]
          exact e1
        · exact h.elim
      · exact h.elim
    · exact h.elim
  · split at h
    · rename_i f hf
      split at h
      · rename_i caps hc
        exact ⟨_, by simp only [opT, hf, hc]; rfl, h⟩
      · exact h.elim
    · exact h.elim
  · split at h
    · rename_i hx; exact ⟨_, by simp only [opT, ev_den, hx]; rfl, h⟩
    · rename_i hx; exact ⟨_, by simp only [opT, ev_den, hx]; rfl, h⟩
    · rename_i hx; exact ⟨_, by simp only [opT, ev_den, hx]; rfl, h⟩
    · exact h.elim
  · exact scall_ok V h
  · exact h.elim
end
end Go.Ab
end

section
namespace Go.Ab
open Go Go.RowKit

section
variable {P : Program} {U : Univ}

theorem Taken.not_passed {ops : Array Oper} {o : Oper} {σ : St} (h : Taken ops o σ) (k : Passed ops o σ) : False := by
  obtain ⟨j, want, t, k1, k2, k3⟩ := k
  rcases h with h | ⟨j', want', t', h1, h2, h3⟩
  · rw [h] at k1; cases k1
  · rw [h1] at k1; injection k1 with k1; injection k1 with e1 e2; subst e1; subst e2
    rw [h2] at k2; injection k2 with k2; subst k2
    rw [h3] at k3
    rcases k3 with ⟨b, e, hb⟩ | e
    · injection e with e; injection e with e; injection e with e; injection e with e; injection e with e; subst e; simp at hb
    · cases e

theorem SQ.content {n : Nat} {stay : Nat → Prop} {ops : Array Oper} {o : Oper} {σ σ' : St} {f : Ft} (h : SQ P n stay ops o σ σ' f) (hg : Taken ops o σ) (hlk : ∀ l ∈ lk ops o, l ∈ f.rd) {s : Nat} {cs cs' : List V}
    (hs : σ'.heap s = some cs) (hle : CsLe cs cs') (hw : 2 * s + 1 ∈ f.wr) : SQ P n stay ops o σ ⟨σ'.env, updH σ'.heap s (some cs')⟩ f where
  frame l hl := by
    have := h.frame l hl
    rw [← this]
    unfold St.at
    split
    · rfl
    · simp only [updH]
      rw [if_neg]
      rintro e
      apply hl
      rw [show l = 2 * s + 1 by omega]
      exact hw
  go τ h1 h2 := by
    have ht := hg.congr (looks_of (f := f) hlk h1)
    rcases h.go τ h1 h2 with ⟨_, hst⟩ | ⟨hp, _⟩
    · refine .inl ⟨ht, hst.weak ?_⟩
      have e : over' τ ⟨σ'.env, updH σ'.heap s (some cs')⟩ f.wr = ⟨(over' τ σ' f.wr).env, updH (over' τ σ' f.wr).heap s (some cs')⟩ := by
        unfold over'
        congr 1
        funext u
        simp only [updH]
        by_cases hu : u = s
        · subst hu; simp [hw]
        · simp [hu]
      rw [e]
      exact Weak.content (by simp only [over']; rw [if_pos hw]; exact hs) hle
    · exact (ht.not_passed hp).elim

/-- A step from one symbolic state to the next. -/
structure StepS (P : Program) (n : Nat) (ops : Array Oper) (o : Oper) (keep : List Nat) (σ σ' : SS U) (f : Ft) : Prop where
  sq : SQ P n (· ∈ keep) ops o σ.st σ'.st f
  kl : ∀ s ∈ f.kl, ∀ l, l ∉ f.wr → ¬ (σ.st.at l).names s

def SS.put (σ : SS U) (d : Option Nat) (r : ST U) : SS U := match d with | none => σ | some d => { σ with env := (d, r) :: σ.env }
theorem put_st (σ : SS U) (d : Option Nat) (r : ST U) : (σ.put d r).st = σ.st.put d r.den := by cases d <;> rfl
def dokS (n : Nat) : Option Nat → Bool
  | none => true
  | some d => Nat.blt d n
theorem dokS_ok {n : Nat} {d : Option Nat} (h : dokS n d = true) : dstOK n d := by
  intro j hj
  subst hj
  exact Nat.le_of_ble_eq_true h

def rdS (o : Oper) (σ : SS U) : List Nat :=
  match o.op with
  | .load _ x => (match σ.ev x with | .e (.c (.ptr s _)) => [2 * s + 1] | .e (.c (.rptr s _ _ _)) => [2 * s + 1] | _ => [])
  | _ => []

/- values are looked at before they are put: the kernel's and the tactics' terms stay small -/
def fN (n : Nat) (K : Nat → Prop) : Prop := match n with | 0 => K 0 | m + 1 => K (m + 1)
theorem fN_ok {n : Nat} {K : Nat → Prop} (h : fN n K) : K n := by cases n <;> exact h
def fCap : List (Nat × Nat) → (List (Nat × Nat) → Prop) → Prop
  | [], K => K []
  | (s, o) :: r, K => fN s fun s => fCap r fun r => K ((s, o) :: r)
theorem fCap_ok : ∀ {l : List (Nat × Nat)} {K : List (Nat × Nat) → Prop}, fCap l K → K l
  | [], _, h => h
  | (s, o) :: r, K, h => fCap_ok (l := r) (K := fun r => K ((s, o) :: r)) (fN_ok (K := fun s => fCap r fun r => K ((s, o) :: r)) h)
def fV (v : SV U) (K : SV U → Prop) : Prop :=
  match v with
  | .d (.sc (.int k n)) => K (.d (.sc (.int k n)))
  | .d (.sc v) => K (.d (.sc v))
  | .d (.prp b) => K (.d (.prp b))
  | .d (.lst k l) => K (.d (.lst k l))
  | .ptr s o => fN s fun s => K (.ptr s o)
  | .rptr s k i j => fN s fun s => K (.rptr s k i j)
  | .sub s k o l => fN s fun s => K (.sub s k o l)
  | .own s k l => fN s fun s => K (.own s k l)
  | .pim cs => K (.pim cs)
  | .clo f c => fCap c fun c => K (.clo f c)
  | .mp s => fN s fun s => K (.mp s)
  | .any => K .any
theorem fV_ok {v : SV U} {K : SV U → Prop} (h : fV v K) : K v := by
  unfold fV at h; split at h
  · exact h
  · exact h
  · exact h
  · exact h
  · exact fN_ok (K := fun s => K (.ptr s _)) h
  · exact fN_ok (K := fun s => K (.rptr s _ _ _)) h
  · exact fN_ok (K := fun s => K (.sub s _ _ _)) h
  · exact fN_ok (K := fun s => K (.own s _ _)) h
  · exact h
  · exact fCap_ok (K := fun c => K (.clo _ c)) h
  · exact fN_ok (K := fun s => K (.mp s)) h
  · exact h
def fVs : List (SV U) → (List (SV U) → Prop) → Prop
  | [], K => K []
  | v :: r, K => fV v fun v => fVs r fun r => K (v :: r)
theorem fVs_ok : ∀ {l : List (SV U)} {K : List (SV U) → Prop}, fVs l K → K l
  | [], _, h => h
  | v :: r, K, h => fVs_ok (l := r) (K := fun r => K (v :: r)) (fV_ok (K := fun v => fVs r fun r => K (v :: r)) h)
def fE (x : SE U) (K : SE U → Prop) : Prop :=
  match x with
  | .c v => fV v fun v => K (.c v)
  | .agg vs => fVs vs fun vs => K (.agg vs)
theorem fE_ok {x : SE U} {K : SE U → Prop} (h : fE x K) : K x := by
  unfold fE at h; split at h
  · exact fV_ok (K := fun v => K (.c v)) h
  · exact fVs_ok (K := fun vs => K (.agg vs)) h
def fEs : List (SE U) → (List (SE U) → Prop) → Prop
  | [], K => K []
  | v :: r, K => fE v fun v => fEs r fun r => K (v :: r)
theorem fEs_ok : ∀ {l : List (SE U)} {K : List (SE U) → Prop}, fEs l K → K l
  | [], _, h => h
  | v :: r, K, h => fEs_ok (l := r) (K := fun r => K (v :: r)) (fE_ok (K := fun v => fEs r fun r => K (v :: r)) h)
def fT (x : ST U) (K : ST U → Prop) : Prop :=
  match x with
  | .e x => fE x fun x => K (.e x)
  | .tup xs => fEs xs fun xs => K (.tup xs)
  | .any => K .any
theorem fT_ok {x : ST U} {K : ST U → Prop} (h : fT x K) : K x := by
  unfold fT at h; split at h
  · exact fE_ok (K := fun v => K (.e v)) h
  · exact fEs_ok (K := fun vs => K (.tup vs)) h
  · exact h

/- whole states -/
def fB (b : Blk U) (K : Blk U → Prop) : Prop :=
  match b with
  | .cells cs => fVs cs fun cs => K (.cells cs)
  | .rows k l => K (.rows k l)
  | .mapb es => K (.mapb es)
theorem fB_ok {b : Blk U} {K : Blk U → Prop} (h : fB b K) : K b := by
  unfold fB at h; split at h
  · exact fVs_ok (K := fun cs => K (.cells cs)) h
  · exact h
  · exact h
def fHp : List (Nat × Blk U) → (List (Nat × Blk U) → Prop) → Prop
  | [], K => K []
  | (s, b) :: r, K => fN s fun s => fB b fun b => fHp r fun r => K ((s, b) :: r)
theorem fHp_ok : ∀ {l : List (Nat × Blk U)} {K : List (Nat × Blk U) → Prop}, fHp l K → K l
  | [], _, h => h
  | (s, b) :: r, K, h => fHp_ok (l := r) (K := fun r => K ((s, b) :: r)) (fB_ok (K := fun b => fHp r fun r => K ((s, b) :: r)) (fN_ok (K := fun s => fB b fun b => fHp r fun r => K ((s, b) :: r)) h))
def fE2 (E : List (Nat × ST U)) (K : List (Nat × ST U) → Prop) : Prop :=
  match E with
  | [] => K []
  | (i, t) :: [] => K [(i, t)]
  | (i, t) :: y :: r => K ((i, t) :: y :: r)
theorem fE2_ok {E : List (Nat × ST U)} {K : List (Nat × ST U) → Prop} (h : fE2 E K) : K E := by
  unfold fE2 at h; split at h <;> exact h
def fEF : List (Nat × ST U) → (List (Nat × ST U) → Prop) → Prop
  | [], K => K []
  | (i, t) :: r, K => fT t fun t => fEF r fun r => K ((i, t) :: r)
theorem fEF_ok : ∀ {l : List (Nat × ST U)} {K : List (Nat × ST U) → Prop}, fEF l K → K l
  | [], _, h => h
  | (i, t) :: r, K, h => fEF_ok (l := r) (K := fun r => K ((i, t) :: r)) (fT_ok (K := fun t => fEF r fun r => K ((i, t) :: r)) h)
def fS (σ : SS U) (K : SS U → Prop) : Prop := match σ with | ⟨E, H, C⟩ => fE2 E fun E => fHp H fun H => fN C fun C => K ⟨E, H, C⟩
theorem fS_ok {σ : SS U} {K : SS U → Prop} (h : fS σ K) : K σ := by
  obtain ⟨E, H, C⟩ := σ
  exact fN_ok (K := fun C => K ⟨E, H, C⟩) (fHp_ok (K := fun H => fN C fun C => K ⟨E, H, C⟩) (fE2_ok (K := fun E => fHp H fun H => fN C fun C => K ⟨E, H, C⟩) h))
def fSF (σ : SS U) (K : SS U → Prop) : Prop := match σ with | ⟨E, H, C⟩ => fEF E fun E => fHp H fun H => fN C fun C => K ⟨E, H, C⟩
theorem fSF_ok {σ : SS U} {K : SS U → Prop} (h : fSF σ K) : K σ := by
  obtain ⟨E, H, C⟩ := σ
  exact fN_ok (K := fun C => K ⟨E, H, C⟩) (fHp_ok (K := fun H => fN C fun C => K ⟨E, H, C⟩) (fEF_ok (K := fun E => fHp H fun H => fN C fun C => K ⟨E, H, C⟩) h))

variable (V : Views P U) (n : Nat) (ops : Array Oper) (keep : List Nat) (o : Oper) (σ : SS U) (K : SS U → Ft → Prop)

def spure : Prop := match dokS n o.dst with | true => sopT V o.op σ fun r => fT r fun r => K (σ.put o.dst r) ⟨rdS o σ ++ lk ops o, dl o, []⟩ | false => False

variable {V n ops keep o σ K}

theorem SQ.rdMore {stay : Nat → Prop} {σ σ' : St} {rd rd' wr kl : List Nat} (h : SQ P n stay ops o σ σ' ⟨rd, wr, kl⟩) (hr : ∀ l ∈ rd, l ∈ rd') : SQ P n stay ops o σ σ' ⟨rd', wr, kl⟩ where
  frame := h.frame
  go τ h1 h2 := h.go τ (fun l hl => h1 l (hl.imp (hr l) id)) h2

theorem spure_ok (h : spure V n ops o σ K) (hg : Taken ops o σ.st) : ∃ σ' f, StepS P n ops o keep σ σ' f ∧ K σ' f := by
  unfold spure at h
  split at h
  case h_2 => exact h.elim
  rename_i hd
  have hd := dokS_ok hd
  obtain ⟨r, hr, hK⟩ := sopT_ok V h
  refine ⟨_, _, ⟨?_, fun s hs => by simp at hs⟩, fT_ok (K := fun r => K (σ.put o.dst r) _) hK⟩
  rw [put_st]
  rcases opT_pure (o := o) hr with hp | ⟨t, x, s, off, cs, h1, h2, h3, h4⟩
  · exact (SQ.pure hg hp hd).rdMore fun l hl => List.mem_append.2 (.inr hl)
  · refine (SQ.load hg t x s off cs h1 h2 h3 h4 hd).rdMore fun l hl => ?_
    rcases List.mem_cons.1 hl with rfl | hl
    · refine List.mem_append.2 (.inl ?_)
      unfold rdS
      rw [h1]
      simp only
      rw [ev_den] at h2
      cases hx : σ.ev x with
      | e e =>
        rw [hx] at h2
        cases e with
        | c v =>
          simp only [ST.den, SE.den, T.e.injEq, E.c.injEq] at h2
          cases v <;> simp only [SV.den, reduceCtorEq, Ab.V.ptr.injEq] at h2
          · simp [h2.1]
          · simp [h2.1]
        | agg vs => cases h2
      | tup xs => rw [hx] at h2; cases h2
      | any => rw [hx] at h2; cases h2
    · exact List.mem_append.2 (.inr hl)

/-- A new block. -/
def snew (n : Nat) (ops : Array Oper) (keep : List Nat) (o : Oper) (σ : SS U) (b : Blk U) (r : ST U) (K : SS U → Ft → Prop) : Prop :=
  match dokS n o.dst, getH σ.heap σ.ctr, keep.contains σ.ctr with
  | true, none, false => K { σ.put o.dst r with heap := (σ.ctr, b) :: σ.heap, ctr := σ.ctr + 1 } ⟨lk ops o, (2 * σ.ctr + 1) :: dl o, []⟩
  | _, _, _ => False

theorem new_st (σ : SS U) (d : Option Nat) (r : ST U) (b : Blk U) (c : Nat) : ({ σ.put d r with heap := (σ.ctr, b) :: σ.heap, ctr := c } : SS U).st = ⟨(σ.st.put d r.den).env, updH σ.st.heap σ.ctr (some b.den)⟩ := by
  have h1 := put_st σ d r
  have h2 : (σ.put d r).heap = σ.heap := by cases d <;> rfl
  unfold SS.st at h1 ⊢
  simp only
  rw [← h1]
  congr 1

theorem snew_ok {b : Blk U} {r : ST U} (h : snew n ops keep o σ b r K) (hg : Taken ops o σ.st) (cs : List Ab.V) (ha : AllocOK P o σ.st.ev σ.ctr cs r.den) (hle : CsLe cs b.den) : ∃ σ' f, StepS P n ops o keep σ σ' f ∧ K σ' f := by
  unfold snew at h
  split at h
  · rename_i h1 h2 h3
    refine ⟨_, _, ⟨?_, fun s hs => by simp at hs⟩, h⟩
    rw [new_st]
    have hf : σ.st.heap σ.ctr = none := by rw [st_heap, h2]; rfl
    have hk : ¬ σ.ctr ∈ keep := by
      intro hc
      have : keep.contains σ.ctr = true := by simpa using hc
      rw [h3] at this; cases this
    have := SQ.alloc (P := P) (n := n) (stay := (· ∈ keep)) hg σ.ctr cs ha (dokS_ok h1) hk hf
    have h5 := this.content hg (fun _ h => h) (s := σ.ctr) (cs := cs) (cs' := b.den) (by simp [updH]) hle (by simp)
    refine cast (congrArg (fun z => SQ P n (· ∈ keep) ops o σ.st z _) ?_) h5
    congr 1
    funext u
    simp only [updH]
    split <;> rfl
  · exact h.elim

/-- A store. -/
def sstore (V : Views P U) (ops : Array Oper) (o : Oper) (σ : SS U) (t : TypeId) (x y : Operand) (K : SS U → Ft → Prop) : Prop :=
  match o.dst, V.ty t, σ.ev x, σ.ev y with
  | none, some ti, .e (.c (.ptr s off)), .e e =>
    (match getH σ.heap s with
     | some (.cells cs) => (match Nat.beq e.cells.length ti.sz, Nat.ble (off + ti.sz) cs.length with
       | true, true => K { σ with heap := setB σ.heap s (.cells (splS cs off e.cells)) } ⟨lk ops o, (2 * s + 1) :: dl o, []⟩
       | _, _ => False)
     | _ => False)
  | none, some ti, .e (.c (.rptr s k i j)), .e e =>
    (match getH σ.heap s with
     | some (.rows k' l) => (match V.cast k k' l, Nat.beq e.cells.length ti.sz, Nat.ble (j + ti.sz) (U.w k), toSDs e.cells with
       | some l, true, true, some ds => atL l i fun x => (match V.pack k ((V.row k x).take j ++ ds ++ (V.row k x).drop (j + ds.length)) with
         | some x' => K { σ with heap := setB σ.heap s (.rows k (l.set i x')) } ⟨lk ops o, (2 * s + 1) :: dl o, []⟩
         | none => False)
       | _, _, _, _ => False)
     | _ => False)
  | _, _, _, _ => False

theorem setB_st (σ : SS U) (s : Nat) (b b0 : Blk U) (h : getH σ.heap s = some b0) : ({ σ with heap := setB σ.heap s b } : SS U).st = ⟨σ.st.env, updH σ.st.heap s (some b.den)⟩ := by
  unfold SS.st
  simp only
  congr 1
  funext u
  rw [mkH_denH, getH_setB _ _ _ _ _ h]
  simp only [updH]
  split
  · rfl
  · rw [mkH_denH]

theorem splice_mid (A B : List D) (ex ds : List D) (j : Nat) (hj : j + ds.length ≤ ex.length) :
    (A ++ ex ++ B).take (A.length + j) ++ ds ++ (A ++ ex ++ B).drop (A.length + j + ds.length) = A ++ (ex.take j ++ ds ++ ex.drop (j + ds.length)) ++ B := by
  rw [List.append_assoc A ex B, List.take_length_add_append, List.take_append_of_le_length (by omega), Nat.add_assoc, List.drop_length_add_append, List.drop_append_of_le_length (by omega)]
  simp [List.append_assoc]

theorem flat_split {V : Views P U} (k : U.K) (l : List (U.El k)) {i : Nat} {x : U.El k} (hx : l[i]? = some x) : ∃ A B, flatD k l = A ++ U.enc k x ++ B ∧ A.length = i * U.w k ∧ (∀ y, flatD k (l.set i y) = A ++ U.enc k y ++ B) ∧ A.map D.norm = A ∧ B.map D.norm = B := by
  obtain ⟨hi, rfl⟩ := List.getElem?_eq_some_iff.1 hx
  have hn : ∀ l : List (U.El k), (flatD k l).map D.norm = flatD k l := by
    intro l
    induction l with
    | nil => rfl
    | cons a r ih =>
      have : flatD k (a :: r) = U.enc k a ++ flatD k r := rfl
      rw [this, List.map_append, V.nrm, ih]
  have ha : ∀ a b : List (U.El k), flatD k (a ++ b) = flatD k a ++ flatD k b := fun a b => by simp [flatD]
  refine ⟨flatD k (l.take i), flatD k (l.drop (i + 1)), ?_, ?_, fun y => ?_, hn _, hn _⟩
  · have e : l = l.take i ++ l[i] :: l.drop (i + 1) := by rw [← List.drop_eq_getElem_cons hi, List.take_append_drop]
    have h1 := congrArg (flatD k) e
    rw [ha] at h1
    rw [h1, List.append_assoc]; rfl
  · rw [flatD_len V, List.length_take, Nat.min_eq_left (Nat.le_of_lt hi)]
  · rw [List.set_eq_take_append_cons_drop, if_pos hi, ha, List.append_assoc]; rfl

theorem sstore_ok {t : TypeId} {x y : Operand} (h : sstore V ops o σ t x y K) (hg : Taken ops o σ.st) (ho : o.op = .store t x y) : ∃ σ' f, StepS P n ops o keep σ σ' f ∧ K σ' f := by
  unfold sstore at h
  split at h
  · rename_i ti s off e hdst hti hx hy
    have T1 := V.ty_ok _ _ hti
    split at h
    · rename_i cs hs
      split at h
      · rename_i h1 h2
        refine ⟨_, _, ⟨?_, fun s hs => by simp at hs⟩, h⟩
        rw [setB_st _ _ _ _ hs]
        have := SQ.store (P := P) (n := n) (stay := (· ∈ keep)) hg t x y ho hdst s off (cs.map SV.den) e.den ti.sz (by rw [ev_den, hx]; rfl) (by rw [ev_den, hy]; rfl) (by rw [st_heap, hs]; rfl) T1.sz
          (by rw [cells_den]; simpa using beq_t h1) (by simpa using Nat.le_of_ble_eq_true h2) (cells_notM cs)
        rw [cells_den, ← splS_den] at this
        exact this
      · exact h.elim
    · exact h.elim
  · rename_i ti s k i j e hdst hti hx hy
    have T1 := V.ty_ok _ _ hti
    split at h
    · rename_i k' l0 hs
      split at h
      · rename_i l ds hl h1 h2 h3
        obtain ⟨a, ha, h⟩ := atL_ok h
        split at h
        · rename_i a' hp
          refine ⟨_, _, ⟨?_, fun s hs => by simp at hs⟩, h⟩
          rw [setB_st _ _ _ _ hs]
          have hc := V.cast_ok _ _ _ _ hl
          have e1 : flatD k' l0 = flatD k l := by unfold flatD; rw [hc.1]
          have h1 := beq_t h1
          have h2 := Nat.le_of_ble_eq_true h2
          have hce := toSDs_ok _ _ h3
          have hdl : ds.length = ti.sz := by
            have := congrArg List.length hce
            rw [List.length_map] at this
            omega
          obtain ⟨A, B, f1, f2, f3, f4, f5⟩ := flat_split (V := V) k l ha
          have hwk := V.len k a
          have hfl : (flatD k l).length = A.length + U.w k + B.length := by rw [f1, List.length_append, List.length_append, hwk]
          have := SQ.store (P := P) (n := n) (stay := (· ∈ keep)) hg t x y ho hdst s (i * U.w k + j) ((flatD k l).map .d) e.den ti.sz (by rw [ev_den, hx]; rfl) (by rw [ev_den, hy]; rfl) (by rw [st_heap, hs]; simp only [Option.map_some, Blk.den, e1]) T1.sz
            (by rw [cells_den]; simpa using h1) (by rw [List.length_map, hfl]; omega) (ds_notM _)
          have h6 := this.content hg (fun _ h => h) (s := s) (cs' := (flatD k (l.set i a')).map .d) (by simp [updH]; rfl) ?_ (by simp)
          · refine cast (congrArg (fun z => SQ P n (· ∈ keep) ops o σ.st z _) ?_) h6
            congr 1
            funext u
            simp only [updH]
            split <;> rfl
          · have e2 : splice ((flatD k l).map Ab.V.d) (i * U.w k + j) e.den.cells = ((flatD k l).take (A.length + j) ++ ds.map SD.den ++ (flatD k l).drop (A.length + j + (ds.map SD.den).length)).map Ab.V.d := by
              rw [cells_den, hce, ← f2]
              simp [splice, List.map_drop, List.map_take, Function.comp_def, SV.den]
            rw [e2, f1, splice_mid _ _ _ _ _ (by simp; omega), f3]
            have e3 := V.pack_ok _ _ _ hp
            have e4 : U.enc k a' = (((U.enc k a).take j ++ ds.map SD.den ++ (U.enc k a).drop (j + (ds.map SD.den).length))).map D.norm := by
              rw [← e3, ← V.row_ok k a]
              simp [List.map_drop, List.map_take, Function.comp_def]
            have e5 := CsLe.norm ((A ++ ((U.enc k a).take j ++ ds.map SD.den ++ (U.enc k a).drop (j + (ds.map SD.den).length)) ++ B).map Ab.V.d)
            refine cast (congrArg (CsLe _) ?_) e5
            rw [e4, List.map_map]
            have e6 : (Ab.V.norm ∘ Ab.V.d) = Ab.V.d ∘ D.norm := rfl
            rw [e6, ← List.map_map]
            refine congrArg (List.map Ab.V.d) ?_
            rw [List.map_append, List.map_append, f4, f5]
        · exact h.elim
      · exact h.elim
    · exact h.elim
  · exact h.elim
end
end Go.Ab
end

section
namespace Go.Ab
open Go Go.RowKit

section
variable {P : Program} {U : Univ}

def SV.nm (s : Nat) : SV U → Bool
  | .ptr t _ => Nat.beq t s
  | .rptr t _ _ _ => Nat.beq t s
  | .sub t _ _ _ => Nat.beq t s
  | .own t _ _ => Nat.beq t s
  | .clo _ caps => caps.any fun p => Nat.beq p.1 s
  | .mp t => Nat.beq t s
  | _ => false
def SE.nm (s : Nat) : SE U → Bool
  | .c v => v.nm s
  | .agg vs => vs.any (SV.nm s)
def ST.nm (s : Nat) : ST U → Bool
  | .e x => x.nm s
  | .tup xs => xs.any (SE.nm s)
  | .any => false
theorem beq_eq (a b : Nat) : Nat.beq a b = (a == b) := by
  rw [Bool.eq_iff_iff, beq_iff_eq]
  exact ⟨Nat.eq_of_beq_eq_true, fun h => by subst h; exact Nat.beq_refl a⟩
theorem SV.nm_den (s : Nat) (v : SV U) : v.den.nmB s = v.nm s := by cases v <;> simp [SV.den, SV.nm, V.nmB, beq_eq]
theorem SE.nm_den (s : Nat) (x : SE U) : x.den.nmB s = x.nm s := by
  cases x with
  | c v => exact SV.nm_den s v
  | agg vs => simp only [SE.den, E.nmB, SE.nm, List.any_map]; congr 1; funext v; exact SV.nm_den s v
theorem ST.nm_den (s : Nat) (x : ST U) : x.den.nmB s = x.nm s := by
  cases x with
  | e v => exact SE.nm_den s v
  | tup vs => simp only [ST.den, T.nmB, ST.nm, List.any_map]; congr 1; funext v; exact SE.nm_den s v
  | any => rfl

def SV.kl (s : Nat) (v : SV U) : SV U := match v.nm s with | true => .any | false => v
def ST.kl (s : Nat) (v : ST U) : ST U := match v.nm s with | true => .any | false => v
theorem SV.kl_den (s : Nat) (v : SV U) : (v.kl s).den = v.den.kill s := by
  unfold SV.kl
  have h := SV.nm_den s v
  split
  · rename_i e
    rw [e] at h
    have := V.nmB_iff.1 h
    cases v <;> simp_all [SV.den, V.kill, V.names, SV.nm, V.nmB]
  · rename_i e
    rw [e] at h
    exact (V.kill_id (fun hn => by rw [V.nmB_iff.2 hn] at h; cases h)).symm
def Blk.kl (s : Nat) : Blk U → Blk U
  | .cells cs => .cells (cs.map (SV.kl s))
  | b => b
theorem Blk.kl_den (s : Nat) (b : Blk U) : (b.kl s).den = b.den.map (V.kill s) := by
  cases b with
  | cells cs => simp only [Blk.kl, Blk.den, List.map_map]; congr 1; funext v; exact SV.kl_den s v
  | rows k l => simp [Blk.kl, Blk.den, Function.comp_def, V.kill]
  | mapb es => simp [Blk.kl, Blk.den, V.kill]

def klE (s : Nat) (l : List (Nat × ST U)) : List (Nat × ST U) := l.map fun p => (p.1, p.2.kl s)
def klH (s : Nat) : List (Nat × Blk U) → List (Nat × Blk U)
  | [] => []
  | (j, b) :: r => match Nat.beq j s with | true => klH s r | false => (j, b.kl s) :: klH s r
theorem getE_kl (s : Nat) : ∀ (l : List (Nat × ST U)) (i : Nat), getE (klE s l) i = (getE l i).kl s
  | [], _ => rfl
  | (j, t) :: r, i => by
    simp only [klE, List.map_cons, getE]
    split
    · rfl
    · exact getE_kl s r i
theorem getH_kl (s : Nat) : ∀ (l : List (Nat × Blk U)) (u : Nat), getH (klH s l) u = if u = s then none else (getH l u).map (Blk.kl s)
  | [], u => by simp [klH, getH]
  | (j, t) :: r, u => by
    simp only [klH]
    cases hj : Nat.beq j s with
    | true =>
      simp only
      rw [getH_kl s r u]
      by_cases hu : u = s
      · simp [hu]
      · have : Nat.beq u j = false := by
          cases h : Nat.beq u j with
          | false => rfl
          | true => exact absurd ((beq_t h).trans (beq_t hj)) hu
        simp only [hu, if_false, getH, this]
    | false =>
      simp only [getH]
      cases h : Nat.beq u j with
      | true =>
        have e := beq_t h
        rw [if_neg (by rw [e]; exact beq_f hj)]; rfl
      | false => exact getH_kl s r u

def tmpsS (s : Nat) (l : List (Nat × ST U)) : List Nat := (l.map (·.1)).filter fun i => (getE l i).nm s
def blksS (s : Nat) (l : List (Nat × Blk U)) : List Nat := (l.map (·.1)).filter fun i => match getH l i with | some (.cells cs) => cs.any (SV.nm s) | _ => false

theorem getE_mem : ∀ (l : List (Nat × ST U)) (i : Nat), getE l i ≠ .any → i ∈ l.map (·.1)
  | [], _, h => by simp [getE] at h
  | (j, t) :: r, i, h => by
    simp only [getE] at h
    cases hj : Nat.beq i j with
    | true => simp [beq_t hj]
    | false => rw [hj] at h; simp only at h; simp only [List.map_cons, List.mem_cons]; exact .inr (getE_mem r i h)
theorem getH_mem : ∀ (l : List (Nat × Blk U)) (i : Nat) (b : Blk U), getH l i = some b → i ∈ l.map (·.1)
  | [], _, _, h => by simp [getH] at h
  | (j, t) :: r, i, b, h => by
    simp only [getH] at h
    cases hj : Nat.beq i j with
    | true => simp [beq_t hj]
    | false => rw [hj] at h; simp only at h; simp only [List.map_cons, List.mem_cons]; exact .inr (getH_mem r i b h)
theorem tmpsS_ok (s : Nat) (l : List (Nat × ST U)) (i : Nat) : i ∈ tmpsS s l ↔ (getE l i).nm s = true := by
  unfold tmpsS
  rw [List.mem_filter]
  refine ⟨fun h => h.2, fun h => ⟨getE_mem l i ?_, h⟩⟩
  intro e; rw [e] at h; cases h
theorem blksS_of (s : Nat) (l : List (Nat × Blk U)) (u : Nat) (b : Blk U) (h : getH l u = some b) (hn : ∃ v ∈ b.den, v.names s) : u ∈ blksS s l := by
  unfold blksS
  rw [List.mem_filter]
  refine ⟨getH_mem l u b h, ?_⟩
  simp only [h]
  obtain ⟨v, hv, hn⟩ := hn
  cases b with
  | cells cs =>
    simp only [Blk.den, List.mem_map] at hv
    obtain ⟨a, ha, rfl⟩ := hv
    simp only [List.any_eq_true]
    exact ⟨a, ha, by rw [← SV.nm_den]; exact V.nmB_iff.2 hn⟩
  | rows k l =>
    simp only [Blk.den, List.mem_map] at hv
    obtain ⟨a, ha, rfl⟩ := hv
    exact hn.elim
  | mapb es =>
    simp only [Blk.den, List.mem_singleton] at hv
    subst hv
    exact hn.elim

/-- What is appended or copied: the elements. -/
def srcS (V : Views P U) (k : U.K) (σ : SS U) (y : ST U) (K : List (U.El k) → Prop) : Prop :=
  match y with
  | .e (.c (.d (.lst k' l))) => (match V.cast k k' l with | some l => K l | none => False)
  | .e (.c (.d (.sc (.slice none 0 0)))) => K []
  | .e (.c (.own s k' len)) => (match getH σ.heap s with
    | some (.rows k2 l) => (match V.cast k k2 l, Nat.beq (U.w k') (U.w k) with | some l, true => len = l.length ∧ K l | _, _ => False)
    | _ => False)
  | .e (.c (.sub s k' off len)) => (match getH σ.heap s with
    | some (.rows k2 l) => (match V.cast k k2 l, Nat.beq (U.w k') (U.w k) with | some l, true => off + len ≤ l.length ∧ K ((l.drop off).take len) | _, _ => False)
    | _ => False)
  | _ => False

def labS : ST U → List Nat
  | .e (.c (.own s _ _)) => [s]
  | .e (.c (.sub s _ _ _)) => [s]
  | _ => []

theorem flat_take (V : Views P U) (k : U.K) (l : List (U.El k)) (off len : Nat) : ((flatD k l).drop (off * U.w k)).take (len * U.w k) = flatD k ((l.drop off).take len) := by
  have hd : ∀ (l : List (U.El k)) (off : Nat), (flatD k l).drop (off * U.w k) = flatD k (l.drop off) := by
    intro l
    induction l with
    | nil => intro off; simp [flatD]
    | cons a r ih =>
      intro off
      cases off with
      | zero => simp
      | succ m =>
        have : flatD k (a :: r) = U.enc k a ++ flatD k r := rfl
        rw [this, Nat.succ_mul, Nat.add_comm, List.drop_append, V.len]
        rw [List.drop_of_length_le (by rw [V.len]; omega)]
        simp [ih]
  have ht : ∀ (l : List (U.El k)) (len : Nat), (flatD k l).take (len * U.w k) = flatD k (l.take len) := by
    intro l
    induction l with
    | nil => intro len; simp [flatD]
    | cons a r ih =>
      intro len
      cases len with
      | zero => simp [flatD]
      | succ m =>
        have h1 : flatD k (a :: r) = U.enc k a ++ flatD k r := rfl
        have h2 : flatD k ((a :: r).take (m + 1)) = U.enc k a ++ flatD k (r.take m) := rfl
        rw [h1, h2, Nat.succ_mul, Nat.add_comm, List.take_append, V.len, List.take_of_length_le (by rw [V.len]; omega)]
        simp [ih]
  rw [hd, ht]

theorem srcS_ok {V : Views P U} {k : U.K} {σ : SS U} {y : ST U} {K : List (U.El k) → Prop} (h : srcS V k σ y K) : ∃ l, srcV (U.w k) σ.st.heap y.den = some ((flatD k l).map .d, l.length) ∧ K l ∧ ∀ u, y.den.names u → u ∈ labS y := by
  unfold srcS at h
  split at h
  · rename_i k' l
    split at h
    · rename_i l2 hl
      have hc := V.cast_ok _ _ _ _ hl
      refine ⟨l2, ?_, h, fun u hu => hu.elim⟩
      simp only [ST.den, SE.den, SV.den, SD.den, srcV]
      rw [hc.1, if_pos (enc_all V k l2)]
      simp [flatD]
    · exact h.elim
  · exact ⟨[], rfl, h, fun u hu => hu.elim⟩
  · rename_i s k' len
    split at h
    · rename_i k2 l0 hs
      split at h
      · rename_i l hl hw
        have hc := V.cast_ok _ _ _ _ hl
        have e1 : flatD k2 l0 = flatD k l := by unfold flatD; rw [hc.1]
        obtain ⟨rfl, h⟩ := h
        refine ⟨l, ?_, h, fun u hu => by cases hu; simp [labS]⟩
        simp only [ST.den, SE.den, SV.den, srcV, st_heap, hs, Option.map_some, Blk.den, e1]
        rw [if_pos ⟨beq_t hw, by rw [List.length_map, flatD_len V]; omega⟩]
        have := flat_take V k l 0 l.length
        simp only [Nat.zero_mul, List.drop_zero, List.take_length] at this
        rw [List.drop_zero, ← List.map_take, this]
      · exact h.elim
    · exact h.elim
  · rename_i s k' off len
    split at h
    · rename_i k2 l0 hs
      split at h
      · rename_i l hl hw
        have hc := V.cast_ok _ _ _ _ hl
        have e1 : flatD k2 l0 = flatD k l := by unfold flatD; rw [hc.1]
        obtain ⟨h1, h⟩ := h
        refine ⟨(l.drop off).take len, ?_, h, fun u hu => by cases hu; simp [labS]⟩
        simp only [ST.den, SE.den, SV.den, srcV, st_heap, hs, Option.map_some, Blk.den, e1]
        rw [beq_t hw, if_pos ⟨rfl, by rw [List.length_map, flatD_len V, ← Nat.add_mul]; exact Nat.mul_le_mul_right _ h1⟩]
        rw [← flat_take V, List.map_take, List.map_drop]
        simp; omega
      · exact h.elim
    · exact h.elim
  · exact h.elim
end
end Go.Ab
end

section
namespace Go.Ab
open Go Go.RowKit

section
variable {P : Program} {U : Univ}

def smake (V : Views P U) (n : Nat) (ops : Array Oper) (keep : List Nat) (o : Oper) (σ : SS U) (t : TypeId) (lx cx : Operand) (K : SS U → Ft → Prop) : Prop :=
  match V.ty t, natS (σ.ev lx), natS (σ.ev cx) with
  | some ti, some l, some c =>
    (match ti.sl with
     | some e => (match V.ty e, V.kind e with
       | some te, some k => (match te.zs with
         | some zs => (match V.pack k (zs.map .sc) with
           | some z => 0 ≤ l ∧ l = c ∧ te.bys * l.toNat ≤ 281474976710656 ∧ l ≤ 281474976710656 ∧ snew n ops keep o σ (.rows k (List.replicate l.toNat z)) (.e (.c (.own σ.ctr k l.toNat))) K
           | none => False)
         | none => False)
       | _, _ => False)
     | none => False)
  | _, _, _ => False

variable {V : Views P U} {n : Nat} {ops : Array Oper} {keep : List Nat} {o : Oper} {σ : SS U} {K : SS U → Ft → Prop}

theorem flat_rep (k : U.K) (z : U.El k) (m : Nat) : (flatD k (List.replicate m z)).map Ab.V.d = rep m ((U.enc k z).map Ab.V.d) := by
  induction m with
  | zero => rfl
  | succ m ih =>
    have h1 : flatD k (List.replicate (m + 1) z) = U.enc k z ++ flatD k (List.replicate m z) := by rw [List.replicate_succ]; rfl
    have h2 : rep (m + 1) ((U.enc k z).map Ab.V.d) = (U.enc k z).map Ab.V.d ++ rep m ((U.enc k z).map Ab.V.d) := by simp only [rep, List.replicate_succ]; rfl
    rw [h1, h2, List.map_append, ih]

theorem rep_map (f : Ab.V → Ab.V) (m : Nat) (l : List Ab.V) : (rep m l).map f = rep m (l.map f) := by
  induction m with
  | zero => rfl
  | succ m ih =>
    have h2 : ∀ l, rep (m + 1) l = l ++ rep m l := fun l => by simp only [rep, List.replicate_succ]; rfl
    rw [h2, h2, List.map_append, ih]

theorem natS_int {x : ST U} {i : Int} (h : natS x = some i) : ∃ k, x.den = .e (.c (.d (.sc (.int k i)))) := by
  unfold natS at h; split at h
  · rename_i k j; injection h with h; subst h; exact ⟨k, rfl⟩
  · cases h

theorem smake_ok {t : TypeId} {lx cx : Operand} (h : smake V n ops keep o σ t lx cx K) (hg : Taken ops o σ.st) (ho : o.op = .makeSlice t lx cx) : ∃ σ' f, StepS P n ops o keep σ σ' f ∧ K σ' f := by
  unfold smake at h
  split at h
  · rename_i ti l c h1 h2 h3
    split at h
    · rename_i e h4
      split at h
      · rename_i te k h5 h6
        split at h
        · rename_i zs h7
          split at h
          · rename_i z h8
            obtain ⟨a1, rfl, a3, a4, h⟩ := h
            have T1 := V.ty_ok _ _ h1
            have T2 := V.ty_ok _ _ h5
            have hk := V.kind_ok _ _ h6
            rw [T2.sz, Option.some.injEq] at hk
            obtain ⟨kl, hl⟩ := natS_int h2
            obtain ⟨kc, hc⟩ := natS_int h3
            have e0 : l = ((l.toNat : Nat) : Int) := by omega
            have := alloc_makeSlice (P := P) (o := o) (ev := σ.st.ev) t lx cx ho σ.ctr e (U.w k) te.bys (zs.map fun v => .d (.sc v)) l.toNat kl kc (by rw [T1.sl, h4]) (by rw [T2.sz, hk]) T2.bys (T2.zs _ h7) (by simp [T2.zl _ h7, hk])
              (by rw [ev_den, hl, ← e0]) (by rw [ev_den, hc, ← e0]) a3 (by omega)
            refine snew_ok h hg _ this ?_
            have e1 := V.pack_ok _ _ _ h8
            have e2 := CsLe.norm (rep l.toNat (zs.map fun v => Ab.V.d (.sc v)))
            refine cast (congrArg (CsLe _) ?_) e2
            simp only [Blk.den]
            rw [flat_rep, rep_map, ← e1]
            simp [Function.comp_def, SD.den, Ab.V.norm]
          · exact h.elim
        · exact h.elim
      · exact h.elim
    · exact h.elim
  · exact h.elim

def sapp (V : Views P U) (n : Nat) (ops : Array Oper) (keep : List Nat) (o : Oper) (σ : SS U) (x y : Operand) (t : TypeId) (K : SS U → Ft → Prop) : Prop :=
  match o.dst, V.ty t with
  | some d, some ti =>
    (match ti.sl with
     | some e => (match V.ty e, V.kind e with
       | some te, some k => (match te.zs, Nat.blt d n, getH σ.heap σ.ctr, keep.contains σ.ctr with
         | some _, true, none, false =>
           (match σ.ev x with
            | .e (.c (.d (.sc (.slice none 0 0)))) => srcS V k σ (σ.ev y) fun l =>
              l ≠ [] ∧ l.length * te.bys ≤ 140737488355328 ∧ l.length ≤ 140737488355328 ∧
                K { env := (d, .e (.c (.own σ.ctr k l.length))) :: σ.env, heap := (σ.ctr, .rows k l) :: σ.heap, ctr := σ.ctr + 1 } ⟨lk ops o ++ odd (labS (σ.ev y)), (2 * σ.ctr + 1) :: dl o, []⟩
            | .e (.c (.own s k1 len)) =>
              (match getH σ.heap s, keep.contains s, Nat.beq (U.w k1) (U.w k) with
               | some (.rows k2 l0), false, true => (match V.cast k k2 l0 with
                 | some l0 => srcS V k σ (σ.ev y) fun l =>
                   len = l0.length ∧ (l0.length + l.length) * te.bys ≤ 140737488355328 ∧ l0.length + l.length ≤ 140737488355328 ∧
                     K { env := (d, .e (.c (.own σ.ctr k (l0.length + l.length)))) :: klE s σ.env, heap := (σ.ctr, .rows k (l0 ++ l)) :: klH s σ.heap, ctr := σ.ctr + 1 }
                       ⟨lk ops o ++ odd (labS (σ.ev y)), even (d :: tmpsS s σ.env) ++ odd (σ.ctr :: s :: blksS s σ.heap), [s]⟩
                 | none => False)
               | _, _, _ => False)
            | _ => False)
         | _, _, _, _ => False)
       | _, _ => False)
     | none => False)
  | _, _ => False

theorem nk {keep : List Nat} {c : Nat} (h : keep.contains c = false) : ¬ c ∈ keep := fun hc => by
  have : keep.contains c = true := by simpa using hc
  rw [h] at this; cases this

theorem flat_append (k : U.K) (a b : List (U.El k)) : flatD k (a ++ b) = flatD k a ++ flatD k b := by simp [flatD]

theorem rows_names {k : U.K} {l : List (U.El k)} {v : Ab.V} (hv : v ∈ (flatD k l).map Ab.V.d) (s : Nat) : ¬ v.names s := by
  rw [List.mem_map] at hv
  obtain ⟨a, _, rfl⟩ := hv
  exact fun h => h

theorem sapp_ok {x y : Operand} {t : TypeId} (h : sapp V n ops keep o σ x y t K) (hg : Taken ops o σ.st) (ho : o.op = .call { callee := .builtin .append, args := #[x, y], argTypes := #[t, t] }) : ∃ σ' f, StepS P n ops o keep σ σ' f ∧ K σ' f := by
  unfold sapp at h
  split at h
  · rename_i d ti hdst h1
    split at h
    · rename_i e h2
      split at h
      · rename_i te k h3 h4
        split at h
        · rename_i zs h5 h6 h7 h8
          have T1 := V.ty_ok _ _ h1
          have T2 := V.ty_ok _ _ h3
          have hk := V.kind_ok _ _ h4
          rw [T2.sz, Option.some.injEq] at hk
          have hdn : d < n := Nat.le_of_ble_eq_true h6
          have hcn : σ.st.heap σ.ctr = none := by rw [st_heap, h7]; rfl
          split at h
          · rename_i hx
            obtain ⟨l, e1, ⟨a1, a2, a3, h⟩, e2⟩ := srcS_ok h
            refine ⟨_, _, ⟨?_, fun s hs => by simp at hs⟩, h⟩
            have := SQ.appendNil (P := P) (n := n) (stay := (· ∈ keep)) hg x y t ho (U.w k) ((flatD k l).map .d) l.length (by rw [ev_den, hx]; rfl) (by rw [ev_den, e1]) (by simpa using a1) e te.bys _ (by rw [T1.sl, h2]) (by rw [T2.sz, hk]) T2.bys (T2.zs _ h5) (by simp [T2.zl _ h5, hk]) a2 a3 σ.ctr hcn (nk h8)
              (by rw [hdst]; exact dst_ok hdn) (labS (σ.ev y)) (fun u hu => e2 u (by rw [← ev_den]; exact hu))
            rw [hdst] at this
            exact this
          · rename_i s k1 len hx
            split at h
            · rename_i k2 l0' hs hks hw
              split at h
              · rename_i l0 hl
                obtain ⟨l, e1, ⟨rfl, a2, a3, h⟩, e2⟩ := srcS_ok h
                have hc := V.cast_ok _ _ _ _ hl
                have e3 : flatD k2 l0' = flatD k l0 := by unfold flatD; rw [hc.1]
                have hsh : σ.st.heap s = some ((flatD k l0).map .d) := by rw [st_heap, hs]; simp only [Option.map_some, Blk.den, e3]
                have hsc : s ≠ σ.ctr := by rintro rfl; rw [h7] at hs; cases hs
                have hen : ∀ i, (σ.st.env i).names s ↔ i ∈ tmpsS s σ.env := fun i => by rw [tmpsS_ok, st_env, ← T.nmB_iff, ST.nm_den]
                refine ⟨_, _, ⟨?_, fun u hu l' hl' hn => ?_⟩, h⟩
                · have := SQ.append (P := P) (n := n) (stay := (· ∈ keep)) hg x y t ho d s (U.w k) l0.length hdst ((flatD k l0).map .d) ((flatD k l).map .d) l.length (by rw [ev_den, hx, ← beq_t hw]; rfl) hsh (by rw [List.length_map, flatD_len V]) (by rw [ev_den, e1])
                    e te.bys _ (by rw [T1.sl, h2]) (by rw [T2.sz, hk]) T2.bys (T2.zs _ h5) (by simp [T2.zl _ h5, hk]) (fun v hv => rows_names hv s) (fun v hv => rows_names hv s) a2 a3 (nk hks) hdn σ.ctr hcn (nk h8) (tmpsS s σ.env) (blksS s σ.heap) (labS (σ.ev y)) (fun u hu => e2 u (by rw [← ev_den]; exact hu))
                  refine cast (congrArg (fun z => SQ P n (· ∈ keep) ops o σ.st z _) ?_) this
                  unfold appSt SS.st
                  simp only
                  congr 1
                  · funext i
                    rw [mk_denE]
                    simp only [upd, getE]
                    cases hi : Nat.beq i d with
                    | true => rw [if_pos (beq_t hi)]; rfl
                    | false =>
                      rw [if_neg (beq_f hi)]
                      rw [getE_kl, mk_denE]
                      by_cases hm : i ∈ tmpsS s σ.env
                      · rw [if_pos hm]; simp only [ST.kl, (tmpsS_ok s σ.env i).1 hm]; rfl
                      · rw [if_neg hm]
                        have : (getE σ.env i).nm s = false := by
                          cases hb : (getE σ.env i).nm s with
                          | false => rfl
                          | true => exact absurd ((tmpsS_ok s σ.env i).2 hb) hm
                        simp only [ST.kl, this]
                  · funext u
                    rw [mkH_denH ((σ.ctr, Blk.rows k (l0 ++ l)) :: klH s σ.heap) u]
                    simp only [getH]
                    cases hu : Nat.beq u σ.ctr with
                    | true => rw [if_pos (beq_t hu)]; simp only [Option.map_some, Blk.den, flat_append, List.map_append]
                    | false =>
                      rw [if_neg (beq_f hu)]
                      rw [getH_kl]
                      by_cases hus : u = s
                      · simp [hus]
                      · simp only [hus, if_false]
                        rw [mkH_denH]
                        cases hv : getH σ.heap u with
                        | none => simp
                        | some b =>
                          simp only [Option.map_some, Blk.kl_den]
                          by_cases hb : u ∈ blksS s σ.heap
                          · simp [hb]
                          · simp only [hb, if_false]
                            rw [CsKill_id fun hn => hb (blksS_of s σ.heap u b hv hn)]
                · simp only [List.mem_singleton] at hu
                  subst hu
                  simp only [List.mem_append, not_or] at hl'
                  unfold St.at at hn
                  split at hn
                  · rename_i e0
                    have e1 : l' = 2 * (l' / 2) := by omega
                    have h9 := (hen _).1 hn
                    apply hl'.1
                    rw [e1, mem_even]
                    exact List.mem_cons_of_mem _ h9
                  · rename_i e0
                    have e1 : l' = 2 * (l' / 2) + 1 := by omega
                    apply hl'.2
                    rw [e1, mem_odd]
                    cases hcs : σ.st.heap (l' / 2) with
                    | none => rw [hcs] at hn; exact hn.elim
                    | some cs' =>
                      rw [hcs] at hn
                      rw [st_heap, Option.map_eq_some_iff] at hcs
                      obtain ⟨b, hb1, rfl⟩ := hcs
                      exact List.mem_cons_of_mem _ (List.mem_cons_of_mem _ (blksS_of _ _ _ b hb1 hn))
              · exact h.elim
            · exact h.elim
          · exact h.elim
        · exact h.elim
      · exact h.elim
    · exact h.elim
  · exact h.elim
end
end Go.Ab
end

section
namespace Go.Ab
open Go Go.RowKit

section
variable {P : Program} {U : Univ}

def keyLS : List (SV U) → Option (List Value)
  | [] => some []
  | .d (.sc v) :: r => (match keyLS r with | some l => some (v :: l) | none => none)
  | _ :: _ => none
def keyS : ST U → Option Value
  | .e (.c (.d (.sc v))) => some v
  | .e (.agg vs) => (match keyLS vs with | some l => some (.agg l.toArray) | none => none)
  | _ => none
theorem keyLS_ok : ∀ {vs : List (SV U)} {l : List Value}, keyLS vs = some l → keyL (vs.map SV.den) = some l
  | [], l, h => by simp only [keyLS, Option.some.injEq] at h; subst h; rfl
  | v :: r, l, h => by
    unfold keyLS at h
    split at h
    · rename_i he; cases he
    · rename_i x r' he
      injection he with he1 he2; subst he1; subst he2
      split at h
      · rename_i l' hl'
        injection h with h; subst h
        simp only [List.map_cons, SV.den, SD.den, keyL, keyLS_ok hl', Option.map_some]
      · cases h
    · cases h
theorem keyS_ok {x : ST U} {k : Value} (h : keyS x = some k) : keyT x.den = some k := by
  unfold keyS at h
  split at h
  · injection h with h; subst h; rfl
  · split at h
    · rename_i l hl
      injection h with h; subst h
      simp only [ST.den, SE.den, keyT, keyLS_ok hl, Option.map_some]
    · cases h
  · cases h

def smkmap (n : Nat) (ops : Array Oper) (keep : List Nat) (o : Oper) (σ : SS U) (K : SS U → Ft → Prop) : Prop :=
  match dokS n o.dst, getH σ.heap σ.ctr, keep.contains σ.ctr with
  | true, none, false => K { σ.put o.dst (.e (.c (.mp σ.ctr))) with heap := (σ.ctr, .mapb []) :: σ.heap, ctr := σ.ctr + 1 } ⟨lk ops o, (2 * σ.ctr + 1) :: dl o, []⟩
  | _, _, _ => False

def slook (V : Views P U) (n : Nat) (ops : Array Oper) (o : Oper) (σ : SS U) (t : TypeId) (x y : Operand) (K : SS U → Ft → Prop) : Prop :=
  match V.mpi t, σ.ev x, keyS (σ.ev y), dokS n o.dst with
  | some m, .e (.c (.mp s)), some k, true =>
    (match getH σ.heap s, m.z with
     | some (.mapb es), .int kk z => keyOK m.kf k = true ∧ mapOK m.kf es = true ∧ es.all (fun p => intK kk p.2) = true ∧
        (∀ (i : Nat) (q : Int), mfind k es 0 = some (i, .int kk q) → K (σ.put o.dst (.tup [.c (.d (.sc (.int kk q))), .c (.d (.sc (.bool true)))])) ⟨(2 * s + 1) :: lk ops o, dl o, []⟩) ∧
        (mfind k es 0 = none → K (σ.put o.dst (.tup [.c (.d (.sc (.int kk z))), .c (.d (.sc (.bool false)))])) ⟨(2 * s + 1) :: lk ops o, dl o, []⟩)
     | _, _ => False)
  | _, _, _, _ => False

def smupd (V : Views P U) (ops : Array Oper) (o : Oper) (σ : SS U) (t : TypeId) (x y z : Operand) (K : SS U → Ft → Prop) : Prop :=
  match o.dst, V.mpi t, σ.ev x, keyS (σ.ev y), σ.ev z with
  | none, some m, .e (.c (.mp s)), some k, .e (.c (.d (.sc v))) =>
    (match getH σ.heap s with
     | some (.mapb es) => keyOK m.kf k = true ∧ mapOK m.kf es = true ∧ K { σ with heap := setB σ.heap s (.mapb (msetV k v es)) } ⟨lk ops o, (2 * s + 1) :: dl o, []⟩
     | _ => False)
  | _, _, _, _, _ => False

variable {V : Views P U} {n : Nat} {ops : Array Oper} {keep : List Nat} {o : Oper} {σ : SS U} {K : SS U → Ft → Prop}

theorem smkmap_ok {t : TypeId} (h : smkmap n ops keep o σ K) (hg : Taken ops o σ.st) (ho : o.op = .makeMap t none) : ∃ σ' f, StepS P n ops o keep σ σ' f ∧ K σ' f := by
  unfold smkmap at h
  split at h
  · rename_i h1 h2 h3
    refine ⟨_, _, ⟨?_, fun s hs => by simp at hs⟩, h⟩
    rw [new_st]
    exact SQ.makeMap hg t ho σ.ctr (dokS_ok h1) (nk h3) (by rw [st_heap, h2]; rfl)
  · exact h.elim

theorem slook_ok {t : TypeId} {x y : Operand} (h : slook V n ops o σ t x y K) (hg : Taken ops o σ.st) (ho : o.op = .lookup t x y true) : ∃ σ' f, StepS P n ops o keep σ σ' f ∧ K σ' f := by
  unfold slook at h
  split at h
  · rename_i m s k hm hx hy hd
    split at h
    · rename_i es kk z hs hz
      obtain ⟨h1, h2, h3, h4, h5⟩ := h
      have hsq := SQ.lookup (P := P) (n := n) (stay := (· ∈ keep)) hg t x y true ho m (V.mpi_ok _ _ hm) s es k (by rw [ev_den, hx]; rfl) (by rw [ev_den]; exact keyS_ok hy) (by rw [st_heap, hs]; rfl) h1 h2 (dokS_ok hd)
      rw [if_pos rfl] at hsq
      cases hf : mfind k es 0 with
      | none =>
        refine ⟨_, _, ⟨?_, fun s hs => by simp at hs⟩, h5 hf⟩
        rw [put_st]
        simp only [mgetV, hf, hz] at hsq
        exact hsq
      | some p =>
        obtain ⟨i, v⟩ := p
        obtain ⟨q, hq, he⟩ := mfind_mem hf
        rw [List.all_eq_true] at h3
        have h6 := h3 q hq
        rw [he] at h6
        cases v <;> simp only [intK, Bool.false_eq_true, decide_eq_true_eq] at h6
        subst h6
        refine ⟨_, _, ⟨?_, fun s hs => by simp at hs⟩, h4 i _ hf⟩
        rw [put_st]
        simp only [mgetV, hf] at hsq
        exact hsq
    · exact h.elim
  · exact h.elim

theorem smupd_ok {t : TypeId} {x y z : Operand} (h : smupd V ops o σ t x y z K) (hg : Taken ops o σ.st) (ho : o.op = .mapUpdate t x y z) : ∃ σ' f, StepS P n ops o keep σ σ' f ∧ K σ' f := by
  unfold smupd at h
  split at h
  · rename_i m s k v hd hm hx hy hz
    split at h
    · rename_i es hs
      obtain ⟨h1, h2, h3⟩ := h
      refine ⟨_, _, ⟨?_, fun s hs => by simp at hs⟩, h3⟩
      rw [setB_st _ _ _ _ hs]
      exact SQ.mapUpdate (P := P) (n := n) (stay := (· ∈ keep)) hg t x y z ho hd m (V.mpi_ok _ _ hm) s es k v (by rw [ev_den, hx]; rfl) (by rw [ev_den]; exact keyS_ok hy) (by rw [ev_den, hz]; rfl) (by rw [st_heap, hs]; rfl) h1 h2
    · exact h.elim
  · exact h.elim
end
end Go.Ab
end

section
namespace Go.Ab
open Go Go.RowKit

section
variable {P : Program} {U : Univ}

def SV.labs : SV U → List Nat
  | .ptr s _ => [s]
  | .rptr s _ _ _ => [s]
  | .sub s _ _ _ => [s]
  | .own s _ _ => [s]
  | .clo _ caps => caps.map (·.1)
  | .mp s => [s]
  | _ => []
def SE.labs : SE U → List Nat
  | .c v => v.labs
  | .agg vs => vs.flatMap SV.labs
def ST.labs : ST U → List Nat
  | .e x => x.labs
  | .tup xs => xs.flatMap SE.labs
  | .any => []
theorem SV.labs_den (v : SV U) : v.den.labs = v.labs := by cases v <;> rfl
theorem SE.labs_den (v : SE U) : v.den.labs = v.labs := by
  cases v with
  | c v => exact SV.labs_den v
  | agg vs => simp only [SE.den, E.labs, SE.labs, List.flatMap_map]; congr 1; funext v; exact SV.labs_den v
theorem ST.labs_den (v : ST U) : v.den.labs = v.labs := by
  cases v with
  | e v => exact SE.labs_den v
  | tup vs => simp only [ST.den, T.labs, ST.labs, List.flatMap_map]; congr 1; funext v; exact SE.labs_den v
  | any => rfl

/-- A contract of a function that is called with data alone. -/
structure Ct (P : Program) (U : Univ) where
  f : FuncId
  run : List (SE U) → (ST U → Prop) → Prop
  ok : ∀ args K, run args K → ∃ r, Pur P f (args.map fun x => x.den.norm) r.den ∧ K r

def findC : List (Ct P U) → FuncId → Option (Ct P U)
  | [], _ => none
  | c :: r, f => match Nat.beq c.f f with | true => some c | false => findC r f
theorem findC_ok : ∀ {l : List (Ct P U)} {f : FuncId} {c : Ct P U}, findC l f = some c → c.f = f
  | [], _, _, h => by cases h
  | a :: r, f, c, h => by
    simp only [findC] at h
    split at h
    · rename_i e; injection h with h; subst h; exact beq_t e
    · exact findC_ok h

def toEsS : List (ST U) → Option (List (SE U))
  | [] => some []
  | .e x :: r => (match toEsS r with | some l => some (x :: l) | none => none)
  | _ :: _ => none
theorem toEsS_ok : ∀ {l : List (ST U)} {es : List (SE U)}, toEsS l = some es → l = es.map .e
  | [], es, h => by simp only [toEsS] at h; injection h with h; subst h; rfl
  | x :: r, es, h => by
    cases x <;> simp only [toEsS] at h
    case e x =>
      split at h
      · rename_i l hl; injection h with h; subst h; rw [toEsS_ok hl]; rfl
      · cases h
    all_goals cases h

def nolab : List (SE U) → Bool
  | [] => true
  | x :: r => (match x.labs with | [] => nolab r | _ => false)
theorem nolab_ok : ∀ {l : List (SE U)}, nolab l = true → ∀ x ∈ l, x.labs = []
  | [], _, x, h => by simp at h
  | a :: r, h, x, hx => by
    simp only [nolab] at h
    split at h
    · rename_i e
      rcases List.mem_cons.1 hx with rfl | hx
      · exact e
      · exact nolab_ok h x hx
    · cases h

def scallP (n : Nat) (ops : Array Oper) (o : Oper) (σ : SS U) (reg : List (Ct P U)) (g : FuncId) (xs : List Operand) (K : SS U → Ft → Prop) : Prop :=
  match toEsS (xs.map σ.ev), findC reg g, dokS n o.dst with
  | some args, some c, true => (match nolab args with | true => c.run args fun r => fT r fun r => K (σ.put o.dst r) ⟨lk ops o, dl o, []⟩ | false => False)
  | _, _, _ => False

variable {V : Views P U} {n : Nat} {ops : Array Oper} {keep : List Nat} {o : Oper} {σ : SS U} {K : SS U → Ft → Prop}

theorem norm_labs (x : E) : x.norm.labs = x.labs := by
  have hv : ∀ v : Ab.V, v.norm.labs = v.labs := fun v => by cases v <;> rfl
  cases x with
  | c v => exact hv v
  | agg vs => simp only [E.norm, E.labs, List.flatMap_map]; congr 1; funext v; exact hv v

theorem scallP_ok {reg : List (Ct P U)} {g : FuncId} {xs : Array Operand} {ts : Array TypeId} (h : scallP n ops o σ reg g xs.toList K) (hg : Taken ops o σ.st) (ho : o.op = .call { callee := .value (.func g), args := xs, argTypes := ts }) :
    ∃ σ' f, StepS P n ops o keep σ σ' f ∧ K σ' f := by
  unfold scallP at h
  split at h
  · rename_i args c h1 h2 h3
    split at h
    · rename_i h4
      obtain ⟨r, hr, hK⟩ := c.ok _ _ h
      rw [findC_ok h2] at hr
      refine ⟨_, _, ⟨?_, fun s hs => by simp at hs⟩, fT_ok (K := fun r => K (σ.put o.dst r) _) hK⟩
      rw [put_st]
      have he := toEsS_ok h1
      refine SQ.pure hg (pure_call g xs ts ho _ r.den hr ?_ ?_) (dokS_ok h3)
      · have : (xs.toList.map fun x => (σ.st.ev x).norm) = (xs.toList.map σ.ev).map fun t => t.den.norm := by
          rw [List.map_map]; congr 1; funext x; simp [ev_den]
        rw [this, he, List.map_map, List.map_map]
        rfl
      · intro x hx s hs
        rw [List.mem_map] at hx
        obtain ⟨a, ha, rfl⟩ := hx
        have h5 := E.labs_ok hs
        rw [norm_labs, SE.labs_den, nolab_ok h4 a ha] at h5
        simp at h5
    · exact h.elim
  · exact h.elim

/-- A copy. -/
def scopy (V : Views P U) (n : Nat) (ops : Array Oper) (o : Oper) (σ : SS U) (x y : Operand) (t : TypeId) (K : SS U → Ft → Prop) : Prop :=
  match V.ty t, dokS n o.dst with
  | some ti, true =>
    (match ti.sl with
     | some e => (match V.ty e, V.kind e with
       | some te, some k =>
         (match σ.ev x with
          | .e (.c (.own s k1 len)) => (match getH σ.heap s, Nat.beq (U.w k1) (U.w k) with
            | some (.rows k2 l0), true => (match V.cast k k2 l0 with
              | some l0 => len = l0.length ∧ srcS V k σ (σ.ev y) fun l =>
                K { σ.put o.dst (.e (.c (.d (.sc (.int .i64 (min l.length l0.length : Nat)))))) with heap := setB σ.heap s (.rows k (l.take l0.length ++ l0.drop l.length)) } ⟨lk ops o ++ odd (labS (σ.ev y)), (2 * s + 1) :: dl o, []⟩
              | none => False)
            | _, _ => False)
          | _ => False)
       | _, _ => False)
     | none => False)
  | _, _ => False

theorem scopy_ok {x y : Operand} {t t' : TypeId} (h : scopy V n ops o σ x y t K) (hg : Taken ops o σ.st) (ho : o.op = .call { callee := .builtin .copy, args := #[x, y], argTypes := #[t, t'] }) : ∃ σ' f, StepS P n ops o keep σ σ' f ∧ K σ' f := by
  unfold scopy at h
  split at h
  · rename_i ti h1 h2
    split at h
    · rename_i e h3
      split at h
      · rename_i te k h4 h5
        split at h
        · rename_i s k1 len hx
          split at h
          · rename_i k2 l0' hs hw
            split at h
            · rename_i l0 hl
              obtain ⟨rfl, h⟩ := h
              obtain ⟨l, e1, h, e2⟩ := srcS_ok h
              have T1 := V.ty_ok _ _ h1
              have T2 := V.ty_ok _ _ h4
              have hk := V.kind_ok _ _ h5
              rw [T2.sz, Option.some.injEq] at hk
              have hc := V.cast_ok _ _ _ _ hl
              have e3 : flatD k2 l0' = flatD k l0 := by unfold flatD; rw [hc.1]
              have hsh : σ.st.heap s = some ((flatD k l0).map .d) := by rw [st_heap, hs]; simp only [Option.map_some, Blk.den, e3]
              refine ⟨_, _, ⟨?_, fun s hs => by simp at hs⟩, h⟩
              have := SQ.copy (P := P) (n := n) (stay := (· ∈ keep)) hg x y t t' ho s (U.w k) 0 l0.length ((flatD k l0).map .d) ((flatD k l).map .d) l.length (by rw [ev_den, hx, ← beq_t hw]; rfl) hsh (by rw [List.length_map, flatD_len V]; omega) (by rw [ev_den, e1])
                e (by rw [T1.sl, h3]) (by rw [T2.sz, hk]) (dokS_ok h2) (labS (σ.ev y)) (fun u hu => e2 u (by rw [← ev_den]; exact hu))
              refine cast (congrArg (fun z => SQ P n (· ∈ keep) ops o σ.st z _) ?_) this
              have hh : (σ.put o.dst (.e (.c (.d (.sc (.int .i64 (min l.length l0.length : Nat))))))).heap = σ.heap := by cases o.dst <;> rfl
              have hp := put_st σ o.dst (.e (.c (.d (.sc (.int .i64 (min l.length l0.length : Nat))))))
              unfold SS.st at hp ⊢
              simp only
              congr 1
              · have := congrArg St.env hp; exact this.symm
              · funext u
                rw [mkH_denH (setB σ.heap s _) u, getH_setB _ _ _ _ _ hs]
                simp only [updH]
                split
                · simp only [Option.map_some, Blk.den, Option.some.injEq]
                  have e5 := flat_take V k l 0 (min l.length l0.length)
                  simp only [Nat.zero_mul, List.drop_zero] at e5
                  have e6 : (flatD k l0).drop (min l.length l0.length * U.w k) = flatD k (l0.drop (min l.length l0.length)) := by
                    have := flat_take V k l0 (min l.length l0.length) l0.length
                    rw [List.take_of_length_le (by rw [List.length_drop, flatD_len V]; omega), List.take_of_length_le (by simp)] at this
                    exact this
                  unfold splice
                  rw [List.take_zero, List.nil_append, ← List.map_take, e5]
                  have e7 : ((flatD k (l.take (min l.length l0.length))).map Ab.V.d).length = min l.length l0.length * U.w k := by
                    rw [List.length_map, flatD_len V, List.length_take]; congr 1; omega
                  rw [e7, Nat.zero_add, ← List.map_drop, e6, ← List.map_append, ← flat_append]
                  congr 2
                  by_cases hle : l.length ≤ l0.length
                  · rw [Nat.min_eq_left hle, List.take_of_length_le hle, List.take_of_length_le (Nat.le_refl _)]
                  · rw [Nat.min_eq_right (by omega), List.drop_of_length_le (by omega), List.drop_of_length_le (by omega)]
                · rw [mkH_denH]
            · exact h.elim
          · exact h.elim
        · exact h.elim
      · exact h.elim
    · exact h.elim
  · exact h.elim
end
end Go.Ab
end

section
namespace Go.Ab
open Go Go.RowKit

section
variable {P : Program} {U : Univ}

def SV.fz (s : Nat) (k : U.K) (l : List (U.El k)) (v : SV U) : SV U :=
  match v with
  | .own t _ _ => (match Nat.beq t s with | true => .d (.lst k l) | false => v)
  | .sub t _ off len => (match Nat.beq t s with | true => .d (.lst k ((l.drop off).take len)) | false => v)
  | _ => v.kl s
def okV (s : Nat) (k : U.K) (l : List (U.El k)) (v : SV U) (φ : Prop) : Prop :=
  match v with
  | .own t k' len => (match Nat.beq t s with | true => (match Nat.beq (U.w k') (U.w k) with | true => len = l.length ∧ φ | false => False) | false => φ)
  | .sub t k' off len => (match Nat.beq t s with | true => (match Nat.beq (U.w k') (U.w k) with | true => off + len ≤ l.length ∧ φ | false => False) | false => φ)
  | _ => φ

theorem rows_part (k m off len : Nat) (es : List (List D)) (hk : ∀ r ∈ es, r.length = k) (h : off + len ≤ es.length) (hm : m = off * k) : rows k m len es.flatten = (es.drop off).take len := by
  subst hm
  apply List.ext_getElem
  · simp [rows]; omega
  · intro i h1 h2
    simp only [rows, List.length_map, List.length_range] at h1
    simp only [rows, List.getElem_map, List.getElem_range, List.getElem_take, List.getElem_drop]
    apply List.ext_getElem?
    intro j
    rw [List.getElem?_take]
    have hr : (es[off + i]'(by omega)).length = k := hk _ (List.getElem_mem _)
    split
    · rename_i hj
      rw [List.getElem?_drop, ← Nat.add_mul, flat_get k es hk (off + i) j hj, List.getElem?_eq_getElem (by omega)]
      rfl
    · rw [List.getElem?_eq_none (by omega)]

theorem frz_sub (t k off len s : Nat) (ds : List D) : (Ab.V.sub t k off len).frz s ds = if t = s then (if off + len * k ≤ ds.length then .d (.sl (rows k off len ds)) else .any) else .sub t k off len := rfl

theorem okV_ok (V : Views P U) {s : Nat} {k : U.K} {l : List (U.El k)} {v : SV U} {φ : Prop} (h : okV s k l v φ) : φ ∧ (v.fz s k l).den = v.den.frz s (flatD k l) := by
  have hes : ∀ r ∈ l.map (U.enc k), r.length = U.w k := fun r hr => by rw [List.mem_map] at hr; obtain ⟨y, _, rfl⟩ := hr; exact V.len k y
  cases v with
  | own t k' len =>
    simp only [okV] at h
    cases ht : Nat.beq t s with
    | true =>
      rw [ht] at h
      simp only at h
      cases hw : Nat.beq (U.w k') (U.w k) with
      | true =>
        rw [hw] at h
        simp only at h
        obtain ⟨rfl, h⟩ := h
        refine ⟨h, ?_⟩
        have e1 : SV.fz s k l (.own t k' l.length) = .d (.lst k l) := by simp only [SV.fz, ht]
        have e2 : (SV.own t k' l.length : SV U).den = .sub t (U.w k) 0 l.length := by simp only [SV.den, beq_t hw]
        rw [e1, e2]
        rw [frz_sub, if_pos (beq_t ht), if_pos (by rw [flatD_len V]; omega)]
        have := rows_part (U.w k) 0 0 l.length (l.map (U.enc k)) hes (by simp) (by simp)
        rw [List.drop_zero, List.take_of_length_le (by simp)] at this
        exact congrArg (fun z => Ab.V.d (.sl z)) this.symm
      | false => rw [hw] at h; exact h.elim
    | false =>
      rw [ht] at h
      refine ⟨h, ?_⟩
      have e1 : SV.fz s k l (.own t k' len) = .own t k' len := by simp only [SV.fz, ht]
      rw [e1]
      show _ = Ab.V.frz s (flatD k l) (.sub t (U.w k') 0 len)
      rw [frz_sub, if_neg (beq_f ht)]; rfl
  | sub t k' off len =>
    simp only [okV] at h
    cases ht : Nat.beq t s with
    | true =>
      rw [ht] at h
      simp only at h
      cases hw : Nat.beq (U.w k') (U.w k) with
      | true =>
        rw [hw] at h
        simp only at h
        obtain ⟨h1, h⟩ := h
        refine ⟨h, ?_⟩
        have e1 : SV.fz s k l (.sub t k' off len) = .d (.lst k ((l.drop off).take len)) := by simp only [SV.fz, ht]
        have e2 : (SV.sub t k' off len : SV U).den = .sub t (U.w k) (off * U.w k) len := by simp only [SV.den, beq_t hw]
        rw [e1, e2]
        rw [frz_sub, if_pos (beq_t ht), if_pos (by rw [flatD_len V, ← Nat.add_mul]; exact Nat.mul_le_mul_right _ h1)]
        have := rows_part (U.w k) (off * U.w k) off len (l.map (U.enc k)) hes (by simpa using h1) rfl
        rw [← List.map_drop, ← List.map_take] at this
        exact congrArg (fun z => Ab.V.d (.sl z)) this.symm
      | false => rw [hw] at h; exact h.elim
    | false =>
      rw [ht] at h
      refine ⟨h, ?_⟩
      have e1 : SV.fz s k l (.sub t k' off len) = .sub t k' off len := by simp only [SV.fz, ht]
      rw [e1]
      show _ = Ab.V.frz s (flatD k l) (.sub t (U.w k') (off * U.w k') len)
      rw [frz_sub, if_neg (beq_f ht)]; rfl
  | d x => exact ⟨h, SV.kl_den s (.d x)⟩
  | ptr t o => exact ⟨h, SV.kl_den s (.ptr t o)⟩
  | rptr t k i j => exact ⟨h, SV.kl_den s (.rptr t k i j)⟩
  | pim cs => exact ⟨h, SV.kl_den s (.pim cs)⟩
  | clo f caps => exact ⟨h, SV.kl_den s (.clo f caps)⟩
  | mp t => exact ⟨h, SV.kl_den s (.mp t)⟩
  | any => exact ⟨h, SV.kl_den s .any⟩

def okVs (s : Nat) (k : U.K) (l : List (U.El k)) : List (SV U) → Prop → Prop
  | [], φ => φ
  | v :: r, φ => okV s k l v (okVs s k l r φ)
theorem okVs_ok (V : Views P U) {s : Nat} {k : U.K} {l : List (U.El k)} : ∀ {vs : List (SV U)} {φ : Prop}, okVs s k l vs φ → φ ∧ (vs.map (SV.fz s k l)).map SV.den = (vs.map SV.den).map (Ab.V.frz s (flatD k l))
  | [], φ, h => ⟨h, rfl⟩
  | v :: r, φ, h => by
    obtain ⟨h1, e1⟩ := okV_ok V h
    obtain ⟨h2, e2⟩ := okVs_ok V h1
    exact ⟨h2, by simp only [List.map_cons, e1, e2]⟩
def SE.fz (s : Nat) (k : U.K) (l : List (U.El k)) : SE U → SE U
  | .c v => .c (v.fz s k l)
  | .agg vs => .agg (vs.map (SV.fz s k l))
def okS (s : Nat) (k : U.K) (l : List (U.El k)) (x : SE U) (φ : Prop) : Prop := match x with | .c v => okV s k l v φ | .agg vs => okVs s k l vs φ
theorem okS_ok (V : Views P U) {s : Nat} {k : U.K} {l : List (U.El k)} {x : SE U} {φ : Prop} (h : okS s k l x φ) : φ ∧ (x.fz s k l).den = x.den.frz s (flatD k l) := by
  cases x with
  | c v => obtain ⟨h1, e1⟩ := okV_ok V h; exact ⟨h1, by simp only [SE.fz, SE.den, E.frz, e1]⟩
  | agg vs => obtain ⟨h1, e1⟩ := okVs_ok V h; exact ⟨h1, by simp only [SE.fz, SE.den, E.frz, e1]⟩
def okSs (s : Nat) (k : U.K) (l : List (U.El k)) : List (SE U) → Prop → Prop
  | [], φ => φ
  | v :: r, φ => okS s k l v (okSs s k l r φ)
theorem okSs_ok (V : Views P U) {s : Nat} {k : U.K} {l : List (U.El k)} : ∀ {vs : List (SE U)} {φ : Prop}, okSs s k l vs φ → φ ∧ (vs.map (SE.fz s k l)).map SE.den = (vs.map SE.den).map (E.frz s (flatD k l))
  | [], φ, h => ⟨h, rfl⟩
  | v :: r, φ, h => by
    obtain ⟨h1, e1⟩ := okS_ok V h
    obtain ⟨h2, e2⟩ := okSs_ok V h1
    exact ⟨h2, by simp only [List.map_cons, e1, e2]⟩
def ST.fz (s : Nat) (k : U.K) (l : List (U.El k)) : ST U → ST U
  | .e x => .e (x.fz s k l)
  | .tup xs => .tup (xs.map (SE.fz s k l))
  | .any => .any
def okT (s : Nat) (k : U.K) (l : List (U.El k)) (x : ST U) (φ : Prop) : Prop := match x with | .e v => okS s k l v φ | .tup vs => okSs s k l vs φ | .any => φ
theorem okT_ok (V : Views P U) {s : Nat} {k : U.K} {l : List (U.El k)} {x : ST U} {φ : Prop} (h : okT s k l x φ) : φ ∧ (x.fz s k l).den = x.den.frz s (flatD k l) := by
  cases x with
  | e v => obtain ⟨h1, e1⟩ := okS_ok V h; exact ⟨h1, by simp only [ST.fz, ST.den, T.frz, e1]⟩
  | tup vs => obtain ⟨h1, e1⟩ := okSs_ok V h; exact ⟨h1, by simp only [ST.fz, ST.den, T.frz, e1]⟩
  | any => exact ⟨h, rfl⟩

def okEnv (s : Nat) (k : U.K) (l : List (U.El k)) : List (Nat × ST U) → Prop → Prop
  | [], φ => φ
  | (_, t) :: r, φ => okT s k l t (okEnv s k l r φ)
def fzE (s : Nat) (k : U.K) (l : List (U.El k)) (e : List (Nat × ST U)) : List (Nat × ST U) := e.map fun p => (p.1, p.2.fz s k l)
theorem okEnv_ok (V : Views P U) {s : Nat} {k : U.K} {l : List (U.El k)} : ∀ {e : List (Nat × ST U)} {φ : Prop}, okEnv s k l e φ → φ ∧ ∀ i, (getE (fzE s k l e) i).den = (getE e i).den.frz s (flatD k l)
  | [], φ, h => ⟨h, fun _ => rfl⟩
  | (j, t) :: r, φ, h => by
    obtain ⟨h1, e1⟩ := okT_ok V h
    obtain ⟨h2, e2⟩ := okEnv_ok V h1
    refine ⟨h2, fun i => ?_⟩
    simp only [fzE, List.map_cons, getE]
    split
    · exact e1
    · exact e2 i
def Blk.fz (s : Nat) (k : U.K) (l : List (U.El k)) : Blk U → Blk U
  | .cells cs => .cells (cs.map (SV.fz s k l))
  | b => b
def okB (s : Nat) (k : U.K) (l : List (U.El k)) (b : Blk U) (φ : Prop) : Prop := match b with | .cells cs => okVs s k l cs φ | _ => φ
def okH (s : Nat) (k : U.K) (l : List (U.El k)) : List (Nat × Blk U) → Prop → Prop
  | [], φ => φ
  | (_, b) :: r, φ => okB s k l b (okH s k l r φ)
theorem okB_ok (V : Views P U) {s : Nat} {k : U.K} {l : List (U.El k)} {b : Blk U} {φ : Prop} (h : okB s k l b φ) : φ ∧ (b.fz s k l).den = b.den.map (Ab.V.frz s (flatD k l)) := by
  cases b with
  | cells cs => obtain ⟨h1, e1⟩ := okVs_ok V h; exact ⟨h1, by simp only [Blk.fz, Blk.den, e1]⟩
  | rows k2 l2 => exact ⟨h, by simp [Blk.fz, Blk.den, Function.comp_def, Ab.V.frz]⟩
  | mapb es => exact ⟨h, by simp [Blk.fz, Blk.den, Ab.V.frz]⟩
def fzH (s : Nat) (k : U.K) (l : List (U.El k)) : List (Nat × Blk U) → List (Nat × Blk U)
  | [] => []
  | (j, b) :: r => match Nat.beq j s with | true => fzH s k l r | false => (j, b.fz s k l) :: fzH s k l r
theorem okH_ok (V : Views P U) {s : Nat} {k : U.K} {l : List (U.El k)} : ∀ {e : List (Nat × Blk U)} {φ : Prop}, okH s k l e φ → φ ∧ ∀ u, (getH (fzH s k l e) u).map Blk.den = if u = s then none else ((getH e u).map Blk.den).map (List.map (Ab.V.frz s (flatD k l)))
  | [], φ, h => ⟨h, fun u => by simp [fzH, getH]⟩
  | (j, b) :: r, φ, h => by
    obtain ⟨h1, e1⟩ := okB_ok V h
    obtain ⟨h2, e2⟩ := okH_ok V h1
    refine ⟨h2, fun u => ?_⟩
    simp only [fzH]
    cases hj : Nat.beq j s with
    | true =>
      simp only
      rw [e2 u]
      by_cases hu : u = s
      · simp [hu]
      · have : Nat.beq u j = false := by
          cases h : Nat.beq u j with
          | false => rfl
          | true => exact absurd ((beq_t h).trans (beq_t hj)) hu
        simp only [hu, if_false, getH, this]
    | false =>
      simp only [getH]
      cases h : Nat.beq u j with
      | true =>
        have e := beq_t h
        rw [if_neg (by rw [e]; exact beq_f hj)]
        simp only [Option.map_some, e1]
      | false => exact e2 u

/-- Freezing the block of a label. -/
def sfrz (keep : List Nat) (s : Nat) (σ : SS U) (K : SS U → Prop) : Prop :=
  match getH σ.heap s, keep.contains s with
  | some (.rows k l), false => okEnv s k l σ.env (okH s k l σ.heap (K { env := fzE s k l σ.env, heap := fzH s k l σ.heap, ctr := σ.ctr }))
  | none, _ => K σ
  | _, _ => False
theorem sfrz_ok (V : Views P U) {n : Nat} {keep : List Nat} {s : Nat} {σ : SS U} {K : SS U → Prop} (h : sfrz keep s σ K) : ∃ σ', Weak n (· ∈ keep) σ.st σ'.st ∧ K σ' := by
  unfold sfrz at h
  split at h
  · rename_i k l hs hk
    obtain ⟨h, e1⟩ := okEnv_ok V h
    obtain ⟨h, e2⟩ := okH_ok V h
    refine ⟨_, ?_, h⟩
    have := Weak.freeze (n := n) (stay := (· ∈ keep)) (σ := σ.st) s (flatD k l) (by rw [st_heap, hs]; rfl) (nk hk)
    refine cast (congrArg (Weak n (· ∈ keep) σ.st) ?_) this
    unfold St.frz
    rw [show (SS.st { env := fzE s k l σ.env, heap := fzH s k l σ.heap, ctr := σ.ctr }) = ⟨fun i => (getE (fzE s k l σ.env) i).den, fun u => (getH (fzH s k l σ.heap) u).map Blk.den⟩ from by
      unfold SS.st; congr 1
      · funext i; exact mk_denE _ i
      · funext u; exact mkH_denH _ u]
    congr 1
    · funext i; rw [e1, st_env]
    · funext u; rw [e2, st_heap]
  · exact ⟨σ, Weak.refl _ _ _, h⟩
  · exact h.elim

def sfrzL (keep : List Nat) : List Nat → SS U → (SS U → Prop) → Prop
  | [], σ, K => K σ
  | s :: r, σ, K => sfrz keep s σ fun σ' => sfrzL keep r σ' K
theorem sfrzL_ok (V : Views P U) {n : Nat} {keep : List Nat} : ∀ {l : List Nat} {σ : SS U} {K : SS U → Prop}, sfrzL keep l σ K → ∃ σ', Weak n (· ∈ keep) σ.st σ'.st ∧ K σ'
  | [], σ, K, h => ⟨σ, Weak.refl _ _ _, h⟩
  | s :: r, σ, K, h => by
    obtain ⟨σ1, w1, h⟩ := sfrz_ok V (n := n) h
    obtain ⟨σ2, w2, h⟩ := sfrzL_ok V (n := n) h
    exact ⟨σ2, w1.trans w2, h⟩
end
end Go.Ab
end
