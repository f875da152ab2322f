/- The symbolic engine: other labels for own blocks. No condition. The symbolic engine: contracts with own blocks under other labels. No condition. The symbolic engine: renamed symbolic data. No condition. The symbolic engine: calls with own blocks. No condition. The symbolic engine: regions. No condition. The symbolic engine: regions that draw their order. No condition. The symbolic engine: one state for another, with conditions at the leaves. No condition. The symbolic engine: the code's forms; functions. No condition. The symbolic engine: functions and their contracts. No condition. The symbolic engine: a table of types. No condition. -/
import Derived.Test.YtfbmhjooliccnaaGreatDoorPe
set_option linter.all false

section
namespace Go.Ab
open Go Go.RowKit

def V.ren (ρ : Nat → Option Nat) : V → V
  | .ptr s off => (match ρ s with | some t => .ptr t off | none => .mapc [])
  | .sub s k off len => (match ρ s with | some t => .sub t k off len | none => if off = 0 ∧ len = 0 then .d (.sc (.slice none 0 0)) else .mapc [])
  | .clo f caps => if caps.all (fun p => (ρ p.1).isSome) then .clo f (caps.map fun p => ((ρ p.1).getD 0, p.2)) else .mapc []
  | .mp s => (match ρ s with | some t => .mp t | none => .mapc [])
  | v => v
def E.ren (ρ : Nat → Option Nat) : E → E
  | .c v => .c (v.ren ρ)
  | .agg vs => .agg (vs.map (V.ren ρ))
def T.ren (ρ : Nat → Option Nat) : T → T
  | .e x => .e (x.ren ρ)
  | .tup xs => .tup (xs.map (E.ren ρ))
  | .any => .any

/-- What the new labels stand for. -/
def gam (γ : G) (ρ : Nat → Option Nat) (s : Nat) : Option (Option Nat) := match ρ s with | some t => γ t | none => some none

theorem VRel.unren {w : World} {M : Nat → Prop} {γ γ' : G} {ρ : Nat → Option Nat} {x : V} {v : Value} (h : VRel w M γ (x.ren ρ) v) (hn : ∀ s, x.names s → γ' s = gam γ ρ s) (hst : ∀ b, stab w M γ b → stab w M γ' b) : VRel w M γ' x v := by
  cases x with
  | d x => exact DRel.mono h hst (fun _ _ => rfl)
  | pim ds =>
    obtain ⟨a, e, hsp, hs, hd⟩ := h
    exact ⟨a, e, hsp, hst _ hs, fun j x hj => by obtain ⟨u, hu, hr⟩ := hd j x hj; exact ⟨u, hu, hr.mono hst (fun _ _ => rfl)⟩⟩
  | any => exact h
  | mapc es => exact h
  | ptr s off =>
    have e := hn s rfl
    simp only [V.ren] at h
    unfold gam at e
    cases hr : ρ s with
    | none => rw [hr] at h; exact h.elim
    | some t =>
      rw [hr] at h e
      obtain ⟨b, hb, ev⟩ := h
      exact ⟨b, e.trans hb, ev⟩
  | mp s =>
    have e := hn s rfl
    simp only [V.ren] at h
    unfold gam at e
    cases hr : ρ s with
    | none => rw [hr] at h; exact h.elim
    | some t =>
      rw [hr] at h e
      obtain ⟨b, hb, ev⟩ := h
      exact ⟨b, e.trans hb, ev⟩
  | sub s k off len =>
    have e := hn s rfl
    simp only [V.ren] at h
    unfold gam at e
    cases hr : ρ s with
    | none =>
      rw [hr] at h e
      simp only at h
      split at h
      · rename_i hz
        obtain ⟨rfl, rfl⟩ := hz
        exact .inr (.inl ⟨e, rfl, rfl, sc_inv (show TRel w M γ (.e (.c (.d (.sc (.slice none 0 0))))) v from h)⟩)
      · exact h.elim
    | some t =>
      rw [hr] at h e
      rcases h with ⟨b, cap, cells, ty, hg, h1⟩ | ⟨hg, h1⟩ | ⟨b, o, hg, h1⟩
      · exact .inl ⟨b, cap, cells, ty, e.trans hg, h1⟩
      · exact .inr (.inl ⟨e.trans hg, h1⟩)
      · exact .inr (.inr ⟨b, o, e.trans hg, h1⟩)
  | clo f caps =>
    simp only [V.ren] at h
    split at h
    · rename_i hall
      obtain ⟨cs, ev, hl, hc⟩ := h
      refine ⟨cs, ev, by simpa using hl, fun i p c hp hcc => ?_⟩
      have hps : (ρ p.1).isSome := by rw [List.all_eq_true] at hall; exact hall p (List.mem_of_getElem? hp)
      obtain ⟨t, ht⟩ := Option.isSome_iff_exists.1 hps
      obtain ⟨b, hb, e'⟩ := hc i (t, p.2) c (by rw [List.getElem?_map, hp]; simp [ht]) hcc
      refine ⟨b, ?_, e'⟩
      rw [hn p.1 ⟨p, List.mem_of_getElem? hp, rfl⟩]
      unfold gam
      rw [ht]; exact hb
    · exact h.elim
theorem CsRel.unren {w : World} {M : Nat → Prop} {γ γ' : G} {ρ : Nat → Option Nat} {xs : List V} {vs : List Value} (h : CsRel w M γ (xs.map (V.ren ρ)) vs) (hn : ∀ s, (∃ x ∈ xs, x.names s) → γ' s = gam γ ρ s) (hst : ∀ b, stab w M γ b → stab w M γ' b) : CsRel w M γ' xs vs :=
  ⟨by simpa using h.1, fun i x u hx hu => (h.2 i (x.ren ρ) u (by rw [List.getElem?_map, hx]; rfl) hu).unren (fun s hs => hn s ⟨x, List.mem_of_getElem? hx, hs⟩) hst⟩
theorem ERel.unren {w : World} {M : Nat → Prop} {γ γ' : G} {ρ : Nat → Option Nat} {x : E} {v : Value} (h : ERel w M γ (x.ren ρ) v) (hn : ∀ s, x.names s → γ' s = gam γ ρ s) (hst : ∀ b, stab w M γ b → stab w M γ' b) : ERel w M γ' x v := by
  cases x with
  | c x => exact VRel.unren h hn hst
  | agg xs => obtain ⟨us, e, hc⟩ := h; exact ⟨us, e, hc.unren hn hst⟩
theorem TRel.unren {w : World} {M : Nat → Prop} {γ γ' : G} {ρ : Nat → Option Nat} {x : T} {v : Value} (h : TRel w M γ (x.ren ρ) v) (hn : ∀ s, x.names s → γ' s = gam γ ρ s) (hst : ∀ b, stab w M γ b → stab w M γ' b) : TRel w M γ' x v := by
  cases x with
  | e x => exact ERel.unren h hn hst
  | tup xs =>
    obtain ⟨us, e, hl, hc⟩ := h
    exact ⟨us, e, by simpa using hl, fun i x u hx hu => (hc i (x.ren ρ) u (by rw [List.getElem?_map, hx]; rfl) hu).unren (fun s hs => hn s ⟨x, List.mem_of_getElem? hx, hs⟩) hst⟩
  | any => trivial

/-- The general weakening, with other labels. -/
theorem Weak.rename {n : Nat} {stay : Nat → Prop} {σ : St} (l : List (Nat × T)) (hl : List (Nat × List V)) (ρ : Nat → Option Nat) (h1 : ∀ p ∈ l, TLe (σ.env p.1) (p.2.ren ρ))
    (h2 : ∀ s cs', mkH hl s = some cs' → (∃ t cs, ρ s = some t ∧ σ.heap t = some cs ∧ (∀ (w : World) (M : Nat → Prop) (γ : G) (vs : List Value), CsRel w M γ cs vs → CsRel w M γ (cs'.map (V.ren ρ)) vs) ∧ ∀ es, cs = [.mapc es] → cs' = [.mapc es]) ∨ (ρ s = none ∧ cs' = []))
    (h3 : ∀ p ∈ l, ∀ s, p.2.names s → mkH hl s ≠ none) (h4 : ∀ s cs, mkH hl s = some cs → ∀ x ∈ cs, ∀ u, x.names u → mkH hl u ≠ none)
    (h5 : ∀ s t u, mkH hl s ≠ none → mkH hl t ≠ none → ρ s = some u → ρ t = some u → s = t) (h6 : ∀ s, stay s → mkH hl s ≠ none ∧ ρ s = some s) : Weak n stay σ ⟨mk l, mkH hl⟩ := by
  intro C hn hs a w ⟨γ, R⟩
  let γ' : G := fun s => match mkH hl s with | none => none | some _ => gam γ ρ s
  have hsub : ∀ s, mkH hl s ≠ none → γ' s = gam γ ρ s := by
    intro s hs
    simp only [γ']
    cases h : mkH hl s with
    | none => exact absurd h hs
    | some cs => rfl
  have hle : ∀ s b, γ' s = some (some b) → mkH hl s ≠ none ∧ ∃ t, ρ s = some t ∧ γ t = some (some b) := by
    intro s b h
    simp only [γ'] at h
    split at h
    · cases h
    · rename_i cs hc
      refine ⟨by rw [hc]; simp, ?_⟩
      unfold gam at h
      cases hr : ρ s with
      | none => rw [hr] at h; injection h with h; cases h
      | some t => rw [hr] at h; exact ⟨t, rfl, h⟩
  have hst : ∀ b, stab w C.M γ b → stab w C.M γ' b := fun b hb => ⟨hb.1, hb.2.1, fun s h => by obtain ⟨_, t, _, h⟩ := hle s b h; exact hb.2.2 t h⟩
  refine ⟨γ', ⟨R.mem.low, fun s t b x y => ?_, fun s b x => ?_, fun s h => ?_, fun s cs h => ?_⟩, fun i => ?_, R.keep, fun s b x => ?_, fun s h => ?_, R.defers, R.size⟩
  · obtain ⟨d1, t1, e1, g1⟩ := hle s b x
    obtain ⟨d2, t2, e2, g2⟩ := hle t b y
    have := R.mem.inj t1 t2 b g1 g2
    subst this
    exact h5 s t t1 d1 d2 e1 e2
  · obtain ⟨_, t1, _, g1⟩ := hle s b x
    exact R.mem.nm t1 b g1
  · show γ' s = none
    have h : mkH hl s = none := h
    simp only [γ', h]
  · have h : mkH hl s = some cs := h
    have hg : γ' s = gam γ ρ s := hsub s (by rw [h]; simp)
    rcases h2 s cs h with ⟨t, cs0, e1, e2, e3, e4⟩ | ⟨e1, rfl⟩
    · have hgt : γ' s = γ t := by rw [hg]; unfold gam; rw [e1]
      rcases R.mem.blk t cs0 e2 with ⟨b, ty, vs, sp, g1, g2, g3⟩ | ⟨g1, g2⟩ | ⟨b, en, clk, g1, g2, g3⟩
      · exact .inl ⟨b, ty, vs, sp, hgt.trans g1, g2, (e3 _ _ _ _ g3).unren (fun u ⟨x, hx, hu⟩ => hsub u (h4 s cs h x hx u hu)) hst⟩
      · refine .inr (.inl ⟨hgt.trans g1, ?_⟩)
        subst g2
        have := (e3 w C.M γ [] CsRel.nil).1
        exact List.eq_nil_of_length_eq_zero (by simpa using this)
      · exact .inr (.inr ⟨b, en, clk, hgt.trans g1, g2, e4 _ g3⟩)
    · exact .inr (.inl ⟨by rw [hg]; unfold gam; rw [e1], rfl⟩)
  · rcases mk_mem l i with h | h
    · show TRel _ _ _ (mk l i) _
      rw [h]; trivial
    · exact (h1 _ h w C.M γ _ (R.env i)).unren (fun u hu => hsub u (h3 _ h u hu)) hst
  · obtain ⟨_, t1, _, g1⟩ := hle s b x
    exact R.own t1 b g1
  · rw [hs] at h
    have h7 := h6 s h
    rw [hsub s h7.1]
    unfold gam
    rw [h7.2]
    exact R.stay s (by rw [hs]; exact h)
end Go.Ab
end

section
namespace Go.Ab
open Go Go.RowKit

/-- All labels renamed. -/
def V.rn (θ : Nat → Nat) : V → V
  | .ptr s off => .ptr (θ s) off
  | .sub s k off len => .sub (θ s) k off len
  | .clo f caps => .clo f (caps.map fun p => (θ p.1, p.2))
  | .mp s => .mp (θ s)
  | v => v
def E.rn (θ : Nat → Nat) : E → E
  | .c v => .c (v.rn θ)
  | .agg vs => .agg (vs.map (V.rn θ))
def T.rn (θ : Nat → Nat) : T → T
  | .e x => .e (x.rn θ)
  | .tup xs => .tup (xs.map (E.rn θ))
  | .any => .any

theorem V.rn_ren (θ : Nat → Nat) (x : V) : x.rn θ = x.ren (fun s => some (θ s)) := by
  cases x <;> simp [V.rn, V.ren]
theorem E.rn_ren (θ : Nat → Nat) (x : E) : x.rn θ = x.ren (fun s => some (θ s)) := by
  cases x with
  | c v => simp only [E.rn, E.ren, V.rn_ren]
  | agg vs => simp only [E.rn, E.ren]; congr 1; apply List.map_congr_left; intro v _; exact V.rn_ren θ v

theorem VRel.dorn {w : World} {M : Nat → Prop} {γ γ' : G} {θ : Nat → Nat} {x : V} {v : Value} (h : VRel w M γ x v) (hγ : ∀ c, γ' (θ c) = γ c) (hst : ∀ b, stab w M γ b → stab w M γ' b) : VRel w M γ' (x.rn θ) v := by
  cases x with
  | d x => exact DRel.mono h hst (fun _ _ => rfl)
  | pim ds =>
    obtain ⟨a, e, hsp, hs, hd⟩ := h
    exact ⟨a, e, hsp, hst _ hs, fun j x hj => by obtain ⟨u, hu, hr⟩ := hd j x hj; exact ⟨u, hu, hr.mono hst (fun _ _ => rfl)⟩⟩
  | any => exact h
  | mapc es => exact h
  | ptr s off => obtain ⟨b, hb, e⟩ := h; exact ⟨b, (hγ s).trans hb, e⟩
  | mp s => obtain ⟨b, hb, e⟩ := h; exact ⟨b, (hγ s).trans hb, e⟩
  | sub s k off len =>
    rcases h with ⟨b, cap, cells, ty, hg, h1⟩ | ⟨hg, h1⟩ | ⟨b, o, hg, h1⟩
    · exact .inl ⟨b, cap, cells, ty, (hγ s).trans hg, h1⟩
    · exact .inr (.inl ⟨(hγ s).trans hg, h1⟩)
    · exact .inr (.inr ⟨b, o, (hγ s).trans hg, h1⟩)
  | clo f caps =>
    obtain ⟨cs, e, hl, hc⟩ := h
    refine ⟨cs, e, by simpa using hl, fun i p c hp hcc => ?_⟩
    rw [List.getElem?_map, Option.map_eq_some_iff] at hp
    obtain ⟨q, hq, rfl⟩ := hp
    obtain ⟨b, hb, e'⟩ := hc i q c hq hcc
    exact ⟨b, (hγ q.1).trans hb, e'⟩
theorem CsRel.dorn {w : World} {M : Nat → Prop} {γ γ' : G} {θ : Nat → Nat} {xs : List V} {vs : List Value} (h : CsRel w M γ xs vs) (hγ : ∀ c, γ' (θ c) = γ c) (hst : ∀ b, stab w M γ b → stab w M γ' b) : CsRel w M γ' (xs.map (V.rn θ)) vs := by
  refine ⟨by simpa using h.1, fun i x u hx hu => ?_⟩
  rw [List.getElem?_map, Option.map_eq_some_iff] at hx
  obtain ⟨y, hy, rfl⟩ := hx
  exact (h.2 i y u hy hu).dorn hγ hst
theorem ERel.dorn {w : World} {M : Nat → Prop} {γ γ' : G} {θ : Nat → Nat} {x : E} {v : Value} (h : ERel w M γ x v) (hγ : ∀ c, γ' (θ c) = γ c) (hst : ∀ b, stab w M γ b → stab w M γ' b) : ERel w M γ' (x.rn θ) v := by
  cases x with
  | c x => exact VRel.dorn h hγ hst
  | agg xs => obtain ⟨us, e, hc⟩ := h; exact ⟨us, e, hc.dorn hγ hst⟩
theorem TRel.dorn {w : World} {M : Nat → Prop} {γ γ' : G} {θ : Nat → Nat} {x : T} {v : Value} (h : TRel w M γ x v) (hγ : ∀ c, γ' (θ c) = γ c) (hst : ∀ b, stab w M γ b → stab w M γ' b) : TRel w M γ' (x.rn θ) v := by
  cases x with
  | e x => exact ERel.dorn h hγ hst
  | tup xs =>
    obtain ⟨us, e, hl, hc⟩ := h
    refine ⟨us, e, by simpa using hl, fun i x u hx hu => ?_⟩
    rw [List.getElem?_map, Option.map_eq_some_iff] at hx
    obtain ⟨y, hy, rfl⟩ := hx
    exact (hc i y u hy hu).dorn hγ hst
  | any => trivial

/-- A contract serves under other labels. -/
theorem Sat.rename {P : Program} {f : FuncId} {H H' K K' : Heap} {args : List E} {stay stay' : Nat → Prop} {r : T} (h : Sat P f H args H' stay r) (θ : Nat → Nat) (inj : ∀ a b, θ a = θ b → a = b)
    (hK : ∀ c, K (θ c) = (H c).map (List.map (V.rn θ))) (hK0 : ∀ s, K s ≠ none → ∃ c, θ c = s) (hK' : ∀ c, K' (θ c) = (H' c).map (List.map (V.rn θ))) (hK0' : ∀ s, K' s ≠ none → ∃ c, θ c = s)
    (hs : ∀ s, stay' s → ∃ c, θ c = s ∧ stay c) : Sat P f K (args.map (E.rn θ)) K' stay' (r.rn θ) := by
  refine ⟨h.1, fun M γ w vals hm ha => ?_⟩
  let γ0 : G := fun c => γ (θ c)
  have hst0 : ∀ b, stab w M γ b → stab w M γ0 b := fun b hb => ⟨hb.1, hb.2.1, fun s => hb.2.2 (θ s)⟩
  have hun : ∀ {xs : List V} {vs : List Value}, CsRel w M γ (xs.map (V.rn θ)) vs → CsRel w M γ0 xs vs := fun {xs vs} hc => by
    have e : xs.map (V.rn θ) = xs.map (V.ren (fun s => some (θ s))) := List.map_congr_left fun x _ => V.rn_ren θ x
    rw [e] at hc
    exact hc.unren (fun s _ => rfl) hst0
  have hmem : Mem M γ0 H w := by
    refine ⟨hm.low, fun s t b x y => inj _ _ (hm.inj _ _ b x y), fun s b x => hm.nm _ b x, fun s e => hm.dom _ (by rw [hK, e]; rfl), fun s cs e => ?_⟩
    rcases hm.blk (θ s) (cs.map (V.rn θ)) (by rw [hK, e]; rfl) with ⟨b, t, vs, sp, h1, h2, h3⟩ | ⟨h1, h2⟩ | ⟨b, en, clk, h1, h2, h3⟩
    · exact .inl ⟨b, t, vs, sp, h1, h2, hun h3⟩
    · exact .inr (.inl ⟨h1, List.map_eq_nil_iff.1 h2⟩)
    · refine .inr (.inr ⟨b, en, clk, h1, h2, ?_⟩)
      cases cs with
      | nil => simp at h3
      | cons x r =>
        simp only [List.map_cons, List.cons.injEq, List.map_eq_nil_iff] at h3
        obtain ⟨e1, rfl⟩ := h3
        cases x <;> simp only [V.rn, reduceCtorEq] at e1
        rw [e1]
  have hargs : EsRel w M γ0 args vals := by
    refine ⟨by simpa using ha.1, fun i x u hx hu => ?_⟩
    have h1 := ha.2 i (x.rn θ) u (by rw [List.getElem?_map, hx]; rfl) hu
    rw [E.rn_ren] at h1
    exact h1.unren (fun s _ => rfl) hst0
  refine (h.2 M γ0 w vals hmem hargs).mono fun e w' he => ?_
  obtain ⟨v, γ1, rfl, mem1, rel1, keep1, own1, stay1⟩ := he
  have hdec : ∀ s, Decidable (∃ c, θ c = s) := fun s => Classical.propDecidable _
  let γ' : G := fun s => if hc : ∃ c, θ c = s then γ1 hc.choose else none
  have hγ' : ∀ c, γ' (θ c) = γ1 c := fun c => by
    have hc : ∃ d, θ d = θ c := ⟨c, rfl⟩
    simp only [γ', dif_pos hc]
    rw [inj _ _ hc.choose_spec]
  have hγi : ∀ s b, γ' s = some b → ∃ c, θ c = s ∧ γ1 c = some b := fun s b hb => by
    simp only [γ'] at hb
    split at hb
    · rename_i hc; exact ⟨hc.choose, hc.choose_spec, hb⟩
    · cases hb
  have hst1 : ∀ b, stab w' M γ1 b → stab w' M γ' b := fun b hb => ⟨hb.1, hb.2.1, fun s hs => by obtain ⟨c, _, hc⟩ := hγi s _ hs; exact hb.2.2 c hc⟩
  refine ⟨v, γ', rfl, ⟨mem1.low, fun s t b x y => ?_, fun s b x => ?_, fun s e => ?_, fun s cs e => ?_⟩, rel1.dorn hγ' hst1, ?_, fun s b x => ?_, fun s x => ?_⟩
  · obtain ⟨c, rfl, hc⟩ := hγi s _ x
    obtain ⟨d, rfl, hd⟩ := hγi t _ y
    rw [mem1.inj c d b hc hd]
  · obtain ⟨c, _, hc⟩ := hγi s _ x
    exact mem1.nm c b hc
  · by_cases hc : ∃ c, θ c = s
    · obtain ⟨c, rfl⟩ := hc
      rw [hγ']
      refine mem1.dom c ?_
      rw [hK'] at e
      simpa using e
    · simp only [γ', dif_neg hc]
  · obtain ⟨c, rfl⟩ := hK0' s (by rw [e]; simp)
    rw [hK', Option.map_eq_some_iff] at e
    obtain ⟨cs0, e0, rfl⟩ := e
    rw [hγ']
    rcases mem1.blk c cs0 e0 with ⟨b, t, vs, sp, h1, h2, h3⟩ | ⟨h1, rfl⟩ | ⟨b, en, clk, h1, h2, rfl⟩
    · exact .inl ⟨b, t, vs, sp, h1, h2, h3.dorn hγ' hst1⟩
    · exact .inr (.inl ⟨h1, rfl⟩)
    · exact .inr (.inr ⟨b, en, clk, h1, h2, rfl⟩)
  · exact ⟨keep1.os, keep1.tape, keep1.output, keep1.drawn, keep1.size, fun b hb hn => keep1.same b hb fun ⟨s, hs⟩ => hn ⟨θ s, hs⟩, keep1.shape⟩
  · obtain ⟨c, _, hc⟩ := hγi s _ x
    rcases own1 c b hc with ⟨t, ht⟩ | hge
    · exact .inl ⟨θ t, ht⟩
    · exact .inr hge
  · obtain ⟨c, rfl, hc⟩ := hs s x
    rw [hγ']
    exact stay1 c hc
end Go.Ab
end

section
namespace Go.Ab
open Go Go.RowKit

section
variable {P : Program} {U : Univ}

def SV.rn (θ : Nat → Nat) : SV U → SV U
  | .ptr s off => .ptr (θ s) off
  | .rptr s k i j => .rptr (θ s) k i j
  | .sub s k off len => .sub (θ s) k off len
  | .own s k len => .own (θ s) k len
  | .clo f caps => .clo f (caps.map fun p => (θ p.1, p.2))
  | .mp s => .mp (θ s)
  | v => v
def SE.rn (θ : Nat → Nat) : SE U → SE U
  | .c v => .c (v.rn θ)
  | .agg vs => .agg (vs.map (SV.rn θ))
def ST.rn (θ : Nat → Nat) : ST U → ST U
  | .e x => .e (x.rn θ)
  | .tup xs => .tup (xs.map (SE.rn θ))
  | .any => .any
def Blk.rn (θ : Nat → Nat) : Blk U → Blk U
  | .cells cs => .cells (cs.map (SV.rn θ))
  | b => b
theorem SV.rn_den (θ : Nat → Nat) (v : SV U) : (v.rn θ).den = v.den.rn θ := by cases v <;> rfl
theorem SE.rn_den (θ : Nat → Nat) (x : SE U) : (x.rn θ).den = x.den.rn θ := by
  cases x with
  | c v => simp only [SE.rn, SE.den, E.rn, SV.rn_den]
  | agg vs => simp only [SE.rn, SE.den, E.rn, List.map_map]; congr 1; apply List.map_congr_left; intro v _; exact SV.rn_den θ v
theorem ST.rn_den (θ : Nat → Nat) (x : ST U) : (x.rn θ).den = x.den.rn θ := by
  cases x with
  | e v => simp only [ST.rn, ST.den, T.rn, SE.rn_den]
  | tup vs => simp only [ST.rn, ST.den, T.rn, List.map_map]; congr 1; apply List.map_congr_left; intro v _; exact SE.rn_den θ v
  | any => rfl
theorem Blk.rn_den (θ : Nat → Nat) (b : Blk U) : (b.rn θ).den = b.den.map (V.rn θ) := by
  cases b with
  | cells cs => simp only [Blk.rn, Blk.den, List.map_map]; apply List.map_congr_left; intro v _; exact SV.rn_den θ v
  | rows k l => simp [Blk.rn, Blk.den, Function.comp_def, V.rn]
  | mapb es => simp [Blk.rn, Blk.den, V.rn]

theorem SV.rn_rn {θ η : Nat → Nat} {v : SV U} (h : ∀ s ∈ v.labs, θ (η s) = s) : (v.rn η).rn θ = v := by
  cases v <;> simp_all [SV.rn, SV.labs]
  rename_i f caps
  conv => rhs; rw [← List.map_id caps]
  apply List.map_congr_left
  intro p hp
  simp only [Function.comp, id]
  rw [h p.1 _ hp]
theorem SE.rn_rn {θ η : Nat → Nat} {x : SE U} (h : ∀ s ∈ x.labs, θ (η s) = s) : (x.rn η).rn θ = x := by
  cases x with
  | c v => simp only [SE.rn, SV.rn_rn (v := v) h]
  | agg vs =>
    simp only [SE.rn, List.map_map]
    congr 1
    conv => rhs; rw [← List.map_id vs]
    apply List.map_congr_left
    intro v hv
    exact SV.rn_rn fun s hs => h s (List.mem_flatMap.2 ⟨v, hv, hs⟩)
def Blk.labs : Blk U → List Nat
  | .cells cs => cs.flatMap SV.labs
  | _ => []
theorem Blk.rn_rn {θ η : Nat → Nat} {b : Blk U} (h : ∀ s ∈ b.labs, θ (η s) = s) : (b.rn η).rn θ = b := by
  cases b with
  | cells cs =>
    simp only [Blk.rn, List.map_map]
    congr 1
    conv => rhs; rw [← List.map_id cs]
    apply List.map_congr_left
    intro v hv
    exact SV.rn_rn fun s hs => h s (List.mem_flatMap.2 ⟨v, hv, hs⟩)
  | rows k l => rfl
  | mapb es => rfl
theorem Blk.labs_of {b : Blk U} {v : V} (hv : v ∈ b.den) {s : Nat} (hs : v.names s) : s ∈ b.labs := by
  cases b with
  | cells cs =>
    simp only [Blk.den, List.mem_map] at hv
    obtain ⟨a, ha, rfl⟩ := hv
    exact List.mem_flatMap.2 ⟨a, ha, by rw [← SV.labs_den]; exact V.labs_ok hs⟩
  | rows k l => exact (rows_names hv s hs).elim
  | mapb es =>
    simp only [Blk.den, List.mem_singleton] at hv
    subst hv; exact hs.elim

def rnH (θ : Nat → Nat) (l : List (Nat × Blk U)) : List (Nat × Blk U) := l.map fun p => (θ p.1, p.2.rn θ)
theorem getH_rn {θ : Nat → Nat} (inj : ∀ a b, θ a = θ b → a = b) : ∀ (l : List (Nat × Blk U)) (c : Nat), getH (rnH θ l) (θ c) = (getH l c).map (Blk.rn θ)
  | [], _ => rfl
  | (j, b) :: r, c => by
    simp only [rnH, List.map_cons, getH]
    cases h : Nat.beq c j with
    | true => rw [beq_t h]; simp [Nat.beq_refl]
    | false =>
      have : Nat.beq (θ c) (θ j) = false := by
        cases h2 : Nat.beq (θ c) (θ j) with
        | false => rfl
        | true => exact absurd (inj _ _ (beq_t h2)) (beq_f h)
      rw [this]
      exact getH_rn inj r c
theorem getH_rn_some {θ : Nat → Nat} : ∀ {l : List (Nat × Blk U)} {s : Nat} {b : Blk U}, getH (rnH θ l) s = some b → ∃ c ∈ l.map (·.1), θ c = s
  | [], _, _, h => by cases h
  | (j, b) :: r, s, b', h => by
    simp only [rnH, List.map_cons, getH] at h
    cases h2 : Nat.beq s (θ j) with
    | true => exact ⟨j, by simp, (beq_t h2).symm⟩
    | false =>
      rw [h2] at h
      obtain ⟨c, hc, e⟩ := getH_rn_some (l := r) h
      exact ⟨c, by simp only [List.map_cons, List.mem_cons]; exact .inr hc, e⟩

/-- Places in a list. -/
def idxOf : List Nat → Nat → Nat
  | [], _ => 0
  | a :: r, s => match Nat.beq a s with | true => 0 | false => idxOf r s + 1
def nthOr (R : List Nat) (ctr : Nat) (c : Nat) : Nat := match getL R c with | some s => s | none => ctr + (c - R.length)
def nodupB : List Nat → Bool
  | [] => true
  | a :: r => !r.contains a && nodupB r
theorem idx_nth : ∀ {R : List Nat} {s : Nat}, s ∈ R → R[idxOf R s]? = some s
  | [], s, h => by simp at h
  | a :: r, s, h => by
    simp only [idxOf]
    cases h2 : Nat.beq a s with
    | true => simp [beq_t h2]
    | false =>
      have : s ∈ r := by rcases List.mem_cons.1 h with e | e; exact absurd e.symm (beq_f h2); exact e
      simpa using idx_nth this
theorem nth_idx {R : List Nat} {ctr s : Nat} (h : s ∈ R) : nthOr R ctr (idxOf R s) = s := by
  unfold nthOr
  rw [getL_eq, idx_nth h]
theorem nodup_get : ∀ {R : List Nat}, nodupB R = true → ∀ (a b s : Nat), R[a]? = some s → R[b]? = some s → a = b
  | [], _, a, b, s, h, _ => by simp at h
  | x :: r, hd, a, b, s, h1, h2 => by
    simp only [nodupB, Bool.and_eq_true, Bool.not_eq_true'] at hd
    have hx : ∀ i, r[i]? = some x → False := fun i hi => by
      have := List.mem_of_getElem? hi
      have h3 : r.contains x = true := by simpa using this
      rw [hd.1] at h3; cases h3
    cases a with
    | zero =>
      cases b with
      | zero => rfl
      | succ b =>
        simp only [List.getElem?_cons_zero, Option.some.injEq] at h1
        subst h1
        exact (hx b (by simpa using h2)).elim
    | succ a =>
      cases b with
      | zero =>
        simp only [List.getElem?_cons_zero, Option.some.injEq] at h2
        subst h2
        exact (hx a (by simpa using h1)).elim
      | succ b => rw [nodup_get hd.2 a b s (by simpa using h1) (by simpa using h2)]
theorem nth_inj {R : List Nat} {ctr : Nat} (hn : nodupB R = true) (hlt : ∀ s ∈ R, s < ctr) (a b : Nat) (h : nthOr R ctr a = nthOr R ctr b) : a = b := by
  unfold nthOr at h
  rw [getL_eq, getL_eq] at h
  cases ha : R[a]? with
  | some s =>
    rw [ha] at h
    cases hb : R[b]? with
    | some t => rw [hb] at h; simp only at h; subst h; exact nodup_get hn a b s ha hb
    | none => rw [hb] at h; simp only at h; have := hlt s (List.mem_of_getElem? ha); omega
  | none =>
    rw [ha] at h
    cases hb : R[b]? with
    | some t => rw [hb] at h; simp only at h; have := hlt t (List.mem_of_getElem? hb); omega
    | none =>
      rw [hb] at h
      simp only at h
      rw [List.getElem?_eq_none_iff] at ha hb
      omega
end
end Go.Ab
end

section
namespace Go.Ab
open Go Go.RowKit

section
variable {P : Program} {U : Univ}

/-- What comes out of a call with own blocks, under the labels of the contract. -/
structure OOut (U : Univ) where
  r : ST U
  heap : List (Nat × Blk U)
  ms : List Nat
  wl : List Nat

/-- A contract of a function that takes own blocks: they bear the labels 0, 1, .. in the order in which the arguments name them. -/
structure OCt (P : Program) (U : Univ) where
  f : FuncId
  ent : Ent P f
  run : List (Nat × Blk U) → List (SE U) → (OOut U → Prop) → Prop
  ok : ∀ H args K, run H args K → ∃ out : OOut U, Sat P f (mkH (denH H)) (args.map SE.den) (mkH (denH out.heap)) (fun u => u < H.length ∧ u ∉ out.ms) out.r.den ∧ (∀ u, u < H.length → u ∉ out.wl → mkH (denH out.heap) u = mkH (denH H) u) ∧ K out

def findO : List (OCt P U) → FuncId → Option (OCt P U)
  | [], _ => none
  | c :: r, f => match Nat.beq c.f f with | true => some c | false => findO r f
theorem findO_ok : ∀ {l : List (OCt P U)} {f : FuncId} {c : OCt P U}, findO l f = some c → c.f = f
  | [], _, _, h => by cases h
  | a :: r, f, c, h => by
    simp only [findO] at h
    split at h
    · rename_i e; injection h with h; subst h; exact beq_t e
    · exact findO_ok h

def reachS (H : List (Nat × Blk U)) : Nat → List Nat → List Nat → List Nat
  | 0, _, seen => seen
  | _ + 1, [], seen => seen
  | k + 1, s :: l, seen => match seen.contains s with | true => reachS H k l seen | false => reachS H k ((match getH H s with | some b => b.labs | none => []) ++ l) (seen ++ [s])

def canH (η : Nat → Nat) (H : List (Nat × Blk U)) : Nat → List Nat → Option (List (Nat × Blk U))
  | _, [] => some []
  | i, s :: r => match getH H s, canH η H (i + 1) r with | some b, some l => some ((i, b.rn η) :: l) | _, _ => none

def bndH (m : Nat) : List (Nat × Blk U) → Nat
  | [] => 0
  | (c, _) :: r => max (c + 1 - m) (bndH m r)

def klTs (ms : List Nat) (x : ST U) : ST U := match ms.any (fun s => x.nm s) with | true => .any | false => x
def klVs (ms : List Nat) (x : SV U) : SV U := match ms.any (fun s => x.nm s) with | true => .any | false => x
def Blk.kls (ms : List Nat) : Blk U → Blk U
  | .cells cs => .cells (cs.map (klVs ms))
  | b => b
def restH (R ms : List Nat) : List (Nat × Blk U) → List (Nat × Blk U)
  | [] => []
  | (j, b) :: r => match R.contains j with | true => restH R ms r | false => (j, b.kls ms) :: restH R ms r

theorem klTs_den (ms : List Nat) (x : ST U) : (klTs ms x).den = killT ms x.den := by
  unfold klTs killT
  have : (ms.any fun s => x.den.nmB s) = ms.any fun s => x.nm s := by congr 1; funext s; exact ST.nm_den s x
  rw [this]
  cases ms.any fun s => x.nm s <;> rfl
theorem klVs_den (ms : List Nat) (x : SV U) : (klVs ms x).den = killV ms x.den := by
  unfold klVs killV
  have : (ms.any fun s => x.den.nmB s) = ms.any fun s => x.nm s := by congr 1; funext s; exact SV.nm_den s x
  rw [this]
  cases ms.any fun s => x.nm s <;> rfl
theorem kls_den (ms : List Nat) (b : Blk U) : (b.kls ms).den = b.den.map (killV ms) := by
  cases b with
  | cells cs => simp only [Blk.kls, Blk.den, List.map_map]; apply List.map_congr_left; intro v _; exact klVs_den ms v
  | rows k l =>
    simp only [Blk.kls, Blk.den, List.map_map]
    apply List.map_congr_left
    intro v _
    simp only [Function.comp, killV]
    rw [if_neg (by simp [V.nmB])]
  | mapb es => simp only [Blk.kls, Blk.den, List.map_cons, List.map_nil, killV_mapc]
theorem getH_rest (R ms : List Nat) : ∀ (l : List (Nat × Blk U)) (u : Nat), u ∉ R → getH (restH R ms l) u = (getH l u).map (Blk.kls ms)
  | [], _, _ => rfl
  | (j, b) :: r, u, hu => by
    simp only [restH]
    cases hj : R.contains j with
    | true =>
      have : Nat.beq u j = false := by
        cases h : Nat.beq u j with
        | false => rfl
        | true => exact absurd (by rw [beq_t h]; simpa using hj) hu
      simp only [getH, this]
      exact getH_rest R ms r u hu
    | false =>
      simp only [getH]
      cases h : Nat.beq u j with
      | true => rfl
      | false => exact getH_rest R ms r u hu
theorem getH_app : ∀ (l l' : List (Nat × Blk U)) (u : Nat), getH (l ++ l') u = match getH l u with | some b => some b | none => getH l' u
  | [], _, _ => rfl
  | (j, b) :: r, l', u => by
    simp only [List.cons_append, getH]
    cases h : Nat.beq u j with
    | true => rfl
    | false => exact getH_app r l' u
theorem canH_ok {η : Nat → Nat} {H : List (Nat × Blk U)} : ∀ {R : List Nat} {i : Nat} {l : List (Nat × Blk U)}, canH η H i R = some l → l.length = R.length ∧ (∀ c s, R[c]? = some s → ∃ b, getH H s = some b ∧ getH l (i + c) = some (b.rn η)) ∧ ∀ c, getH l c ≠ none → i ≤ c ∧ c < i + R.length
  | [], i, l, h => by simp only [canH, Option.some.injEq] at h; subst h; exact ⟨rfl, fun c s hc => by simp at hc, fun c hc => absurd rfl hc⟩
  | s :: r, i, l, h => by
    simp only [canH] at h
    split at h
    · rename_i b l' hb hl
      injection h with h; subst h
      obtain ⟨i1, i2, i3⟩ := canH_ok hl
      refine ⟨by simp [i1], fun c t hc => ?_, fun c hc => ?_⟩
      · cases c with
        | zero =>
          simp only [List.getElem?_cons_zero, Option.some.injEq] at hc
          subst hc
          exact ⟨b, hb, by simp [getH, Nat.beq_refl]⟩
        | succ c =>
          obtain ⟨b', h1, h2⟩ := i2 c t (by simpa using hc)
          refine ⟨b', h1, ?_⟩
          simp only [getH]
          have : Nat.beq (i + (c + 1)) i = false := by
            cases h : Nat.beq (i + (c + 1)) i with
            | false => rfl
            | true => have := beq_t h; omega
          rw [this, show i + (c + 1) = i + 1 + c by omega]
          exact h2
      · simp only [getH] at hc
        cases h : Nat.beq c i with
        | true => rw [beq_t h]; simp
        | false =>
          rw [h] at hc
          have := i3 c hc
          simp only [List.length_cons]; omega
    · cases h

def scallO (n : Nat) (ops : Array Oper) (keep : List Nat) (o : Oper) (σ : SS U) (c : OCt P U) (es : List (SE U)) (K : SS U → Ft → Prop) : Prop :=
  let R := reachS σ.heap 1000 (es.flatMap SE.labs) []
  match canH (idxOf R) σ.heap 0 R, nodupB R && (R.all fun s => Nat.blt s σ.ctr) && (es.all fun x => x.labs.all R.contains) && (R.all fun s => match getH σ.heap s with | some b => b.labs.all R.contains | none => true) && dokS n o.dst && keep.all (fun s => Nat.blt s σ.ctr) with
  | some H, true => c.run H (es.map (SE.rn (idxOf R))) fun out =>
    let ms := out.ms.map (nthOr R σ.ctr)
    let N := ((out.heap.map (·.1)).filter fun c => Nat.ble R.length c).map (nthOr R σ.ctr)
    match (out.ms.all fun c => Nat.blt c R.length) && (ms.all fun s => !keep.contains s) && (N.all fun s => match getH σ.heap s with | some _ => false | none => true) with
    | true => K { env := (match o.dst with | some d => (d, out.r.rn (nthOr R σ.ctr)) :: σ.env.map (fun p => (p.1, klTs ms p.2)) | none => σ.env.map (fun p => (p.1, klTs ms p.2))),
                  heap := rnH (nthOr R σ.ctr) out.heap ++ restH R ms σ.heap, ctr := σ.ctr + bndH R.length out.heap }
        ⟨lk ops o ++ odd R, dl o ++ even (ms.flatMap fun s => tmpsS s σ.env) ++ odd ((out.wl.map (nthOr R σ.ctr)) ++ N ++ ms.flatMap fun s => blksS s σ.heap), ms⟩
    | false => False
  | _, _ => False

variable {V : Views P U} {n : Nat} {ops : Array Oper} {keep : List Nat} {o : Oper} {σ : SS U} {K : SS U → Ft → Prop}

theorem env_map_den (ms : List Nat) : ∀ (l : List (Nat × ST U)) (i : Nat), mk (denE (l.map fun p => (p.1, klTs ms p.2))) i = killT ms (mk (denE l) i)
  | [], i => by simp only [List.map_nil, denE, mk, killT]; rw [if_neg (by simp [T.nmB])]
  | (j, t) :: r, i => by
    have ih := env_map_den ms r i
    simp only [denE, List.map_cons, mk] at ih ⊢
    split
    · exact klTs_den ms t
    · exact ih

theorem scallO_ok {c : OCt P U} {es : List (SE U)} (h : scallO n ops keep o σ c es K) (hg : Taken ops o σ.st) (hen : Enters P o σ.st.ev c.f (es.map SE.den)) : ∃ σ' f, StepS P n ops o keep σ σ' f ∧ K σ' f := by
  unfold scallO at h
  simp only at h
  generalize hR : reachS σ.heap 1000 (es.flatMap SE.labs) [] = R at h
  split at h
  · rename_i H hH hck
    simp only [Bool.and_eq_true] at hck
    obtain ⟨⟨⟨⟨⟨k1, k2⟩, k3⟩, k4⟩, k5⟩, k6⟩ := hck
    rw [List.all_eq_true] at k2 k3 k4 k6
    have hlt : ∀ s ∈ R, s < σ.ctr := fun s hs => Nat.le_of_ble_eq_true (k2 s hs)
    have hinj := nth_inj (ctr := σ.ctr) k1 hlt
    obtain ⟨out, hsat, hwl, h⟩ := c.ok _ _ _ h
    split at h
    · rename_i hck2
      simp only [Bool.and_eq_true] at hck2
      obtain ⟨⟨l1, l2⟩, l3⟩ := hck2
      rw [List.all_eq_true] at l1 l2 l3
      obtain ⟨c1, c2, c3⟩ := canH_ok hH
      have hnlt : ∀ s, ¬ s ∈ R → ∀ d, nthOr R σ.ctr d = s → R.length ≤ d := fun s hs d hd => by
        rcases Nat.lt_or_ge d R.length with hlt' | hge
        · exfalso; apply hs
          rw [← hd]; unfold nthOr; rw [getL_eq, List.getElem?_eq_getElem hlt']; exact List.getElem_mem _
        · exact hge
      have hin : ∀ d, d < R.length → nthOr R σ.ctr d ∈ R := fun d hd => by unfold nthOr; rw [getL_eq, List.getElem?_eq_getElem hd]; exact List.getElem_mem _
      have hout : ∀ d, R.length ≤ d → nthOr R σ.ctr d ∉ R := fun d hd hm => by
        have := hlt _ hm
        unfold nthOr at this; rw [getL_eq, List.getElem?_eq_none (by omega)] at this; simp only at this; omega
      have hargs : ∀ x ∈ es, (x.rn (idxOf R)).rn (nthOr R σ.ctr) = x := fun x hx => SE.rn_rn fun s hs => by
        have := k3 x hx
        rw [List.all_eq_true] at this
        exact nth_idx (by simpa using this s hs)
      have hblk : ∀ s ∈ R, ∀ b, getH σ.heap s = some b → ∀ t ∈ b.labs, t ∈ R := fun s hs b hb t ht => by
        have := k4 s hs
        rw [hb] at this
        simp only [List.all_eq_true] at this
        simpa using this t ht
      -- the contract under this state's labels
      have hsat2 : Sat P c.f (part σ.st.heap R) (es.map SE.den) (mkH (denH (rnH (nthOr R σ.ctr) out.heap))) (fun u => u ∈ R ∧ u ∉ out.ms.map (nthOr R σ.ctr)) (out.r.rn (nthOr R σ.ctr)).den := by
        have := Sat.rename (K := part σ.st.heap R) (K' := mkH (denH (rnH (nthOr R σ.ctr) out.heap))) (stay' := fun u => u ∈ R ∧ u ∉ out.ms.map (nthOr R σ.ctr)) hsat (nthOr R σ.ctr) hinj ?_ ?_ ?_ ?_ ?_
        · rw [ST.rn_den]
          refine cast (congrArg (fun z => Sat P c.f _ z _ _ _) ?_) this
          rw [List.map_map, List.map_map]
          apply List.map_congr_left
          intro x hx
          simp only [Function.comp]
          rw [← SE.rn_den, hargs x hx]
        · intro d
          rcases Nat.lt_or_ge d R.length with hd | hd
          · have hs : R[d]? = some (nthOr R σ.ctr d) := by unfold nthOr; rw [getL_eq, List.getElem?_eq_getElem hd]
            obtain ⟨b, hb1, hb2⟩ := c2 d _ hs
            rw [Nat.zero_add] at hb2
            simp only [part, if_pos (hin d hd)]
            rw [st_heap, hb1, mkH_denH, hb2]
            simp only [Option.map_some, Option.some.injEq]
            rw [← Blk.rn_den, Blk.rn_rn fun s hs' => nth_idx (hblk _ (hin d hd) b hb1 s hs')]
          · simp only [part, if_neg (hout d hd)]
            have : getH H d = none := by
              cases e : getH H d with
              | none => rfl
              | some b => have := c3 d (by rw [e]; simp); omega
            rw [mkH_denH, this]; rfl
        · intro s hs
          unfold part at hs
          split at hs
          · rename_i hm; exact ⟨idxOf R s, nth_idx hm⟩
          · exact absurd rfl hs
        · intro d
          rw [mkH_denH, getH_rn hinj, mkH_denH]
          cases getH out.heap d with
          | none => rfl
          | some b => simp only [Option.map_some, Blk.rn_den]
        · intro s hs
          rw [mkH_denH] at hs
          cases e : getH (rnH (nthOr R σ.ctr) out.heap) s with
          | none => rw [e] at hs; exact absurd rfl hs
          | some b => obtain ⟨d, _, hd⟩ := getH_rn_some e; exact ⟨d, hd⟩
        · rintro s ⟨h1, h2⟩
          refine ⟨idxOf R s, nth_idx h1, ?_, fun hm => h2 (List.mem_map.2 ⟨_, hm, nth_idx h1⟩)⟩
          rw [c1]
          exact (List.getElem?_eq_some_iff.1 (idx_nth h1)).1
      generalize hms : out.ms.map (nthOr R σ.ctr) = ms at *
      generalize hN : ((out.heap.map (·.1)).filter fun c => Nat.ble R.length c).map (nthOr R σ.ctr) = N at *
      have hmsR : ∀ s ∈ ms, s ∈ R := fun s hs => by
        rw [← hms, List.mem_map] at hs
        obtain ⟨d, hd, rfl⟩ := hs
        exact hin d (Nat.le_of_ble_eq_true (l1 d hd))
      have hfresh : ∀ u ∈ N, σ.st.heap u = none := fun u hu => by
        have := l3 u hu
        rw [st_heap]
        split at this
        · cases this
        · rename_i e; rw [e]; rfl
      have hdom : ∀ u, mkH (denH (rnH (nthOr R σ.ctr) out.heap)) u ≠ none → u ∈ R ∨ u ∈ N := fun u hu => by
        rw [mkH_denH] at hu
        cases e : getH (rnH (nthOr R σ.ctr) out.heap) u with
        | none => rw [e] at hu; exact absurd rfl hu
        | some b =>
          obtain ⟨d, hd, rfl⟩ := getH_rn_some e
          rcases Nat.lt_or_ge d R.length with hlt' | hge
          · exact .inl (hin d hlt')
          · refine .inr ?_
            rw [← hN, List.mem_map]
            exact ⟨d, List.mem_filter.2 ⟨hd, Nat.ble_eq_true_of_le hge⟩, rfl⟩
      have hpass : Passes P c.f σ.st.heap R N ms (es.map SE.den) (mkH (denH (rnH (nthOr R σ.ctr) out.heap))) (out.r.rn (nthOr R σ.ctr)).den := by
        refine ⟨hsat2, fun x hx s hs => ?_, fun u hu cs hcs x hx s hs => ?_, hdom, hfresh⟩
        · rw [List.mem_map] at hx
          obtain ⟨y, hy, rfl⟩ := hx
          have := k3 y hy
          rw [List.all_eq_true] at this
          simpa using this s (by rw [← SE.labs_den]; exact E.labs_ok hs)
        · rw [st_heap, Option.map_eq_some_iff] at hcs
          obtain ⟨b, hb, rfl⟩ := hcs
          exact hblk u hu b hb s (Blk.labs_of hx hs)
      have hkeep : ∀ u ∈ N, ¬ u ∈ keep := fun u hu hk => by
        have h1 : u < σ.ctr := Nat.le_of_ble_eq_true (k6 u hk)
        rw [← hN, List.mem_map] at hu
        obtain ⟨d, hd, rfl⟩ := hu
        have h2 := Nat.le_of_ble_eq_true (List.mem_filter.1 hd).2
        unfold nthOr at h1
        rw [getL_eq, List.getElem?_eq_none (by omega)] at h1
        simp only at h1; omega
      have hsq := SQ.callO (P := P) (n := n) (stay := (· ∈ keep)) (ops := ops) (o := o) (W := out.wl.map (nthOr R σ.ctr)) (ts := ms.flatMap fun s => tmpsS s σ.env) (us := ms.flatMap fun s => blksS s σ.heap) hg hpass
        (fun u hu hk => by have := l2 u hu; rw [Bool.not_eq_true'] at this; exact nk this hk) hkeep (dokS_ok k5) hen ?_ ?_ ?_
      · refine ⟨_, _, ⟨?_, fun s hs l hl hn => ?_⟩, h⟩
        · refine cast (congrArg (fun z => SQ P n (· ∈ keep) ops o σ.st z _) ?_) hsq
          unfold callSt
          have henv : ((⟨fun i => killT ms (σ.st.env i), σ.st.heap⟩ : St).put o.dst (out.r.rn (nthOr R σ.ctr)).den).env = mk (denE (match o.dst with | some d => (d, out.r.rn (nthOr R σ.ctr)) :: σ.env.map (fun p => (p.1, klTs ms p.2)) | none => σ.env.map (fun p => (p.1, klTs ms p.2)))) := by
            have e0 : (fun i => killT ms (σ.st.env i)) = mk (denE (σ.env.map fun p => (p.1, klTs ms p.2))) := by
              funext i; rw [env_map_den]; rfl
            cases o.dst with
            | none => simp only [St.put]; exact e0
            | some d => simp only [St.put, e0]; rfl
          unfold SS.st
          simp only
          congr 1
          funext u
          rw [mkH_denH (rnH (nthOr R σ.ctr) out.heap ++ restH R ms σ.heap) u, getH_app]
          by_cases hu : u ∈ R ∨ u ∈ N
          · rw [if_pos hu, mkH_denH]
            cases e : getH (rnH (nthOr R σ.ctr) out.heap) u with
            | some b => rfl
            | none =>
              simp only [Option.map_none]
              symm
              rcases hu with hu | hu
              · have : getH (restH R ms σ.heap) u = none := by
                  have key : ∀ l : List (Nat × Blk U), getH (restH R ms l) u = none := fun l => by
                    induction l with
                    | nil => rfl
                    | cons p r ih =>
                      obtain ⟨j, b⟩ := p
                      simp only [restH]
                      cases hj : R.contains j with
                      | true => exact ih
                      | false =>
                        simp only [getH]
                        cases h2 : Nat.beq u j with
                        | true => rw [beq_t h2] at hu; have : R.contains j = true := by simpa using hu
                                  rw [hj] at this; cases this
                        | false => exact ih
                  exact key _
                rw [this]; rfl
              · have h1 := hfresh u hu
                rw [st_heap] at h1
                have h2 : getH σ.heap u = none := by simpa using h1
                have h3 : u ∉ R := fun hm => by
                  obtain ⟨b, hb, _⟩ := c2 _ _ (idx_nth hm)
                  rw [h2] at hb; cases hb
                rw [getH_rest _ _ _ _ h3, h2]; rfl
          · rw [if_neg hu]
            have h1 : getH (rnH (nthOr R σ.ctr) out.heap) u = none := by
              cases e : getH (rnH (nthOr R σ.ctr) out.heap) u with
              | none => rfl
              | some b => exact absurd (hdom u (by rw [mkH_denH, e]; simp)) hu
            rw [h1]
            simp only
            rw [getH_rest _ _ _ _ (fun hm => hu (.inl hm)), mkH_denH]
            cases getH σ.heap u with
            | none => rfl
            | some b => simp only [Option.map_some, kls_den]
        · simp only [List.mem_append, not_or] at hl
          unfold St.at at hn
          split at hn
          · rename_i e0
            have e1 : l = 2 * (l / 2) := by omega
            have hn : (σ.st.env (l / 2)).names s := hn
            rw [st_env, ← T.nmB_iff, ST.nm_den] at hn
            apply hl.1.2
            rw [e1, mem_even]
            exact List.mem_flatMap.2 ⟨s, hs, (tmpsS_ok s σ.env _).2 hn⟩
          · rename_i e0
            have e1 : l = 2 * (l / 2) + 1 := by omega
            apply hl.2
            rw [e1, mem_odd]
            cases hcs : σ.st.heap (l / 2) with
            | none => rw [hcs] at hn; exact hn.elim
            | some cs' =>
              rw [hcs] at hn
              rw [st_heap, Option.map_eq_some_iff] at hcs
              obtain ⟨b, hb1, rfl⟩ := hcs
              exact List.mem_append.2 (.inr (List.mem_flatMap.2 ⟨s, hs, blksS_of _ _ _ b hb1 hn⟩))
      · intro u hu hw
        have e1 : mkH (denH (rnH (nthOr R σ.ctr) out.heap)) u = (mkH (denH out.heap) (idxOf R u)).map (List.map (V.rn (nthOr R σ.ctr))) := by
          rw [mkH_denH, mkH_denH]
          have := getH_rn hinj out.heap (idxOf R u)
          rw [nth_idx hu] at this
          rw [this]
          cases getH out.heap (idxOf R u) with
          | none => rfl
          | some b => simp only [Option.map_some, Blk.rn_den]
        have hd : idxOf R u < R.length := (List.getElem?_eq_some_iff.1 (idx_nth hu)).1
        rw [e1, hwl (idxOf R u) (by rw [c1]; exact hd) (fun hm => hw (List.mem_map.2 ⟨_, hm, nth_idx hu⟩))]
        obtain ⟨b, hb1, hb2⟩ := c2 _ _ (idx_nth hu)
        rw [Nat.zero_add] at hb2
        rw [mkH_denH, hb2, st_heap, hb1]
        simp only [Option.map_some, Option.some.injEq]
        rw [← Blk.rn_den, Blk.rn_rn fun s hs' => nth_idx (hblk _ hu b hb1 s hs')]
      · intro i hi hts s hs hn
        apply hts
        rw [st_env, ← T.nmB_iff, ST.nm_den] at hn
        exact List.mem_flatMap.2 ⟨s, hs, (tmpsS_ok s σ.env _).2 hn⟩
      · intro u _ _ hus s hs cs hcs hn
        apply hus
        rw [st_heap, Option.map_eq_some_iff] at hcs
        obtain ⟨b, hb1, rfl⟩ := hcs
        exact List.mem_flatMap.2 ⟨s, hs, blksS_of _ _ _ b hb1 hn⟩
    · exact h.elim
  · exact h.elim

/-- The contracts of the callees. -/
structure Reg (P : Program) (U : Univ) where
  ps : List (Ct P U)
  os : List (OCt P U)
end
end Go.Ab
end

section
namespace Go.Ab
open Go Go.RowKit

section
variable {P : Program} {U : Univ}

def sact0 (V : Views P U) (n : Nat) (ops : Array Oper) (keep : List Nat) (reg : Reg P U) (o : Oper) (σ : SS U) (K : SS U → Ft → Prop) : Prop :=
  match o.op with
  | .store t x y => sstore V ops o σ t x y K
  | .box _ x => (match σ.ev x with | .e e => snew n ops keep o σ (.cells e.cells) (.e (.c (.ptr σ.ctr 0))) K | _ => False)
  | .alloc t => (match V.ty t with | some ti => (match ti.zs with | some zs => snew n ops keep o σ (.cells (zs.map fun v => .d (.sc v))) (.e (.c (.ptr σ.ctr 0))) K | none => False) | none => False)
  | .makeSlice t l c => smake V n ops keep o σ t l c K
  | .call ⟨.builtin .append, args, ats⟩ => (match args.toList, ats.toList with | [x, y], [t, t'] => (match Nat.beq t t' with | true => sapp V n ops keep o σ x y t K | false => False) | _, _ => False)
  | .call ⟨.builtin .copy, args, ats⟩ => (match args.toList, ats.toList with | [x, y], [t, _] => scopy V n ops o σ x y t K | _, _ => False)
  | .call ⟨.value (.func g), args, _⟩ => (match findC reg.ps g with
    | some _ => scallP n ops o σ reg.ps g args.toList K
    | none => (match findO reg.os g, toEsS (args.toList.map σ.ev) with | some c, some es => scallO n ops keep o σ c es K | _, _ => False))
  | .call ⟨.value x, args, _⟩ => (match σ.ev x with
    | .e (.c (.clo g caps)) => (match findO reg.os g, toEsS (args.toList.map σ.ev) with | some c, some es => scallO n ops keep o σ c (es ++ caps.map fun p => .c (.ptr p.1 p.2)) K | _, _ => False)
    | _ => False)
  | .makeMap _ none => smkmap n ops keep o σ K
  | .lookup t x y true => slook V n ops o σ t x y K
  | .mapUpdate t x y z => smupd V ops o σ t x y z K
  | _ => spure V n ops o σ K

variable {V : Views P U} {n : Nat} {ops : Array Oper} {keep : List Nat} {o : Oper} {σ : SS U} {K : SS U → Ft → Prop} {reg : Reg P U}

theorem sact0_ok (h : sact0 V n ops keep reg o σ K) (hg : Taken ops o σ.st) : ∃ σ' f, StepS P n ops o keep σ σ' f ∧ K σ' f := by
  unfold sact0 at h
  split at h
  · rename_i t x y ho; exact sstore_ok h hg ho
  · rename_i t x ho
    split at h
    · rename_i e he
      refine snew_ok h hg _ (alloc_box t x ho σ.ctr e.den (by rw [ev_den, he]; rfl)) ?_
      rw [cells_den]; exact CsLe.refl _
    · exact h.elim
  · rename_i t ho
    split at h
    · rename_i ti hti
      split at h
      · rename_i zs hz
        refine snew_ok h hg _ (alloc_alloc t ho σ.ctr _ ((V.ty_ok _ _ hti).zs _ hz)) ?_
        simp only [Blk.den, zs_den]; exact CsLe.refl _
      · exact h.elim
    · exact h.elim
  · rename_i t l c ho; exact smake_ok h hg ho
  · rename_i args ats ho
    split at h
    · rename_i x y t t' h1 h2
      split at h
      · rename_i ht
        rw [arr_of h1, arr_of h2, ← beq_t ht] at ho
        exact sapp_ok h hg ho
      · exact h.elim
    · exact h.elim
  · rename_i args ats ho
    split at h
    · rename_i x y t t' h1 h2
      rw [arr_of h1, arr_of h2] at ho
      exact scopy_ok h hg ho
    · exact h.elim
  · rename_i g args ts ho
    split at h
    · exact scallP_ok h hg ho
    · split at h
      · rename_i c es hc he
        have e := toEsS_ok he
        refine scallO_ok h hg ?_
        rw [findO_ok hc]
        refine enters_func g args ts ho (by rw [← findO_ok hc]; exact c.ent) _ ?_
        rw [List.map_map]
        have : (args.toList.map fun x => σ.st.ev x) = (args.toList.map σ.ev).map ST.den := by rw [List.map_map]; congr 1; funext x; simp [ev_den]
        rw [this, e, List.map_map]; rfl
      · exact h.elim
  · rename_i x args ts _ ho
    split at h
    · rename_i g caps hx
      split at h
      · rename_i c es hc he
        have e := toEsS_ok he
        refine scallO_ok h hg ?_
        rw [findO_ok hc, List.map_append]
        have h1 := enters_clo (P := P) (o := o) (ev := σ.st.ev) g x args ts ho (by rw [← findO_ok hc]; exact c.ent) caps (by rw [ev_den, hx]; rfl) (es.map SE.den) (by
          have : (args.toList.map fun x => σ.st.ev x) = (args.toList.map σ.ev).map ST.den := by rw [List.map_map]; congr 1; funext x; simp [ev_den]
          rw [this, e, List.map_map, List.map_map]; rfl)
        refine cast (congrArg (Enters P o σ.st.ev g) ?_) h1
        congr 1
        rw [List.map_map]; rfl
      · exact h.elim
    · exact h.elim
  · rename_i t ho; exact smkmap_ok h hg ho
  · rename_i t x y ho; exact slook_ok h hg ho
  · rename_i t x y z ho; exact smupd_ok h hg ho
  · exact spure_ok h hg

/-- The same, with the states looked at. -/
def sact (V : Views P U) (n : Nat) (ops : Array Oper) (keep : List Nat) (reg : Reg P U) (o : Oper) (σ : SS U) (K : SS U → Ft → Prop) : Prop :=
  match o.op with
  | .call _ => fSF σ fun σ => sact0 V n ops keep reg o σ fun σ' f => fSF σ' fun σ' => K σ' f
  | _ => sact0 V n ops keep reg o σ fun σ' f => fS σ' fun σ' => K σ' f
theorem sact_ok (h : sact V n ops keep reg o σ K) (hg : Taken ops o σ.st) : ∃ σ' f, StepS P n ops o keep σ σ' f ∧ K σ' f := by
  unfold sact at h
  split at h
  · obtain ⟨σ', f, h1, h2⟩ := sact0_ok (fSF_ok (K := fun σ => sact0 V n ops keep reg o σ fun σ' f => fSF σ' fun σ' => K σ' f) h) hg
    exact ⟨σ', f, h1, fSF_ok (K := fun σ' => K σ' f) h2⟩
  · obtain ⟨σ', f, h1, h2⟩ := sact0_ok h hg
    exact ⟨σ', f, h1, fS_ok (K := fun σ' => K σ' f) h2⟩

/-- The two ways of a guard. -/
def sgate (ops : Array Oper) (o : Oper) (σ : SS U) (A B : SS U → Prop) : Prop :=
  match o.guard with
  | none => A σ
  | some (j, want) =>
    (match getL ops.toList j with
     | some oj => (match oj.dst with
       | some t => (match getE σ.env t with
         | .e (.c (.d (.sc (.bool b)))) => (match b, want with | true, true => A σ | false, false => A σ | true, false => B σ | false, true => B σ)
         | .e (.c (.d (.prp b))) => (b = want → A { σ with env := (t, .e (.c (.d (.sc (.bool want))))) :: σ.env }) ∧ (b = !want → B { σ with env := (t, .e (.c (.d (.sc (.bool !want))))) :: σ.env })
         | .tup [] => B σ
         | _ => False)
       | none => False)
     | none => False)

theorem lit_st (σ : SS U) (t : Nat) (b : Bool) (h : getE σ.env t = .e (.c (.d (.prp b)))) : ({ σ with env := (t, .e (.c (.d (.sc (.bool b))))) :: σ.env } : SS U).st = σ.st := by
  unfold SS.st
  simp only
  congr 1
  have : mk (denE σ.env) t = .e (.c (.d (.sc (.bool b)))) := by rw [mk_denE, h]; rfl
  exact env_same this

theorem sgate_ok {A B : SS U → Prop} (h : sgate ops o σ A B) : ∃ σ', σ'.st = σ.st ∧ ((Taken ops o σ'.st ∧ A σ') ∨ (Passed ops o σ'.st ∧ B σ')) := by
  unfold sgate at h
  split at h
  · rename_i hg; exact ⟨σ, rfl, .inl ⟨.inl hg, h⟩⟩
  · rename_i j want hg
    split at h
    · rename_i oj hj
      split at h
      · rename_i t ht
        have hjt : (ops[j]?).bind (·.dst) = some t := by
          rw [getL_eq] at hj
          rw [← Array.getElem?_toList, hj]; exact ht
        split at h
        · rename_i b hb
          have hb : σ.st.env t = .e (.c (.d (.sc (.bool b)))) := by rw [st_env, hb]; rfl
          refine ⟨σ, rfl, ?_⟩
          split at h
          · exact .inl ⟨.inr ⟨j, _, t, hg, hjt, hb⟩, h⟩
          · exact .inl ⟨.inr ⟨j, _, t, hg, hjt, hb⟩, h⟩
          · exact .inr ⟨⟨j, _, t, hg, hjt, .inl ⟨_, hb, rfl⟩⟩, h⟩
          · exact .inr ⟨⟨j, _, t, hg, hjt, .inl ⟨_, hb, rfl⟩⟩, h⟩
        · rename_i b hb
          have hb' : σ.st.env t = .e (.c (.d (.sc (.bool b)))) := by rw [st_env, hb]; rfl
          by_cases hw : b = want
          · subst hw
            have e := lit_st σ t b hb
            exact ⟨_, e, .inl ⟨by rw [e]; exact .inr ⟨j, _, t, hg, hjt, hb'⟩, h.1 rfl⟩⟩
          · have hw2 : b = !want := by cases b <;> cases want <;> simp_all
            subst hw2
            have e := lit_st σ t _ hb
            exact ⟨_, e, .inr ⟨by rw [e]; exact ⟨j, want, t, hg, hjt, .inl ⟨_, hb', by cases want <;> rfl⟩⟩, h.2 rfl⟩⟩
        · rename_i hb
          have hb' : σ.st.env t = .tup [] := by rw [st_env, hb]; rfl
          exact ⟨σ, rfl, .inr ⟨⟨j, want, t, hg, hjt, .inr hb'⟩, h⟩⟩
        · exact h.elim
      · exact h.elim
    · exact h.elim

def lenFact (o : Oper) (σ : SS U) : Option Nat :=
  match o.op with
  | .call ⟨.builtin .len, args, _⟩ => (match args.toList with | [x] => (match σ.ev x with | .e (.c (.d (.lst _ l))) => some l.length | _ => none) | _ => none)
  | _ => none
theorem lenFact_ok {m : Nat} (h : lenFact o σ = some m) (C : Ctx) (a : Act) (w : World) (R : Rel C σ.st a w) : m ≤ 9223372036854775807 := by
  unfold lenFact at h
  split at h
  · split at h
    · rename_i x _
      split at h
      · rename_i k l hx
        injection h with h; subst h
        obtain ⟨γ, R⟩ := R
        have := R.ev x
        rw [ev_den, hx] at this
        have := len_of this
        simpa using this
      · cases h
    · cases h
  · cases h

def frzLabs (reg : Reg P U) (o : Oper) (σ : SS U) : List Nat :=
  match o.op with
  | .call ⟨.value (.func g), args, _⟩ => (match findC reg.ps g with | some _ => args.toList.flatMap fun x => (σ.ev x).labs | none => [])
  | .buildSlice _ _ parts => parts.toList.flatMap fun p => (σ.ev p.2).labs
  | .store _ x y => (match σ.ev x with | .e (.c (.rptr _ _ _ _)) => (σ.ev y).labs | _ => [])
  | _ => []

/-- One operation of a plain region; R: the rest. -/
def stepR (V : Views P U) (n : Nat) (ops : Array Oper) (keep : List Nat) (reg : Reg P U) (o : Oper) (σ : SS U) (R : SS U → Prop) : Prop :=
  sgate ops o σ
      (fun σ => (match lenFact o σ with
        | some m => (m ≤ 9223372036854775807 → sfrzL keep (frzLabs reg o σ) σ fun σ => sact V n ops keep reg o σ fun σ' _ => R σ')
        | none => sfrzL keep (frzLabs reg o σ) σ fun σ => sact V n ops keep reg o σ fun σ' _ => R σ'))
      (fun σ => (match dokS n o.dst with | true => fS (σ.put o.dst (.tup [])) R | false => False))
def vcR (V : Views P U) (n : Nat) (ops : Array Oper) (keep : List Nat) (reg : Reg P U) : List Oper → SS U → (SS U → Prop) → Prop
  | [], σ, K => K σ
  | o :: r, σ, K => stepR V n ops keep reg o σ fun σ' => vcR V n ops keep reg r σ' K

theorem frz_env_sc (x : T) (s : Nat) (ds : List D) (b : Bool) (h : x = .e (.c (.d (.sc (.bool b))))) : x.frz s ds = x := by subst h; rfl

/-- Freezing leaves the tests as they are. -/
def Tests (σ σ' : St) : Prop := ∀ t b, σ.env t = .e (.c (.d (.sc (.bool b)))) → σ'.env t = .e (.c (.d (.sc (.bool b))))
theorem Tests.taken {σ σ' : St} (h : Tests σ σ') (hg : Taken ops o σ) : Taken ops o σ' := by
  rcases hg with hg | ⟨j, w, t, h1, h2, h3⟩
  · exact .inl hg
  · exact .inr ⟨j, w, t, h1, h2, h _ _ h3⟩

theorem sfrz_tests (V : Views P U) {n : Nat} {keep : List Nat} {s : Nat} {σ : SS U} {K : SS U → Prop} (h : sfrz keep s σ K) : ∃ σ', Weak n (· ∈ keep) σ.st σ'.st ∧ Tests σ.st σ'.st ∧ K σ' := by
  unfold sfrz at h
  split at h
  · rename_i k l hs hk
    obtain ⟨h', e1⟩ := okEnv_ok V h
    obtain ⟨h', e2⟩ := okH_ok V h'
    refine ⟨_, ?_, ?_, h'⟩
    · have := Weak.freeze (n := n) (stay := (· ∈ keep)) (σ := σ.st) s (flatD k l) (by rw [st_heap, hs]; rfl) (nk hk)
      refine cast (congrArg (Weak n (· ∈ keep) σ.st) ?_) this
      unfold St.frz
      rw [show (SS.st { env := fzE s k l σ.env, heap := fzH s k l σ.heap, ctr := σ.ctr }) = ⟨fun i => (getE (fzE s k l σ.env) i).den, fun u => (getH (fzH s k l σ.heap) u).map Blk.den⟩ from by
        unfold SS.st; congr 1
        · funext i; exact mk_denE _ i
        · funext u; exact mkH_denH _ u]
      congr 1
      · funext i; rw [e1, st_env]
      · funext u; rw [e2, st_heap]
    · intro t b ht
      rw [st_env] at ht ⊢
      rw [show getE (SS.env { env := fzE s k l σ.env, heap := fzH s k l σ.heap, ctr := σ.ctr }) t = getE (fzE s k l σ.env) t from rfl, e1, ht]
      rfl
  · exact ⟨σ, Weak.refl _ _ _, fun _ _ h => h, h⟩
  · exact h.elim
theorem sfrzL_tests (V : Views P U) {n : Nat} {keep : List Nat} : ∀ {l : List Nat} {σ : SS U} {K : SS U → Prop}, sfrzL keep l σ K → ∃ σ', Weak n (· ∈ keep) σ.st σ'.st ∧ Tests σ.st σ'.st ∧ K σ'
  | [], σ, K, h => ⟨σ, Weak.refl _ _ _, fun _ _ h => h, h⟩
  | s :: r, σ, K, h => by
    obtain ⟨σ1, w1, t1, h⟩ := sfrz_tests V (n := n) h
    obtain ⟨σ2, w2, t2, h⟩ := sfrzL_tests V (n := n) h
    exact ⟨σ2, w1.trans w2, fun t b h => t2 t b (t1 t b h), h⟩

theorem vcR_ok : ∀ (l : List Oper) (σ : SS U) (K : SS U → Prop), vcR V n ops keep reg l σ K → WPops P n (· ∈ keep) ops l σ.st fun s => ∃ σ', σ'.st = s ∧ K σ'
  | [], σ, K, h => WPops.nil ⟨σ, rfl, h⟩
  | o :: r, σ, K, h => by
    simp only [vcR] at h
    unfold stepR at h
    obtain ⟨σ1, e1, h⟩ := sgate_ok h
    rw [← e1]
    rcases h with ⟨hg, h⟩ | ⟨hp, h⟩
    · have go : (sfrzL keep (frzLabs reg o σ1) σ1 fun σ => sact V n ops keep reg o σ fun σ' _ => vcR V n ops keep reg r σ' K) → WPops P n (· ∈ keep) ops (o :: r) σ1.st fun s => ∃ σ', σ'.st = s ∧ K σ' := by
        intro h
        obtain ⟨σ2, w2, t2, h⟩ := sfrzL_tests V (n := n) h
        obtain ⟨σ3, f, hs, h⟩ := sact_ok h (t2.taken hg)
        exact WPops.weak w2 (WPops.one (hs.sq.one hs.kl) (vcR_ok r σ3 K h))
      split at h
      · rename_i m hm
        intro C hn hs a w R
        exact go (h (lenFact_ok hm C a w R)) C hn hs a w R
      · exact go h
    · split at h
      · rename_i hd
        have := vcR_ok r _ K (fS_ok (K := fun σ' => vcR V n ops keep reg r σ' K) h)
        rw [put_st] at this
        exact WPops.one (.inr ⟨hp, dokS_ok hd, rfl⟩) this
      · exact h.elim
end
end Go.Ab
end

section
namespace Go.Ab
open Go Go.RowKit

section
variable {P : Program} {U : Univ}

def kchkS (sts : List (SS U)) (fs : List Ft) : Bool :=
  fs.all fun f => f.kl.all fun s => sts.all fun σ => (σ.env.map (·.1)).all (fun i => f.wr.contains (2 * i) || !(getE σ.env i).nm s) && (blksS s σ.heap).all fun u => f.wr.contains (2 * u + 1)

/-- One operation of a region that draws its order; R: the rest. -/
def stepD (V : Views P U) (n : Nat) (ops : Array Oper) (keep : List Nat) (reg : Reg P U) (o : Oper) (σ : SS U) (fs : List Ft) (sts : List (SS U)) (R : SS U → List Ft → List (SS U) → Prop) : Prop :=
  sgate ops o σ
      (fun σ => sact V n ops keep reg o σ fun σ' f => R σ' (f :: fs) (σ :: sts))
      (fun σ => (match dokS n o.dst with | true => fS (σ.put o.dst (.tup [])) fun σ' => R σ' (⟨lk ops o, dl o, []⟩ :: fs) (σ :: sts) | false => False))
def vcD (V : Views P U) (n : Nat) (ops : Array Oper) (keep : List Nat) (reg : Reg P U) : List Oper → SS U → List Ft → List (SS U) → (SS U → Prop) → Prop
  | [], σ, fs, sts, K => (chk' ops fs.reverse && kchkS (σ :: sts) fs) = true ∧ K σ
  | o :: r, σ, fs, sts, K => stepD V n ops keep reg o σ fs sts fun σ' fs' sts' => vcD V n ops keep reg r σ' fs' sts' K

variable {V : Views P U} {n : Nat} {ops : Array Oper} {keep : List Nat} {reg : Reg P U}

theorem kchkS_ok {sts : List (SS U)} {fs : List Ft} (h : kchkS sts fs = true) {f : Ft} (hf : f ∈ fs) {s : Nat} (hs : s ∈ f.kl) {σ : SS U} (hσ : σ ∈ sts) (l : Nat) (hl : l ∉ f.wr) : ¬ (σ.st.at l).names s := by
  unfold kchkS at h
  rw [List.all_eq_true] at h
  have h1 := h f hf
  rw [List.all_eq_true] at h1
  have h2 := h1 s hs
  rw [List.all_eq_true] at h2
  have h3 := h2 σ hσ
  rw [Bool.and_eq_true, List.all_eq_true, List.all_eq_true] at h3
  intro hn
  unfold St.at at hn
  split at hn
  · rename_i e0
    have e1 : l = 2 * (l / 2) := by omega
    have hn : (σ.st.env (l / 2)).names s := hn
    rw [st_env, ← T.nmB_iff, ST.nm_den] at hn
    have hm : l / 2 ∈ σ.env.map (·.1) := getE_mem _ _ (fun e => by rw [e] at hn; cases hn)
    have h4 := h3.1 _ hm
    rw [hn, Bool.not_true, Bool.or_false] at h4
    apply hl
    rw [e1]
    simpa using h4
  · rename_i e0
    have e1 : l = 2 * (l / 2) + 1 := by omega
    cases hcs : σ.st.heap (l / 2) with
    | none => rw [hcs] at hn; exact hn.elim
    | some cs =>
      rw [hcs] at hn
      rw [st_heap, Option.map_eq_some_iff] at hcs
      obtain ⟨b, hb1, rfl⟩ := hcs
      have h4 := h3.2 _ (blksS_of s σ.heap _ b hb1 hn)
      apply hl
      rw [e1]
      simpa using h4

/-- The states and footprints of a run in the text's order. -/
def DRun (P : Program) (n : Nat) (ops : Array Oper) (keep : List Nat) (l : List Oper) (σ : SS U) (fs : List Ft) (sts : List (SS U)) (K : SS U → Prop) : Prop :=
    ∃ (cs : List (SS U)) (fl : List Ft) (σE : SS U), cs.length = l.length + 1 ∧ fl.length = l.length ∧ (cs[0]?).map SS.st = some σ.st ∧ cs[l.length]? = some σE ∧
      (∀ (j : Nat) (o : Oper) (a b : SS U) (f : Ft), l[j]? = some o → cs[j]? = some a → cs[j + 1]? = some b → fl[j]? = some f → SQ P n (· ∈ keep) ops o a.st b.st f) ∧
      chk' ops (fs.reverse ++ fl) = true ∧ kchkS (cs ++ sts) (fl ++ fs) = true ∧ K σE

theorem vcD_run : ∀ (l : List Oper) (σ : SS U) (fs : List Ft) (sts : List (SS U)) (K : SS U → Prop), vcD V n ops keep reg l σ fs sts K → DRun P n ops keep l σ fs sts K
  | [], σ, fs, sts, K, h => by
    simp only [vcD, Bool.and_eq_true] at h
    obtain ⟨⟨h1, h2⟩, h3⟩ := h
    exact ⟨[σ], [], σ, rfl, rfl, rfl, rfl, fun j o a b f hj => by simp at hj, by simpa using h1, h2, h3⟩
  | o :: r, σ, fs, sts, K, h => by
    simp only [vcD] at h
    unfold stepD at h
    obtain ⟨σ1, e1, h⟩ := sgate_ok h
    have key : ∀ (σ2 : SS U) (f0 : Ft), SQ P n (· ∈ keep) ops o σ1.st σ2.st f0 → vcD V n ops keep reg r σ2 (f0 :: fs) (σ1 :: sts) K → DRun P n ops keep (o :: r) σ fs sts K := fun σ2 f0 hsq h => by
      obtain ⟨cs, fl, σE, i1, i2, i3, i4, i5, i6, i7, i8⟩ := vcD_run r σ2 (f0 :: fs) (σ1 :: sts) K h
      refine ⟨σ1 :: cs, f0 :: fl, σE, by simp [i1], by simp [i2], by simp [e1], by simpa using i4, fun j o' a b f hj ha hb hf => ?_, ?_, ?_, i8⟩
      · cases j with
        | zero =>
          simp only [List.getElem?_cons_zero, Option.some.injEq] at hj ha hf
          simp only [List.getElem?_cons_succ, Nat.zero_add] at hb
          subst hj; subst ha; subst hf
          rw [hb, Option.map_some, Option.some.injEq] at i3
          rw [i3]; exact hsq
        | succ j => exact i5 j o' a b f (by simpa using hj) (by simpa using ha) (by simpa using hb) (by simpa using hf)
      · simpa using i6
      · unfold kchkS at i7 ⊢
        rw [List.all_eq_true] at i7 ⊢
        intro f hf
        have h1 := i7 f (by simp only [List.mem_append, List.mem_cons] at hf ⊢; rcases hf with (h | h) | h <;> simp [h])
        rw [List.all_eq_true] at h1 ⊢
        intro s hs
        have h2 := h1 s hs
        rw [List.all_eq_true] at h2 ⊢
        intro x hx
        exact h2 x (by simp only [List.mem_append, List.mem_cons] at hx ⊢; rcases hx with (h | h) | h <;> simp [h])
    rcases h with ⟨hg, h⟩ | ⟨hp, h⟩
    · obtain ⟨σ2, f0, hs, h⟩ := sact_ok h hg
      exact key σ2 f0 hs.sq h
    · split at h
      · rename_i hd
        refine key _ _ ?_ (fS_ok (K := fun σ' => vcD V n ops keep reg r σ' (⟨lk ops o, dl o, []⟩ :: fs) (σ1 :: sts) K) h)
        rw [put_st]
        exact SQ.skip hp (dokS_ok hd)
      · exact h.elim

theorem vcD_ok (hm : P.follows .mixedOrders = true) {id : Nat} {σ : SS U} {K : SS U → Prop} (h : vcD V n ops keep reg ops.toList σ [] [] K) {Q : Post} (hQ : ∀ σ', K σ' → Q.nrm σ'.st) : WP P n (· ∈ keep) (.region id ops true) σ.st Q := by
  obtain ⟨cs, fl, σE, i1, i2, i3, i4, i5, i6, i7, i8⟩ := vcD_run _ _ _ _ _ h
  simp only [List.reverse_nil, List.nil_append, List.append_nil] at i6 i7
  have hsz : ops.toList.length = ops.size := by simp
  intro C hn hs a w R
  have hin : ∀ m, m ≤ ops.size → ∃ x, cs[m]? = some x ∧ x ∈ cs := fun m hm => ⟨cs[m]'(by omega), List.getElem?_eq_getElem _, List.getElem_mem _⟩
  have X0 : ((cs[0]?).getD σ).st = σ.st := by
    obtain ⟨x, hx, _⟩ := hin 0 (Nat.zero_le _)
    rw [hx, Option.map_some, Option.some.injEq] at i3
    rw [hx, Option.getD_some, i3]
  have XL : ((cs[ops.size]?).getD σ).st = σE.st := by rw [← hsz, i4]; rfl
  refine region_draw' (fp := fl) (X := fun m => ((cs[m]?).getD σ).st) hm (by omega) (fun j f hf => ?_) i6 (fun j f hf s hs m hm' l hl' => ?_) hn hs (by simpa only [X0] using R) (fun a' w' R' => ⟨σE.st, by simpa only [XL] using R', hQ σE i8⟩)
  · have hj : j < ops.size := by have := (List.getElem?_eq_some_iff.1 hf).1; omega
    obtain ⟨x, hx, _⟩ := hin j (by omega)
    obtain ⟨y, hy, _⟩ := hin (j + 1) (by omega)
    have ho : ops.toList[j]? = some ops[j] := by simp
    simp only [hx, hy, Option.getD_some]
    exact SQ.lq (i5 j _ x y f ho hx hy hf) (by simp)
  · obtain ⟨x, hx, hxm⟩ := hin m hm'
    simp only [hx, Option.getD_some]
    exact kchkS_ok i7 (List.mem_of_getElem? hf) hs hxm l hl'
end
end Go.Ab
end

section
namespace Go.Ab
open Go Go.RowKit

section
variable {P : Program} {U : Univ}

def lookP : List (Nat × Option Nat) → Nat → Option Nat
  | [], _ => none
  | (a, b) :: r, s => match Nat.beq a s with | true => b | false => lookP r s
def hasP : List (Nat × Option Nat) → Nat → Bool
  | [], _ => false
  | (a, _) :: r, s => match Nat.beq a s with | true => true | false => hasP r s

def prV : SV U → SV U → List (Nat × Option Nat)
  | .own s _ _, .own t _ _ => [(t, some s)]
  | .sub s _ _ _, .sub t _ _ _ => [(t, some s)]
  | .ptr s _, .ptr t _ => [(t, some s)]
  | .rptr s _ _ _, .rptr t _ _ _ => [(t, some s)]
  | .mp s, .mp t => [(t, some s)]
  | .d (.sc (.slice none 0 0)), .own t _ _ => [(t, none)]
  | .clo _ c, .clo _ c' => (c.zip c').map fun p => (p.2.1, some p.1.1)
  | _, _ => []
def prVs : List (SV U) → List (SV U) → List (Nat × Option Nat)
  | x :: xs, y :: ys => prV x y ++ prVs xs ys
  | _, _ => []
def prE : SE U → SE U → List (Nat × Option Nat)
  | .c x, .c y => prV x y
  | .agg xs, .agg ys => prVs xs ys
  | _, _ => []
def prT : ST U → ST U → List (Nat × Option Nat)
  | .e x, .e y => prE x y
  | _, _ => []
def prEnv (e : List (Nat × ST U)) : List (Nat × ST U) → List (Nat × Option Nat)
  | [] => []
  | (i, t) :: r => prT (getE e i) t ++ prEnv e r
def prHeap (h : List (Nat × Blk U)) (pr : List (Nat × Option Nat)) : List (Nat × Blk U) → List (Nat × Option Nat)
  | [] => []
  | (s, .cells cs') :: r => (match lookP pr s with | some t => (match getH h t with | some (.cells cs) => prVs cs cs' | _ => []) | none => []) ++ prHeap h pr r
  | _ :: r => prHeap h pr r
def pairsOf (keep : List Nat) (σ τ : SS U) : List (Nat × Option Nat) :=
  let p0 := (keep.map fun s => (s, some s)) ++ prEnv σ.env τ.env
  let p1 := p0 ++ prHeap σ.heap p0 τ.heap
  p1 ++ prHeap σ.heap p1 τ.heap

/-- The leaves. -/
def leVal (v v' : Value) (φ : Prop) : Prop :=
  match v, v' with
  | .int k a, .int k' b => (match decide (k = k') with | true => a = b ∧ φ | false => False)
  | .bool a, .bool b => a = b ∧ φ
  | .string a, .string b => a = b ∧ φ
  | .slice none 0 0, .slice none 0 0 => φ
  | v, v' => v = v' ∧ φ
theorem leVal_ok {v v' : Value} {φ : Prop} (h : leVal v v' φ) : φ ∧ v = v' := by
  unfold leVal at h
  split at h
  · split at h
    · rename_i hk
      simp only [decide_eq_true_eq] at hk
      obtain ⟨rfl, h⟩ := h
      subst hk
      exact ⟨h, rfl⟩
    · exact h.elim
  · obtain ⟨rfl, h⟩ := h; exact ⟨h, rfl⟩
  · obtain ⟨rfl, h⟩ := h; exact ⟨h, rfl⟩
  · exact ⟨h, rfl⟩
  · obtain ⟨e, h⟩ := h; exact ⟨h, e⟩

def leD (V : Views P U) (x y : SD U) (φ : Prop) : Prop :=
  match y with
  | .lst k' l' => (match x with
    | .lst k l => (match V.cast k' k l with | some l2 => l2 = l' ∧ φ | none => False)
    | .sc (.slice none 0 0) => l' = [] ∧ φ
    | _ => False)
  | .prp b' => (match x with
    | .prp b => b = b' ∧ φ
    | .sc (.bool b) => b = b' ∧ φ
    | _ => False)
  | .sc v' => (match x with
    | .sc v => leVal v v' φ
    | .prp b => leVal (.bool b) v' φ
    | _ => False)
theorem leD_ok {V : Views P U} {x y : SD U} {φ : Prop} (h : leD V x y φ) : φ ∧ ∀ w S v, DRel w S x.den v → DRel w S y.den v := by
  unfold leD at h
  split at h
  · rename_i k' l'
    split at h
    · rename_i k l
      split at h
      · rename_i l2 hl
        obtain ⟨rfl, h⟩ := h
        refine ⟨h, fun w S v hr => ?_⟩
        have := (V.cast_ok _ _ _ _ hl).1
        simp only [SD.den] at hr ⊢
        rwa [← this]
      · exact h.elim
    · obtain ⟨rfl, h⟩ := h
      exact ⟨h, fun w S v hr => DRel.norm hr⟩
    · exact h.elim
  · split at h
    · obtain ⟨rfl, h⟩ := h; exact ⟨h, fun _ _ _ hr => hr⟩
    · obtain ⟨rfl, h⟩ := h; exact ⟨h, fun _ _ _ hr => hr⟩
    · exact h.elim
  · split at h
    · obtain ⟨h', rfl⟩ := leVal_ok h; exact ⟨h', fun _ _ _ hr => hr⟩
    · obtain ⟨h', rfl⟩ := leVal_ok h; exact ⟨h', fun _ _ _ hr => hr⟩
    · exact h.elim
def leDs (V : Views P U) : List (SD U) → List (SD U) → Prop → Prop
  | [], [], φ => φ
  | x :: xs, y :: ys, φ => leD V x y (leDs V xs ys φ)
  | _, _, _ => False
theorem leDs_ok {V : Views P U} : ∀ {xs ys : List (SD U)} {φ : Prop}, leDs V xs ys φ → φ ∧ xs.length = ys.length ∧ ∀ (j : Nat) (x y : SD U), xs[j]? = some x → ys[j]? = some y → ∀ w S v, DRel w S x.den v → DRel w S y.den v
  | [], [], φ, h => ⟨h, rfl, fun j x y hx => by simp at hx⟩
  | x :: xs, y :: ys, φ, h => by
    obtain ⟨h, e1⟩ := leD_ok h
    obtain ⟨h, e2, e3⟩ := leDs_ok h
    refine ⟨h, by simp [e2], fun j a b ha hb => ?_⟩
    cases j with
    | zero => simp only [List.getElem?_cons_zero, Option.some.injEq] at ha hb; subst ha; subst hb; exact e1
    | succ j => exact e3 j a b (by simpa using ha) (by simpa using hb)
  | [], _ :: _, _, h => h.elim
  | _ :: _, [], _, h => h.elim

def same (pr : List (Nat × Option Nat)) (s t : Nat) : Bool := match lookP pr t with | some u => Nat.beq u s | none => false
theorem same_ok {pr : List (Nat × Option Nat)} {s t : Nat} (h : same pr s t = true) : lookP pr t = some s := by
  unfold same at h
  split at h
  · rename_i u hu; rw [hu, beq_t h]
  · cases h

def leV (V : Views P U) (pr : List (Nat × Option Nat)) (x y : SV U) (φ : Prop) : Prop :=
  match y with
  | .any => φ
  | .d y => (match x with | .d x => leD V x y φ | _ => False)
  | .ptr t o' => (match x with | .ptr s o => (match same pr s t, Nat.beq o o' with | true, true => φ | _, _ => False) | _ => False)
  | .rptr t k' i' j' => (match x with | .rptr s k i j => (match same pr s t, Nat.beq (U.w k) (U.w k') with | true, true => i = i' ∧ j = j' ∧ φ | _, _ => False) | _ => False)
  | .sub t k' o' n' => (match x with | .sub s k o n => (match same pr s t, Nat.beq (U.w k) (U.w k') with | true, true => o = o' ∧ n = n' ∧ φ | _, _ => False) | _ => False)
  | .own t k' n' => (match x with
    | .own s k n => (match same pr s t, Nat.beq (U.w k) (U.w k') with | true, true => n = n' ∧ φ | _, _ => False)
    | .d (.sc (.slice none 0 0)) => (match lookP pr t with | none => n' = 0 ∧ φ | some _ => False)
    | _ => False)
  | .mp t => (match x with | .mp s => (match same pr s t with | true => φ | _ => False) | _ => False)
  | .pim ds' => (match x with | .pim ds => leDs V ds ds' φ | _ => False)
  | .clo f' c' => (match x with
    | .clo f c => (match Nat.beq f f', (c'.all fun p => (lookP pr p.1).isSome) with | true, true => c = (c'.map fun p => ((lookP pr p.1).getD 0, p.2)) ∧ φ | _, _ => False)
    | _ => False)

def VLe (x y : Ab.V) : Prop := ∀ (w : World) (M : Nat → Prop) (γ : G) (v : Value), VRel w M γ x v → VRel w M γ y v

theorem leV_ok {V : Views P U} {pr : List (Nat × Option Nat)} {x y : SV U} {φ : Prop} (h : leV V pr x y φ) : φ ∧ VLe x.den (y.den.ren (lookP pr)) := by
  unfold leV at h
  split at h
  · refine ⟨h, fun w M γ v hr => hr.one⟩
  · split at h
    · obtain ⟨h, e⟩ := leD_ok h
      exact ⟨h, fun w M γ v hr => e _ _ _ hr⟩
    · exact h.elim
  · split at h
    · split at h
      · rename_i h1 h2
        refine ⟨h, fun w M γ v hr => ?_⟩
        simp only [SV.den, Ab.V.ren, same_ok h1] at hr ⊢
        rw [← beq_t h2]; exact hr
      · exact h.elim
    · exact h.elim
  · split at h
    · split at h
      · rename_i h1 h2
        obtain ⟨rfl, rfl, h⟩ := h
        refine ⟨h, fun w M γ v hr => ?_⟩
        simp only [SV.den, Ab.V.ren, same_ok h1] at hr ⊢
        rw [← beq_t h2]; exact hr
      · exact h.elim
    · exact h.elim
  · split at h
    · split at h
      · rename_i h1 h2
        obtain ⟨rfl, rfl, h⟩ := h
        refine ⟨h, fun w M γ v hr => ?_⟩
        simp only [SV.den, Ab.V.ren, same_ok h1] at hr ⊢
        rw [← beq_t h2]; exact hr
      · exact h.elim
    · exact h.elim
  · split at h
    · split at h
      · rename_i h1 h2
        obtain ⟨rfl, h⟩ := h
        refine ⟨h, fun w M γ v hr => ?_⟩
        simp only [SV.den, Ab.V.ren, same_ok h1] at hr ⊢
        rw [← beq_t h2]; exact hr
      · exact h.elim
    · split at h
      · rename_i h1
        obtain ⟨rfl, h⟩ := h
        refine ⟨h, fun w M γ v hr => ?_⟩
        simp only [SV.den, Ab.V.ren, h1] at hr ⊢
        rw [if_pos ⟨trivial, trivial⟩]; exact hr
      · exact h.elim
    · exact h.elim
  · split at h
    · split at h
      · rename_i h1
        refine ⟨h, fun w M γ v hr => ?_⟩
        simp only [SV.den, Ab.V.ren, same_ok h1] at hr ⊢
        exact hr
      · exact h.elim
    · exact h.elim
  · split at h
    · rename_i ds' ds
      obtain ⟨h, e1, e2⟩ := leDs_ok h
      refine ⟨h, fun w M γ v hr => ?_⟩
      obtain ⟨a, ev, hsp, hst, hd⟩ := hr
      refine ⟨a, ev, hsp, hst, fun j x hj => ?_⟩
      rw [List.getElem?_map, Option.map_eq_some_iff] at hj
      obtain ⟨y, hy, rfl⟩ := hj
      have hjl : j < ds.length := by have := (List.getElem?_eq_some_iff.1 hy).1; omega
      obtain ⟨u, hu, hr⟩ := hd j (ds[j]).den (by rw [List.getElem?_map, List.getElem?_eq_getElem hjl]; rfl)
      exact ⟨u, hu, e2 j _ y (List.getElem?_eq_getElem hjl) hy _ _ _ hr⟩
    · exact h.elim
  · split at h
    · split at h
      · rename_i h1 h2
        obtain ⟨rfl, h⟩ := h
        refine ⟨h, fun w M γ v hr => ?_⟩
        simp only [SV.den, Ab.V.ren] at hr ⊢
        rw [if_pos h2, ← beq_t h1]; exact hr
      · exact h.elim
    · exact h.elim

def leVs (V : Views P U) (pr : List (Nat × Option Nat)) : List (SV U) → List (SV U) → Prop → Prop
  | [], [], φ => φ
  | x :: xs, y :: ys, φ => leV V pr x y (leVs V pr xs ys φ)
  | _, _, _ => False
theorem leVs_ok {V : Views P U} {pr : List (Nat × Option Nat)} : ∀ {xs ys : List (SV U)} {φ : Prop}, leVs V pr xs ys φ → φ ∧ ∀ w M γ vs, CsRel w M γ (xs.map SV.den) vs → CsRel w M γ ((ys.map SV.den).map (Ab.V.ren (lookP pr))) vs
  | [], [], φ, h => ⟨h, fun _ _ _ _ h => h⟩
  | x :: xs, y :: ys, φ, h => by
    obtain ⟨h, e1⟩ := leV_ok h
    obtain ⟨h, e2⟩ := leVs_ok h
    refine ⟨h, fun w M γ vs hc => ?_⟩
    cases vs with
    | nil => have := hc.1; simp at this
    | cons v vs =>
      have h1 := hc.2 0 x.den v rfl rfl
      have h2 := e2 w M γ vs ⟨by simpa using hc.1, fun i a u ha hu => hc.2 (i + 1) a u (by simpa using ha) (by simpa using hu)⟩
      refine ⟨by simpa using h2.1, fun i a u ha hu => ?_⟩
      cases i with
      | zero => simp only [List.map_cons, List.getElem?_cons_zero, Option.some.injEq] at ha hu; subst ha; subst hu; exact e1 _ _ _ _ h1
      | succ i => exact h2.2 i a u (by simpa using ha) (by simpa using hu)
  | [], _ :: _, _, h => h.elim
  | _ :: _, [], _, h => h.elim
def leE (V : Views P U) (pr : List (Nat × Option Nat)) (x y : SE U) (φ : Prop) : Prop :=
  match x, y with
  | .c x, .c y => leV V pr x y φ
  | .agg xs, .agg ys => leVs V pr xs ys φ
  | _, _ => False
def leEs (V : Views P U) (pr : List (Nat × Option Nat)) : List (SE U) → List (SE U) → Prop → Prop
  | [], [], φ => φ
  | x :: xs, y :: ys, φ => leE V pr x y (leEs V pr xs ys φ)
  | _, _, _ => False
def leT (V : Views P U) (pr : List (Nat × Option Nat)) (x y : ST U) (φ : Prop) : Prop :=
  match y with
  | .any => φ
  | .e y => (match x with | .e x => leE V pr x y φ | _ => False)
  | .tup ys => (match x with | .tup xs => leEs V pr xs ys φ | _ => False)
theorem leE_ok {V : Views P U} {pr : List (Nat × Option Nat)} {x y : SE U} {φ : Prop} (h : leE V pr x y φ) : φ ∧ ∀ w M γ v, ERel w M γ x.den v → ERel w M γ (y.den.ren (lookP pr)) v := by
  unfold leE at h
  split at h
  · obtain ⟨h, e⟩ := leV_ok h; exact ⟨h, fun w M γ v hr => e _ _ _ _ hr⟩
  · obtain ⟨h, e⟩ := leVs_ok h
    refine ⟨h, fun w M γ v hr => ?_⟩
    obtain ⟨us, e1, hc⟩ := hr
    exact ⟨us, e1, e _ _ _ _ hc⟩
  · exact h.elim
theorem leEs_ok {V : Views P U} {pr : List (Nat × Option Nat)} : ∀ {xs ys : List (SE U)} {φ : Prop}, leEs V pr xs ys φ → φ ∧ ∀ w M γ vs, EsRel w M γ (xs.map SE.den) vs → EsRel w M γ ((ys.map SE.den).map (E.ren (lookP pr))) vs
  | [], [], φ, h => ⟨h, fun _ _ _ _ h => h⟩
  | x :: xs, y :: ys, φ, h => by
    obtain ⟨h, e1⟩ := leE_ok h
    obtain ⟨h, e2⟩ := leEs_ok h
    refine ⟨h, fun w M γ vs hc => ?_⟩
    cases vs with
    | nil => have := hc.1; simp at this
    | cons v vs =>
      have h1 := hc.2 0 x.den v rfl rfl
      have h2 := e2 w M γ vs ⟨by simpa using hc.1, fun i a u ha hu => hc.2 (i + 1) a u (by simpa using ha) (by simpa using hu)⟩
      refine ⟨by simpa using h2.1, fun i a u ha hu => ?_⟩
      cases i with
      | zero => simp only [List.map_cons, List.getElem?_cons_zero, Option.some.injEq] at ha hu; subst ha; subst hu; exact e1 _ _ _ _ h1
      | succ i => exact h2.2 i a u (by simpa using ha) (by simpa using hu)
  | [], _ :: _, _, h => h.elim
  | _ :: _, [], _, h => h.elim
theorem leT_ok {V : Views P U} {pr : List (Nat × Option Nat)} {x y : ST U} {φ : Prop} (h : leT V pr x y φ) : φ ∧ TLe x.den (y.den.ren (lookP pr)) := by
  unfold leT at h
  split at h
  · exact ⟨h, fun _ _ _ _ _ => trivial⟩
  · split at h
    · unfold leE at h
      split at h
      · obtain ⟨h, e⟩ := leV_ok h; exact ⟨h, fun w M γ v hr => e _ _ _ _ hr⟩
      · obtain ⟨h, e⟩ := leVs_ok h
        refine ⟨h, fun w M γ v hr => ?_⟩
        obtain ⟨us, e1, hc⟩ := hr
        exact ⟨us, e1, e _ _ _ _ hc⟩
      · exact h.elim
    · exact h.elim
  · split at h
    · obtain ⟨h, e⟩ := leEs_ok h
      refine ⟨h, fun w M γ v hr => ?_⟩
      obtain ⟨us, e1, hc⟩ := hr
      exact ⟨us, e1, e _ _ _ _ hc⟩
    · exact h.elim
end
end Go.Ab
end

section
namespace Go.Ab
open Go Go.RowKit

section
variable {P : Program} {U : Univ}

def hasB (h : List (Nat × Blk U)) (s : Nat) : Bool := match getH h s with | some _ => true | none => false
def chkM (pr : List (Nat × Option Nat)) (keep : List Nat) (τ : SS U) : Bool :=
  (τ.env.all fun p => p.2.labs.all (hasB τ.heap)) &&
  (τ.heap.all fun p => match p.2 with | .cells cs => cs.all fun v => v.labs.all (hasB τ.heap) | _ => true) &&
  ((τ.heap.map (·.1)).all fun s => (τ.heap.map (·.1)).all fun t => Nat.beq s t || (match lookP pr s, lookP pr t with | some u, some v => !Nat.beq u v | _, _ => true)) &&
  (keep.all fun s => hasB τ.heap s && (match lookP pr s with | some u => Nat.beq u s | none => false))

def leEnv (V : Views P U) (pr : List (Nat × Option Nat)) (σ : SS U) : List (Nat × ST U) → Prop → Prop
  | [], φ => φ
  | (i, t) :: r, φ => leT V pr (getE σ.env i) t (leEnv V pr σ r φ)
def leB (V : Views P U) (pr : List (Nat × Option Nat)) (σ : SS U) (s : Nat) (b : Blk U) (φ : Prop) : Prop :=
  match lookP pr s with
  | some t => (match getH σ.heap t with
    | some (.cells cs) => (match b with | .cells cs' => leVs V pr cs cs' φ | _ => False)
    | some (.rows k l) => (match b with | .rows k' l' => (match V.cast k' k l with | some l2 => l2 = l' ∧ φ | none => False) | _ => False)
    | some (.mapb es) => (match b with | .mapb es' => es = es' ∧ φ | _ => False)
    | none => False)
  | none => (match b with | .rows _ l' => l' = [] ∧ φ | _ => False)
def leHeap (V : Views P U) (pr : List (Nat × Option Nat)) (σ : SS U) : List (Nat × Blk U) → Prop → Prop
  | [], φ => φ
  | (s, b) :: r, φ => leB V pr σ s b (leHeap V pr σ r φ)

/-- The state σ serves as τ, where the leaves are equal. -/
def mt0 (V : Views P U) (keep : List Nat) (σ τ : SS U) (pr : List (Nat × Option Nat)) (φ : Prop) : Prop :=
  match chkM pr keep τ with
  | true => leEnv V pr σ τ.env (leHeap V pr σ τ.heap φ)
  | false => False
def fO (n : Option Nat) (K : Option Nat → Prop) : Prop := match n with | none => K none | some m => fN m fun m => K (some m)
theorem fO_ok {n : Option Nat} {K : Option Nat → Prop} (h : fO n K) : K n := by
  cases n with
  | none => exact h
  | some m => exact fN_ok (K := fun m => K (some m)) h
def fPr : List (Nat × Option Nat) → (List (Nat × Option Nat) → Prop) → Prop
  | [], K => K []
  | (s, o) :: r, K => fN s fun s => fO o fun o => fPr r fun r => K ((s, o) :: r)
theorem fPr_ok : ∀ {l : List (Nat × Option Nat)} {K : List (Nat × Option Nat) → Prop}, fPr l K → K l
  | [], _, h => h
  | (s, o) :: r, K, h => fPr_ok (l := r) (K := fun r => K ((s, o) :: r)) (fO_ok (K := fun o => fPr r fun r => K ((s, o) :: r)) (fN_ok (K := fun s => fO o fun o => fPr r fun r => K ((s, o) :: r)) h))
def mt (V : Views P U) (keep : List Nat) (σ τ : SS U) (φ : Prop) : Prop := fSF σ fun σ => fSF τ fun τ => fPr (pairsOf keep σ τ) fun pr => mt0 V keep σ τ pr φ
theorem mt_un {V : Views P U} {keep : List Nat} {σ τ : SS U} {φ : Prop} (h : mt V keep σ τ φ) : (match chkM (pairsOf keep σ τ) keep τ with
  | true => leEnv V (pairsOf keep σ τ) σ τ.env (leHeap V (pairsOf keep σ τ) σ τ.heap φ)
  | false => False) :=
  fPr_ok (K := fun pr => mt0 V keep σ τ pr φ) (fSF_ok (K := fun τ => fPr (pairsOf keep σ τ) fun pr => mt0 V keep σ τ pr φ) (fSF_ok (K := fun σ => fSF τ fun τ => fPr (pairsOf keep σ τ) fun pr => mt0 V keep σ τ pr φ) h))

theorem leEnv_ok {V : Views P U} {pr : List (Nat × Option Nat)} {σ : SS U} : ∀ {l : List (Nat × ST U)} {φ : Prop}, leEnv V pr σ l φ → φ ∧ ∀ p ∈ denE l, TLe (σ.st.env p.1) (p.2.ren (lookP pr))
  | [], φ, h => ⟨h, fun p hp => by simp [denE] at hp⟩
  | (i, t) :: r, φ, h => by
    obtain ⟨h, e1⟩ := leT_ok h
    obtain ⟨h, e2⟩ := leEnv_ok h
    refine ⟨h, fun p hp => ?_⟩
    simp only [denE, List.map_cons, List.mem_cons] at hp
    rcases hp with rfl | hp
    · rw [st_env]; exact e1
    · exact e2 p hp

def BOK (σ : SS U) (pr : List (Nat × Option Nat)) (s : Nat) (cs' : List Ab.V) : Prop :=
  (∃ t cs, lookP pr s = some t ∧ σ.st.heap t = some cs ∧ (∀ (w : World) (M : Nat → Prop) (γ : G) (vs : List Value), CsRel w M γ cs vs → CsRel w M γ (cs'.map (Ab.V.ren (lookP pr))) vs) ∧ ∀ es, cs = [.mapc es] → cs' = [.mapc es]) ∨ (lookP pr s = none ∧ cs' = [])

theorem ren_ds (ρ : Nat → Option Nat) (ds : List D) : (ds.map Ab.V.d).map (Ab.V.ren ρ) = ds.map Ab.V.d := by simp [Function.comp_def, Ab.V.ren]

theorem leB_ok {V : Views P U} {pr : List (Nat × Option Nat)} {σ : SS U} {s : Nat} {b : Blk U} {φ : Prop} (h : leB V pr σ s b φ) : φ ∧ BOK σ pr s b.den := by
  unfold leB at h
  split at h
  · rename_i t ht
    split at h
    · rename_i cs hs
      split at h
      · rename_i cs'
        obtain ⟨h, e⟩ := leVs_ok h
        refine ⟨h, .inl ⟨t, cs.map SV.den, ht, by rw [st_heap, hs]; rfl, e, fun es hc => ?_⟩⟩
        have := cells_notM cs
        rw [hc] at this; cases this
      · exact h.elim
    · rename_i k l hs
      split at h
      · rename_i k' l'
        split at h
        · rename_i l2 hl
          obtain ⟨rfl, h⟩ := h
          have e : flatD k l = flatD k' l2 := by unfold flatD; rw [(V.cast_ok _ _ _ _ hl).1]
          refine ⟨h, .inl ⟨t, (flatD k l).map .d, ht, by rw [st_heap, hs]; rfl, fun w M γ vs hc => ?_, fun es hc => ?_⟩⟩
          · simp only [Blk.den]; rw [ren_ds, ← e]; exact hc
          · have := ds_notM (flatD k l)
            rw [hc] at this; cases this
        · exact h.elim
      · exact h.elim
    · rename_i es hs
      split at h
      · obtain ⟨rfl, h⟩ := h
        exact ⟨h, .inl ⟨t, [.mapc es], ht, by rw [st_heap, hs]; rfl, fun w M γ vs hc => hc, fun es' hc => hc⟩⟩
      · exact h.elim
    · exact h.elim
  · rename_i ht
    split at h
    · obtain ⟨rfl, h⟩ := h
      exact ⟨h, .inr ⟨ht, rfl⟩⟩
    · exact h.elim
theorem leHeap_ok {V : Views P U} {pr : List (Nat × Option Nat)} {σ : SS U} : ∀ {l : List (Nat × Blk U)} {φ : Prop}, leHeap V pr σ l φ → φ ∧ ∀ s b, getH l s = some b → BOK σ pr s b.den
  | [], φ, h => ⟨h, fun s b hb => by cases hb⟩
  | (j, a) :: r, φ, h => by
    obtain ⟨h, e1⟩ := leB_ok h
    obtain ⟨h, e2⟩ := leHeap_ok h
    refine ⟨h, fun s b hb => ?_⟩
    simp only [getH] at hb
    split at hb
    · rename_i hj; injection hb with hb; subst hb; rw [beq_t hj]; exact e1
    · exact e2 s b hb

theorem hasB_ok {h : List (Nat × Blk U)} {s : Nat} (hb : hasB h s = true) : mkH (denH h) s ≠ none := by
  unfold hasB at hb
  split at hb
  · rename_i b e; rw [mkH_denH, e]; simp
  · cases hb
theorem hasB_of {h : List (Nat × Blk U)} {s : Nat} (hb : mkH (denH h) s ≠ none) : s ∈ h.map (·.1) := by
  rw [mkH_denH] at hb
  cases e : getH h s with
  | none => rw [e] at hb; exact absurd rfl hb
  | some b => exact getH_mem _ _ _ e

theorem getH_in : ∀ (l : List (Nat × Blk U)) (s : Nat) (b : Blk U), getH l s = some b → (s, b) ∈ l
  | [], _, _, h => by cases h
  | (j, t) :: r, s, b, h => by
    simp only [getH] at h
    split at h
    · rename_i hj; injection h with h; subst h; rw [beq_t hj]; simp
    · exact List.mem_cons_of_mem _ (getH_in r s b h)

theorem mt_ok {V : Views P U} {keep : List Nat} {σ τ : SS U} {φ : Prop} (h : mt V keep σ τ φ) (n : Nat) : φ ∧ Weak n (· ∈ keep) σ.st τ.st := by
  have h := mt_un h
  split at h
  · rename_i hc
    obtain ⟨h, e1⟩ := leEnv_ok h
    obtain ⟨h, e2⟩ := leHeap_ok h
    refine ⟨h, ?_⟩
    unfold chkM at hc
    simp only [Bool.and_eq_true] at hc
    obtain ⟨⟨⟨c1, c2⟩, c3⟩, c4⟩ := hc
    refine Weak.rename (denE τ.env) (denH τ.heap) (lookP (pairsOf keep σ τ)) e1 (fun s cs' hs => ?_) (fun p hp s hs => ?_) (fun s cs hs x hx u hu => ?_) (fun s t u hs ht h1 h2 => ?_) (fun s hs => ?_)
    · rw [mkH_denH, Option.map_eq_some_iff] at hs
      obtain ⟨b, hb, rfl⟩ := hs
      exact e2 s b hb
    · simp only [denE, List.mem_map] at hp
      obtain ⟨q, hq, rfl⟩ := hp
      rw [List.all_eq_true] at c1
      have := c1 q hq
      rw [List.all_eq_true] at this
      exact hasB_ok (this s (by rw [← ST.labs_den]; exact T.labs_ok hs))
    · rw [mkH_denH, Option.map_eq_some_iff] at hs
      obtain ⟨b, hb, rfl⟩ := hs
      rw [List.all_eq_true] at c2
      have := c2 (s, b) (getH_in _ _ _ hb)
      cases b with
      | cells cs =>
        simp only [Blk.den, List.mem_map] at hx
        obtain ⟨v, hv, rfl⟩ := hx
        simp only [List.all_eq_true] at this
        exact hasB_ok (this v hv u (by rw [← SV.labs_den]; exact Ab.V.labs_ok hu))
      | rows k l => exact (rows_names hx u hu).elim
      | mapb es =>
        simp only [Blk.den, List.mem_singleton] at hx
        subst hx; exact hu.elim
    · rw [List.all_eq_true] at c3
      have h3 := c3 s (hasB_of hs)
      rw [List.all_eq_true] at h3
      have h4 := h3 t (hasB_of ht)
      rw [h1, h2] at h4
      simp only [Bool.or_eq_true] at h4
      rcases h4 with h4 | h4
      · exact beq_t h4
      · simp [Nat.beq_refl] at h4
    · rw [List.all_eq_true] at c4
      have h5 := c4 s hs
      rw [Bool.and_eq_true] at h5
      refine ⟨hasB_ok h5.1, ?_⟩
      have h6 := h5.2
      split at h6
      · rename_i u hu; rw [hu, beq_t h6]
      · cases h6
  · exact h.elim

/-- What stands at a loop's head. -/
structure LoopAnn (U : Univ) where
  X : Type
  st : X → SS U
  G : X → Prop
  mu : X → Nat

def firstId : Code → Nat
  | .region id _ _ => id
  | .seq a _ => firstId a
  | .block _ a => firstId a
  | .loop a => firstId a
  | .cond _ a _ => firstId a
  | _ => 0
def findL : List (Nat × LoopAnn U) → Nat → Option (LoopAnn U)
  | [], _ => none
  | (j, a) :: r, i => match Nat.beq i j with | true => some a | false => findL r i

def vcC (V : Views P U) (n : Nat) (keep : List Nat) (reg : Reg P U) (ls : List (Nat × LoopAnn U)) : Code → SS U → (Out → SS U → Prop) → Prop
  | .skip, σ, K => K .nrm σ
  | .ret, σ, K => K .ret σ
  | .exit i, σ, K => K (.ext i) σ
  | .seq a b, σ, K => vcC V n keep reg ls a σ fun out σ' => (match out with | .nrm => vcC V n keep reg ls b σ' K | .ext i => K (.ext i) σ' | .ret => K .ret σ')
  | .cond x a b, σ, K => (match σ.ev x with
    | .e (.c (.d (.sc (.bool true)))) => vcC V n keep reg ls a σ K
    | .e (.c (.d (.sc (.bool false)))) => vcC V n keep reg ls b σ K
    | .e (.c (.d (.prp p))) => (p = true → vcC V n keep reg ls a σ K) ∧ (p = false → vcC V n keep reg ls b σ K)
    | _ => False)
  | .block i a, σ, K => vcC V n keep reg ls a σ fun out σ' => (match out with | .nrm => K .nrm σ' | .ext j => (match Nat.beq j i with | true => K .nrm σ' | false => K (.ext j) σ') | .ret => K .ret σ')
  | .loop a, σ, K => (match findL ls (firstId a) with
    | some L => ∃ x0, mt V keep σ (L.st x0) (L.G x0) ∧ ∀ x, L.G x → fSF (L.st x) fun σ => vcC V n keep reg ls a σ fun out σ' => (match out with | .nrm => ∃ y, mt V keep σ' (L.st y) (L.G y ∧ L.mu y < L.mu x) | .ext i => K (.ext i) σ' | .ret => K .ret σ')
    | none => (match findL ls (firstId a + 1000000) with
      | some L => ∃ R : L.X → Prop, ∃ x0, mt V keep σ (L.st x0) (L.G x0 ∧ R x0) ∧ ∀ x, L.G x → R x → fSF (L.st x) fun σ => vcC V n keep reg ls a σ fun out σ' => (match out with | .nrm => ∃ y, mt V keep σ' (L.st y) (L.G y ∧ R y ∧ L.mu y < L.mu x) | .ext i => K (.ext i) σ' | .ret => K .ret σ')
      | none => False))
  | .region _ ops draw, σ, K => (match draw with | false => vcR V n ops keep reg ops.toList σ (K .nrm) | true => vcD V n ops keep reg ops.toList σ [] [] (K .nrm))
  | _, _, _ => False

theorem vcC_ok {V : Views P U} {n : Nat} {keep : List Nat} {reg : Reg P U} {ls : List (Nat × LoopAnn U)} (hm : P.follows .mixedOrders = true) : ∀ (c : Code) (σ : SS U) (K : Out → SS U → Prop), vcC V n keep reg ls c σ K →
    ∀ Q : Post, (∀ out σ', K out σ' → Q.out out σ'.st) → WP P n (· ∈ keep) c σ.st Q := by
  intro c
  induction c with
  | skip => intro σ K h Q hQ; exact WP.skip (hQ .nrm σ h)
  | ret => intro σ K h Q hQ; exact WP.ret (hQ .ret σ h)
  | exit i => intro σ K h Q hQ; exact WP.exit (hQ (.ext i) σ h)
  | seq a b iha ihb =>
    intro σ K h Q hQ
    refine WP.seq (iha σ _ h _ fun out σ' hk => ?_)
    cases out with
    | nrm => exact ihb σ' K hk Q hQ
    | ext i => exact hQ _ _ hk
    | ret => exact hQ _ _ hk
  | cond x a b iha ihb =>
    intro σ K h Q hQ
    simp only [vcC] at h
    split at h
    · rename_i hx; exact WP.cond true (by rw [ev_den, hx]; rfl) (fun _ => iha σ K h Q hQ) (fun e => by cases e)
    · rename_i hx; exact WP.cond false (by rw [ev_den, hx]; rfl) (fun e => by cases e) (fun _ => ihb σ K h Q hQ)
    · rename_i p hx; exact WP.cond p (by rw [ev_den, hx]; rfl) (fun e => iha σ K (h.1 e) Q hQ) (fun e => ihb σ K (h.2 e) Q hQ)
    · exact h.elim
  | block i a iha =>
    intro σ K h Q hQ
    refine WP.block (iha σ _ h _ fun out σ' hk => ?_)
    cases out with
    | nrm => exact hQ _ _ hk
    | ext j =>
      simp only at hk
      show (if j = i then Q.nrm σ'.st else Q.ext j σ'.st)
      split at hk
      · rename_i e; rw [if_pos (beq_t e)]; exact hQ _ _ hk
      · rename_i e; rw [if_neg (beq_f e)]; exact hQ _ _ hk
    | ret => exact hQ _ _ hk
  | loop a iha =>
    intro σ K h Q hQ
    simp only [vcC] at h
    split at h
    · rename_i L hL
      obtain ⟨x0, h0, hr⟩ := h
      obtain ⟨g0, w0⟩ := mt_ok h0 n
      refine WP.loop (fun x => (L.st x).st) L.G L.mu x0 w0 g0 fun x hg => iha _ _ (fSF_ok (hr x hg)) _ fun out σ' hk => ?_
      cases out with
      | nrm =>
        obtain ⟨y, hy⟩ := hk
        obtain ⟨⟨g1, g2⟩, w1⟩ := mt_ok hy n
        exact ⟨y, w1, g1, g2⟩
      | ext i => exact hQ _ _ hk
      | ret => exact hQ _ _ hk
    · split at h
      · rename_i L hL
        obtain ⟨S, x0, h0, hr⟩ := h
        obtain ⟨g0, w0⟩ := mt_ok h0 n
        refine WP.loop (fun x => (L.st x).st) (fun x => L.G x ∧ S x) L.mu x0 w0 g0 fun x hg => iha _ _ (fSF_ok (hr x hg.1 hg.2)) _ fun out σ' hk => ?_
        cases out with
        | nrm =>
          obtain ⟨y, hy⟩ := hk
          obtain ⟨⟨g1, g2, g3⟩, w1⟩ := mt_ok hy n
          exact ⟨y, w1, ⟨g1, g2⟩, g3⟩
        | ext i => exact hQ _ _ hk
        | ret => exact hQ _ _ hk
      · exact h.elim
  | region id ops draw =>
    intro σ K h Q hQ
    simp only [vcC] at h
    split at h
    · have := vcR_ok _ _ _ h
      have h2 : WP P n (· ∈ keep) (.region id ops.toList.toArray false) σ.st Q := by
        refine WP.region ?_
        have e : ops.toList.toArray = ops := by simp
        rw [e]
        intro C hn hs a w R Q' hq
        exact this C hn hs a w R Q' fun a' w' σ1 R1 ⟨σ2, e2, k2⟩ => hq a' w' σ1 R1 (e2 ▸ hQ .nrm σ2 k2)
      simpa using h2
    · exact vcD_ok hm h fun σ' hk => hQ .nrm σ' hk
  | _ => intro σ K h; exact h.elim
end
end Go.Ab
end

section
namespace Go.Ab
open Go Go.RowKit

section
variable {P : Program} {U : Univ}

def zipS : Nat → List (SE U) → List (Nat × ST U)
  | _, [] => []
  | k, x :: r => (k, .e x) :: zipS (k + 1) r
theorem zipS_den : ∀ (l : List (SE U)) (k : Nat), denE (zipS k l) = zipArgs k (l.map SE.den)
  | [], _ => rfl
  | x :: r, k => by
    have := zipS_den r (k + 1)
    simp only [zipS, denE, List.map_cons, zipArgs] at this ⊢
    rw [this]; rfl
def initS (args : List (SE U)) : SS U := ⟨zipS 0 args, [], 0⟩
theorem initS_st (args : List (SE U)) : (initS args).st = ⟨argEnv (args.map SE.den), noHeap⟩ := by
  unfold initS SS.st argEnv
  simp only [zipS_den]
  congr 1

def resOneS (V : Views P U) (σ : SS U) : ResultVar → Option (ST U)
  | .tmp t => some (getE σ.env t)
  | .cell a t => (match getE σ.env a, V.ty t with
    | .e (.c (.ptr s off)), some ti => (match getH σ.heap s with | some (.cells cs) => partS ti.ag ti.sz cs off | _ => none)
    | _, _ => none)
def resAllS (V : Views P U) (σ : SS U) : List ResultVar → Option (List (SE U))
  | [] => some []
  | r :: rs => (match resOneS V σ r, resAllS V σ rs with | some (.e x), some xs => some (x :: xs) | _, _ => none)
def resVS (V : Views P U) (σ : SS U) : List ResultVar → Option (ST U)
  | [r] => resOneS V σ r
  | rs => (match resAllS V σ rs with | some xs => some (.tup xs) | none => none)

theorem resOneS_ok {V : Views P U} {σ : SS U} {r : ResultVar} {x : ST U} (h : resOneS V σ r = some x) : resOne P σ.st r = some x.den := by
  cases r with
  | tmp t => simp only [resOneS, Option.some.injEq] at h; subst h; simp only [resOne, st_env]
  | cell a t =>
    simp only [resOneS] at h
    split at h
    · rename_i s off ti h1 h2
      split at h
      · rename_i cs h3
        simp only [resOne, st_env, h1]
        show (match σ.st.heap s with | some cs => loadV P t cs off | none => none) = _
        rw [st_heap, h3]
        exact partS_ok (V.ty_ok _ _ h2) h
      · cases h
    · cases h
theorem resAllS_ok {V : Views P U} {σ : SS U} : ∀ {rs : List ResultVar} {xs : List (SE U)}, resAllS V σ rs = some xs → resAll P σ.st rs = some (xs.map SE.den)
  | [], xs, h => by simp only [resAllS, Option.some.injEq] at h; subst h; rfl
  | r :: rs, xs, h => by
    simp only [resAllS] at h
    split at h
    · rename_i x ys h1 h2
      injection h with h; subst h
      simp only [resAll, resOneS_ok h1, resAllS_ok h2]
      rfl
    · cases h
theorem resVS_ok {V : Views P U} {σ : SS U} {rs : List ResultVar} {x : ST U} (h : resVS V σ rs = some x) : resV P rs σ.st = some x.den := by
  unfold resVS at h
  split at h
  · exact resOneS_ok h
  · rename_i hne
    split at h
    · rename_i xs h1
      injection h with h; subst h
      unfold resV
      split
      · rename_i r; exact absurd rfl (hne r)
      · rw [resAllS_ok h1]; rfl
    · cases h

theorem SV.ren_id {ρ : Nat → Option Nat} {v : SV U} (h : v.labs = []) : v.den.ren ρ = v.den := by
  cases v <;> simp_all [SV.labs, SV.den, Ab.V.ren]
theorem SE.ren_id {ρ : Nat → Option Nat} {x : SE U} (h : x.labs = []) : x.den.ren ρ = x.den := by
  cases x with
  | c v => simp only [SE.den, E.ren, SV.ren_id (show v.labs = [] from h)]
  | agg vs =>
    simp only [SE.labs, List.flatMap_eq_nil_iff] at h
    simp only [SE.den, E.ren, List.map_map]
    congr 1
    apply List.map_congr_left
    intro v hv
    exact SV.ren_id (h v hv)
theorem ST.ren_id {ρ : Nat → Option Nat} {x : ST U} (h : x.labs = []) : x.den.ren ρ = x.den := by
  cases x with
  | e v => simp only [ST.den, T.ren, SE.ren_id (show v.labs = [] from h)]
  | tup vs =>
    simp only [ST.labs, List.flatMap_eq_nil_iff] at h
    simp only [ST.den, T.ren, List.map_map]
    congr 1
    apply List.map_congr_left
    intro v hv
    exact SE.ren_id (h v hv)
  | any => rfl

theorem noNames {r : ST U} (h : r.labs = []) : ∀ s, ¬ r.den.names s := fun s hs => by have := T.labs_ok hs; rw [ST.labs_den, h] at this; simp at this

/-- The end of a function that hands back data. -/
def sfin (V : Views P U) (rs : List ResultVar) (r : ST U) (σ : SS U) : Prop :=
  match resVS V σ rs, r.labs with
  | some r0, [] => sfrzL [] r0.labs σ fun σ' => (match resVS V σ' rs with | some r1 => leT V [] r1 r True | none => False)
  | _, _ => False

def vcF (V : Views P U) (reg : Reg P U) (ls : List (Nat × LoopAnn U)) (nt : Nat) (rs : List ResultVar) (c : Code) (args : List (SE U)) (r : ST U) : Prop :=
  vcC V nt [] reg ls c (initS args) fun out σ => (match out with | .ext _ => False | .nrm => sfin V rs r σ | .ret => sfin V rs r σ)

theorem sfin_ok {V : Views P U} {n : Nat} {rs : List ResultVar} {r : ST U} {σ : SS U} (h : sfin V rs r σ) : (∀ s, ¬ r.den.names s) ∧ ∃ τ : St, Weak n (· ∈ ([] : List Nat)) σ.st τ ∧ ∃ r', resV P rs τ = some r' ∧ TLe r' r.den := by
  unfold sfin at h
  split at h
  · rename_i r0 h1 h2
    obtain ⟨σ', w, h⟩ := sfrzL_ok V (n := n) h
    split at h
    · rename_i r1 h3
      obtain ⟨_, e⟩ := leT_ok h
      rw [ST.ren_id h2] at e
      exact ⟨fun s hs => by have := T.labs_ok hs; rw [ST.labs_den, h2] at this; simp at this, σ'.st, w, r1.den, resVS_ok h3, e⟩
    · exact h.elim
  · exact h.elim

theorem vcF_ok {V : Views P U} {reg : Reg P U} {ls : List (Nat × LoopAnn U)} (hm : P.follows .mixedOrders = true) {f : FuncId} {fn : Func} {c : Code} (hf : P.funcs[f]? = some fn) (hb : fn.body = some c) (hname : (fn.name == "runtime.NumGoroutine") = false)
    {args : List (SE U)} {r : ST U} (hn : args.length ≤ fn.ntmps) (hr : ∀ s, ¬ r.den.names s) (h : vcF V reg ls fn.ntmps fn.results.toList c args r) : Pur P f (args.map SE.den) r.den := by
  refine Sat.intro hf hb hname (by simpa using hn) (fun s h => h.elim) (fun s h => (hr s h).elim) (fun t cs h => by cases h) ?_
  have e : (fun _ : Nat => False) = (· ∈ ([] : List Nat)) := by funext s; simp
  rw [e, ← initS_st]
  have hfin : ∀ σ : SS U, sfin V fn.results.toList r σ → ∃ τ, Weak fn.ntmps (· ∈ ([] : List Nat)) σ.st τ ∧ ∃ r', resV P fn.results.toList τ = some r' ∧ TLe r' r.den ∧ ∀ s cs, noHeap s = some cs → ∃ cs', τ.heap s = some cs' ∧ CsLe cs' cs := fun σ h => by
    obtain ⟨_, τ, w, r', h1, h2⟩ := sfin_ok (n := fn.ntmps) h
    exact ⟨τ, w, r', h1, h2, fun s cs h => by cases h⟩
  refine WP.post (Q := ⟨fun s => ∃ σ : SS U, σ.st = s ∧ sfin V fn.results.toList r σ, fun _ _ => False, fun s => ∃ σ : SS U, σ.st = s ∧ sfin V fn.results.toList r σ⟩) ?_ ?_ (fun i σ h => h.elim) ?_
  · refine vcC_ok hm c _ _ h _ fun out σ' hk => ?_
    cases out with
    | nrm => exact ⟨σ', rfl, hk⟩
    | ext i => exact hk.elim
    | ret => exact ⟨σ', rfl, hk⟩
  · rintro s ⟨σ, rfl, h⟩; exact hfin σ h
  · rintro s ⟨σ, rfl, h⟩; exact hfin σ h

/-- A function that takes own blocks, under the labels 0, 1, ..; τ: what stands at its end. -/
def vcO (V : Views P U) (keep : List Nat) (reg : Reg P U) (ls : List (Nat × LoopAnn U)) (nt : Nat) (c : Code) (H : List (Nat × Blk U)) (args : List (SE U)) (τ : SS U) : Prop :=
  vcC V nt keep reg ls c ⟨zipS 0 args, H, H.length⟩ fun out σ => (match out with | .ext _ => False | .nrm => mt V keep σ τ True | .ret => mt V keep σ τ True)

def closedH (H : List (Nat × Blk U)) : Bool := H.all fun p => p.2.labs.all (hasB H)
def subH (H H2 : List (Nat × Blk U)) : Prop := ∀ s b, getH H s = some b → getH H2 s = some b

theorem vcO_ok {V : Views P U} {keep : List Nat} {reg : Reg P U} {ls : List (Nat × LoopAnn U)} (hm : P.follows .mixedOrders = true) {f : FuncId} {fn : Func} {c : Code} (hf : P.funcs[f]? = some fn) (hb : fn.body = some c) (hname : (fn.name == "runtime.NumGoroutine") = false)
    {H H' : List (Nat × Blk U)} {args : List (SE U)} {r : ST U} {τ : SS U} (hn : args.length ≤ fn.ntmps) (hr : r.labs.all (hasB H') = true) (hc : closedH H' = true) (hk : keep.all (hasB H') = true) (hres : resVS V τ fn.results.toList = some r) (hsub : subH H' τ.heap)
    (h : vcO V keep reg ls fn.ntmps c H args τ) : Sat P f (mkH (denH H)) (args.map SE.den) (mkH (denH H')) (· ∈ keep) r.den := by
  rw [List.all_eq_true] at hr hk
  unfold closedH at hc
  rw [List.all_eq_true] at hc
  refine Sat.intro hf hb hname (by simpa using hn) (fun s hs => hasB_ok (hk s hs)) (fun s hs => hasB_ok (hr s (by rw [← ST.labs_den]; exact T.labs_ok hs))) (fun t cs ht x hx s hs => ?_) ?_
  · rw [mkH_denH, Option.map_eq_some_iff] at ht
    obtain ⟨b, hb1, rfl⟩ := ht
    have := hc (t, b) (getH_in _ _ _ hb1)
    rw [List.all_eq_true] at this
    exact hasB_ok (this s (Blk.labs_of hx hs))
  · have e : (⟨argEnv (args.map SE.den), mkH (denH H)⟩ : St) = (⟨zipS 0 args, H, H.length⟩ : SS U).st := by
      unfold SS.st argEnv
      simp only [zipS_den]
    rw [e]
    refine WP.post (Q := ⟨fun s => ∃ σ : SS U, σ.st = s ∧ mt V keep σ τ True, fun _ _ => False, fun s => ∃ σ : SS U, σ.st = s ∧ mt V keep σ τ True⟩) ?_ ?_ (fun i σ h => h.elim) ?_
    · refine vcC_ok hm c _ _ h _ fun out σ' hk => ?_
      cases out with
      | nrm => exact ⟨σ', rfl, hk⟩
      | ext i => exact hk.elim
      | ret => exact ⟨σ', rfl, hk⟩
    all_goals
      rintro s ⟨σ, rfl, h⟩
      refine ⟨τ.st, (mt_ok h fn.ntmps).2, r.den, resVS_ok hres, TLe.refl _, fun s cs hs => ?_⟩
      rw [mkH_denH, Option.map_eq_some_iff] at hs
      obtain ⟨b, hb1, rfl⟩ := hs
      exact ⟨b.den, by rw [st_heap, hsub s b hb1]; rfl, CsLe.refl _⟩

/- contracts over typed data -/
inductive Par (U : Univ) where
  | el (k : U.K)
  | ls (k : U.K)
  | int (k : IntKind)
  | bool
  | str
def Par.T : Par U → Type
  | .el k => U.El k
  | .ls k => List (U.El k)
  | .int _ => Int
  | .bool => Bool
  | .str => ByteArray
def wrP (V : Views P U) : (p : Par U) → p.T → SE U
  | .el k, x => .agg ((V.row k x).map .d)
  | .ls k, l => .c (.d (.lst k l))
  | .int k, n => .c (.d (.sc (.int k n)))
  | .bool, b => .c (.d (.prp b))
  | .str, s => .c (.d (.sc (.string s)))
def rdP (V : Views P U) (p : Par U) (a : SE U) (K : p.T → Prop) : Prop :=
  match p, K with
  | .el k, K => (match a with | .agg vs => (match packE V k (.agg vs) with | some x => K x | none => False) | _ => False)
  | .ls k, K => (match a with
    | .c (.d (.lst k' l)) => (match V.cast k k' l with | some l => K l | none => False)
    | .c (.d (.sc (.slice none 0 0))) => K []
    | _ => False)
  | .int k, K => (match a with | .c (.d (.sc (.int k' n))) => (match decide (k' = k) with | true => K n | false => False) | _ => False)
  | .bool, K => (match a with | .c (.d (.prp b)) => K b | .c (.d (.sc (.bool b))) => K b | _ => False)
  | .str, K => (match a with | .c (.d (.sc (.string s))) => K s | _ => False)

theorem toDs_norm : ∀ (vs : List Ab.V) (ds : List D), toDs vs = some ds → vs.map Ab.V.norm = ds.map Ab.V.d
  | [], ds, h => by simp only [toDs, Option.some.injEq] at h; subst h; rfl
  | v :: vs, ds, h => by
    simp only [toDs] at h
    split at h
    · rename_i x xs h1 h2
      injection h with h; subst h
      rw [List.map_cons, List.map_cons, toDs_norm vs xs h2]
      congr 1
      cases v <;> simp only [toD, reduceCtorEq, Option.some.injEq] at h1
      subst h1; rfl
    · cases h

theorem rdP_ok {V : Views P U} {p : Par U} {a : SE U} {K : p.T → Prop} (h : rdP V p a K) : ∃ x, a.den.norm = (wrP V p x).den ∧ K x := by
  unfold rdP at h
  split at h
  · rename_i k K
    split at h
    · rename_i vs
      split at h
      · rename_i x hx
        refine ⟨x, ?_, h⟩
        obtain ⟨h1, _⟩ := packE_ok V hx
        simp only [SE.den, E.cells] at h1
        simp only [SE.den, E.norm, wrP]
        rw [toDs_norm _ _ h1, ← V.row_ok]
        simp [Function.comp_def, SV.den]
      · exact h.elim
    · exact h.elim
  · rename_i k K
    split at h
    · split at h
      · rename_i l hl
        refine ⟨l, ?_, h⟩
        simp only [SE.den, SV.den, SD.den, wrP]
        rw [(V.cast_ok _ _ _ _ hl).1]; rfl
      · exact h.elim
    · exact ⟨[], rfl, h⟩
    · exact h.elim
  · split at h
    · split at h
      · rename_i hk
        simp only [decide_eq_true_eq] at hk
        subst hk
        exact ⟨_, rfl, h⟩
      · exact h.elim
    · exact h.elim
  · split at h
    · exact ⟨_, rfl, h⟩
    · exact ⟨_, rfl, h⟩
    · exact h.elim
  · split at h
    · exact ⟨_, rfl, h⟩
    · exact h.elim

def ct1 (V : Views P U) (f : FuncId) (p1 : Par U) (Pre : p1.T → Prop) (R : p1.T → ST U) (h : ∀ x, Pre x → Pur P f [(wrP V p1 x).den] (R x).den) : Ct P U where
  f := f
  run args K := match args with | [a] => rdP V p1 a fun x => Pre x ∧ K (R x) | _ => False
  ok args K hr := by
    split at hr
    · obtain ⟨x, e, h1, h2⟩ := rdP_ok hr
      exact ⟨_, by simp only [List.map_cons, List.map_nil, e]; exact h x h1, h2⟩
    · exact hr.elim
def ct2 (V : Views P U) (f : FuncId) (p1 p2 : Par U) (Pre : p1.T → p2.T → Prop) (R : p1.T → p2.T → ST U) (h : ∀ x y, Pre x y → Pur P f [(wrP V p1 x).den, (wrP V p2 y).den] (R x y).den) : Ct P U where
  f := f
  run args K := match args with | [a, b] => rdP V p1 a fun x => rdP V p2 b fun y => Pre x y ∧ K (R x y) | _ => False
  ok args K hr := by
    split at hr
    · obtain ⟨x, e, hr⟩ := rdP_ok hr
      obtain ⟨y, e2, h1, h2⟩ := rdP_ok hr
      exact ⟨_, by simp only [List.map_cons, List.map_nil, e, e2]; exact h x y h1, h2⟩
    · exact hr.elim
def ct3 (V : Views P U) (f : FuncId) (p1 p2 p3 : Par U) (Pre : p1.T → p2.T → p3.T → Prop) (R : p1.T → p2.T → p3.T → ST U) (h : ∀ x y z, Pre x y z → Pur P f [(wrP V p1 x).den, (wrP V p2 y).den, (wrP V p3 z).den] (R x y z).den) : Ct P U where
  f := f
  run args K := match args with | [a, b, c] => rdP V p1 a fun x => rdP V p2 b fun y => rdP V p3 c fun z => Pre x y z ∧ K (R x y z) | _ => False
  ok args K hr := by
    split at hr
    · obtain ⟨x, e, hr⟩ := rdP_ok hr
      obtain ⟨y, e2, hr⟩ := rdP_ok hr
      obtain ⟨z, e3, h1, h2⟩ := rdP_ok hr
      exact ⟨_, by simp only [List.map_cons, List.map_nil, e, e2, e3]; exact h x y z h1, h2⟩
    · exact hr.elim
def ct4 (V : Views P U) (f : FuncId) (p1 p2 p3 p4 : Par U) (Pre : p1.T → p2.T → p3.T → p4.T → Prop) (R : p1.T → p2.T → p3.T → p4.T → ST U) (h : ∀ x y z u, Pre x y z u → Pur P f [(wrP V p1 x).den, (wrP V p2 y).den, (wrP V p3 z).den, (wrP V p4 u).den] (R x y z u).den) : Ct P U where
  f := f
  run args K := match args with | [a, b, c, d] => rdP V p1 a fun x => rdP V p2 b fun y => rdP V p3 c fun z => rdP V p4 d fun u => Pre x y z u ∧ K (R x y z u) | _ => False
  ok args K hr := by
    split at hr
    · obtain ⟨x, e, hr⟩ := rdP_ok hr
      obtain ⟨y, e2, hr⟩ := rdP_ok hr
      obtain ⟨z, e3, hr⟩ := rdP_ok hr
      obtain ⟨u, e4, h1, h2⟩ := rdP_ok hr
      exact ⟨_, by simp only [List.map_cons, List.map_nil, e, e2, e3, e4]; exact h x y z u h1, h2⟩
    · exact hr.elim
end
end Go.Ab
end

section
namespace Go.Ab
open Go Go.RowKit

def getT {α : Type} : Tr α → Nat → Option α
  | .lf, _ => none
  | .nd v l r, k => match Nat.beq k 0 with | true => v | false => match Nat.beq (k % 2) 1 with | true => getT l (k / 2) | false => getT r (k / 2 - 1)
def TrAll {α : Type} (p : Nat → α → Prop) : Tr α → (Nat → Nat) → Prop
  | .lf, _ => True
  | .nd v l r, j => (match v with | some x => p (j 0) x | none => True) ∧ TrAll p l (fun i => j (2 * i + 1)) ∧ TrAll p r (fun i => j (2 * i + 2))
theorem getT_ok {α : Type} {p : Nat → α → Prop} : ∀ (t : Tr α) (j : Nat → Nat), TrAll p t j → ∀ (k : Nat) (x : α), getT t k = some x → p (j k) x
  | .lf, _, _, _, _, h => by cases h
  | .nd v l r, j, ha, k, x, h => by
    obtain ⟨h1, h2, h3⟩ := ha
    simp only [getT] at h
    split at h
    · rename_i hk
      rw [beq_t hk]
      subst h
      exact h1
    · rename_i hk
      have hk := beq_f hk
      split at h
      · rename_i h4
        have h4 := beq_t h4
        have := getT_ok l _ h2 _ x h
        have e : 2 * (k / 2) + 1 = k := by omega
        simp only [e] at this
        exact this
      · rename_i h4
        have h4 := beq_f h4
        have := getT_ok r _ h3 _ x h
        have e : 2 * (k / 2 - 1) + 2 = k := by omega
        simp only [e] at this
        exact this

def fldB (P : Program) (t : TypeId) : Nat → List (Nat × TypeId) → Bool
  | _, [] => true
  | i, p :: r => decide (tfld P t i = some p) && fldB P t (i + 1) r
theorem fldB_ok {P : Program} {t : TypeId} : ∀ {l : List (Nat × TypeId)} {i : Nat}, fldB P t i l = true → ∀ f p, l[f]? = some p → tfld P t (i + f) = some p
  | [], _, _, f, p, hp => by simp at hp
  | a :: r, i, h, f, p, hp => by
    simp only [fldB, Bool.and_eq_true, decide_eq_true_eq] at h
    cases f with
    | zero => simp only [List.getElem?_cons_zero, Option.some.injEq] at hp; subst hp; exact h.1
    | succ f =>
      have := fldB_ok h.2 f p (by simpa using hp)
      rw [show i + (f + 1) = i + 1 + f by omega]
      exact this
def tyB (P : Program) (t : TypeId) (i : TI) : Bool :=
  decide (tsz P t = some i.sz) && decide (tby P t = some i.bys) && decide (tag P t = some i.ag) && fldB P t 0 i.fld && decide (tsl P t = i.sl) && decide (tarr P t = i.ar) && decide (tint P t = i.ik) && (tstr P t == i.st) && (tbool P t == i.bo) &&
  (match i.zs with | some zs => Nat.beq zs.length i.sz | none => true) && (match i.pl with | some ps => decide (tplaces P t = some ps) | none => true) && decide (tmap P t = i.mpt)
theorem tyOK_of {P : Program} {t : TypeId} {i : TI} (h : tyB P t i = true) (hz : ∀ zs, i.zs = some zs → tzv P t = some (zs.map fun v => .d (.sc v))) : TyOK P t i := by
  unfold tyB at h
  simp only [Bool.and_eq_true, decide_eq_true_eq, beq_iff_eq] at h
  obtain ⟨⟨⟨⟨⟨⟨⟨⟨⟨⟨⟨h1, h2⟩, h3⟩, h4⟩, h5⟩, h6⟩, h7⟩, h8⟩, h9⟩, h10⟩, h11⟩, h12⟩ := h
  refine ⟨h1, h2, h3, fun f p hf => by have := fldB_ok h4 f p hf; rwa [Nat.zero_add] at this, h5, h6, h7, h8, h9, hz, fun zs hzs => ?_, fun ps hps => ?_, h12⟩
  · rw [hzs] at h10; exact beq_t h10
  · rw [hps] at h11; simpa using h11
end Go.Ab
end
