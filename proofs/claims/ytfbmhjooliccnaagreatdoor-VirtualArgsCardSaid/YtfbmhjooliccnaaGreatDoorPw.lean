/- String at a strings.Builder that has been written to. No condition. testpoint.key at the two points of awake. No condition. -/
import Derived.Test.YtfbmhjooliccnaaGreatDoorPv
import Derived.WalkKit
import Derived.RegionTactic
import Derived.Lib.UnsafeStr
import Derived.Lib.Builder
import Derived.Test.YtfbmhjooliccnaaGreatDoorPr
set_option linter.all false

section
set_option maxRecDepth 100000
namespace Go.Proofs.YtfbmhjooliccnaaGreatDoor.Kw
open Go Go.Ab Go.RowKit

set_option maxHeartbeats 2000000 in
theorem string_c {b g : Nat} {bs : List UInt8} {cap : Nat} {cur : Array Value} {w : World} (hB : BF 230 5 b g bs cap cur w) (h0 : bs ≠ []) :
    Calls Tryz.prog 206 #[.pointer (some ⟨b, 0, Option.none⟩)] w (fun e w' => e = .returned (.string ⟨bs.toArray⟩) ∧ w' = w.drew.freeze ⟨g, 0, Option.none⟩ bs.length) := by
  obtain ⟨hb0, hg0, hlen, hmax, hcap, htake, hbg⟩ := hB
  have hl0 : bs.length ≠ 0 := by simpa using h0
  have hbd : w.drew.heap[b]? = some (.cells #[.pointer (some ⟨b, 0, Option.none⟩), .slice (some ⟨g, 0, Option.none⟩) bs.length cap] 230 (0, 0)) := hb0
  have c1 : w.drew.cell? ⟨b, 1, Option.none⟩ = some (.slice (some ⟨g, 0, Option.none⟩) bs.length cap) := by
    rw [Lib.cell_of_heap hbd]; rfl
  have hSD : (Builtin.unsafeSliceData_ #[228] 279 #[.slice (some ⟨g, 0, Option.none⟩) bs.length cap]).run Tryz.prog w.drew = .ok (.pointer (some ⟨g, 0, Option.none⟩)) w.drew :=
    Lib.run_unsafeSliceData_row _ _ _ _ _ _ (by omega)
  have hUS : (Builtin.unsafeString_ #[279, 3] 9 #[.pointer (some ⟨g, 0, Option.none⟩), .int .i64 bs.length]).run Tryz.prog w.drew = .ok (.string ⟨bs.toArray⟩) (w.drew.freeze ⟨g, 0, Option.none⟩ bs.length) := by
    refine Lib.run_unsafeString_row w.drew 279 3 9 5 (by kernel_rfl) (by kernel_rfl) g cur.size (by have hg' : w.drew.heap[g]? = some (.cells cur 5 (0, 0)) := hg0; simp [World.shape?, hg']) bs h0 (by omega) (by unfold maxLen at hmax; omega) ?_
    intro j x hx
    have hg' : w.drew.heap[g]? = some (.cells cur 5 (0, 0)) := hg0
    have hj : j < bs.length := (List.getElem?_eq_some_iff.1 hx).1
    have h1 : cur.toList[j]? = some (byteV x) := by
      have h2 : (cur.toList.take bs.length)[j]? = some (byteV x) := by rw [htake]; simp [hx]
      rw [List.getElem?_take] at h2
      rw [if_pos hj] at h2
      exact h2
    rw [mk_add, Nat.zero_add, Lib.cell_of_heap hg']
    simpa [byteV] using h1
  go_enter Tryz.func206, Tryz.ntmps206
  go_wp2
  go_region
  all_goals (go_wp2; go_ret; exact ⟨rfl, rfl⟩)
end Go.Proofs.YtfbmhjooliccnaaGreatDoor.Kw
end

section
set_option maxRecDepth 100000
namespace Go.Proofs.YtfbmhjooliccnaaGreatDoor.Kw
open Go Go.Ab Go.RowKit

theorem a1_3 : execC Tryz.prog 29 0 hdK 1000 z0 (a0 3) = some (.nrm, a1 3) := by kernel_rfl
theorem a3_3 (b : Nat) : runY Tryz.prog 29 0 z2 hdK (z2.toList.take 3) (a2 3 b) = some (a3 3 b) := by kernel_rfl
theorem a3_3s (b : Nat) : (a3 3 b).st.env 8 = .e (.c (.d (.sc (.string ⟨#[51]⟩)))) := by kernel_rfl
theorem a3_2t (b : Nat) : (a3 2 b).st.env 8 = .e (.c (.d (.sc (.string ⟨#[50]⟩)))) := by kernel_rfl
theorem a3_2p (b : Nat) : (a3 2 b).st.env 3 = .e (.c (.d (.sc (pB b)))) := by kernel_rfl
theorem a3_3p (b : Nat) : (a3 3 b).st.env 3 = .e (.c (.d (.sc (pB b)))) := by kernel_rfl
theorem a0_st (k : Int) : (a0 k).st = ⟨argEnv [ptE k], noHeap⟩ := initC_st (by simp)
theorem a2_st (k : Int) (b : Nat) : (a2 k b).st = (a1 k).st.put (some 3) (.e (.c (.d (.sc (pB b))))) := by
  unfold a2
  exact putO_st (n := 29) rfl
def rW : T := .tup [.c (.d (.sc (.int .i64 1))), .c (.d (.sc .nilIface))]
noncomputable def xm (k : Int) (s : ByteArray) (b : Nat) : BS := outBS (execB Tryz.prog 29 hdK (handK 5) isW 1000 z3 (x4 k s b))
theorem x4_st (k : Int) (s : ByteArray) (b : Nat) : (x4 k s b).c.st = (a3 k b).st.put (some 9) rW := by
  unfold x4
  exact putO_st (n := 29) rfl
theorem x4_bs (k : Int) (s : ByteArray) (b : Nat) : (x4 k s b).bs = s.data.toList := by
  unfold x4
  rfl
theorem xm_2 (b : Nat) : execB Tryz.prog 29 hdK (handK 5) isW 1000 z3 (x4 2 ⟨#[50]⟩ b) = some (.nrm, xm 2 ⟨#[50]⟩ b) := by kernel_rfl
theorem xn_2 (b : Nat) : execB Tryz.prog 29 hdK (handK 5) isW 1000 z8 (xm 2 ⟨#[50]⟩ b) = some (.nrm, x5 2 ⟨#[50]⟩ b) := by kernel_rfl
theorem xm_3 (b : Nat) : execB Tryz.prog 29 hdK (handK 5) isW 1000 z3 (x4 3 ⟨#[51]⟩ b) = some (.nrm, xm 3 ⟨#[51]⟩ b) := by kernel_rfl
theorem xn_3 (b : Nat) : execB Tryz.prog 29 hdK (handK 5) isW 1000 z8 (xm 3 ⟨#[51]⟩ b) = some (.nrm, x5 3 ⟨#[51]⟩ b) := by kernel_rfl
def keyL (c : UInt8) : List UInt8 := [c, 91, 48, 93, 91, 48, 93, 91, 48, 93, 91, 48, 32, 49, 93, 40, 49, 41]
theorem xb_2 (b : Nat) : (x5 2 ⟨#[50]⟩ b).bs = keyL 50 := by kernel_rfl
theorem xb_3 (b : Nat) : (x5 3 ⟨#[51]⟩ b).bs = keyL 51 := by kernel_rfl
theorem x3_2 (b : Nat) : (x5 2 ⟨#[50]⟩ b).c.st.env 3 = .e (.c (.d (.sc (pB b)))) := by kernel_rfl
theorem x3_3 (b : Nat) : (x5 3 ⟨#[51]⟩ b).c.st.env 3 = .e (.c (.d (.sc (pB b)))) := by kernel_rfl
noncomputable def nSeen2 : Nat := (x5 2 ⟨#[50]⟩ 0).seen.length
noncomputable def nSeen3 : Nat := (x5 3 ⟨#[51]⟩ 0).seen.length
theorem xs_2 (b : Nat) : (x5 2 ⟨#[50]⟩ b).seen = List.replicate nSeen2 (pB b) := by kernel_rfl
theorem xs_3 (b : Nat) : (x5 3 ⟨#[51]⟩ b).seen = List.replicate nSeen3 (pB b) := by kernel_rfl
theorem z1_l : z1.toList = [z1[0]!] := by kernel_rfl
theorem z2_l : z2.toList = z2.toList.take 3 ++ [z2[3]!] := by kernel_rfl
theorem z9_l : z9.toList = [z9[0]!, z9[1]!] := by kernel_rfl
theorem zg : z1[0]!.guard = Option.none ∧ z2[3]!.guard = Option.none ∧ z9[0]!.guard = Option.none ∧ z9[1]!.guard = Option.none := ⟨by kernel_rfl, by kernel_rfl, by kernel_rfl, by kernel_rfl⟩
theorem zd : z1[0]!.dst = some 3 ∧ z2[3]!.dst = some 9 ∧ z9[0]!.dst = some 28 ∧ z9[1]!.dst = some 2 := ⟨by kernel_rfl, by kernel_rfl, by kernel_rfl, by kernel_rfl⟩
theorem zo1 : z1[0]!.op = .alloc 230 := by kernel_rfl
theorem zo2 : z2[3]!.op = .call { callee := .value (.func 202), args := #[.tmp 3, .tmp 8], argTypes := #[230, 9] } := by kernel_rfl
theorem zo3 : z9[0]!.op = .call { callee := .value (.func 206), args := #[.tmp 3], argTypes := #[230] } := by kernel_rfl
theorem zo4 : z9[1]!.op = .assign (.tmp 28) := by kernel_rfl
theorem zero230 (w : World) : (zeroValue 230).run Tryz.prog w = .ok (.agg #[.pointer Option.none, .slice Option.none 0 0]) w := by
  have h : (Tryz.prog.info? 230).bind (·.zero) = some (.agg #[.pointer Option.none, .slice Option.none 0 0]) := by kernel_rfl
  obtain ⟨i, hi, hz⟩ := Option.bind_eq_some_iff.1 h
  simp [zeroValue, typeInfo, hi, hz]
theorem nt161 : Tryz.f161.ntmps = 29 := by kernel_rfl
theorem rs161 : Tryz.f161.results.toList = [.tmp 2] := by kernel_rfl
theorem nm161 : (Tryz.f161.name == "runtime.NumGoroutine") = false := by kernel_rfl
theorem ent206 : Ent Tryz.prog 206 := by
  have h : Tryz.f206.body.isSome = true := by kernel_rfl
  obtain ⟨c, hc⟩ := Option.isSome_iff_exists.1 h
  exact ent_of Tryz.func206 (by kernel_rfl) hc
theorem rW_rel (w : World) (M : Nat → Prop) (γ : G) : TRel w M γ rW (.tuple #[.int .i64 1, .nilIface]) := by
  refine ⟨[.int .i64 1, .nilIface], rfl, rfl, fun i x u hx hu => ?_⟩
  match i, hx, hu with
  | 0, hx, hu => simp at hx hu; subst hx; subst hu; exact DRel.sc _ rfl
  | 1, hx, hu => simp at hx hu; subst hx; subst hu; exact DRel.sc _ rfl
  | i + 2, hx, hu => simp at hx

theorem key_2 : Pur Tryz.prog 161 [ptE 2] (.e (.c (.d (.sc (.string ⟨(keyL 50).toArray⟩))))) :=
  key_ok (hd := hdK) (h := handK 5) (isW := isW) (tb := 230) (te := 5) hdK_ok (fun b => handK_ok b 5) mix Tryz.func161 nm161 b161_eq nt161 rs161 z1_l z2_l z9_l zg zd zo1 zo2 zo3 zo4 zero230 ent202 ent206 (a0_st 2) a1_2 (a2_st 2) a3_2 a3_2p a3_2t rW_rel
    (fun {b w} hb => writeF (s := ⟨#[50]⟩) (by decide) (by decide) hb) (x4_st 2 ⟨#[50]⟩) (x4_bs 2 ⟨#[50]⟩) xm_2 xn_2 (fun b p hp => by rw [xs_2] at hp; exact (List.mem_replicate.1 hp).2) x3_2 xb_2 (by simp [keyL]) (fun {b g cap cur w} hB => string_c hB (by simp [keyL]))
theorem key_3 : Pur Tryz.prog 161 [ptE 3] (.e (.c (.d (.sc (.string ⟨(keyL 51).toArray⟩))))) :=
  key_ok (hd := hdK) (h := handK 5) (isW := isW) (tb := 230) (te := 5) hdK_ok (fun b => handK_ok b 5) mix Tryz.func161 nm161 b161_eq nt161 rs161 z1_l z2_l z9_l zg zd zo1 zo2 zo3 zo4 zero230 ent202 ent206 (a0_st 3) a1_3 (a2_st 3) a3_3 a3_3p a3_3s rW_rel
    (fun {b w} hb => writeF (s := ⟨#[51]⟩) (by decide) (by decide) hb) (x4_st 3 ⟨#[51]⟩) (x4_bs 3 ⟨#[51]⟩) xm_3 xn_3 (fun b p hp => by rw [xs_3] at hp; exact (List.mem_replicate.1 hp).2) x3_3 xb_3 (by simp [keyL]) (fun {b g cap cur w} hB => string_c hB (by simp [keyL]))
end Go.Proofs.YtfbmhjooliccnaaGreatDoor.Kw
end
