/- WriteString and WriteByte at a strings.Builder that has been written to. No condition. The functions that write keys: by the executor. No condition. A strings.Builder that is new: its first WriteString; String. No condition. -/
import Derived.Test.YtfbmhjooliccnaaGreatDoorPr
import Derived.Test.YtfbmhjooliccnaaGreatDoorPt
set_option linter.all false

section
set_option maxRecDepth 100000
namespace Go.Proofs.YtfbmhjooliccnaaGreatDoor.Kw
open Go Go.Ab Go.RowKit

section
variable {P : Program}
theorem app_str {te tsl0 tst : TypeId} {zs : List V} (ht : tsl P tsl0 = some te) (hk : tsz P te = some 1) (hy : tby P te = some 1) (hz : tzv P te = some zs) (hzk : zs.length = 1) (hs : tstr P tst = true) {oA : Oper} {t1 t2 : Nat} (ho : oA.op = .call { callee := .builtin .append, args := #[.tmp t1, .tmp t2], argTypes := #[tsl0, tst] })
    {s : ByteArray} (hs0 : s.size ≠ 0) {g len cap : Nat} (hlc : len ≤ cap) (hcm : cap ≤ maxLen) (hfit : len + s.size ≤ 140737488355328) {σ : St} (e1 : σ.env t1 = .e (.c (.d (.sc (.slice (some ⟨g, 0, Option.none⟩) len cap))))) (e2 : σ.env t2 = .e (.c (.d (.sc (.string s)))))
    {C : Ctx} {γ : G} {a : Act} {w : World} (R : RelAt C γ σ a w) : AppOK P te oA s.data.toList g len cap a w := by
  intro vs spare hg hvl hcap
  have v1 : a.eval (.tmp t1) = .slice (some ⟨g, 0, Option.none⟩) len cap := by have := R.env t1; rw [e1] at this; exact sc_inv this
  have v2 : a.eval (.tmp t2) = .string s := by have := R.env t2; rw [e2] at this; exact sc_inv this
  have hl : s.data.toList.length = s.size := Array.length_toList
  obtain ⟨v', w', hrun, hres⟩ := append_runS (P := P) (w := w) oA.type ht hk hy hz hzk hs s (m := s.size) (us := bytesL s) rfl rfl rfl (A := some ⟨g, 0, Option.none⟩) (len := len) (cap := cap) (vs := vs) (spare := spare)
    (.inl ⟨g, te, rfl, hg, by simpa using hcap⟩) hlc hcm (by omega) (by rw [bytesL_len]; omega) (fun u hu => by
      simp only [bytesL, List.mem_map] at hu
      obtain ⟨x, _, rfl⟩ := hu
      rfl) (by simpa using hfit) (by simp only [maxLen]; omega)
  have eb : bytesL s = s.data.toList.map byteV := rfl
  refine ⟨v', w', exec_appendS ho (by rw [v1, v2]; exact hrun), ?_⟩
  rw [hl]
  rcases hres with ⟨h1, h2, ⟨h3, _⟩ | ⟨b, t0, h3, h4, h5, h6⟩⟩ | ⟨cap', rest, h1, h2, h3, h4, h5⟩
  · exact absurd h3 hs0
  · injection h3 with h3; injection h3 with h3; subst h3
    refine .inl ⟨h1, h2, by rw [bytesL_len] at h5; exact h5, ?_⟩
    rw [h6, eb, List.length_map, hl]
  · exact .inr ⟨cap', rest, h1, h2, h3, by rw [← eb]; simpa using h4, by rw [h5, eb]⟩

theorem app_byte {te tsl0 : TypeId} {zs : List V} (ht : tsl P tsl0 = some te) (hk : tsz P te = some 1) (hy : tby P te = some 1) (hz : tzv P te = some zs) (hzk : zs.length = 1) {oA : Oper} {t1 t2 : Nat} (ho : oA.op = .call { callee := .builtin .append, args := #[.tmp t1, .tmp t2], argTypes := #[tsl0, tsl0] })
    {x : UInt8} {g len cap : Nat} (hlc : len ≤ cap) (hcm : cap ≤ maxLen) (hfit : len + 1 ≤ 140737488355328) {σ : St} (e1 : σ.env t1 = .e (.c (.d (.sc (.slice (some ⟨g, 0, Option.none⟩) len cap))))) (e2 : σ.env t2 = .e (.c (.d (.sl [[.sc (byteV x)]]))))
    {C : Ctx} {γ : G} {a : Act} {w : World} (R : RelAt C γ σ a w) : AppOK P te oA [x] g len cap a w := by
  intro vs spare hg hvl hcap
  have v1 : a.eval (.tmp t1) = .slice (some ⟨g, 0, Option.none⟩) len cap := by have := R.env t1; rw [e1] at this; exact sc_inv this
  have hsr : srcV 1 σ.heap (.e (.c (.d (.sl [[.sc (byteV x)]])))) = some ([.d (.sc (byteV x))], 1) := rfl
  have r2 := R.env t2
  rw [e2] at r2
  obtain ⟨B, c, us, v2, hcu, hul, hsrc⟩ := src_rel R.mem hsr r2
  have hus : us = [byteV x] := by
    have h1 := hcu.1
    match us, h1 with
    | [u], _ =>
      have := hcu.2 0 _ _ rfl rfl
      rw [sc_inv (w := w) (M := C.M) (γ := γ) this]
  subst hus
  obtain ⟨v', w', hrun, hres⟩ := append_run (P := P) (w := w) oA.type ht hk hy hz hzk (A := some ⟨g, 0, Option.none⟩) (len := len) (cap := cap) (vs := vs) (spare := spare) (B := B) (m := 1) (c := c) (us := [byteV x])
    (.inl ⟨g, te, rfl, hg, by simpa using hcap⟩) hlc hcm (by omega) rfl hsrc (fun u hu => by simp at hu; subst hu; rfl) (by simpa using hfit) (by simp only [maxLen]; omega)
  have v2' : a.eval (.tmp t2) = .slice B 1 c := v2
  refine ⟨v', w', exec_append ho (by rw [v1, v2']; exact hrun), ?_⟩
  rcases hres with ⟨h1, h2, ⟨h3, _⟩ | ⟨b, t0, h3, h4, h5, h6⟩⟩ | ⟨cap', rest, h1, h2, h3, h4, h5⟩
  · cases h3
  · injection h3 with h3; injection h3 with h3; subst h3
    exact .inl ⟨h1, h2, h5, h6⟩
  · exact .inr ⟨cap', rest, h1, h2, h3, by simpa using h4, h5⟩
end

/- the two methods -/
def ownW (f : FuncId) : Bool := f == 248
noncomputable def hdW : Hand := hands Tryz.prog (tbP Tryz.prog) ora0 ownW 1000 20
theorem hdW_ok : HandOK Tryz.prog hdW := hands_ok mix (tbP_ok _) (fun _ _ _ h => by cases h) 20
def w0 (va : Value) (g n cap : Nat) : CS := initC [.c (.ptr 0 0), .c (.d (.sc va))] 1 (hB (.slice (some ⟨g, 0, Option.none⟩) n cap))
theorem w0_st (va : Value) (g n cap : Nat) : (w0 va g n cap).st = ⟨argEnv [.c (.ptr 0 0), .c (.d (.sc va))], mkH (hB (.slice (some ⟨g, 0, Option.none⟩) n cap))⟩ := initC_st (by simp)
theorem w0_ctr (va : Value) (g n cap : Nat) : 1 ≤ (w0 va g n cap).ctr := Nat.le_refl 1
def setA (c : CS) (v : Value) : CS := ⟨c.env.set fuelT 14 (sc v), c.heap, c.ctr, [], []⟩
theorem setA_st (c : CS) (v : Value) : (setA c v).st = ⟨upd c.st.env 14 (.e (.c (.d (.sc v)))), c.st.heap⟩ := by
  show (⟨envOf (c.env.set fuelT 14 (sc v)), mkH c.heap⟩ : St) = _
  rw [envOf_set (by omega)]
  rfl

noncomputable def b202 : Code := (Tryz.f202.body).getD .skip
noncomputable def p0 : Code := sqA b202
noncomputable def p1 : Code := sqA (sqB b202)
noncomputable def p2 : Array Oper := rgO (sqA (sqB (sqB b202)))
noncomputable def p3 : Code := sqA (sqB (sqB (sqB b202)))
theorem b202_eq : Tryz.f202.body = some (.seq p0 (.seq p1 (.seq (.region 2 p2 false) (.seq p3 .ret)))) := by kernel_rfl
theorem p2_split : p2.toList = p2.toList.take 6 ++ p2[6]! :: p2.toList.drop 7 := by kernel_rfl
noncomputable def v1 (s : ByteArray) (g n cap : Nat) : CS := outCS (execC Tryz.prog 19 1 hdW 1000 p0 (w0 (.string s) g n cap))
noncomputable def v2 (s : ByteArray) (g n cap : Nat) : CS := outCS (execC Tryz.prog 19 1 hdW 1000 p1 (v1 s g n cap))
noncomputable def v3 (s : ByteArray) (g n cap : Nat) : CS := getCS (runY Tryz.prog 19 1 p2 hdW (p2.toList.take 6) (v2 s g n cap))
noncomputable def v4 (s : ByteArray) (g n cap : Nat) (v : Value) : CS := getCS (runY Tryz.prog 19 1 p2 hdW (p2.toList.drop 7) (setA (v3 s g n cap) v))
noncomputable def v5 (s : ByteArray) (g n cap : Nat) (v : Value) : CS := outCS (execC Tryz.prog 19 1 hdW 1000 p3 (v4 s g n cap v))
theorem v1_ok (s : ByteArray) (g n cap : Nat) : execC Tryz.prog 19 1 hdW 1000 p0 (w0 (.string s) g n cap) = some (.nrm, v1 s g n cap) := by kernel_rfl
theorem v2_ok (s : ByteArray) (g n cap : Nat) : execC Tryz.prog 19 1 hdW 1000 p1 (v1 s g n cap) = some (.nrm, v2 s g n cap) := by kernel_rfl
theorem v3_ok (s : ByteArray) (g n cap : Nat) : runY Tryz.prog 19 1 p2 hdW (p2.toList.take 6) (v2 s g n cap) = some (v3 s g n cap) := by kernel_rfl
theorem v4_ok (s : ByteArray) (g n cap : Nat) (v : Value) : runY Tryz.prog 19 1 p2 hdW (p2.toList.drop 7) (setA (v3 s g n cap) v) = some (v4 s g n cap v) := by kernel_rfl
theorem v5_ok (s : ByteArray) (g n cap : Nat) (v : Value) : execC Tryz.prog 19 1 hdW 1000 p3 (v4 s g n cap v) = some (.nrm, v5 s g n cap v) := by kernel_rfl
theorem tup2_inv {x y : Value} {w : World} {M : Nat → Prop} {γ : G} {v : Value} (h : TRel w M γ (.tup [.c (.d (.sc x)), .c (.d (.sc y))]) v) : v = .tuple #[x, y] := by
  obtain ⟨us, rfl, hl, hc⟩ := h
  match us, hl with
  | [a, b], _ =>
    have h1 := sc_inv (w := w) (M := M) (γ := γ) (hc 0 _ _ rfl rfl)
    have h2 := sc_inv (w := w) (M := M) (γ := γ) (hc 1 _ _ rfl rfl)
    rw [h1, h2]
theorem vmv (s : ByteArray) (g n cap : Nat) : (v1 s g n cap).mv = [] ∧ (v2 s g n cap).mv = [] ∧ (v3 s g n cap).mv = [] := ⟨by kernel_rfl, by kernel_rfl, by kernel_rfl⟩
theorem vct (s : ByteArray) (g n cap : Nat) : 1 ≤ (v1 s g n cap).ctr ∧ 1 ≤ (v2 s g n cap).ctr := ⟨Nat.le_of_ble_eq_true (by kernel_rfl), Nat.le_of_ble_eq_true (by kernel_rfl)⟩
theorem vct3 (s : ByteArray) (g n cap : Nat) (v : Value) : 1 ≤ (setA (v3 s g n cap) v).ctr := Nat.le_of_ble_eq_true (by kernel_rfl)
theorem vmv2 (s : ByteArray) (g n cap : Nat) (v : Value) : (v4 s g n cap v).mv = [] ∧ (v5 s g n cap v).mv = [] := ⟨by kernel_rfl, by kernel_rfl⟩
theorem vct4 (s : ByteArray) (g n cap : Nat) (v : Value) : 1 ≤ (v4 s g n cap v).ctr := Nat.le_of_ble_eq_true (by kernel_rfl)
theorem ve1 (s : ByteArray) (g n cap : Nat) : (v3 s g n cap).st.env 12 = .e (.c (.d (.sc (.slice (some ⟨g, 0, Option.none⟩) n cap)))) := by kernel_rfl
theorem ve2 (s : ByteArray) (g n cap : Nat) : (v3 s g n cap).st.env 13 = .e (.c (.d (.sc (.string s)))) := by kernel_rfl
theorem vh5 (s : ByteArray) (g n cap : Nat) (v : Value) : (v5 s g n cap v).st.heap 0 = some [.ptr 0 0, .d (.sc v)] := by kernel_rfl
theorem vr5 (s : ByteArray) (g n cap : Nat) (v : Value) : resV Tryz.prog Tryz.f202.results.toList (v5 s g n cap v).st = some (.tup [.c (.d (.sc (.int .i64 (s.size : Int)))), .c (.d (.sc .nilIface))]) := by kernel_rfl
theorem nt202 : Tryz.f202.ntmps = 19 := by kernel_rfl
theorem gA202 : p2[6]!.guard = Option.none := by kernel_rfl
theorem dA202 : p2[6]!.dst = some 14 := by kernel_rfl
theorem oA202 : p2[6]!.op = .call { callee := .builtin .append, args := #[.tmp 12, .tmp 13], argTypes := #[228, 9] } := by kernel_rfl
theorem tsl228 : tsl Tryz.prog 228 = some 5 := by kernel_rfl
theorem tsz5 : tsz Tryz.prog 5 = some 1 := by kernel_rfl
theorem tby5 : tby Tryz.prog 5 = some 1 := by kernel_rfl
theorem tzv5 : tzv Tryz.prog 5 = some [.d (.sc (.int .u8 0))] := by kernel_rfl
theorem tstr9 : tstr Tryz.prog 9 = true := by kernel_rfl

/-- WriteString. -/
theorem writeS {s : ByteArray} (hs0 : s.size ≠ 0) {bs : List UInt8} {b g cap : Nat} {cur : Array Value} {w : World} (hB : BF 230 5 b g bs cap cur w) (hfit : bs.length + s.size ≤ 140737488355328) :
    Calls Tryz.prog 202 #[.pointer (some ⟨b, 0, Option.none⟩), .string s] w (WPost 230 5 b g (bs ++ s.data.toList) w (.tuple #[.int .i64 (s.size : Int), .nilIface])) :=
  writer_ok (hd := hdW) hdW_ok mix Tryz.func202 b202_eq nt202 (by omega) p2_split gA202 dA202 (by omega) rfl (w0_st (.string s) g bs.length cap) (w0_ctr _ _ _ _) (v1_ok s g bs.length cap) (v2_ok s g bs.length cap) (v3_ok s g bs.length cap)
    (vmv s g bs.length cap) (vct s g bs.length cap) (fun {C γ a w} R => app_str tsl228 tsz5 tby5 tzv5 rfl tstr9 oA202 hs0 hB.2.2.1 hB.2.2.2.1 hfit (ve1 s g bs.length cap) (ve2 s g bs.length cap) R)
    (fun v => setA_st (v3 s g bs.length cap) v) (vct3 s g bs.length cap) (v4_ok s g bs.length cap) (v5_ok s g bs.length cap) (vmv2 s g bs.length cap) (vct4 s g bs.length cap) (vh5 s g bs.length cap) (vr5 s g bs.length cap) (fun h => tup2_inv h) hB

noncomputable def b250 : Code := (Tryz.f250.body).getD .skip
noncomputable def r0 : Code := sqA b250
noncomputable def r1 : Code := sqA (sqB b250)
noncomputable def r2 : Array Oper := rgO (sqA (sqB (sqB b250)))
noncomputable def r3 : Code := sqA (sqB (sqB (sqB b250)))
theorem b250_eq : Tryz.f250.body = some (.seq r0 (.seq r1 (.seq (.region 2 r2 false) (.seq r3 .ret)))) := by kernel_rfl
theorem r2_split : r2.toList = r2.toList.take 7 ++ r2[7]! :: r2.toList.drop 8 := by kernel_rfl
noncomputable def y1 (x : UInt8) (g n cap : Nat) : CS := outCS (execC Tryz.prog 17 1 hdW 1000 r0 (w0 (byteV x) g n cap))
noncomputable def y2 (x : UInt8) (g n cap : Nat) : CS := outCS (execC Tryz.prog 17 1 hdW 1000 r1 (y1 x g n cap))
noncomputable def y3 (x : UInt8) (g n cap : Nat) : CS := getCS (runY Tryz.prog 17 1 r2 hdW (r2.toList.take 7) (y2 x g n cap))
noncomputable def y4 (x : UInt8) (g n cap : Nat) (v : Value) : CS := getCS (runY Tryz.prog 17 1 r2 hdW (r2.toList.drop 8) (setA (y3 x g n cap) v))
noncomputable def y5 (x : UInt8) (g n cap : Nat) (v : Value) : CS := outCS (execC Tryz.prog 17 1 hdW 1000 r3 (y4 x g n cap v))
theorem y1_ok (x : UInt8) (g n cap : Nat) : execC Tryz.prog 17 1 hdW 1000 r0 (w0 (byteV x) g n cap) = some (.nrm, y1 x g n cap) := by kernel_rfl
theorem y2_ok (x : UInt8) (g n cap : Nat) : execC Tryz.prog 17 1 hdW 1000 r1 (y1 x g n cap) = some (.nrm, y2 x g n cap) := by kernel_rfl
theorem y3_ok (x : UInt8) (g n cap : Nat) : runY Tryz.prog 17 1 r2 hdW (r2.toList.take 7) (y2 x g n cap) = some (y3 x g n cap) := by kernel_rfl
theorem y4_ok (x : UInt8) (g n cap : Nat) (v : Value) : runY Tryz.prog 17 1 r2 hdW (r2.toList.drop 8) (setA (y3 x g n cap) v) = some (y4 x g n cap v) := by kernel_rfl
theorem y5_ok (x : UInt8) (g n cap : Nat) (v : Value) : execC Tryz.prog 17 1 hdW 1000 r3 (y4 x g n cap v) = some (.nrm, y5 x g n cap v) := by kernel_rfl
theorem ymv (x : UInt8) (g n cap : Nat) : (y1 x g n cap).mv = [] ∧ (y2 x g n cap).mv = [] ∧ (y3 x g n cap).mv = [] := ⟨by kernel_rfl, by kernel_rfl, by kernel_rfl⟩
theorem yct (x : UInt8) (g n cap : Nat) : 1 ≤ (y1 x g n cap).ctr ∧ 1 ≤ (y2 x g n cap).ctr := ⟨Nat.le_of_ble_eq_true (by kernel_rfl), Nat.le_of_ble_eq_true (by kernel_rfl)⟩
theorem yct3 (x : UInt8) (g n cap : Nat) (v : Value) : 1 ≤ (setA (y3 x g n cap) v).ctr := Nat.le_of_ble_eq_true (by kernel_rfl)
theorem ymv2 (x : UInt8) (g n cap : Nat) (v : Value) : (y4 x g n cap v).mv = [] ∧ (y5 x g n cap v).mv = [] := ⟨by kernel_rfl, by kernel_rfl⟩
theorem yct4 (x : UInt8) (g n cap : Nat) (v : Value) : 1 ≤ (y4 x g n cap v).ctr := Nat.le_of_ble_eq_true (by kernel_rfl)
theorem ye1 (x : UInt8) (g n cap : Nat) : (y3 x g n cap).st.env 11 = .e (.c (.d (.sc (.slice (some ⟨g, 0, Option.none⟩) n cap)))) := by kernel_rfl
theorem ye2 (x : UInt8) (g n cap : Nat) : (y3 x g n cap).st.env 13 = .e (.c (.d (.sl [[.sc (byteV x)]]))) := by kernel_rfl
theorem yh5 (x : UInt8) (g n cap : Nat) (v : Value) : (y5 x g n cap v).st.heap 0 = some [.ptr 0 0, .d (.sc v)] := by kernel_rfl
theorem yr5 (x : UInt8) (g n cap : Nat) (v : Value) : resV Tryz.prog Tryz.f250.results.toList (y5 x g n cap v).st = some (.e (.c (.d (.sc .nilIface)))) := by kernel_rfl
theorem nt250 : Tryz.f250.ntmps = 17 := by kernel_rfl
theorem gA250 : r2[7]!.guard = Option.none := by kernel_rfl
theorem dA250 : r2[7]!.dst = some 14 := by kernel_rfl
theorem oA250 : r2[7]!.op = .call { callee := .builtin .append, args := #[.tmp 11, .tmp 13], argTypes := #[228, 228] } := by kernel_rfl
/-- WriteByte. -/
theorem writeB {x : UInt8} {bs : List UInt8} {b g cap : Nat} {cur : Array Value} {w : World} (hB : BF 230 5 b g bs cap cur w) (hfit : bs.length + 1 ≤ 140737488355328) :
    Calls Tryz.prog 250 #[.pointer (some ⟨b, 0, Option.none⟩), byteV x] w (WPost 230 5 b g (bs ++ [x]) w .nilIface) :=
  writer_ok (hd := hdW) hdW_ok mix Tryz.func250 b250_eq nt250 (by omega) r2_split gA250 dA250 (by omega) rfl (w0_st (byteV x) g bs.length cap) (w0_ctr _ _ _ _) (y1_ok x g bs.length cap) (y2_ok x g bs.length cap) (y3_ok x g bs.length cap)
    (ymv x g bs.length cap) (yct x g bs.length cap) (fun {C γ a w} R => app_byte tsl228 tsz5 tby5 tzv5 rfl oA250 hB.2.2.1 hB.2.2.2.1 hfit (ye1 x g bs.length cap) (ye2 x g bs.length cap) R)
    (fun v => setA_st (y3 x g bs.length cap) v) (yct3 x g bs.length cap) (y4_ok x g bs.length cap) (y5_ok x g bs.length cap) (ymv2 x g bs.length cap) (yct4 x g bs.length cap) (yh5 x g bs.length cap) (yr5 x g bs.length cap) (fun h => sc_inv h) hB
end Go.Proofs.YtfbmhjooliccnaaGreatDoor.Kw
end

section
set_option maxRecDepth 100000
namespace Go.Proofs.YtfbmhjooliccnaaGreatDoor.Kw
open Go Go.Ab Go.RowKit

def baseB (f : FuncId) (rest : List E) (bs : List UInt8) : Option (T × List UInt8 × List Value) :=
  if f = 202 then
    match rest with
    | [.c (.d (.sc (.string s)))] => if s.size ≠ 0 ∧ bs.length + s.size ≤ 1000000 then some (.tup [.c (.d (.sc (.int .i64 (s.size : Int)))), .c (.d (.sc .nilIface))], bs ++ s.data.toList, []) else Option.none
    | _ => Option.none
  else if f = 250 then
    match rest with
    | [.c (.d (.sc (.int .u8 n)))] => if ((UInt8.ofNat n.toNat).toNat : Int) = n ∧ bs.length + 1 ≤ 1000000 then some (.e (.c (.d (.sc .nilIface))), bs ++ [UInt8.ofNat n.toNat], []) else Option.none
    | _ => Option.none
  else Option.none

theorem ent202 : Ent Tryz.prog 202 := ent_of Tryz.func202 (by kernel_rfl) b202_eq
theorem ent250 : Ent Tryz.prog 250 := ent_of Tryz.func250 (by kernel_rfl) b250_eq
theorem one_val {w : World} {M : Nat → Prop} {γ : G} {x : Value} {vals : List Value} (h : EsRel w M γ [.c (.d (.sc x))] vals) : vals = [x] := by
  have hl := h.1
  match vals, hl with
  | [v], _ =>
    have := h.2 0 _ _ rfl rfl
    rw [sc_inv (w := w) (M := M) (γ := γ) this]

theorem baseB_ok {b : Nat} {f : FuncId} {rest : List E} {bs : List UInt8} {r : T} {bs' : List UInt8} {seen : List Value} (h : baseB f rest bs = some (r, bs', seen)) : WSat Tryz.prog 230 5 b f rest bs r bs' := by
  unfold baseB at h
  split at h
  · rename_i hf; subst hf
    split at h
    · rename_i s
      split at h
      · rename_i hc
        injection h with h; injection h with h1 h; injection h with h2 h3
        subst h1; subst h2
        refine ⟨ent202, fun M w vals g cap cur hB hMb hMg hlow hes => ?_⟩
        rw [one_val hes]
        refine (writeS hc.1 hB (by omega)).mono fun e w' he => ?_
        obtain ⟨rfl, g', cap', cur', hB', hgg, hk⟩ := he
        refine ⟨_, g', cap', cur', rfl, fun w M γ => ⟨[.int .i64 (s.size : Int), .nilIface], rfl, rfl, fun i x u hx hu => ?_⟩, hB', hgg, hk⟩
        match i, hx, hu with
        | 0, hx, hu => simp at hx hu; subst hx; subst hu; exact DRel.sc _ rfl
        | 1, hx, hu => simp at hx hu; subst hx; subst hu; exact DRel.sc _ rfl
        | i + 2, hx, hu => simp at hx
      · cases h
    · cases h
  · split at h
    · rename_i hf; subst hf
      split at h
      · rename_i n
        split at h
        · rename_i hc
          injection h with h; injection h with h1 h; injection h with h2 h3
          subst h1; subst h2
          refine ⟨ent250, fun M w vals g cap cur hB hMb hMg hlow hes => ?_⟩
          rw [one_val hes]
          have ev : (Value.int .u8 n) = byteV (UInt8.ofNat n.toNat) := by unfold byteV; rw [hc.1]
          rw [ev]
          refine (writeB (x := UInt8.ofNat n.toNat) hB (by omega)).mono fun e w' he => ?_
          obtain ⟨rfl, g', cap', cur', hB', hgg, hk⟩ := he
          exact ⟨_, g', cap', cur', rfl, fun w M γ => DRel.sc _ rfl, hB', hgg, hk⟩
        · cases h
      · cases h
    · cases h

def isW (f : FuncId) : Bool := f == 202 || f == 250 || f == 204 || f == 205
noncomputable def hdK : Hand := hands Tryz.prog (tbP Tryz.prog) ora0 (fun _ => false) 1000 30
theorem hdK_ok : HandOK Tryz.prog hdK := hands_ok mix (tbP_ok _) (fun _ _ _ h => by cases h) 30

noncomputable def execW (h : HandB) (f : FuncId) (pv : Value) (rest : List E) (bs : List UInt8) : Option (T × List UInt8 × List Value) :=
  match tbP Tryz.prog f with
  | some i =>
    if rest.length + 1 ≤ i.nt ∧ rest.length + 1 < 1000000 then
      match execB Tryz.prog i.nt hdK h isW 1000 i.code ⟨initC (.c (.d (.sc pv)) :: rest) 0 [], bs, []⟩ with
      | some (out, x') => (match resV Tryz.prog i.res x'.c.st with | some r => if out.ends && scOnly r then some (r, x'.bs, x'.seen) else Option.none | Option.none => Option.none)
      | Option.none => Option.none
    else Option.none
  | Option.none => Option.none
noncomputable def handK : Nat → HandB
  | 0 => fun f pv rest bs => baseB f rest bs
  | k + 1 => fun f pv rest bs => match baseB f rest bs with | some r => some r | Option.none => execW (handK k) f pv rest bs

theorem handK_ok (b : Nat) : ∀ k, HandBOK Tryz.prog 230 5 b (handK k)
  | 0 => fun f pv rest bs r bs' seen h _ => baseB_ok h
  | k + 1 => by
    have ih := handK_ok b k
    intro f pv rest bs r bs' seen h hp
    simp only [handK] at h
    split at h
    · rename_i x hx
      injection h with h; subst h
      exact baseB_ok hx
    · unfold execW at h
      split at h
      · rename_i i hi
        obtain ⟨fn, e1, e2, e3, e4, e5⟩ := tbP_ok Tryz.prog f i hi
        split at h
        · rename_i hl
          split at h
          · rename_i out x' hx
            split at h
            · rename_i r0 hr
              split at h
              · rename_i hc
                simp only [Bool.and_eq_true] at hc
                injection h with h; injection h with h1 h; injection h with h2 h3
                subst h1; subst h2; subst h3
                have hpv : pv = pB b := hp pv (by simp)
                subst hpv
                exact WSat.intro hdK_ok ih e1 e2 e3 (by rw [e4]; exact hl) (by rw [e4]; exact hx) hc.1 (by rw [e5]; exact hr) hc.2 (fun p hp' => hp p (by simp [hp']))
              · cases h
            · cases h
          · cases h
        · cases h
      · cases h

/- the beginning and the end of the key -/
noncomputable def b161 : Code := (Tryz.f161.body).getD .skip
noncomputable def z0 : Code := sqA b161
noncomputable def z1 : Array Oper := rgO (sqA (sqB b161))
noncomputable def z2 : Array Oper := rgO (sqA (sqB (sqB b161)))
noncomputable def z3 : Code := sqA (sqB (sqB (sqB b161)))
noncomputable def z8 : Code := sqA (sqB (sqB (sqB (sqB b161))))
noncomputable def z9 : Array Oper := rgO (sqA (sqB (sqB (sqB (sqB (sqB b161))))))
theorem b161_eq : Tryz.f161.body = some (.seq z0 (.seq (.region 1 z1 false) (.seq (.region 2 z2 false) (.seq z3 (.seq z8 (.seq (.region 9 z9 false) .ret)))))) := by kernel_rfl
def ptE (k : Int) : E := .agg [.d (.sc (.int .i64 k)), .d (.sc (.int .i64 0)), .d (.sc (.bool false)), .d (.sl []), .d (.sl []), .d (.sc (.int .i64 0)), .d (.sc (.bool false)), .d (.sl []), .d (.sl []), .d (.sc (.int .i64 0)), .d (.sc (.bool false)), .d (.sl []), .d (.sl []),
  .d (.sc (.int .i64 0)), .d (.sc (.bool false)), .d (.sl [[.sc (.int .u32 1)]]), .d (.sl []), .d (.sc (.int .i64 1)), .d (.sc (.int .i64 0)), .d (.sc (.int .i64 0)), .d (.sc (.bool false)), .d (.sl []), .d (.sl []), .d (.sl [])]
noncomputable def a0 (k : Int) : CS := initC [ptE k] 0 []
noncomputable def a1 (k : Int) : CS := outCS (execC Tryz.prog 29 0 hdK 1000 z0 (a0 k))
noncomputable def a2 (k : Int) (b : Nat) : CS := (a1 k).putO (some 3) (sc (pB b))
noncomputable def a3 (k : Int) (b : Nat) : CS := getCS (runY Tryz.prog 29 0 z2 hdK (z2.toList.take 3) (a2 k b))
theorem a1_2 : execC Tryz.prog 29 0 hdK 1000 z0 (a0 2) = some (.nrm, a1 2) := by kernel_rfl
theorem a3_2 (b : Nat) : runY Tryz.prog 29 0 z2 hdK (z2.toList.take 3) (a2 2 b) = some (a3 2 b) := by kernel_rfl
theorem a3_2s (b : Nat) : (a3 2 b).st.env 8 = sc (.string ⟨#[50]⟩) := by kernel_rfl
noncomputable def x4 (k : Int) (s : ByteArray) (b : Nat) : BS := ⟨(a3 k b).putO (some 9) (.tup [.c (.d (.sc (.int .i64 1))), .c (.d (.sc .nilIface))]), s.data.toList, []⟩
def outBS : Option (Out × BS) → BS
  | some (_, x) => x
  | Option.none => ⟨⟨.lf, [], 0, [], []⟩, [], []⟩
noncomputable def x5 (k : Int) (s : ByteArray) (b : Nat) : BS := outBS (execB Tryz.prog 29 hdK (handK 5) isW 1000 (.seq z3 z8) (x4 k s b))
theorem x5_2 (b : Nat) : execB Tryz.prog 29 hdK (handK 5) isW 1000 (.seq z3 z8) (x4 2 ⟨#[50]⟩ b) = some (.nrm, x5 2 ⟨#[50]⟩ b) := by kernel_rfl
theorem x5_2b (b : Nat) : (x5 2 ⟨#[50]⟩ b).bs = [50, 91, 48, 93, 91, 48, 93, 91, 48, 93, 91, 48, 32, 49, 93, 40, 49, 41] := by kernel_rfl
end Go.Proofs.YtfbmhjooliccnaaGreatDoor.Kw
end

section
set_option maxRecDepth 100000
namespace Go.Proofs.YtfbmhjooliccnaaGreatDoor.Kw
open Go Go.Ab Go.RowKit

noncomputable def b248 : Code := (Tryz.f248.body).getD .skip
def cdA : Code → Code
  | .cond _ a _ => a
  | c => c
def cdB : Code → Code
  | .cond _ _ b => b
  | c => c
noncomputable def u0 : Code := sqA b248
noncomputable def uO : Array Oper := rgO (cdA (sqB b248))
noncomputable def uE : Code := cdB (sqB b248)
theorem b248_eq : Tryz.f248.body = some (.seq u0 (.cond (.tmp 6) (.region 1 uO false) uE)) := by kernel_rfl
theorem uO_split : uO.toList = uO.toList.take 2 ++ uO[2]! :: uO[3]! :: uO[4]! :: uO.toList.drop 5 := by kernel_rfl
def hF0 : List (Nat × List V) := hF (.d (.sc (.pointer Option.none)))
noncomputable def f0 : CS := initC [.c (.ptr 0 0)] 1 hF0
noncomputable def f1 : CS := outCS (execC Tryz.prog 20 1 hdW 1000 u0 f0)
noncomputable def f2 : CS := getCS (runY Tryz.prog 20 1 uO hdW (uO.toList.take 2) f1)
def put3 (c : CS) (t : T) : CS := ⟨((c.env.set fuelT 9 t).set fuelT 10 t).set fuelT 11 t, c.heap, c.ctr, [], []⟩
theorem put3_st (c : CS) (t : T) : (put3 c t).st = ((c.st.put (some 9) t).put (some 10) t).put (some 11) t := by
  show (⟨envOf (((c.env.set fuelT 9 t).set fuelT 10 t).set fuelT 11 t), mkH c.heap⟩ : St) = _
  rw [envOf_set (by omega), envOf_set (by omega), envOf_set (by omega)]
  rfl
noncomputable def f3 : CS := put3 f2 (.e (.c (.ptr 0 0)))
noncomputable def f4 : CS := getCS (runY Tryz.prog 20 1 uO hdW (uO.toList.drop 5) f3)
theorem f1_ok : execC Tryz.prog 20 1 hdW 1000 u0 f0 = some (.nrm, f1) := by kernel_rfl
theorem f2_ok : runY Tryz.prog 20 1 uO hdW (uO.toList.take 2) f1 = some f2 := by kernel_rfl
theorem f4_ok : runY Tryz.prog 20 1 uO hdW (uO.toList.drop 5) f3 = some f4 := by kernel_rfl
theorem f_6 : f1.st.env 6 = .e (.c (.d (.sc (.bool true)))) := by kernel_rfl
theorem f_8 : f2.st.env 8 = .e (.c (.ptr 0 0)) := by kernel_rfl
theorem f_mv : f1.mv = [] ∧ f2.mv = [] ∧ f4.mv = [] := ⟨by kernel_rfl, by kernel_rfl, by kernel_rfl⟩
theorem f_ct : 1 ≤ f1.ctr ∧ 1 ≤ f3.ctr := ⟨Nat.le_of_ble_eq_true (by kernel_rfl), Nat.le_of_ble_eq_true (by kernel_rfl)⟩
theorem f0_st : f0.st = ⟨argEnv [.c (.ptr 0 0)], mkH (hF (.d (.sc (.pointer Option.none))))⟩ := initC_st (by simp)
theorem f3_st : f3.st = ((f2.st.put (some 9) (.e (.c (.ptr 0 0)))).put (some 10) (.e (.c (.ptr 0 0)))).put (some 11) (.e (.c (.ptr 0 0))) := by
  unfold f3
  exact put3_st f2 (.e (.c (.ptr 0 0)))
theorem f0_ct : 1 ≤ f0.ctr := Nat.le_refl 1
theorem info230 : ∃ j, Tryz.prog.info? 230 = some j ∧ j.size ≠ 0 := by
  have h : (Tryz.prog.info? 230).map (·.size) = some 2 := by kernel_rfl
  obtain ⟨j, hj, hs⟩ := Option.map_eq_some_iff.1 h
  exact ⟨j, hj, by omega⟩
theorem copy_c {M : Nat → Prop} {γ : G} {w : World} (hm : Mem M γ (mkH (hF (.d (.sc (.pointer Option.none))))) w) {b : Nat} (hg : γ 0 = some (some b)) {cells : Array Value} (hbk : w.heap[b]? = some (.cells cells 230 (0, 0))) (hsz : cells.size = 2) :
    Calls Tryz.prog 248 #[pB b] w (SatPost M γ w f4.st.heap (fun s => s < 1) (.tup [])) := by
  obtain ⟨j, hj, hjs⟩ := info230
  exact copy_ok (hd := hdW) hdW_ok mix (tb := 230) (tp := 227) (tu := 298) (by kernel_rfl) (by kernel_rfl) hj hjs (by kernel_rfl) (ne := 277) Tryz.func277 (by kernel_rfl) (by kernel_rfl) (by kernel_rfl) (by kernel_rfl) Tryz.func248 b248_eq (by kernel_rfl) (by kernel_rfl)
    uO_split ⟨by kernel_rfl, by kernel_rfl, by kernel_rfl⟩ ⟨by kernel_rfl, by kernel_rfl, by kernel_rfl⟩ (by kernel_rfl) (ts := #[298]) (by kernel_rfl) (by kernel_rfl) f0_st f0_ct f1_ok f_6 f2_ok f_8 f3_st f4_ok f_mv f_ct hm hg hbk hsz

noncomputable def p1O : Array Oper := rgO p1
theorem b202_eq' : Tryz.f202.body = some (.seq p0 (.seq (.region 1 p1O false) (.seq (.region 2 p2 false) (.seq p3 .ret)))) := by kernel_rfl
theorem p1_split : p1O.toList = p1O.toList.take 1 ++ [p1O[1]!] := by kernel_rfl
noncomputable def e0 (s : ByteArray) : CS := initC [.c (.ptr 0 0), .c (.d (.sc (.string s)))] 1 hF0
noncomputable def e1 (s : ByteArray) : CS := outCS (execC Tryz.prog 19 1 hdW 1000 p0 (e0 s))
noncomputable def e2 (s : ByteArray) : CS := getCS (runY Tryz.prog 19 1 p1O hdW (p1O.toList.take 1) (e1 s))
def setH7 (c d : CS) : CS := ⟨c.env.set fuelT 7 (.tup []), d.heap, c.ctr, [], []⟩
theorem setH7_st (c d : CS) : (setH7 c d).st = ⟨upd c.st.env 7 (.tup []), d.st.heap⟩ := by
  show (⟨envOf (c.env.set fuelT 7 (.tup [])), mkH d.heap⟩ : St) = _
  rw [envOf_set (by omega)]
  rfl
noncomputable def e3 (s : ByteArray) : CS := setH7 (e2 s) f4
noncomputable def e4 (s : ByteArray) : CS := getCS (runY Tryz.prog 19 1 p2 hdW (p2.toList.take 6) (e3 s))
noncomputable def e5 (s : ByteArray) (v : Value) : CS := getCS (runY Tryz.prog 19 1 p2 hdW (p2.toList.drop 7) (setA (e4 s) v))
noncomputable def e6 (s : ByteArray) (v : Value) : CS := outCS (execC Tryz.prog 19 1 hdW 1000 p3 (e5 s v))
theorem e1_ok (s : ByteArray) : execC Tryz.prog 19 1 hdW 1000 p0 (e0 s) = some (.nrm, e1 s) := by kernel_rfl
theorem e2_ok (s : ByteArray) : runY Tryz.prog 19 1 p1O hdW (p1O.toList.take 1) (e1 s) = some (e2 s) := by kernel_rfl
theorem e4_ok (s : ByteArray) : runY Tryz.prog 19 1 p2 hdW (p2.toList.take 6) (e3 s) = some (e4 s) := by kernel_rfl
theorem e5_ok (s : ByteArray) (v : Value) : runY Tryz.prog 19 1 p2 hdW (p2.toList.drop 7) (setA (e4 s) v) = some (e5 s v) := by kernel_rfl
theorem e6_ok (s : ByteArray) (v : Value) : execC Tryz.prog 19 1 hdW 1000 p3 (e5 s v) = some (.nrm, e6 s v) := by kernel_rfl
theorem e_6 (s : ByteArray) : (e2 s).st.env 6 = .e (.c (.ptr 0 0)) := by kernel_rfl
theorem e2_heap (s : ByteArray) : (e2 s).heap = hF0 := by kernel_rfl
theorem e2_hp (s : ByteArray) : (e2 s).st.heap = mkH (hF (.d (.sc (.pointer Option.none)))) := by rw [st_heap, e2_heap]; rfl
theorem e2_nm (s : ByteArray) : nmBel (e2 s) 1 = true := by kernel_rfl
theorem e3_st (s : ByteArray) : (e3 s).st = ⟨upd (e2 s).st.env 7 (.tup []), f4.st.heap⟩ := by
  unfold e3
  exact setH7_st (e2 s) f4
theorem e3_ct (s : ByteArray) : 1 ≤ (e3 s).ctr := Nat.le_of_ble_eq_true (by kernel_rfl)
theorem e_12 (s : ByteArray) : (e4 s).st.env 12 = .e (.c (.d (.sc (.slice Option.none 0 0)))) := by kernel_rfl
theorem e_13 (s : ByteArray) : (e4 s).st.env 13 = .e (.c (.d (.sc (.string s)))) := by kernel_rfl
theorem e_mv (s : ByteArray) : (e1 s).mv = [] ∧ (e2 s).mv = [] ∧ (e4 s).mv = [] := ⟨by kernel_rfl, by kernel_rfl, by kernel_rfl⟩
theorem e_ct (s : ByteArray) : 1 ≤ (e1 s).ctr := Nat.le_of_ble_eq_true (by kernel_rfl)
theorem e_ctA (s : ByteArray) (v : Value) : 1 ≤ (setA (e4 s) v).ctr := Nat.le_of_ble_eq_true (by kernel_rfl)
theorem e_mv2 (s : ByteArray) (v : Value) : (e5 s v).mv = [] ∧ (e6 s v).mv = [] := ⟨by kernel_rfl, by kernel_rfl⟩
theorem e_ct5 (s : ByteArray) (v : Value) : 1 ≤ (e5 s v).ctr := Nat.le_of_ble_eq_true (by kernel_rfl)
theorem e_h6 (s : ByteArray) (v : Value) : (e6 s v).st.heap 0 = some [.ptr 0 0, .d (.sc v)] := by kernel_rfl
theorem e_r6 (s : ByteArray) (v : Value) : resV Tryz.prog Tryz.f202.results.toList (e6 s v).st = some (.tup [.c (.d (.sc (.int .i64 (s.size : Int)))), .c (.d (.sc .nilIface))]) := by kernel_rfl
theorem e0_st (s : ByteArray) : (e0 s).st = ⟨argEnv [.c (.ptr 0 0), .c (.d (.sc (.string s)))], mkH (hF (.d (.sc (.pointer Option.none))))⟩ := initC_st (by simp)
theorem e0_ct (s : ByteArray) : 1 ≤ (e0 s).ctr := Nat.le_refl 1
theorem gC202 : p1O[1]!.guard = Option.none := by kernel_rfl
theorem dC202 : p1O[1]!.dst = some 7 := by kernel_rfl
theorem oC202 : p1O[1]!.op = .call { callee := .value (.func 248), args := #[.tmp 6], argTypes := #[227] } := by kernel_rfl
theorem ent248 : Ent Tryz.prog 248 := ent_of Tryz.func248 (by kernel_rfl) b248_eq

/-- The first WriteString. -/
theorem writeF {s : ByteArray} (hs0 : s.size ≠ 0) (hfit : s.size ≤ 140737488355328) {b : Nat} {w : World} (hbk : w.heap[b]? = some (.cells #[.pointer Option.none, .slice Option.none 0 0] 230 (0, 0))) :
    Calls Tryz.prog 202 #[pB b, .string s] w (fun e w' => e = .returned (.tuple #[.int .i64 (s.size : Int), .nilIface]) ∧ ∃ g' cap cur, BF 230 5 b g' s.data.toList cap cur w' ∧ w.heap.size ≤ g' ∧ Keep (fun x => x = b) w w') :=
  fresh_ok (hd := hdW) hdW_ok mix tsl228 tsz5 tby5 tzv5 rfl tstr9 Tryz.func202 b202_eq' nt202 p1_split p2_split gC202 gA202 dC202 dA202 oC202 oA202 ent248 hs0 hfit (e0_st s) (e0_ct s) (e1_ok s) (e2_ok s) (e_6 s) (e2_hp s) (e2_nm s)
    (fun {M γ w} hm {b} hg {cells} hbk hsz => copy_c hm hg hbk hsz) (e3_st s) (e3_ct s) (e4_ok s) (e_12 s) (e_13 s) (e_mv s) (e_ct s) (fun v => setA_st (e4 s) v) (e_ctA s) (e5_ok s) (e6_ok s) (e_mv2 s) (e_ct5 s) (e_h6 s) (e_r6 s) (fun h => tup2_inv h) hbk
end Go.Proofs.YtfbmhjooliccnaaGreatDoor.Kw
end
