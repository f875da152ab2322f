/- sparse.Content at one term: the stages of the run. No condition. -/
import Derived.Test.YtfbmhjooliccnaaGreatDoorPr
import Derived.Test.YtfbmhjooliccnaaGreatDoorProg
set_option linter.all false

section
set_option maxRecDepth 100000
namespace Go.Proofs.YtfbmhjooliccnaaGreatDoor.Kw
open Go Go.Ab

theorem mix : Tryz.prog.follows .mixedOrders = true := by kernel_rfl
def ora0 : FuncId → List E → Option T := fun _ _ => Option.none
def ownB (f : FuncId) : Bool := [129, 108, 174, 175, 176, 221, 268, 284, 285, 286, 287, 288, 289, 290, 291, 299, 301, 302, 303, 308, 276, 100141, 239, 253, 178, 224, 128].contains f
noncomputable def hdC : Hand := hands Tryz.prog (tbP Tryz.prog) ora0 ownB 1000 40
theorem hdC_ok : HandOK Tryz.prog hdC := hands_ok mix (tbP_ok _) (fun _ _ _ h => by cases h) 40

def sqA : Code → Code
  | .seq a _ => a
  | c => c
def sqB : Code → Code
  | .seq _ b => b
  | c => c
def blC : Code → Code
  | .block _ c => c
  | .loop c => c
  | c => c
def rfA : Code → Code
  | .rangeFunc _ _ a _ => a
  | c => c
def rfB : Code → Code
  | .rangeFunc _ _ _ b => b
  | c => c
def rgO : Code → Array Oper
  | .region _ ops _ => ops
  | _ => #[]
def outCS : Option (Out × CS) → CS
  | some (_, c) => c
  | Option.none => ⟨.lf, [], 0, [], []⟩
def getCS : Option CS → CS
  | some c => c
  | Option.none => ⟨.lf, [], 0, [], []⟩

noncomputable def b178 : Code := (Tryz.f178.body).getD .skip
noncomputable def k0 : Code := sqA b178
noncomputable def k1 : Code := sqA (sqB b178)
noncomputable def k2 : Code := sqA (sqA (sqB (sqB b178)))
noncomputable def kRf : Code := blC (sqB (sqA (sqB (sqB b178))))
noncomputable def asO : Array Oper := rgO (rfA kRf)
noncomputable def bdO : Array Oper := rgO (blC (rfB kRf))
noncomputable def k5O : Array Oper := rgO (sqA (sqB (sqB (sqB b178))))
theorem b178_eq : Tryz.f178.body = some (.seq k0 (.seq k1 (.seq (.seq k2 (.block 0 (.rangeFunc (.tmp 8) #[9, 10] (.region 3 asO false) (.block 1 (.region 4 bdO false))))) (.seq (.region 5 k5O false) .ret)))) := by kernel_rfl

def cells7 : List V := [.d (.sc (.bool false)), .d (.sl [[.sc (.int .u32 1)]]), .d (.sc (.int .i64 1)), .d (.sc (.int .i64 0)), .d (.sc (.int .i64 0)), .d (.sc (.int .i64 0))]
def H7 : List (Nat × List V) := [(7, cells7)]
def s0 : CS := initC [.c (.sub 7 6 0 1)] 8 H7
noncomputable def run1 : Option (Out × CS) := execC Tryz.prog 15 8 hdC 1000 (.seq k0 (.seq k1 k2)) s0
noncomputable def s1 : CS := outCS run1
theorem run1_ok : run1 = some (.nrm, s1) := by kernel_rfl
def cloL : T → Nat
  | .e (.c (.clo _ [(L, _)])) => L
  | _ => 0
noncomputable def LL : Nat := cloL (s1.st.env 8)
theorem s1_8 : s1.st.env 8 = .e (.c (.clo 271 [(LL, 0)])) := by kernel_rfl

noncomputable def b271 : Code := (Tryz.f271.body).getD .skip
noncomputable def j0 : Code := sqA b271
noncomputable def lpB : Code := blC (blC (sqB b271))
noncomputable def j1 : Code := sqA lpB
noncomputable def j1c : Code := sqA (sqB lpB)
noncomputable def jIn : Code := blC (sqA (sqB (sqB lpB)))
noncomputable def j2 : Code := sqA jIn
noncomputable def j3O : Array Oper := rgO (sqA (sqB jIn))
noncomputable def j3c : Code := sqB (sqB jIn)
noncomputable def j4 : Code := sqB (sqB (sqB lpB))
theorem b271_eq : Tryz.f271.body = some (.seq j0 (.block 0 (.loop (.seq j1 (.seq j1c (.seq (.block 1 (.seq j2 (.seq (.region 3 j3O true) j3c))) j4)))))) := by kernel_rfl
noncomputable def ct1 : Nat := s1.ctr
def yE (l : Nat) : E := .c (.d (.sc (.func (.yield l) #[] #[])))
noncomputable def q0 (l : Nat) : CS := initC [yE l, .c (.ptr LL 0)] ct1 s1.heap
noncomputable def q1 (l : Nat) : CS := outCS (execC Tryz.prog 20 ct1 hdC 1000 j0 (q0 l))
noncomputable def q2 (l : Nat) : CS := outCS (execC Tryz.prog 20 ct1 hdC 1000 (.seq j1 (.seq j1c j2)) (q1 l))
noncomputable def q3 (l : Nat) : CS := frzS ct1 (q2 l)
noncomputable def q4 (l : Nat) : CS := getCS (drawX Tryz.prog 20 ct1 (j3O.extract 0 6) hdC (q3 l))
theorem q1_ok (l : Nat) : execC Tryz.prog 20 ct1 hdC 1000 j0 (q0 l) = some (.nrm, q1 l) := by kernel_rfl
theorem q2_ok (l : Nat) : execC Tryz.prog 20 ct1 hdC 1000 (.seq j1 (.seq j1c j2)) (q1 l) = some (.nrm, q2 l) := by kernel_rfl
theorem q4_ok (l : Nat) : drawX Tryz.prog 20 ct1 (j3O.extract 0 6) hdC (q3 l) = some (q4 l) := by kernel_rfl
theorem q4_11 (l : Nat) : (q4 l).st.env 11 = .e (yE l) := by kernel_rfl
/- the round -/
noncomputable def ct4 : Nat := (q4 0).ctr
theorem q4_ctr (l : Nat) : (q4 l).ctr = ct4 := by kernel_rfl
noncomputable def m0 (l : Nat) : CS := ⟨((s1.env.set fuelT 9 (envOf (q4 l).env 13)).set fuelT 10 (envOf (q4 l).env 16)), (q4 l).heap, ct4, [], []⟩
noncomputable def m1 (l : Nat) : CS := getCS (runY Tryz.prog 15 ct4 asO hdC asO.toList (m0 l))
noncomputable def m2 (l : Nat) : CS := getCS (runY Tryz.prog 15 ct4 bdO hdC bdO.toList (m1 l))
theorem m1_ok (l : Nat) : runY Tryz.prog 15 ct4 asO hdC asO.toList (m0 l) = some (m1 l) := by kernel_rfl
theorem m2_ok (l : Nat) : runY Tryz.prog 15 ct4 bdO hdC bdO.toList (m1 l) = some (m2 l) := by kernel_rfl
/- behind the round -/
noncomputable def q5 (l : Nat) : CS := ⟨(q4 l).env.set fuelT 17 (sc (.bool true)), (m2 l).heap, (m2 l).ctr, (q4 l).mv, (q4 l).wl⟩
noncomputable def q6 (l : Nat) : CS := getCS (runY Tryz.prog 20 ct1 j3O hdC [j3O[7]!] (q5 l))
theorem q6_ok (l : Nat) : runY Tryz.prog 20 ct1 j3O hdC [j3O[7]!] (q5 l) = some (q6 l) := by kernel_rfl
noncomputable def q7 (l : Nat) : CS := outCS (execC Tryz.prog 20 ct1 hdC 1000 (.seq j3c j4) (q6 l))
theorem q7_ok (l : Nat) : execC Tryz.prog 20 ct1 hdC 1000 (.seq j3c j4) (q6 l) = some (.nrm, q7 l) := by kernel_rfl
noncomputable def q8 (l : Nat) : CS := outCS (execC Tryz.prog 20 ct1 hdC 1000 (.seq j1 j1c) (q7 l))
theorem q8_ok (l : Nat) : execC Tryz.prog 20 ct1 hdC 1000 (.seq j1 j1c) (q7 l) = some (.ext 0, q8 l) := by kernel_rfl
theorem q1_7 (l : Nat) : (q1 l).st.env 7 = sc (.int .i64 0) := by kernel_rfl
theorem q7_7 (l : Nat) : (q7 l).st.env 7 = sc (.int .i64 1) := by kernel_rfl
/- 178 again -/
noncomputable def s2 (l : Nat) : CS := ⟨s1.env, (q8 l).heap, (q8 l).ctr, [], []⟩
noncomputable def s3 (l : Nat) : CS := getCS (runY Tryz.prog 15 8 k5O hdC k5O.toList (s2 l))
theorem s3_ok (l : Nat) : runY Tryz.prog 15 8 k5O hdC k5O.toList (s2 l) = some (s3 l) := by kernel_rfl
def rOne : T := .e (.agg [.d (.sc (.bool false)), .d (.sl [[.sc (.int .u32 1)]])])
noncomputable def s4 (l : Nat) : CS := getCS (frzL 8 10000 ((resV Tryz.prog [.cell 2 26] (s3 l).st).getD .any).labs (s3 l))
theorem s4_ok (l : Nat) : frzL 8 10000 ((resV Tryz.prog [.cell 2 26] (s3 l).st).getD .any).labs (s3 l) = some (s4 l) := by kernel_rfl
theorem res_ok (l : Nat) : resV Tryz.prog [.cell 2 26] (s4 l).st = some rOne := by kernel_rfl
theorem heap_ok (l : Nat) : mkH (s4 l).heap 7 = some cells7 := by kernel_rfl
/- checks -/
def nmBelow (c : CS) (n : Nat) : Bool := (c.env.list id).all fun p => p.2.labs.all fun s => decide (s < n)
theorem nm_s1 : nmBelow s1 ct1 = true := by kernel_rfl
theorem nm_q4 (l : Nat) : nmBelow (q4 l) ct4 = true := by kernel_rfl
theorem mv_s1 : s1.mv = [] := by kernel_rfl
theorem mv_q4 (l : Nat) : (q4 l).mv = [] := by kernel_rfl
theorem mv_q8 (l : Nat) : (q8 l).mv = [] := by kernel_rfl
theorem mv_m2 (l : Nat) : (m2 l).mv = [] := by kernel_rfl
theorem mv_s4 (l : Nat) : (s4 l).mv = [] := by kernel_rfl
theorem wl_s4 (l : Nat) : (s4 l).wl = [] := by kernel_rfl
theorem ct_le : 8 ≤ ct1 := Nat.le_of_ble_eq_true (by kernel_rfl)
theorem ct_le4 : ct1 ≤ ct4 := Nat.le_of_ble_eq_true (by kernel_rfl)
noncomputable def S3 : List (List Bool) := levelsR (j3O.extract 0 6) 7 [List.replicate 6 false]
theorem sim3 : simOK j3O 6 S3 = true := by kernel_rfl
theorem sz3 : j3O.size = 8 := by kernel_rfl
theorem df3 : (j3O.toList.all fun o => match o.op with | .defer _ => false | _ => true) = true := by kernel_rfl
theorem dfA : (asO.toList.all fun o => match o.op with | .defer _ => false | _ => true) = true := by kernel_rfl
theorem dfB : (bdO.toList.all fun o => match o.op with | .defer _ => false | _ => true) = true := by kernel_rfl
theorem g3 : (j3O.toList.all fun o => o.guard.isNone) = true := by kernel_rfl
end Go.Proofs.YtfbmhjooliccnaaGreatDoor.Kw
end
