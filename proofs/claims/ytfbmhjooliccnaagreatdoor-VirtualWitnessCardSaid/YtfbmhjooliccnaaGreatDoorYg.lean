/- Part of VirtualWitness. No condition. -/
import Derived.Lib.LaidTab
import Derived.LaidSub
import Derived.MakeChecks
import Derived.Lib.ItoaMem
import Derived.Test.YtfbmhjooliccnaaGreatDoorRows
import Derived.Shelf.SlSortCmp.NoneTotal
import Derived.KernelRfl
import Derived.Test.YtfbmhjooliccnaaGreatDoorProg
import Derived.Test.YtfbmhjooliccnaaGreatDoorYf
set_option linter.all false
set_option maxRecDepth 100000
set_option maxHeartbeats 60000000
noncomputable section
namespace Go.Proofs.YtfbmhjooliccnaaGreatDoor
open Go Go.Ab Go.Proofs.Tryz
def acv(x:String×DataW Unit):Bool:=x.1== "internal/strconv.uint64pow10"
def awS:Rows.virtualWitnessRow.laid.filter acv=[("internal/strconv.uint64pow10",Lib.tabData .u64 Lib.pow10Tab)]:=af
def aFX{Z:World}(h:laidMetH prog Rows.virtualWitnessRow.laid Z):1<Z.heap.size/\Sj Z.heap[1]? :=by
 have d:=h.filter acv;rw[awS,MakeChecks.laidMetH_plain _ _ _ af]at d;have c:Tryz.prog.globalNamed "internal/strconv.uint64pow10" =some 1:=af;have a:Lib.TabIs prog Z "internal/strconv.uint64pow10" .u64 Lib.pow10Tab:=Lib.tabIs_of_head c (t:=323) (e:=138) (n:=20) af af af af af d;unfold Lib.TabIs World.var? at a;rw[c]at a;simp only[Ca]at a;split at a
 ·rename_i f t r b;injection a with a
  refine⟨(MK.1 b).1,t,r,?_⟩;rw[b,a];congr 2
 ·cases a
end Go.Proofs.YtfbmhjooliccnaaGreatDoor
namespace Go.Proofs.YtfbmhjooliccnaaGreatDoor
open Go Go.Shelf Go.RowKit Go.Lib Go.Sort Go.Proofs.Tryz
def GV:Go.Shelf.Ren:=⟨λn=>match n with|14=>268|20=>284|21=>285|22=>286|23=>287|24=>288|25=>289|26=>290|27=>291|46=>299|47=>300|48=>301|49=>302|50=>303|15=>269|57=>308|28=>282|29=>292|n=>n,λn=>match n with|24=>171|22=>160|3=>3|25=>258|4=>4|0=>0|46=>304|45=>303|50=>255|66=>316|39=>191|55=>138|70=>320|76=>325|77=>326|53=>168|5=>5|9=>9|n=>n,λn=>n⟩
theorem Qy:SlLaysF0.n14 prog GV where
 mixed:=af
 f14:=⟨Tryz.f268.name,af,Tryz.func268.trans (aY some af)⟩
 f15:=Tryz.func269.trans (aY some af)
 f20:=⟨Tryz.f284.name,af,Tryz.func284.trans (aY some af)⟩
 f21:=⟨Tryz.f285.name,af,Tryz.func285.trans (aY some af)⟩
 f22:=⟨Tryz.f286.name,af,Tryz.func286.trans (aY some af)⟩
 f23:=⟨Tryz.f287.name,af,Tryz.func287.trans (aY some af)⟩
 f24:=⟨Tryz.f288.name,af,Tryz.func288.trans (aY some af)⟩
 f25:=⟨Tryz.f289.name,af,Tryz.func289.trans (aY some af)⟩
 f26:=⟨Tryz.f290.name,af,Tryz.func290.trans (aY some af)⟩
 f27:=⟨Tryz.f291.name,af,Tryz.func291.trans (aY some af)⟩
 f28:=Tryz.func282.trans (aY some af)
 f29:=Tryz.func292.trans (aY some af)
 f46:=⟨Tryz.f299.name,af,Tryz.func299.trans (aY some af)⟩
 f47:=Tryz.func300.trans (aY some af)
 f48:=Tryz.func301.trans (aY some af)
 f49:=⟨Tryz.f302.name,af,Tryz.func302.trans (aY some af)⟩
 f50:=⟨Tryz.f303.name,af,Tryz.func303.trans (aY some af)⟩
 f57:=⟨Tryz.f308.name,af,Tryz.func308.trans (aY some af)⟩
 t0:=Tryz.underlying0
 a0:=Tryz.isAgg0
 z0:=Tryz.sizeOf0
 v0:=Tryz.zeroValue0
 t3:=Tryz.underlying3
 a3:=Tryz.isAgg3
 z3:=Tryz.sizeOf3
 v3:=Tryz.zeroValue3
 t4:=Tryz.underlying4
 a4:=Tryz.isAgg4
 z4:=Tryz.sizeOf4
 v4:=Tryz.zeroValue4
 t5:=Tryz.underlying5
 a5:=Tryz.isAgg5
 z5:=Tryz.sizeOf5
 v5:=Tryz.zeroValue5
 t9:=Tryz.underlying9
 a9:=Tryz.isAgg9
 z9:=Tryz.sizeOf9
 v9:=Tryz.zeroValue9
 t22:=Tryz.underlying160
 a22:=Tryz.isAgg160
 z22:=Tryz.sizeOf160
 v22:=Tryz.zeroValue160
 t25:=Tryz.underlying258
 a25:=Tryz.isAgg258
 z25:=Tryz.sizeOf258
 v25:=Tryz.zeroValue258
 t39:=Tryz.underlying191
 a39:=Tryz.isAgg191
 z39:=Tryz.sizeOf191
 v39:=Tryz.zeroValue191
 t45:=Tryz.underlying303
 a45:=Tryz.isAgg303
 z45:=Tryz.sizeOf303
 v45:=Tryz.zeroValue303
 t46:=Tryz.underlying304
 a46:=Tryz.isAgg304
 z46:=Tryz.sizeOf304
 v46:=Tryz.zeroValue304
 t50:=Tryz.underlying255
 a50:=Tryz.isAgg255
 z50:=Tryz.sizeOf255
 v50:=Tryz.zeroValue255
 t53:=Tryz.underlying168
 a53:=Tryz.isAgg168
 z53:=Tryz.sizeOf168
 v53:=Tryz.zeroValue168
 t55:=Tryz.underlying138
 a55:=Tryz.isAgg138
 z55:=Tryz.sizeOf138
 v55:=Tryz.zeroValue138
 t66:=Tryz.underlying316
 a66:=Tryz.isAgg316
 z66:=Tryz.sizeOf316
 v66:=Tryz.zeroValue316
 t70:=Tryz.underlying320
 a70:=Tryz.isAgg320
 z70:=Tryz.sizeOf320
 v70:=Tryz.zeroValue320
 t76:=Tryz.underlying325
 a76:=Tryz.isAgg325
 z76:=Tryz.sizeOf325
 v76:=Tryz.zeroValue325
 t77:=Tryz.underlying326
 a77:=Tryz.isAgg326
 z77:=Tryz.sizeOf326
 v77:=Tryz.zeroValue326
end Go.Proofs.YtfbmhjooliccnaaGreatDoor
namespace Go.Proofs.YtfbmhjooliccnaaGreatDoor
open Go Go.Ab Go.Proofs.Tryz
variable {f:FuncId}{c:Code}{Z:Func}{n:Int}
def mixed:Tryz.prog.follows .mixedOrders=true:=af
def zQ(k:IntKind)(n:Nat):TI:=⟨1,n,false,[],none,none,some k,false,false,some [.int k 0],none,none⟩
def rE(e:Nat):TI:=⟨1,24,false,[],some e,none,none,false,false,some [.slice none 0 0],none,none⟩
def rC(v:Value):TI:=⟨1,8,false,[],none,none,none,false,false,some [v],none,none⟩
def Ms(n b:Nat)(f:List (Nat×Nat))(z:Option (List Value))(p:List (Nat×Nat)):TI:=⟨n,b,true,f,none,none,none,false,false,z,some p,none⟩
abbrev bN{α:Type}:Tr α:=.lf
abbrev df{α:Type}(l r:Tr α):Tr α:=.nd none l r
abbrev eF{α:Type}(x:α)(l r:Tr α):Tr α:=.nd (some x) l r
def ti3:TI:=⟨1,8,false,[],none,none,some .i64,false,false,some [.int .i64 0],none,none⟩
def aiG:TI:=⟨2,32,true,[(0,4),(1,24)],none,none,none,false,false,some [.bool false,.slice none 0 0],some [(0,1),(1,1)],none⟩
def lC:TI:=⟨4,64,true,[(0,3),(1,26),(3,27)],none,none,none,false,false,some [.int .i64 0,.bool false,.slice none 0 0,.slice none 0 0],some [(0,1),(1,2),(3,1)],none⟩
def oP:TI:=⟨7,104,true,[(0,3),(1,22),(2,29),(6,30)],none,none,none,false,false,some [.int .i64 0,.int .i64 0,.int .i64 0,.bool false,.slice none 0 0,.slice none 0 0,.slice none 0 0],some [(0,1),(1,1),(2,4),(6,1)],none⟩
def BA:TI:=⟨24,368,true,[(0,3),(1,29),(5,29),(9,29),(13,29),(17,32)],none,none,none,false,false,some [.int .i64 0,.int .i64 0,.bool false,.slice none 0 0,.slice none 0 0,.int .i64 0,.bool false,.slice none 0 0,.slice none 0 0,.int .i64 0,.bool false,.slice none 0 0,.slice none 0 0,.int .i64 0,.bool false,.slice none 0 0,.slice none 0 0,.int .i64 0,.int .i64 0,.int .i64 0,.bool false,.slice none 0 0,.slice none 0 0,.slice none 0 0],some [(0,1),(1,4),(5,4),(9,4),(13,4),(17,7)],none⟩
def zI:TI:=⟨1,4,false,[],none,none,some .u32,false,false,some [.int .u32 0],none,none⟩
def xY:TI:=⟨6,64,true,[(0,26),(2,165)],none,none,none,false,false,some [.bool false,.slice none 0 0,.int .i64 0,.int .i64 0,.int .i64 0,.int .i64 0],some [(0,2),(2,4)],none⟩
def Uh:Tr TI:=df (eF (rC (.nilFunc)) (eF ti3 (df (df (df (df bN (eF (zQ .u64 8) bN bN)) (eF (rE 26) bN bN)) (eF (rE 4) bN (df (df (eF (zQ .i64 8) bN bN) bN) bN))) (df (eF (rE 34) bN bN) (df (df (df (eF (rC (.pointer none)) bN bN) bN) bN) bN))) (df (df (eF ⟨12,224,true,[],none,some (4,34),none,false,false,some [.bool false,.slice none 0 0,.slice none 0 0,.bool false,.slice none 0 0,.slice none 0 0,.bool false,.slice none 0 0,.slice none 0 0,.bool false,.slice none 0 0,.slice none 0 0],some [(0,3),(3,3),(6,3),(9,3)],none⟩ bN (df bN (eF (rC (.pointer none)) bN bN))) (df (df (df (eF ⟨2,16,true,[],none,some (2,2),none,false,false,some [.int .i64 0,.int .i64 0],some [(0,1),(1,1)],none⟩ bN bN) bN) bN) bN)) (eF (rE 29) (df (df bN (eF (rC (.pointer none)) bN bN)) (df (eF xY bN bN) bN)) (df bN (df bN (eF ⟨1,8,false,[],none,none,none,false,false,some [.map none],none,some (165,3)⟩ bN bN)))))) (eF (zQ .u8 1) (eF ⟨1,16,false,[],none,none,none,true,false,some [.string ⟨#[]⟩],none,none⟩ (df (df bN (df (eF (rE 171) bN bN) bN)) bN) (df (df (df bN (df (eF ⟨64,64,true,[],none,some (64,5),none,false,false,some (.replicate 64 (.int .u8 0)),some ((List.range 64).map (·,1)),none⟩ bN bN) bN)) (eF (rC (.nilFunc)) bN bN)) bN)) (df (df (df bN (df (eF ⟨4,32,true,[],none,some (4,3),none,false,false,some [.int .i64 0,.int .i64 0,.int .i64 0,.int .i64 0],some [(0,1),(1,1),(2,1),(3,1)],none⟩ (eF (rC (.nilFunc)) bN bN) bN) bN)) bN) (eF lC (df (df (eF (rE 146) bN bN) bN) bN) (df bN (df bN (eF (Ms 2 32 [(0,251),(1,161)] (some [.map none,.slice none 0 0]) [(0,1),(1,1)]) bN bN))))))) (eF (zQ .i64 8) (eF ⟨1,1,false,[],none,none,none,false,true,some [.bool false],none,none⟩ (df (df (eF oP (df bN (eF ⟨1,8,false,[],none,none,none,false,false,some [.map none],none,some (9,4)⟩ (eF (rC (.pointer none)) bN bN) bN)) (df (eF (rE 171) bN bN) bN)) (eF (rE 9) (df (eF (rC (.nilFunc)) bN bN) bN) bN)) (eF (rE 168) (eF (zQ .i64 8) bN (df (eF zI bN bN) bN)) (df (df (eF (rC (.nilFunc)) bN bN) bN) (df (df (eF ⟨24,24,true,[],none,some (24,5),none,false,false,some (.replicate 24 (.int .u8 0)),some ((List.range 24).map (·,1)),none⟩ bN bN) bN) bN)))) (df (df (df (df (df (eF (rC (.nilFunc)) bN bN) bN) (df (eF ⟨65,65,true,[],none,some (65,5),none,false,false,none,none,none⟩ bN bN) bN)) (df bN (eF (rE 5) bN bN))) bN) (df (df bN (df bN (eF ⟨16,256,true,[],none,some (4,29),none,false,false,some [.int .i64 0,.bool false,.slice none 0 0,.slice none 0 0,.int .i64 0,.bool false,.slice none 0 0,.slice none 0 0,.int .i64 0,.bool false,.slice none 0 0,.slice none 0 0,.int .i64 0,.bool false,.slice none 0 0,.slice none 0 0],some [(0,4),(4,4),(8,4),(12,4)],none⟩ bN bN))) (df (eF (rE 3) (eF (rC (.nilFunc)) bN bN) bN) (df (df (eF (zQ .u64 8) bN bN) bN) bN))))) (df (df (df (eF (Ms 3 56 [(0,26),(2,24)] (some [.bool false,.slice none 0 0,.slice none 0 0]) [(0,2),(2,1)]) (df (df (eF (rC (.nilFunc)) bN bN) bN) bN) bN) (eF (Ms 10 160 [(0,3),(1,47),(2,48),(3,32)] (some [.int .i64 0,.slice none 0 0,.slice none 0 0,.int .i64 0,.int .i64 0,.int .i64 0,.bool false,.slice none 0 0,.slice none 0 0,.slice none 0 0]) [(0,1),(1,1),(2,1),(3,7)]) (df (eF BA bN bN) bN) bN)) (eF aiG (df (df (eF (zQ .u64 8) bN bN) bN) (df (df (eF (rC (.pointer none)) bN bN) bN) bN)) bN)) (df (eF (zQ .i64 8) (df bN (df bN (eF (Ms 2 32 [(0,227),(1,228)] (some [.pointer none,.slice none 0 0]) [(0,1),(1,1)]) bN bN))) (eF (rC (.nilFunc)) bN (df (df (eF (rE 27) bN bN) bN) bN))) (eF (rE 32) bN (df (eF (rE 26) bN bN) bN)))))
def aGk:EK (yI prog) Uh id:=T9 af
def ai3(t:TypeId):Option TI:=FZ Uh t
def aGj(t:TypeId)(i:TI)(h:ai3 t=some i):yI prog t i:=P9 Uh id aGk t i h
structure bk where
 neg:Bool
 aF:List Int
inductive J where
 |mk (aJ:Int) (neg:Bool) (aF:ao) (aG:List J)
namespace J
def aJ:J->Int|.mk l _ _ _=>l
def neg:J->Bool|.mk _ n _ _=>n
def aF:J->List Int|.mk _ _ a _=>a
def aG:J->List J|.mk _ _ _ c=>c
end J
inductive F where
 |mk (aM bW:Int) (aH:J) (aO:List F)
namespace F
def aM:F->Int|.mk k _ _ _=>k
def bW:F->Int|.mk _ r _ _=>r
def aH:F->J|.mk _ _ p _=>p
def aO:F->List F|.mk _ _ _ c=>c
end F
structure ba where
 e1:Int
 e2:Int
 e3:Int
 e4:Int
structure aL where
 neg:Bool
 aF:List Int
 e1:Int
 e2:Int
 e3:Int
 e4:Int
structure cd where
 neg:Bool
 num:List Int
 den:List Int
structure Ce where
 abr:Int
 all:List Bool
 bK:List ByteArray
 aQ:F
structure bi where
 aM:Int
 a:J
 b:J
 c:J
 d:J
 g:F
def vu(n:Int):List D:=[.sc (.int .u32 n)]
def cU8(n:Int):List D:=[.sc (.int .u8 n)]
def aqi(n:Int):List D:=[.sc (.int .i64 n)]
def Yo(b:Bool):List D:=[.sc (.bool b)]
def Ys(s:aA):List D:=[.sc (.string s)]
def Yp(x:bk):List D:=[.sc (.bool x.neg),.sl (x.aF.map vu)]
mutual
def mJ:J->List D
 |.mk l n a c=>[.sc (.int .i64 l),.sc (.bool n),.sl (a.map vu),.sl (Fc c)]
def Fc:List J->List (List D)
 |[]=>[]
 |p::b=>mJ p::Fc b
end
theorem Yr:∀l:List J,Fc l=l.map mJ
 |[]=>by simp[Fc]
 |p::a=>by rw[Fc,dc,Yr a]
def l7(p:J):mJ p=[.sc (.int .i64 p.aJ),.sc (.bool p.neg),.sl (p.aF.map vu),.sl (p.aG.map mJ)]:=by cases p;rw[mJ,Yr];rfl
mutual
def nM:F->List D
 |.mk k r p b=>.sc (.int .i64 k)::.sc (.int .i64 r)::(mJ p++[.sl (Fb b)])
def Fb:List F->List (List D)
 |[]=>[]
 |p::a=>nM p::Fb a
end
theorem Yq:∀l:List F,Fb l=l.map nM
 |[]=>by simp[Fb]
 |p::a=>by rw[Fb,dc,Yq a]
def r_(p:F):nM p=[.sc (.int .i64 p.aM),.sc (.int .i64 p.bW),.sc (.int .i64 p.aH.aJ),.sc (.bool p.aH.neg),.sl (p.aH.aF.map vu),.sl (p.aH.aG.map mJ),.sl (p.aO.map nM)]:=by cases p;rw[nM,Yq,l7];rfl
def aqj(x:ba):List D:=[.sc (.int .i64 x.e1),.sc (.int .i64 x.e2),.sc (.int .i64 x.e3),.sc (.int .i64 x.e4)]
def Ar(x:aL):List D:=[.sc (.bool x.neg),.sl (x.aF.map vu),.sc (.int .i64 x.e1),.sc (.int .i64 x.e2),.sc (.int .i64 x.e3),.sc (.int .i64 x.e4)]
def kR(x:cd):List D:=[.sc (.bool x.neg),.sl (x.num.map vu),.sl (x.den.map vu)]
def Cs(x:Ce):List D:=.sc (.int .i64 x.abr)::.sl (x.all.map Yo)::.sl (x.bK.map Ys)::nM x.aQ
def xh(x:bi):List D:=.sc (.int .i64 x.aM)::(mJ x.a++(mJ x.b++(mJ x.c++(mJ x.d++nM x.g))))
inductive W where
 |u32|u8|int|bool|kx|cR|aH|aQ|mono|bt|cU|pre|mO|ee
@[reducible] def mD:W->Type
  |.u32=>Int|.u8=>Int|.int=>Int|.bool=>Bool|.kx=>ByteArray|.cR=>bk|.aH=>J|.aQ=>F|.mono=>ba|.bt=>aL|.cU=>cd|.pre=>Ce|.mO=>List J|.ee=>bi
def Da:W->Nat
 |.u32=>1|.u8=>1|.int=>1|.bool=>1|.kx=>1|.cR=>2|.aH=>4|.aQ=>7|.mono=>4|.bt=>6|.cU=>3|.pre=>10|.mO=>1|.ee=>24
def tz:(k:W)->mD k->List D
 |.u32,x=>vu x|.u8,x=>cU8 x|.int,x=>aqi x|.bool,x=>Yo x|.kx,x=>Ys x|.cR,x=>Yp x|.aH,x=>mJ x|.aQ,x=>nM x|.mono,x=>aqj x|.bt,x=>Ar x|.cU,x=>kR x|.pre,x=>Cs x|.mO,x=>[.sl (x.map mJ)]|.ee,x=>xh x
@[reducible] def S:gw:=⟨W,mD,Da,tz⟩
def sI(n:Int):SD S:=.sc (.int .i64 n)
def cQ:(k:W)->mD k->List (SD S)
 |.u32,x=>[.sc (.int .u32 x)]
 |.u8,x=>[.sc (.int .u8 x)]
 |.int,x=>[.sc (.int .i64 x)]
 |.bool,x=>[.b8 x]
 |.kx,x=>[.sc (.string x)]
 |.cR,x=>[.b8 x.neg,.bf W.u32 x.aF]
 |.aH,x=>[.sc (.int .i64 x.aJ),.b8 x.neg,.bf W.u32 x.aF,.bf W.aH x.aG]
 |.aQ,x=>[.sc (.int .i64 x.aM),.sc (.int .i64 x.bW),.sc (.int .i64 x.aH.aJ),.b8 x.aH.neg,.bf W.u32 x.aH.aF,.bf W.aH x.aH.aG,.bf W.aQ x.aO]
 |.mono,x=>[.sc (.int .i64 x.e1),.sc (.int .i64 x.e2),.sc (.int .i64 x.e3),.sc (.int .i64 x.e4)]
 |.bt,x=>[.b8 x.neg,.bf W.u32 x.aF,.sc (.int .i64 x.e1),.sc (.int .i64 x.e2),.sc (.int .i64 x.e3),.sc (.int .i64 x.e4)]
 |.cU,x=>[.b8 x.neg,.bf W.u32 x.num,.bf W.u32 x.den]
 |.pre,x=>[.sc (.int .i64 x.abr),.bf W.bool x.all,.bf W.kx x.bK,.sc (.int .i64 x.aQ.aM),.sc (.int .i64 x.aQ.bW),.sc (.int .i64 x.aQ.aH.aJ),.b8 x.aQ.aH.neg,.bf W.u32 x.aQ.aH.aF,.bf W.aH x.aQ.aH.aG,.bf W.aQ x.aQ.aO]
 |.mO,x=>[.bf W.aH x]
 |.ee,x=>[.sc (.int .i64 x.aM),.sc (.int .i64 x.a.aJ),.b8 x.a.neg,.bf W.u32 x.a.aF,.bf W.aH x.a.aG,.sc (.int .i64 x.b.aJ),.b8 x.b.neg,.bf W.u32 x.b.aF,.bf W.aH x.b.aG,.sc (.int .i64 x.c.aJ),.b8 x.c.neg,.bf W.u32 x.c.aF,.bf W.aH x.c.aG,.sc (.int .i64 x.d.aJ),.b8 x.d.neg,.bf W.u32 x.d.aF,.bf W.aH x.d.aG,.sc (.int .i64 x.g.aM),.sc (.int .i64 x.g.bW),.sc (.int .i64 x.g.aH.aJ),.b8 x.g.aH.neg,.bf W.u32 x.g.aH.aF,.bf W.aH x.g.aH.aG,.bf W.aQ x.g.aO]
def C_(k:W)(x:mD k):(cQ k x).map SD.den=tz k x:=by
 cases k
 case aH=>exact(l7 x).symm
 case aQ=>exact(r_ x).symm
 case pre=>simp only[tz,Cs];rw[r_];rfl
 case ee=>simp only[tz,xh];rw[r_,l7,l7,l7,l7];rfl
 all_goals rfl
def J6:(k a:W)->List (mD a)->Option (List (mD k))
 |.u32,.u32,l=>some l
 |.u8,.u8,l=>some l
 |.int,.int,l=>some l
 |.bool,.bool,l=>some l
 |.kx,.kx,l=>some l
 |.cR,.cR,l=>some l
 |.aH,.aH,l=>some l
 |.aQ,.aQ,l=>some l
 |.mono,.mono,l=>some l
 |.bt,.bt,l=>some l
 |.cU,.cU,l=>some l
 |.pre,.pre,l=>some l
 |.mO,.mO,l=>some l
 |.ee,.ee,l=>some l
 |_,_,_=>none
def acp(k k':W)(l:List (mD k'))(a:List (mD k))(h:J6 k k' l=some a):l.map (tz k')=a.map (tz k)/\Da k=Da k':=by cases k<;>cases k'<;>simp only[J6,cY,reduceCtorEq]at h<;>(subst h;exact⟨rfl,rfl⟩)
def oQ:SD S->Option Int
 |.sc (.int .i64 n)=>some n
 |_=>none
def T6:SD S->Option Int
 |.sc (.int .u32 n)=>some n
 |_=>none
def T7:SD S->Option Int
 |.sc (.int .u8 n)=>some n
 |_=>none
def zL:SD S->Option Bool
 |.b8 b=>some b
 |.sc (.bool b)=>some b
 |_=>none
def T3:SD S->Option ByteArray
 |.sc (.string s)=>some s
 |_=>none
def ry(k:W):SD S->Option (List (mD k))
 |.bf a l=>J6 k a l
 |.sc (.slice none 0 0)=>some []
 |_=>none
def pH{x:SD S}(h:oQ x=some n):x.den.cH=.sc (.int .i64 n):=by unfold oQ at h;split at h<;>first|injection h with h;subst h;rfl|cases h
def aF_{x:SD S}(h:T6 x=some n):x.den.cH=.sc (.int .u32 n):=by unfold T6 at h;split at h<;>first|injection h with h;subst h;rfl|cases h
def aF9{x:SD S}(h:T7 x=some n):x.den.cH=.sc (.int .u8 n):=by unfold T7 at h;split at h<;>first|injection h with h;subst h;rfl|cases h
def BB{x:SD S}{n:Bool}(h:zL x=some n):x.den.cH=.sc (.bool n):=by unfold zL at h;split at h<;>first|injection h with h;subst h;rfl|cases h
def aF6{x:SD S}{n:aA}(h:T3 x=some n):x.den.cH=.sc (.string n):=by unfold T3 at h;split at h<;>first|injection h with h;subst h;rfl|cases h
def rA{k:W}{x:SD S}{l:List (mD k)}(h:ry k x=some l):x.den.cH=.sl (l.map (tz k)):=by
 unfold ry at h;split at h
 ·have:=(acp _ _ _ _ h).1;exact aY D.sl this
 ·injection h with h;subst h;rfl
 ·cases h
def zq{b:Type}(f:SD S->Option b):List (SD S)->Option b
 |[a]=>f a
 |_=>none
def R_:List (SD S)->Option bk
 |[a,b]=>(match zL a,ry .u32 b with|some x,some y=>some ⟨x,y⟩|_,_=>none)
 |_=>none
def xI:List (SD S)->Option J
 |[a,b,c,d]=>(match oQ a,zL b,ry .u32 c,ry .aH d with|some x,some y,some z,some u=>some (.mk x y z u)|_,_,_,_=>none)
 |_=>none
def GI:List (SD S)->Option F
 |[a,b,c,d,e,f,Z]=>(match oQ a,oQ b,oQ c,zL d,ry .u32 e,ry .aH f,ry .aQ Z with|some a,some b,some c,some d,some e,some f,some Z=>some (.mk a b (.mk c d e f) Z)|_,_,_,_,_,_,_=>none)
 |_=>none
def Sb:List (SD S)->Option ba
 |[a,b,c,d]=>(match oQ a,oQ b,oQ c,oQ d with|some a,some b,some c,some d=>some ⟨a,b,c,d⟩|_,_,_,_=>none)
 |_=>none
def Sf:List (SD S)->Option aL
 |[a,b,c,d,e,f]=>(match zL a,ry .u32 b,oQ c,oQ d,oQ e,oQ f with|some a,some b,some c,some d,some e,some f=>some ⟨a,b,c,d,e,f⟩|_,_,_,_,_,_=>none)
 |_=>none
def Se:List (SD S)->Option cd
 |[a,b,c]=>(match zL a,ry .u32 b,ry .u32 c with|some a,some b,some c=>some ⟨a,b,c⟩|_,_,_=>none)
 |_=>none
def Sc:List (SD S)->Option Ce
 |[p,q,r,a,b,c,d,e,f,Z]=>(match oQ p,ry .bool q,ry .kx r,GI [a,b,c,d,e,f,Z]with
  |some p,some q,some r,some m=>some ⟨p,q,r,m⟩|_,_,_,_=>none)
 |_=>none
def Sd:List (SD S)->Option bi
 |[k,v,u,t,s,r,q,p,o,n,m,c3,c4,d1,d2,d3,d4,l,j,g3,i,h,f,e]=>(match oQ k,xI [v,u,t,s],xI [r,q,p,o],xI [n,m,c3,c4],xI [d1,d2,d3,d4],GI [l,j,g3,i,h,f,e]with
  |some k,some a,some b,some c,some d,some Z=>some ⟨k,a,b,c,d,Z⟩|_,_,_,_,_,_=>none)
 |_=>none
def acr:(k:W)->List (SD S)->Option (mD k)
 |.u32,l=>zq T6 l|.u8,l=>zq T7 l|.int,l=>zq oQ l|.bool,l=>zq zL l|.kx,l=>zq T3 l|.cR,l=>R_ l|.aH,l=>xI l|.aQ,l=>GI l|.mono,l=>Sb l|.bt,l=>Sf l|.cU,l=>Se l|.pre,l=>Sc l|.mO,l=>zq (ry .aH) l|.ee,l=>Sd l
def Dp{b:Type}{f:SD S->Option b}{g:b->D}(d:∀a x,f a=some x->a.den.cH=g x)(c:List (SD S))(x:b)(h:zq f c=some x):c.map (λy=>y.den.cH)=[g x]:=by
 unfold zq at h;split at h
 ·simp[d _ _ h]
 ·cases h
def Sa(a:List (SD S))(x:F)(h:GI a=some x):a.map (λy=>y.den.cH)=nM x:=by
 unfold GI at h;split at h
 ·split at h
  ·rename_i j i f e d c b;injection h with h;subst h;simp only[dc,gL,pH j,pH i,pH f,BB e,rA d,rA c,rA b];exact(r_ (.mk _ _ (.mk _ _ _ _) _)).symm
  ·cases h
 ·cases h
def Lk(a:List (SD S))(x:J)(h:xI a=some x):a.map (λy=>y.den.cH)=mJ x:=by
 unfold xI at h;split at h
 ·split at h
  ·rename_i e d c b;injection h with h;subst h;simp only[dc,gL,pH e,BB d,rA c,rA b];exact(l7 (.mk _ _ _ _)).symm
  ·cases h
 ·cases h
def aBr(a:List (SD S))(x:bi)(h:Sd a=some x):a.map (λy=>y.den.cH)=xh x:=by
 unfold Sd at h;split at h
 ·split at h
  ·rename_i i f e d c b;injection h with h;subst h
   have n:=Lk _ _ f;have m:=Lk _ _ e;have l:=Lk _ _ d;have k:=Lk _ _ c;have j:=Sa _ _ b;unfold xh;rw[<-n,<-m,<-l,<-k,<-j];simp only[dc,gL,pH i,ei,gi]
  ·cases h
 ·cases h
def awP(k:W)(a:List (SD S))(x:mD k)(h:acr k a=some x):a.map (λy=>y.den.cH)=tz k x:=by
 cases k with
 |u32=>exact Dp (g:=λn=>.sc (.int .u32 n)) (λ_ _ h=>aF_ h) a x h
 |u8=>exact Dp (g:=λn=>.sc (.int .u8 n)) (λ_ _ h=>aF9 h) a x h
 |int=>exact Dp (g:=λn=>.sc (.int .i64 n)) (λ_ _ h=>pH h) a x h
 |bool=>exact Dp (g:=λn=>.sc (.bool n)) (λ_ _ h=>BB h) a x h
 |kx=>exact Dp (g:=λn=>.sc (.string n)) (λ_ _ h=>aF6 h) a x h
 |cR=>
  change R_ a=some x at h;unfold R_ at h;split at h
  ·split at h
   ·rename_i c b;injection h with h;subst h;simp only[dc,gL,BB c,rA b];rfl
   ·cases h
  ·cases h
 |aH=>
  change xI a=some x at h;unfold xI at h;split at h
  ·split at h
   ·rename_i c b d e;injection h with h;subst h;simp only[dc,gL,pH c,BB b,rA d,rA e];exact(l7 (.mk _ _ _ _)).symm
   ·cases h
  ·cases h
 |aQ=>exact Sa a x h
 |mono=>
  change Sb a=some x at h;unfold Sb at h;split at h
  ·split at h
   ·rename_i c b d e;injection h with h;subst h;simp only[dc,gL,pH c,pH b,pH d,pH e];rfl
   ·cases h
  ·cases h
 |bt=>
  change Sf a=some x at h;unfold Sf at h;split at h
  ·split at h
   ·rename_i c b d e i f;injection h with h;subst h;simp only[dc,gL,BB c,rA b,pH d,pH e,pH i,pH f];rfl
   ·cases h
  ·cases h
 |cU=>
  change Se a=some x at h;unfold Se at h;split at h
  ·split at h
   ·rename_i c b d;injection h with h;subst h;simp only[dc,gL,BB c,rA b,rA d];rfl
   ·cases h
  ·cases h
 |pre=>
  change Sc a=some x at h;unfold Sc at h;split at h
  ·split at h
   ·rename_i c b d e;injection h with h;subst h
    have:=Sa _ _ e;simp only[dc,gL,pH c,rA b,rA d,tz,Cs]at this⊢;rw[<-this];rfl
   ·cases h
  ·cases h
 |mO=>exact Dp (g:=λn=>.sl (List.map mJ n)) (λ_ _ h=>rA h) a x h
 |ee=>exact aBr a x h
def Kk:List (Nat×W)->Nat->Option W
 |[],_=>none
 |(j,k)::r,t=>match Nat.beq j t with|true=>some k|false=>Kk r t
theorem ac3:∀{l:List (Nat×W)} {t:Nat} {k:W},Kk l t=some k->(t,k)∈l
 |[],_,_,h=>by cases h
 |(j,a)::r,t,k,h=>by
  simp only[Kk]at h;split at h
  ·rename_i e;injection h with h;subst h;rw[cO e];simp
  ·exact cE _ (ac3 h)
def Qu:List (Nat×W):=[(168,.u32),(3,.int),(29,.aH),(26,.cR),(32,.aQ),(171,.bt),(165,.mono),(4,.bool),(9,.kx),(2,.int),(34,.cU),(50,.pre),(5,.u8),(146,.ee)]
def acq(t:TypeId):Option W:=Kk Qu t
def awL:∀p∈Qu,fb prog p.1=some (Da p.2):=by unfold Qu;simp only[List.forall_mem_cons];exact⟨af,af,af,af,af,af,af,af,af,af,af,af,af,af,λ_ h=>by simp at h⟩
def awO(t:TypeId)(k:W)(h:acq t=some k):fb prog t=some (Da k):=awL (t,k) (ac3 h)
def awM(k:W)(x:mD k):(tz k x).length=Da k:=by
 cases k
 case aH=>have e:=l7 x;show(mJ x).length=4;rw[e];rfl
 case aQ=>have e:=r_ x;show(nM x).length=7;rw[e];rfl
 case pre=>have e:=r_ (Ce.aQ x);show(nM (Ce.aQ x)).length+1+1+1=10;rw[e];rfl
 case ee=>show(xh x).length=24;unfold xh;rw[r_,l7,l7,l7,l7];rfl
 all_goals rfl
def awN(k:W)(x:mD k):(tz k x).map D.cH=tz k x:=by
 cases k
 case aH=>have e:=l7 x;show(mJ x).map D.cH=mJ x;rw[e];rfl
 case aQ=>have e:=r_ x;show(nM x).map D.cH=nM x;rw[e];rfl
 case pre=>have e:=r_ (Ce.aQ x);show(Cs x).map D.cH=Cs x;unfold Cs;rw[e];rfl
 case ee=>show(xh x).map D.cH=xh x;unfold xh;rw[r_,l7,l7,l7,l7];rfl
 all_goals rfl
def Kz:MI:=⟨165,3,.pY 4 .i64,.int .i64 0⟩
def ax5:vn prog 251 Kz:=⟨af,af,af,rfl⟩
def QV:MI:=⟨9,4,.kx,.bool false⟩
def ax6:vn prog 192 QV:=⟨af,af,af,rfl⟩
def Q0(t:TypeId):Option MI:=match Nat.beq t 251 with|true=>some Kz|false=>(match Nat.beq t 192 with|true=>some QV|false=>none)
def ayj(t:TypeId)(m:MI)(h:Q0 t=some m):vn prog t m:=by
 unfold Q0 at h;split at h
 ·rename_i e;injection h with h;subst h;rw[cO e];exact ax5
 ·split at h
  ·rename_i e;injection h with h;subst h;rw[cO e];exact ax6
  ·cases h
def aqD(t:TypeId):Option W:=match Nat.beq t 27 with|true=>some .mO|false=>none
def Vw:bU prog S where
 row:=cQ
 GY:=C_
 len:=awM
 Lo k:=by cases k<;>decide
 aM:=acq
 GC:=acr
 Lj:=awP
 cast:=J6
 sa:=acp
 ty:=ai3
 gg:=aGj
 za:=awO
 fC:=awN
 wr:=false
 Gl:=Q0
 KL:=ayj
 Cv:=aqD
abbrev bh(f:FuncId)(args:List (SE S))(r:ST S):Prop:=li prog f (args.map SE.den) r.den
def vG{fn:Func}(d:Tryz.prog.funcs[f]?=some fn)(e:fn.body=some c)(b:jT prog S)(i:List (Nat×mE S)){args:List (SE S)}{r:ST S}
 (h:Uu Vw b i fn.ntmps fn.results.toList c args r)(a:(fn.name== "runtime.NumGoroutine")=false:=by kernel_rfl)(j:args.length<=fn.ntmps:=by exact ic rfl)(k:∀s,¬r.den.bK s:=by exact K0 rfl):bh f args r:=
 aji mixed d e a j k h
def vF{fn:Func}(b:Tryz.prog.funcs[f]?=some fn)(d:fn.body=some c)(e:List (Ct prog S))(i:List (Nat×mE S)){args:List (SE S)}{r:ST S}
 (h:Uu Vw ⟨e,[]⟩ i fn.ntmps fn.results.toList c args r)(a:(fn.name== "runtime.NumGoroutine")=false:=by kernel_rfl)(j:args.length<=fn.ntmps:=by exact ic rfl)(k:∀s,¬r.den.bK s:=by exact K0 rfl):bh f args r:=
 aji mixed b d a j k h
def vO{fn:Func}(j:Tryz.prog.funcs[f]?=some fn)(k:fn.body=some c)(i:jT prog S)(l:List (Nat×mE S))(aN:au)(τ:SS S){H b:List (Nat×aV S)}{args:List (SE S)}{r:ST S}
 (h:vcO Vw aN i l fn.ntmps c H args τ)(a:(fn.name== "runtime.NumGoroutine")=false:=by kernel_rfl)(m:args.length<=fn.ntmps:=by exact ic rfl)(n:r.db.all (kh b)=true:=by rfl)(o:IZ b=true:=by rfl)(p:aN.all (kh b)=true:=by rfl)(d:zy Vw τ fn.results.toList=some r:=by rfl)(e:Md b τ.heap:=by exact λ_ _ h=>h):cN prog f (bJ (bP H)) (args.map SE.den) (bJ (bP b)) (·∈aN) r.den:=
 DY mixed j k a m n o p d e h
abbrev wE(k:W)(x:mD k):SE S:=iY Vw (.el k) x
abbrev wL(k:W)(x:List (mD k)):SE S:=iY Vw (.ls k) x
abbrev wI(k:IntKind)(x:Int):SE S:=iY Vw (.int k) x
abbrev wB(x:Bool):SE S:=iY Vw .bool x
abbrev bQ(s:Nat):ST S:=.e (.c (.ptr s 0))
abbrev fv:SV S:=.d (.sc (.slice none 0 0))
abbrev iG:SV S:=.d (.sc (.bool false))
abbrev cw(n:Int):SV S:=.d (.sc (.int .i64 n))
abbrev dh(k:W)(x:mD k):aV S:=.cells ((cQ k x).map .d)
def dR{f:FuncId}(p:qG S){Pre:p.T->Prop}{R:p.T->ST S}(h:∀x,Pre x->bh f [iY Vw p x] (R x)):Ct prog S:=uz Vw f p Pre R h
def eO{f:FuncId}(p q:qG S){Pre:p.T->q.T->Prop}{R:p.T->q.T->ST S}(h:∀x y,Pre x y->bh f [iY Vw p x,iY Vw q y] (R x y)):Ct prog S:=qO Vw f p q Pre R h
def vb{f:FuncId}(p q r:qG S){Pre:p.T->q.T->r.T->Prop}{R:p.T->q.T->r.T->ST S}(h:∀x y z,Pre x y z->bh f [iY Vw p x,iY Vw q y,iY Vw r z] (R x y z)):Ct prog S:=CA Vw f p q r Pre R h
def MA{f:FuncId}(p q r s:qG S){Pre:p.T->q.T->r.T->s.T->Prop}{R:p.T->q.T->r.T->s.T->ST S}(h:∀x y z u,Pre x y z u->bh f [iY Vw p x,iY Vw q y,iY Vw r z,iY Vw s u] (R x y z u)):Ct prog S:=Zk Vw f p q r s Pre R h
