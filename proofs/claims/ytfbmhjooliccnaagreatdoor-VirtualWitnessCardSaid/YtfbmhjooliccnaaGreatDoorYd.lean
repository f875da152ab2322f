/- Part of VirtualWitness. No condition. -/
import Derived.Test.YtfbmhjooliccnaaGreatDoorYc
set_option linter.all false
set_option maxRecDepth 100000
set_option maxHeartbeats 60000000
noncomputable section
namespace Go.Ab
open Go Go.RowKit
variable {i j:Nat}
structure gw where
 K:Type
 El:K->Type
 w:K->Nat
 dt:(k:K)->El k->List D
inductive SD(U:gw)where
 |sc (v:Value)
 |b8 (b:Bool)
 |bf (k:U.K) (l:List (U.El k))
inductive SV(U:gw)where
 |d (x:SD U)
 |ptr (s off:Nat)
 |jN (s:Nat) (k:U.K) (i j:Nat)
 |sub (s:Nat) (k:U.K) (off len:Nat)
 |aW (s:Nat) (k:U.K) (len:Nat)
 |gT (cs:List (SD U))
 |cr (f:Nat) (caps:List (Nat×Nat))
 |mp (s:Nat)
 |ty (s t:Nat) (sl:Nat ⊕ Nat)
 |any
inductive SE(U:gw)where
 |c (v:SV U)
 |agg (vs:List (SV U))
inductive ST(U:gw)where
 |e (x:SE U)
 |cn (xs:List (SE U))
 |any
inductive aV(U:gw)where
 |cells (cs:List (SV U))
 |aU (k:U.K) (l:List (U.El k))
 |lr (es:List (Value×Value))
 |hI (vs:av) (i:Nat) (v:SV U)
section
variable {U:gw}
def SD.den:SD U->D
 |.sc v=>.sc v
 |.b8 b=>.sc (.bool b)
 |.bf k l=>.sl (l.map (U.dt k))
def SV.den:SV U->V
 |.d x=>.d x.den
 |.ptr s a=>.ptr s a
 |.jN s k i j=>.ptr s (i*U.w k+j)
 |.sub s k a b=>.sub s (U.w k) (a*U.w k) b
 |.aW s k b=>.sub s (U.w k) 0 b
 |.gT h=>.gT (h.map SD.den)
 |.cr f c=>.cr f c
 |.mp s=>.mp s
 |.ty s t e=>.ty s t e
 |.any=>.any
def SE.den:SE U->E
 |.c v=>.c v.den
 |.agg a=>.agg (a.map SV.den)
def ST.den:ST U->T
 |.e x=>.e x.den
 |.cn a=>.cn (a.map SE.den)
 |.any=>.any
def bx(k:U.K)(l:List (U.El k)):List D:=(l.map (U.dt k)).flatten
def aV.den:aV U->List V
 |.cells c=>c.map SV.den
 |.aU k l=>(bx k l).map .d
 |.lr b=>[.dV b]
 |.hI a i v=>(a.map λx=>V.d (.sc x)).set i v.den
def gE:List (Nat×ST U)->Nat->ST U
 |[],_=>.any
 |(j,t)::r,i=>match Nat.beq i j with|true=>t|false=>gE r i
def bX:List (Nat×aV U)->Nat->Option (aV U)
 |[],_=>none
 |(j,t)::r,i=>match Nat.beq i j with|true=>some t|false=>bX r i
def sG:List (Nat×aV U)->Nat->aV U->List (Nat×aV U)
 |[],_,_=>[]
 |(j,t)::r,i,b=>match Nat.beq i j with|true=>(j,b)::r|false=>(j,t)::sG r i b
structure SS(U:gw)where
 aT:List (Nat×ST U)
 heap:List (Nat×aV U)
 bV:Nat
def jk(l:List (Nat×ST U)):List (Nat×T):=l.map λp=>(p.1,p.2.den)
def bP(l:List (Nat×aV U)):List (Nat×List V):=l.map λp=>(p.1,p.2.den)
def SS.st(a:SS U):St:=⟨Ab.mk (jk a.aT),bJ (bP a.heap)⟩
def cO(h:Nat.beq i j=true):i=j:=H3 h
def p9(h:Nat.beq i j=false):i≠j:=Nat.ne_of_beq_eq_false h
theorem vW:∀(l:List (Nat×ST U)) (i:Nat),mk (jk l) i=(gE l i).den
 |[],_=>rfl
 |(j,t)::r,i=>by
  simp only[jk,dc,mk,gE];cases h:Nat.beq i j with
  |true=>rw[aK (cO h)]
  |false=>rw[g (p9 h)];exact vW r i
theorem gz:∀(l:List (Nat×aV U)) (i:Nat),bJ (bP l) i=(bX l i).map aV.den
 |[],_=>rfl
 |(j,t)::r,i=>by
  simp only[bP,dc,bJ,bX];cases h:Nat.beq i j with
  |true=>rw[aK (cO h)];rfl
  |false=>rw[g (p9 h)];exact gz r i
theorem J1:∀(l:List (Nat×aV U)) (s:Nat) (b c:aV U) (i:Nat),bX l s=some c->bX (sG l s b) i=if i=s then some b else bX l i
 |[],_,_,_,_,h=>by cases h
 |(j,t)::r,s,b,c,i,h=>by
  simp only[bX]at h;cases Y:Nat.beq s j with
  |true=>
   simp only[sG,Y,bX];cases a:Nat.beq i j with
   |true=>rw[aK ((cO a).trans (cO Y).symm)]
   |false=>rw[g (λe=>p9 a (e.trans (cO Y)))]
  |false=>
   rw[Y]at h;simp only[sG,Y,bX];cases a:Nat.beq i j with
   |true=>rw[g (λe=>p9 Y (e.symm.trans (cO a)))]
   |false=>exact J1 r s b c i h
def pG(a:SS U)(i:Nat):a.st.aT i=(gE a.aT i).den:=vW _ _
def fZ(a:SS U)(s:Nat):a.st.heap s=(bX a.heap s).map aV.den:=gz _ _
def aeB:Value->ST U
 |.agg a=>if a.toList.all (λv=>v.oneCell')then .e (.agg (a.toList.map λv=>.d (.sc v)))else .any
 |.tuple _=>.any
 |v=>.e (.c (.d (.sc v)))
def SS.ev(a:SS U):Operand->ST U
 |.tmp t=>gE a.aT t
 |.const v=>aeB v
 |.func f=>.e (.c (.cr f []))
 |_=>.any
def c8(a:SS U)(x:ax):a.st.ev x=(a.ev x).den:=by
 cases x with
 |tmp t=>exact pG a t
 |const v=>
  cases v
  case agg b=>
   simp only[St.ev,SS.ev,Le,aeB];split
   ·simp[ST.den,SE.den,SV.den,SD.den]
   ·rfl
  all_goals rfl
 |func f=>rfl
 |global Z=>rfl
structure TI where
 sz:Nat
 dT:Nat
 ag:Bool
 AV:List (Nat×TypeId)
 sl:Option TypeId
 ar:Option (Nat×TypeId)
 ik:Option IntKind
 st:Bool
 bo:Bool
 zs:Option (List Value)
 pl:Option (List (Nat×Nat))
 Q1:Option (TypeId×TypeId)
def aiK(P:ay)(t:TypeId):Option (TypeId×TypeId):=match P.underlying t with|some (.map k e)=>some (k,e)|_=>none
structure yI(P:ay)(t:TypeId)(i:TI):Prop where
 sz:fb P t=some i.sz
 dT:oc P t=some i.dT
 ag:Hc P t=some i.ag
 AV:∀f p,i.AV[f]?=some p->wq P t f=some p
 sl:jF P t=i.sl
 ar:wo P t=i.ar
 ik:zJ P t=i.ik
 st:rB P t=i.st
 bo:Bz P t=i.bo
 zs:∀zs,i.zs=some zs->jZ P t=some (zs.map λv=>.d (.sc v))
 zl:∀zs,i.zs=some zs->zs.length=i.sz
 pl:∀ps,i.pl=some ps->He P t=some ps
 Q1:aiK P t=i.Q1
structure bU(P:ay)(U:gw)where
 row:(k:U.K)->U.El k->List (SD U)
 GY:∀k x,(row k x).map SD.den=U.dt k x
 len:∀k x,(U.dt k x).length=U.w k
 Lo:∀k,0<U.w k
 aM:TypeId->Option U.K
 GC:(k:U.K)->List (SD U)->Option (U.El k)
 Lj:∀k cs x,GC k cs=some x->cs.map (λy=>y.den.cH)=U.dt k x
 cast:(k k':U.K)->List (U.El k')->Option (List (U.El k))
 sa:∀k k' l l',cast k k' l=some l'->l.map (U.dt k')=l'.map (U.dt k)/\U.w k=U.w k'
 ty:TypeId->Option TI
 gg:∀t i,ty t=some i->yI P t i
 za:∀t k,aM t=some k->fb P t=some (U.w k)
 fC:∀k x,(U.dt k x).map D.cH=U.dt k x
 wr:Bool
 Gl:TypeId->Option MI
 KL:∀t m,Gl t=some m->vn P t m
 Cv:TypeId->Option U.K
end
