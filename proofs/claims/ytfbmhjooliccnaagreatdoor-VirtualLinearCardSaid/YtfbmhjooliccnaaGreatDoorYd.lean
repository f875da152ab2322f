/- A part of the proof of VirtualLinear: Ex1 to Sy24. No condition. -/
import Derived.Test.YtfbmhjooliccnaaGreatDoorYc
import Derived.Scope
import Derived.Lib.Builder
import Derived.Laws.Externs
set_option linter.all false
set_option maxRecDepth 100000
set_option maxHeartbeats 60000000
noncomputable section
namespace Go.Ab
open Go Go.RowKit
variable {n s:Nat}{M:Nat→Prop}{t e:TypeId}{P:ax}{x y:aw}{o:Oper}{X:St}{U:au}{v u:Value}{i:Int}{b:Bool}{R:Prop}{Q:aq}{g:FuncId}{N:Array Operand}{L:Array TypeId}{r:Option Int}{k:IntKind}{K:BinOp}{w:World}{H:G}
inductive Tr(α:Type)where
 |lf
 |nd (v:Option α) (l r:Tr α)
structure CS where
 aV:Tr T
 heap:List (Nat×List V)
 bZ:Nat
 mv:List Nat
 wl:List Nat
section
variable (P:ax)(n:Nat)(ops:av)(o:Oper)(c:CS)
def V.dd:V->List Nat
 |.ptr s _=>[s]
 |.sub s _ _ _=>[s]
 |.db _ a=>a.map (·.1)
 |.mp s=>[s]
 |.ty s _ _=>[s]
 |_=>[]
def E.dd:E->List Nat
 |.c v=>v.dd
 |.agg a=>a.flatMap V.dd
def T.dd:T->List Nat
 |.e x=>x.dd
 |.cE a=>a.flatMap E.dd
 |.any=>[]
end
section
variable {P:ax}{n:Nat}{ops:av}{o:Oper}{c c':CS}{f:Ft}
def V.oz{x:V}(h:x.bx s):s∈x.dd:=by
 cases x with
 |ptr t o=>cases h;simp[V.dd]
 |sub t k o l=>cases h;simp[V.dd]
 |db g a=>obtain⟨p,b,rfl⟩:=h;exact b_.2 ⟨p,b,rfl⟩
 |mp t=>cases h;simp[V.dd]
 |ty t _ _=>cases h;simp[V.dd]
 |eY e=>cases h
 |d x=>cases h
 |gU i=>cases h
 |any=>cases h
theorem E.oz{x:E}{s:Nat}(h:x.bx s):s∈x.dd:=by
 cases x with
 |c v=>exact V.oz h
 |agg b=>obtain⟨v,a,h⟩:=h;exact kV.2 ⟨v,a,V.oz h⟩
theorem T.oz{x:T}{s:Nat}(h:x.bx s):s∈x.dd:=by
 cases x with
 |e v=>exact E.oz h
 |cE b=>obtain⟨v,a,h⟩:=h;exact kV.2 ⟨v,a,E.oz h⟩
 |any=>cases h
end
section
variable {P:ax}{n:Nat}{ops:av}{o:Oper}{c c':CS}{f:Ft}
def dA.gL{P:ax}{f:FuncId}{H d:fF}{args:List E}{aU stay':ap}{r:T}(h:dA P f H args d aU r)(I:∀u,stay' u->aU u):dA P f H args d stay' r:=by refine⟨h.1,λM g w a i j=>(h.2 M g w a i j).mono λe y k=>?_⟩;obtain⟨v,b,l,m,p,q,t,x⟩:=k;exact⟨v,b,l,m,p,q,t,λs h=>x s (I s h)⟩
end
def anw{ev:Operand->T}(t:TypeId)(len:Nat)(parts:Array (Nat×Operand))(p:o.op=.buildSlice t len parts)(d:Nat)(e:TypeId)(k:Nat)(G:List V)(l:List (List D))
 (L:jA P t=some e)(N:fg P e=some k)(hz:jQ P e=some G)(q:G.length=k)(R:parts.size=len)(m:len*k<=16777216)(r:0<k)(hr:uG k ev 0 parts.toList=some l):
 tS P o ev d (l.flatten.map .d) (.e (.c (.sub d k 0 len))):=by
 intro M γ H w a hm h K Q hK;obtain⟨z0,s,u,ha⟩:=Eg hz;obtain⟨z,y,A⟩:=HM s w;have g:z0.length=k:=by rw[<-q,u];simp
 have B:z.cells=z0.toArray:=by rw[<-A]
 have i:parts.toList.length=len:=an R;obtain⟨h1,h2,n,U,X,h5⟩:=Rc (w:=w) (M:=M) (γ:=γ) (ev:=ev) (a:=a) k parts.toList 0 l [] ((List.replicate len z0).flatten) (λx hx=>h x (by simpa[p,Op.operands]using hx)) hr ai (by simp[i,g]);have j:l.length=len:=by rw[h2,i]
 have b:(Array.range (len*k)).map ((if len*k=0 then(#[]:Array Value)else z.cells)[· %(if len*k=0 then(#[]:Array Value)else z.cells).size]!)=((List.replicate len z0).flatten).toArray:=by
  apply mQ;rw[<-Td z0 len,g];by_cases f:len*k=0
  ·simp[f]
  ·rw[Z f,B]
 refine mn (v:=.slice (some ⟨w.heap.size,0,none⟩) len len) (w':=w.alloc (.cells n.toArray e)) ?_ (hK _ _ w.heap.size e n [] (q7 _ _) (bK _) ?_ h5 ?_)
 ·have C:¬(16777216<len*k):=by omega
  simp only[gf]at X;by_cases f:len*k=0
  ·have E:len=0:=by rcases Nat.mul_eq_zero.1 f with h|h<;>omega
   subst E;obtain rfl:parts=#[]:=Array.size_eq_zero_iff.1 R;have hu:n=[]:=by have:=h2;rw[mW]at this;exact fR (by rw[U,j,IS])
   subst hu;simp[Instr.fill,execOp,p,Instr.buildSlice,run_underlying (tK L),nA N,newRow,show(Array.range 0)=#[]from by simp]
  ·rw[Z f]at b;simp[execOp,p,Instr.buildSlice,run_underlying (tK L),nA N,C,f,y,b,X,newRow]
 ·rw[ou];simp
 ·refine .inl ⟨w.heap.size,len,n.toArray,e,by simp[dZ],rfl,bK _,by simp only[maxLen];have:=Nat.le_mul_of_pos_right len r;omega,ou _ _,?_⟩;simp[U,j]
theorem WP.scope{P:ax}{n:Nat}{aU:ap}{g:St}{Q:nF}{c:Code}(h:WP P n aU c g Q):WP P n aU (.scope c) g Q:=by
 intro C i I a w R;refine wp_scope_straight (wp_mono (h C i I a w R) λe o k ⟨b,f,d⟩=>?_);cases e with
 |normal=>exact⟨b,f,d⟩
 |exit j=>exact⟨b,f,d⟩
 |ret=>exact⟨b,f,d⟩
 |goto l=>cases d
 |panic m=>cases d
 |outgrown=>cases d
def HK(P:ax)(t:TypeId):Option TypeId:=match P.underlying t with|some (.pointer e)=>some e|_=>none
def aIP(h:HK P t=some e):P.underlying t=some (.pointer e):=by unfold HK at h;split at h<;>simp_all
def L8:T->T->Option Bool
 |.e (.c (.ptr s o)),.e (.c (.ptr a b))=>if s=a/\o=b then some true else none
 |.e (.c (.ptr _ _)),.e (.c (.d (.sc (.pointer none))))=>some false
 |.e (.c (.d (.sc (.pointer none)))),.e (.c (.ptr _ _))=>some false
 |.e (.c (.d (.sc (.pointer none)))),.e (.c (.d (.sc (.pointer none))))=>some true
 |_,_=>none
def aEV{j:TypeInfo}(l:HK P t=some e)(m:P.info? e=some j){x y:T}(h:L8 x y=some b)(a:cr w M H x u)(c:cr w M H y v):
 (∃p q,u=.pointer p/\v=.pointer q)/\(Op.equal t u v).run P w=.ok b w:=by
 have i:=aIP l;unfold L8 at h;split at h
 ·rename_i s o r z;split at h
  ·rename_i n;obtain⟨rfl,rfl⟩:=n;injection h with h;subst h
   obtain⟨f,k,rfl⟩:=a;obtain⟨A,g,rfl⟩:=c;rw[k]at g;injection g with g;injection g with g;subst g
   refine⟨⟨_,_,rfl,rfl⟩,?_⟩;have h:∀d:Nat,(Op.equalIn (d+1) t (.pointer (some ⟨f,o,none⟩)) (.pointer (some ⟨f,o,none⟩))).run P w=.ok true w:=λd=>by simp[Op.equalIn,run_underlying i,sizeOf,typeInfo,m,run_sameAddr_same]
   exact h 9999
  ·cases h
 ·injection h with h;subst h
  obtain⟨f,k,rfl⟩:=a;have c:=iw c;subst c;refine⟨⟨_,_,rfl,rfl⟩,?_⟩;rename_i s o;have h:∀d:Nat,(Op.equalIn (d+1) t (.pointer (some ⟨f,o,none⟩)) (.pointer none)).run P w=.ok false w:=λd=>by simp[Op.equalIn,run_underlying i]
  exact h 9999
 ·injection h with h;subst h
  obtain⟨f,k,rfl⟩:=c;have a:=iw a;subst a;refine⟨⟨_,_,rfl,rfl⟩,?_⟩;rename_i s o;have h:∀d:Nat,(Op.equalIn (d+1) t (.pointer none) (.pointer (some ⟨f,o,none⟩))).run P w=.ok false w:=λd=>by simp[Op.equalIn,run_underlying i]
  exact h 9999
 ·injection h with h;subst h
  have a:=iw a;have c:=iw c;subst a;subst c;refine⟨⟨_,_,rfl,rfl⟩,?_⟩;have h:∀d:Nat,(Op.equalIn (d+1) t (.pointer none) (.pointer none)).run P w=.ok true w:=λd=>by simp[Op.equalIn,run_underlying i]
  exact h 9999
 ·cases h
def afN{g:Operand->T}(t:TypeId)(x y:aw)(s:TypeId)(i:Bool)(f:o.op=.binOp (if i then .neq else .eql) t x y s)(n:TypeId)(j:TypeInfo)(u:HK P t=some n)(v:P.info? n=some j)(b:Bool)(h:L8 (g x) (g y)=some b):
 iq P o g (.e (.c (.d (.sc (.bool (b !=i)))))):=
 kv λM B H w a _ r=>by
  have z:=r x (by simp[f,Op.operands]);have A:=r y (by simp[f,Op.operands]);obtain⟨⟨p,q,k,l⟩,m⟩:=aEV u v h z A;refine⟨_,?_,.sc _ rfl⟩;rw[k,l]at m;cases i
  ·simp[execOp,f,k,l,eqGuard,binOp,m]
  ·simp[execOp,f,k,l,eqGuard,binOp,m]
def d_.JM{aU:ap}{cs cs':List V}(I:X.heap s=some cs)(f:lU cs cs'):d_ n aU X ⟨X.aV,cZ X.heap s (some cs')⟩:=by
 intro C q l a w ⟨k,R⟩;refine⟨k,⟨R.mem.iF,R.mem.inj,R.mem.nm,λu d=>?_,λu c d=>?_,R.mem.jO⟩,R.aV,R.aN,R.aX,R.aU,R.defers,R.size⟩
 ·simp only[cZ]at d;split at d
  ·cases d
  ·exact R.mem.ic u d
 ·simp only[cZ]at d;split at d
  ·rename_i e;subst e;injection d with d;subst d
   rcases R.mem.gR u cs I with⟨b,t,m,o,g,h,i⟩|⟨g,h⟩|⟨b,p,j,g,h,i⟩
   rotate_left 2
   ·exact .inr (.inr ⟨b,p,j,g,h,f.2 _ i⟩)
   ·exact .inl ⟨b,t,m,o,g,h,f.1 _ _ _ _ i⟩
   ·refine .inr (.inl ⟨g,?_⟩);subst h;have:=(f.1 w C.M k [] bW.nil).1;exact fR (an this)
  ·exact R.mem.gR u c d
inductive pW where
 |f_
 |ext (i:Nat)
 |ret
def nF.out(Q:nF):pW->St->Prop
 |.f_=>Q.f_
 |.ext i=>Q.ext i
 |.ret=>Q.ret
def WP.post{aU:ap}{c:Code}{Q Q':nF}(h:WP P n aU c X Q)(p:∀X,Q.f_ X->∃b,d_ n aU X b/\Q'.f_ b)(q:∀i X,Q.ext i X->∃b,d_ n aU X b/\Q'.ext i b)(r:∀X,Q.ret X->∃b,d_ n aU X b/\Q'.ret b):WP P n aU c X Q':=by
 intro C j I a w R;refine wp_mono (h C j I a w R) λe k m ⟨f,o,d⟩=>?_
 cases e with
 |normal=>obtain⟨b,g,d⟩:=p f d;exact⟨b,g C j I k m o,d⟩
 |exit i=>obtain⟨b,g,d⟩:=q i f d;exact⟨b,g C j I k m o,d⟩
 |ret=>obtain⟨b,g,d⟩:=r f d;exact⟨b,g C j I k m o,d⟩
 |goto l=>cases d
 |panic s=>cases d
 |outgrown=>cases d
structure gD where
 K:Type
 El:K->Type
 w:K->Nat
 dh:(k:K)->El k->List D
inductive SD(U:gD)where
 |sc (v:Value)
 |cK (b:Bool)
 |bN (k:U.K) (l:List (U.El k))
inductive SV(U:gD)where
 |d (x:SD U)
 |ptr (s off:Nat)
 |jF (s:Nat) (k:U.K) (i j:Nat)
 |sub (s:Nat) (k:U.K) (off len:Nat)
 |aX (s:Nat) (k:U.K) (len:Nat)
 |gU (cs:List (SD U))
 |db (f:Nat) (caps:List (Nat×Nat))
 |mp (s:Nat)
 |ty (s t:Nat) (sl:Nat ⊕ Nat)
 |any
inductive SE(U:gD)where
 |c (v:SV U)
 |agg (vs:List (SV U))
inductive ST(U:gD)where
 |e (x:SE U)
 |cE (xs:List (SE U))
 |any
inductive aZ(U:gD)where
 |cells (cs:List (SV U))
 |aW (k:U.K) (l:List (U.El k))
 |lc (es:List (Value×Value))
 |hY (vs:au) (i:Nat) (v:SV U)
section
variable {U:gD}
def SD.aI:SD U->D
 |.sc v=>.sc v
 |.cK b=>.sc (.bool b)
 |.bN k l=>.sl (l.map (U.dh k))
def SV.aI:SV U->V
 |.d x=>.d x.aI
 |.ptr s a=>.ptr s a
 |.jF s k i j=>.ptr s (i*U.w k+j)
 |.sub s k a b=>.sub s (U.w k) (a*U.w k) b
 |.aX s k b=>.sub s (U.w k) 0 b
 |.gU g=>.gU (g.map SD.aI)
 |.db f c=>.db f c
 |.mp s=>.mp s
 |.ty s t e=>.ty s t e
 |.any=>.any
def SE.aI:SE U->E
 |.c v=>.c v.aI
 |.agg a=>.agg (a.map SV.aI)
def ST.aI:ST U->T
 |.e x=>.e x.aI
 |.cE a=>.cE (a.map SE.aI)
 |.any=>.any
def bG(k:U.K)(l:List (U.El k)):List D:=(l.map (U.dh k)).flatten
def aZ.aI:aZ U->List V
 |.cells c=>c.map SV.aI
 |.aW k l=>(bG k l).map .d
 |.lc b=>[.eY b]
 |.hY a i v=>(a.map λx=>V.d (.sc x)).set i v.aI
def gG:List (Nat×ST U)->Nat->ST U
 |[],_=>.any
 |(j,t)::r,i=>match Nat.beq i j with|true=>t|false=>gG r i
def cd:List (Nat×aZ U)->Nat->Option (aZ U)
 |[],_=>none
 |(j,t)::r,i=>match Nat.beq i j with|true=>some t|false=>cd r i
def su:List (Nat×aZ U)->Nat->aZ U->List (Nat×aZ U)
 |[],_,_=>[]
 |(j,t)::r,i,b=>match Nat.beq i j with|true=>(j,b)::r|false=>(j,t)::su r i b
structure SS(U:gD)where
 aV:List (Nat×ST U)
 heap:List (Nat×aZ U)
 bZ:Nat
def mF(l:List (Nat×ST U)):List (Nat×T):=l.map λp=>(p.1,p.2.aI)
def cy(l:List (Nat×aZ U)):List (Nat×List V):=l.map λp=>(p.1,p.2.aI)
def SS.st(a:SS U):St:=⟨Ab.mk (mF a.aV),bX (cy a.heap)⟩
def cU{j:Nat}(h:Nat.beq n j=true):n=j:=IM h
def o9{j:Nat}(h:Nat.beq n j=false):n≠j:=Nat.ne_of_beq_eq_false h
theorem uI:∀(l:List (Nat×ST U)) (i:Nat),mk (mF l) i=(gG l i).aI
 |[],_=>rfl
 |(j,t)::r,i=>by
  simp only[mF,de,mk,gG];cases h:Nat.beq i j with
  |true=>rw[aM (cU h)]
  |false=>rw[Z (o9 h)];exact uI r i
theorem iG:∀(l:List (Nat×aZ U)) (i:Nat),bX (cy l) i=(cd l i).map aZ.aI
 |[],_=>rfl
 |(j,t)::r,i=>by
  simp only[cy,de,bX,cd];cases h:Nat.beq i j with
  |true=>rw[aM (cU h)];rfl
  |false=>rw[Z (o9 h)];exact iG r i
theorem Ku:∀(l:List (Nat×aZ U)) (s:Nat) (b c:aZ U) (i:Nat),cd l s=some c->cd (su l s b) i=if i=s then some b else cd l i
 |[],_,_,_,_,h=>by cases h
 |(j,t)::r,s,b,c,i,h=>by
  simp only[cd]at h;cases I:Nat.beq s j with
  |true=>
   simp only[su,I,cd];cases a:Nat.beq i j with
   |true=>rw[aM ((cU a).trans (cU I).symm)]
   |false=>rw[Z (λe=>o9 a (e.trans (cU I)))]
  |false=>
   rw[I]at h;simp only[su,I,cd];cases a:Nat.beq i j with
   |true=>rw[Z (λe=>o9 I (e.symm.trans (cU a)))]
   |false=>exact Ku r s b c i h
def oN(a:SS U)(i:Nat):a.st.aV i=(gG a.aV i).aI:=uI _ _
def ga(a:SS U)(s:Nat):a.st.heap s=(cd a.heap s).map aZ.aI:=iG _ _
def aeS:Value->ST U
 |.agg a=>if a.toList.all (λv=>v.oneCell')then .e (.agg (a.toList.map λv=>.d (.sc v)))else .any
 |.tuple _=>.any
 |v=>.e (.c (.d (.sc v)))
def SS.ev(a:SS U):Operand->ST U
 |.tmp t=>gG a.aV t
 |.const v=>aeS v
 |.func f=>.e (.c (.db f []))
 |_=>.any
def c8(a:SS U)(x:aw):a.st.ev x=(a.ev x).aI:=by
 cases x with
 |tmp t=>exact oN a t
 |const v=>
  cases v
  case agg b=>
   simp only[St.ev,SS.ev,LR,aeS];split
   ·simp[ST.aI,SE.aI,SV.aI,SD.aI]
   ·rfl
  all_goals rfl
 |func f=>rfl
 |global g=>rfl
structure TI where
 sz:Nat
 dF:Nat
 ag:Bool
 AT:List (Nat×TypeId)
 sl:Option TypeId
 ar:Option (Nat×TypeId)
 ik:Option IntKind
 st:Bool
 bo:Bool
 zs:Option (List Value)
 pl:Option (List (Nat×Nat))
 Rx:Option (TypeId×TypeId)
def aiE(P:ax)(t:TypeId):Option (TypeId×TypeId):=match P.underlying t with|some (.map k e)=>some (k,e)|_=>none
structure yP(P:ax)(t:TypeId)(i:TI):Prop where
 sz:fg P t=some i.sz
 dF:oQ P t=some i.dF
 ag:HE P t=some i.ag
 AT:∀f p,i.AT[f]?=some p->wF P t f=some p
 sl:jA P t=i.sl
 ar:wD P t=i.ar
 ik:zT P t=i.ik
 st:rr P t=i.st
 bo:BB P t=i.bo
 zs:∀zs,i.zs=some zs->jQ P t=some (zs.map λv=>.d (.sc v))
 zl:∀zs,i.zs=some zs->zs.length=i.sz
 pl:∀ps,i.pl=some ps->HJ P t=some ps
 Rx:aiE P t=i.Rx
structure bY(P:ax)(U:gD)where
 row:(k:U.K)->U.El k->List (SD U)
 Hl:∀k x,(row k x).map SD.aI=U.dh k x
 len:∀k x,(U.dh k x).length=U.w k
 pI:∀k,0<U.w k
 aJ:TypeId->Option U.K
 DM:(k:U.K)->List (SD U)->Option (U.El k)
 G8:∀k cs x,DM k cs=some x->cs.map (λy=>y.aI.cB)=U.dh k x
 cast:(k k':U.K)->List (U.El k')->Option (List (U.El k))
 qY:∀k k' l l',cast k k' l=some l'->l.map (U.dh k')=l'.map (U.dh k)/\U.w k=U.w k'
 ty:TypeId->Option TI
 fX:∀t i,ty t=some i->yP P t i
 zi:∀t k,aJ t=some k->fg P t=some (U.w k)
 f_:∀k x,(U.dh k x).map D.cB=U.dh k x
 wr:Bool
 GO:TypeId->Option MI
 Lh:∀t m,GO t=some m->vq P t m
 CA:TypeId->Option U.K
end
def pT(n:Int):=-9223372036854775808<=n/\n<=9223372036854775807
theorem pT.wrap{n:Int}(h:pT n):IntKind.i64.wrap n=n:=IntWalk.i64_in _ (by obtain⟨b,a⟩:=h;omega)
section
variable {U:gD}
def uY:ST U->Option Value
 |.e (.c (.d (.sc v)))=>some v
 |.e (.c (.d (.cK b)))=>some (.bool b)
 |_=>none
def x9{x:ST U}(h:uY x=some v):oM x.aI=some v:=by
 unfold uY at h;split at h
 ·injection h with h;subst h;rfl
 ·injection h with h;subst h;rfl
 ·cases h
def AW(a:Bool)(k:IntKind)(n:Int)(K:SD U->Prop):Prop:=
 match k with
 |.i64=>(match a with|false=>pT n/\K (.sc (.int .i64 n))|true=>K (.sc (.int .i64 (IntKind.i64.wrap n))))
 |k=>K (.sc (.int k (k.wrap n)))
def Gt{K:SD U->Prop}(h:AW b k i K):∃r,r.aI=.sc (.int k (k.wrap i))/\K r:=by
 unfold AW at h;split at h
 ·split at h
  ·exact⟨_,by rw[h.1.wrap];rfl,h.2⟩
  ·exact⟨_,rfl,h⟩
 ·exact⟨_,rfl,h⟩
def XV(c:Bool)(d:BinOp)(k:IntKind)(a b:Int)(K:SD U->Prop):Prop:=
 match d with
 |.shl=>0<=b/\K (.sc (.int k (k.wrap (a*2^min b.toNat k.bits))))
 |.shr=>0<=b/\K (.sc (.int k (a.fdiv (2^min b.toNat k.bits))))
 |.add=>AW c k (a+b) K
 |.sub=>AW c k (a-b) K
 |.mul=>AW c k (a*b) K
 |.quo=>b≠0/\AW c k (a.tdiv b) K
 |.rem=>b≠0/\K (.sc (.int k (a.tmod b)))
 |.and=>K (.sc (.int k (k.wrap (BitVec.ofInt k.bits a &&& BitVec.ofInt k.bits b).toNat)))
 |.or=>K (.sc (.int k (k.wrap (BitVec.ofInt k.bits a ||| BitVec.ofInt k.bits b).toNat)))
 |.xor=>K (.sc (.int k (k.wrap (BitVec.ofInt k.bits a ^^^ BitVec.ofInt k.bits b).toNat)))
 |.andNot=>False
 |.eql=>K (.cK (a==b))
 |.neq=>K (.cK (a !=b))
 |.lss=>K (.cK (decide (a<b)))
 |.leq=>K (.cK (decide (a<=b)))
 |.gtr=>K (.cK (decide (b<a)))
 |.geq=>K (.cK (decide (b<=a)))
def ach:BinOp->Bool
 |.shl=>true
 |.shr=>true
 |_=>false
def OM(d h:Bool)(c:BinOp)(f e:Value)(K:SD U->Prop):Prop:=
 match f,e with
 |.int k a,.int g b=>(match ach c||decide (k=g)with|true=>XV d c k a b K|false=>False)
 |.bool a,.bool b=>(match h,c with|true,.eql=>K (.cK (a==b))|true,.neq=>K (.cK (!(a==b)))|_,_=>False)
 |.string a,.string b=>(match c with|.eql=>K (.cK (a.toList==b.toList))|.neq=>K (.cK (!(a.toList==b.toList)))|_=>False)
 |_,_=>False
def aph{c:SD U->Prop}(h:OM b (BB P t) K v u c):∃d r,mD P K t v u=some d/\r.aI=.sc d/\c r:=by
 unfold OM at h;split at h
 ·rename_i k a j e;split at h
  ·rename_i f;simp only[wO,be]at f;unfold XV at h;cases K<;>simp only[ach,jq,false_or]at f h
   case shl=>exact⟨_,_,by simp only[mD,Z (show¬e<0 by omega)],rfl,h.2⟩
   case shr=>exact⟨_,_,by simp only[mD,Z (show¬e<0 by omega)],rfl,h.2⟩
   case add=>obtain⟨r,g,hK⟩:=Gt h;exact⟨_,r,by simp only[mD,aM f],g,hK⟩
   case sub=>obtain⟨r,g,hK⟩:=Gt h;exact⟨_,r,by simp only[mD,aM f],g,hK⟩
   case mul=>obtain⟨r,g,hK⟩:=Gt h;exact⟨_,r,by simp only[mD,aM f],g,hK⟩
   case quo=>obtain⟨r,g,hK⟩:=Gt h.2;exact⟨_,r,by simp only[mD,aM (aQ f h.1)],g,hK⟩
   case rem=>exact⟨_,_,by simp only[mD,aM (aQ f h.1)],rfl,h.2⟩
   all_goals first|cases h|exact⟨_,_,by simp only[mD,aM f],rfl,h⟩
  ·cases h
 ·rename_i a e;split at h
  ·rename_i i;exact⟨_,_,by simp only[mD,i,gT],rfl,h⟩
  ·rename_i i;exact⟨_,_,by simp only[mD,i,gT],rfl,h⟩
  ·cases h
 ·rename_i a e;split at h
  ·exact⟨_,_,by simp only[mD],rfl,h⟩
  ·exact⟨_,_,by simp only[mD],rfl,h⟩
  ·cases h
 ·cases h
def UI(u:UnOp)(v:Value)(K:SD U->Prop):Prop:=
 match u,v with
 |.not,.bool b=>K (.cK (!b))
 |.neg,.int k n=>AW false k (0-n) K
 |.xor,.int k n=>K (.sc (.int k (k.wrap (BitVec.ofInt k.bits (if k.signed then-1 else k.max) ^^^ BitVec.ofInt k.bits n).toNat)))
 |_,_=>False
def aI9{u:UnOp}{K:SD U->Prop}(h:UI u v K):∃a r,Ei u v=some a/\r.aI=.sc a/\K r:=by
 unfold UI at h;split at h
 ·exact⟨_,_,rfl,rfl,h⟩
 ·obtain⟨r,b,hK⟩:=Gt h;exact⟨_,r,rfl,b,hK⟩
 ·exact⟨_,_,rfl,rfl,h⟩
 ·cases h
def Kb(a:Nat):ST U->Option (ST U)
 |.e (.c (.ptr s o))=>some (.e (.c (.ptr s (o+a))))
 |.e (.c (.jF s k i j))=>some (.e (.c (.jF s k i (j+a))))
 |.e (.c (.ty s _ (.inl _)))=>some (.e (.c (.ptr s a)))
 |.e (.c (.gU b))=>some (.e (.c (.gU (b.drop a))))
 |_=>none
def aa2{x r:ST U}(h:Kb n x=some r):vP n x.aI=some r.aI:=by
 unfold Kb at h;split at h
 ·injection h with h;subst h;rfl
 ·injection h with h;subst h
  simp only[ST.aI,SE.aI,SV.aI,vP,xd]
 ·injection h with h;subst h;rfl
 ·injection h with h;subst h
  simp only[ST.aI,SE.aI,SV.aI,vP,vm]
 ·cases h
def HD(i:Int)(K:ap):Nat->Prop
 |0=>True
 |n+1=>HD i K n/\(i=(n:Int)->K n)
theorem MH{i:Int}{K:ap}:∀{n m:Nat},HD i K n->m<n->i=(m:Int)->K m
 |0,m,_,a,_=>by omega
 |n+1,m,h,a,e=>by
  rcases Nat.lt_or_eq_of_le (Nat.le_of_lt_succ a)with h1|h1
  ·exact MH h.1 h1 e
  ·subst h1;exact h.2 e
def vT{a:Type}:List a->Nat->Option a
 |[],_=>none
 |x::_,0=>some x
 |_::l,n+1=>vT l n
theorem qh{a:Type}:∀(l:List a)(n:Nat),vT l n=l[n]?
 |[],_=>rfl
 |_::_,0=>rfl
 |_::l,n+1=>by rw[vT,qh l n];rfl
def xR(d:Bool)(n:Nat)(b:List (SV U))(a:Nat):Option (ST U):=
 match d with
 |true=>(match Nat.ble (a+n) b.length with|true=>some (.e (.agg ((b.drop a).take n)))|false=>none)
 |false=>(match vT b a with|some v=>some (.e (.c v))|none=>none)
def I1(v:SV U):∀es,v.aI≠.eY es:=by intro es;cases v<;>(intro h;cases h)
def Ju(a:List (SV U)):dS (a.map SV.aI)=true:=by
 cases a with
 |nil=>rfl
 |cons v r=>
  simp only[de];unfold dS;split
  ·rename_i b _ h;injection h with h _;exact absurd h (I1 v b)
  ·rfl
def DP{i:TI}(b:yP P t i){c:List (SV U)}{r:ST U}(h:xR i.ag i.sz c n=some r):mJ P t (c.map SV.aI) n=some r.aI:=by
 unfold xR at h;unfold mJ;rw[Ju,b.ag,b.sz];split at h
 ·rename_i a;split at h
  ·rename_i d;injection h with h;subst h
   simp only[a,ST.aI,SE.aI,eh];rw[aM (js d)];simp
  ·cases h
 ·rename_i a;split at h
  ·rename_i v e;injection h with h;subst h
   simp only[a,ST.aI,SE.aI,eC];rw[<-qh,e];rfl
  ·cases h
def MF(c:List (SV U))(a:Nat)(b:List (SV U)):List (SV U):=c.take a++b++c.drop (a+b.length)
def SE.cells:SE U->List (SV U)
 |.c v=>[v]
 |.agg a=>a
def Ax(e:SE U):e.aI.cells=e.cells.map SV.aI:=by cases e<;>rfl
def ah4(c:List (SV U))(a:Nat)(b:List (SV U)):(MF c a b).map SV.aI=kA (c.map SV.aI) a (b.map SV.aI):=by simp[MF,kA,vm,vo]
def j3(a:au)(i:Nat)(v:V):List V:=(a.map λx=>V.d (.sc x)).set i v
def Hd(f:V->V)(b:∀x:Value,f (.d (.sc x))=.d (.sc x))(a:au)(i:Nat)(v:V):(j3 a i v).map f=j3 a i (f v):=by unfold j3;rw[List.map_set,jc];congr 1;exact mw λx _=>b x
def Ma{a:au}{v x:V}(h:x∈j3 a n v):x=v\/∃u,x=.d (.sc u):=by
 unfold j3 at h;rcases EO h with h|h
 ·obtain⟨u,_,rfl⟩:=b_.1 h;exact .inr ⟨u,rfl⟩
 ·exact .inl h
def Te{vs:au}{i:Nat}{v:V}(d:∀b,v≠.eY b):dS (j3 vs i v)=true:=by
 have c:∀l:List V,(∀x∈l,∀b,x≠.eY b)->dS l=true:=by
  intro l h;cases l with
  |nil=>rfl
  |cons a r=>have:=h a (b6 ..);cases a<;>first|rfl|exact absurd rfl (this _)
 exact c _ λx f b=>by
  rcases Ma f with rfl|⟨u,rfl⟩
  ·exact d b
  ·intro e;cases e
def af8{a:au}{v:V}(h:n<a.length):(j3 a n v)[n]?=some v:=by unfold j3;rw[Ww (an h)]
def aFz{a:au}{i:Nat}{v v':V}(h:i<a.length):kA (j3 a i v) i [v']=j3 a i v':=by
 unfold j3 kA;rw[NQ,aM (an h),NQ,aM (an h)];have b:(List.take i (a.map λx=>V.d (.sc x))).length=i:=by simp;omega
 rw[ET O,List.take_take,Nat.min_self];have e:i+[v'].length=(List.take i (a.map λx=>V.d (.sc x))++[v]).length:=by simp;omega
 rw[show List.take i (a.map λx=>V.d (.sc x))++v::List.drop (i+1) (a.map λx=>V.d (.sc x))=(List.take i (a.map λx=>V.d (.sc x))++[v])++List.drop (i+1) (a.map λx=>V.d (.sc x))by simp,e,List.drop_left];simp
def Gf(b:List (Nat×Nat))(cells:List (SV U)):List (Nat×ST U)->Option (List (SV U))
 |[]=>some cells
 |(i,t)::rest=>
  match vT b i,t with
  |some (a,size),.e x=>(match Nat.beq x.cells.length size,Nat.ble (a+size) cells.length with|true,true=>Gf b (MF cells a x.cells) rest|_,_=>none)
  |_,_=>none
theorem abb(a:List (Nat×Nat)):∀(l:List (Nat×ST U)) (cells r:List (SV U)),Gf a cells l=some r->vQ (λi=>a[i]?) (cells.map SV.aI) (l.map λp=>(p.1,p.2.aI))=some (r.map SV.aI)
 |[],cells,r,h=>by simp only[Gf]at h;injection h with h;subst h;rfl
 |(i,t)::rest,cells,r,h=>by
  simp only[Gf]at h;split at h
  ·rename_i c size x b;split at h
   ·rename_i e d;have g:=cU e;have f:=js d;have:=abb a rest _ r h;rw[qh]at b;rw[de];show vQ _ _ ((i,T.e x.aI)::_)=_;simp only[vQ,b];rw[Ax,aM ⟨by simpa using g,by simpa using f⟩,<-ah4];exact this
   ·cases h
  ·cases h
end
section
variable {P:ax}{U:gD}(V:bY P U)
def Ec:List (SV U)->Option (List (SD U))
 |[]=>some []
 |.d x::r=>(match Ec r with|some l=>some (x::l)|none=>none)
 |_::_=>none
theorem Ur:∀(l:List (SV U)) (a:List (SD U)),Ec l=some a->l=a.map .d
 |[],a,h=>by simp only[Ec]at h;injection h with h;subst h;rfl
 |v::r,a,h=>by
  cases v<;>simp only[Ec]at h
  case d x=>
   split at h
   ·rename_i l b;injection h with h;subst h
    rw[Ur r l b];rfl
   ·cases h
  all_goals cases h
def aIF(a:List (SD U)):ly ((a.map SV.d).map SV.aI)=some (a.map λy=>y.aI.cB):=by
 induction a with
 |nil=>rfl
 |cons x r b=>simp only[de,ly,b,SV.aI,HH]
def G7(k:U.K)(e:SE U):Option (U.El k):=match Ec e.cells with|some a=>V.DM k a|none=>none
theorem SJ{k:U.K}{e:SE U}{x:U.El k}(h:G7 V k e=some x):ly e.aI.cells=some (U.dh k x)/\e.aI.cells.length=U.w k:=by
 unfold G7 at h;split at h
 ·rename_i g b;have f:=Ur _ _ b;have d:=V.G8 k g x h;have a:ly e.aI.cells=some (U.dh k x):=by rw[Ax,f,aIF,d]
  refine⟨a,?_⟩;have c:=Uo _ _ a;rw[<-c,V.len]
 ·cases h
def DO(k:U.K)(b:Operand->ST U):Nat->List (Nat×Operand)->Option (List (U.El k))
 |_,[]=>some []
 |i,(j,x)::r=>
  match b x with
  |.e e=>(match Nat.beq j i,G7 V k e,DO k b (i+1) r with|true,some a,some l=>some (a::l)|_,_,_=>none)
  |_=>none
theorem SK{k:U.K}(b:SS U):∀(l:List (Nat×Operand)) (i:Nat) (r:List (U.El k)),DO V k b.ev i l=some r->uG (U.w k) b.st.ev i l=some (r.map (U.dh k))/\r.length=l.length
 |[],i,r,h=>by simp only[DO]at h;injection h with h;subst h;exact⟨rfl,rfl⟩
 |(j,x)::l,i,r,h=>by
  simp only[DO]at h;split at h
  ·rename_i e m;split at h
   ·rename_i a g p o n;injection h with h;subst h
    have c:=SK b l (i+1) g n;obtain⟨f,d⟩:=SJ V o;simp only[uG,c8,m,ST.aI];rw[aM ⟨cU p,d⟩,f,c.1];exact⟨rfl,by simp[c.2]⟩
   ·cases h
  ·cases h
def nu:ST U->Option Int
 |.e (.c (.d (.sc (.int _ i))))=>some i
 |_=>none
def aBg{x:ST U}(h:nu x=some i)(a:0<=i):A8 x.aI=some i.toNat:=by
 unfold nu at h;split at h
 ·injection h with h;subst h;simp[ST.aI,SE.aI,SV.aI,SD.aI,A8,a]
 ·cases h
def Mx(n:Nat)(g i:Option Int)(x:ST U)(K:ST U->Prop):Prop:=
 match x with
 |.e (.c (.sub s k f b))=>
  (match Nat.beq (U.w k) n with
   |true=>(match g,i with
    |none,none=>K (.e (.c (.sub s k f b)))
    |none,some h=>0<=h/\h<=b/\K (.e (.c (.sub s k f h.toNat)))
    |some l,none=>0<=l/\l<=b/\K (.e (.c (.sub s k (f+l.toNat) (b-l.toNat))))
    |some l,some h=>0<=l/\l<=h/\h<=b/\K (.e (.c (.sub s k (f+l.toNat) (h.toNat-l.toNat)))))
   |false=>False)
 |.e (.c (.aX s k b))=>
  (match Nat.beq (U.w k) n with
   |true=>(match g,i with
    |none,none=>K (.e (.c (.aX s k b)))
    |none,some h=>0<=h/\h<=b/\K (.e (.c (.sub s k 0 h.toNat)))
    |some l,none=>0<=l/\l<=b/\K (.e (.c (.sub s k l.toNat (b-l.toNat))))
    |some l,some h=>0<=l/\l<=h/\h<=b/\K (.e (.c (.sub s k l.toNat (h.toNat-l.toNat)))))
   |false=>False)
 |.e (.c (.d (.bN k l)))=>
  (match Nat.beq (U.w k) n with
   |true=>(match g,i with
    |none,none=>K (.e (.c (.d (.bN k l))))
    |none,some h=>0<=h/\h<=l.length/\K (.e (.c (.d (.bN k (l.take h.toNat)))))
    |some a,none=>0<=a/\a<=l.length/\K (.e (.c (.d (.bN k (l.drop a.toNat)))))
    |some a,some h=>0<=a/\a<=h/\h<=l.length/\K (.e (.c (.d (.bN k ((l.drop a.toNat).take (h.toNat-a.toNat)))))))
   |false=>False)
 |.e (.c (.d (.sc (.slice none 0 0))))=>
  (match g,i with
   |none,none=>K (.e (.c (.d (.sc (.slice none 0 0)))))
   |none,some h=>h=0/\K (.e (.c (.d (.sc (.slice none 0 0)))))
   |some l,none=>l=0/\K (.e (.c (.d (.sc (.slice none 0 0)))))
   |some l,some h=>l=0/\h=0/\K (.e (.c (.d (.sc (.slice none 0 0))))))
 |_=>False
def vZ:ST U->Option Nat
 |.e (.c (.sub _ _ _ a))=>some a
 |.e (.c (.aX _ _ a))=>some a
 |.e (.c (.d (.bN _ l)))=>some l.length
 |.e (.c (.d (.sc (.slice _ n _))))=>some n
 |_=>none
def Q9{x:ST U}(h:vZ x=some n):uD x.aI=some n:=by unfold vZ at h;split at h<;>first|injection h with h;subst h;simp[ST.aI,SE.aI,SV.aI,SD.aI,uD]|cases h
theorem aau(V:bY P U)(k:U.K)(l:List (U.El k)):(l.map (U.dh k)).all (λr=>r.length==U.w k)=true:=by rw[eW];intro r a;rw[b_]at a;obtain⟨x,_,rfl⟩:=a;have:=V.len k x;simp[this]
theorem ahT(V:bY P U){u:Option Int}{x:ST U}{K:ST U->Prop}(j:vZ x=some s)(h:Mx n r u x K):
 ∃(a b:Nat)(c:ST U),mM n a b x.aI=some c.aI/\K c/\(a=(r.map Int.toNat).getD 0/\b=(u.map Int.toNat).getD s)/\(∀i,r=some i->0<=i)/\(∀i,u=some i->0<=i):=by
 unfold Mx at h;split at h
 ·rename_i d k v p;simp only[vZ,cS]at j;subst j;split at h
  ·rename_i g;have g:=cU g;subst g;split at h
   ·exact⟨0,p,_,by simp[ST.aI,SE.aI,SV.aI,mM],h,ai,ai,ai⟩
   ·rename_i o;obtain⟨f,m,e⟩:=h;exact⟨0,o.toNat,_,by simp only[ST.aI,SE.aI,SV.aI,mM];rw[aM ⟨trivial,O,O⟩];simp,e,ai,ai,by simpa using f⟩
   ·rename_i a;obtain⟨f,m,e⟩:=h;exact⟨a.toNat,p,_,by simp only[ST.aI,SE.aI,SV.aI,mM];rw[aM ⟨trivial,O,O⟩];simp[iN],e,ai,by simpa using f,ai⟩
   ·rename_i a b;obtain⟨f,m,e,q⟩:=h;exact⟨a.toNat,b.toNat,_,by simp only[ST.aI,SE.aI,SV.aI,mM];rw[aM ⟨trivial,O,O⟩];simp[iN],q,ai,by simpa using f,by simp;omega⟩
  ·cases h
 ·rename_i d k p;simp only[vZ,cS]at j;subst j;split at h
  ·rename_i g;have g:=cU g;subst g;split at h
   ·exact⟨0,p,_,by simp[ST.aI,SE.aI,SV.aI,mM],h,ai,ai,ai⟩
   ·rename_i o;obtain⟨f,m,e⟩:=h;exact⟨0,o.toNat,_,by simp only[ST.aI,SE.aI,SV.aI,mM];rw[aM ⟨trivial,O,O⟩];simp,e,ai,ai,by simpa using f⟩
   ·rename_i a;obtain⟨f,m,e⟩:=h;exact⟨a.toNat,p,_,by simp only[ST.aI,SE.aI,SV.aI,mM];rw[aM ⟨trivial,O,O⟩];simp,e,ai,by simpa using f,ai⟩
   ·rename_i a b;obtain⟨f,m,e,q⟩:=h;exact⟨a.toNat,b.toNat,_,by simp only[ST.aI,SE.aI,SV.aI,mM];rw[aM ⟨trivial,O,O⟩];simp,q,ai,by simpa using f,by simp;omega⟩
  ·cases h
 ·rename_i k l;simp only[vZ,cS]at j;subst j;have t:=aau V k l;split at h
  ·rename_i g;have g:=cU g;subst g;split at h
   ·exact⟨0,l.length,_,by simp only[ST.aI,SE.aI,SV.aI,SD.aI,mM];rw[aM ⟨ai,ai,t⟩,rG,eL ai],h,ai,ai,ai⟩
   ·rename_i o;obtain⟨f,m,e⟩:=h;exact⟨0,o.toNat,_,by simp only[ST.aI,SE.aI,SV.aI,SD.aI,mM];rw[aM ⟨O,by simp;omega,t⟩];simp[vo],e,ai,ai,by simpa using f⟩
   ·rename_i a;obtain⟨f,m,e⟩:=h;exact⟨a.toNat,l.length,_,by simp only[ST.aI,SE.aI,SV.aI,SD.aI,mM];rw[aM ⟨O,ai,t⟩,eL ai];simp[vm],e,ai,by simpa using f,ai⟩
   ·rename_i a b;obtain⟨f,m,e,q⟩:=h;exact⟨a.toNat,b.toNat,_,by simp only[ST.aI,SE.aI,SV.aI,SD.aI,mM];rw[aM ⟨O,by simp;omega,t⟩];simp[vm,vo],q,ai,by simpa using f,by simp;omega⟩
  ·cases h
 ·simp only[vZ,cS]at j;subst j;split at h
  ·exact⟨0,0,_,by simp[ST.aI,SE.aI,SV.aI,SD.aI,mM],h,ai,ai,ai⟩
  ·rename_i o;obtain⟨rfl,e⟩:=h;exact⟨0,0,_,by simp[ST.aI,SE.aI,SV.aI,SD.aI,mM],e,ai,ai,ai⟩
  ·rename_i a;obtain⟨rfl,e⟩:=h;exact⟨0,0,_,by simp[ST.aI,SE.aI,SV.aI,SD.aI,mM],e,ai,ai,ai⟩
  ·rename_i a b;obtain⟨rfl,rfl,e⟩:=h;exact⟨0,0,_,by simp[ST.aI,SE.aI,SV.aI,SD.aI,mM],e,ai,ai,ai⟩
 ·cases h
end
section
variable {P:ax}{U:gD}(V:bY P U)
def Jc{k:U.K}(l:List (U.El k))(i:Nat)(K:U.El k->Prop):=i<l.length/\∀x,l[i]?=some x->K x
def Ot{k:U.K}{l:List (U.El k)}{K:U.El k->Prop}(h:Jc l n K):∃x,l[n]?=some x/\K x:=⟨l[n]'h.1,cN h.1,h.2 _ (cN h.1)⟩
def TQ(i:TI)(g:SS U)(x:ST U)(K:ST U->Prop):Prop:=
 match x with
 |.e (.c (.ptr s a))=>
  (match cd g.heap s with
   |some (.cells f)=>(match xR i.ag i.sz f a with|some r=>K r|none=>False)
   |some (.hY h b v)=>(match i.ag with|false=>a=b/\b<h.length/\K (.e (.c v))|true=>False)
   |_=>False)
 |.e (.c (.jF s k b j))=>
  (match cd g.heap s with
   |some (.aW m l)=>(match V.cast k m l with
    |some l=>Jc l b λx=>(match xR i.ag i.sz ((V.row k x).map .d) j,Nat.ble (j+i.sz) (U.w k)with|some r,true=>K r|_,_=>False)
    |none=>False)
   |_=>False)
 |.e (.c (.gU f))=>(match xR i.ag i.sz (f.map .d) 0 with|some r=>K r|none=>False)
 |_=>False
def Gv(k:IntKind):List (SD U)->Option (List Int)
 |[]=>some []
 |.sc (.int a n)::r=>(match decide (a=k),Gv k r with|true,some l=>some (n::l)|_,_=>none)
 |_::_=>none
theorem acf(k:IntKind):∀(g:List (SD U)) (a:ao),Gv k g=some a->g=a.map λn=>.sc (.int k n)
 |[],a,h=>by simp only[Gv,cS]at h;subst h;rfl
 |c::r,a,h=>by
  unfold Gv at h;split at h
  ·rename_i e;cases e
  ·rename_i i n m e;injection e with d b;subst d;subst b
   split at h
   ·rename_i l f j;injection h with h;subst h
    simp only[be]at f;subst f;rw[acf i r l j];rfl
   ·cases h
  ·cases h
def SL(b a:Nat)(x:ST U):Option (IntKind×List Int×List (SD U)):=
 match x with
 |.e (.c (.gU (.sc (.int k n)::r)))=>(match Nat.beq b 1,Gv k r with|true,some l=>(match Nat.beq (l.length+1) a with|true=>some (k,n::l,.sc (.int k n)::r)|false=>none)|_,_=>none)
 |_=>none
def aEe{x:ST U}{b:ao}{d:List (SD U)}(h:SL n s x=some (k,b,d)):x=.e (.c (.gU d))/\n=1/\b.length=s/\d=b.map λa=>.sc (.int k a):=by
 unfold SL at h;split at h
 ·rename_i f a r;split at h
  ·rename_i l g i;split at h
   ·rename_i j;injection h with h;injection h with m h;injection h with o p
    subst m;subst o;subst p;refine⟨rfl,cU g,by simpa using cU j,?_⟩;rw[acf f r l i];rfl
   ·cases h
  ·cases h
 ·cases h
def Bq(t:TypeId)(x:ST U)(i:Int)(K:ST U->Prop):Prop:=
 match V.ty t with
 |some g=>
  (match g.sl with
   |some e=>
    (match V.ty e with
     |some b=>
      (match x with
       |.e (.c (.sub s k f a))=>(match Nat.beq (U.w k) b.sz with|true=>0<=i/\i<a/\K (.e (.c (.jF s k (f+i.toNat) 0)))|false=>False)
       |.e (.c (.aX s k a))=>(match Nat.beq (U.w k) b.sz with|true=>0<=i/\i<a/\K (.e (.c (.jF s k i.toNat 0)))|false=>False)
       |.e (.c (.d (.bN k l)))=>(match Nat.beq (U.w k) b.sz with|true=>0<=i/\Jc l i.toNat λx=>K (.e (.c (.gU (V.row k x))))|false=>False)
       |_=>False)
     |none=>False)
   |none=>
    (match g.ar with
     |some (a,e)=>
      (match V.ty e with
       |some b=>(match SL b.sz a x with
        |some (k,h,j)=>0<=i/\i<(a:Int)/\K (.e (.c (.gU (.sc (.int k (h.getD i.toNat 0))::j.drop (i.toNat+1)))))
        |none=>0<=i/\i<(a:Int)/\HD i (λm=>match Kb (m*b.sz) x with|some r=>K r|none=>False) a)
       |none=>False)
     |none=>False))
 |none=>False
def Tz(c:Call)(a:SS U)(K:ST U->Prop):Prop:=
 match c.callee,c.args.toList,c.argTypes.toList with
 |.builtin .len,[x],[t]=>
  (match V.ty t with
   |some b=>
    (match b.sl with
     |some _=>(match vZ (a.ev x)with|some n=>K (.e (.c (.d (.sc (.int .i64 (n:Int))))))|none=>False)
     |none=>(match b.st,uY (a.ev x)with|true,some (.string s)=>K (.e (.c (.d (.sc (.int .i64 (s.size:Int))))))|_,_=>False))
   |none=>False)
 |.builtin .max,[x,y],_=>(match uY (a.ev x),uY (a.ev y)with|some (.int k i),some (.int _ j)=>K (.e (.c (.d (.sc (.int k (max i j))))))|_,_=>False)
 |.builtin .min,[x,y],_=>(match uY (a.ev x),uY (a.ev y)with|some (.int k i),some (.int _ j)=>K (.e (.c (.d (.sc (.int k (min i j))))))|_,_=>False)
 |_,_,_=>False
def yU(a:SS U):Option Operand->Option (Option Int)
 |none=>some none
 |some x=>(match nu (a.ev x)with|some i=>some (some i)|none=>none)
def TZ(R:Op)(a:SS U)(K:ST U->Prop):Prop:=
 match R with
 |.move x=>K (a.ev x)
 |.assign x=>K (a.ev x)
 |.pick c x y=>
  (match a.ev c with
   |.e (.c (.d (.sc (.bool true))))=>K (a.ev x)
   |.e (.c (.d (.sc (.bool false))))=>K (a.ev y)
   |.e (.c (.d (.cK b)))=>(b=true->K (a.ev x))/\(b=false->K (a.ev y))
   |_=>False)
 |.binOp b t x y _=>(match uY (a.ev x),uY (a.ev y),V.ty t with|some B,some L,some g=>OM V.wr g.bo b B L (λr=>K (.e (.c (.d r))))|_,_,_=>False)
 |.unOp u _ x=>(match uY (a.ev x)with|some B=>UI u B (λr=>K (.e (.c (.d r))))|none=>False)
 |.convert s d x=>(match V.ty s,V.ty d,uY (a.ev x)with
  |some M,some N,some (.int _ n)=>(match M.ik,N.ik with|some _,some k=>K (.e (.c (.d (.sc (.int k (k.wrap n))))))|_,_=>False)
  |_,_,_=>False)
 |.fieldAddr s x f=>(match V.ty s with
  |some g=>(match vT g.AT f with
   |some (o,D)=>(match V.ty D with|some A=>(match Nat.ble 1 A.sz,Kb o (a.ev x)with|true,some r=>K r|_,_=>False)|none=>False)
   |none=>False)
  |none=>False)
 |.indexAddr t x C=>(match nu (a.ev C)with|some i=>Bq V t (a.ev x) i K|none=>False)
 |.load t x=>(match V.ty t with|some g=>TQ V g a (a.ev x) K|none=>False)
 |.extract x i=>(match a.ev x with|.cE H=>(match vT H i with|some e=>K (.e e)|none=>False)|_=>False)
 |.field t x f=>(match V.ty t,a.ev x with
  |some g,.e (.agg w)=>(match vT g.AT f with
   |some (o,D)=>(match V.ty D with|some A=>(match xR A.ag A.sz w o with|some r=>K r|none=>False)|none=>False)
   |none=>False)
  |_,_=>False)
 |.index t x C=>(match nu (a.ev C),V.ty t,a.ev x with
  |some i,some g,.e (.agg w)=>(match g.ar with
   |some (h,e)=>(match V.ty e with
    |some q=>0<=i/\i<(h:Int)/\HD i (λm=>match xR q.ag q.sz w (m*q.sz)with|some r=>K r|none=>False) h
    |none=>False)
   |none=>False)
  |some i,some g,.e (.c (.d (.sc (.string s))))=>(match g.ar,g.st with
   |none,true=>0<=i/\i<(s.size:Int)/\K (.e (.c (.d (.sc (.int .u8 (s.data.toList.getD i.toNat 0).toNat)))))
   |_,_=>False)
  |_,_,_=>False)
 |.build t parts=>(match V.ty t with
  |some g=>(match g.pl,g.zs with
   |some Q,some G=>(match Gf Q (G.map λv=>.d (.sc v)) (parts.toList.map λp=>(p.1,a.ev p.2))with|some w=>K (.e (.agg w))|none=>False)
   |_,_=>False)
  |none=>False)
 |.buildSlice t h parts=>(match V.ty t with
  |some g=>(match g.sl with
   |some e=>(match V.ty e,V.aJ e with
    |some q,some k=>(match q.zs,Nat.beq parts.size h,Nat.ble 1 h,Nat.ble (h*q.sz) 16777216,DO V k a.ev 0 parts.toList with
     |some _,true,true,true,some l=>K (.e (.c (.d (.bN k l))))
     |_,_,_,_,_=>False)
    |_,_=>False)
   |none=>False)
  |none=>False)
 |.slice t x X hx T=>(match V.ty t,T,vZ (a.ev x),yU a X,yU a hx with
  |some g,none,some _,some lo,some hi=>(match g.sl with
   |some e=>(match V.ty e with|some q=>Mx q.sz lo hi (a.ev x) K|none=>False)
   |none=>False)
  |_,_,_,_,_=>False)
 |.makeFunc fn first E=>(match fn,first.toList with
  |.func f,[]=>(match yZ a.st.ev E.toList with|some z=>K (.e (.c (.db f z)))|none=>False)
  |_,_=>False)
 |.nilCheck x=>(match a.ev x with
  |.e (.c (.ptr s o))=>K (.e (.c (.ptr s o)))
  |.e (.c (.ty s t (.inl n)))=>K (.e (.c (.ty s t (.inl n))))
  |.e (.c (.jF s k i j))=>K (.e (.c (.jF s k i j)))
  |.e (.c (.gU w))=>K (.e (.c (.gU w)))
  |_=>False)
 |.call c=>Tz V c a K
 |_=>False
end
section
variable {P:ax}{U:gD}(V:bY P U)
theorem abp(V:bY P U)(k:U.K)(l:List (U.El k)){x:U.El k}(b:l[n]?=some x)(c:s<U.w k):(bG k l)[n*U.w k+s]?=(U.dh k x)[s]? :=by have:=Gi (U.w k) (l.map (U.dh k)) (λr a=>by rw[b_]at a;obtain⟨y,_,rfl⟩:=a;exact V.len k y) n s c;rw[bG,this,eC,b];rfl
theorem mH(V:bY P U)(k:U.K)(l:List (U.El k)):(bG k l).length=l.length*U.w k:=by
 induction l with
 |nil=>simp[bG]
 |cons x r a=>have:bG k (x::r)=U.dh k x++bG k r:=rfl;rw[this,cX,a,V.len,fZ,iN,Nat.one_mul,B8]
def PU(a:List D):dS (a.map Ab.V.d)=true:=aCR a
theorem aFX(V:bY P U){b:TI}(c:yP P t b)(k:U.K)(l:List (U.El k)){x:U.El k}(e:l[n]?=some x){r:ST U}
 (h:xR b.ag b.sz ((V.row k x).map .d) s=some r)(f:Nat.ble (s+b.sz) (U.w k)=true):mJ P t ((bG k l).map .d) (n*U.w k+s)=some r.aI:=by
 have a:=DP c h;have f:=js f;have q:((V.row k x).map SV.d).map SV.aI=(U.dh k x).map Ab.V.d:=by rw[<-V.Hl k x];simp[vf,SV.aI]
 rw[q]at a;have g:n<l.length:=(du.1 e).1;have hlen:n*U.w k+U.w k<=(bG k l).length:=by rw[mH V,<-rN];exact jS _ g
 unfold mJ at a⊢;rw[PU,c.ag,c.sz]at a⊢;have m:=V.pI k;cases o:b.ag with
 |true=>
  simp only[o,eh]at a⊢;rw[V.len k x,aM f]at a;rw[aM O];rw[<-a];congr 3;apply vj;intro p;simp only[sO,nD,eC];split
  ·rw[xd,abp V k l e O]
  ·rfl
 |false=>
  simp only[o,eC]at a⊢;by_cases u:s<U.w k
  ·rw[abp V k l e u];exact a
  ·rw[iM (by rw[V.len];omega)]at a;cases a
theorem aHh{n:TI}(f:yP P t n){g:SS U}{K:ST U->Prop}(h:TQ V n g (g.ev x) K):∃r,jf P (.load t x) g.st=some r.aI/\K r:=by
 unfold TQ at h;simp only[jf,c8];split at h
 ·rename_i s a b;rw[b];simp only[ST.aI,SE.aI,SV.aI,ga];split at h
  ·rename_i i I;rw[I];split at h
   ·rename_i r d;exact⟨r,DP f d,h⟩
   ·cases h
  ·rename_i p q v I;rw[I];split at h
   ·rename_i m;obtain⟨rfl,u,h⟩:=h;refine⟨.e (.c v),?_,h⟩;have e:mJ P t (j3 p a v.aI) a=some (.e (.c v.aI)):=by unfold mJ;rw[Te (I1 v),f.ag,m];simp only[af8 u,dP]
    exact e
   ·cases h
  ·cases h
 ·rename_i s k q j b;rw[b];simp only[ST.aI,SE.aI,SV.aI,ga];split at h
  ·rename_i o l I;rw[I];split at h
   ·rename_i l2 w;obtain⟨x,y,h⟩:=Ot h;have z:=V.qY k o l l2 w;split at h
    ·rename_i r d A;refine⟨r,?_,h⟩;have B:bG o l=bG k l2:=by unfold bG;rw[z.1]
     simp only[dP,aZ.aI,B];exact aFX V f k l2 y d A
    ·cases h
   ·cases h
  ·cases h
 ·rename_i i b;rw[b];simp only[ST.aI,SE.aI,SV.aI];split at h
  ·rename_i r d;refine⟨r,?_,h⟩;have:=DP f d;have e:(i.map SV.d).map SV.aI=(i.map SD.aI).map Ab.V.d:=by simp[vf,SV.aI]
   rw[e]at this;exact this
  ·cases h
 ·cases h
theorem TO{v:SS U}{K:ST U->Prop}(o:nu (v.ev y)=some i)(h:Bq V t (v.ev x) i K):∃r,jf P (.indexAddr t x y) v.st=some r.aI/\K r:=by
 have g:∃kk,oM (v.ev y).aI=some (.int kk i):=by
  unfold nu at o;split at o
  ·rename_i kk j p;injection o with o;subst o;rw[p];exact⟨kk,rfl⟩
  ·cases o
 obtain⟨kk,g⟩:=g;unfold Bq at h;simp only[jf,c8,g];split at h
 ·rename_i H z;have D:=V.fX t H z;rw[D.sl];split at h
  ·rename_i e p;rw[p];split at h
   ·rename_i A n;have w:=V.fX e A n;simp only[w.sz];split at h
    ·rename_i s k L q u;split at h
     ·rename_i b;have b:=cU b;obtain⟨c,d,f⟩:=h;refine⟨_,?_,f⟩;rw[u];simp only[ST.aI,SE.aI,SV.aI,Dk];rw[aM ⟨c,d,b⟩];simp[iN]
     ·cases h
    ·rename_i s k q u;split at h
     ·rename_i b;have b:=cU b;obtain⟨c,d,f⟩:=h;refine⟨_,?_,f⟩;rw[u];simp only[ST.aI,SE.aI,SV.aI,Dk];rw[aM ⟨c,d,b⟩];simp
     ·cases h
    ·rename_i k l u;split at h
     ·rename_i b;have b:=cU b;obtain⟨c,d⟩:=h;obtain⟨a,M,f⟩:=Ot d;refine⟨_,?_,f⟩;rw[u];simp only[ST.aI,SE.aI,SV.aI,SD.aI,Dk];rw[aM c,eC,M];simp only[dP];rw[aM (by rw[V.len];exact b),V.Hl]
     ·cases h
    ·cases h
   ·cases h
  ·rename_i p;rw[p];simp only[D.ar];split at h
   ·rename_i q e B;rw[B];split at h
    ·rename_i A n;have w:=V.fX e A n;split at h
     ·rename_i k xs E N;obtain⟨c,d,f⟩:=h;obtain⟨Q,R,p3,T⟩:=aEe N;refine⟨_,?_,f⟩;simp only;rw[aM ⟨c,d⟩,w.sz,R,Q];have G:i.toNat<xs.length:=O;have e1:(E.map SD.aI).drop i.toNat=SD.aI (.sc (.int k (xs.getD i.toNat 0)):SD U)::(E.drop (i.toNat+1)).map SD.aI:=by
       rw[T,kB (an G)];congr 1
       ·simp[List.getD_eq_getElem?_getD,G]
       ·rw[vm]
      simp only[ST.aI,SE.aI,SV.aI,vP,Nat.mul_one,e1,de]
     ·obtain⟨c,d,f⟩:=h;have C:=MH (m:=i.toNat) f O O;split at C
      ·rename_i r X;refine⟨r,?_,C⟩;simp only;rw[aM ⟨c,d⟩,w.sz];exact aa2 X
      ·cases C
    ·cases h
   ·cases h
 ·cases h
theorem aGF{c:Call}{o:SS U}{K:ST U->Prop}(h:Tz V c o K):∃r,jf P (.call c) o.st=some r.aI/\K r:=by
 unfold Tz at h;simp only[jf,Su];split at h
 ·rename_i x t a b q;rw[a,b,q];split at h
  ·rename_i u d;have p:=V.fX t u d;simp only[p.sl,p.st,c8];split at h
   ·rename_i e f;rw[f];split at h
    ·rename_i n v;exact⟨_,by simp only[Q9 v];rfl,h⟩
    ·cases h
   ·rename_i f;rw[f];split at h
    ·rename_i s g I;exact⟨_,by simp only[g,gT,x9 I];rfl,h⟩
    ·cases h
  ·cases h
 ·rename_i x y a b;split at h
  ·rename_i k i w j l m;exact⟨_,by rw[a,b];simp only[c8,x9 l,x9 m];rfl,h⟩
  ·cases h
 ·rename_i x y a b;split at h
  ·rename_i k i w j l m;exact⟨_,by rw[a,b];simp only[c8,x9 l,x9 m];rfl,h⟩
  ·cases h
 ·cases h
end
section
variable {P:ax}{U:gD}(V:bY P U)
def U5(a:au):(a.map λv=>(SV.d (SD.sc v):SV U)).map SV.aI=a.map λv=>Ab.V.d (.sc v):=by simp[vf,SV.aI,SD.aI]
def Fo{σ:SS U}{x:Option Operand}(h:yU σ x=some r)(d:Nat)(a:∀i,r=some i->0<=i):lK σ.st.ev x d=some ((r.map Int.toNat).getD d):=by
 cases x with
 |none=>simp only[yU,cS]at h;subst h;rfl
 |some x=>
  simp only[yU]at h;split at h
  ·rename_i i b;injection h with h;subst h
   simp only[lK,c8,aBg b (a i rfl),dP,ib]
  ·cases h
def ad3{x:ST U}(a:nu x=some i):∃kk,oM x.aI=some (.int kk i):=by
 unfold nu at a;split at a
 ·rename_i kk j;injection a with a;subst a;exact⟨kk,rfl⟩
 ·cases a
theorem aHK{op:Op}{z:SS U}{K:ST U->Prop}(h:TZ V op z K):∃r,jf P op z.st=some r.aI/\K r:=by
 unfold TZ at h;split at h
 ·exact⟨_,by simp only[jf,c8],h⟩
 ·exact⟨_,by simp only[jf,c8],h⟩
 ·rename_i c x y;split at h
  ·rename_i w;exact⟨_,by simp only[jf,c8,w];rfl,h⟩
  ·rename_i w;exact⟨_,by simp only[jf,c8,w];rfl,h⟩
  ·rename_i b w;cases b with
   |true=>exact⟨_,by simp only[jf,c8,w];rfl,h.1 rfl⟩
   |false=>exact⟨_,by simp only[jf,c8,w];rfl,h.2 rfl⟩
  ·cases h
 ·split at h
  ·rename_i vx vy q u hy ht;rw[<-(V.fX _ q ht).bo]at h;obtain⟨v,r,j,d,g⟩:=aph h;refine⟨_,?_,g⟩;simp only[jf,c8,x9 u,x9 hy,j,dP];show _=some (T.e (E.c (Ab.V.d r.aI)));rw[d];rfl
  ·cases h
 ·split at h
  ·rename_i vx u;obtain⟨v,r,j,d,g⟩:=aI9 h;refine⟨_,?_,g⟩;simp only[jf,c8,x9 u,j,dP];show _=some (T.e (E.c (Ab.V.d r.aI)));rw[d];rfl
  ·cases h
 ·split at h
  ·rename_i ts td k0 n j d g;split at h
   ·rename_i k1 k t o;refine⟨_,?_,h⟩;simp only[jf,c8,x9 g,(V.fX _ ts j).ik,(V.fX _ td d).ik,t,o];rfl
   ·cases h
  ·cases h
 ·split at h
  ·rename_i q j;split at h
   ·rename_i off ft d;split at h
    ·rename_i H g;split at h
     ·rename_i r t o;refine⟨r,?_,h⟩;rw[qh]at d;simp only[jf,c8,(V.fX _ q j).AT _ _ d,(V.fX _ H g).sz];have A:=js t;obtain⟨m,hm⟩:∃m,H.sz=m+1:=⟨H.sz-1,O⟩;rw[hm];exact aa2 o
     ·cases h
    ·cases h
   ·cases h
  ·cases h
 ·split at h
  ·rename_i i Q;exact TO V Q h
  ·cases h
 ·split at h
  ·rename_i q Q;exact aHh V (V.fX _ q Q) h
  ·cases h
 ·split at h
  ·rename_i xs u;split at h
   ·rename_i e he;refine⟨_,?_,h⟩;rw[qh]at he;simp only[jf,c8,u];show(((xs.map SE.aI)[_]?).map T.e)=_;rw[eC,he];rfl
   ·cases h
  ·cases h
 ·split at h
  ·rename_i q cs j d;split at h
   ·rename_i off ft g;split at h
    ·rename_i H t;split at h
     ·rename_i r o;refine⟨r,?_,h⟩;rw[qh]at g;simp only[jf,c8,d,(V.fX _ q j).AT _ _ g];exact DP (V.fX _ H t) o
     ·cases h
    ·cases h
   ·cases h
  ·cases h
 ·split at h
  ·rename_i i q cs j d g;obtain⟨kk,B⟩:=ad3 j;split at h
   ·rename_i len e t;split at h
    ·rename_i C o;obtain⟨A,R,L⟩:=h;have M:=MH (m:=i.toNat) L O O;split at M
     ·rename_i r hr;refine⟨r,?_,M⟩;simp only[jf,c8,B,(V.fX _ q d).ar,t,g];show(if 0<=i/\i<(len:Int)then(match fg P e with|some n=>Be P e (cs.map SV.aI) (i.toNat*n)|none=>none)else none)=_;rw[aM ⟨A,R⟩,(V.fX _ C o).sz];exact DP (V.fX _ C o) hr
     ·cases M
    ·cases h
   ·cases h
  ·rename_i i q s j d g;obtain⟨kk,B⟩:=ad3 j;split at h
   ·rename_i t o;obtain⟨A,R,L⟩:=h;refine⟨_,?_,L⟩;have hT:=V.fX _ q d;have N:i.toNat<s.data.size:=by have:s.size=s.data.size:=rfl;omega
    have w:s[i.toNat]?=some (s.data.toList.getD i.toNat 0):=by have e1:i.toNat<s.size:=N;rw[getElem?_pos s i.toNat e1];congr 1;rw[List.getD_eq_getElem?_getD,yh,Es N];rfl
    simp only[jf,c8,B,hT.ar,t,g];show(if rr P _=true/\0<=i then(match s[i.toNat]? with|some c=>some (T.e (E.c (Ab.V.d (D.sc (.int .u8 c.toNat)))))|none=>none)else none)=_;rw[aM ⟨hT.st.trans o,A⟩,w];rfl
   ·cases h
  ·cases h
 ·split at h
  ·rename_i q j;split at h
   ·rename_i ps zs d g;split at h
    ·rename_i cs t;refine⟨_,?_,h⟩;have o:=abb ps _ _ _ t;rw[U5,jc]at o;have G:=V.fX _ q j;simp only[jf,G.pl _ d,G.zs _ g,c8];have e:((λp:Nat×ST U=>(p.1,p.2.aI))∘λp:Nat×Operand=>(p.1,z.ev p.2))=λp=>(p.1,(z.ev p.2).aI):=rfl
     rw[e]at o;rw[o];rfl
    ·cases h
   ·cases h
  ·cases h
 ·split at h
  ·rename_i q j;split at h
   ·rename_i e d;split at h
    ·rename_i C k g t;split at h
     ·rename_i zs l o A R L M;refine⟨_,?_,h⟩;have G:=V.fX _ q j;have X:=V.fX _ C g;have hk:=V.zi _ _ t;rw[X.sz,cS]at hk;have hp:=SK V z _ _ _ M;have hz:=X.zl _ o;have h7':=js R;have h8':=js L;have hpos:=V.pI k;simp only[jf,G.sl,d,X.sz,X.zs _ o];rw[aM ⟨by simpa using hz,cU A,h8',O,O⟩,hk,hp.1];rfl
     ·cases h
    ·cases h
   ·cases h
  ·cases h
 ·split at h
  ·rename_i q ln lo Q j d g t;split at h
   ·rename_i e o;split at h
    ·rename_i C A;have G:=V.fX _ q j;obtain⟨a,b,r,e1,hK,⟨rfl,rfl⟩,e2,e3⟩:=ahT V d h;refine⟨r,?_,hK⟩;simp only[jf,G.sl,o,c8,Q9 d,(V.fX _ C A).sz];have b1:=Fo g 0 e2;have b2:=Fo t ln e3;have e0:z.st.ev=λx=>(z.ev x).aI:=funext λx=>c8 z x
     rw[b1,b2];exact e1
    ·cases h
   ·cases h
  ·cases h
 ·split at h
  ·rename_i f hf;split at h
   ·rename_i caps w;exact⟨_,by simp only[jf,hf,w];rfl,h⟩
   ·cases h
  ·cases h
 ·split at h
  ·rename_i u;exact⟨_,by simp only[jf,c8,u];rfl,h⟩
  ·rename_i u;exact⟨_,by simp only[jf,c8,u];rfl,h⟩
  ·rename_i u;exact⟨_,by simp only[jf,c8,u];rfl,h⟩
  ·rename_i u;exact⟨_,by simp only[jf,c8,u];rfl,h⟩
  ·cases h
 ·exact aGF V h
 ·cases h
end
section
variable {P:ax}{U:gD}
def fA.aex{ops:av}{o:Oper}{σ:St}(h:fA ops o σ)(k:xe ops o σ):False:=by
 obtain⟨j,want,t,k1,k2,c⟩:=k;rcases h with h|⟨p,a,q,d,f,g⟩
 ·rw[h]at k1;cases k1
 ·rw[d]at k1;injection k1 with k1;injection k1 with i l;subst i;subst l
  rw[f]at k2;injection k2 with k2;subst k2
  rw[g]at c;rcases c with⟨b,e,m⟩|e
  ·injection e with e;injection e with e;injection e with e;injection e with e;injection e with e;subst e;simp at m
  ·cases e
theorem SQ.JM{n:Nat}{aU:ap}{ops:av}{o:Oper}{σ a:St}{f:Ft}(h:SQ P n aU ops o σ a f)(q:fA ops o σ)(g:∀l∈lk ops o,l∈f.rd){s:Nat}{cs cs':List V}
 (I:a.heap s=some cs)(i:lU cs cs')(c:2*s+1∈f.wr):SQ P n aU ops o σ ⟨a.aV,cZ a.heap s (some cs')⟩ f where
 frame l hl:=by
  have:=h.frame l hl;rw[<-this];unfold St.at;split
  ·rfl
  ·simp only[cZ];rw[Z];rintro e;apply hl;rw[show l=2*s+1 by omega];exact c
 go b m h2:=by
  have k:=q.congr (v7 (f:=f) g m);rcases h.go b m h2 with⟨_,d⟩|⟨p,_⟩
  ·refine .inl ⟨k,d.u9 ?_⟩;have e:ku b ⟨a.aV,cZ a.heap s (some cs')⟩ f.wr=⟨(ku b a f.wr).aV,cZ (ku b a f.wr).heap s (some cs')⟩:=by
    unfold ku;congr 1;funext u;simp only[cZ];by_cases j:u=s
    ·subst j;simp[c]
    ·simp[j]
   rw[e];exact d_.JM (by simp only[ku];rw[aM c];exact I) i
  ·exact(k.aex p).elim
structure kD(P:ax)(n:Nat)(ops:av)(o:Oper)(aN:aq)(σ σ':SS U)(f:Ft):Prop where
 sq:SQ P n (·∈aN) ops o σ.st σ'.st f
 kl:∀s∈f.kl,∀l,l∉f.wr->¬(σ.st.at l).bx s
def SS.put(σ:SS U)(d:Option Nat)(r:ST U):SS U:=match d with|none=>σ|some d=> { σ with aV:=(d,r)::σ.aV}
def oa(σ:SS U)(d:Option Nat)(r:ST U):(σ.put d r).st=σ.st.put d r.aI:=by cases d<;>rfl
def m_(n:Nat):Option Nat->Bool
 |none=>true
 |some d=>Nat.blt d n
def na{n:Nat}{d:Option Nat}(h:m_ n d=true):jv n d:=by intro j a;subst a;exact js h
def rdS(o:Oper)(σ:SS U):List Nat:=
 match o.op with
 |.load _ x=>(match σ.ev x with|.e (.c (.ptr s _))=>[2*s+1]|.e (.c (.jF s _ _ _))=>[2*s+1]|_=>[])
 |_=>[]
def fN(n:Nat)(K:ap):Prop:=match n with|0=>K 0|m+1=>K (m+1)
def tc{n:Nat}{K:ap}(h:fN n K):K n:=by cases n<;>exact h
def J8:List (Nat×Nat)->(List (Nat×Nat)->Prop)->Prop
 |[],K=>K []
 |(s,o)::r,K=>fN s λs=>J8 r λr=>K ((s,o)::r)
theorem aaW:∀{l:List (Nat×Nat)} {K:List (Nat×Nat)->Prop},J8 l K->K l
 |[],_,h=>h
 |(s,o)::r,K,h=>aaW (l:=r) (K:=λr=>K ((s,o)::r)) (tc (K:=λs=>J8 r λr=>K ((s,o)::r)) h)
def fV(v:SV U)(K:SV U->Prop):Prop:=
 match v with
 |.d (.sc (.int k n))=>K (.d (.sc (.int k n)))
 |.d (.sc v)=>K (.d (.sc v))
 |.d (.cK b)=>K (.d (.cK b))
 |.d (.bN k l)=>K (.d (.bN k l))
 |.ptr s o=>fN s λs=>K (.ptr s o)
 |.jF s k i j=>fN s λs=>K (.jF s k i j)
 |.sub s k o l=>fN s λs=>K (.sub s k o l)
 |.aX s k l=>fN s λs=>K (.aX s k l)
 |.gU e=>K (.gU e)
 |.db f c=>J8 c λc=>K (.db f c)
 |.mp s=>fN s λs=>K (.mp s)
 |.ty s t a=>fN s λs=>K (.ty s t a)
 |.any=>K .any
def Qe{v:SV U}{K:SV U->Prop}(h:fV v K):K v:=by
 unfold fV at h;split at h
 ·exact h
 ·exact h
 ·exact h
 ·exact h
 ·exact tc (K:=λs=>K (.ptr s _)) h
 ·exact tc (K:=λs=>K (.jF s _ _ _)) h
 ·exact tc (K:=λs=>K (.sub s _ _ _)) h
 ·exact tc (K:=λs=>K (.aX s _ _)) h
 ·exact h
 ·exact aaW (K:=λc=>K (.db _ c)) h
 ·exact tc (K:=λs=>K (.mp s)) h
 ·exact tc (K:=λs=>K (.ty s _ _)) h
 ·exact h
def Ge:List (SV U)->(List (SV U)->Prop)->Prop
 |[],K=>K []
 |v::r,K=>fV v λv=>Ge r λr=>K (v::r)
theorem Qf:∀{l:List (SV U)} {K:List (SV U)->Prop},Ge l K->K l
 |[],_,h=>h
 |v::r,K,h=>Qf (l:=r) (K:=λr=>K (v::r)) (Qe (K:=λv=>Ge r λr=>K (v::r)) h)
def fE(x:SE U)(K:SE U->Prop):Prop:=
 match x with
 |.c v=>fV v λv=>K (.c v)
 |.agg a=>Ge a λa=>K (.agg a)
def aaY{x:SE U}{K:SE U->Prop}(h:fE x K):K x:=by
 unfold fE at h;split at h
 ·exact Qe (K:=λv=>K (.c v)) h
 ·exact Qf (K:=λa=>K (.agg a)) h
def J_:List (SE U)->(List (SE U)->Prop)->Prop
 |[],K=>K []
 |v::r,K=>fE v λv=>J_ r λr=>K (v::r)
theorem aaZ:∀{l:List (SE U)} {K:List (SE U)->Prop},J_ l K->K l
 |[],_,h=>h
 |v::r,K,h=>aaZ (l:=r) (K:=λr=>K (v::r)) (aaY (K:=λv=>J_ r λr=>K (v::r)) h)
def fT(x:ST U)(K:ST U->Prop):Prop:=
 match x with
 |.e x=>fE x λx=>K (.e x)
 |.cE a=>J_ a λa=>K (.cE a)
 |.any=>K .any
def Ka{x:ST U}{K:ST U->Prop}(h:fT x K):K x:=by
 unfold fT at h;split at h
 ·exact aaY (K:=λv=>K (.e v)) h
 ·exact aaZ (K:=λa=>K (.cE a)) h
 ·exact h
def fB(b:aZ U)(K:aZ U->Prop):Prop:=
 match b with
 |.cells a=>Ge a λa=>K (.cells a)
 |.aW k l=>K (.aW k l)
 |.lc d=>K (.lc d)
 |.hY c i v=>fV v λv=>K (.hY c i v)
def avd{b:aZ U}{K:aZ U->Prop}(h:fB b K):K b:=by
 unfold fB at h;split at h
 ·exact Qf (K:=λa=>K (.cells a)) h
 ·exact h
 ·exact h
 ·exact Qe (K:=λv=>K (.hY _ _ v)) h
def zb:List (Nat×aZ U)->(List (Nat×aZ U)->Prop)->Prop
 |[],K=>K []
 |(s,b)::r,K=>fN s λs=>fB b λb=>zb r λr=>K ((s,b)::r)
theorem Qc:∀{l:List (Nat×aZ U)} {K:List (Nat×aZ U)->Prop},zb l K->K l
 |[],_,h=>h
 |(s,b)::r,K,h=>Qc (l:=r) (K:=λr=>K ((s,b)::r)) (avd (K:=λb=>zb r λr=>K ((s,b)::r)) (tc (K:=λs=>fB b λb=>zb r λr=>K ((s,b)::r)) h))
def Qb(E:List (Nat×ST U))(K:List (Nat×ST U)->Prop):Prop:=
 match E with
 |[]=>K []
 |(i,t)::[]=>K [(i,t)]
 |(i,t)::y::r=>K ((i,t)::y::r)
def ave{E:List (Nat×ST U)}{K:List (Nat×ST U)->Prop}(h:Qb E K):K E:=by unfold Qb at h;split at h<;>exact h
def J9:List (Nat×ST U)->(List (Nat×ST U)->Prop)->Prop
 |[],K=>K []
 |(i,t)::r,K=>fT t λt=>J9 r λr=>K ((i,t)::r)
theorem aaX:∀{l:List (Nat×ST U)} {K:List (Nat×ST U)->Prop},J9 l K->K l
 |[],_,h=>h
 |(i,t)::r,K,h=>aaX (l:=r) (K:=λr=>K ((i,t)::r)) (Ka (K:=λt=>J9 r λr=>K ((i,t)::r)) h)
def fS(σ:SS U)(K:SS U->Prop):Prop:=match σ with|⟨E,H,C⟩=>Qb E λE=>zb H λH=>fN C λC=>K ⟨E,H,C⟩
def Qd{σ:SS U}{K:SS U->Prop}(h:fS σ K):K σ:=by obtain⟨E,H,C⟩:=σ;exact tc (K:=λC=>K ⟨E,H,C⟩) (Qc (K:=λH=>fN C λC=>K ⟨E,H,C⟩) (ave (K:=λE=>zb H λH=>fN C λC=>K ⟨E,H,C⟩) h))
def rZ(σ:SS U)(K:SS U->Prop):Prop:=match σ with|⟨E,H,C⟩=>J9 E λE=>zb H λH=>fN C λC=>K ⟨E,H,C⟩
def vN{σ:SS U}{K:SS U->Prop}(h:rZ σ K):K σ:=by obtain⟨E,H,C⟩:=σ;exact tc (K:=λC=>K ⟨E,H,C⟩) (Qc (K:=λH=>fN C λC=>K ⟨E,H,C⟩) (aaX (K:=λE=>zb H λH=>fN C λC=>K ⟨E,H,C⟩) h))
variable (V:bY P U)(n:Nat)(ops:av)(aN:aq)(o:Oper)(σ:SS U)(K:SS U→Ft→Prop)
def yb:Prop:=match m_ n o.dst with|true=>TZ V o.op σ λr=>fT r λr=>K (σ.put o.dst r) ⟨rdS o σ++lk ops o,dl o,[]⟩|false=>False
variable {V n ops aN o σ K}
theorem SQ.af9{aU:ap}{σ:St}{rd a b:aq}(h:SQ P n aU ops o σ X ⟨rd,a,b⟩)(c:∀l∈rd,l∈Q):SQ P n aU ops o σ X ⟨Q,a,b⟩where
 frame:=h.frame
 go d e h2:=h.go d (λl f=>e l (f.imp (c l) id)) h2
theorem Bw(h:yb V n ops o σ K)(k:fA ops o σ.st):∃b f,kD P n ops o aN σ b f/\K b f:=by
 unfold yb at h;split at h
 case h_2=>cases h
 rename_i g;have g:=na g;obtain⟨r,p,hK⟩:=aHK V h;refine⟨_,_,⟨?_,λs I=>by simp at I⟩,Ka (K:=λr=>K (σ.put o.dst r) _) hK⟩;rw[oa];rcases Sv (o:=o) p with q|⟨t,x,s,i,y,m,a,w,u⟩
 ·exact(SQ.pure k q g).af9 λl d=>cq.2 (.inr d)
 ·refine(SQ.load k t x s i y m a w u g).af9 λl d=>?_
  rcases da.1 d with rfl|d
  ·refine cq.2 (.inl ?_);unfold rdS;rw[m];simp only;rw[c8]at a;cases j:σ.ev x with
   |e e=>
    rw[j]at a;cases e with
    |c v=>
     simp only[ST.aI,SE.aI,T.e.injEq,E.c.injEq]at a;cases v<;>simp only[SV.aI,reduceCtorEq,Ab.V.ptr.injEq]at a
     ·simp[a.1]
     ·simp[a.1]
    |agg A=>cases a
   |cE z=>rw[j]at a;cases a
   |any=>rw[j]at a;cases a
  ·exact cq.2 (.inr d)
def zL(n:Nat)(ops:av)(aN:aq)(o:Oper)(σ:SS U)(b:aZ U)(r:ST U)(K:SS U->Ft->Prop):Prop:=
 match m_ n o.dst,cd σ.heap σ.bZ,aN.contains σ.bZ with
 |true,none,false=>K { σ.put o.dst r with heap:=(σ.bZ,b)::σ.heap,bZ:=σ.bZ+1} ⟨lk ops o,(2*σ.bZ+1)::dl o,[]⟩
 |_,_,_=>False
def ad7(σ:SS U)(d:Option Nat)(r:ST U)(b:aZ U)(c:Nat):({ σ.put d r with heap:=(σ.bZ,b)::σ.heap,bZ:=c}:SS U).st=⟨(σ.st.put d r.aI).aV,cZ σ.st.heap σ.bZ (some b.aI)⟩:=by
 have a:=oa σ d r;have e:(σ.put d r).heap=σ.heap:=by cases d<;>rfl
 unfold SS.st at a⊢;simp only;rw[<-a];congr 1
def D8{b:aZ U}{r:ST U}(h:zL n ops aN o σ b r K)(d:fA ops o σ.st)(cs:List Ab.V)(j:tS P o σ.st.ev σ.bZ cs r.aI)(c:lU cs b.aI):∃a f,kD P n ops o aN σ a f/\K a f:=by
 unfold zL at h;split at h
 ·rename_i p m l;refine⟨_,_,⟨?_,λs I=>by simp at I⟩,h⟩;rw[ad7];have g:σ.st.heap σ.bZ=none:=by rw[ga,m];rfl
  have e:¬σ.bZ∈aN:=by intro i;have:aN.contains σ.bZ=true:=an i;rw[l]at this;cases this
  have:=SQ.alloc (P:=P) (n:=n) (aU:=(·∈aN)) d σ.bZ cs j (na p) e g;have k:=this.JM d (λ_ h=>h) (s:=σ.bZ) (cs:=cs) (cs':=b.aI) (by simp[cZ]) c ai;refine cast (bi (λz=>SQ P n (·∈aN) ops o σ.st z _) ?_) k;congr 1;funext u;simp only[cZ];split<;>rfl
 ·cases h
def T8(V:bY P U)(ops:av)(o:Oper)(σ:SS U)(t:TypeId)(x y:aw)(K:SS U->Ft->Prop):Prop:=
 match o.dst,V.ty t,σ.ev x,σ.ev y with
 |none,some b,.e (.c (.ptr s a)),.e e=>
  (match cd σ.heap s with
   |some (.cells g)=>(match Nat.beq e.cells.length b.sz,Nat.ble (a+b.sz) g.length with
    |true,true=>K { σ with heap:=su σ.heap s (.cells (MF g a e.cells))} ⟨lk ops o,(2*s+1)::dl o,[]⟩
    |_,_=>False)
   |some (.hY d i v)=>(match e,Nat.beq b.sz 1 with
    |.c m,true=>a=i/\i<d.length/\K { σ with heap:=su σ.heap s (.hY d i m)} ⟨lk ops o,(2*s+1)::dl o,[]⟩
    |_,_=>False)
   |_=>False)
 |none,some b,.e (.c (.jF s k i j)),.e e=>
  (match cd σ.heap s with
   |some (.aW p l)=>(match V.cast k p l,Nat.beq e.cells.length b.sz,Nat.ble (j+b.sz) (U.w k),Ec e.cells with
    |some l,true,true,some f=>Jc l i λx=>(match V.DM k ((V.row k x).take j++f++(V.row k x).drop (j+f.length))with
     |some h=>K { σ with heap:=su σ.heap s (.aW k (l.set i h))} ⟨lk ops o,(2*s+1)::dl o,[]⟩
     |none=>False)
    |_,_,_,_=>False)
   |_=>False)
 |_,_,_,_=>False
def Ms(σ:SS U)(s:Nat)(b a:aZ U)(h:cd σ.heap s=some a):({ σ with heap:=su σ.heap s b}:SS U).st=⟨σ.st.aV,cZ σ.st.heap s (some b.aI)⟩:=by
 unfold SS.st;simp only;congr 1;funext u;rw[iG,Ku _ _ _ _ _ h];simp only[cZ];split
 ·rfl
 ·rw[iG]
def aHQ(A B a b:List D)(j:Nat)(c:j+b.length<=a.length):
 (A++a++B).take (A.length+j)++b++(A++a++B).drop (A.length+j+b.length)=A++(a.take j++b++a.drop (j+b.length))++B:=by
 rw[gM A a B,List.take_length_add_append,ET O,xd,List.drop_length_add_append,Wr O];simp[gM]
theorem Qn{V:bY P U}(k:U.K)(l:List (U.El k)){x:U.El k}(h:l[s]?=some x):∃A B,bG k l=A++U.dh k x++B/\A.length=s*U.w k/\(∀y,bG k (l.set s y)=A++U.dh k y++B)/\A.map D.cB=A/\B.map D.cB=B:=by
 obtain⟨c,rfl⟩:=du.1 h;have d:∀l:List (U.El k),(bG k l).map D.cB=bG k l:=by
  intro l
  induction l with
  |nil=>rfl
  |cons a r j=>have:bG k (a::r)=U.dh k a++bG k r:=rfl;rw[this,ia,V.f_,j]
 have f:∀a b:List (U.El k),bG k (a++b)=bG k a++bG k b:=λa b=>by simp[bG]
 refine⟨bG k (l.take s),bG k (l.drop (s+1)),?_,?_,λy=>?_,d _,d _⟩
 ·have e:l=l.take s++l[s]::l.drop (s+1):=by rw[<-kB c,o0]
  have g:=bi (bG k) e;rw[f]at g;rw[g,gM];rfl
 ·rw[mH V,gw,kC (EZ c)]
 ·rw[NQ,aM c,f,gM];rfl
theorem aHU(h:T8 V ops o σ t x y K)(G:fA ops o σ.st)(N:o.op=.store t x y):∃w f,kD P n ops o aN σ w f/\K w f:=by
 unfold T8 at h;split at h
 ·rename_i ti s m e b p H L;have M:=V.fX _ _ p;split at h
  ·rename_i cs I;split at h
   ·rename_i g r;refine⟨_,_,⟨?_,λs I=>by simp at I⟩,h⟩;rw[Ms _ _ _ _ I]
    have:=SQ.store (P:=P) (n:=n) (aU:=(·∈aN)) G t x y N b s m (cs.map SV.aI) e.aI ti.sz (by rw[c8,H];rfl) (by rw[c8,L];rfl) (by rw[ga,I];rfl) M.sz
     (by rw[Ax];simpa using cU g) (by simpa using js r) (Ju cs)
    rw[Ax,<-ah4]at this;exact this
   ·cases h
  ·rename_i vs i v I;split at h
   ·rename_i Q g;obtain⟨rfl,r,h⟩:=h;refine⟨_,_,⟨?_,λs I=>by simp at I⟩,h⟩;rw[Ms _ _ _ _ I]
    have:=SQ.store (P:=P) (n:=n) (aU:=(·∈aN)) G t x y N b s m (j3 vs m v.aI) (.c Q.aI) ti.sz (by rw[c8,H];rfl) (by rw[c8,L];rfl) (by rw[ga,I];rfl) M.sz
     (by rw[cU g];rfl) (by unfold j3;rw[cU g];simp;omega) (Te (I1 v))
    rw[show(E.c Q.aI).cells=[Q.aI]from rfl,aFz r]at this;exact this
   ·cases h
  ·cases h
 ·rename_i ti s k i j e b p H L;have M:=V.fX _ _ p;split at h
  ·rename_i k' l0 I;split at h
   ·rename_i l q hl g r h3;obtain⟨a,ha,h⟩:=Ot h;split at h
    ·rename_i a' hp;refine⟨_,_,⟨?_,λs I=>by simp at I⟩,h⟩;rw[Ms _ _ _ _ I];have hc:=V.qY _ _ _ _ hl;have e1:bG k' l0=bG k l:=by unfold bG;rw[hc.1]
     have g:=cU g;have r:=js r;have C:=Ur _ _ h3;have hdl:q.length=ti.sz:=by have:=bi List.length C;rw[eh]at this;omega
     obtain⟨A,B,X,f2,f3,f4,f5⟩:=Qn (V:=V) k l ha;have R:=V.len k a;have T:(bG k l).length=A.length+U.w k+B.length:=by rw[X,cX,cX,R]
     have:=SQ.store (P:=P) (n:=n) (aU:=(·∈aN)) G t x y N b s (i*U.w k+j) ((bG k l).map .d) e.aI ti.sz (by rw[c8,H];rfl) (by rw[c8,L];rfl) (by rw[ga,I];simp only[dP,aZ.aI,e1]) M.sz
      (by rw[Ax];simpa using g) (by rw[eh,T];omega) (PU _)
     have h6:=this.JM G (λ_ h=>h) (s:=s) (cs':=(bG k (l.set i a')).map .d) (by simp[cZ];rfl) ?_ ai
     ·refine cast (bi (λz=>SQ P n (·∈aN) ops o σ.st z _) ?_) h6;congr 1;funext u;simp only[cZ];split<;>rfl
     ·have e2:kA ((bG k l).map Ab.V.d) (i*U.w k+j) e.aI.cells=((bG k l).take (A.length+j)++q.map SD.aI++(bG k l).drop (A.length+j+(q.map SD.aI).length)).map Ab.V.d:=by rw[Ax,C,<-f2];simp[kA,vm,vo,vf,SV.aI]
      rw[e2,X,aHQ _ _ _ _ _ (by simp;omega),f3];have e3:=V.G8 _ _ _ hp;have e4:U.dh k a'=(((U.dh k a).take j++q.map SD.aI++(U.dh k a).drop (j+(q.map SD.aI).length))).map D.cB:=by rw[<-e3,<-V.Hl k a];simp[vm,vo,vf]
      have e5:=lU.cB ((A++((U.dh k a).take j++q.map SD.aI++(U.dh k a).drop (j+(q.map SD.aI).length))++B).map Ab.V.d);refine cast (bi (lU _) ?_) e5;rw[e4,jc];have e6:(Ab.V.cB∘Ab.V.d)=Ab.V.d∘D.cB:=rfl;rw[e6,<-jc];refine bi (List.map Ab.V.d) ?_;rw[ia,ia,f4,f5]
    ·cases h
   ·cases h
  ·cases h
 ·cases h
end
section
variable {P:ax}{U:gD}
def SV.nm(s:Nat):SV U->Bool
 |.ptr t _=>Nat.beq t s
 |.jF t _ _ _=>Nat.beq t s
 |.sub t _ _ _=>Nat.beq t s
 |.aX t _ _=>Nat.beq t s
 |.db _ a=>a.any λp=>Nat.beq p.1 s
 |.mp t=>Nat.beq t s
 |.ty t _ _=>Nat.beq t s
 |_=>false
def SE.nm(s:Nat):SE U->Bool
 |.c v=>v.nm s
 |.agg a=>a.any (SV.nm s)
def ST.nm(s:Nat):ST U->Bool
 |.e x=>x.nm s
 |.cE a=>a.any (SE.nm s)
 |.any=>false
def apc(a b:Nat):Nat.beq a b=(a==b):=by rw[oV,gQ];exact⟨IM,λh=>by subst h;exact IL a⟩
def SV.oE(s:Nat)(v:SV U):v.aI.jD s=v.nm s:=by cases v<;>simp[SV.aI,SV.nm,V.jD,apc]
theorem SE.oE(s:Nat)(x:SE U):x.aI.jD s=x.nm s:=by
 cases x with
 |c v=>exact SV.oE s v
 |agg a=>simp only[SE.aI,E.jD,SE.nm,List.any_map];congr 1;funext v;exact SV.oE s v
theorem ST.oE(s:Nat)(x:ST U):x.aI.jD s=x.nm s:=by
 cases x with
 |e v=>exact SE.oE s v
 |cE a=>simp only[ST.aI,T.jD,ST.nm,List.any_map];congr 1;funext v;exact SE.oE s v
 |any=>rfl
def SV.kl(s:Nat)(v:SV U):SV U:=match v.nm s with|true=>.any|false=>v
def ST.kl(s:Nat)(v:ST U):ST U:=match v.nm s with|true=>.any|false=>v
def SV.q8(s:Nat)(v:SV U):(v.kl s).aI=v.aI.cu s:=by
 unfold SV.kl;have h:=SV.oE s v;split
 ·rename_i e;rw[e]at h;have:=V.mK.1 h;cases v<;>simp_all[SV.aI,V.cu,V.bx,SV.nm,V.jD]
 ·rename_i e;rw[e]at h;exact(V.xI (λa=>by rw[V.mK.2 a]at h;cases h)).symm
def aZ.kl(s:Nat):aZ U->aZ U
 |.cells c=>.cells (c.map (SV.kl s))
 |.hY a i v=>.hY a i (v.kl s)
 |b=>b
theorem aZ.q8(s:Nat)(b:aZ U):(b.kl s).aI=b.aI.map (V.cu s):=by
 cases b with
 |cells d=>simp only[aZ.kl,aZ.aI,jc];congr 1;funext v;exact SV.q8 s v
 |aW k l=>simp[aZ.kl,aZ.aI,vf,V.cu]
 |lc c=>simp[aZ.kl,aZ.aI,V.cu]
 |hY a i v=>exact(bi (j3 a i) (SV.q8 s v)).trans (Hd (V.cu s) (λ_=>rfl) a i v.aI).symm
def vX(s:Nat)(l:List (Nat×ST U)):List (Nat×ST U):=l.map λp=>(p.1,p.2.kl s)
def r7(s:Nat):List (Nat×aZ U)->List (Nat×aZ U)
 |[]=>[]
 |(j,b)::r=>match Nat.beq j s with|true=>r7 s r|false=>(j,b.kl s)::r7 s r
theorem Ks(s:Nat):∀(l:List (Nat×ST U)) (i:Nat),gG (vX s l) i=(gG l i).kl s
 |[],_=>rfl
 |(j,t)::r,i=>by
  simp only[vX,de,gG];split
  ·rfl
  ·exact Ks s r i
theorem Gq(s:Nat):∀(l:List (Nat×aZ U)) (u:Nat),cd (r7 s l) u=if u=s then none else(cd l u).map (aZ.kl s)
 |[],u=>by simp[r7,cd]
 |(j,t)::r,u=>by
  simp only[r7];cases b:Nat.beq j s with
  |true=>
   simp only;rw[Gq s r u];by_cases a:u=s
   ·simp[a]
   ·have:Nat.beq u j=false:=by
     cases h:Nat.beq u j with
     |false=>rfl
     |true=>exact absurd ((cU h).trans (cU b)) a
    simp only[a,lM,cd,this]
  |false=>
   simp only[cd];cases h:Nat.beq u j with
   |true=>have e:=cU h;rw[Z (by rw[e];exact o9 b)];rfl
   |false=>exact Gq s r u
def tI(s:Nat)(l:List (Nat×ST U)):List Nat:=(l.map (·.1)).filter λi=>(gG l i).nm s
def xt(s:Nat)(l:List (Nat×aZ U)):List Nat:=(l.map (·.1)).filter λi=>match cd l i with|some (.cells a)=>a.any (SV.nm s)|some (.hY _ _ v)=>v.nm s|_=>false
theorem Qz:∀(l:List (Nat×ST U)) (i:Nat),gG l i≠.any->i∈l.map (·.1)
 |[],_,h=>by simp[gG]at h
 |(j,t)::r,i,h=>by
  simp only[gG]at h;cases a:Nat.beq i j with
  |true=>simp[cU a]
  |false=>rw[a]at h;simp only at h;simp only[de,da];exact .inr (Qz r i h)
theorem QB:∀(l:List (Nat×aZ U)) (i:Nat) (b:aZ U),cd l i=some b->i∈l.map (·.1)
 |[],_,_,h=>by simp[cd]at h
 |(j,t)::r,i,b,h=>by
  simp only[cd]at h;cases a:Nat.beq i j with
  |true=>simp[cU a]
  |false=>rw[a]at h;simp only at h;simp only[de,da];exact .inr (QB r i b h)
def zU(s:Nat)(l:List (Nat×ST U))(i:Nat):i∈tI s l↔(gG l i).nm s=true:=by unfold tI;rw[jr];refine⟨λh=>h.2,λh=>⟨Qz l i ?_,h⟩⟩;intro e;rw[e]at h;cases h
def Cv(s:Nat)(l:List (Nat×aZ U))(u:Nat)(b:aZ U)(h:cd l u=some b)(d:∃v∈b.aI,v.bx s):u∈xt s l:=by
 unfold xt;rw[jr];refine⟨QB l u b h,?_⟩;simp only[h];obtain⟨v,c,d⟩:=d;cases b with
 |cells j=>simp only[aZ.aI,b_]at c;obtain⟨a,e,rfl⟩:=c;simp only[rF];exact⟨a,e,by rw[<-SV.oE];exact V.mK.2 d⟩
 |aW k l=>simp only[aZ.aI,b_]at c;obtain⟨a,e,rfl⟩:=c;cases d
 |lc g=>simp only[aZ.aI,cL]at c;subst c;cases d
 |hY f i a=>
  rcases Ma (show v∈j3 f i a.aI from c)with rfl|⟨u,rfl⟩
  ·simp only;rw[<-SV.oE];exact V.mK.2 d
  ·cases d
def D_(V:bY P U)(k:U.K)(g:SS U)(y:ST U)(K:List (U.El k)->Prop):Prop:=
 match y with
 |.e (.c (.d (.bN f l)))=>(match V.cast k f l with|some l=>K l|none=>False)
 |.e (.c (.d (.sc (.slice none 0 0))))=>K []
 |.e (.c (.aX s f a))=>(match cd g.heap s with
  |some (.aW k2 l)=>(match V.cast k k2 l,Nat.beq (U.w f) (U.w k)with|some l,true=>a=l.length/\K l|_,_=>False)
  |_=>False)
 |.e (.c (.sub s f b a))=>(match cd g.heap s with
  |some (.aW k2 l)=>(match V.cast k k2 l,Nat.beq (U.w f) (U.w k)with|some l,true=>b+a<=l.length/\K ((l.drop b).take a)|_,_=>False)
  |_=>False)
 |_=>False
def uC:ST U->List Nat
 |.e (.c (.aX s _ _))=>[s]
 |.e (.c (.sub s _ _ _))=>[s]
 |_=>[]
def AS(V:bY P U)(k:U.K)(l:List (U.El k))(b c:Nat):((bG k l).drop (b*U.w k)).take (c*U.w k)=bG k ((l.drop b).take c):=by
 have f:∀(l:List (U.El k)) (b:Nat),(bG k l).drop (b*U.w k)=bG k (l.drop b):=by
  intro l
  induction l with
  |nil=>intro b;simp[bG]
  |cons a r d=>
   intro b;cases b with
   |zero=>simp
   |succ m=>have:bG k (a::r)=U.dh k a++bG k r:=rfl;rw[this,rN,B8,Ip,V.len];rw[mU (by rw[V.len];omega)];simp[d]
 have e:∀(l:List (U.El k)) (c:Nat),(bG k l).take (c*U.w k)=bG k (l.take c):=by
  intro l
  induction l with
  |nil=>intro c;simp[bG]
  |cons a r d=>
   intro c;cases c with
   |zero=>simp[bG]
   |succ m=>have h:bG k (a::r)=U.dh k a++bG k r:=rfl;have g:bG k ((a::r).take (m+1))=U.dh k a++bG k (r.take m):=rfl;rw[h,g,rN,B8,List.take_append,V.len,eL (by rw[V.len];omega)];simp[d]
 rw[f,e]
def MJ{V:bY P U}{k:U.K}{m:SS U}{y:ST U}{K:List (U.El k)->Prop}(h:D_ V k m y K):∃l,mN (U.w k) m.st.heap y.aI=some ((bG k l).map .d,l.length)/\K l/\∀u,y.aI.bx u->u∈uC y:=by
 unfold D_ at h;split at h
 ·rename_i o l;split at h
  ·rename_i n c;have e:=V.qY _ _ _ _ c;refine⟨n,?_,h,λu a=>a.elim⟩;simp only[ST.aI,SE.aI,SV.aI,SD.aI,mN];rw[e.1,aM (aau V k n)];simp[bG]
  ·cases h
 ·exact⟨[],rfl,h,λu a=>a.elim⟩
 ·rename_i s o b;split at h
  ·rename_i k2 g I;split at h
   ·rename_i l c i;have e:=V.qY _ _ _ _ c;have j:bG k2 g=bG k l:=by unfold bG;rw[e.1]
    obtain⟨rfl,h⟩:=h;refine⟨l,?_,h,λu a=>by cases a;simp[uC]⟩;simp only[ST.aI,SE.aI,SV.aI,mN,ga,I,dP,aZ.aI,j];rw[aM ⟨cU i,by rw[eh,mH V];omega⟩];have:=AS V k l 0 l.length;simp only[IS,rG,im]at this;rw[rG,<-vo,this]
   ·cases h
  ·cases h
 ·rename_i s o f b;split at h
  ·rename_i k2 g I;split at h
   ·rename_i l c i;have e:=V.qY _ _ _ _ c;have j:bG k2 g=bG k l:=by unfold bG;rw[e.1]
    obtain⟨p,h⟩:=h;refine⟨(l.drop f).take b,?_,h,λu a=>by cases a;simp[uC]⟩;simp only[ST.aI,SE.aI,SV.aI,mN,ga,I,dP,aZ.aI,j];rw[cU i,aM ⟨rfl,by rw[eh,mH V,<-iN];exact jS _ p⟩];rw[<-AS V,vo,vm];simp;omega
   ·cases h
  ·cases h
 ·cases h
end
section
variable {P:ax}{U:gD}
def TW(V:bY P U)(n:Nat)(ops:av)(aN:aq)(o:Oper)(σ:SS U)(t:TypeId)(f g:aw)(K:SS U->Ft->Prop):Prop:=
 match V.ty t,nu (σ.ev f),nu (σ.ev g)with
 |some d,some l,some c=>
  (match d.sl with
   |some e=>(match V.ty e,V.aJ e with
    |some a,some k=>(match a.zs with
     |some b=>(match V.DM k (b.map .sc)with
      |some z=>0<=l/\l=c/\a.dF*l.toNat<=281474976710656/\l<=281474976710656/\zL n ops aN o σ (.aW k (List.replicate l.toNat z)) (.e (.c (.aX σ.bZ k l.toNat))) K
      |none=>False)
     |none=>False)
    |_,_=>False)
   |none=>False)
 |_,_,_=>False
variable {V:bY P U}{n:Nat}{ops:av}{aN:aq}{o:Oper}{σ:SS U}{K:SS U→Ft→Prop}
def awn(k:U.K)(z:U.El k)(m:Nat):(bG k (List.replicate m z)).map Ab.V.d=oL m ((U.dh k z).map Ab.V.d):=by
 induction m with
 |zero=>rfl
 |succ m a=>
  have c:bG k (List.replicate (m+1) z)=U.dh k z++bG k (List.replicate m z):=by rw[vp];rfl
  have b:oL (m+1) ((U.dh k z).map Ab.V.d)=(U.dh k z).map Ab.V.d++oL m ((U.dh k z).map Ab.V.d):=by simp only[oL,vp];rfl
  rw[c,b,ia,a]
def aFM(f:Ab.V->Ab.V)(m:Nat)(l:List Ab.V):(oL m l).map f=oL m (l.map f):=by
 induction m with
 |zero=>rfl
 |succ m b=>
  have a:∀l,oL (m+1) l=l++oL m l:=λl=>by simp only[oL,vp];rfl
  rw[a,a,ia,b]
def Ls{x:ST U}(h:nu x=some i):∃k,x.aI=.e (.c (.d (.sc (.int k i)))):=by
 unfold nu at h;split at h
 ·rename_i k j;injection h with h;subst h;exact⟨k,rfl⟩
 ·cases h
theorem aHz(h:TW V n ops aN o σ t x y K)(p:fA ops o σ.st)(q:o.op=.makeSlice t x y):∃a f,kD P n ops o aN σ a f/\K a f:=by
 unfold TW at h;split at h
 ·rename_i T l c r s u;split at h
  ·rename_i e w;split at h
   ·rename_i A k B C;split at h
    ·rename_i i j;split at h
     ·rename_i z D;obtain⟨a1,rfl,E,X,h⟩:=h;have G:=V.fX _ _ r;have b:=V.fX _ _ B;have g:=V.zi _ _ C;rw[b.sz,cS]at g;obtain⟨H,L⟩:=Ls s;obtain⟨M,N⟩:=Ls u;have m:l=((l.toNat:Nat):Int):=O
      have:=Xc (P:=P) (o:=o) (ev:=σ.st.ev) t x y q σ.bZ e (U.w k) A.dF (i.map λv=>.d (.sc v)) l.toNat H M (by rw[G.sl,w]) (by rw[b.sz,g]) b.dF (b.zs _ j) (by simp[b.zl _ j,g])
       (by rw[c8,L,<-m]) (by rw[c8,N,<-m]) E O
      refine D8 h p _ this ?_;have Q:=V.G8 _ _ _ D;have R:=lU.cB (oL l.toNat (i.map λv=>Ab.V.d (.sc v)));refine cast (bi (lU _) ?_) R;simp only[aZ.aI];rw[awn,aFM,<-Q];simp[vf,SD.aI,Ab.V.cB]
     ·cases h
    ·cases h
   ·cases h
  ·cases h
 ·cases h
def Tv(V:bY P U)(n:Nat)(ops:av)(aN:aq)(o:Oper)(σ:SS U)(x y:aw)(t:TypeId)(K:SS U->Ft->Prop):Prop:=
 match o.dst,V.ty t with
 |some d,some g=>
  (match g.sl with
   |some e=>(match V.ty e,V.aJ e with
    |some b,some k=>(match b.zs,Nat.blt d n,cd σ.heap σ.bZ,aN.contains σ.bZ with
     |some _,true,none,false=>
      (match σ.ev x with
       |.e (.c (.d (.sc (.slice none 0 0))))=>D_ V k σ (σ.ev y) λl=>
        l≠[]/\l.length*b.dF<=140737488355328/\l.length<=140737488355328/\
         K { aV:=(d,.e (.c (.aX σ.bZ k l.length)))::σ.aV,heap:=(σ.bZ,.aW k l)::σ.heap,bZ:=σ.bZ+1} ⟨lk ops o++jK (uC (σ.ev y)),(2*σ.bZ+1)::dl o,[]⟩
       |.e (.c (.aX s k1 f))=>
        (match cd σ.heap s,aN.contains s,Nat.beq (U.w k1) (U.w k)with
         |some (.aW k2 a),false,true=>(match V.cast k k2 a with
          |some a=>D_ V k σ (σ.ev y) λl=>
           f=a.length/\(a.length+l.length)*b.dF<=140737488355328/\a.length+l.length<=140737488355328/\
            K { aV:=(d,.e (.c (.aX σ.bZ k (a.length+l.length))))::vX s σ.aV,heap:=(σ.bZ,.aW k (a++l))::r7 s σ.heap,bZ:=σ.bZ+1}
              ⟨lk ops o++jK (uC (σ.ev y)),pn (d::tI s σ.aV)++jK (σ.bZ::s::xt s σ.heap),[s]⟩
          |none=>False)
         |_,_,_=>False)
       |_=>False)
     |_,_,_,_=>False)
    |_,_=>False)
   |none=>False)
 |_,_=>False
def nk{aN:aq}(h:aN.contains s=false):¬s∈aN:=λa=>by have:aN.contains s=true:=an a;rw[h]at this;cases this
def Dd(k:U.K)(a b:List (U.El k)):bG k (a++b)=bG k a++bG k b:=by simp[bG]
def Hm{k:U.K}{l:List (U.El k)}{v:Ab.V}(b:v∈(bG k l).map Ab.V.d)(s:Nat):¬v.bx s:=by rw[b_]at b;obtain⟨a,_,rfl⟩:=b;exact λh=>h
theorem aGz(h:Tv V n ops aN o σ x y t K)(hg:fA ops o σ.st)(ho:o.op=.call { callee:=.builtin .append,args:=#[x,y],argTypes:=#[t,t]}):∃r f,kD P n ops o aN σ r f/\K r f:=by
 unfold Tv at h;split at h
 ·rename_i d ti a h1;split at h
  ·rename_i e h2;split at h
   ·rename_i te k h3 h4;split at h
    ·rename_i zs H h6 h7 h8;have T1:=V.fX _ _ h1;have c:=V.fX _ _ h3;have w:=V.zi _ _ h4;rw[c.sz,cS]at w;have A:d<n:=js h6;have B:σ.st.heap σ.bZ=none:=by rw[ga,h7];rfl
     split at h
     ·rename_i M;obtain⟨l,p,⟨a1,a2,a3,h⟩,e2⟩:=MJ h;refine⟨_,_,⟨?_,λs I=>by simp at I⟩,h⟩
      have:=SQ.On (P:=P) (n:=n) (aU:=(·∈aN)) hg x y t ho (U.w k) ((bG k l).map .d) l.length (by rw[c8,M];rfl) (by rw[c8,p]) (an a1) e te.dF _ (by rw[T1.sl,h2]) (by rw[c.sz,w]) c.dF (c.zs _ H) (by simp[c.zl _ H,w]) a2 a3 σ.bZ B (nk h8)
       (by rw[a];exact atu A) (uC (σ.ev y)) (λu g=>e2 u (by rw[<-c8];exact g))
      rw[a]at this;exact this
     ·rename_i s k1 len M;split at h
      ·rename_i k2 N I Q hw;split at h
       ·rename_i l0 hl;obtain⟨l,p,⟨rfl,a2,a3,h⟩,e2⟩:=MJ h;have hc:=V.qY _ _ _ _ hl;have e3:bG k2 N=bG k l0:=by unfold bG;rw[hc.1]
        have R:σ.st.heap s=some ((bG k l0).map .d):=by rw[ga,I];simp only[dP,aZ.aI,e3]
        have hsc:s≠σ.bZ:=by rintro rfl;rw[h7]at I;cases I
        have X:∀i,(σ.st.aV i).bx s↔i∈tI s σ.aV:=λi=>by rw[zU,oN,<-T.mK,ST.oE]
        refine⟨_,_,⟨?_,λu g C q j=>?_⟩,h⟩
        ·have:=SQ.append (P:=P) (n:=n) (aU:=(·∈aN)) hg x y t ho d s (U.w k) l0.length a ((bG k l0).map .d) ((bG k l).map .d) l.length (by rw[c8,M,<-cU hw];rfl) R (by rw[eh,mH V]) (by rw[c8,p])
          e te.dF _ (by rw[T1.sl,h2]) (by rw[c.sz,w]) c.dF (c.zs _ H) (by simp[c.zl _ H,w]) (λv D=>Hm D s) (λv D=>Hm D s) a2 a3 (nk Q) A σ.bZ B (nk h8) (tI s σ.aV) (xt s σ.heap) (uC (σ.ev y)) (λu g=>e2 u (by rw[<-c8];exact g))
         refine cast (bi (λz=>SQ P n (·∈aN) ops o σ.st z _) ?_) this;unfold Cp SS.st;simp only;congr 1
         ·funext i;rw[uI];simp only[gV,gG];cases hi:Nat.beq i d with
          |true=>rw[aM (cU hi)];rfl
          |false=>
           rw[Z (o9 hi)];rw[Ks,uI];by_cases L:i∈tI s σ.aV
           ·rw[aM L];simp only[ST.kl,(zU s σ.aV i).1 L];rfl
           ·rw[Z L];have:(gG σ.aV i).nm s=false:=by
             cases E:(gG σ.aV i).nm s with
             |false=>rfl
             |true=>exact absurd ((zU s σ.aV i).2 E) L
            simp only[ST.kl,this]
         ·funext u;rw[iG ((σ.bZ,aZ.aW k (l0++l))::r7 s σ.heap) u];simp only[cd];cases g:Nat.beq u σ.bZ with
          |true=>rw[aM (cU g)];simp only[dP,aZ.aI,Dd,ia]
          |false=>
           rw[Z (o9 g)];rw[Gq];by_cases G:u=s
           ·simp[G]
           ·simp only[G,lM];rw[iG];cases D:cd σ.heap u with
            |none=>simp
            |some b=>
             simp only[dP,aZ.q8];by_cases E:u∈xt s σ.heap
             ·simp[E]
             ·simp only[E,lM];rw[Et λj=>E (Cv s σ.heap u b D j)]
        ·simp only[cL]at g;subst g;simp only[cq,re]at q;unfold St.at at j;split at j
         ·rename_i e0;have p:C=2*(C/2):=O;have h9:=(X _).1 j;apply q.1;rw[p,r9];exact cv _ h9
         ·rename_i e0;have p:C=2*(C/2)+1:=O;apply q.2;rw[p,nW];cases m:σ.st.heap (C/2)with
          |none=>rw[m]at j;cases j
          |some cs'=>rw[m]at j;rw[ga,gN]at m;obtain⟨b,hb1,rfl⟩:=m;exact cv _ (cv _ (Cv _ _ _ b hb1 j))
       ·cases h
      ·cases h
     ·cases h
    ·cases h
   ·cases h
  ·cases h
 ·cases h
end
section
variable {P:ax}{U:gD}
def SV.dd:SV U->List Nat
 |.ptr s _=>[s]
 |.jF s _ _ _=>[s]
 |.sub s _ _ _=>[s]
 |.aX s _ _=>[s]
 |.db _ a=>a.map (·.1)
 |.mp s=>[s]
 |.ty s _ _=>[s]
 |_=>[]
def SE.dd:SE U->List Nat
 |.c v=>v.dd
 |.agg a=>a.flatMap SV.dd
def ST.dd:ST U->List Nat
 |.e x=>x.dd
 |.cE a=>a.flatMap SE.dd
 |.any=>[]
def SV.ow(v:SV U):v.aI.dd=v.dd:=by cases v<;>rfl
theorem SE.ow(v:SE U):v.aI.dd=v.dd:=by
 cases v with
 |c v=>exact SV.ow v
 |agg a=>simp only[SE.aI,E.dd,SE.dd,List.flatMap_map];congr 1;funext v;exact SV.ow v
theorem ST.ow(v:ST U):v.aI.dd=v.dd:=by
 cases v with
 |e v=>exact SE.ow v
 |cE a=>simp only[ST.aI,T.dd,ST.dd,List.flatMap_map];congr 1;funext v;exact SE.ow v
 |any=>rfl
structure Ct(P:ax)(U:gD)where
 f:FuncId
 run:List (SE U)->(ST U->Prop)->Prop
 ok:∀args K,run args K->∃r,lW P f (args.map λx=>x.aI.cB) r.aI/\K r
def AP:List (Ct P U)->FuncId->Option (Ct P U)
 |[],_=>none
 |c::r,f=>match Nat.beq c.f f with|true=>some c|false=>AP r f
theorem abe:∀{l:List (Ct P U)} {f:FuncId} {c:Ct P U},AP l f=some c->c.f=f
 |[],_,_,h=>by cases h
 |a::r,f,c,h=>by
  simp only[AP]at h;split at h
  ·rename_i e;injection h with h;subst h;exact cU e
  ·exact abe h
def BD:List (ST U)->Option (List (SE U))
 |[]=>some []
 |.e x::r=>(match BD r with|some l=>some (x::l)|none=>none)
 |_::_=>none
theorem MT:∀{l:List (ST U)} {a:List (SE U)},BD l=some a->l=a.map .e
 |[],a,h=>by simp only[BD]at h;injection h with h;subst h;rfl
 |x::r,a,h=>by
  cases x<;>simp only[BD]at h
  case e x=>
   split at h
   ·rename_i l b;injection h with h;subst h;rw[MT b];rfl
   ·cases h
  all_goals cases h
def Lz:List (SE U)->Bool
 |[]=>true
 |x::r=>(match x.dd with|[]=>Lz r|_=>false)
theorem aen:∀{l:List (SE U)},Lz l=true->∀x∈l,x.dd=[]
 |[],_,x,h=>by simp at h
 |a::r,h,x,b=>by
  simp only[Lz]at h;split at h
  ·rename_i e;rcases da.1 b with rfl|b
   ·exact e
   ·exact aen h x b
  ·cases h
def TA(n:Nat)(ops:av)(o:Oper)(σ:SS U)(a:List (Ct P U))(g:FuncId)(b:List Operand)(K:SS U->Ft->Prop):Prop:=
 match BD (b.map σ.ev),AP a g,m_ n o.dst with
 |some args,some c,true=>(match Lz args with|true=>c.run args λr=>fT r λr=>K (σ.put o.dst r) ⟨lk ops o,dl o,[]⟩|false=>False)
 |_,_,_=>False
variable {V:bY P U}{n:Nat}{ops:av}{aN:aq}{o:Oper}{σ:SS U}{K:SS U→Ft→Prop}
def aCM(x:E):x.cB.dd=x.dd:=by
 have a:∀v:Ab.V,v.cB.dd=v.dd:=λv=>by cases v<;>rfl
 cases x with
 |c v=>exact a v
 |agg b=>simp only[E.cB,E.dd,List.flatMap_map];congr 1;funext v;exact a v
def aGE{d:List (Ct P U)}(h:TA n ops o σ d g N.toList K)(k:fA ops o σ.st)(l:o.op=.call { callee:=.value (.func g),args:=N,argTypes:=L}):
 ∃b f,kD P n ops o aN σ b f/\K b f:=by
 unfold TA at h;split at h
 ·rename_i args c m p q;split at h
  ·rename_i u;obtain⟨r,e,hK⟩:=c.ok _ _ h;rw[abe p]at e;refine⟨_,_,⟨?_,λs I=>by simp at I⟩,Ka (K:=λr=>K (σ.put o.dst r) _) hK⟩;rw[oa];have v:=MT m;refine SQ.pure k (aEZ g N L l _ r.aI e ?_ ?_) (na q)
   ·have:(N.toList.map λx=>(σ.st.ev x).cB)=(N.toList.map σ.ev).map λt=>t.aI.cB:=by rw[jc];congr 1;funext x;simp[c8]
    rw[this,v,jc,jc];rfl
   ·intro x i s I;rw[b_]at i;obtain⟨a,w,rfl⟩:=i;have j:=E.oz I;rw[aCM,SE.ow,aen u a w]at j;simp at j
  ·cases h
 ·cases h
def TC(V:bY P U)(n:Nat)(ops:av)(o:Oper)(σ:SS U)(x y:aw)(t:TypeId)(K:SS U->Ft->Prop):Prop:=
 match V.ty t,m_ n o.dst with
 |some f,true=>
  (match f.sl with
   |some e=>(match V.ty e,V.aJ e with
    |some g,some k=>
     (match σ.ev x with
      |.e (.c (.aX s k1 b))=>(match cd σ.heap s,Nat.beq (U.w k1) (U.w k)with
       |some (.aW k2 a),true=>(match V.cast k k2 a with
        |some a=>b=a.length/\D_ V k σ (σ.ev y) λl=>K { σ.put o.dst (.e (.c (.d (.sc (.int .i64 (min l.length a.length:Nat))))))with heap:=su σ.heap s (.aW k (l.take a.length++a.drop l.length))} ⟨lk ops o++jK (uC (σ.ev y)),(2*s+1)::dl o,[]⟩
        |none=>False)
       |_,_=>False)
      |_=>False)
    |_,_=>False)
   |none=>False)
 |_,_=>False
theorem aGK(h:TC V n ops o σ x y t K)(v:fA ops o σ.st)(w:o.op=.call { callee:=.builtin .copy,args:=#[x,y],argTypes:=#[t,e]}):∃b f,kD P n ops o aN σ b f/\K b f:=by
 unfold TC at h;split at h
 ·rename_i ti A B;split at h
  ·rename_i a C;split at h
   ·rename_i te k D E;split at h
    ·rename_i s k1 G H;split at h
     ·rename_i k2 i I L;split at h
      ·rename_i l0 M;obtain⟨rfl,h⟩:=h;obtain⟨l,e1,h,e2⟩:=MJ h;have T1:=V.fX _ _ A;have m:=V.fX _ _ D;have p:=V.zi _ _ E;rw[m.sz,cS]at p;have N:=V.qY _ _ _ _ M;have Q:bG k2 i=bG k l0:=by unfold bG;rw[N.1]
       have j:σ.st.heap s=some ((bG k l0).map .d):=by rw[ga,I];simp only[dP,aZ.aI,Q]
       refine⟨_,_,⟨?_,λs I=>by simp at I⟩,h⟩
       have:=SQ.copy (P:=P) (n:=n) (aU:=(·∈aN)) v x y t e w s (U.w k) 0 l0.length ((bG k l0).map .d) ((bG k l).map .d) l.length (by rw[c8,H,<-cU L];rfl) j (by rw[eh,mH V];omega) (by rw[c8,e1])
        a (by rw[T1.sl,C]) (by rw[m.sz,p]) (na B) (uC (σ.ev y)) (λu R=>e2 u (by rw[<-c8];exact R))
       refine cast (bi (λz=>SQ P n (·∈aN) ops o σ.st z _) ?_) this;have hh:(σ.put o.dst (.e (.c (.d (.sc (.int .i64 (min l.length l0.length:Nat))))))).heap=σ.heap:=by cases o.dst<;>rfl
       have q:=oa σ o.dst (.e (.c (.d (.sc (.int .i64 (min l.length l0.length:Nat))))));unfold SS.st at q⊢;simp only;congr 1
       ·have:=bi St.aV q;exact this.symm
       ·funext u;rw[iG (su σ.heap s _) u,Ku _ _ _ _ _ I];simp only[cZ];split
        ·simp only[dP,aZ.aI,cS];have r:=AS V k l 0 (min l.length l0.length);simp only[IS,rG]at r;have T:(bG k l0).drop (min l.length l0.length*U.w k)=bG k (l0.drop (min l.length l0.length)):=by have:=AS V k l0 (min l.length l0.length) l0.length;rw[eL (by rw[xa,mH V];omega),eL ai]at this;exact this
         unfold kA;rw[gx,gf,<-vo,r];have X:((bG k (l.take (min l.length l0.length))).map Ab.V.d).length=min l.length l0.length*U.w k:=by rw[eh,mH V,gw];congr 1;omega
         rw[X,ol,<-vm,T,<-ia,<-Dd];congr 2;by_cases g:l.length<=l0.length
         ·rw[kC g,eL g,eL (bK _)]
         ·rw[Nat.min_eq_right O,mU O,mU O]
        ·rw[iG]
      ·cases h
     ·cases h
    ·cases h
   ·cases h
  ·cases h
 ·cases h
end
section
variable {P:ax}{U:gD}
def SV.fz(s:Nat)(k:U.K)(l:List (U.El k))(v:SV U):SV U:=
 match v with
 |.aX t _ _=>(match Nat.beq t s with|true=>.d (.bN k l)|false=>v)
 |.sub t _ a b=>(match Nat.beq t s with|true=>.d (.bN k ((l.drop a).take b))|false=>v)
 |_=>v.kl s
def zy(s:Nat)(k:U.K)(l:List (U.El k))(v:SV U)(b:Prop):Prop:=
 match v with
 |.aX t d a=>(match Nat.beq t s with|true=>(match Nat.beq (U.w d) (U.w k)with|true=>a=l.length/\b|false=>False)|false=>b)
 |.sub t d c a=>(match Nat.beq t s with|true=>(match Nat.beq (U.w d) (U.w k)with|true=>c+a<=l.length/\b|false=>False)|false=>b)
 |_=>b
def Tm(k m a len:Nat)(b:List (List D))(c:∀r∈b,r.length=k)(h:a+len<=b.length)(d:m=a*k):aW k m len b.flatten=(b.drop a).take len:=by
 subst d;apply List.ext_getElem
 ·simp[aW];omega
 ·intro i f l;simp only[aW,eh,oY]at f;simp only[aW,List.getElem_map,List.getElem_range,List.getElem_take,List.getElem_drop];apply vj;intro j;rw[sO];have g:(b[a+i]' O).length=k:=c _ (tZ _);split
  ·rename_i e;rw[nD,<-iN,Gi k b c (a+i) j e,cN O];rfl
  ·rw[iM O]
def Kj(t k a len s:Nat)(b:List D):(Ab.V.sub t k a len).cA s b=if t=s then(if a+len*k<=b.length then .d (.sl (aW k a len b))else .any)else .sub t k a len:=rfl
def G2(V:bY P U){k:U.K}{l:List (U.El k)}{v:SV U}{φ:Prop}(h:zy s k l v φ):φ/\(v.fz s k l).aI=v.aI.cA s (bG k l):=by
 have p:∀r∈l.map (U.dh k),r.length=U.w k:=λr w=>by rw[b_]at w;obtain⟨y,_,rfl⟩:=w;exact V.len k y
 cases v with
 |aX t e len=>
  simp only[zy]at h;cases g:Nat.beq t s with
  |true=>
   rw[g]at h;simp only at h;cases m:Nat.beq (U.w e) (U.w k)with
   |true=>
    rw[m]at h;simp only at h;obtain⟨rfl,h⟩:=h;refine⟨h,?_⟩;have n:SV.fz s k l (.aX t e l.length)=.d (.bN k l):=by simp only[SV.fz,g]
    have u:(SV.aX t e l.length:SV U).aI=.sub t (U.w k) 0 l.length:=by simp only[SV.aI,cU m]
    rw[n,u];rw[Kj,aM (cU g),aM (by rw[mH V];omega)];have:=Tm (U.w k) 0 0 l.length (l.map (U.dh k)) p ai ai;rw[rG,eL ai]at this;exact bi (λz=>Ab.V.d (.sl z)) this.symm
   |false=>rw[m]at h;cases h
  |false=>
   rw[g]at h;refine⟨h,?_⟩;have n:SV.fz s k l (.aX t e len)=.aX t e len:=by simp only[SV.fz,g]
   rw[n];show _=Ab.V.cA s (bG k l) (.sub t (U.w e) 0 len);rw[Kj,Z (o9 g)];rfl
 |sub t e c len=>
  simp only[zy]at h;cases g:Nat.beq t s with
  |true=>
   rw[g]at h;simp only at h;cases m:Nat.beq (U.w e) (U.w k)with
   |true=>
    rw[m]at h;simp only at h;obtain⟨A,h⟩:=h;refine⟨h,?_⟩;have n:SV.fz s k l (.sub t e c len)=.d (.bN k ((l.drop c).take len)):=by simp only[SV.fz,g]
    have u:(SV.sub t e c len:SV U).aI=.sub t (U.w k) (c*U.w k) len:=by simp only[SV.aI,cU m]
    rw[n,u];rw[Kj,aM (cU g),aM (by rw[mH V,<-iN];exact jS _ A)];have:=Tm (U.w k) (c*U.w k) c len (l.map (U.dh k)) p (an A) rfl;rw[<-vm,<-vo]at this;exact bi (λz=>Ab.V.d (.sl z)) this.symm
   |false=>rw[m]at h;cases h
  |false=>
   rw[g]at h;refine⟨h,?_⟩;have n:SV.fz s k l (.sub t e c len)=.sub t e c len:=by simp only[SV.fz,g]
   rw[n];show _=Ab.V.cA s (bG k l) (.sub t (U.w e) (c*U.w e) len);rw[Kj,Z (o9 g)];rfl
 |d x=>exact⟨h,SV.q8 s (.d x)⟩
 |ptr t o=>exact⟨h,SV.q8 s (.ptr t o)⟩
 |jF t k i j=>exact⟨h,SV.q8 s (.jF t k i j)⟩
 |gU B=>exact⟨h,SV.q8 s (.gU B)⟩
 |db f q=>exact⟨h,SV.q8 s (.db f q)⟩
 |mp t=>exact⟨h,SV.q8 s (.mp t)⟩
 |ty t a b=>exact⟨h,SV.q8 s (.ty t a b)⟩
 |any=>exact⟨h,SV.q8 s .any⟩
def LS(s:Nat)(k:U.K)(l:List (U.El k)):List (SV U)->Prop->Prop
 |[],a=>a
 |v::r,a=>zy s k l v (LS s k l r a)
theorem Sq(V:bY P U){s:Nat}{k:U.K}{l:List (U.El k)}:∀{b:List (SV U)} {a:Prop},LS s k l b a->a/\(b.map (SV.fz s k l)).map SV.aI=(b.map SV.aI).map (Ab.V.cA s (bG k l))
 |[],a,h=>⟨h,rfl⟩
 |v::r,a,h=>by obtain⟨d,f⟩:=G2 V h;obtain⟨c,e⟩:=Sq V d;exact⟨c,by simp only[de,f,e]⟩
def SE.fz(s:Nat)(k:U.K)(l:List (U.El k)):SE U->SE U
 |.c v=>.c (v.fz s k l)
 |.agg a=>.agg (a.map (SV.fz s k l))
def lm(s:Nat)(k:U.K)(l:List (U.El k))(x:SE U)(a:Prop):Prop:=match x with|.c v=>zy s k l v a|.agg b=>LS s k l b a
def aeZ(V:bY P U){k:U.K}{l:List (U.El k)}{x:SE U}(h:lm s k l x R):R/\(x.fz s k l).aI=x.aI.cA s (bG k l):=by
 cases x with
 |c v=>obtain⟨a,b⟩:=G2 V h;exact⟨a,by simp only[SE.fz,SE.aI,E.cA,b]⟩
 |agg d=>obtain⟨a,b⟩:=Sq V h;exact⟨a,by simp only[SE.fz,SE.aI,E.cA,b]⟩
def Sp(s:Nat)(k:U.K)(l:List (U.El k)):List (SE U)->Prop->Prop
 |[],a=>a
 |v::r,a=>lm s k l v (Sp s k l r a)
theorem ae2(V:bY P U){s:Nat}{k:U.K}{l:List (U.El k)}:∀{b:List (SE U)} {a:Prop},Sp s k l b a->a/\(b.map (SE.fz s k l)).map SE.aI=(b.map SE.aI).map (E.cA s (bG k l))
 |[],a,h=>⟨h,rfl⟩
 |v::r,a,h=>by obtain⟨d,f⟩:=aeZ V h;obtain⟨c,e⟩:=ae2 V d;exact⟨c,by simp only[de,f,e]⟩
def ST.fz(s:Nat)(k:U.K)(l:List (U.El k)):ST U->ST U
 |.e x=>.e (x.fz s k l)
 |.cE a=>.cE (a.map (SE.fz s k l))
 |.any=>.any
def okT(s:Nat)(k:U.K)(l:List (U.El k))(x:ST U)(a:Prop):Prop:=match x with|.e v=>lm s k l v a|.cE b=>Sp s k l b a|.any=>a
def aDR(V:bY P U){k:U.K}{l:List (U.El k)}{x:ST U}(h:okT s k l x R):R/\(x.fz s k l).aI=x.aI.cA s (bG k l):=by
 cases x with
 |e v=>obtain⟨a,b⟩:=aeZ V h;exact⟨a,by simp only[ST.fz,ST.aI,T.cA,b]⟩
 |cE c=>obtain⟨a,b⟩:=ae2 V h;exact⟨a,by simp only[ST.fz,ST.aI,T.cA,b]⟩
 |any=>exact⟨h,rfl⟩
def Sj(s:Nat)(k:U.K)(l:List (U.El k)):List (Nat×ST U)->Prop->Prop
 |[],a=>a
 |(_,t)::r,a=>okT s k l t (Sj s k l r a)
def xC(s:Nat)(k:U.K)(l:List (U.El k))(e:List (Nat×ST U)):List (Nat×ST U):=e.map λp=>(p.1,p.2.fz s k l)
theorem Sk(V:bY P U){s:Nat}{k:U.K}{l:List (U.El k)}:∀{e:List (Nat×ST U)} {a:Prop},Sj s k l e a->a/\∀i,(gG (xC s k l e) i).aI=(gG e i).aI.cA s (bG k l)
 |[],a,h=>⟨h,λ_=>rfl⟩
 |(j,t)::r,a,h=>by
  obtain⟨c,f⟩:=aDR V h;obtain⟨b,d⟩:=Sk V c;refine⟨b,λi=>?_⟩;simp only[xC,de,gG];split
  ·exact f
  ·exact d i
def aZ.fz(s:Nat)(k:U.K)(l:List (U.El k)):aZ U->aZ U
 |.cells c=>.cells (c.map (SV.fz s k l))
 |.hY a i v=>.hY a i (v.fz s k l)
 |b=>b
def okB(s:Nat)(k:U.K)(l:List (U.El k))(b:aZ U)(a:Prop):Prop:=match b with|.cells c=>LS s k l c a|.hY _ _ v=>zy s k l v a|_=>a
def Sl(s:Nat)(k:U.K)(l:List (U.El k)):List (Nat×aZ U)->Prop->Prop
 |[],a=>a
 |(_,b)::r,a=>okB s k l b (Sl s k l r a)
def aDM(V:bY P U){k:U.K}{l:List (U.El k)}{b:aZ U}(h:okB s k l b R):R/\(b.fz s k l).aI=b.aI.map (Ab.V.cA s (bG k l)):=by
 cases b with
 |cells e=>obtain⟨a,c⟩:=Sq V h;exact⟨a,by simp only[aZ.fz,aZ.aI,c]⟩
 |aW k2 f=>exact⟨h,by simp[aZ.fz,aZ.aI,vf,Ab.V.cA]⟩
 |lc g=>exact⟨h,by simp[aZ.fz,aZ.aI,Ab.V.cA]⟩
 |hY d i v=>obtain⟨a,c⟩:=G2 V h;exact⟨a,(bi (j3 d i) c).trans (Hd (Ab.V.cA s (bG k l)) (λ_=>rfl) d i v.aI).symm⟩
def uy(s:Nat)(k:U.K)(l:List (U.El k)):List (Nat×aZ U)->List (Nat×aZ U)
 |[]=>[]
 |(j,b)::r=>match Nat.beq j s with|true=>uy s k l r|false=>(j,b.fz s k l)::uy s k l r
theorem Sn(V:bY P U){s:Nat}{k:U.K}{l:List (U.El k)}:∀{e:List (Nat×aZ U)} {a:Prop},Sl s k l e a->a/\∀u,(cd (uy s k l e) u).map aZ.aI=if u=s then none else((cd e u).map aZ.aI).map (List.map (Ab.V.cA s (bG k l)))
 |[],a,h=>⟨h,λu=>by simp[uy,cd]⟩
 |(j,b)::r,a,h=>by
  obtain⟨i,m⟩:=aDM V h;obtain⟨g,f⟩:=Sn V i;refine⟨g,λu=>?_⟩;simp only[uy];cases d:Nat.beq j s with
  |true=>
   simp only;rw[f u];by_cases c:u=s
   ·simp[c]
   ·have:Nat.beq u j=false:=by
     cases h:Nat.beq u j with
     |false=>rfl
     |true=>exact absurd ((cU h).trans (cU d)) c
    simp only[c,lM,cd,this]
  |false=>
   simp only[cd];cases h:Nat.beq u j with
   |true=>have e:=cU h;rw[Z (by rw[e];exact o9 d)];simp only[dP,m]
   |false=>exact f u
def Hu(aN:aq)(s:Nat)(a:SS U)(K:SS U->Prop):Prop:=
 match cd a.heap s,aN.contains s with
 |some (.aW k l),false=>Sj s k l a.aV (Sl s k l a.heap (K { aV:=xC s k l a.aV,heap:=uy s k l a.heap,bZ:=a.bZ}))
 |none,_=>K a
 |_,_=>False
def aG2(V:bY P U){n:Nat}{aN:aq}{σ:SS U}{K:SS U->Prop}(h:Hu aN s σ K):∃σ',d_ n (·∈aN) σ.st σ'.st/\K σ':=by
 unfold Hu at h;split at h
 ·rename_i k l I a;obtain⟨h,b⟩:=Sk V h;obtain⟨h,c⟩:=Sn V h;refine⟨_,?_,h⟩;have:=d_.freeze (n:=n) (aU:=(·∈aN)) (σ:=σ.st) s (bG k l) (by rw[ga,I];rfl) (nk a);refine cast (bi (d_ n (·∈aN) σ.st) ?_) this;unfold St.cA;rw[show(SS.st { aV:=xC s k l σ.aV,heap:=uy s k l σ.heap,bZ:=σ.bZ})=⟨λi=>(gG (xC s k l σ.aV) i).aI,λu=>(cd (uy s k l σ.heap) u).map aZ.aI⟩from by
   unfold SS.st;congr 1
   ·funext i;exact uI _ i
   ·funext u;exact iG _ u]
  congr 1
  ·funext i;rw[b,oN]
  ·funext u;rw[c,ga]
 ·exact⟨σ,d_.refl _ _ _,h⟩
 ·cases h
def x_(aN:aq):List Nat->SS U->(SS U->Prop)->Prop
 |[],b,K=>K b
 |s::r,b,K=>Hu aN s b λa=>x_ aN r a K
theorem Mt(V:bY P U){n:Nat}{aN:aq}:∀{l:aq}{b:SS U}{K:SS U->Prop},x_ aN l b K->∃a,d_ n (·∈aN) b.st a.st/\K a
 |[],b,K,h=>⟨b,d_.refl _ _ _,h⟩
 |s::r,b,K,h=>by obtain⟨d,f,h⟩:=aG2 V (n:=n) h;obtain⟨c,e,h⟩:=Mt V (n:=n) h;exact⟨c,f.trans e,h⟩
end
def V.eO(c:Nat->Option Nat):V->V
 |.ptr s a=>(match c s with|some t=>.ptr t a|none=>.eY [])
 |.sub s k a e=>(match c s with|some t=>.sub t k a e|none=>if a=0/\e=0 then .d (.sc (.slice none 0 0))else .eY [])
 |.db f b=>if b.all (λp=>(c p.1).isSome)then .db f (b.map λp=>((c p.1).getD 0,p.2))else .eY []
 |.mp s=>(match c s with|some t=>.mp t|none=>.eY [])
 |.ty s t g=>(match c s with|some u=>.ty u t g|none=>.eY [])
 |v=>v
def E.eO(a:Nat->Option Nat):E->E
 |.c v=>.c (v.eO a)
 |.agg b=>.agg (b.map (V.eO a))
def T.eO(a:Nat->Option Nat):T->T
 |.e x=>.e (x.eO a)
 |.cE b=>.cE (b.map (E.eO a))
 |.any=>.any
def pt(b:G)(a:Nat->Option Nat)(s:Nat):Option (Option Nat):=match a s with|some t=>b t|none=>some none
def dQ.tL{m:G}{n:Nat->Option Nat}{x:V}(h:dQ w M H (x.eO n) v)(y:∀s,x.bx s->m s=pt H n s)(q:∀b,dc w M H b->dc w M m b):dQ w M m x v:=by
 cases x with
 |d x=>exact dN.mono h q (λ_ _=>rfl)
 |gU ds=>obtain⟨a,e,B,I,hd⟩:=h;exact⟨a,e,B,q _ I,λj x Q=>by obtain⟨u,R,g⟩:=hd j x Q;exact⟨u,R,g.mono q (λ_ _=>rfl)⟩⟩
 |any=>exact h
 |eY es=>exact h
 |ptr s C=>
  have e:=y s rfl;simp only[V.eO]at h;unfold pt at e;cases g:n s with
  |none=>rw[g]at h;cases h
  |some t=>rw[g]at h e;obtain⟨b,r,ev⟩:=h;exact⟨b,e.trans r,ev⟩
 |mp s=>
  have e:=y s rfl;simp only[V.eO]at h;unfold pt at e;cases g:n s with
  |none=>rw[g]at h;cases h
  |some t=>rw[g]at h e;obtain⟨b,r,ev⟩:=h;exact⟨b,e.trans r,ev⟩
 |ty s t sl=>
  have e:=y s rfl;simp only[V.eO]at h;unfold pt at e;cases g:n s with
  |none=>rw[g]at h;cases h
  |some u=>rw[g]at h e;obtain⟨b,cells,r,ev⟩:=h;exact⟨b,cells,e.trans r,ev⟩
 |sub s k C T=>
  have e:=y s rfl;simp only[V.eO]at h;unfold pt at e;cases g:n s with
  |none=>
   rw[g]at h e;simp only at h;split at h
   ·rename_i U;obtain⟨rfl,rfl⟩:=U;exact .inr (.inl ⟨e,rfl,rfl,iw (show cr w M H (.e (.c (.d (.sc (.slice none 0 0))))) v from h)⟩)
   ·cases h
  |some t=>
   rw[g]at h e;rcases h with⟨b,D,cells,ty,z,A⟩|⟨z,A⟩|⟨b,o,z,A⟩
   ·exact .inl ⟨b,D,cells,ty,e.trans z,A⟩
   ·exact .inr (.inl ⟨e.trans z,A⟩)
   ·exact .inr (.inr ⟨b,o,e.trans z,A⟩)
 |db f N=>
  simp only[V.eO]at h;split at h
  ·rename_i l;obtain⟨cs,ev,X,hc⟩:=h;refine⟨cs,ev,by simpa using X,λi p c E K=>?_⟩;have L:(n p.1).isSome:=by rw[eW]at l;exact l p (bM E)
   obtain⟨t,P⟩:=NS.1 L;obtain⟨b,r,e'⟩:=hc i (t,p.2) c (by rw[eC,E];simp[P]) K;refine⟨b,?_,e'⟩;rw[y p.1 ⟨p,bM E,rfl⟩];unfold pt;rw[P];exact r
  ·cases h
theorem bW.tL{w:World}{M:ap}{d a:G}{c:Nat->Option Nat}{e:List V}{vs:au}(h:bW w M d (e.map (V.eO c)) vs)(k:∀s,(∃x∈e,x.bx s)->a s=pt d c s)(f:∀b,dc w M d b->dc w M a b):bW w M a e vs:=
 ⟨by simpa using h.1,λi x u g j=>(h.2 i (x.eO c) u (by rw[eC,g];rfl) j).tL (λs I=>k s ⟨x,bM g,I⟩) f⟩
theorem eK.tL{w:World}{M:ap}{f a:G}{g:Nat->Option Nat}{x:E}{v:Value}(h:eK w M f (x.eO g) v)(i:∀s,x.bx s->a s=pt f g s)(d:∀b,dc w M f b->dc w M a b):eK w M a x v:=by
 cases x with
 |c x=>exact dQ.tL h i d
 |agg l=>obtain⟨j,e,k⟩:=h;exact⟨j,e,k.tL i d⟩
theorem cr.tL{w:World}{M:ap}{f a:G}{d:Nat->Option Nat}{x:T}{v:Value}(h:cr w M f (x.eO d) v)(j:∀s,x.bx s->a s=pt f d s)(c:∀b,dc w M f b->dc w M a b):cr w M a x v:=by
 cases x with
 |e x=>exact eK.tL h j c
 |cE o=>obtain⟨k,e,m,n⟩:=h;exact⟨k,e,by simpa using m,λi x u g l=>(n i (x.eO d) u (by rw[eC,g];rfl) l).tL (λs I=>j s ⟨x,bM g,I⟩) c⟩
 |any=>trivial
def d_.rename{aU:ap}(l:List (Nat×T))(d:List (Nat×List V))(f:Nat->Option Nat)(h1:∀p∈l,qT (X.aV p.1) (p.2.eO f))
 (h2:∀s m,bX d s=some m->(∃t cs,f s=some t/\X.heap t=some cs/\(∀(w:World)(M:ap)(g:G)(A:au),bW w M g cs A->bW w M g (m.map (V.eO f)) A)/\∀L,cs=[.eY L]->m=[.eY L])\/(f s=none/\m=[]))
 (h3:∀p∈l,∀s,p.2.bx s->bX d s≠none)(h4:∀s cs,bX d s=some cs->∀x∈cs,∀u,x.bx u->bX d u≠none)
 (h5:∀s t u,bX d s≠none->bX d t≠none->f s=some u->f t=some u->s=t)(h6:∀s,aU s->bX d s≠none/\f s=some s):d_ n aU X ⟨mk l,bX d⟩:=by
 intro C hn I a w ⟨g,R⟩
 let c:G:=λs=>match bX d s with|none=>none|some _=>pt g f s
 have e:∀s,bX d s≠none->c s=pt g f s:=by
  intro s I;simp only[c];cases h:bX d s with
  |none=>exact absurd h I
  |some cs=>rfl
 have j:∀s b,c s=some (some b)->bX d s≠none/\∃t,f s=some t/\g t=some (some b):=by
  intro s b h;simp only[c]at h;split at h
  ·cases h
  ·rename_i cs hc;refine⟨by rw[hc];simp,?_⟩;unfold pt at h;cases N:f s with
   |none=>rw[N]at h;injection h with h;cases h
   |some t=>rw[N]at h;exact⟨t,rfl,h⟩
 have o:∀b,dc w C.M g b->dc w C.M c b:=λb B=>⟨B.1,B.2.1,λs h=>by obtain⟨_,t,_,h⟩:=j s b h;exact B.2.2 t h⟩
 refine⟨c,⟨R.mem.iF,λs t b x y=>?_,λs b x=>?_,λs h=>?_,λs cs h=>?_,R.mem.jO.to o (λ_ _=>rfl)⟩,λi=>?_,R.aN,λs b x=>?_,λs h=>?_,R.defers,R.size⟩
 ·obtain⟨d1,v,z,k⟩:=j s b x;obtain⟨d2,t2,D,q⟩:=j t b y;have:=R.mem.inj v t2 b k q;subst this;exact h5 s t v d1 d2 z D
 ·obtain⟨_,v,_,k⟩:=j s b x;exact R.mem.nm v b k
 ·show c s=none;have h:bX d s=none:=h;simp only[c,h]
 ·have h:bX d s=some cs:=h;have P:c s=pt g f s:=e s (by rw[h];simp);rcases h2 s cs h with⟨t,E,z,D,Q,e4⟩|⟨z,rfl⟩
  ·have r:c s=g t:=by rw[P];unfold pt;rw[z]
   rcases R.mem.gR t E D with⟨b,ty,A,sp,k,q,g3⟩|⟨k,q⟩|⟨b,en,H,k,q,g3⟩
   ·exact .inl ⟨b,ty,A,sp,r.trans k,q,(Q _ _ _ _ g3).tL (λu ⟨x,hx,K⟩=>e u (h4 s cs h x hx u K)) o⟩
   ·refine .inr (.inl ⟨r.trans k,?_⟩);subst q;have:=(Q w C.M g [] bW.nil).1;exact fR (an this)
   ·exact .inr (.inr ⟨b,en,H,r.trans k,q,e4 _ g3⟩)
  ·exact .inr (.inl ⟨by rw[P];unfold pt;rw[z],rfl⟩)
 ·rcases adD l i with h|h
  ·show cr _ _ _ (mk l i) _;rw[h];trivial
  ·exact(h1 _ h w C.M g _ (R.aV i)).tL (λu K=>e u (h3 _ h u K)) o
 ·obtain⟨_,v,_,k⟩:=j s b x;exact R.aX v b k
 ·rw[I]at h;have U:=h6 s h;rw[e s U.1];unfold pt;rw[U.2];exact R.aU s (by rw[I];exact h)
def ajV(w:World)(e:TypeId)(b c m f:Nat)(g spare d:au)(j:Value)(h:World):Prop:=
 (j=.slice (some ⟨b,0,none⟩) (c+m) f/\c+m<=f/\((m=0/\h=w)\/(∃i k,(some ⟨b,0,none⟩:Option Addr)=some ⟨i,0,none⟩/\w.heap[i]?=some (.cells (g++spare).toArray k (0,0))/\d.length<=spare.length/\h=w.setRow i ((g++d)++spare.drop d.length).toArray)))\/
 (∃a rest,j=.slice (some ⟨w.heap.size,0,none⟩) (c+m) a/\c+m<=a/\a<=maxLen/\a*1<=((g++d)++rest).length/\h=w.drew.alloc (.cells ((g++d)++rest).toArray e))
def fc.Xp{aU:ap}(x:aw)(d s k:Nat)(e:TypeId)(D:o.dst=some d)(r news:List V)(m:Nat)(hx:X.ev x=.e (.c (.ty s e (.inr k))))(I:X.heap s=some r)(hcs:r.length=k)
 (hcn:∀v∈r,¬v.bx s)(hnn:∀v∈news,¬v.bx s)(hst:¬aU s)(hd:d<n)
 (run:∀{C:ef}{N:G}{a:Act}{w:World},dD C N X a w->∀(b f:Nat)(y spare:au),a.eval x=.slice (some ⟨b,0,none⟩) k f->w.heap[b]?=some (.cells (y++spare).toArray e (0,0))->f*1<=(y++spare).length->k<=f->f<=maxLen->y.length=k*1->
   ∃E,bW w C.M N news E/\E.length=m*1/\∃z w',(execOp a.eval o).run P w=.ok (.value z) w'/\ajV w e b k m f y spare E z w'):
 fc P n aU o X ⟨gV (λi=>(X.aV i).cu s) d (.e (.c (.ty s e (.inr (k+m))))),cZ (λu=>(X.heap u).map (List.map (V.cu s))) s (some (r++news))⟩:=by
 intro C hn H a w ⟨N,R⟩ K Q hK;have h1:=R.ev x;rw[hx]at h1;obtain⟨b,cells,hg,hbb,f,hvx,hlc,L,l⟩:=h1;have hdd:jv C.nt o.dst:=by rw[D,hn];intro j hj;injection hj with hj;omega
 have g:=R.cu s;have hkk:(∀i,¬((X.cu s).aV i).bx s)/\∀u r,u≠s->(X.cu s).heap u=some r->∀v∈r,¬v.bx s:=by refine⟨λi=>T.tj _ s,λu r _ hu v hv=>?_⟩;simp only[St.cu,gN]at hu;obtain⟨cs0,_,rfl⟩:=hu;simp only[b_]at hv;obtain⟨v0,_,rfl⟩:=hv;exact v0.tj s
 have hcns:∀v∈r++news,¬v.bx s:=by
  intro v hv;rcases cq.1 hv with h|h
  ·exact hcn v h
  ·exact hnn v h
 have k_:∀(A:G)(z:Value)(w':World),dD C A ⟨(X.cu s).aV,cZ (X.cu s).heap s (some (r++news))⟩ a w'->cr w' C.M A (.e (.c (.ty s e (.inr (k+m))))) z->K (a.put o.dst z) w':=by intro A z w' R' hr;refine hK _ _ ⟨A,?_⟩;have:=R'.Br o.dst hdd z _ hr;rw[D]at this⊢;exact this
 obtain⟨t0,y,spare,p,B⟩:=R.Jk I hg hbb;have q:=p;rw[hbb]at q;injection q with q;injection q with q hb2;subst q;subst hb2
 have hl0:=B.1;obtain⟨E,M,hul,z,w',hrun,hres⟩:=run R b f y spare hvx p (an l) hlc L O;refine mn (v:=z) (w':=w') hrun ?_;rcases hres with⟨rfl,hle,⟨rfl,hw0⟩|⟨b1,t1,hA,q,hsl,rfl⟩⟩|⟨cap',rest,rfl,h1,h2,h3,rfl⟩
 ·have U:E=[]:=fR (an hul);have hnw:news=[]:=fR (by rw[M.1,U];rfl);subst U;subst hnw;rw[hw0];refine k_ N _ _ ?_ ⟨b,_,hg,p,f,ai,by simpa using hlc,L,by simpa using l⟩;have:=g.zI (s:=s) (cs':=r++[]) (vs':=y) (spare:=spare) hg p ai (an B) (by simp[St.cu,I]);rwa [setRow_self w b _ _ _ p]at this
 ·injection hA with hA;injection hA with hA;subst hA
  refine k_ N _ _ (g.zI (s:=s) (cs':=r++news) (vs':=y++E) (spare:=spare.drop E.length) hg p (by simp;omega) (B.append M) (by simp[St.cu,I])) ?_;refine⟨b,_,hg,setRow_heap w b _ _ _ _ p,f,rfl,hle,L,?_⟩;simp at l⊢;omega
 ·have R':=g.adH (s:=s) (t:=e) (spare:=rest) w.drew (.inr rfl) (B.append M) hcns (by rw[H];exact hst) hkk;exact k_ _ _ _ R' ⟨w.heap.size,((y++E)++rest).toArray,by simp[dZ],ou w.drew _,cap',rfl,h1,h2,by simpa using h3⟩
def fc.an4{P:ax}{aU:ap}{σ:St}(x y:aw)(t H:TypeId)(u:rr P H=true)(r:az)(ho:o.op=.call { callee:=.builtin .append,args:=#[x,y],argTypes:=#[t,H]})
 (news:List V)(m:Nat)(b:news=sZ r)(L:m=r.size)(hx:σ.ev x=.e (.c (.d (.sc (.slice none 0 0)))))(T:σ.ev y=.e (.c (.d (.sc (.string r)))))(hm0:m≠0)
 (e:TypeId)(bytes:Nat)(M:List V)(ht:jA P t=some e)(hk:fg P e=some 1)(hb:oQ P e=some bytes)(U:jQ P e=some M)(z:M.length=1)
 (h:m*bytes<=140737488355328)(N:m<=140737488355328)(c:Nat)(hc:σ.heap c=none)(B:¬aU c)(hd:jv n o.dst):
 fc P n aU o σ ⟨(σ.put o.dst (.e (.c (.ty c e (.inr m))))).aV,cZ σ.heap c (some news)⟩:=by
 intro C hn f a w ⟨γ,R⟩ K Q hK;have s:=R.ev x;rw[hx]at s;have D:a.eval x=.slice none 0 0:=iw s;obtain⟨us,i,E,j,G⟩:=ah9 (k:=1) (news:=news) (m:=m) rfl b L T (R.ev y);have g:m<=maxLen:=by simp only[maxLen];omega
 obtain⟨X,w',l,p⟩:=Xq (P:=P) (w:=w) o.type ht hk hb U z u r rfl L i (A:=none) (len:=0) (cap:=0) (vs:=[]) (spare:=[]) (m:=m) (us:=us)
  (.inr ⟨rfl,rfl⟩) (bK _) (dz _) ai G j.xP (an h) (an g)
 refine mn (v:=X) (w':=w') (aaT ho (by rw[D,E];exact l)) ?_;rcases p with⟨_,hle,_⟩|⟨q,rest,rfl,s,h2,h3,rfl⟩
 ·omega
 ·refine hK _ _ (R.ad6 (by rw[hn];exact hd) hc (by rw[f];exact B) (acC _ _) (bK _) (t:=e) (vs:=us) (spare:=rest) ?_ j ?_)
  ·have:=ou w.drew (.cells (([]++us)++rest).toArray e);simpa using this
  ·exact⟨w.heap.size,((([]:au)++us)++rest).toArray,by simp[dZ],ou w.drew _,q,ai,by simpa using s,h2,by simpa using h3⟩
def fc.an5{P:ax}{aU:ap}{σ:St}(x y:aw)(t u0:TypeId)(G:rr P u0=true)(E:az)(ho:o.op=.call { callee:=.builtin .append,args:=#[x,y],argTypes:=#[t,u0]})
 (d s len:Nat)(j:o.dst=some d)(l news:List V)(m:Nat)(f:news=sZ E)(hm:m=E.size)(e:TypeId)(hx:σ.ev x=.e (.c (.ty s e (.inr len))))(I:σ.heap s=some l)(H:l.length=len)(hy:σ.ev y=.e (.c (.d (.sc (.string E)))))
 (bytes:Nat)(zs:List V)(ht:jA P t=some e)(hk:fg P e=some 1)(hb:oQ P e=some bytes)(hz:jQ P e=some zs)(K:zs.length=1)
 (L:∀v∈l,¬v.bx s)(p:(len+m)*bytes<=140737488355328)(hmax:len+m<=140737488355328)(M:¬aU s)(hd:d<n):
 fc P n aU o σ ⟨gV (λi=>(σ.aV i).cu s) d (.e (.c (.ty s e (.inr (len+m))))),cZ (λu=>(σ.heap u).map (List.map (V.cu s))) s (some (l++news))⟩:=by
 refine .Xp x d s len e j l news m hx I H L (λv hv=>?_) M hd λ{C γ a w} R b cap vs spare N hb0 g Q T U=>?_
 ·subst f;simp only[sZ,b_]at hv;obtain⟨_,_,rfl⟩:=hv;exact λh=>h
 ·obtain⟨us,q,X,r,z⟩:=ah9 (k:=1) (news:=news) (m:=m) rfl f hm hy (R.ev y)
  obtain⟨v',w',B,D⟩:=Xq (P:=P) (w:=w) o.type ht hk hb hz K G E rfl hm q (A:=some ⟨b,0,none⟩) (len:=len) (cap:=cap) (vs:=vs) (spare:=spare) (m:=m) (us:=us)
   (.inl ⟨b,e,rfl,hb0,g⟩) Q T U z r.xP p (by simp only[maxLen];omega)
  exact⟨us,r,z,v',w',aaT ho (by rw[N,X];exact B),D⟩
def fc.an3{P:ax}{aU:ap}{σ:St}(x y:aw)(t:TypeId)(ho:o.op=.call { callee:=.builtin .append,args:=#[x,y],argTypes:=#[t,t]})
 (d s len:Nat)(g:o.dst=some d)(h news:List V)(m:Nat)(e:TypeId)(hx:σ.ev x=.e (.c (.ty s e (.inr len))))(I:σ.heap s=some h)(z:h.length=len)(hy:mN 1 σ.heap (σ.ev y)=some (news,m))
 (bytes:Nat)(U:List V)(ht:jA P t=some e)(hk:fg P e=some 1)(hb:oQ P e=some bytes)(hz:jQ P e=some U)(D:U.length=1)
 (E:∀v∈h,¬v.bx s)(G:∀v∈news,¬v.bx s)(j:(len+m)*bytes<=140737488355328)(X:len+m<=140737488355328)(H:¬aU s)(hd:d<n):
 fc P n aU o σ ⟨gV (λi=>(σ.aV i).cu s) d (.e (.c (.ty s e (.inr (len+m))))),cZ (λu=>(σ.heap u).map (List.map (V.cu s))) s (some (h++news))⟩:=by
 refine .Xp x d s len e g h news m hx I z E G H hd λ{C γ a w} R b cap vs spare K L f M N Q=>?_
 obtain⟨B,c,us,T,k,l,p⟩:=MK R.mem hy (R.ev y)
 obtain⟨v',w',q,r⟩:=Fg (P:=P) (w:=w) o.type ht hk hb hz D (A:=some ⟨b,0,none⟩) (len:=len) (cap:=cap) (vs:=vs) (spare:=spare) (m:=m) (us:=us) (B:=B) (c:=c)
  (.inl ⟨b,e,rfl,L,f⟩) M N Q l p k.xP j (by simp only[maxLen];omega)
 exact⟨us,k,l,v',w',Gc ho (by rw[K,T];exact q),r⟩
def H6(P:ax)(t u a:TypeId)(m:Nat):Prop:=
 ∃j,P.info? a=some j/\((P.underlying t=some (.pointer a)/\P.underlying u=some .unsafePointer/\j.size≠0/\0<m)\/
  (P.underlying t=some .unsafePointer/\P.underlying u=some (.pointer a)/\liesAt P P.depth a (m/P.cellsOf a) 0 a 1=true))
def aE1{P:ax}{n:Operand->T}(t u:TypeId)(x:aw)(i:o.op=.convert t u x)(s:Nat)(g:TypeId)(m:Nat)(y:n x=.e (.c (.ty s g (.inl m))))(z:H6 P t u g m):iq P o n (.e (.c (.ty s g (.inl m)))):=
 kv λM C H w a _ h=>by
  have d:=h x (by simp[i,Op.operands]);rw[y]at d;obtain⟨b,cells,A,p,q,r⟩:=d;have f:w.shape? b=some (g,m):=by simp[World.shape?,p,r]
  refine⟨.pointer (some ⟨b,0,none⟩),?_,b,cells,A,p,rfl,r⟩;obtain⟨j,v,⟨d,k,l,B⟩|⟨d,k,l⟩⟩:=z
  ·have:=Lib.run_to_unsafe (P:=P) (w:=w) ⟨b,0,none⟩ d k v l f B;simp[execOp,i,q,this]
  ·have:=Lib.run_from_unsafe (P:=P) (w:=w) ⟨b,0,none⟩ d k v f l;simp[execOp,i,q,this]
def Nu(P:ax)(g:FuncId):Prop:=∃a,P.funcs[g]?=some a/\(a.name== "runtime.NumGoroutine")=false/\a.body.isNone=true/\Extern.findNext a=none/\Extern.find a=some Extern.AbiNoEscape.same
def aE2{P:ax}{b:Operand->T}(g:FuncId)(x:aw)(d:Array TypeId)(c:o.op=.call { callee:=.value (.func g),args:=#[x],argTypes:=d})(f:Nu P g):iq P o b (b x):=
 kv λM n H w a _ h=>by obtain⟨p,i,j,k,l,m⟩:=f;refine⟨a.eval x,?_,h x (by simp[c,Op.operands,Call.operands])⟩;have e:=run_callFunc_extern (P:=P) i j k l m #[a.eval x] w;rw[Lib.run_noEscape]at e;simp[execOp,c,resolve,Act.eval,Deferred.ofValue,invoke]at e⊢;rw[e]
def NZ(P:ax)(t:TypeId):Prop:=∃a j,HK P t=some a/\P.info? a=some j
def anu{ev:Operand->T}(t:TypeId)(k:o.op=.alloc t)(d:Nat)(f:List V)(l:jQ P t=some f):
 tS P o ev d f (.e (.c (.ty d t (.inl f.length)))):=by
 intro M n H w a p h K Q hK;obtain⟨j,g,rfl,m⟩:=Eg l;obtain⟨z,i,b⟩:=HM g w;refine mn (v:=.pointer (some ⟨w.heap.size,0,none⟩)) (w':=w.alloc (.cells z.cells t)) ?_ ?_
 ·simp[execOp,k,Instr.alloc,i,newVar,newRow]
 ·refine hK _ _ w.heap.size t j [] (q7 _ _) (bK _) ?_ (HX j m) ⟨w.heap.size,z.cells,by simp[dZ],ou _ _,rfl,?_⟩
  ·rw[ou,<-b];simp
  ·rw[<-BK,b];simp
section
variable {P:ax}{U:gD}
def Tb:ST U->ST U->Option Bool
 |.e (.c (.ptr s o)),.e (.c (.ptr a b))=>(match Nat.beq s a,Nat.beq o b with|true,true=>some true|_,_=>none)
 |.e (.c (.ptr _ _)),.e (.c (.d (.sc (.pointer none))))=>some false
 |.e (.c (.d (.sc (.pointer none)))),.e (.c (.ptr _ _))=>some false
 |.e (.c (.d (.sc (.pointer none)))),.e (.c (.d (.sc (.pointer none))))=>some true
 |_,_=>none
def aEU{x y:ST U}(h:Tb x y=some b):L8 x.aI y.aI=some b:=by
 unfold Tb at h;split at h
 ·split at h
  ·rename_i a c;rw[<-h];show(if _/\_ then some true else none)=_;rw[aM ⟨cU a,cU c⟩]
  ·cases h
 ·exact h
 ·exact h
 ·exact h
 ·cases h
def T6(V:bY P U)(n:Nat)(ops:av)(o:Oper)(σ:SS U)(b:BinOp)(t:TypeId)(x y:aw)(K:SS U->Ft->Prop):Prop:=
 match Tb (σ.ev x) (σ.ev y)with
 |some r=>(match b,m_ n o.dst with
  |.eql,true=>NZ P t/\K (σ.put o.dst (.e (.c (.d (.sc (.bool r)))))) ⟨lk ops o,dl o,[]⟩
  |.neq,true=>NZ P t/\K (σ.put o.dst (.e (.c (.d (.sc (.bool (!r))))))) ⟨lk ops o,dl o,[]⟩
  |_,_=>False)
 |none=>yb V n ops o σ K
def TB(V:bY P U)(n:Nat)(ops:av)(o:Oper)(σ:SS U)(t u:TypeId)(x:aw)(K:SS U->Ft->Prop):Prop:=
 match σ.ev x with
 |.e (.c (.ty s a (.inl m)))=>(match m_ n o.dst with
  |true=>H6 P t u a m/\K (σ.put o.dst (.e (.c (.ty s a (.inl m))))) ⟨lk ops o,dl o,[]⟩
  |false=>False)
 |_=>yb V n ops o σ K
def TF(n:Nat)(ops:av)(o:Oper)(σ:SS U)(g:FuncId)(a:List Operand)(K:SS U->Ft->Prop):Prop:=
 match a,m_ n o.dst with
 |[x],true=>Nu P g/\K (σ.put o.dst (σ.ev x)) ⟨lk ops o,dl o,[]⟩
 |_,_=>False
variable {V:bY P U}{n:Nat}{ops:av}{aN:aq}{o:Oper}{σ:SS U}{K:SS U→Ft→Prop}
theorem aHR{b:BinOp}(h:T6 V n ops o σ b t x y K)(d:fA ops o σ.st)(m:o.op=.binOp b t x y e):∃c f,kD P n ops o aN σ c f/\K c f:=by
 unfold T6 at h;split at h
 ·rename_i r p;have a:=aEU p;rw[<-c8,<-c8]at a;split at h
  ·rename_i g;obtain⟨⟨i,j,k,l⟩,h⟩:=h;refine⟨_,_,⟨?_,λs I=>by simp at I⟩,h⟩;rw[oa];have:=afN (P:=P) (o:=o) t x y e false (an m) i j k l r a;rw[show(r !=false)=r by cases r<;>rfl]at this;exact SQ.pure d this (na g)
  ·rename_i g;obtain⟨⟨i,j,k,l⟩,h⟩:=h;refine⟨_,_,⟨?_,λs I=>by simp at I⟩,h⟩;rw[oa];have:=afN (P:=P) (o:=o) t x y e true (an m) i j k l r a;rw[show(r !=true)=!r by cases r<;>rfl]at this;exact SQ.pure d this (na g)
  ·cases h
 ·exact Bw h d
theorem aGI(h:TB V n ops o σ t e x K)(b:fA ops o σ.st)(c:o.op=.convert t e x):∃a f,kD P n ops o aN σ a f/\K a f:=by
 unfold TB at h;split at h
 ·rename_i s d m g;split at h
  ·rename_i i;obtain⟨j,h⟩:=h;refine⟨_,_,⟨?_,λs I=>by simp at I⟩,h⟩;rw[oa];exact SQ.pure b (aE1 t e x c s d m (by rw[c8,g];rfl) j) (na i)
  ·cases h
 ·exact Bw h b
def aGU{args:Array Operand}(h:TF (P:=P) n ops o σ g args.toList K)(b:fA ops o σ.st)(c:o.op=.call { callee:=.value (.func g),args:=args,argTypes:=L}):∃a f,kD P n ops o aN σ a f/\K a f:=by
 unfold TF at h;split at h
 ·rename_i x d i;obtain⟨j,h⟩:=h;have e:args=#[x]:=by apply mQ;simpa using d
  subst e;refine⟨_,_,⟨?_,λs I=>by simp at I⟩,h⟩;rw[oa,<-c8];exact SQ.pure b (aE2 g x L c j) (na i)
 ·cases h
end
end Go.Ab
