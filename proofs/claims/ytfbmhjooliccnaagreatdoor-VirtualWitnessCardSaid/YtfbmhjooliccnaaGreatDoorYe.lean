/- Part of VirtualWitness. No condition. -/
import Derived.Test.YtfbmhjooliccnaaGreatDoorYd
set_option linter.all false
set_option maxRecDepth 100000
set_option maxHeartbeats 60000000
noncomputable section
namespace Go.Ab
open Go Go.RowKit
variable {s n:Nat}{M:Nat→Prop}{Z A:Nat→Nat}{t:TypeId}{v:Value}{x y:ax}{X:av}{w:World}{R:au}{U:Nat→Option Nat}{i:Int}{Q H:G}{P:Prop}{N:ay}{L z:St}{K:aw}{r:Option Int}{C:TI}{k:IntKind}{f:FuncId}{B:Bool}{o:Oper}
def pP(n:Int):=-9223372036854775808<=n/\n<=9223372036854775807
theorem pP.wrap{n:Int}(h:pP n):IntKind.i64.wrap n=n:=IntWalk.i64_in _ (by obtain⟨a,b⟩:=h;omega)
section
variable {U:gw}
def u4:ST U->Option Value
 |.e (.c (.d (.sc v)))=>some v
 |.e (.c (.d (.b8 b)))=>some (.bool b)
 |_=>none
def xP{x:ST U}(h:u4 x=some v):oN x.den=some v:=by
 unfold u4 at h;split at h
 ·injection h with h;subst h;rfl
 ·injection h with h;subst h;rfl
 ·cases h
def AY(a:Bool)(k:IntKind)(n:Int)(K:SD U->Prop):Prop:=
 match k with
 |.i64=>(match a with|false=>pP n/\K (.sc (.int .i64 n))|true=>K (.sc (.int .i64 (IntKind.i64.wrap n))))
 |k=>K (.sc (.int k (k.wrap n)))
def F2{K:SD U->Prop}(h:AY B k i K):∃r,r.den=.sc (.int k (k.wrap i))/\K r:=by
 unfold AY at h;split at h
 ·split at h
  ·exact⟨_,by rw[h.1.wrap];rfl,h.2⟩
  ·exact⟨_,rfl,h⟩
 ·exact⟨_,rfl,h⟩
def X_(c:Bool)(d:BinOp)(k:IntKind)(a b:Int)(K:SD U->Prop):Prop:=
 match d with
 |.shl=>0<=b/\K (.sc (.int k (k.wrap (a*2^min b.toNat k.bits))))
 |.shr=>0<=b/\K (.sc (.int k (a.fdiv (2^min b.toNat k.bits))))
 |.add=>AY c k (a+b) K
 |.sub=>AY c k (a-b) K
 |.mul=>AY c k (a*b) K
 |.quo=>b≠0/\AY c k (a.tdiv b) K
 |.rem=>b≠0/\K (.sc (.int k (a.tmod b)))
 |.and=>K (.sc (.int k (k.wrap (BitVec.ofInt k.bits a &&& BitVec.ofInt k.bits b).toNat)))
 |.or=>K (.sc (.int k (k.wrap (BitVec.ofInt k.bits a ||| BitVec.ofInt k.bits b).toNat)))
 |.xor=>K (.sc (.int k (k.wrap (BitVec.ofInt k.bits a ^^^ BitVec.ofInt k.bits b).toNat)))
 |.andNot=>False
 |.eql=>K (.b8 (a==b))
 |.neq=>K (.b8 (a !=b))
 |.lss=>K (.b8 (decide (a<b)))
 |.leq=>K (.b8 (decide (a<=b)))
 |.gtr=>K (.b8 (decide (b<a)))
 |.geq=>K (.b8 (decide (b<=a)))
def ab7:BinOp->Bool
 |.shl=>true
 |.shr=>true
 |_=>false
def Oa(d i:Bool)(c:BinOp)(f e:Value)(K:SD U->Prop):Prop:=
 match f,e with
 |.int k a,.int h b=>(match ab7 c||decide (k=h)with|true=>X_ d c k a b K|false=>False)
 |.bool a,.bool b=>(match i,c with|true,.eql=>K (.b8 (a==b))|true,.neq=>K (.b8 (!(a==b)))|_,_=>False)
 |.string a,.string b=>(match c with|.eql=>K (.b8 (a.toList==b.toList))|.neq=>K (.b8 (!(a.toList==b.toList)))|_=>False)
 |_,_=>False
def apJ{i:BinOp}{l:Value}{K:SD U->Prop}(h:Oa B (Bz N t) i v l K):∃c r,mI N i t v l=some c/\r.den=.sc c/\K r:=by
 unfold Oa at h;split at h
 ·rename_i k a m b;split at h
  ·rename_i d;simp only[vd,be]at d;unfold X_ at h;cases i<;>simp only[ab7,iN,false_or]at d h
   case shl=>exact⟨_,_,by simp only[mI,g (show¬b<0 by omega)],rfl,h.2⟩
   case shr=>exact⟨_,_,by simp only[mI,g (show¬b<0 by omega)],rfl,h.2⟩
   case add=>obtain⟨r,e,f⟩:=F2 h;exact⟨_,r,by simp only[mI,aK d],e,f⟩
   case sub=>obtain⟨r,e,f⟩:=F2 h;exact⟨_,r,by simp only[mI,aK d],e,f⟩
   case mul=>obtain⟨r,e,f⟩:=F2 h;exact⟨_,r,by simp only[mI,aK d],e,f⟩
   case quo=>obtain⟨r,e,f⟩:=F2 h.2;exact⟨_,r,by simp only[mI,aK (aP d h.1)],e,f⟩
   case rem=>exact⟨_,_,by simp only[mI,aK (aP d h.1)],rfl,h.2⟩
   all_goals first|cases h|exact⟨_,_,by simp only[mI,aK d],rfl,h⟩
  ·cases h
 ·rename_i a b;split at h
  ·rename_i j;exact⟨_,_,by simp only[mI,j,oC],rfl,h⟩
  ·rename_i j;exact⟨_,_,by simp only[mI,j,oC],rfl,h⟩
  ·cases h
 ·rename_i a b;split at h
  ·exact⟨_,_,by simp only[mI],rfl,h⟩
  ·exact⟨_,_,by simp only[mI],rfl,h⟩
  ·cases h
 ·cases h
def Um(u:UnOp)(v:Value)(K:SD U->Prop):Prop:=
 match u,v with
 |.not,.bool b=>K (.b8 (!b))
 |.neg,.int k n=>AY false k (0-n) K
 |.xor,.int k n=>K (.sc (.int k (k.wrap (BitVec.ofInt k.bits (if k.signed then-1 else k.max) ^^^ BitVec.ofInt k.bits n).toNat)))
 |_,_=>False
def aGt{u:UnOp}{K:SD U->Prop}(h:Um u v K):∃a r,DW u v=some a/\r.den=.sc a/\K r:=by
 unfold Um at h;split at h
 ·exact⟨_,_,rfl,rfl,h⟩
 ·obtain⟨r,b,c⟩:=F2 h;exact⟨_,r,rfl,b,c⟩
 ·exact⟨_,_,rfl,rfl,h⟩
 ·cases h
def JJ(a:Nat):ST U->Option (ST U)
 |.e (.c (.ptr s o))=>some (.e (.c (.ptr s (o+a))))
 |.e (.c (.jN s k i j))=>some (.e (.c (.jN s k i (j+a))))
 |.e (.c (.ty s _ (.inl _)))=>some (.e (.c (.ptr s a)))
 |.e (.c (.gT b))=>some (.e (.c (.gT (b.drop a))))
 |_=>none
def aaU{x r:ST U}(h:JJ s x=some r):vI s x.den=some r.den:=by
 unfold JJ at h;split at h
 ·injection h with h;subst h;rfl
 ·injection h with h;subst h
  simp only[ST.den,SE.den,SV.den,vI,uj]
 ·injection h with h;subst h;rfl
 ·injection h with h;subst h
  simp only[ST.den,SE.den,SV.den,vI,vj]
 ·cases h
def G_(i:Int)(K:aq):Nat->Prop
 |0=>True
 |n+1=>G_ i K n/\(i=(n:Int)->K n)
theorem L_:∀{n m:Nat},G_ i M n->m<n->i=(m:Int)->M m
 |0,m,_,a,_=>by omega
 |n+1,m,h,a,e=>by
  rcases Nat.lt_or_eq_of_le (Nat.le_of_lt_succ a)with h1|h1
  ·exact L_ h.1 h1 e
  ·subst h1;exact h.2 e
def vL{a:Type}:List a->Nat->Option a
 |[],_=>none
 |x::_,0=>some x
 |_::l,n+1=>vL l n
theorem qd{a:Type}:∀(l:List a)(n:Nat),vL l n=l[n]?
 |[],_=>rfl
 |_::_,0=>rfl
 |_::l,n+1=>by rw[vL,qd l n];rfl
def xH(d:Bool)(n:Nat)(b:List (SV U))(a:Nat):Option (ST U):=
 match d with
 |true=>(match Nat.ble (a+n) b.length with|true=>some (.e (.agg ((b.drop a).take n)))|false=>none)
 |false=>(match vL b a with|some v=>some (.e (.c v))|none=>none)
def Il(v:SV U):∀es,v.den≠.dV es:=by intro es;cases v<;>(intro h;cases h)
def IU(a:List (SV U)):dy (a.map SV.den)=true:=by
 cases a with
 |nil=>rfl
 |cons v r=>
  simp only[dc];unfold dy;split
  ·rename_i b _ h;injection h with h _;exact absurd h (Il v b)
  ·rfl
def Dn(b:yI N t C){c:List (SV U)}{r:ST U}(h:xH C.ag C.sz c s=some r):mM N t (c.map SV.den) s=some r.den:=by
 unfold xH at h;unfold mM;rw[IU,b.ag,b.sz];split at h
 ·rename_i a;split at h
  ·rename_i d;injection h with h;subst h
   simp only[a,ST.den,SE.den,dS];rw[aK (ic d)];simp
  ·cases h
 ·rename_i a;split at h
  ·rename_i v e;injection h with h;subst h
   simp only[a,ST.den,SE.den,dU];rw[<-qd,e];rfl
  ·cases h
def L9(c:List (SV U))(a:Nat)(b:List (SV U)):List (SV U):=c.take a++b++c.drop (a+b.length)
def SE.cells:SE U->List (SV U)
 |.c v=>[v]
 |.agg a=>a
def As(e:SE U):e.den.cells=e.cells.map SV.den:=by cases e<;>rfl
def aid(c:List (SV U))(a:Nat)(b:List (SV U)):(L9 c a b).map SV.den=kL (c.map SV.den) a (b.map SV.den):=by simp[L9,kL,vj,uh]
def jL(a:av)(i:Nat)(v:V):List V:=(a.map λx=>V.d (.sc x)).set i v
def GQ(f:V->V)(b:∀x:Value,f (.d (.sc x))=.d (.sc x))(a:av)(i:Nat)(v:V):(jL a i v).map f=jL a i (f v):=by unfold jL;rw[List.map_set,ir];congr 1;exact lc λx _=>b x
def Lz{v x:V}(h:x∈jL X s v):x=v\/∃u,x=.d (.sc u):=by
 unfold jL at h;rcases B4 h with h|h
 ·obtain⟨u,_,rfl⟩:=cj.1 h;exact .inr ⟨u,rfl⟩
 ·exact .inl h
def SI{vs:av}{i:Nat}{v:V}(d:∀b,v≠.dV b):dy (jL vs i v)=true:=by
 have c:∀l:List V,(∀x∈l,∀b,x≠.dV b)->dy l=true:=by
  intro l h;cases l with
  |nil=>rfl
  |cons a r=>have:=h a (bZ ..);cases a<;>first|rfl|exact absurd rfl (this _)
 exact c _ λx f b=>by
  rcases Lz f with rfl|⟨u,rfl⟩
  ·exact d b
  ·intro e;cases e
def afY{v:V}(h:s<X.length):(jL X s v)[s]?=some v:=by unfold jL;rw[Nj (an h)]
def aCP{i:Nat}{v v':V}(h:i<X.length):kL (jL X i v) i [v']=jL X i v':=by
 unfold jL kL;rw[No,aK (an h),No,aK (an h)];have a:(List.take i (X.map λx=>V.d (.sc x))).length=i:=by simp;omega
 rw[B7 O,List.take_take,Nat.min_self];have e:i+[v'].length=(List.take i (X.map λx=>V.d (.sc x))++[v]).length:=by simp;omega
 rw[show List.take i (X.map λx=>V.d (.sc x))++v::List.drop (i+1) (X.map λx=>V.d (.sc x))=(List.take i (X.map λx=>V.d (.sc x))++[v])++List.drop (i+1) (X.map λx=>V.d (.sc x))by simp,e,List.drop_left];simp
def FM(b:List (Nat×Nat))(cells:List (SV U)):List (Nat×ST U)->Option (List (SV U))
 |[]=>some cells
 |(i,t)::rest=>
  match vL b i,t with
  |some (a,size),.e x=>(match Nat.beq x.cells.length size,Nat.ble (a+size) cells.length with|true,true=>FM b (L9 cells a x.cells) rest|_,_=>none)
  |_,_=>none
theorem aa3(a:List (Nat×Nat)):∀(l:List (Nat×ST U)) (cells r:List (SV U)),FM a cells l=some r->vJ (λi=>a[i]?) (cells.map SV.den) (l.map λp=>(p.1,p.2.den))=some (r.map SV.den)
 |[],cells,r,h=>by simp only[FM]at h;injection h with h;subst h;rfl
 |(i,t)::rest,cells,r,h=>by
  simp only[FM]at h;split at h
  ·rename_i c size x b;split at h
   ·rename_i e d;have j:=cO e;have f:=ic d;have:=aa3 a rest _ r h;rw[qd]at b;rw[dc];show vJ _ _ ((i,T.e x.den)::_)=_;simp only[vJ,b];rw[As,aK ⟨by simpa using j,by simpa using f⟩,<-aid];exact this
   ·cases h
  ·cases h
end
section
variable {P:ay}{U:gw}(V:bU P U)
def DT:List (SV U)->Option (List (SD U))
 |[]=>some []
 |.d x::r=>(match DT r with|some l=>some (x::l)|none=>none)
 |_::_=>none
theorem T4:∀(l:List (SV U)) (a:List (SD U)),DT l=some a->l=a.map .d
 |[],a,h=>by simp only[DT]at h;injection h with h;subst h;rfl
 |v::r,a,h=>by
  cases v<;>simp only[DT]at h
  case d x=>
   split at h
   ·rename_i l b;injection h with h;subst h
    rw[T4 r l b];rfl
   ·cases h
  all_goals cases h
def aF5(a:List (SD U)):lY ((a.map SV.d).map SV.den)=some (a.map λy=>y.den.cH):=by
 induction a with
 |nil=>rfl
 |cons x r b=>simp only[dc,lY,b,SV.den,Mm]
def GD(k:U.K)(e:SE U):Option (U.El k):=match DT e.cells with|some a=>V.GC k a|none=>none
def RX{k:U.K}{e:SE U}{x:U.El k}(h:GD V k e=some x):lY e.den.cells=some (U.dt k x)/\e.den.cells.length=U.w k:=by
 unfold GD at h;split at h
 ·rename_i i b;have f:=T4 _ _ b;have d:=V.Lj k i x h;have a:lY e.den.cells=some (U.dt k x):=by rw[As,f,aF5,d]
  refine⟨a,?_⟩;have c:=TZ _ _ a;rw[<-c,V.len]
 ·cases h
def Dm(k:U.K)(b:Operand->ST U):Nat->List (Nat×Operand)->Option (List (U.El k))
 |_,[]=>some []
 |i,(j,x)::r=>
  match b x with
  |.e e=>(match Nat.beq j i,GD V k e,Dm k b (i+1) r with|true,some a,some l=>some (a::l)|_,_,_=>none)
  |_=>none
theorem RY{k:U.K}(b:SS U):∀(l:List (Nat×Operand)) (i:Nat) (r:List (U.El k)),Dm V k b.ev i l=some r->vS (U.w k) b.st.ev i l=some (r.map (U.dt k))/\r.length=l.length
 |[],i,r,h=>by simp only[Dm]at h;injection h with h;subst h;exact⟨rfl,rfl⟩
 |(j,x)::l,i,r,h=>by
  simp only[Dm]at h;split at h
  ·rename_i e n;split at h
   ·rename_i a m q p o;injection h with h;subst h
    have c:=RY b l (i+1) m o;obtain⟨f,d⟩:=RX V p;simp only[vS,c8,n,ST.den];rw[aK ⟨cO q,d⟩,f,c.1];exact⟨rfl,by simp[c.2]⟩
   ·cases h
  ·cases h
def nA:ST U->Option Int
 |.e (.c (.d (.sc (.int _ i))))=>some i
 |_=>none
def aze{x:ST U}(h:nA x=some i)(a:0<=i):Bb x.den=some i.toNat:=by
 unfold nA at h;split at h
 ·injection h with h;subst h;simp[ST.den,SE.den,SV.den,SD.den,Bb,a]
 ·cases h
def L5(n:Nat)(i j:Option Int)(x:ST U)(K:ST U->Prop):Prop:=
 match x with
 |.e (.c (.sub s k f b))=>
  (match Nat.beq (U.w k) n with
   |true=>(match i,j with
    |none,none=>K (.e (.c (.sub s k f b)))
    |none,some h=>0<=h/\h<=b/\K (.e (.c (.sub s k f h.toNat)))
    |some l,none=>0<=l/\l<=b/\K (.e (.c (.sub s k (f+l.toNat) (b-l.toNat))))
    |some l,some h=>0<=l/\l<=h/\h<=b/\K (.e (.c (.sub s k (f+l.toNat) (h.toNat-l.toNat)))))
   |false=>False)
 |.e (.c (.aW s k b))=>
  (match Nat.beq (U.w k) n with
   |true=>(match i,j with
    |none,none=>K (.e (.c (.aW s k b)))
    |none,some h=>0<=h/\h<=b/\K (.e (.c (.sub s k 0 h.toNat)))
    |some l,none=>0<=l/\l<=b/\K (.e (.c (.sub s k l.toNat (b-l.toNat))))
    |some l,some h=>0<=l/\l<=h/\h<=b/\K (.e (.c (.sub s k l.toNat (h.toNat-l.toNat)))))
   |false=>False)
 |.e (.c (.d (.bf k l)))=>
  (match Nat.beq (U.w k) n with
   |true=>(match i,j with
    |none,none=>K (.e (.c (.d (.bf k l))))
    |none,some h=>0<=h/\h<=l.length/\K (.e (.c (.d (.bf k (l.take h.toNat)))))
    |some a,none=>0<=a/\a<=l.length/\K (.e (.c (.d (.bf k (l.drop a.toNat)))))
    |some a,some h=>0<=a/\a<=h/\h<=l.length/\K (.e (.c (.d (.bf k ((l.drop a.toNat).take (h.toNat-a.toNat)))))))
   |false=>False)
 |.e (.c (.d (.sc (.slice none 0 0))))=>
  (match i,j with
   |none,none=>K (.e (.c (.d (.sc (.slice none 0 0)))))
   |none,some h=>h=0/\K (.e (.c (.d (.sc (.slice none 0 0)))))
   |some l,none=>l=0/\K (.e (.c (.d (.sc (.slice none 0 0)))))
   |some l,some h=>l=0/\h=0/\K (.e (.c (.d (.sc (.slice none 0 0))))))
 |_=>False
def vR:ST U->Option Nat
 |.e (.c (.sub _ _ _ a))=>some a
 |.e (.c (.aW _ _ a))=>some a
 |.e (.c (.d (.bf _ l)))=>some l.length
 |.e (.c (.d (.sc (.slice _ n _))))=>some n
 |_=>none
def QF{x:ST U}(h:vR x=some n):uP x.den=some n:=by unfold vR at h;split at h<;>first|injection h with h;subst h;simp[ST.den,SE.den,SV.den,SD.den,uP]|cases h
def aal(V:bU P U)(k:U.K)(l:List (U.El k)):(l.map (U.dt k)).all (λr=>r.length==U.w k)=true:=by rw[eM];intro r a;rw[cj]at a;obtain⟨x,_,rfl⟩:=a;have:=V.len k x;simp[this]
def ah4(V:bU P U){v:Option Int}{x:ST U}{K:ST U->Prop}(m:vR x=some s)(h:L5 n r v x K):
 ∃(a b:Nat)(d:ST U),mR n a b x.den=some d.den/\K d/\(a=(r.map Int.toNat).getD 0/\b=(v.map Int.toNat).getD s)/\(∀i,r=some i->0<=i)/\(∀i,v=some i->0<=i):=by
 unfold L5 at h;split at h
 ·rename_i c k w q;simp only[vR,cY]at m;subst m;split at h
  ·rename_i j;have j:=cO j;subst j;split at h
   ·exact⟨0,q,_,by simp[ST.den,SE.den,SV.den,mR],h,ai,ai,ai⟩
   ·rename_i p;obtain⟨f,o,e⟩:=h;exact⟨0,p.toNat,_,by simp only[ST.den,SE.den,SV.den,mR];rw[aK ⟨trivial,O,O⟩];simp,e,ai,ai,by simpa using f⟩
   ·rename_i a;obtain⟨f,o,e⟩:=h;exact⟨a.toNat,q,_,by simp only[ST.den,SE.den,SV.den,mR];rw[aK ⟨trivial,O,O⟩];simp[jS],e,ai,by simpa using f,ai⟩
   ·rename_i a b;obtain⟨f,o,e,t⟩:=h;exact⟨a.toNat,b.toNat,_,by simp only[ST.den,SE.den,SV.den,mR];rw[aK ⟨trivial,O,O⟩];simp[jS],t,ai,by simpa using f,by simp;omega⟩
  ·cases h
 ·rename_i c k q;simp only[vR,cY]at m;subst m;split at h
  ·rename_i j;have j:=cO j;subst j;split at h
   ·exact⟨0,q,_,by simp[ST.den,SE.den,SV.den,mR],h,ai,ai,ai⟩
   ·rename_i p;obtain⟨f,o,e⟩:=h;exact⟨0,p.toNat,_,by simp only[ST.den,SE.den,SV.den,mR];rw[aK ⟨trivial,O,O⟩];simp,e,ai,ai,by simpa using f⟩
   ·rename_i a;obtain⟨f,o,e⟩:=h;exact⟨a.toNat,q,_,by simp only[ST.den,SE.den,SV.den,mR];rw[aK ⟨trivial,O,O⟩];simp,e,ai,by simpa using f,ai⟩
   ·rename_i a b;obtain⟨f,o,e,t⟩:=h;exact⟨a.toNat,b.toNat,_,by simp only[ST.den,SE.den,SV.den,mR];rw[aK ⟨trivial,O,O⟩];simp,t,ai,by simpa using f,by simp;omega⟩
  ·cases h
 ·rename_i k l;simp only[vR,cY]at m;subst m;have u:=aal V k l;split at h
  ·rename_i j;have j:=cO j;subst j;split at h
   ·exact⟨0,l.length,_,by simp only[ST.den,SE.den,SV.den,SD.den,mR];rw[aK ⟨ai,ai,u⟩,rK,eQ ai],h,ai,ai,ai⟩
   ·rename_i p;obtain⟨f,o,e⟩:=h;exact⟨0,p.toNat,_,by simp only[ST.den,SE.den,SV.den,SD.den,mR];rw[aK ⟨O,by simp;omega,u⟩];simp[uh],e,ai,ai,by simpa using f⟩
   ·rename_i a;obtain⟨f,o,e⟩:=h;exact⟨a.toNat,l.length,_,by simp only[ST.den,SE.den,SV.den,SD.den,mR];rw[aK ⟨O,ai,u⟩,eQ ai];simp[vj],e,ai,by simpa using f,ai⟩
   ·rename_i a b;obtain⟨f,o,e,t⟩:=h;exact⟨a.toNat,b.toNat,_,by simp only[ST.den,SE.den,SV.den,SD.den,mR];rw[aK ⟨O,by simp;omega,u⟩];simp[vj,uh],t,ai,by simpa using f,by simp;omega⟩
  ·cases h
 ·simp only[vR,cY]at m;subst m;split at h
  ·exact⟨0,0,_,by simp[ST.den,SE.den,SV.den,SD.den,mR],h,ai,ai,ai⟩
  ·rename_i p;obtain⟨rfl,e⟩:=h;exact⟨0,0,_,by simp[ST.den,SE.den,SV.den,SD.den,mR],e,ai,ai,ai⟩
  ·rename_i a;obtain⟨rfl,e⟩:=h;exact⟨0,0,_,by simp[ST.den,SE.den,SV.den,SD.den,mR],e,ai,ai,ai⟩
  ·rename_i a b;obtain⟨rfl,rfl,e⟩:=h;exact⟨0,0,_,by simp[ST.den,SE.den,SV.den,SD.den,mR],e,ai,ai,ai⟩
 ·cases h
end
section
variable {P:ay}{U:gw}(V:bU P U)
def Iy{k:U.K}(l:List (U.El k))(i:Nat)(K:U.El k->Prop):=i<l.length/\∀x,l[i]?=some x->K x
def N3{k:U.K}{l:List (U.El k)}{K:U.El k->Prop}(h:Iy l s K):∃x,l[s]?=some x/\K x:=⟨l[s]'h.1,ca h.1,h.2 _ (ca h.1)⟩
def Tm(i:TI)(h:SS U)(x:ST U)(K:ST U->Prop):Prop:=
 match x with
 |.e (.c (.ptr s a))=>
  (match bX h.heap s with
   |some (.cells f)=>(match xH i.ag i.sz f a with|some r=>K r|none=>False)
   |some (.hI m b v)=>(match i.ag with|false=>a=b/\b<m.length/\K (.e (.c v))|true=>False)
   |_=>False)
 |.e (.c (.jN s k b j))=>
  (match bX h.heap s with
   |some (.aU n l)=>(match V.cast k n l with
    |some l=>Iy l b λx=>(match xH i.ag i.sz ((V.row k x).map .d) j,Nat.ble (j+i.sz) (U.w k)with|some r,true=>K r|_,_=>False)
    |none=>False)
   |_=>False)
 |.e (.c (.gT f))=>(match xH i.ag i.sz (f.map .d) 0 with|some r=>K r|none=>False)
 |_=>False
def F4(k:IntKind):List (SD U)->Option (List Int)
 |[]=>some []
 |.sc (.int a n)::r=>(match decide (a=k),F4 k r with|true,some l=>some (n::l)|_,_=>none)
 |_::_=>none
theorem ab5(k:IntKind):∀(i:List (SD U)) (a:ao),F4 k i=some a->i=a.map λn=>.sc (.int k n)
 |[],a,h=>by simp only[F4,cY]at h;subst h;rfl
 |c::r,a,h=>by
  unfold F4 at h;split at h
  ·rename_i e;cases e
  ·rename_i j n o e;injection e with d b;subst d;subst b
   split at h
   ·rename_i l f m;injection h with h;subst h
    simp only[be]at f;subst f;rw[ab5 j r l m];rfl
   ·cases h
  ·cases h
def RZ(b a:Nat)(x:ST U):Option (IntKind×List Int×List (SD U)):=
 match x with
 |.e (.c (.gT (.sc (.int k n)::r)))=>(match Nat.beq b 1,F4 k r with|true,some l=>(match Nat.beq (l.length+1) a with|true=>some (k,n::l,.sc (.int k n)::r)|false=>none)|_,_=>none)
 |_=>none
def aBq{x:ST U}{b:ao}{d:List (SD U)}(h:RZ s n x=some (k,b,d)):x=.e (.c (.gT d))/\s=1/\b.length=n/\d=b.map λa=>.sc (.int k a):=by
 unfold RZ at h;split at h
 ·rename_i f a r;split at h
  ·rename_i l i j;split at h
   ·rename_i m;injection h with h;injection h with o h;injection h with p q
    subst o;subst p;subst q;refine⟨rfl,cO i,by simpa using cO m,?_⟩;rw[ab5 f r l j];rfl
   ·cases h
  ·cases h
 ·cases h
def Bt(t:TypeId)(x:ST U)(i:Int)(K:ST U->Prop):Prop:=
 match V.ty t with
 |some h=>
  (match h.sl with
   |some e=>
    (match V.ty e with
     |some b=>
      (match x with
       |.e (.c (.sub s k f a))=>(match Nat.beq (U.w k) b.sz with|true=>0<=i/\i<a/\K (.e (.c (.jN s k (f+i.toNat) 0)))|false=>False)
       |.e (.c (.aW s k a))=>(match Nat.beq (U.w k) b.sz with|true=>0<=i/\i<a/\K (.e (.c (.jN s k i.toNat 0)))|false=>False)
       |.e (.c (.d (.bf k l)))=>(match Nat.beq (U.w k) b.sz with|true=>0<=i/\Iy l i.toNat λx=>K (.e (.c (.gT (V.row k x))))|false=>False)
       |_=>False)
     |none=>False)
   |none=>
    (match h.ar with
     |some (a,e)=>
      (match V.ty e with
       |some b=>(match RZ b.sz a x with
        |some (k,j,n)=>0<=i/\i<(a:Int)/\K (.e (.c (.gT (.sc (.int k (j.getD i.toNat 0))::n.drop (i.toNat+1)))))
        |none=>0<=i/\i<(a:Int)/\G_ i (λm=>match JJ (m*b.sz) x with|some r=>K r|none=>False) a)
       |none=>False)
     |none=>False))
 |none=>False
def S8(c:Call)(a:SS U)(K:ST U->Prop):Prop:=
 match c.callee,c.args.toList,c.argTypes.toList with
 |.builtin .len,[x],[t]=>
  (match V.ty t with
   |some b=>
    (match b.sl with
     |some _=>(match vR (a.ev x)with|some n=>K (.e (.c (.d (.sc (.int .i64 (n:Int))))))|none=>False)
     |none=>(match b.st,u4 (a.ev x)with|true,some (.string s)=>K (.e (.c (.d (.sc (.int .i64 (s.size:Int))))))|_,_=>False))
   |none=>False)
 |.builtin .max,[x,y],_=>(match u4 (a.ev x),u4 (a.ev y)with|some (.int k i),some (.int _ j)=>K (.e (.c (.d (.sc (.int k (max i j))))))|_,_=>False)
 |.builtin .min,[x,y],_=>(match u4 (a.ev x),u4 (a.ev y)with|some (.int k i),some (.int _ j)=>K (.e (.c (.d (.sc (.int k (min i j))))))|_,_=>False)
 |_,_,_=>False
def yL(a:SS U):Option Operand->Option (Option Int)
 |none=>some none
 |some x=>(match nA (a.ev x)with|some i=>some (some i)|none=>none)
def Tv(T:Op)(a:SS U)(K:ST U->Prop):Prop:=
 match T with
 |.move x=>K (a.ev x)
 |.assign x=>K (a.ev x)
 |.pick c x y=>
  (match a.ev c with
   |.e (.c (.d (.sc (.bool true))))=>K (a.ev x)
   |.e (.c (.d (.sc (.bool false))))=>K (a.ev y)
   |.e (.c (.d (.b8 b)))=>(b=true->K (a.ev x))/\(b=false->K (a.ev y))
   |_=>False)
 |.binOp b t x y _=>(match u4 (a.ev x),u4 (a.ev y),V.ty t with|some C,some M,some h=>Oa V.wr h.bo b C M (λr=>K (.e (.c (.d r))))|_,_,_=>False)
 |.unOp u _ x=>(match u4 (a.ev x)with|some C=>Um u C (λr=>K (.e (.c (.d r))))|none=>False)
 |.convert s d x=>(match V.ty s,V.ty d,u4 (a.ev x)with
  |some N,some Q,some (.int _ n)=>(match N.ik,Q.ik with|some _,some k=>K (.e (.c (.d (.sc (.int k (k.wrap n))))))|_,_=>False)
  |_,_,_=>False)
 |.fieldAddr s x f=>(match V.ty s with
  |some h=>(match vL h.AV f with
   |some (q,E)=>(match V.ty E with|some B=>(match Nat.ble 1 B.sz,JJ q (a.ev x)with|true,some r=>K r|_,_=>False)|none=>False)
   |none=>False)
  |none=>False)
 |.indexAddr t x D=>(match nA (a.ev D)with|some i=>Bt V t (a.ev x) i K|none=>False)
 |.load t x=>(match V.ty t with|some h=>Tm V h a (a.ev x) K|none=>False)
 |.extract x i=>(match a.ev x with|.cn L=>(match vL L i with|some e=>K (.e e)|none=>False)|_=>False)
 |.field t x f=>(match V.ty t,a.ev x with
  |some h,.e (.agg z)=>(match vL h.AV f with
   |some (q,E)=>(match V.ty E with|some B=>(match xH B.ag B.sz z q with|some r=>K r|none=>False)|none=>False)
   |none=>False)
  |_,_=>False)
 |.index t x D=>(match nA (a.ev D),V.ty t,a.ev x with
  |some i,some h,.e (.agg z)=>(match h.ar with
   |some (o,e)=>(match V.ty e with
    |some w=>0<=i/\i<(o:Int)/\G_ i (λm=>match xH w.ag w.sz z (m*w.sz)with|some r=>K r|none=>False) o
    |none=>False)
   |none=>False)
  |some i,some h,.e (.c (.d (.sc (.string s))))=>(match h.ar,h.st with
   |none,true=>0<=i/\i<(s.size:Int)/\K (.e (.c (.d (.sc (.int .u8 (s.data.toList.getD i.toNat 0).toNat)))))
   |_,_=>False)
  |_,_,_=>False)
 |.build t parts=>(match V.ty t with
  |some h=>(match h.pl,h.zs with
   |some R,some H=>(match FM R (H.map λv=>.d (.sc v)) (parts.toList.map λp=>(p.1,a.ev p.2))with|some z=>K (.e (.agg z))|none=>False)
   |_,_=>False)
  |none=>False)
 |.buildSlice t o parts=>(match V.ty t with
  |some h=>(match h.sl with
   |some e=>(match V.ty e,V.aM e with
    |some w,some k=>(match w.zs,Nat.beq parts.size o,Nat.ble 1 o,Nat.ble (o*w.sz) 16777216,Dm V k a.ev 0 parts.toList with
     |some _,true,true,true,some l=>K (.e (.c (.d (.bf k l))))
     |_,_,_,_,_=>False)
    |_,_=>False)
   |none=>False)
  |none=>False)
 |.slice t x Z hx X=>(match V.ty t,X,vR (a.ev x),yL a Z,yL a hx with
  |some h,none,some _,some lo,some hi=>(match h.sl with
   |some e=>(match V.ty e with|some w=>L5 w.sz lo hi (a.ev x) K|none=>False)
   |none=>False)
  |_,_,_,_,_=>False)
 |.makeFunc fn first G=>(match fn,first.toList with
  |.func f,[]=>(match yO a.st.ev G.toList with|some A=>K (.e (.c (.cr f A)))|none=>False)
  |_,_=>False)
 |.nilCheck x=>(match a.ev x with
  |.e (.c (.ptr s q))=>K (.e (.c (.ptr s q)))
  |.e (.c (.ty s t (.inl n)))=>K (.e (.c (.ty s t (.inl n))))
  |.e (.c (.jN s k i j))=>K (.e (.c (.jN s k i j)))
  |.e (.c (.gT z))=>K (.e (.c (.gT z)))
  |_=>False)
 |.call c=>S8 V c a K
 |_=>False
end
section
variable {P:ay}{U:gw}(V:bU P U)
def abi(V:bU P U)(k:U.K)(l:List (U.El k)){x:U.El k}(b:l[s]?=some x)(c:n<U.w k):(bx k l)[s*U.w k+n]?=(U.dt k x)[n]? :=by have:=FP (U.w k) (l.map (U.dt k)) (λr a=>by rw[cj]at a;obtain⟨y,_,rfl⟩:=a;exact V.len k y) s n c;rw[bx,this,dU,b];rfl
def mf(V:bU P U)(k:U.K)(l:List (U.El k)):(bx k l).length=l.length*U.w k:=by
 induction l with
 |nil=>simp[bx]
 |cons x r a=>have:bx k (x::r)=U.dt k x++bx k r:=rfl;rw[this,c_,a,V.len,fD,jS,Nat.one_mul,Aj]
def O_(a:List D):dy (a.map Ab.V.d)=true:=az1 a
def aDo(V:bU P U)(b:yI P t C)(k:U.K)(l:List (U.El k)){x:U.El k}(c:l[s]?=some x){r:ST U}
 (h:xH C.ag C.sz ((V.row k x).map .d) n=some r)(e:Nat.ble (n+C.sz) (U.w k)=true):mM P t ((bx k l).map .d) (s*U.w k+n)=some r.den:=by
 have a:=Dn b h;have e:=ic e;have q:((V.row k x).map SV.d).map SV.den=(U.dt k x).map Ab.V.d:=by rw[<-V.GY k x];simp[vh,SV.den]
 rw[q]at a;have f:s<l.length:=(dM.1 c).1;have hlen:s*U.w k+U.w k<=(bx k l).length:=by rw[mf V,<-rU];exact jI _ f
 unfold mM at a⊢;rw[O_,b.ag,b.sz]at a⊢;have m:=V.Lo k;cases o:C.ag with
 |true=>
  simp only[o,dS]at a⊢;rw[V.len k x,aK e]at a;rw[aK O];rw[<-a];congr 3;apply ug;intro p;simp only[rM,m_,dU];split
  ·rw[uj,abi V k l c O]
  ·rfl
 |false=>
  simp only[o,dU]at a⊢;by_cases u:n<U.w k
  ·rw[abi V k l c u];exact a
  ·rw[gp (by rw[V.len];omega)]at a;cases a
def aEL(f:yI P t C){i:SS U}{K:ST U->Prop}(h:Tm V C i (i.ev x) K):∃r,jg P (.load t x) i.st=some r.den/\K r:=by
 unfold Tm at h;simp only[jg,c8];split at h
 ·rename_i s a b;rw[b];simp only[ST.den,SE.den,SV.den,fZ];split at h
  ·rename_i m Y;rw[Y];split at h
   ·rename_i r d;exact⟨r,Dn f d,h⟩
   ·cases h
  ·rename_i p q v Y;rw[Y];split at h
   ·rename_i n;obtain⟨rfl,u,h⟩:=h;refine⟨.e (.c v),?_,h⟩;have e:mM P t (jL p a v.den) a=some (.e (.c v.den)):=by unfold mM;rw[SI (Il v),f.ag,n];simp only[afY u,dH]
    exact e
   ·cases h
  ·cases h
 ·rename_i s k q j b;rw[b];simp only[ST.den,SE.den,SV.den,fZ];split at h
  ·rename_i o l Y;rw[Y];split at h
   ·rename_i l2 w;obtain⟨x,y,h⟩:=N3 h;have z:=V.sa k o l l2 w;split at h
    ·rename_i r d A;refine⟨r,?_,h⟩;have B:bx o l=bx k l2:=by unfold bx;rw[z.1]
     simp only[dH,aV.den,B];exact aDo V f k l2 y d A
    ·cases h
   ·cases h
  ·cases h
 ·rename_i m b;rw[b];simp only[ST.den,SE.den,SV.den];split at h
  ·rename_i r d;refine⟨r,?_,h⟩;have:=Dn f d;have e:(m.map SV.d).map SV.den=(m.map SD.den).map Ab.V.d:=by simp[vh,SV.den]
   rw[e]at this;exact this
  ·cases h
 ·cases h
def Tl{w:SS U}{K:ST U->Prop}(p:nA (w.ev y)=some i)(h:Bt V t (w.ev x) i K):∃r,jg P (.indexAddr t x y) w.st=some r.den/\K r:=by
 have n:∃z,oN (w.ev y).den=some (.int z i):=by
  unfold nA at p;split at p
  ·rename_i z j q;injection p with p;subst p;rw[q];exact⟨z,rfl⟩
  ·cases p
 obtain⟨z,n⟩:=n;unfold Bt at h;simp only[jg,c8,n];split at h
 ·rename_i M B;have G:=V.gg t M B;rw[G.sl];split at h
  ·rename_i e q;rw[q];split at h
   ·rename_i C o;have A:=V.gg e C o;simp only[A.sz];split at h
    ·rename_i s k N u v;split at h
     ·rename_i b;have b:=cO b;obtain⟨c,d,f⟩:=h;refine⟨_,?_,f⟩;rw[v];simp only[ST.den,SE.den,SV.den,C8];rw[aK ⟨c,d,b⟩];simp[jS]
     ·cases h
    ·rename_i s k u v;split at h
     ·rename_i b;have b:=cO b;obtain⟨c,d,f⟩:=h;refine⟨_,?_,f⟩;rw[v];simp only[ST.den,SE.den,SV.den,C8];rw[aK ⟨c,d,b⟩];simp
     ·cases h
    ·rename_i k l v;split at h
     ·rename_i b;have b:=cO b;obtain⟨c,d⟩:=h;obtain⟨a,Q,f⟩:=N3 d;refine⟨_,?_,f⟩;rw[v];simp only[ST.den,SE.den,SV.den,SD.den,C8];rw[aK c,dU,Q];simp only[dH];rw[aK (by rw[V.len];exact b),V.GY]
     ·cases h
    ·cases h
   ·cases h
  ·rename_i q;rw[q];simp only[G.ar];split at h
   ·rename_i u e D;rw[D];split at h
    ·rename_i C o;have A:=V.gg e C o;split at h
     ·rename_i k xs H hp;obtain⟨c,d,f⟩:=h;obtain⟨R,T,p3,X⟩:=aBq hp;refine⟨_,?_,f⟩;simp only;rw[aK ⟨c,d⟩,A.sz,T,R];have L:i.toNat<xs.length:=O;have e1:(H.map SD.den).drop i.toNat=SD.den (.sc (.int k (xs.getD i.toNat 0)):SD U)::(H.drop (i.toNat+1)).map SD.den:=by
       rw[X,mZ (an L)];congr 1
       ·simp[List.getD_eq_getElem?_getD,L]
       ·rw[vj]
      simp only[ST.den,SE.den,SV.den,vI,Nat.mul_one,e1,dc]
     ·obtain⟨c,d,f⟩:=h;have E:=L_ (m:=i.toNat) f O O;split at E
      ·rename_i r Z;refine⟨r,?_,E⟩;simp only;rw[aK ⟨c,d⟩,A.sz];exact aaU Z
      ·cases E
    ·cases h
   ·cases h
 ·cases h
def aD7{c:Call}{p:SS U}{K:ST U->Prop}(h:S8 V c p K):∃r,jg P (.call c) p.st=some r.den/\K r:=by
 unfold S8 at h;simp only[jg,RI];split at h
 ·rename_i x t a b u;rw[a,b,u];split at h
  ·rename_i v d;have q:=V.gg t v d;simp only[q.sl,q.st,c8];split at h
   ·rename_i e f;rw[f];split at h
    ·rename_i n w;exact⟨_,by simp only[QF w];rfl,h⟩
    ·cases h
   ·rename_i f;rw[f];split at h
    ·rename_i s l Y;exact⟨_,by simp only[l,oC,xP Y];rfl,h⟩
    ·cases h
  ·cases h
 ·rename_i x y a b;split at h
  ·rename_i k i z j m o;exact⟨_,by rw[a,b];simp only[c8,xP m,xP o];rfl,h⟩
  ·cases h
 ·rename_i x y a b;split at h
  ·rename_i k i z j m o;exact⟨_,by rw[a,b];simp only[c8,xP m,xP o];rfl,h⟩
  ·cases h
 ·cases h
end
section
variable {P:ay}{U:gw}(V:bU P U)
def UP(a:av):(a.map λv=>(SV.d (SD.sc v):SV U)).map SV.den=a.map λv=>Ab.V.d (.sc v):=by simp[vh,SV.den,SD.den]
def E2{σ:SS U}{x:Option Operand}(h:yL σ x=some r)(d:Nat)(a:∀i,r=some i->0<=i):lO σ.st.ev x d=some ((r.map Int.toNat).getD d):=by
 cases x with
 |none=>simp only[yL,cY]at h;subst h;rfl
 |some x=>
  simp only[yL]at h;split at h
  ·rename_i i b;injection h with h;subst h
   simp only[lO,c8,aze b (a i rfl),dH,ie]
  ·cases h
def adQ{x:ST U}(a:nA x=some i):∃b,oN x.den=some (.int b i):=by
 unfold nA at a;split at a
 ·rename_i b j;injection a with a;subst a;exact⟨b,rfl⟩
 ·cases a
def aFb{op:Op}{A:SS U}{K:ST U->Prop}(h:Tv V op A K):∃r,jg P op A.st=some r.den/\K r:=by
 unfold Tv at h;split at h
 ·exact⟨_,by simp only[jg,c8],h⟩
 ·exact⟨_,by simp only[jg,c8],h⟩
 ·rename_i c x y;split at h
  ·rename_i z;exact⟨_,by simp only[jg,c8,z];rfl,h⟩
  ·rename_i z;exact⟨_,by simp only[jg,c8,z];rfl,h⟩
  ·rename_i b z;cases b with
   |true=>exact⟨_,by simp only[jg,c8,z];rfl,h.1 rfl⟩
   |false=>exact⟨_,by simp only[jg,c8,z];rfl,h.2 rfl⟩
  ·cases h
 ·split at h
  ·rename_i vx vy t w hy ht;rw[<-(V.gg _ t ht).bo]at h;obtain⟨v,r,o,d,j⟩:=apJ h;refine⟨_,?_,j⟩;simp only[jg,c8,xP w,xP hy,o,dH];show _=some (T.e (E.c (Ab.V.d r.den)));rw[d];rfl
  ·cases h
 ·split at h
  ·rename_i vx w;obtain⟨v,r,o,d,j⟩:=aGt h;refine⟨_,?_,j⟩;simp only[jg,c8,xP w,o,dH];show _=some (T.e (E.c (Ab.V.d r.den)));rw[d];rfl
  ·cases h
 ·split at h
  ·rename_i ts td k0 n o d j;split at h
   ·rename_i k1 k u q;refine⟨_,?_,h⟩;simp only[jg,c8,xP j,(V.gg _ ts o).ik,(V.gg _ td d).ik,u,q];rfl
   ·cases h
  ·cases h
 ·split at h
  ·rename_i t o;split at h
   ·rename_i off ft d;split at h
    ·rename_i L j;split at h
     ·rename_i r u q;refine⟨r,?_,h⟩;rw[qd]at d;simp only[jg,c8,(V.gg _ t o).AV _ _ d,(V.gg _ L j).sz];have B:=ic u;obtain⟨m,hm⟩:∃m,L.sz=m+1:=⟨L.sz-1,O⟩;rw[hm];exact aaU q
     ·cases h
    ·cases h
   ·cases h
  ·cases h
 ·split at h
  ·rename_i i R;exact Tl V R h
  ·cases h
 ·split at h
  ·rename_i t R;exact aEL V (V.gg _ t R) h
  ·cases h
 ·split at h
  ·rename_i xs w;split at h
   ·rename_i e he;refine⟨_,?_,h⟩;rw[qd]at he;simp only[jg,c8,w];show(((xs.map SE.den)[_]?).map T.e)=_;rw[dU,he];rfl
   ·cases h
  ·cases h
 ·split at h
  ·rename_i t cs o d;split at h
   ·rename_i off ft j;split at h
    ·rename_i L u;split at h
     ·rename_i r q;refine⟨r,?_,h⟩;rw[qd]at j;simp only[jg,c8,d,(V.gg _ t o).AV _ _ j];exact Dn (V.gg _ L u) q
     ·cases h
    ·cases h
   ·cases h
  ·cases h
 ·split at h
  ·rename_i i t cs o d j;obtain⟨kk,C⟩:=adQ o;split at h
   ·rename_i len e u;split at h
    ·rename_i G q;obtain⟨B,X,M⟩:=h;have N:=L_ (m:=i.toNat) M O O;split at N
     ·rename_i r hr;refine⟨r,?_,N⟩;simp only[jg,c8,C,(V.gg _ t d).ar,u,j];show(if 0<=i/\i<(len:Int)then(match fb P e with|some n=>Bg P e (cs.map SV.den) (i.toNat*n)|none=>none)else none)=_;rw[aK ⟨B,X⟩,(V.gg _ G q).sz];exact Dn (V.gg _ G q) hr
     ·cases N
    ·cases h
   ·cases h
  ·rename_i i t s o d j;obtain⟨kk,C⟩:=adQ o;split at h
   ·rename_i u q;obtain⟨B,X,M⟩:=h;refine⟨_,?_,M⟩;have hT:=V.gg _ t d;have Q:i.toNat<s.data.size:=by have:s.size=s.data.size:=rfl;omega
    have z:s[i.toNat]?=some (s.data.toList.getD i.toNat 0):=by have e1:i.toNat<s.size:=Q;rw[getElem?_pos s i.toNat e1];congr 1;rw[List.getD_eq_getElem?_getD,yc,D5 Q];rfl
    simp only[jg,c8,C,hT.ar,u,j];show(if rB P _=true/\0<=i then(match s[i.toNat]? with|some c=>some (T.e (E.c (Ab.V.d (D.sc (.int .u8 c.toNat)))))|none=>none)else none)=_;rw[aK ⟨hT.st.trans q,B⟩,z];rfl
   ·cases h
  ·cases h
 ·split at h
  ·rename_i t o;split at h
   ·rename_i ps zs d j;split at h
    ·rename_i cs u;refine⟨_,?_,h⟩;have q:=aa3 ps _ _ _ u;rw[UP,ir]at q;have H:=V.gg _ t o;simp only[jg,H.pl _ d,H.zs _ j,c8];have e:((λp:Nat×ST U=>(p.1,p.2.den))∘λp:Nat×Operand=>(p.1,A.ev p.2))=λp=>(p.1,(A.ev p.2).den):=rfl
     rw[e]at q;rw[q];rfl
    ·cases h
   ·cases h
  ·cases h
 ·split at h
  ·rename_i t o;split at h
   ·rename_i e d;split at h
    ·rename_i G k j u;split at h
     ·rename_i zs l q B X M N;refine⟨_,?_,h⟩;have H:=V.gg _ t o;have Z:=V.gg _ G j;have hk:=V.za _ _ u;rw[Z.sz,cY]at hk;have hp:=RY V A _ _ _ N;have hz:=Z.zl _ q;have h7':=ic X;have h8':=ic M;have hpos:=V.Lo k;simp only[jg,H.sl,d,Z.sz,Z.zs _ q];rw[aK ⟨by simpa using hz,cO B,h8',O,O⟩,hk,hp.1];rfl
     ·cases h
    ·cases h
   ·cases h
  ·cases h
 ·split at h
  ·rename_i t ln lo R o d j u;split at h
   ·rename_i e q;split at h
    ·rename_i G B;have H:=V.gg _ t o;obtain⟨a,b,r,e1,hK,⟨rfl,rfl⟩,e2,e3⟩:=ah4 V d h;refine⟨r,?_,hK⟩;simp only[jg,H.sl,q,c8,QF d,(V.gg _ G B).sz];have b1:=E2 j 0 e2;have b2:=E2 u ln e3;have e0:A.st.ev=λx=>(A.ev x).den:=funext λx=>c8 A x
     rw[b1,b2];exact e1
    ·cases h
   ·cases h
  ·cases h
 ·split at h
  ·rename_i f hf;split at h
   ·rename_i caps z;exact⟨_,by simp only[jg,hf,z];rfl,h⟩
   ·cases h
  ·cases h
 ·split at h
  ·rename_i w;exact⟨_,by simp only[jg,c8,w];rfl,h⟩
  ·rename_i w;exact⟨_,by simp only[jg,c8,w];rfl,h⟩
  ·rename_i w;exact⟨_,by simp only[jg,c8,w];rfl,h⟩
  ·rename_i w;exact⟨_,by simp only[jg,c8,w];rfl,h⟩
  ·cases h
 ·exact aD7 V h
 ·cases h
end
section
variable {P:ay}{U:gw}
def fF.aei{ops:aw}{o:Oper}{σ:St}(h:fF ops o σ)(k:wT ops o σ):False:=by
 obtain⟨j,want,t,k1,k2,c⟩:=k;rcases h with h|⟨q,a,r,d,f,i⟩
 ·rw[h]at k1;cases k1
 ·rw[d]at k1;injection k1 with k1;injection k1 with l m;subst l;subst m
  rw[f]at k2;injection k2 with k2;subst k2
  rw[i]at c;rcases c with⟨b,e,p⟩|e
  ·injection e with e;injection e with e;injection e with e;injection e with e;injection e with e;subst e;simp at p
  ·cases e
theorem SQ.Jb{n:Nat}{aS:aq}{ops:aw}{o:Oper}{σ:St}{f:Ft}(h:SQ P n aS ops o σ L f)(p:fF ops o σ)(b:∀l∈lk ops o,l∈f.rd){cs cs':List V}
 (Y:L.heap s=some cs)(c:lF cs cs')(d:2*s+1∈f.wr):SQ P n aS ops o σ ⟨L.aT,cX L.heap s (some cs')⟩ f where
 frame l hl:=by
  have:=h.frame l hl;rw[<-this];unfold St.at;split
  ·rfl
  ·simp only[cX];rw[g];rintro e;apply hl;rw[show l=2*s+1 by omega];exact d
 go a j h2:=by
  have k:=p.congr (xx (f:=f) b j);rcases h.go a j h2 with⟨_,i⟩|⟨q,_⟩
  ·refine .inl ⟨k,i.tX ?_⟩;have e:ly a ⟨L.aT,cX L.heap s (some cs')⟩ f.wr=⟨(ly a L f.wr).aT,cX (ly a L f.wr).heap s (some cs')⟩:=by
    unfold ly;congr 1;funext u;simp only[cX];by_cases m:u=s
    ·subst m;simp[d]
    ·simp[m]
   rw[e];exact dm.Jb (by simp only[ly];rw[aK d];exact Y) c
  ·exact(k.aei q).elim
structure lj(P:ay)(n:Nat)(ops:aw)(o:Oper)(aN:au)(σ σ':SS U)(f:Ft):Prop where
 sq:SQ P n (·∈aN) ops o σ.st σ'.st f
 kl:∀s∈f.kl,∀l,l∉f.wr->¬(σ.st.at l).bK s
def SS.put(σ:SS U)(d:Option Nat)(r:ST U):SS U:=match d with|none=>σ|some d=> { σ with aT:=(d,r)::σ.aT}
def n5(σ:SS U)(d:Option Nat)(r:ST U):(σ.put d r).st=σ.st.put d r.den:=by cases d<;>rfl
def nr(n:Nat):Option Nat->Bool
 |none=>true
 |some d=>Nat.blt d n
def ns{n:Nat}{d:Option Nat}(h:nr n d=true):jy n d:=by intro j a;subst a;exact ic h
def rdS(o:Oper)(σ:SS U):List Nat:=
 match o.op with
 |.load _ x=>(match σ.ev x with|.e (.c (.ptr s _))=>[2*s+1]|.e (.c (.jN s _ _ _))=>[2*s+1]|_=>[])
 |_=>[]
def fN(n:Nat)(K:aq):Prop:=match n with|0=>K 0|m+1=>K (m+1)
def tn{n:Nat}{K:aq}(h:fN n K):K n:=by cases n<;>exact h
def JD:List (Nat×Nat)->(List (Nat×Nat)->Prop)->Prop
 |[],K=>K []
 |(s,o)::r,K=>fN s λs=>JD r λr=>K ((s,o)::r)
theorem aaP:∀{l:List (Nat×Nat)} {K:List (Nat×Nat)->Prop},JD l K->K l
 |[],_,h=>h
 |(s,o)::r,K,h=>aaP (l:=r) (K:=λr=>K ((s,o)::r)) (tn (K:=λs=>JD r λr=>K ((s,o)::r)) h)
def fV(v:SV U)(K:SV U->Prop):Prop:=
 match v with
 |.d (.sc (.int k n))=>K (.d (.sc (.int k n)))
 |.d (.sc v)=>K (.d (.sc v))
 |.d (.b8 b)=>K (.d (.b8 b))
 |.d (.bf k l)=>K (.d (.bf k l))
 |.ptr s o=>fN s λs=>K (.ptr s o)
 |.jN s k i j=>fN s λs=>K (.jN s k i j)
 |.sub s k o l=>fN s λs=>K (.sub s k o l)
 |.aW s k l=>fN s λs=>K (.aW s k l)
 |.gT e=>K (.gT e)
 |.cr f c=>JD c λc=>K (.cr f c)
 |.mp s=>fN s λs=>K (.mp s)
 |.ty s t a=>fN s λs=>K (.ty s t a)
 |.any=>K .any
def Ps{v:SV U}{K:SV U->Prop}(h:fV v K):K v:=by
 unfold fV at h;split at h
 ·exact h
 ·exact h
 ·exact h
 ·exact h
 ·exact tn (K:=λs=>K (.ptr s _)) h
 ·exact tn (K:=λs=>K (.jN s _ _ _)) h
 ·exact tn (K:=λs=>K (.sub s _ _ _)) h
 ·exact tn (K:=λs=>K (.aW s _ _)) h
 ·exact h
 ·exact aaP (K:=λc=>K (.cr _ c)) h
 ·exact tn (K:=λs=>K (.mp s)) h
 ·exact tn (K:=λs=>K (.ty s _ _)) h
 ·exact h
def FK:List (SV U)->(List (SV U)->Prop)->Prop
 |[],K=>K []
 |v::r,K=>fV v λv=>FK r λr=>K (v::r)
theorem Pu:∀{l:List (SV U)} {K:List (SV U)->Prop},FK l K->K l
 |[],_,h=>h
 |v::r,K,h=>Pu (l:=r) (K:=λr=>K (v::r)) (Ps (K:=λv=>FK r λr=>K (v::r)) h)
def fE(x:SE U)(K:SE U->Prop):Prop:=
 match x with
 |.c v=>fV v λv=>K (.c v)
 |.agg a=>FK a λa=>K (.agg a)
def aaR{x:SE U}{K:SE U->Prop}(h:fE x K):K x:=by
 unfold fE at h;split at h
 ·exact Ps (K:=λv=>K (.c v)) h
 ·exact Pu (K:=λa=>K (.agg a)) h
def JF:List (SE U)->(List (SE U)->Prop)->Prop
 |[],K=>K []
 |v::r,K=>fE v λv=>JF r λr=>K (v::r)
theorem aaS:∀{l:List (SE U)} {K:List (SE U)->Prop},JF l K->K l
 |[],_,h=>h
 |v::r,K,h=>aaS (l:=r) (K:=λr=>K (v::r)) (aaR (K:=λv=>JF r λr=>K (v::r)) h)
def fT(x:ST U)(K:ST U->Prop):Prop:=
 match x with
 |.e x=>fE x λx=>K (.e x)
 |.cn a=>JF a λa=>K (.cn a)
 |.any=>K .any
def JH{x:ST U}{K:ST U->Prop}(h:fT x K):K x:=by
 unfold fT at h;split at h
 ·exact aaR (K:=λv=>K (.e v)) h
 ·exact aaS (K:=λa=>K (.cn a)) h
 ·exact h
def fB(b:aV U)(K:aV U->Prop):Prop:=
 match b with
 |.cells a=>FK a λa=>K (.cells a)
 |.aU k l=>K (.aU k l)
 |.lr d=>K (.lr d)
 |.hI c i v=>fV v λv=>K (.hI c i v)
def au0{b:aV U}{K:aV U->Prop}(h:fB b K):K b:=by
 unfold fB at h;split at h
 ·exact Pu (K:=λa=>K (.cells a)) h
 ·exact h
 ·exact h
 ·exact Ps (K:=λv=>K (.hI _ _ v)) h
def yX:List (Nat×aV U)->(List (Nat×aV U)->Prop)->Prop
 |[],K=>K []
 |(s,b)::r,K=>fN s λs=>fB b λb=>yX r λr=>K ((s,b)::r)
theorem Pq:∀{l:List (Nat×aV U)} {K:List (Nat×aV U)->Prop},yX l K->K l
 |[],_,h=>h
 |(s,b)::r,K,h=>Pq (l:=r) (K:=λr=>K ((s,b)::r)) (au0 (K:=λb=>yX r λr=>K ((s,b)::r)) (tn (K:=λs=>fB b λb=>yX r λr=>K ((s,b)::r)) h))
def Pp(E:List (Nat×ST U))(K:List (Nat×ST U)->Prop):Prop:=
 match E with
 |[]=>K []
 |(i,t)::[]=>K [(i,t)]
 |(i,t)::y::r=>K ((i,t)::y::r)
def au1{E:List (Nat×ST U)}{K:List (Nat×ST U)->Prop}(h:Pp E K):K E:=by unfold Pp at h;split at h<;>exact h
def JE:List (Nat×ST U)->(List (Nat×ST U)->Prop)->Prop
 |[],K=>K []
 |(i,t)::r,K=>fT t λt=>JE r λr=>K ((i,t)::r)
theorem aaQ:∀{l:List (Nat×ST U)} {K:List (Nat×ST U)->Prop},JE l K->K l
 |[],_,h=>h
 |(i,t)::r,K,h=>aaQ (l:=r) (K:=λr=>K ((i,t)::r)) (JH (K:=λt=>JE r λr=>K ((i,t)::r)) h)
def fS(σ:SS U)(K:SS U->Prop):Prop:=match σ with|⟨E,H,C⟩=>Pp E λE=>yX H λH=>fN C λC=>K ⟨E,H,C⟩
def Pr{σ:SS U}{K:SS U->Prop}(h:fS σ K):K σ:=by obtain⟨E,H,C⟩:=σ;exact tn (K:=λC=>K ⟨E,H,C⟩) (Pq (K:=λH=>fN C λC=>K ⟨E,H,C⟩) (au1 (K:=λE=>yX H λH=>fN C λC=>K ⟨E,H,C⟩) h))
def se(σ:SS U)(K:SS U->Prop):Prop:=match σ with|⟨E,H,C⟩=>JE E λE=>yX H λH=>fN C λC=>K ⟨E,H,C⟩
def vE{σ:SS U}{K:SS U->Prop}(h:se σ K):K σ:=by obtain⟨E,H,C⟩:=σ;exact tn (K:=λC=>K ⟨E,H,C⟩) (Pq (K:=λH=>fN C λC=>K ⟨E,H,C⟩) (aaQ (K:=λE=>yX H λH=>fN C λC=>K ⟨E,H,C⟩) h))
variable (V:bU P U)(n:Nat)(ops:aw)(aN:au)(o:Oper)(σ:SS U)(K:SS U→Ft→Prop)
def xT:Prop:=match nr n o.dst with|true=>Tv V o.op σ λr=>fT r λr=>K (σ.put o.dst r) ⟨rdS o σ++lk ops o,dl o,[]⟩|false=>False
variable {V n ops aN o σ K}
theorem SQ.af7{aS:aq}{σ:St}{rd a b:au}(h:SQ P n aS ops o σ L ⟨rd,a,b⟩)(c:∀l∈rd,l∈R):SQ P n aS ops o σ L ⟨R,a,b⟩where
 frame:=h.frame
 go d e h2:=h.go d (λl f=>e l (f.imp (c l) id)) h2
def Bx(h:xT V n ops o σ K)(m:fF ops o σ.st):∃b f,lj P n ops o aN σ b f/\K b f:=by
 unfold xT at h;split at h
 case h_2=>cases h
 rename_i i;have i:=ns i;obtain⟨r,q,w⟩:=aFb V h;refine⟨_,_,⟨?_,λs Y=>by simp at Y⟩,JH (K:=λr=>K (σ.put o.dst r) _) w⟩;rw[n5];rcases RJ (o:=o) q with u|⟨t,x,s,j,A,p,a,z,y⟩
 ·exact(SQ.pure m u i).af7 λl d=>dd.2 (.inr d)
 ·refine(SQ.load m t x s j A p a z y i).af7 λl d=>?_
  rcases dC.1 d with rfl|d
  ·refine dd.2 (.inl ?_);unfold rdS;rw[p];simp only;rw[c8]at a;cases k:σ.ev x with
   |e e=>
    rw[k]at a;cases e with
    |c v=>
     simp only[ST.den,SE.den,T.e.injEq,E.c.injEq]at a;cases v<;>simp only[SV.den,reduceCtorEq,Ab.V.ptr.injEq]at a
     ·simp[a.1]
     ·simp[a.1]
    |agg C=>cases a
   |cn B=>rw[k]at a;cases a
   |any=>rw[k]at a;cases a
  ·exact dd.2 (.inr d)
def zD(n:Nat)(ops:aw)(aN:au)(o:Oper)(σ:SS U)(b:aV U)(r:ST U)(K:SS U->Ft->Prop):Prop:=
 match nr n o.dst,bX σ.heap σ.bV,aN.contains σ.bV with
 |true,none,false=>K { σ.put o.dst r with heap:=(σ.bV,b)::σ.heap,bV:=σ.bV+1} ⟨lk ops o,(2*σ.bV+1)::dl o,[]⟩
 |_,_,_=>False
def adU(σ:SS U)(d:Option Nat)(r:ST U)(b:aV U)(c:Nat):({ σ.put d r with heap:=(σ.bV,b)::σ.heap,bV:=c}:SS U).st=⟨(σ.st.put d r.den).aT,cX σ.st.heap σ.bV (some b.den)⟩:=by
 have a:=n5 σ d r;have e:(σ.put d r).heap=σ.heap:=by cases d<;>rfl
 unfold SS.st at a⊢;simp only;rw[<-a];congr 1
def DN{b:aV U}{r:ST U}(h:zD n ops aN o σ b r K)(d:fF ops o σ.st)(cs:List Ab.V)(j:t_ P o σ.st.ev σ.bV cs r.den)(c:lF cs b.den):∃a f,lj P n ops o aN σ a f/\K a f:=by
 unfold zD at h;split at h
 ·rename_i p m l;refine⟨_,_,⟨?_,λs Y=>by simp at Y⟩,h⟩;rw[adU];have hf:σ.st.heap σ.bV=none:=by rw[fZ,m];rfl
  have e:¬σ.bV∈aN:=by intro i;have:aN.contains σ.bV=true:=an i;rw[l]at this;cases this
  have:=SQ.alloc (P:=P) (n:=n) (aS:=(·∈aN)) d σ.bV cs j (ns p) e hf;have k:=this.Jb d (λ_ h=>h) (s:=σ.bV) (cs:=cs) (cs':=b.den) (by simp[cX]) c ai;refine cast (aY (λz=>SQ P n (·∈aN) ops o σ.st z _) ?_) k;congr 1;funext u;simp only[cX];split<;>rfl
 ·cases h
def TD(V:bU P U)(ops:aw)(o:Oper)(σ:SS U)(t:TypeId)(x y:ax)(K:SS U->Ft->Prop):Prop:=
 match o.dst,V.ty t,σ.ev x,σ.ev y with
 |none,some b,.e (.c (.ptr s a)),.e e=>
  (match bX σ.heap s with
   |some (.cells h)=>(match Nat.beq e.cells.length b.sz,Nat.ble (a+b.sz) h.length with
    |true,true=>K { σ with heap:=sG σ.heap s (.cells (L9 h a e.cells))} ⟨lk ops o,(2*s+1)::dl o,[]⟩
    |_,_=>False)
   |some (.hI d i v)=>(match e,Nat.beq b.sz 1 with
    |.c p,true=>a=i/\i<d.length/\K { σ with heap:=sG σ.heap s (.hI d i p)} ⟨lk ops o,(2*s+1)::dl o,[]⟩
    |_,_=>False)
   |_=>False)
 |none,some b,.e (.c (.jN s k i j)),.e e=>
  (match bX σ.heap s with
   |some (.aU q l)=>(match V.cast k q l,Nat.beq e.cells.length b.sz,Nat.ble (j+b.sz) (U.w k),DT e.cells with
    |some l,true,true,some f=>Iy l i λx=>(match V.GC k ((V.row k x).take j++f++(V.row k x).drop (j+f.length))with
     |some m=>K { σ with heap:=sG σ.heap s (.aU k (l.set i m))} ⟨lk ops o,(2*s+1)::dl o,[]⟩
     |none=>False)
    |_,_,_,_=>False)
   |_=>False)
 |_,_,_,_=>False
def LY(σ:SS U)(s:Nat)(b a:aV U)(h:bX σ.heap s=some a):({ σ with heap:=sG σ.heap s b}:SS U).st=⟨σ.st.aT,cX σ.st.heap s (some b.den)⟩:=by
 unfold SS.st;simp only;congr 1;funext u;rw[gz,J1 _ _ _ _ _ h];simp only[cX];split
 ·rfl
 ·rw[gz]
def aFh(A B a b:List D)(j:Nat)(c:j+b.length<=a.length):
 (A++a++B).take (A.length+j)++b++(A++a++B).drop (A.length+j+b.length)=A++(a.take j++b++a.drop (j+b.length))++B:=by
 rw[gh A a B,List.take_length_add_append,B7 O,uj,List.drop_length_add_append,Wf O];simp[gh]
def PC{V:bU P U}(k:U.K)(l:List (U.El k)){x:U.El k}(j:l[s]?=some x):∃A B,bx k l=A++U.dt k x++B/\A.length=s*U.w k/\(∀y,bx k (l.set s y)=A++U.dt k y++B)/\A.map D.cH=A/\B.map D.cH=B:=by
 obtain⟨c,rfl⟩:=dM.1 j;have d:∀l:List (U.El k),(bx k l).map D.cH=bx k l:=by
  intro l
  induction l with
  |nil=>rfl
  |cons a r m=>have:bx k (a::r)=U.dt k a++bx k r:=rfl;rw[this,gB,V.fC,m]
 have f:∀a b:List (U.El k),bx k (a++b)=bx k a++bx k b:=λa b=>by simp[bx]
 refine⟨bx k (l.take s),bx k (l.drop (s+1)),?_,?_,λy=>?_,d _,d _⟩
 ·have e:l=l.take s++l[s]::l.drop (s+1):=by rw[<-mZ c,om]
  have h:=aY (bx k) e;rw[f]at h;rw[h,gh];rfl
 ·rw[mf V,ez,ju (Nat.le_of_lt c)]
 ·rw[No,aK c,f,gh];rfl
def aFk(h:TD V ops o σ t x y K)(H:fF ops o σ.st)(Q:o.op=.store t x y):∃C f,lj P n ops o aN σ C f/\K C f:=by
 unfold TD at h;split at h
 ·rename_i ti s p e b q L M;have N:=V.gg _ _ q;split at h
  ·rename_i Z Y;split at h
   ·rename_i m w;refine⟨_,_,⟨?_,λs Y=>by simp at Y⟩,h⟩;rw[LY _ _ _ _ Y]
    have:=SQ.store (P:=P) (n:=n) (aS:=(·∈aN)) H t x y Q b s p (Z.map SV.den) e.den ti.sz (by rw[c8,L];rfl) (by rw[c8,M];rfl) (by rw[fZ,Y];rfl) N.sz
     (by rw[As];simpa using cO m) (by simpa using ic w) (IU Z)
    rw[As,<-aid]at this;exact this
   ·cases h
  ·rename_i vs i v Y;split at h
   ·rename_i R m;obtain⟨rfl,w,h⟩:=h;refine⟨_,_,⟨?_,λs Y=>by simp at Y⟩,h⟩;rw[LY _ _ _ _ Y]
    have:=SQ.store (P:=P) (n:=n) (aS:=(·∈aN)) H t x y Q b s p (jL vs p v.den) (.c R.den) ti.sz (by rw[c8,L];rfl) (by rw[c8,M];rfl) (by rw[fZ,Y];rfl) N.sz
     (by rw[cO m];rfl) (by unfold jL;rw[cO m];simp;omega) (SI (Il v))
    rw[show(E.c R.den).cells=[R.den]from rfl,aCP w]at this;exact this
   ·cases h
  ·cases h
 ·rename_i ti s k i j e b q L M;have N:=V.gg _ _ q;split at h
  ·rename_i k' l0 Y;split at h
   ·rename_i l r hl m w h3;obtain⟨a,ha,h⟩:=N3 h;split at h
    ·rename_i a' hp;refine⟨_,_,⟨?_,λs Y=>by simp at Y⟩,h⟩;rw[LY _ _ _ _ Y];have hc:=V.sa _ _ _ _ hl;have e1:bx k' l0=bx k l:=by unfold bx;rw[hc.1]
     have m:=cO m;have w:=ic w;have G:=T4 _ _ h3;have hdl:r.length=ti.sz:=by have:=aY List.length G;rw[dS]at this;omega
     obtain⟨A,B,f1,f2,f3,f4,f5⟩:=PC (V:=V) k l ha;have T:=V.len k a;have X:(bx k l).length=A.length+U.w k+B.length:=by rw[f1,c_,c_,T]
     have:=SQ.store (P:=P) (n:=n) (aS:=(·∈aN)) H t x y Q b s (i*U.w k+j) ((bx k l).map .d) e.den ti.sz (by rw[c8,L];rfl) (by rw[c8,M];rfl) (by rw[fZ,Y];simp only[dH,aV.den,e1]) N.sz
      (by rw[As];simpa using m) (by rw[dS,X];omega) (O_ _)
     have h6:=this.Jb H (λ_ h=>h) (s:=s) (cs':=(bx k (l.set i a')).map .d) (by simp[cX];rfl) ?_ ai
     ·refine cast (aY (λz=>SQ P n (·∈aN) ops o σ.st z _) ?_) h6;congr 1;funext u;simp only[cX];split<;>rfl
     ·have e2:kL ((bx k l).map Ab.V.d) (i*U.w k+j) e.den.cells=((bx k l).take (A.length+j)++r.map SD.den++(bx k l).drop (A.length+j+(r.map SD.den).length)).map Ab.V.d:=by rw[As,G,<-f2];simp[kL,vj,uh,vh,SV.den]
      rw[e2,f1,aFh _ _ _ _ _ (by simp;omega),f3];have e3:=V.Lj _ _ _ hp;have e4:U.dt k a'=(((U.dt k a).take j++r.map SD.den++(U.dt k a).drop (j+(r.map SD.den).length))).map D.cH:=by rw[<-e3,<-V.GY k a];simp[vj,uh,vh]
      have e5:=lF.cH ((A++((U.dt k a).take j++r.map SD.den++(U.dt k a).drop (j+(r.map SD.den).length))++B).map Ab.V.d);refine cast (aY (lF _) ?_) e5;rw[e4,ir];have e6:(Ab.V.cH∘Ab.V.d)=Ab.V.d∘D.cH:=rfl;rw[e6,<-ir];refine aY (List.map Ab.V.d) ?_;rw[gB,gB,f4,f5]
    ·cases h
   ·cases h
  ·cases h
 ·cases h
end
section
variable {P:ay}{U:gw}
def SV.nm(s:Nat):SV U->Bool
 |.ptr t _=>Nat.beq t s
 |.jN t _ _ _=>Nat.beq t s
 |.sub t _ _ _=>Nat.beq t s
 |.aW t _ _=>Nat.beq t s
 |.cr _ a=>a.any λp=>Nat.beq p.1 s
 |.mp t=>Nat.beq t s
 |.ty t _ _=>Nat.beq t s
 |_=>false
def SE.nm(s:Nat):SE U->Bool
 |.c v=>v.nm s
 |.agg a=>a.any (SV.nm s)
def ST.nm(s:Nat):ST U->Bool
 |.e x=>x.nm s
 |.cn a=>a.any (SE.nm s)
 |.any=>false
def apE(a b:Nat):Nat.beq a b=(a==b):=by rw[sO,jw];exact⟨H3,λh=>by subst h;exact HZ a⟩
def SV.pf(s:Nat)(v:SV U):v.den.jJ s=v.nm s:=by cases v<;>simp[SV.den,SV.nm,V.jJ,apE]
theorem SE.pf(s:Nat)(x:SE U):x.den.jJ s=x.nm s:=by
 cases x with
 |c v=>exact SV.pf s v
 |agg a=>simp only[SE.den,E.jJ,SE.nm,List.any_map];congr 1;funext v;exact SV.pf s v
theorem ST.pf(s:Nat)(x:ST U):x.den.jJ s=x.nm s:=by
 cases x with
 |e v=>exact SE.pf s v
 |cn a=>simp only[ST.den,T.jJ,ST.nm,List.any_map];congr 1;funext v;exact SE.pf s v
 |any=>rfl
def SV.kl(s:Nat)(v:SV U):SV U:=match v.nm s with|true=>.any|false=>v
def ST.kl(s:Nat)(v:ST U):ST U:=match v.nm s with|true=>.any|false=>v
def SV.sj(s:Nat)(v:SV U):(v.kl s).den=v.den.b_ s:=by
 unfold SV.kl;have h:=SV.pf s v;split
 ·rename_i e;rw[e]at h;have:=V.nB.1 h;cases v<;>simp_all[SV.den,V.b_,V.bK,SV.nm,V.jJ]
 ·rename_i e;rw[e]at h;exact(V.xt (λa=>by rw[V.nB.2 a]at h;cases h)).symm
def aV.kl(s:Nat):aV U->aV U
 |.cells c=>.cells (c.map (SV.kl s))
 |.hI a i v=>.hI a i (v.kl s)
 |b=>b
theorem aV.sj(s:Nat)(b:aV U):(b.kl s).den=b.den.map (V.b_ s):=by
 cases b with
 |cells d=>simp only[aV.kl,aV.den,ir];congr 1;funext v;exact SV.sj s v
 |aU k l=>simp[aV.kl,aV.den,vh,V.b_]
 |lr c=>simp[aV.kl,aV.den,V.b_]
 |hI a i v=>exact(aY (jL a i) (SV.sj s v)).trans (GQ (V.b_ s) (λ_=>rfl) a i v.den).symm
def xu(s:Nat)(l:List (Nat×ST U)):List (Nat×ST U):=l.map λp=>(p.1,p.2.kl s)
def uM(s:Nat):List (Nat×aV U)->List (Nat×aV U)
 |[]=>[]
 |(j,b)::r=>match Nat.beq j s with|true=>uM s r|false=>(j,b.kl s)::uM s r
theorem P0(s:Nat):∀(l:List (Nat×ST U)) (i:Nat),gE (xu s l) i=(gE l i).kl s
 |[],_=>rfl
 |(j,t)::r,i=>by
  simp only[xu,dc,gE];split
  ·rfl
  ·exact P0 s r i
theorem JZ(s:Nat):∀(l:List (Nat×aV U)) (u:Nat),bX (uM s l) u=if u=s then none else(bX l u).map (aV.kl s)
 |[],u=>by simp[uM,bX]
 |(j,t)::r,u=>by
  simp only[uM];cases b:Nat.beq j s with
  |true=>
   simp only;rw[JZ s r u];by_cases a:u=s
   ·simp[a]
   ·have:Nat.beq u j=false:=by
     cases h:Nat.beq u j with
     |false=>rfl
     |true=>exact absurd ((cO h).trans (cO b)) a
    simp only[a,mK,bX,this]
  |false=>
   simp only[bX];cases h:Nat.beq u j with
   |true=>have e:=cO h;rw[g (by rw[e];exact p9 b)];rfl
   |false=>exact JZ s r u
def zK(s:Nat)(l:List (Nat×ST U)):List Nat:=(l.map (·.1)).filter λi=>(gE l i).nm s
def yK(s:Nat)(l:List (Nat×aV U)):List Nat:=(l.map (·.1)).filter λi=>match bX l i with|some (.cells a)=>a.any (SV.nm s)|some (.hI _ _ v)=>v.nm s|_=>false
theorem P4:∀(l:List (Nat×ST U)) (i:Nat),gE l i≠.any->i∈l.map (·.1)
 |[],_,h=>by simp[gE]at h
 |(j,t)::r,i,h=>by
  simp only[gE]at h;cases a:Nat.beq i j with
  |true=>simp[cO a]
  |false=>rw[a]at h;simp only at h;simp only[dc,dC];exact .inr (P4 r i h)
theorem P5:∀(l:List (Nat×aV U)) (i:Nat) (b:aV U),bX l i=some b->i∈l.map (·.1)
 |[],_,_,h=>by simp[bX]at h
 |(j,t)::r,i,b,h=>by
  simp only[bX]at h;cases a:Nat.beq i j with
  |true=>simp[cO a]
  |false=>rw[a]at h;simp only at h;simp only[dc,dC];exact .inr (P5 r i b h)
def Hd(s:Nat)(l:List (Nat×ST U))(i:Nat):i∈zK s l↔(gE l i).nm s=true:=by unfold zK;rw[iZ];refine⟨λh=>h.2,λh=>⟨P4 l i ?_,h⟩⟩;intro e;rw[e]at h;cases h
def E0(s:Nat)(l:List (Nat×aV U))(u:Nat)(b:aV U)(h:bX l u=some b)(d:∃v∈b.den,v.bK s):u∈yK s l:=by
 unfold yK;rw[iZ];refine⟨P5 l u b h,?_⟩;simp only[h];obtain⟨v,c,d⟩:=d;cases b with
 |cells m=>simp only[aV.den,cj]at c;obtain⟨a,e,rfl⟩:=c;simp only[uf];exact⟨a,e,by rw[<-SV.pf];exact V.nB.2 d⟩
 |aU k l=>simp only[aV.den,cj]at c;obtain⟨a,e,rfl⟩:=c;cases d
 |lr j=>simp only[aV.den,dZ]at c;subst c;cases d
 |hI f i a=>
  rcases Lz (show v∈jL f i a.den from c)with rfl|⟨u,rfl⟩
  ·simp only;rw[<-SV.pf];exact V.nB.2 d
  ·cases d
def DQ(V:bU P U)(k:U.K)(h:SS U)(y:ST U)(K:List (U.El k)->Prop):Prop:=
 match y with
 |.e (.c (.d (.bf f l)))=>(match V.cast k f l with|some l=>K l|none=>False)
 |.e (.c (.d (.sc (.slice none 0 0))))=>K []
 |.e (.c (.aW s f a))=>(match bX h.heap s with
  |some (.aU k2 l)=>(match V.cast k k2 l,Nat.beq (U.w f) (U.w k)with|some l,true=>a=l.length/\K l|_,_=>False)
  |_=>False)
 |.e (.c (.sub s f b a))=>(match bX h.heap s with
  |some (.aU k2 l)=>(match V.cast k k2 l,Nat.beq (U.w f) (U.w k)with|some l,true=>b+a<=l.length/\K ((l.drop b).take a)|_,_=>False)
  |_=>False)
 |_=>False
def uN:ST U->List Nat
 |.e (.c (.aW s _ _))=>[s]
 |.e (.c (.sub s _ _ _))=>[s]
 |_=>[]
def AU(V:bU P U)(k:U.K)(l:List (U.El k))(b c:Nat):((bx k l).drop (b*U.w k)).take (c*U.w k)=bx k ((l.drop b).take c):=by
 have f:∀(l:List (U.El k)) (b:Nat),(bx k l).drop (b*U.w k)=bx k (l.drop b):=by
  intro l
  induction l with
  |nil=>intro b;simp[bx]
  |cons a r d=>
   intro b;cases b with
   |zero=>simp
   |succ m=>have:bx k (a::r)=U.dt k a++bx k r:=rfl;rw[this,rU,Aj,HO,V.len];rw[pR (by rw[V.len];omega)];simp[d]
 have e:∀(l:List (U.El k)) (c:Nat),(bx k l).take (c*U.w k)=bx k (l.take c):=by
  intro l
  induction l with
  |nil=>intro c;simp[bx]
  |cons a r d=>
   intro c;cases c with
   |zero=>simp[bx]
   |succ m=>have i:bx k (a::r)=U.dt k a++bx k r:=rfl;have h:bx k ((a::r).take (m+1))=U.dt k a++bx k (r.take m):=rfl;rw[i,h,rU,Aj,List.take_append,V.len,eQ (by rw[V.len];omega)];simp[d]
 rw[f,e]
def Ma{V:bU P U}{k:U.K}{n:SS U}{y:ST U}{K:List (U.El k)->Prop}(h:DQ V k n y K):∃l,mS (U.w k) n.st.heap y.den=some ((bx k l).map .d,l.length)/\K l/\∀u,y.den.bK u->u∈uN y:=by
 unfold DQ at h;split at h
 ·rename_i p l;split at h
  ·rename_i o c;have e:=V.sa _ _ _ _ c;refine⟨o,?_,h,λu a=>a.elim⟩;simp only[ST.den,SE.den,SV.den,SD.den,mS];rw[e.1,aK (aal V k o)];simp[bx]
  ·cases h
 ·exact⟨[],rfl,h,λu a=>a.elim⟩
 ·rename_i s p b;split at h
  ·rename_i k2 i Y;split at h
   ·rename_i l c j;have e:=V.sa _ _ _ _ c;have m:bx k2 i=bx k l:=by unfold bx;rw[e.1]
    obtain⟨rfl,h⟩:=h;refine⟨l,?_,h,λu a=>by cases a;simp[uN]⟩;simp only[ST.den,SE.den,SV.den,mS,fZ,Y,dH,aV.den,m];rw[aK ⟨cO j,by rw[dS,mf V];omega⟩];have:=AU V k l 0 l.length;simp only[H7,rK,i_]at this;rw[rK,<-uh,this]
   ·cases h
  ·cases h
 ·rename_i s p f b;split at h
  ·rename_i k2 i Y;split at h
   ·rename_i l c j;have e:=V.sa _ _ _ _ c;have m:bx k2 i=bx k l:=by unfold bx;rw[e.1]
    obtain⟨q,h⟩:=h;refine⟨(l.drop f).take b,?_,h,λu a=>by cases a;simp[uN]⟩;simp only[ST.den,SE.den,SV.den,mS,fZ,Y,dH,aV.den,m];rw[cO j,aK ⟨rfl,by rw[dS,mf V,<-jS];exact jI _ q⟩];rw[<-AU V,uh,vj];simp;omega
   ·cases h
  ·cases h
 ·cases h
end
section
variable {P:ay}{U:gw}
def Ts(V:bU P U)(n:Nat)(ops:aw)(aN:au)(o:Oper)(σ:SS U)(t:TypeId)(f h:ax)(K:SS U->Ft->Prop):Prop:=
 match V.ty t,nA (σ.ev f),nA (σ.ev h)with
 |some d,some l,some c=>
  (match d.sl with
   |some e=>(match V.ty e,V.aM e with
    |some a,some k=>(match a.zs with
     |some b=>(match V.GC k (b.map .sc)with
      |some z=>0<=l/\l=c/\a.dT*l.toNat<=281474976710656/\l<=281474976710656/\zD n ops aN o σ (.aU k (List.replicate l.toNat z)) (.e (.c (.aW σ.bV k l.toNat))) K
      |none=>False)
     |none=>False)
    |_,_=>False)
   |none=>False)
 |_,_,_=>False
variable {V:bU P U}{n:Nat}{ops:aw}{aN:au}{o:Oper}{σ:SS U}{K:SS U→Ft→Prop}
def avp(k:U.K)(z:U.El k)(m:Nat):(bx k (List.replicate m z)).map Ab.V.d=nD m ((U.dt k z).map Ab.V.d):=by
 induction m with
 |zero=>rfl
 |succ m a=>
  have c:bx k (List.replicate (m+1) z)=U.dt k z++bx k (List.replicate m z):=by rw[rR];rfl
  have b:nD (m+1) ((U.dt k z).map Ab.V.d)=(U.dt k z).map Ab.V.d++nD m ((U.dt k z).map Ab.V.d):=by simp only[nD,rR];rfl
  rw[c,b,gB,a]
def aC9(f:Ab.V->Ab.V)(m:Nat)(l:List Ab.V):(nD m l).map f=nD m (l.map f):=by
 induction m with
 |zero=>rfl
 |succ m b=>
  have a:∀l,nD (m+1) l=l++nD m l:=λl=>by simp only[nD,rR];rfl
  rw[a,a,gB,b]
def KV{x:ST U}(h:nA x=some i):∃k,x.den=.e (.c (.d (.sc (.int k i)))):=by
 unfold nA at h;split at h
 ·rename_i k j;injection h with h;subst h;exact⟨k,rfl⟩
 ·cases h
def aE4(h:Ts V n ops aN o σ t x y K)(q:fF ops o σ.st)(r:o.op=.makeSlice t x y):∃a f,lj P n ops o aN σ a f/\K a f:=by
 unfold Ts at h;split at h
 ·rename_i X l c s u w;split at h
  ·rename_i e A;split at h
   ·rename_i B k C D;split at h
    ·rename_i j m;split at h
     ·rename_i z E;obtain⟨a1,rfl,G,Z,h⟩:=h;have H:=V.gg _ _ s;have b:=V.gg _ _ C;have i:=V.za _ _ D;rw[b.sz,cY]at i;obtain⟨L,M⟩:=KV u;obtain⟨N,Q⟩:=KV w;have p:l=((l.toNat:Nat):Int):=O
      have:=NV (P:=P) (o:=o) (ev:=σ.st.ev) t x y r σ.bV e (U.w k) B.dT (j.map λv=>.d (.sc v)) l.toNat L N (by rw[H.sl,A]) (by rw[b.sz,i]) b.dT (b.zs _ m) (by simp[b.zl _ m,i])
       (by rw[c8,M,<-p]) (by rw[c8,Q,<-p]) G O
      refine DN h q _ this ?_;have R:=V.Lj _ _ _ E;have T:=lF.cH (nD l.toNat (j.map λv=>Ab.V.d (.sc v)));refine cast (aY (lF _) ?_) T;simp only[aV.den];rw[avp,aC9,<-R];simp[vh,SD.den,Ab.V.cH]
     ·cases h
    ·cases h
   ·cases h
  ·cases h
 ·cases h
def S5(V:bU P U)(n:Nat)(ops:aw)(aN:au)(o:Oper)(σ:SS U)(x y:ax)(t:TypeId)(K:SS U->Ft->Prop):Prop:=
 match o.dst,V.ty t with
 |some d,some h=>
  (match h.sl with
   |some e=>(match V.ty e,V.aM e with
    |some b,some k=>(match b.zs,Nat.blt d n,bX σ.heap σ.bV,aN.contains σ.bV with
     |some _,true,none,false=>
      (match σ.ev x with
       |.e (.c (.d (.sc (.slice none 0 0))))=>DQ V k σ (σ.ev y) λl=>
        l≠[]/\l.length*b.dT<=140737488355328/\l.length<=140737488355328/\
         K { aT:=(d,.e (.c (.aW σ.bV k l.length)))::σ.aT,heap:=(σ.bV,.aU k l)::σ.heap,bV:=σ.bV+1} ⟨lk ops o++lu (uN (σ.ev y)),(2*σ.bV+1)::dl o,[]⟩
       |.e (.c (.aW s k1 f))=>
        (match bX σ.heap s,aN.contains s,Nat.beq (U.w k1) (U.w k)with
         |some (.aU k2 a),false,true=>(match V.cast k k2 a with
          |some a=>DQ V k σ (σ.ev y) λl=>
           f=a.length/\(a.length+l.length)*b.dT<=140737488355328/\a.length+l.length<=140737488355328/\
            K { aT:=(d,.e (.c (.aW σ.bV k (a.length+l.length))))::xu s σ.aT,heap:=(σ.bV,.aU k (a++l))::uM s σ.heap,bV:=σ.bV+1}
              ⟨lk ops o++lu (uN (σ.ev y)),tm (d::zK s σ.aT)++lu (σ.bV::s::yK s σ.heap),[s]⟩
          |none=>False)
         |_,_,_=>False)
       |_=>False)
     |_,_,_,_=>False)
    |_,_=>False)
   |none=>False)
 |_,_=>False
def nk{aN:au}(h:aN.contains s=false):¬s∈aN:=λa=>by have:aN.contains s=true:=an a;rw[h]at this;cases this
def C3(k:U.K)(a b:List (U.El k)):bx k (a++b)=bx k a++bx k b:=by simp[bx]
def Dz{k:U.K}{l:List (U.El k)}{v:Ab.V}(b:v∈(bx k l).map Ab.V.d)(s:Nat):¬v.bK s:=by rw[cj]at b;obtain⟨a,_,rfl⟩:=b;exact λh=>h
def aD2(h:S5 V n ops aN o σ x y t K)(hg:fF ops o σ.st)(ho:o.op=.call { callee:=.builtin .append,args:=#[x,y],argTypes:=#[t,t]}):∃w f,lj P n ops o aN σ w f/\K w f:=by
 unfold S5 at h;split at h
 ·rename_i d ti a h1;split at h
  ·rename_i e h2;split at h
   ·rename_i te k h3 h4;split at h
    ·rename_i zs L h6 h7 h8;have T1:=V.gg _ _ h1;have c:=V.gg _ _ h3;have A:=V.za _ _ h4;rw[c.sz,cY]at A;have B:d<n:=ic h6;have C:σ.st.heap σ.bV=none:=by rw[fZ,h7];rfl
     split at h
     ·rename_i N;obtain⟨l,q,⟨a1,a2,a3,h⟩,e2⟩:=Ma h;refine⟨_,_,⟨?_,λs Y=>by simp at Y⟩,h⟩
      have:=SQ.N0 (P:=P) (n:=n) (aS:=(·∈aN)) hg x y t ho (U.w k) ((bx k l).map .d) l.length (by rw[c8,N];rfl) (by rw[c8,q]) (an a1) e te.dT _ (by rw[T1.sl,h2]) (by rw[c.sz,A]) c.dT (c.zs _ L) (by simp[c.zl _ L,A]) a2 a3 σ.bV C (nk h8)
       (by rw[a];exact atp B) (uN (σ.ev y)) (λu j=>e2 u (by rw[<-c8];exact j))
      rw[a]at this;exact this
     ·rename_i s k1 len N;split at h
      ·rename_i k2 Q Y R hw;split at h
       ·rename_i l0 hl;obtain⟨l,q,⟨rfl,a2,a3,h⟩,e2⟩:=Ma h;have hc:=V.sa _ _ _ _ hl;have e3:bx k2 Q=bx k l0:=by unfold bx;rw[hc.1]
        have X:σ.st.heap s=some ((bx k l0).map .d):=by rw[fZ,Y];simp only[dH,aV.den,e3]
        have hsc:s≠σ.bV:=by rintro rfl;rw[h7]at Y;cases Y
        have Z:∀i,(σ.st.aT i).bK s↔i∈zK s σ.aT:=λi=>by rw[Hd,pG,<-T.nB,ST.pf]
        refine⟨_,_,⟨?_,λu j D r m=>?_⟩,h⟩
        ·have:=SQ.append (P:=P) (n:=n) (aS:=(·∈aN)) hg x y t ho d s (U.w k) l0.length a ((bx k l0).map .d) ((bx k l).map .d) l.length (by rw[c8,N,<-cO hw];rfl) X (by rw[dS,mf V]) (by rw[c8,q])
          e te.dT _ (by rw[T1.sl,h2]) (by rw[c.sz,A]) c.dT (c.zs _ L) (by simp[c.zl _ L,A]) (λv E=>Dz E s) (λv E=>Dz E s) a2 a3 (nk R) B σ.bV C (nk h8) (zK s σ.aT) (yK s σ.heap) (uN (σ.ev y)) (λu j=>e2 u (by rw[<-c8];exact j))
         refine cast (aY (λz=>SQ P n (·∈aN) ops o σ.st z _) ?_) this;unfold Cm SS.st;simp only;congr 1
         ·funext i;rw[vW];simp only[iX,gE];cases hi:Nat.beq i d with
          |true=>rw[aK (cO hi)];rfl
          |false=>
           rw[g (p9 hi)];rw[P0,vW];by_cases M:i∈zK s σ.aT
           ·rw[aK M];simp only[ST.kl,(Hd s σ.aT i).1 M];rfl
           ·rw[g M];have:(gE σ.aT i).nm s=false:=by
             cases G:(gE σ.aT i).nm s with
             |false=>rfl
             |true=>exact absurd ((Hd s σ.aT i).2 G) M
            simp only[ST.kl,this]
         ·funext u;rw[gz ((σ.bV,aV.aU k (l0++l))::uM s σ.heap) u];simp only[bX];cases j:Nat.beq u σ.bV with
          |true=>rw[aK (cO j)];simp only[dH,aV.den,C3,gB]
          |false=>
           rw[g (p9 j)];rw[JZ];by_cases H:u=s
           ·simp[H]
           ·simp only[H,mK];rw[gz];cases E:bX σ.heap u with
            |none=>simp
            |some b=>
             simp only[dH,aV.sj];by_cases G:u∈yK s σ.heap
             ·simp[G]
             ·simp only[G,mK];rw[HA λm=>G (E0 s σ.heap u b E m)]
        ·simp only[dZ]at j;subst j;simp only[dd,not_or]at r;unfold St.at at m;split at m
         ·rename_i e0;have q:D=2*(D/2):=O;have h9:=(Z _).1 m;apply r.1;rw[q,xz];exact cE _ h9
         ·rename_i e0;have q:D=2*(D/2)+1:=O;apply r.2;rw[q,qZ];cases p:σ.st.heap (D/2)with
          |none=>rw[p]at m;cases m
          |some cs'=>rw[p]at m;rw[fZ,gM]at p;obtain⟨b,hb1,rfl⟩:=p;exact cE _ (cE _ (E0 _ _ _ b hb1 m))
       ·cases h
      ·cases h
     ·cases h
    ·cases h
   ·cases h
  ·cases h
 ·cases h
end
section
variable {P:ay}{U:gw}
def SV.db:SV U->List Nat
 |.ptr s _=>[s]
 |.jN s _ _ _=>[s]
 |.sub s _ _ _=>[s]
 |.aW s _ _=>[s]
 |.cr _ a=>a.map (·.1)
 |.mp s=>[s]
 |.ty s _ _=>[s]
 |_=>[]
def SE.db:SE U->List Nat
 |.c v=>v.db
 |.agg a=>a.flatMap SV.db
def ST.db:ST U->List Nat
 |.e x=>x.db
 |.cn a=>a.flatMap SE.db
 |.any=>[]
def SV.oD(v:SV U):v.den.db=v.db:=by cases v<;>rfl
theorem SE.oD(v:SE U):v.den.db=v.db:=by
 cases v with
 |c v=>exact SV.oD v
 |agg a=>simp only[SE.den,E.db,SE.db,List.flatMap_map];congr 1;funext v;exact SV.oD v
theorem ST.oD(v:ST U):v.den.db=v.db:=by
 cases v with
 |e v=>exact SE.oD v
 |cn a=>simp only[ST.den,T.db,ST.db,List.flatMap_map];congr 1;funext v;exact SE.oD v
 |any=>rfl
structure Ct(P:ay)(U:gw)where
 f:FuncId
 run:List (SE U)->(ST U->Prop)->Prop
 ok:∀args K,run args K->∃r,li P f (args.map λx=>x.den.cH) r.den/\K r
def AR:List (Ct P U)->FuncId->Option (Ct P U)
 |[],_=>none
 |c::r,f=>match Nat.beq c.f f with|true=>some c|false=>AR r f
theorem aa7:∀{l:List (Ct P U)} {f:FuncId} {c:Ct P U},AR l f=some c->c.f=f
 |[],_,_,h=>by cases h
 |a::r,f,c,h=>by
  simp only[AR]at h;split at h
  ·rename_i e;injection h with h;subst h;exact cO e
  ·exact aa7 h
def BC:List (ST U)->Option (List (SE U))
 |[]=>some []
 |.e x::r=>(match BC r with|some l=>some (x::l)|none=>none)
 |_::_=>none
theorem Mn:∀{l:List (ST U)} {a:List (SE U)},BC l=some a->l=a.map .e
 |[],a,h=>by simp only[BC]at h;injection h with h;subst h;rfl
 |x::r,a,h=>by
  cases x<;>simp only[BC]at h
  case e x=>
   split at h
   ·rename_i l b;injection h with h;subst h;rw[Mn b];rfl
   ·cases h
  all_goals cases h
def K3:List (SE U)->Bool
 |[]=>true
 |x::r=>(match x.db with|[]=>K3 r|_=>false)
theorem ad8:∀{l:List (SE U)},K3 l=true->∀x∈l,x.db=[]
 |[],_,x,h=>by simp at h
 |a::r,h,x,b=>by
  simp only[K3]at h;split at h
  ·rename_i e;rcases dC.1 b with rfl|b
   ·exact e
   ·exact ad8 h x b
  ·cases h
def S9(n:Nat)(ops:aw)(o:Oper)(σ:SS U)(a:List (Ct P U))(Z:FuncId)(b:List Operand)(K:SS U->Ft->Prop):Prop:=
 match BC (b.map σ.ev),AR a Z,nr n o.dst with
 |some args,some c,true=>(match K3 args with|true=>c.run args λr=>fT r λr=>K (σ.put o.dst r) ⟨lk ops o,dl o,[]⟩|false=>False)
 |_,_,_=>False
variable {V:bU P U}{n:Nat}{ops:aw}{aN:au}{o:Oper}{σ:SS U}{K:SS U→Ft→Prop}
def azX(x:E):x.cH.db=x.db:=by
 have a:∀v:Ab.V,v.cH.db=v.db:=λv=>by cases v<;>rfl
 cases x with
 |c v=>exact a v
 |agg b=>simp only[E.cH,E.db,List.flatMap_map];congr 1;funext v;exact a v
def aD6{i:List (Ct P U)}{b:FuncId}{d:Array Operand}{j:Array TypeId}(h:S9 n ops o σ i b d.toList K)(p:fF ops o σ.st)(q:o.op=.call { callee:=.value (.func b),args:=d,argTypes:=j}):
 ∃e f,lj P n ops o aN σ e f/\K e f:=by
 unfold S9 at h;split at h
 ·rename_i args c u v w;split at h
  ·rename_i y;obtain⟨r,k,z⟩:=c.ok _ _ h;rw[aa7 v]at k;refine⟨_,_,⟨?_,λs Y=>by simp at Y⟩,JH (K:=λr=>K (σ.put o.dst r) _) z⟩;rw[n5];have A:=Mn u;refine SQ.pure p (aB1 b d j q _ r.den k ?_ ?_) (ns w)
   ·have:(d.toList.map λx=>(σ.st.ev x).cH)=(d.toList.map σ.ev).map λt=>t.den.cH:=by rw[ir];congr 1;funext x;simp[c8]
    rw[this,A,ir,ir];rfl
   ·intro x l s Y;rw[cj]at l;obtain⟨a,B,rfl⟩:=l;have m:=E.oE Y;rw[azX,SE.oD,ad8 y a B]at m;simp at m
  ·cases h
 ·cases h
def Ta(V:bU P U)(n:Nat)(ops:aw)(o:Oper)(σ:SS U)(x y:ax)(t:TypeId)(K:SS U->Ft->Prop):Prop:=
 match V.ty t,nr n o.dst with
 |some f,true=>
  (match f.sl with
   |some e=>(match V.ty e,V.aM e with
    |some h,some k=>
     (match σ.ev x with
      |.e (.c (.aW s k1 b))=>(match bX σ.heap s,Nat.beq (U.w k1) (U.w k)with
       |some (.aU k2 a),true=>(match V.cast k k2 a with
        |some a=>b=a.length/\DQ V k σ (σ.ev y) λl=>K { σ.put o.dst (.e (.c (.d (.sc (.int .i64 (min l.length a.length:Nat))))))with heap:=sG σ.heap s (.aU k (l.take a.length++a.drop l.length))} ⟨lk ops o++lu (uN (σ.ev y)),(2*s+1)::dl o,[]⟩
        |none=>False)
       |_,_=>False)
      |_=>False)
    |_,_=>False)
   |none=>False)
 |_,_=>False
def aEb{m:TypeId}(h:Ta V n ops o σ x y t K)(w:fF ops o σ.st)(A:o.op=.call { callee:=.builtin .copy,args:=#[x,y],argTypes:=#[t,m]}):∃a f,lj P n ops o aN σ a f/\K a f:=by
 unfold Ta at h;split at h
 ·rename_i ti B C;split at h
  ·rename_i e D;split at h
   ·rename_i te k E G;split at h
    ·rename_i s k1 H L;split at h
     ·rename_i k2 i Y M;split at h
      ·rename_i l0 N;obtain⟨rfl,h⟩:=h;obtain⟨l,e1,h,e2⟩:=Ma h;have T1:=V.gg _ _ B;have p:=V.gg _ _ E;have q:=V.za _ _ G;rw[p.sz,cY]at q;have Q:=V.sa _ _ _ _ N;have R:bx k2 i=bx k l0:=by unfold bx;rw[Q.1]
       have j:σ.st.heap s=some ((bx k l0).map .d):=by rw[fZ,Y];simp only[dH,aV.den,R]
       refine⟨_,_,⟨?_,λs Y=>by simp at Y⟩,h⟩
       have:=SQ.copy (P:=P) (n:=n) (aS:=(·∈aN)) w x y t m A s (U.w k) 0 l0.length ((bx k l0).map .d) ((bx k l).map .d) l.length (by rw[c8,L,<-cO M];rfl) j (by rw[dS,mf V];omega) (by rw[c8,e1])
        e (by rw[T1.sl,D]) (by rw[p.sz,q]) (ns C) (uN (σ.ev y)) (λu T=>e2 u (by rw[<-c8];exact T))
       refine cast (aY (λz=>SQ P n (·∈aN) ops o σ.st z _) ?_) this;have hh:(σ.put o.dst (.e (.c (.d (.sc (.int .i64 (min l.length l0.length:Nat))))))).heap=σ.heap:=by cases o.dst<;>rfl
       have r:=n5 σ o.dst (.e (.c (.d (.sc (.int .i64 (min l.length l0.length:Nat))))));unfold SS.st at r⊢;simp only;congr 1
       ·have:=aY St.aT r;exact this.symm
       ·funext u;rw[gz (sG σ.heap s _) u,J1 _ _ _ _ _ Y];simp only[cX];split
        ·simp only[dH,aV.den,cY];have v:=AU V k l 0 (min l.length l0.length);simp only[H7,rK]at v;have X:(bx k l0).drop (min l.length l0.length*U.w k)=bx k (l0.drop (min l.length l0.length)):=by have:=AU V k l0 (min l.length l0.length) l0.length;rw[eQ (by rw[qC,mf V];omega),eQ ai]at this;exact this
         unfold kL;rw[iC,gi,<-uh,v];have Z:((bx k (l.take (min l.length l0.length))).map Ab.V.d).length=min l.length l0.length*U.w k:=by rw[dS,mf V,ez];congr 1;omega
         rw[Z,oo,<-vj,X,<-gB,<-C3];congr 2;by_cases b:l.length<=l0.length
         ·rw[ju b,eQ b,eQ (bu _)]
         ·rw[Nat.min_eq_right O,pR O,pR O]
        ·rw[gz]
      ·cases h
     ·cases h
    ·cases h
   ·cases h
  ·cases h
 ·cases h
end
section
variable {P:ay}{U:gw}
def SV.fz(s:Nat)(k:U.K)(l:List (U.El k))(v:SV U):SV U:=
 match v with
 |.aW t _ _=>(match Nat.beq t s with|true=>.d (.bf k l)|false=>v)
 |.sub t _ a b=>(match Nat.beq t s with|true=>.d (.bf k ((l.drop a).take b))|false=>v)
 |_=>v.kl s
def v_(s:Nat)(k:U.K)(l:List (U.El k))(v:SV U)(b:Prop):Prop:=
 match v with
 |.aW t d a=>(match Nat.beq t s with|true=>(match Nat.beq (U.w d) (U.w k)with|true=>a=l.length/\b|false=>False)|false=>b)
 |.sub t d c a=>(match Nat.beq t s with|true=>(match Nat.beq (U.w d) (U.w k)with|true=>c+a<=l.length/\b|false=>False)|false=>b)
 |_=>b
def agv(k m a len:Nat)(b:List (List D))(c:∀r∈b,r.length=k)(h:a+len<=b.length)(d:m=a*k):aU k m len b.flatten=(b.drop a).take len:=by
 subst d;apply List.ext_getElem
 ·simp[aU];omega
 ·intro i f n;simp only[aU,dS,oh]at f;simp only[aU,List.getElem_map,List.getElem_range,List.getElem_take,List.getElem_drop];apply ug;intro j;rw[rM];have l:(b[a+i]' O).length=k:=c _ (rO _);split
  ·rename_i e;rw[m_,<-jS,FP k b c (a+i) j e,ca O];rfl
  ·rw[gp O]
def FQ(t k a len s:Nat)(b:List D):(Ab.V.sub t k a len).cL s b=if t=s then(if a+len*k<=b.length then .d (.sl (aU k a len b))else .any)else .sub t k a len:=rfl
def Be(V:bU P U){k:U.K}{l:List (U.El k)}{v:SV U}{φ:Prop}(h:v_ s k l v φ):φ/\(v.fz s k l).den=v.den.cL s (bx k l):=by
 have q:∀r∈l.map (U.dt k),r.length=U.w k:=λr A=>by rw[cj]at A;obtain⟨y,_,rfl⟩:=A;exact V.len k y
 cases v with
 |aW t e len=>
  simp only[v_]at h;cases m:Nat.beq t s with
  |true=>
   rw[m]at h;simp only at h;cases n:Nat.beq (U.w e) (U.w k)with
   |true=>
    rw[n]at h;simp only at h;obtain⟨rfl,h⟩:=h;refine⟨h,?_⟩;have p:SV.fz s k l (.aW t e l.length)=.d (.bf k l):=by simp only[SV.fz,m]
    have w:(SV.aW t e l.length:SV U).den=.sub t (U.w k) 0 l.length:=by simp only[SV.den,cO n]
    rw[p,w];rw[FQ,aK (cO m),aK (by rw[mf V];omega)];have:=agv (U.w k) 0 0 l.length (l.map (U.dt k)) q ai ai;rw[rK,eQ ai]at this;exact aY (λz=>Ab.V.d (.sl z)) this.symm
   |false=>rw[n]at h;cases h
  |false=>
   rw[m]at h;refine⟨h,?_⟩;have p:SV.fz s k l (.aW t e len)=.aW t e len:=by simp only[SV.fz,m]
   rw[p];show _=Ab.V.cL s (bx k l) (.sub t (U.w e) 0 len);rw[FQ,g (p9 m)];rfl
 |sub t e c len=>
  simp only[v_]at h;cases m:Nat.beq t s with
  |true=>
   rw[m]at h;simp only at h;cases n:Nat.beq (U.w e) (U.w k)with
   |true=>
    rw[n]at h;simp only at h;obtain⟨B,h⟩:=h;refine⟨h,?_⟩;have p:SV.fz s k l (.sub t e c len)=.d (.bf k ((l.drop c).take len)):=by simp only[SV.fz,m]
    have w:(SV.sub t e c len:SV U).den=.sub t (U.w k) (c*U.w k) len:=by simp only[SV.den,cO n]
    rw[p,w];rw[FQ,aK (cO m),aK (by rw[mf V,<-jS];exact jI _ B)];have:=agv (U.w k) (c*U.w k) c len (l.map (U.dt k)) q (an B) rfl;rw[<-vj,<-uh]at this;exact aY (λz=>Ab.V.d (.sl z)) this.symm
   |false=>rw[n]at h;cases h
  |false=>
   rw[m]at h;refine⟨h,?_⟩;have p:SV.fz s k l (.sub t e c len)=.sub t e c len:=by simp only[SV.fz,m]
   rw[p];show _=Ab.V.cL s (bx k l) (.sub t (U.w e) (c*U.w e) len);rw[FQ,g (p9 m)];rfl
 |d x=>exact⟨h,SV.sj s (.d x)⟩
 |ptr t o=>exact⟨h,SV.sj s (.ptr t o)⟩
 |jN t k i j=>exact⟨h,SV.sj s (.jN t k i j)⟩
 |gT C=>exact⟨h,SV.sj s (.gT C)⟩
 |cr f u=>exact⟨h,SV.sj s (.cr f u)⟩
 |mp t=>exact⟨h,SV.sj s (.mp t)⟩
 |ty t a b=>exact⟨h,SV.sj s (.ty t a b)⟩
 |any=>exact⟨h,SV.sj s .any⟩
def Lf(s:Nat)(k:U.K)(l:List (U.El k)):List (SV U)->Prop->Prop
 |[],a=>a
 |v::r,a=>v_ s k l v (Lf s k l r a)
theorem RE(V:bU P U){k:U.K}{l:List (U.El k)}:∀{b:List (SV U)} {a:Prop},Lf s k l b a->a/\(b.map (SV.fz s k l)).map SV.den=(b.map SV.den).map (Ab.V.cL s (bx k l))
 |[],a,h=>⟨h,rfl⟩
 |v::r,a,h=>by obtain⟨c,d⟩:=Be V h;obtain⟨e,f⟩:=RE V c;exact⟨e,by simp only[dc,d,f]⟩
def SE.fz(s:Nat)(k:U.K)(l:List (U.El k)):SE U->SE U
 |.c v=>.c (v.fz s k l)
 |.agg a=>.agg (a.map (SV.fz s k l))
def Rz(s:Nat)(k:U.K)(l:List (U.El k))(x:SE U)(a:Prop):Prop:=match x with|.c v=>v_ s k l v a|.agg b=>Lf s k l b a
def aeG(V:bU P U){k:U.K}{l:List (U.El k)}{x:SE U}{d:Prop}(h:Rz s k l x d):d/\(x.fz s k l).den=x.den.cL s (bx k l):=by
 cases x with
 |c v=>obtain⟨a,b⟩:=Be V h;exact⟨a,by simp only[SE.fz,SE.den,E.cL,b]⟩
 |agg e=>obtain⟨a,b⟩:=RE V h;exact⟨a,by simp only[SE.fz,SE.den,E.cL,b]⟩
def RD(s:Nat)(k:U.K)(l:List (U.El k)):List (SE U)->Prop->Prop
 |[],a=>a
 |v::r,a=>Rz s k l v (RD s k l r a)
theorem aeH(V:bU P U){k:U.K}{l:List (U.El k)}:∀{b:List (SE U)} {a:Prop},RD s k l b a->a/\(b.map (SE.fz s k l)).map SE.den=(b.map SE.den).map (E.cL s (bx k l))
 |[],a,h=>⟨h,rfl⟩
 |v::r,a,h=>by obtain⟨c,d⟩:=aeG V h;obtain⟨e,f⟩:=aeH V c;exact⟨e,by simp only[dc,d,f]⟩
def ST.fz(s:Nat)(k:U.K)(l:List (U.El k)):ST U->ST U
 |.e x=>.e (x.fz s k l)
 |.cn a=>.cn (a.map (SE.fz s k l))
 |.any=>.any
def okT(s:Nat)(k:U.K)(l:List (U.El k))(x:ST U)(a:Prop):Prop:=match x with|.e v=>Rz s k l v a|.cn b=>RD s k l b a|.any=>a
def aA6(V:bU P U){k:U.K}{l:List (U.El k)}{x:ST U}{c:Prop}(h:okT s k l x c):c/\(x.fz s k l).den=x.den.cL s (bx k l):=by
 cases x with
 |e v=>obtain⟨a,b⟩:=aeG V h;exact⟨a,by simp only[ST.fz,ST.den,T.cL,b]⟩
 |cn d=>obtain⟨a,b⟩:=aeH V h;exact⟨a,by simp only[ST.fz,ST.den,T.cL,b]⟩
 |any=>exact⟨h,rfl⟩
def Rv(s:Nat)(k:U.K)(l:List (U.El k)):List (Nat×ST U)->Prop->Prop
 |[],a=>a
 |(_,t)::r,a=>okT s k l t (Rv s k l r a)
def xn(s:Nat)(k:U.K)(l:List (U.El k))(e:List (Nat×ST U)):List (Nat×ST U):=e.map λp=>(p.1,p.2.fz s k l)
theorem Rw(V:bU P U){k:U.K}{l:List (U.El k)}:∀{e:List (Nat×ST U)} {a:Prop},Rv s k l e a->a/\∀i,(gE (xn s k l e) i).den=(gE e i).den.cL s (bx k l)
 |[],a,h=>⟨h,λ_=>rfl⟩
 |(j,t)::r,a,h=>by
  obtain⟨b,c⟩:=aA6 V h;obtain⟨d,f⟩:=Rw V b;refine⟨d,λi=>?_⟩;simp only[xn,dc,gE];split
  ·exact c
  ·exact f i
def aV.fz(s:Nat)(k:U.K)(l:List (U.El k)):aV U->aV U
 |.cells c=>.cells (c.map (SV.fz s k l))
 |.hI a i v=>.hI a i (v.fz s k l)
 |b=>b
def okB(s:Nat)(k:U.K)(l:List (U.El k))(b:aV U)(a:Prop):Prop:=match b with|.cells c=>Lf s k l c a|.hI _ _ v=>v_ s k l v a|_=>a
def Rx(s:Nat)(k:U.K)(l:List (U.El k)):List (Nat×aV U)->Prop->Prop
 |[],a=>a
 |(_,b)::r,a=>okB s k l b (Rx s k l r a)
def aA5(V:bU P U){k:U.K}{l:List (U.El k)}{b:aV U}{d:Prop}(h:okB s k l b d):d/\(b.fz s k l).den=b.den.map (Ab.V.cL s (bx k l)):=by
 cases b with
 |cells f=>obtain⟨a,c⟩:=RE V h;exact⟨a,by simp only[aV.fz,aV.den,c]⟩
 |aU k2 j=>exact⟨h,by simp[aV.fz,aV.den,vh,Ab.V.cL]⟩
 |lr m=>exact⟨h,by simp[aV.fz,aV.den,Ab.V.cL]⟩
 |hI e i v=>obtain⟨a,c⟩:=Be V h;exact⟨a,(aY (jL e i) c).trans (GQ (Ab.V.cL s (bx k l)) (λ_=>rfl) e i v.den).symm⟩
def uH(s:Nat)(k:U.K)(l:List (U.El k)):List (Nat×aV U)->List (Nat×aV U)
 |[]=>[]
 |(j,b)::r=>match Nat.beq j s with|true=>uH s k l r|false=>(j,b.fz s k l)::uH s k l r
theorem Ry(V:bU P U){k:U.K}{l:List (U.El k)}:∀{e:List (Nat×aV U)} {a:Prop},Rx s k l e a->a/\∀u,(bX (uH s k l e) u).map aV.den=if u=s then none else((bX e u).map aV.den).map (List.map (Ab.V.cL s (bx k l)))
 |[],a,h=>⟨h,λu=>by simp[uH,bX]⟩
 |(j,b)::r,a,h=>by
  obtain⟨i,m⟩:=aA5 V h;obtain⟨n,d⟩:=Ry V i;refine⟨n,λu=>?_⟩;simp only[uH];cases f:Nat.beq j s with
  |true=>
   simp only;rw[d u];by_cases c:u=s
   ·simp[c]
   ·have:Nat.beq u j=false:=by
     cases h:Nat.beq u j with
     |false=>rfl
     |true=>exact absurd ((cO h).trans (cO f)) c
    simp only[c,mK,bX,this]
  |false=>
   simp only[bX];cases h:Nat.beq u j with
   |true=>have e:=cO h;rw[g (by rw[e];exact p9 f)];simp only[dH,m]
   |false=>exact d u
def G4(aN:au)(s:Nat)(a:SS U)(K:SS U->Prop):Prop:=
 match bX a.heap s,aN.contains s with
 |some (.aU k l),false=>Rv s k l a.aT (Rx s k l a.heap (K { aT:=xn s k l a.aT,heap:=uH s k l a.heap,bV:=a.bV}))
 |none,_=>K a
 |_,_=>False
def aEq(V:bU P U){n:Nat}{aN:au}{σ:SS U}{K:SS U->Prop}(h:G4 aN s σ K):∃σ',dm n (·∈aN) σ.st σ'.st/\K σ':=by
 unfold G4 at h;split at h
 ·rename_i k l Y a;obtain⟨h,b⟩:=Rw V h;obtain⟨h,c⟩:=Ry V h;refine⟨_,?_,h⟩;have:=dm.freeze (n:=n) (aS:=(·∈aN)) (σ:=σ.st) s (bx k l) (by rw[fZ,Y];rfl) (nk a);refine cast (aY (dm n (·∈aN) σ.st) ?_) this;unfold St.cL;rw[show(SS.st { aT:=xn s k l σ.aT,heap:=uH s k l σ.heap,bV:=σ.bV})=⟨λi=>(gE (xn s k l σ.aT) i).den,λu=>(bX (uH s k l σ.heap) u).map aV.den⟩from by
   unfold SS.st;congr 1
   ·funext i;exact vW _ i
   ·funext u;exact gz _ u]
  congr 1
  ·funext i;rw[b,pG]
  ·funext u;rw[c,fZ]
 ·exact⟨σ,dm.refl _ _ _,h⟩
 ·cases h
def xQ(aN:au):List Nat->SS U->(SS U->Prop)->Prop
 |[],b,K=>K b
 |s::r,b,K=>G4 aN s b λa=>xQ aN r a K
theorem LZ(V:bU P U){n:Nat}{aN:au}:∀{l:au}{a:SS U}{K:SS U->Prop},xQ aN l a K->∃b,dm n (·∈aN) a.st b.st/\K b
 |[],a,K,h=>⟨a,dm.refl _ _ _,h⟩
 |s::r,a,K,h=>by obtain⟨d,e,h⟩:=aEq V (n:=n) h;obtain⟨c,f,h⟩:=LZ V (n:=n) h;exact⟨c,e.trans f,h⟩
end
def V.eU(c:Nat->Option Nat):V->V
 |.ptr s a=>(match c s with|some t=>.ptr t a|none=>.dV [])
 |.sub s k a e=>(match c s with|some t=>.sub t k a e|none=>if a=0/\e=0 then .d (.sc (.slice none 0 0))else .dV [])
 |.cr f b=>if b.all (λp=>(c p.1).isSome)then .cr f (b.map λp=>((c p.1).getD 0,p.2))else .dV []
 |.mp s=>(match c s with|some t=>.mp t|none=>.dV [])
 |.ty s t h=>(match c s with|some u=>.ty u t h|none=>.dV [])
 |v=>v
def E.eU(a:Nat->Option Nat):E->E
 |.c v=>.c (v.eU a)
 |.agg b=>.agg (b.map (V.eU a))
def T.eU(a:Nat->Option Nat):T->T
 |.e x=>.e (x.eU a)
 |.cn b=>.cn (b.map (E.eU a))
 |.any=>.any
def o_(b:G)(a:Nat->Option Nat)(s:Nat):Option (Option Nat):=match a s with|some t=>b t|none=>some none
def dO.tW{x:V}(h:dO w M Q (x.eU U) v)(r:∀s,x.bK s->H s=o_ Q U s)(n:∀b,cS w M Q b->cS w M H b):dO w M H x v:=by
 cases x with
 |d x=>exact dE.mono h n (λ_ _=>rfl)
 |gT ds=>obtain⟨a,e,A,Y,hd⟩:=h;exact⟨a,e,A,n _ Y,λj x P=>by obtain⟨u,R,l⟩:=hd j x P;exact⟨u,R,l.mono n (λ_ _=>rfl)⟩⟩
 |any=>exact h
 |dV es=>exact h
 |ptr s B=>
  have e:=r s rfl;simp only[V.eU]at h;unfold o_ at e;cases l:U s with
  |none=>rw[l]at h;cases h
  |some t=>rw[l]at h e;obtain⟨b,q,ev⟩:=h;exact⟨b,e.trans q,ev⟩
 |mp s=>
  have e:=r s rfl;simp only[V.eU]at h;unfold o_ at e;cases l:U s with
  |none=>rw[l]at h;cases h
  |some t=>rw[l]at h e;obtain⟨b,q,ev⟩:=h;exact⟨b,e.trans q,ev⟩
 |ty s t sl=>
  have e:=r s rfl;simp only[V.eU]at h;unfold o_ at e;cases l:U s with
  |none=>rw[l]at h;cases h
  |some u=>rw[l]at h e;obtain⟨b,cells,q,ev⟩:=h;exact⟨b,cells,e.trans q,ev⟩
 |sub s k B T=>
  have e:=r s rfl;simp only[V.eU]at h;unfold o_ at e;cases l:U s with
  |none=>
   rw[l]at h e;simp only at h;split at h
   ·rename_i X;obtain⟨rfl,rfl⟩:=X;exact .inr (.inl ⟨e,rfl,rfl,gK (show b6 w M Q (.e (.c (.d (.sc (.slice none 0 0))))) v from h)⟩)
   ·cases h
  |some t=>
   rw[l]at h e;rcases h with⟨b,C,cells,ty,y,z⟩|⟨y,z⟩|⟨b,o,y,z⟩
   ·exact .inl ⟨b,C,cells,ty,e.trans y,z⟩
   ·exact .inr (.inl ⟨e.trans y,z⟩)
   ·exact .inr (.inr ⟨b,o,e.trans y,z⟩)
 |cr f L=>
  simp only[V.eU]at h;split at h
  ·rename_i m;obtain⟨cs,ev,Z,hc⟩:=h;refine⟨cs,ev,by simpa using Z,λi p c D E=>?_⟩;have K:(U p.1).isSome:=by rw[eM]at m;exact m p (bF D)
   obtain⟨t,N⟩:=Nt.1 K;obtain⟨b,q,e'⟩:=hc i (t,p.2) c (by rw[dU,D];simp[N]) E;refine⟨b,?_,e'⟩;rw[r p.1 ⟨p,bF D,rfl⟩];unfold o_;rw[N];exact q
  ·cases h
theorem bR.tW{a:List V}{vs:av}(h:bR w M Q (a.map (V.eU U)) vs)(e:∀s,(∃x∈a,x.bK s)->H s=o_ Q U s)(c:∀b,cS w M Q b->cS w M H b):bR w M H a vs:=
 ⟨by simpa using h.1,λi x u d f=>(h.2 i (x.eU U) u (by rw[dU,d];rfl) f).tW (λs Y=>e s ⟨x,bF d,Y⟩) c⟩
theorem eP.tW{x:E}(h:eP w M Q (x.eU U) v)(d:∀s,x.bK s->H s=o_ Q U s)(a:∀b,cS w M Q b->cS w M H b):eP w M H x v:=by
 cases x with
 |c x=>exact dO.tW h d a
 |agg j=>obtain⟨f,e,i⟩:=h;exact⟨f,e,i.tW d a⟩
theorem b6.tW{x:T}(h:b6 w M Q (x.eU U) v)(c:∀s,x.bK s->H s=o_ Q U s)(a:∀b,cS w M Q b->cS w M H b):b6 w M H x v:=by
 cases x with
 |e x=>exact eP.tW h c a
 |cn m=>obtain⟨f,e,j,k⟩:=h;exact⟨f,e,by simpa using j,λi x u d l=>(k i (x.eU U) u (by rw[dU,d];rfl) l).tW (λs Y=>c s ⟨x,bF d,Y⟩) a⟩
 |any=>trivial
def dm.rename{aS:aq}(l:List (Nat×T))(d:List (Nat×List V))(f:Nat->Option Nat)(h1:∀p∈l,pU (L.aT p.1) (p.2.eU f))
 (h2:∀s o,bJ d s=some o->(∃t cs,f s=some t/\L.heap t=some cs/\(∀(w:World)(M:aq)(j:G)(A:av),bR w M j cs A->bR w M j (o.map (V.eU f)) A)/\∀N,cs=[.dV N]->o=[.dV N])\/(f s=none/\o=[]))
 (h3:∀p∈l,∀s,p.2.bK s->bJ d s≠none)(h4:∀s cs,bJ d s=some cs->∀x∈cs,∀u,x.bK u->bJ d u≠none)
 (h5:∀s t u,bJ d s≠none->bJ d t≠none->f s=some u->f t=some u->s=t)(h6:∀s,aS s->bJ d s≠none/\f s=some s):dm n aS L ⟨mk l,bJ d⟩:=by
 intro C hn Y a w ⟨j,R⟩
 let c:G:=λs=>match bJ d s with|none=>none|some _=>o_ j f s
 have e:∀s,bJ d s≠none->c s=o_ j f s:=by
  intro s Y;simp only[c];cases h:bJ d s with
  |none=>exact absurd h Y
  |some cs=>rfl
 have k:∀s b,c s=some (some b)->bJ d s≠none/\∃t,f s=some t/\j t=some (some b):=by
  intro s b h;simp only[c]at h;split at h
  ·cases h
  ·rename_i cs hc;refine⟨by rw[hc];simp,?_⟩;unfold o_ at h;cases P:f s with
   |none=>rw[P]at h;injection h with h;cases h
   |some t=>rw[P]at h;exact⟨t,rfl,h⟩
 have q:∀b,cS w C.M j b->cS w C.M c b:=λb B=>⟨B.1,B.2.1,λs h=>by obtain⟨_,t,_,h⟩:=k s b h;exact B.2.2 t h⟩
 refine⟨c,⟨R.mem.gG,λs t b x y=>?_,λs b x=>?_,λs h=>?_,λs cs h=>?_,R.mem.iU.to q (λ_ _=>rfl)⟩,λi=>?_,R.aN,λs b x=>?_,λs h=>?_,R.defers,R.size⟩
 ·obtain⟨d1,t1,z,m⟩:=k s b x;obtain⟨d2,t2,D,r⟩:=k t b y;have:=R.mem.inj t1 t2 b m r;subst this;exact h5 s t t1 d1 d2 z D
 ·obtain⟨_,t1,_,m⟩:=k s b x;exact R.mem.nm t1 b m
 ·show c s=none;have h:bJ d s=none:=h;simp only[c,h]
 ·have h:bJ d s=some cs:=h;have Q:c s=o_ j f s:=e s (by rw[h];simp);rcases h2 s cs h with⟨t,E,z,D,U,e4⟩|⟨z,rfl⟩
  ·have v:c s=j t:=by rw[Q];unfold o_;rw[z]
   rcases R.mem.fe t E D with⟨b,Z,A,sp,m,r,g3⟩|⟨m,r⟩|⟨b,en,H,m,r,g3⟩
   ·exact .inl ⟨b,Z,A,sp,v.trans m,r,(U _ _ _ _ g3).tW (λu ⟨x,hx,K⟩=>e u (h4 s cs h x hx u K)) q⟩
   ·refine .inr (.inl ⟨v.trans m,?_⟩);subst r;have:=(U w C.M j [] bR.nil).1;exact fc (an this)
   ·exact .inr (.inr ⟨b,en,H,v.trans m,r,e4 _ g3⟩)
  ·exact .inr (.inl ⟨by rw[Q];unfold o_;rw[z],rfl⟩)
 ·rcases adv l i with h|h
  ·show b6 _ _ _ (mk l i) _;rw[h];trivial
  ·exact(h1 _ h w C.M j _ (R.aT i)).tW (λu K=>e u (h3 _ h u K)) q
 ·obtain⟨_,t1,_,m⟩:=k s b x;exact R.aW t1 b m
 ·rw[Y]at h;have X:=h6 s h;rw[e s X.1];unfold o_;rw[X.2];exact R.aS s (by rw[Y];exact h)
def V.rn(b:Nat->Nat):V->V
 |.ptr s a=>.ptr (b s) a
 |.sub s k a e=>.sub (b s) k a e
 |.cr f c=>.cr f (c.map λp=>(b p.1,p.2))
 |.mp s=>.mp (b s)
 |.ty s t h=>.ty (b s) t h
 |v=>v
def E.rn(a:Nat->Nat):E->E
 |.c v=>.c (v.rn a)
 |.agg b=>.agg (b.map (V.rn a))
def T.rn(a:Nat->Nat):T->T
 |.e x=>.e (x.rn a)
 |.cn b=>.cn (b.map (E.rn a))
 |.any=>.any
def V.GW(a:Nat->Nat)(x:V):x.rn a=x.eU (λs=>some (a s)):=by cases x<;>simp[V.rn,V.eU]
theorem E.GW(a:Nat->Nat)(x:E):x.rn a=x.eU (λs=>some (a s)):=by
 cases x with
 |c v=>simp only[E.rn,E.eU,V.GW]
 |agg b=>simp only[E.rn,E.eU];congr 1;apply lc;intro v _;exact V.GW a v
def dO.vC{x:V}(h:dO w M Q x v)(l:∀c,H (Z c)=Q c)(m:∀b,cS w M Q b->cS w M H b):dO w M H (x.rn Z) v:=by
 cases x with
 |d x=>exact dE.mono h m (λ_ _=>rfl)
 |gT ds=>obtain⟨a,e,z,Y,K⟩:=h;exact⟨a,e,z,m _ Y,λj x L=>by obtain⟨u,N,P⟩:=K j x L;exact⟨u,N,P.mono m (λ_ _=>rfl)⟩⟩
 |any=>exact h
 |dV es=>exact h
 |ptr s A=>obtain⟨b,n,e⟩:=h;exact⟨b,(l s).trans n,e⟩
 |mp s=>obtain⟨b,n,e⟩:=h;exact⟨b,(l s).trans n,e⟩
 |ty s t sl=>obtain⟨b,cells,n,e⟩:=h;exact⟨b,cells,(l s).trans n,e⟩
 |sub s k A R=>
  rcases h with⟨b,B,cells,ty,r,y⟩|⟨r,y⟩|⟨b,o,r,y⟩
  ·exact .inl ⟨b,B,cells,ty,(l s).trans r,y⟩
  ·exact .inr (.inl ⟨(l s).trans r,y⟩)
  ·exact .inr (.inr ⟨b,o,(l s).trans r,y⟩)
 |cr f D=>obtain⟨cs,e,T,U⟩:=h;refine⟨cs,e,by simpa using T,λi p c E C=>?_⟩;rw[dU,gM]at E;obtain⟨q,X,rfl⟩:=E;obtain⟨b,n,e'⟩:=U i q c X C;exact⟨b,(l q.1).trans n,e'⟩
theorem bR.vC{e:List V}{vs:av}(h:bR w M Q e vs)(a:∀c,H (Z c)=Q c)(d:∀b,cS w M Q b->cS w M H b):bR w M H (e.map (V.rn Z)) vs:=by refine⟨by simpa using h.1,λi x u f j=>?_⟩;rw[dU,gM]at f;obtain⟨y,k,rfl⟩:=f;exact(h.2 i y u k j).vC a d
theorem eP.vC{x:E}(h:eP w M Q x v)(a:∀c,H (Z c)=Q c)(d:∀b,cS w M Q b->cS w M H b):eP w M H (x.rn Z) v:=by
 cases x with
 |c x=>exact dO.vC h a d
 |agg j=>obtain⟨f,e,i⟩:=h;exact⟨f,e,i.vC a d⟩
theorem b6.vC{x:T}(h:b6 w M Q x v)(a:∀c,H (Z c)=Q c)(d:∀b,cS w M Q b->cS w M H b):b6 w M H (x.rn Z) v:=by
 cases x with
 |e x=>exact eP.vC h a d
 |cn o=>obtain⟨j,e,k,l⟩:=h;refine⟨j,e,by simpa using k,λi x u f m=>?_⟩;rw[dU,gM]at f;obtain⟨y,n,rfl⟩:=f;exact(l i y u n m).vC a d
 |any=>trivial
def cN.rename{H H' K K':eh}{args:List E}{aS stay':aq}{r:T}(h:cN N f H args H' aS r)(k:Nat->Nat)(inj:∀a b,k a=k b->a=b)
 (hK:∀c,K (k c)=(H c).map (List.map (V.rn k)))(hK0:∀s,K s≠none->∃c,k c=s)(hK':∀c,K' (k c)=(H' c).map (List.map (V.rn k)))(hK0':∀s,K' s≠none->∃c,k c=s)
 (Y:∀s,stay' s->∃c,k c=s/\aS c):cN N f K (args.map (E.rn k)) K' stay' (r.rn k):=by
 refine⟨h.1,λM γ w vals X ha=>?_⟩
 let BJ:G:=λc=>γ (k c)
 have A:∀b,cS w M γ b->cS w M BJ b:=λb q=>⟨q.1,q.2.1,λs=>q.2.2 (k s)⟩
 have hun:∀{Z:List V}{vs:av},bR w M γ (Z.map (V.rn k)) vs->bR w M BJ Z vs:=λ{Z vs} l=>by
  have e:Z.map (V.rn k)=Z.map (V.eU (λs=>some (k s))):=lc λx _=>V.GW k x
  rw[e]at l;exact l.tW (λs _=>rfl) A
 have hmem:Mem M BJ H w:=by
  refine⟨X.gG,λs t b x y=>inj _ _ (X.inj _ _ b x y),λs b x=>X.nm _ b x,λs e=>X.fW _ (by rw[hK,e];rfl),λs cs e=>?_,X.iU.to A (λ_ _=>rfl)⟩;rcases X.fe (k s) (cs.map (V.rn k)) (by rw[hK,e];rfl)with⟨b,t,vs,sp,z,C,L⟩|⟨z,C⟩|⟨b,en,Q,z,C,L⟩
  ·exact .inl ⟨b,t,vs,sp,z,C,hun L⟩
  ·exact .inr (.inl ⟨z,List.map_eq_nil_iff.1 C⟩)
  ·refine .inr (.inr ⟨b,en,Q,z,C,?_⟩);cases cs with
   |nil=>simp at L
   |cons x r=>simp only[dc,List.cons.injEq,List.map_eq_nil_iff]at L;obtain⟨e1,rfl⟩:=L;cases x<;>simp only[V.rn,reduceCtorEq]at e1;rw[e1]
 have R:lb w M BJ args vals:=by refine⟨by simpa using ha.1,λi x u hx hu=>?_⟩;have z:=ha.2 i (x.rn k) u (by rw[dU,hx];rfl) hu;rw[E.GW]at z;exact z.tW (λs _=>rfl) A
 refine(h.2 M BJ w vals hmem R).mono λe w' he=>?_
 obtain⟨v,D,rfl,m,rel1,j,own1,U⟩:=he;have hdec:∀s,Decidable (∃c,k c=s):=λs=>Classical.propDecidable _
 let p:G:=λs=>if l:∃c,k c=s then D l.choose else none
 have n:∀c,p (k c)=D c:=λc=>by have l:∃d,k d=k c:=⟨c,rfl⟩;simp only[p,dif_pos l];rw[inj _ _ l.choose_spec]
 have o:∀s b,p s=some b->∃c,k c=s/\D c=some b:=λs b q=>by
  simp only[p]at q;split at q
  ·rename_i l;exact⟨l.choose,l.choose_spec,q⟩
  ·cases q
 have B:∀b,cS w' M D b->cS w' M p b:=λb q=>⟨q.1,q.2.1,λs Y=>by obtain⟨c,_,l⟩:=o s _ Y;exact q.2.2 c l⟩
 refine⟨v,p,rfl,⟨m.gG,λs t b x y=>?_,λs b x=>?_,λs e=>?_,λs cs e=>?_,m.iU.to B (λ_ _=>rfl)⟩,rel1.vC n B,?_,λs b x=>?_,λs x=>?_⟩
 ·obtain⟨c,rfl,l⟩:=o s _ x;obtain⟨d,rfl,hd⟩:=o t _ y;rw[m.inj c d b l hd]
 ·obtain⟨c,_,l⟩:=o s _ x;exact m.nm c b l
 ·by_cases l:∃c,k c=s
  ·obtain⟨c,rfl⟩:=l;rw[n];refine m.fW c ?_;rw[hK']at e;simpa using e
  ·simp only[p,dif_neg l]
 ·obtain⟨c,rfl⟩:=hK0' s (by rw[e];simp);rw[hK',gM]at e;obtain⟨cs0,e0,rfl⟩:=e;rw[n];rcases m.fe c cs0 e0 with⟨b,t,vs,sp,z,C,L⟩|⟨z,rfl⟩|⟨b,en,Q,z,C,rfl⟩
  ·exact .inl ⟨b,t,vs,sp,z,C,L.vC n B⟩
  ·exact .inr (.inl ⟨z,rfl⟩)
  ·exact .inr (.inr ⟨b,en,Q,z,C,rfl⟩)
 ·exact⟨j.os,j.tape,j.output,j.drawn,j.size,λb q hn=>j.same b q λ⟨s,Y⟩=>hn ⟨k s,Y⟩,j.iK⟩
 ·obtain⟨c,_,l⟩:=o s _ x;rcases own1 c b l with⟨t,ht⟩|hge
  ·exact .inl ⟨k t,ht⟩
  ·exact .inr hge
 ·obtain⟨c,rfl,l⟩:=Y s x;rw[n];exact U c l
section
variable {P:ay}{U:gw}
def SV.rn(a:Nat->Nat):SV U->SV U
 |.ptr s b=>.ptr (a s) b
 |.jN s k i j=>.jN (a s) k i j
 |.sub s k b c=>.sub (a s) k b c
 |.aW s k c=>.aW (a s) k c
 |.cr f e=>.cr f (e.map λp=>(a p.1,p.2))
 |.mp s=>.mp (a s)
 |.ty s t h=>.ty (a s) t h
 |v=>v
def SE.rn(a:Nat->Nat):SE U->SE U
 |.c v=>.c (v.rn a)
 |.agg b=>.agg (b.map (SV.rn a))
def ST.rn(a:Nat->Nat):ST U->ST U
 |.e x=>.e (x.rn a)
 |.cn b=>.cn (b.map (SE.rn a))
 |.any=>.any
def aV.rn(a:Nat->Nat):aV U->aV U
 |.cells d=>.cells (d.map (SV.rn a))
 |.hI c i v=>.hI c i (v.rn a)
 |b=>b
def SV.qk(θ:Nat->Nat)(v:SV U):(v.rn θ).den=v.den.rn θ:=by cases v<;>rfl
theorem SE.qk(θ:Nat->Nat)(x:SE U):(x.rn θ).den=x.den.rn θ:=by
 cases x with
 |c v=>simp only[SE.rn,SE.den,E.rn,SV.qk]
 |agg a=>simp only[SE.rn,SE.den,E.rn,ir];congr 1;apply lc;intro v _;exact SV.qk θ v
theorem ST.qk(θ:Nat->Nat)(x:ST U):(x.rn θ).den=x.den.rn θ:=by
 cases x with
 |e v=>simp only[ST.rn,ST.den,T.rn,SE.qk]
 |cn a=>simp only[ST.rn,ST.den,T.rn,ir];congr 1;apply lc;intro v _;exact SE.qk θ v
 |any=>rfl
theorem aV.qk(a:Nat->Nat)(b:aV U):(b.rn a).den=b.den.map (V.rn a):=by
 cases b with
 |cells e=>simp only[aV.rn,aV.den,ir];apply lc;intro v _;exact SV.qk a v
 |aU k l=>simp[aV.rn,aV.den,vh,V.rn]
 |lr d=>simp[aV.rn,aV.den,V.rn]
 |hI c i v=>exact(aY (jL c i) (SV.qk a v)).trans (GQ (V.rn a) (λ_=>rfl) c i v.den).symm
def SV.xN{v:SV U}(h:∀s∈v.db,Z (A s)=s):(v.rn A).rn Z=v:=by
 cases v<;>simp_all[SV.rn,SV.db];rename_i f a
 conv=>rhs;rw[<-En a]
 apply lc;intro p b;simp only[Function.comp,id];rw[h p.1 _ b]
theorem SE.xN{x:SE U}(h:∀s∈x.db,Z (A s)=s):(x.rn A).rn Z=x:=by
 cases x with
 |c v=>simp only[SE.rn,SV.xN (v:=v) h]
 |agg a=>
  simp only[SE.rn,ir];congr 1
  conv=>rhs;rw[<-En a]
  apply lc;intro v b;exact SV.xN λs Y=>h s (vk.2 ⟨v,b,Y⟩)
def aV.db:aV U->List Nat
 |.cells a=>a.flatMap SV.db
 |.hI _ _ v=>v.db
 |_=>[]
theorem aV.xN{b:aV U}(h:∀s∈b.db,Z (A s)=s):(b.rn A).rn Z=b:=by
 cases b with
 |cells a=>
  simp only[aV.rn,ir];congr 1
  conv=>rhs;rw[<-En a]
  apply lc;intro v c;exact SV.xN λs Y=>h s (vk.2 ⟨v,c,Y⟩)
 |aU k l=>rfl
 |lr e=>rfl
 |hI d i v=>exact aY (aV.hI d i) (SV.xN h)
def aV.Qw{b:aV U}{v:V}(c:v∈b.den)(Y:v.bK s):s∈b.db:=by
 cases b with
 |cells f=>simp only[aV.den,cj]at c;obtain⟨a,d,rfl⟩:=c;exact vk.2 ⟨a,d,by rw[<-SV.oD];exact V.oE Y⟩
 |aU k l=>exact(Dz c s Y).elim
 |lr h=>simp only[aV.den,dZ]at c;subst c;cases Y
 |hI e i a=>
  rcases Lz (show v∈jL e i a.den from c)with rfl|⟨u,rfl⟩
  ·show s∈a.db;rw[<-SV.oD];exact V.oE Y
  ·cases Y
def pq(a:Nat->Nat)(l:List (Nat×aV U)):List (Nat×aV U):=l.map λp=>(a p.1,p.2.rn a)
theorem P6(d:∀a b,Z a=Z b->a=b):∀(l:List (Nat×aV U)) (c:Nat),bX (pq Z l) (Z c)=(bX l c).map (aV.rn Z)
 |[],_=>rfl
 |(j,b)::r,c=>by
  simp only[pq,dc,bX];cases h:Nat.beq c j with
  |true=>rw[cO h];simp[HZ]
  |false=>
   have:Nat.beq (Z c) (Z j)=false:=by
    cases e:Nat.beq (Z c) (Z j)with
    |false=>rfl
    |true=>exact absurd (d _ _ (cO e)) (p9 h)
   rw[this];exact P6 d r c
theorem P7:∀{l:List (Nat×aV U)} {s:Nat} {b:aV U},bX (pq Z l) s=some b->∃c∈l.map (·.1),Z c=s
 |[],_,_,h=>by cases h
 |(j,b)::r,s,f,h=>by
  simp only[pq,dc,bX]at h;cases a:Nat.beq s (Z j)with
  |true=>exact⟨j,ai,(cO a).symm⟩
  |false=>rw[a]at h;obtain⟨c,d,e⟩:=P7 (l:=r) h;exact⟨c,by simp only[dc,dC];exact .inr d,e⟩
def qW:List Nat->Nat->Nat
 |[],_=>0
 |a::r,s=>match Nat.beq a s with|true=>0|false=>qW r s+1
def gm(R:au)(bV c:Nat):Nat:=match vL R c with|some s=>s|none=>bV+(c-R.length)
def Gu:List Nat->Bool
 |[]=>true
 |a::r=>!r.contains a&&Gu r
theorem C6:∀{R:au}{s:Nat},s∈R->R[qW R s]?=some s
 |[],s,h=>by simp at h
 |a::r,s,h=>by
  simp only[qW];cases b:Nat.beq a s with
  |true=>simp[cO b]
  |false=>
   have:s∈r:=by rcases dC.1 h with e|e;exact absurd e.symm (p9 b);exact e
   simpa using C6 this
def zn{bV:Nat}(h:s∈R):gm R bV (qW R s)=s:=by unfold gm;rw[qd,C6 h]
theorem ad7:∀{R:au},Gu R=true->∀(a b s:Nat),R[a]?=some s->R[b]?=some s->a=b
 |[],_,a,b,s,h,_=>by simp at h
 |x::r,e,a,b,s,d,c=>by
  simp only[Gu,dB,zX]at e;have f:∀i,r[i]?=some x->False:=λi k=>by have:=bF k;have j:r.contains x=true:=an this;rw[e.1]at j;cases j
  cases a with
  |zero=>
   cases b with
   |zero=>rfl
   |succ b=>simp only[jH,cY]at d;subst d;exact(f b (an c)).elim
  |succ a=>
   cases b with
   |zero=>simp only[jH,cY]at c;subst c;exact(f a (an d)).elim
   |succ b=>rw[ad7 e.2 a b s (an d) (an c)]
def aAe{bV:Nat}(f:Gu R=true)(d:∀s∈R,s<bV)(a b:Nat)(h:gm R bV a=gm R bV b):a=b:=by
 unfold gm at h;rw[qd,qd]at h;cases e:R[a]? with
 |some s=>
  rw[e]at h;cases c:R[b]? with
  |some t=>rw[c]at h;simp only at h;subst h;exact ad7 f a b s e c
  |none=>rw[c]at h;simp only at h;have:=d s (bF e);omega
 |none=>
  rw[e]at h;cases c:R[b]? with
  |some t=>rw[c]at h;simp only at h;have:=d t (bF c);omega
  |none=>rw[c]at h;simp only at h;rw[List.getElem?_eq_none_iff]at e c;omega
end
section
variable {P:ay}{U:gw}
structure f_(U:gw)where
 r:ST U
 heap:List (Nat×aV U)
 ms:List Nat
 wl:List Nat
structure fk(P:ay)(U:gw)where
 f:FuncId
 fX:fh P f
 run:List (Nat×aV U)->List (SE U)->(f_ U->Prop)->Prop
 ok:∀H args K,run H args K->∃out:f_ U,cN P f (bJ (bP H)) (args.map SE.den) (bJ (bP out.heap)) (λu=>u<H.length/\u∉out.ms) out.r.den/\(∀u,u<H.length->u∉out.wl->bJ (bP out.heap) u=bJ (bP H) u)/\K out
def FN:List (fk P U)->FuncId->Option (fk P U)
 |[],_=>none
 |c::r,f=>match Nat.beq c.f f with|true=>some c|false=>FN r f
theorem FO:∀{l:List (fk P U)} {f:FuncId} {c:fk P U},FN l f=some c->c.f=f
 |[],_,_,h=>by cases h
 |a::r,f,c,h=>by
  simp only[FN]at h;split at h
  ·rename_i e;injection h with h;subst h;exact cO e
  ·exact FO h
def LA(H:List (Nat×aV U)):Nat->List Nat->List Nat->List Nat
 |0,_,seen=>seen
 |_+1,[],seen=>seen
 |k+1,s::l,seen=>match seen.contains s with|true=>LA H k l seen|false=>LA H k ((match bX H s with|some b=>b.db|none=>[])++l) (seen++[s])
def Fe(a:Nat->Nat)(H:List (Nat×aV U)):Nat->List Nat->Option (List (Nat×aV U))
 |_,[]=>some []
 |i,s::r=>match bX H s,Fe a H (i+1) r with|some b,some l=>some ((i,b.rn a)::l)|_,_=>none
def Yb(m:Nat):List (Nat×aV U)->Nat
 |[]=>0
 |(c,_)::r=>max (c+1-m) (Yb m r)
def zb(a:au)(x:ST U):ST U:=match a.any (λs=>x.nm s)with|true=>.any|false=>x
def J7(a:au)(x:SV U):SV U:=match a.any (λs=>x.nm s)with|true=>.any|false=>x
def aV.Db(a:au):aV U->aV U
 |.cells d=>.cells (d.map (J7 a))
 |.hI c i v=>.hI c i (J7 a v)
 |b=>b
def xM(R a:au):List (Nat×aV U)->List (Nat×aV U)
 |[]=>[]
 |(j,b)::r=>match R.contains j with|true=>xM R a r|false=>(j,b.Db a)::xM R a r
def aw5(a:au)(x:ST U):(zb a x).den=si a x.den:=by
 unfold zb si;have:(a.any λs=>x.den.jJ s)=a.any λs=>x.nm s:=by congr 1;funext s;exact ST.pf s x
 rw[this];cases a.any λs=>x.nm s<;>rfl
def acH(a:au)(x:SV U):(J7 a x).den=mL a x.den:=by
 unfold J7 mL;have:(a.any λs=>x.den.jJ s)=a.any λs=>x.nm s:=by congr 1;funext s;exact SV.pf s x
 rw[this];cases a.any λs=>x.nm s<;>rfl
def aw_(a:au)(b:aV U):(b.Db a).den=b.den.map (mL a):=by
 cases b with
 |cells e=>simp only[aV.Db,aV.den,ir];apply lc;intro v _;exact acH a v
 |aU k l=>simp only[aV.Db,aV.den,ir];apply lc;intro v _;simp only[Function.comp,mL];rw[g (by simp[V.jJ])]
 |lr d=>simp only[aV.Db,aV.den,dc,gL,acF]
 |hI c i v=>exact(aY (jL c i) (acH a v)).trans (GQ (mL a) (λx=>by simp only[mL];rw[g (by simp[V.jJ])]) c i v.den).symm
theorem J0(R a:au):∀(l:List (Nat×aV U)) (u:Nat),u∉R->bX (xM R a l) u=(bX l u).map (aV.Db a)
 |[],_,_=>rfl
 |(j,b)::r,u,c=>by
  simp only[xM];cases d:R.contains j with
  |true=>
   have:Nat.beq u j=false:=by
    cases h:Nat.beq u j with
    |false=>rfl
    |true=>exact absurd (by rw[cO h];simpa using d) c
   simp only[bX,this];exact J0 R a r u c
  |false=>
   simp only[bX];cases h:Nat.beq u j with
   |true=>rfl
   |false=>exact J0 R a r u c
theorem JX:∀(l a:List (Nat×aV U)) (u:Nat),bX (l++a) u=match bX l u with|some b=>some b|none=>bX a u
 |[],_,_=>rfl
 |(j,b)::r,a,u=>by
  simp only[ei,bX];cases h:Nat.beq u j with
  |true=>rfl
  |false=>exact JX r a u
theorem Yt{H:List (Nat×aV U)}:∀{R:au} {i:Nat} {l:List (Nat×aV U)},Fe Z H i R=some l->l.length=R.length/\(∀c s,R[c]?=some s->∃b,bX H s=some b/\bX l (i+c)=some (b.rn Z))/\∀c,bX l c≠none->i<=c/\c<i+R.length
 |[],i,l,h=>by simp only[Fe,cY]at h;subst h;exact⟨rfl,λc s a=>by simp at a,λc a=>absurd rfl a⟩
 |s::r,i,l,h=>by
  simp only[Fe]at h;split at h
  ·rename_i b u d e;injection h with h;subst h
   obtain⟨f,j,k⟩:=Yt e;refine⟨by simp[f],λc t a=>?_,λc a=>?_⟩
   ·cases c with
    |zero=>simp only[jH,cY]at a;subst a;exact⟨b,d,by simp[bX,HZ]⟩
    |succ c=>
     obtain⟨m,p,q⟩:=j c t (an a);refine⟨m,p,?_⟩;simp only[bX];have:Nat.beq (i+(c+1)) i=false:=by
      cases h:Nat.beq (i+(c+1)) i with
      |false=>rfl
      |true=>have:=cO h;omega
     rw[this,show i+(c+1)=i+1+c by omega];exact q
   ·simp only[bX]at a;cases h:Nat.beq c i with
    |true=>rw[cO h];simp
    |false=>rw[h]at a;have:=k c a;simp only[fD];omega
  ·cases h
def LW(n:Nat)(ops:aw)(aN:au)(o:Oper)(σ:SS U)(c:fk P U)(f:List (SE U))(K:SS U->Ft->Prop):Prop:=
 let R:=LA σ.heap 1000 (f.flatMap SE.db) []
 match Fe (qW R) σ.heap 0 R,Gu R&&(R.all λs=>Nat.blt s σ.bV)&&(f.all λx=>x.db.all R.contains)&&(R.all λs=>match bX σ.heap s with|some b=>b.db.all R.contains|none=>true)&&nr n o.dst&&aN.all (λs=>Nat.blt s σ.bV)with
 |some H,true=>c.run H (f.map (SE.rn (qW R))) λa=>
  let e:=a.ms.map (gm R σ.bV)
  let N:=((a.heap.map (·.1)).filter λc=>Nat.ble R.length c).map (gm R σ.bV)
  match(a.ms.all λc=>Nat.blt c R.length)&&(e.all λs=>!aN.contains s)&&(N.all λs=>match bX σ.heap s with|some _=>false|none=>true)with
  |true=>K { aT:=(match o.dst with|some d=>(d,a.r.rn (gm R σ.bV))::σ.aT.map (λp=>(p.1,zb e p.2))|none=>σ.aT.map (λp=>(p.1,zb e p.2))),
             heap:=pq (gm R σ.bV) a.heap++xM R e σ.heap,bV:=σ.bV+Yb R.length a.heap}
    ⟨lk ops o++lu R,dl o++tm (e.flatMap λs=>zK s σ.aT)++lu ((a.wl.map (gm R σ.bV))++N++e.flatMap λs=>yK s σ.heap),e⟩
  |false=>False
 |_,_=>False
variable {V:bU P U}{n:Nat}{ops:aw}{aN:au}{o:Oper}{σ:SS U}{K:SS U→Ft→Prop}
theorem aar(a:au):∀(l:List (Nat×ST U)) (i:Nat),mk (jk (l.map λp=>(p.1,zb a p.2))) i=si a (mk (jk l) i)
 |[],i=>by simp only[gL,jk,mk,si];rw[g (by simp[T.jJ])]
 |(j,t)::r,i=>by
  have b:=aar a r i;simp only[jk,dc,mk]at b⊢;split
  ·exact aw5 a t
  ·exact b
theorem ahu{c:fk P U}{es:List (SE U)}(h:LW n ops aN o σ c es K)(hg:fF ops o σ.st)(hen:yg P o σ.st.ev c.f (es.map SE.den)):∃σ' f,lj P n ops o aN σ σ' f/\K σ' f:=by
 unfold LW at h;simp only at h;generalize hR:LA σ.heap 1000 (es.flatMap SE.db) []=R at h;split at h
 ·rename_i H hH hck;simp only[dB]at hck;obtain⟨⟨⟨⟨⟨k1,k2⟩,k3⟩,k4⟩,k5⟩,k6⟩:=hck;rw[eM]at k2 k3 k4 k6;have hlt:∀s∈R,s<σ.bV:=λs Y=>ic (k2 s Y)
  have G:=aAe (bV:=σ.bV) k1 hlt;obtain⟨a,hsat,hwl,h⟩:=c.ok _ _ _ h;split at h
  ·rename_i Z;simp only[dB]at Z;obtain⟨⟨l1,l2⟩,l3⟩:=Z;rw[eM]at l1 l2 l3;obtain⟨c1,c2,c3⟩:=Yt hH;have hnlt:∀s,¬s∈R->∀d,gm R σ.bV d=s->R.length<=d:=λs Y d m=>by
    rcases B8 d R.length with D|hge
    ·exfalso;apply Y;rw[<-m];unfold gm;rw[qd,ca D];exact rO _
    ·exact hge
   have M:∀d,d<R.length->gm R σ.bV d∈R:=λd m=>by unfold gm;rw[qd,ca m];exact rO _
   have hout:∀d,R.length<=d->gm R σ.bV d∉R:=λd m C=>by have:=hlt _ C;unfold gm at this;rw[qd,gp O]at this;simp only at this;omega
   have hargs:∀x∈es,(x.rn (qW R)).rn (gm R σ.bV)=x:=λx Q=>SE.xN λs Y=>by have:=k3 x Q;rw[eM]at this;exact zn (by simpa using this s Y)
   have hblk:∀s∈R,∀b,bX σ.heap s=some b->∀t∈b.db,t∈R:=λs Y b hb t ht=>by have:=k4 s Y;rw[hb]at this;simp only[eM]at this;simpa using this t ht
   have hsat2:cN P c.f (part σ.st.heap R) (es.map SE.den) (bJ (bP (pq (gm R σ.bV) a.heap))) (λu=>u∈R/\u∉a.ms.map (gm R σ.bV)) (a.r.rn (gm R σ.bV)).den:=by
    have:=cN.rename (K:=part σ.st.heap R) (K':=bJ (bP (pq (gm R σ.bV) a.heap))) (stay':=λu=>u∈R/\u∉a.ms.map (gm R σ.bV)) hsat (gm R σ.bV) G ?_ ?_ ?_ ?_ ?_
    ·rw[ST.qk];refine cast (aY (λz=>cN P c.f _ z _ _ _) ?_) this;rw[ir,ir];apply lc;intro x Q;simp only[Function.comp];rw[<-SE.qk,hargs x Q]
    ·intro d;rcases B8 d R.length with m|m
     ·have Y:R[d]?=some (gm R σ.bV d):=by unfold gm;rw[qd,ca m]
      obtain⟨b,q,L⟩:=c2 d _ Y;rw[oo]at L;simp only[part,aK (M d m)];rw[fZ,q,gz,L];simp only[dH,cY];rw[<-aV.qk,aV.xN λs hs'=>zn (hblk _ (M d m) b q s hs')]
     ·simp only[part,g (hout d m)];have:bX H d=none:=by
       cases e:bX H d with
       |none=>rfl
       |some b=>have:=c3 d (by rw[e];simp);omega
      rw[gz,this];rfl
    ·intro s Y;unfold part at Y;split at Y
     ·rename_i C;exact⟨qW R s,zn C⟩
     ·exact absurd rfl Y
    ·intro d;rw[gz,P6 G,gz];cases bX a.heap d with
     |none=>rfl
     |some b=>simp only[dH,aV.qk]
    ·intro s Y;rw[gz]at Y;cases e:bX (pq (gm R σ.bV) a.heap) s with
     |none=>rw[e]at Y;exact absurd rfl Y
     |some b=>obtain⟨d,_,m⟩:=P7 e;exact⟨d,m⟩
    ·rintro s ⟨B,h2⟩;refine⟨qW R s,zn B,?_,λC=>h2 (cj.2 ⟨_,C,zn B⟩)⟩;rw[c1];exact(dM.1 (C6 B)).1
   generalize hms:a.ms.map (gm R σ.bV)=A at*;generalize hN:((a.heap.map (·.1)).filter λc=>Nat.ble R.length c).map (gm R σ.bV)=N at*;have hmsR:∀s∈A,s∈R:=λs Y=>by rw[<-hms,cj]at Y;obtain⟨d,m,rfl⟩:=Y;exact M d (ic (l1 d m))
   have w:∀u∈N,σ.st.heap u=none:=λu hu=>by
    have:=l3 u hu;rw[fZ];split at this
    ·cases this
    ·rename_i e;rw[e];rfl
   have X:∀u,bJ (bP (pq (gm R σ.bV) a.heap)) u≠none->u∈R\/u∈N:=λu hu=>by
    rw[gz]at hu;cases e:bX (pq (gm R σ.bV) a.heap) u with
    |none=>rw[e]at hu;exact absurd rfl hu
    |some b=>
     obtain⟨d,m,rfl⟩:=P7 e;rcases B8 d R.length with D|hge
     ·exact .inl (M d D)
     ·refine .inr ?_;rw[<-hN,cj];exact⟨d,iZ.2 ⟨m,Nat.ble_eq_true_of_le hge⟩,rfl⟩
   have hpass:Ih P c.f σ.st.heap R N A (es.map SE.den) (bJ (bP (pq (gm R σ.bV) a.heap))) (a.r.rn (gm R σ.bV)).den:=by
    refine⟨hsat2,λx Q s Y=>?_,λu hu cs k x Q s Y=>?_,X,w⟩
    ·rw[cj]at Q;obtain⟨y,hy,rfl⟩:=Q;have:=k3 y hy;rw[eM]at this;simpa using this s (by rw[<-SE.oD];exact E.oE Y)
    ·rw[fZ,gM]at k;obtain⟨b,hb,rfl⟩:=k;exact hblk u hu b hb s (aV.Qw Q Y)
   have hkeep:∀u∈N,¬u∈aN:=λu hu hk=>by have B:u<σ.bV:=ic (k6 u hk);rw[<-hN,cj]at hu;obtain⟨d,m,rfl⟩:=hu;have h2:=ic (iZ.1 m).2;unfold gm at B;rw[qd,gp O]at B;simp only at B;omega
   have hsq:=SQ.Oi (P:=P) (n:=n) (aS:=(·∈aN)) (ops:=ops) (o:=o) (W:=a.wl.map (gm R σ.bV)) (ts:=A.flatMap λs=>zK s σ.aT) (us:=A.flatMap λs=>yK s σ.heap) hg hpass
    (λu hu hk=>by have:=l2 u hu;rw[zX]at this;exact nk this hk) hkeep (ns k5) hen ?_ ?_ ?_
   ·refine⟨_,_,⟨?_,λs Y l hl v=>?_⟩,h⟩
    ·refine cast (aY (λz=>SQ P n (·∈aN) ops o σ.st z _) ?_) hsq;unfold vv;have henv:((⟨λi=>si A (σ.st.aT i),σ.st.heap⟩:St).put o.dst (a.r.rn (gm R σ.bV)).den).aT=mk (jk (match o.dst with|some d=>(d,a.r.rn (gm R σ.bV))::σ.aT.map (λp=>(p.1,zb A p.2))|none=>σ.aT.map (λp=>(p.1,zb A p.2)))):=by
      have e0:(λi=>si A (σ.st.aT i))=mk (jk (σ.aT.map λp=>(p.1,zb A p.2))):=by funext i;rw[aar];rfl
      cases o.dst with
      |none=>simp only[St.put];exact e0
      |some d=>simp only[St.put,e0];rfl
     unfold SS.st;simp only;congr 1;funext u;rw[gz (pq (gm R σ.bV) a.heap++xM R A σ.heap) u,JX];by_cases hu:u∈R\/u∈N
     ·rw[aK hu,gz];cases e:bX (pq (gm R σ.bV) a.heap) u with
      |some b=>rfl
      |none=>
       simp only[Ex]
       symm
       rcases hu with hu|hu
       ·have:bX (xM R A σ.heap) u=none:=by
         have key:∀l:List (Nat×aV U),bX (xM R A l) u=none:=λl=>by
          induction l with
          |nil=>rfl
          |cons p r ih=>
           obtain⟨j,b⟩:=p;simp only[xM];cases hj:R.contains j with
           |true=>exact ih
           |false=>
            simp only[bX];cases h2:Nat.beq u j with
            |true=>rw[cO h2]at hu;have:R.contains j=true:=by simpa using hu
                   rw[hj]at this;cases this
            |false=>exact ih
         exact key _
        rw[this];rfl
       ·have B:=w u hu;rw[fZ]at B;have h2:bX σ.heap u=none:=an B;have h3:u∉R:=λC=>by obtain⟨b,hb,_⟩:=c2 _ _ (C6 C);rw[h2]at hb;cases hb
        rw[J0 _ _ _ _ h3,h2];rfl
     ·rw[g hu];have B:bX (pq (gm R σ.bV) a.heap) u=none:=by
       cases e:bX (pq (gm R σ.bV) a.heap) u with
       |none=>rfl
       |some b=>exact absurd (X u (by rw[gz,e];simp)) hu
      rw[B];simp only;rw[J0 _ _ _ _ (λC=>hu (.inl C)),gz];cases bX σ.heap u with
      |none=>rfl
      |some b=>simp only[dH,aw_]
    ·simp only[dd,not_or]at hl;unfold St.at at v;split at v
     ·rename_i e0;have e1:l=2*(l/2):=O;have v:(σ.st.aT (l/2)).bK s:=v;rw[pG,<-T.nB,ST.pf]at v;apply hl.1.2;rw[e1,xz];exact vk.2 ⟨s,Y,(Hd s σ.aT _).2 v⟩
     ·rename_i e0;have e1:l=2*(l/2)+1:=O;apply hl.2;rw[e1,qZ];cases k:σ.st.heap (l/2)with
      |none=>rw[k]at v;cases v
      |some cs'=>rw[k]at v;rw[fZ,gM]at k;obtain⟨b,q,rfl⟩:=k;exact dd.2 (.inr (vk.2 ⟨s,Y,E0 _ _ _ b q v⟩))
   ·intro u hu hw;have e1:bJ (bP (pq (gm R σ.bV) a.heap)) u=(bJ (bP a.heap) (qW R u)).map (List.map (V.rn (gm R σ.bV))):=by
     rw[gz,gz];have:=P6 G a.heap (qW R u);rw[zn hu]at this;rw[this];cases bX a.heap (qW R u)with
     |none=>rfl
     |some b=>simp only[dH,aV.qk]
    have m:qW R u<R.length:=(dM.1 (C6 hu)).1;rw[e1,hwl (qW R u) (by rw[c1];exact m) (λC=>hw (cj.2 ⟨_,C,zn hu⟩))];obtain⟨b,q,L⟩:=c2 _ _ (C6 hu);rw[oo]at L;rw[gz,L,fZ,q];simp only[dH,cY];rw[<-aV.qk,aV.xN λs hs'=>zn (hblk _ hu b q s hs')]
   ·intro i hi hts s Y v;apply hts;rw[pG,<-T.nB,ST.pf]at v;exact vk.2 ⟨s,Y,(Hd s σ.aT _).2 v⟩
   ·intro u _ _ hus s Y cs k v;apply hus;rw[fZ,gM]at k;obtain⟨b,q,rfl⟩:=k;exact vk.2 ⟨s,Y,E0 _ _ _ b q v⟩
  ·cases h
 ·cases h
structure jT(P:ay)(U:gw)where
 ps:List (Ct P U)
 os:List (fk P U)
end
section
variable {P:ay}{U:gw}
def Ga:List (SV U)->Option (List Value)
 |[]=>some []
 |.d (.sc v)::r=>(match Ga r with|some l=>some (v::l)|none=>none)
 |_::_=>none
def Gb:ST U->Option Value
 |.e (.c (.d (.sc v)))=>some v
 |.e (.agg a)=>(match Ga a with|some l=>some (.agg l.toArray)|none=>none)
 |_=>none
theorem acA:∀{e:List (SV U)} {l:av},Ga e=some l->gl (e.map SV.den)=some l
 |[],l,h=>by simp only[Ga,cY]at h;subst h;rfl
 |v::r,l,h=>by
  unfold Ga at h;split at h
  ·rename_i d;cases d
  ·rename_i x f d;injection d with c b;subst c;subst b
   split at h
   ·rename_i i a;injection h with h;subst h
    simp only[dc,SV.den,SD.den,gl,acA a,dH]
   ·cases h
  ·cases h
def Qv{x:ST U}{k:Value}(h:Gb x=some k):y_ x.den=some k:=by
 unfold Gb at h;split at h
 ·injection h with h;subst h;rfl
 ·split at h
  ·rename_i l a;injection h with h;subst h
   simp only[ST.den,SE.den,y_,acA a,dH]
  ·cases h
 ·cases h
def Tt(n:Nat)(ops:aw)(aN:au)(o:Oper)(σ:SS U)(K:SS U->Ft->Prop):Prop:=
 match nr n o.dst,bX σ.heap σ.bV,aN.contains σ.bV with
 |true,none,false=>K { σ.put o.dst (.e (.c (.mp σ.bV)))with heap:=(σ.bV,.lr [])::σ.heap,bV:=σ.bV+1} ⟨lk ops o,(2*σ.bV+1)::dl o,[]⟩
 |_,_,_=>False
def Tn(V:bU P U)(n:Nat)(ops:aw)(o:Oper)(σ:SS U)(t:TypeId)(x y:ax)(K:SS U->Ft->Prop):Prop:=
 match V.Gl t,σ.ev x,Gb (σ.ev y),nr n o.dst with
 |some m,.e (.c (.mp s)),some k,true=>
  (match bX σ.heap s,m.z with
   |some (.lr b),.int a z=>ib m.kf k=true/\pd m.kf b=true/\b.all (λp=>nw a p.2)=true/\
     (∀(i:Nat)(q:Int),gX k b 0=some (i,.int a q)->K (σ.put o.dst (.cn [.c (.d (.sc (.int a q))),.c (.d (.sc (.bool true)))])) ⟨(2*s+1)::lk ops o,dl o,[]⟩)/\
     (gX k b 0=none->K (σ.put o.dst (.cn [.c (.d (.sc (.int a z))),.c (.d (.sc (.bool false)))])) ⟨(2*s+1)::lk ops o,dl o,[]⟩)
   |_,_=>False)
 |_,_,_,_=>False
def Tu(V:bU P U)(ops:aw)(o:Oper)(σ:SS U)(t:TypeId)(x y z:ax)(K:SS U->Ft->Prop):Prop:=
 match o.dst,V.Gl t,σ.ev x,Gb (σ.ev y),σ.ev z with
 |none,some m,.e (.c (.mp s)),some k,.e (.c (.d (.sc v)))=>
  (match bX σ.heap s with
   |some (.lr a)=>ib m.kf k=true/\pd m.kf a=true/\K { σ with heap:=sG σ.heap s (.lr (tG k v a))} ⟨lk ops o,(2*s+1)::dl o,[]⟩
   |_=>False)
 |_,_,_,_,_=>False
variable {V:bU P U}{n:Nat}{ops:aw}{aN:au}{o:Oper}{σ:SS U}{K:SS U→Ft→Prop}
def aE6(h:Tt n ops aN o σ K)(b:fF ops o σ.st)(c:o.op=.makeMap t none):∃a f,lj P n ops o aN σ a f/\K a f:=by
 unfold Tt at h;split at h
 ·rename_i d e i;refine⟨_,_,⟨?_,λs Y=>by simp at Y⟩,h⟩;rw[adU];exact SQ.makeMap b t c σ.bV (ns d) (nk i) (by rw[fZ,e];rfl)
 ·cases h
def aEN(h:Tn V n ops o σ t x y K)(j:fF ops o σ.st)(l:o.op=.lookup t x y true):∃b f,lj P n ops o aN σ b f/\K b f:=by
 unfold Tn at h;split at h
 ·rename_i m s k r u w A;split at h
  ·rename_i d M z Y B;obtain⟨C,D,e,E,G⟩:=h;have a:=SQ.lookup (P:=P) (n:=n) (aS:=(·∈aN)) j t x y true l m (V.KL _ _ r) s d k (by rw[c8,u];rfl) (by rw[c8];exact Qv w) (by rw[fZ,Y];rfl) C D (ns A);rw[aK rfl]at a;cases hf:gX k d 0 with
   |none=>refine⟨_,_,⟨?_,λs Y=>by simp at Y⟩,G hf⟩;rw[n5];simp only[jB,hf,B]at a;exact a
   |some p=>obtain⟨i,v⟩:=p;obtain⟨q,H,L⟩:=Kx hf;rw[eM]at e;have c:=e q H;rw[L]at c;cases v<;>simp only[nw,iN,be]at c;subst c;refine⟨_,_,⟨?_,λs Y=>by simp at Y⟩,E i _ hf⟩;rw[n5];simp only[jB,hf]at a;exact a
  ·cases h
 ·cases h
def aE7{z:ax}(h:Tu V ops o σ t x y z K)(b:fF ops o σ.st)(c:o.op=.mapUpdate t x y z):∃a f,lj P n ops o aN σ a f/\K a f:=by
 unfold Tu at h;split at h
 ·rename_i m s k v d e i j l;split at h
  ·rename_i p Y;obtain⟨q,r,u⟩:=h;refine⟨_,_,⟨?_,λs Y=>by simp at Y⟩,u⟩;rw[LY _ _ _ _ Y];exact SQ.mapUpdate (P:=P) (n:=n) (aS:=(·∈aN)) b t x y z c d m (V.KL _ _ e) s p k v (by rw[c8,i];rfl) (by rw[c8];exact Qv j) (by rw[c8,l];rfl) (by rw[fZ,Y];rfl) q r
  ·cases h
 ·cases h
end
