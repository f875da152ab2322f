/- Part of VirtualWitness. No condition. -/
import Derived.Test.YtfbmhjooliccnaaGreatDoorYe
set_option linter.all false
set_option maxRecDepth 100000
set_option maxHeartbeats 60000000
noncomputable section
namespace Go.Ab
open Go Go.RowKit
variable {Z:List (Nat×Option Nat)}{s d e m:Nat}{t u:TypeId}{x y:ax}{c w v:Code}{X:aw}{U:au}{R:Prop}{Q:Exit→Act→World→Prop}{K:St→Prop}{P:ay}{f:FuncId}{N:Nat→Option Nat}{M:List Ab.V}{l r:List Oper}{L:List ResultVar}{H:Nat→Prop}{C:lI}{B:Func}{o:Oper}{A:St}{z:dY}
section
variable {P:ay}{U:gw}
def Tb(V:bU P U)(n:Nat)(ops:aw)(o:Oper)(σ:SS U)(x y:ax)(t:TypeId)(K:SS U->Ft->Prop):Prop:=
 match σ.ev x with
 |.e (.c (.sub s k1 b a))=>
  (match V.ty t,nr n o.dst with
   |some h,true=>
    (match h.sl with
     |some e=>(match V.ty e,V.aM e with
      |some _,some k=>(match bX σ.heap s,Nat.beq (U.w k1) (U.w k)with
       |some (.aU k2 f),true=>(match V.cast k k2 f with
        |some f=>b+a<=f.length/\DQ V k σ (σ.ev y) λl=>K { σ.put o.dst (.e (.c (.d (.sc (.int .i64 (min l.length a:Nat))))))with heap:=sG σ.heap s (.aU k (f.take b++l.take a++f.drop (b+min l.length a)))} ⟨lk ops o++lu (uN (σ.ev y)),(2*s+1)::dl o,[]⟩
        |none=>False)
       |_,_=>False)
      |_,_=>False)
     |none=>False)
   |_,_=>False)
 |_=>Ta V n ops o σ x y t K
variable {V:bU P U}{n:Nat}{ops:aw}{aN:au}{o:Oper}{σ:SS U}{K:SS U→Ft→Prop}
theorem aEa(h:Tb V n ops o σ x y t K)(w:fF ops o σ.st)(A:o.op=.call { callee:=.builtin .copy,args:=#[x,y],argTypes:=#[t,u]}):∃j f,lj P n ops o aN σ j f/\K j f:=by
 unfold Tb at h;split at h
 case h_2=>exact aEb h w A
 rename_i s k1 i b G;split at h
 ·rename_i ti H L;split at h
  ·rename_i e M;split at h
   ·rename_i te k N Q;split at h
    ·rename_i k2 q Y R;split at h
     ·rename_i l0 T;obtain⟨r,h⟩:=h;obtain⟨l,e1,h,e2⟩:=Ma h;have T1:=V.gg _ _ H;have B:=V.gg _ _ N;have C:=V.za _ _ Q;rw[B.sz,cY]at C;have X:=V.sa _ _ _ _ T;have e3:bx k2 q=bx k l0:=by unfold bx;rw[X.1]
      have v:σ.st.heap s=some ((bx k l0).map .d):=by rw[fZ,Y];simp only[dH,aV.den,e3]
      refine⟨_,_,⟨?_,λs Y=>by simp at Y⟩,h⟩
      have:=SQ.copy (P:=P) (n:=n) (aS:=(·∈aN)) w x y t u A s (U.w k) (i*U.w k) b ((bx k l0).map .d) ((bx k l).map .d) l.length (by rw[c8,G,<-cO R];rfl) v (by rw[dS,mf V,<-jS];exact jI _ r) (by rw[c8,e1])
       e (by rw[T1.sl,M]) (by rw[B.sz,C]) (ns L) (uN (σ.ev y)) (λa Z=>e2 a (by rw[<-c8];exact Z))
      refine cast (aY (λz=>SQ P n (·∈aN) ops o σ.st z _) ?_) this;have hh:(σ.put o.dst (.e (.c (.d (.sc (.int .i64 (min l.length b:Nat))))))).heap=σ.heap:=by cases o.dst<;>rfl
      have D:=n5 σ o.dst (.e (.c (.d (.sc (.int .i64 (min l.length b:Nat))))));unfold SS.st at D⊢;simp only;congr 1
      ·have:=aY St.aT D;exact this.symm
      ·funext a;rw[gz (sG σ.heap s _) a,J1 _ _ _ _ _ Y];simp only[cX];split
       ·simp only[dH,aV.den,cY];have E:=AU V k l 0 (min l.length b);simp only[H7,rK]at E;have dr:∀m,m<=l0.length->(bx k l0).drop (m*U.w k)=bx k (l0.drop m):=λm hm=>by have:=AU V k l0 m l0.length;rw[eQ (by rw[qC,mf V,<-Nat.sub_mul];exact jI _ O),eQ ai]at this;exact this
        have tk:(bx k l0).take (i*U.w k)=bx k (l0.take i):=by have:=AU V k l0 0 i;simpa using this
        unfold kL;rw[<-uh,<-uh,E,tk];have e7:((bx k (l.take (min l.length b))).map Ab.V.d).length=min l.length b*U.w k:=by rw[dS,mf V,ez];congr 1;omega
        rw[e7,<-jS,<-vj,dr _ O,<-gB,<-gB,<-C3,<-C3];congr 3;by_cases p:l.length<=b
        ·rw[ju p,eQ p,eQ (bu _)]
        ·rw[Nat.min_eq_right O]
       ·rw[gz]
     ·cases h
    ·cases h
   ·cases h
  ·cases h
 ·cases h
def Od:Value->Bool
 |.bool _=>true
 |_=>false
def To(V:bU P U)(n:Nat)(ops:aw)(o:Oper)(σ:SS U)(t:TypeId)(x y:ax)(K:SS U->Ft->Prop):Prop:=
 match V.Gl t,σ.ev x,Gb (σ.ev y),nr n o.dst with
 |some m,.e (.c (.mp s)),some k,true=>
  (match bX σ.heap s,m.z with
   |some (.lr a),.bool z=>ib m.kf k=true/\pd m.kf a=true/\a.all (λp=>Od p.2)=true/\
     (∀b:Bool,(jB (.bool z) k a).1=.bool b->K (σ.put o.dst (.e (.c (.d (.b8 b))))) ⟨(2*s+1)::lk ops o,dl o,[]⟩)
   |_,_=>False)
 |_,_,_,_=>False
theorem aEM(h:To V n ops o σ t x y K)(p:fF ops o σ.st)(r:o.op=.lookup t x y false):∃c f,lj P n ops o aN σ c f/\K c f:=by
 unfold To at h;split at h
 ·rename_i m s k u w A B;split at h
  ·rename_i e z Y C;obtain⟨D,E,j,G⟩:=h;have a:=SQ.lookup (P:=P) (n:=n) (aS:=(·∈aN)) p t x y false r m (V.KL _ _ u) s e k (by rw[c8,w];rfl) (by rw[c8];exact Qv A) (by rw[fZ,Y];rfl) D E (ns B);rw[g ae,C]at a;have d:∃b,(jB (.bool z) k e).1=.bool b:=by
    unfold jB;split
    ·rename_i i v hf;obtain⟨q,H,L⟩:=Kx hf;rw[eM]at j;have l:=j q H;rw[L]at l;cases v<;>simp only[Od,iN]at l;exact⟨_,rfl⟩
    ·exact⟨z,rfl⟩
   obtain⟨b,d⟩:=d;refine⟨_,_,⟨?_,λs Y=>by simp at Y⟩,G b d⟩;rw[n5];rw[d]at a;exact a
  ·cases h
 ·cases h
def TC(V:bU P U)(n:Nat)(ops:aw)(o:Oper)(σ:SS U)(t:TypeId)(x:ax)(f:Option Operand)(i d:ax)(K:SS U->Ft->Prop):Prop:=
 match V.ty t,vR (σ.ev x),yL σ f,nA (σ.ev i),nA (σ.ev d),nr n o.dst with
 |some b,some _,some h,some a,some m,true=>
  (match b.sl with
   |some e=>(match V.ty e with
    |some c=>m=a/\L5 c.sz h (some a) (σ.ev x) λr=>fT r λr=>K (σ.put o.dst r) ⟨lk ops o,dl o,[]⟩
    |none=>False)
   |none=>False)
 |_,_,_,_,_,_=>False
theorem aFj{x:ax}{i:Option Operand}{d:ax}(h:TC V n ops o σ t x i y d K)(q:fF ops o σ.st)(u:o.op=.slice t x i (some y) (some d)):∃c f,lj P n ops o aN σ c f/\K c f:=by
 unfold TC at h;split at h
 ·rename_i v j T X m w k z A B C;split at h
  ·rename_i e D;split at h
   ·rename_i l E;obtain⟨rfl,h⟩:=h;have G:=V.gg _ v w;obtain⟨a,b,r,H,L,⟨rfl,rfl⟩,M,p⟩:=ah4 V k h;refine⟨_,_,⟨?_,λs Y=>by simp at Y⟩,JH (K:=λr=>K (σ.put o.dst r) _) L⟩;rw[n5];have N:=E2 z 0 M;have Q:=E2 (σ:=σ) (x:=some y) (r:=some m) (by simp only[yL,A]) j p;have R:=E2 (σ:=σ) (x:=some d) (r:=some m) (by simp only[yL,B]) j p;refine SQ.pure q (afu t x i (some y) (some d) u e l.sz j _ _ _ (by rw[G.sl,D]) (V.gg _ l E).sz (by rw[c8];exact QF k) Q N (.inr ⟨ai,ai,R⟩) (by rw[c8];exact H)) (ns C)
   ·cases h
  ·cases h
 ·cases h
theorem age{U:gw}(a:av):∀m,((List.replicate m (a.map λv=>(SV.d (.sc v):SV U))).flatten).map SV.den=nD m (a.map λv=>Ab.V.d (.sc v))
 |0=>rfl
 |m+1=>by have b:=age (U:=U) a m;unfold nD at b⊢;rw[rR,rR,Af,Af,gB,b];congr 1;rw[ir];rfl
def L6(Cv:TypeId->Option U.K)(V:bU P U)(n:Nat)(ops:aw)(aN:au)(o:Oper)(σ:SS U)(t:TypeId)(f h:ax)(K:SS U->Ft->Prop):Prop:=
 match V.ty t,nA (σ.ev f),nA (σ.ev h)with
 |some i,some l,some c=>
  (match i.sl with
   |some e=>(match Cv e with
    |some k=>(match V.ty e with
     |some a=>(match a.zs,Nat.beq a.sz (U.w k)with
      |some b,true=>(match Nat.beq b.length a.sz with
       |true=>∃m:Nat,l=(m:Int)/\l=c/\a.dT*m<=281474976710656/\l<=281474976710656/\zD n ops aN o σ (.cells ((List.replicate m (b.map λv=>.d (.sc v))).flatten)) (.e (.c (.aW σ.bV k m))) K
       |false=>False)
      |_,_=>False)
     |none=>False)
    |none=>Ts V n ops aN o σ t f h K)
   |none=>False)
 |_,_,_=>False
theorem ah_{Cv:TypeId->Option U.K}(h:L6 Cv V n ops aN o σ t x y K)(p:fF ops o σ.st)(q:o.op=.makeSlice t x y):∃a f,lj P n ops o aN σ a f/\K a f:=by
 unfold L6 at h;split at h
 ·rename_i R l c s u w;split at h
  ·rename_i e z;split at h
   ·rename_i k T;split at h
    ·rename_i A B;split at h
     ·rename_i b C r;split at h
      ·rename_i i;obtain⟨m,rfl,rfl,D,X,h⟩:=h;have E:=V.gg _ _ s;have j:=V.gg _ _ B;obtain⟨G,H⟩:=KV u;obtain⟨L,M⟩:=KV w
       have:=NV (P:=P) (o:=o) (ev:=σ.st.ev) t x y q σ.bV e (U.w k) A.dT (b.map λv=>.d (.sc v)) m G L (by rw[E.sl,z]) (by rw[j.sz,cO r]) j.dT (j.zs _ C) (by rw[dS,cO i,cO r])
        (by rw[c8,H]) (by rw[c8,M]) D O
       have N:(ST.e (U:=U) (.c (.aW σ.bV k m))).den=.e (.c (.sub σ.bV (U.w k) 0 m)):=rfl;refine DN h p (nD m (b.map λv=>.d (.sc v))) (by rw[N];exact this) ?_;have Q:(aV.cells (U:=U) ((List.replicate m (b.map λv=>.d (.sc v))).flatten)).den=nD m (b.map λv=>.d (.sc v)):=by exact age b m
       rw[Q];exact lF.refl _
      ·cases h
     ·cases h
    ·cases h
   ·exact aE4 h p q
  ·cases h
 ·cases h
def Tk(V:bU P U)(n:Nat)(ops:aw)(o:Oper)(σ:SS U)(t:TypeId)(x f:ax)(K:SS U->Ft->Prop):Prop:=
 match σ.ev x with
 |.e (.c (.aW s k a))=>
  (match bX σ.heap s with
   |some (.cells _)=>(match V.ty t,nA (σ.ev f),nr n o.dst with
    |some b,some i,true=>(match b.sl with
     |some e=>(match V.ty e with
      |some d=>(match Nat.beq (U.w k) d.sz with
       |true=>0<=i/\i<(a:Int)/\G_ i (λm=>K (σ.put o.dst (.e (.c (.ptr s (m*U.w k))))) ⟨lk ops o,dl o,[]⟩) a
       |_=>False)
      |none=>False)
     |none=>False)
    |_,_,_=>False)
   |some (.hI _ _ _)=>(match V.ty t,nA (σ.ev f),nr n o.dst with
    |some b,some i,true=>(match b.sl with
     |some e=>(match V.ty e with
      |some d=>(match Nat.beq (U.w k) d.sz with
       |true=>0<=i/\i<(a:Int)/\K (σ.put o.dst (.e (.c (.ptr s (i.toNat*U.w k))))) ⟨lk ops o,dl o,[]⟩
       |_=>False)
      |none=>False)
     |none=>False)
    |_,_,_=>False)
   |_=>xT V n ops o σ K)
 |_=>xT V n ops o σ K
theorem aEH(h:Tk V n ops o σ t x y K)(p:fF ops o σ.st)(q:o.op=.indexAddr t x y):∃d f,lj P n ops o aN σ d f/\K d f:=by
 unfold Tk at h;split at h
 ·rename_i s k N M;split at h
  ·split at h
   ·rename_i Q i u v w;split at h
    ·rename_i e z;split at h
     ·rename_i R A;split at h
      ·rename_i b;obtain⟨B,C,h⟩:=h;have D:=L_ (m:=i.toNat) h O O;have E:Bt V t (σ.ev x) i (λr=>r=.e (.c (.jN s k i.toNat 0))):=by unfold Bt;rw[u];simp only[z,A,M];rw[b];exact⟨B,C,aZ⟩
       obtain⟨r,j,rfl⟩:=Tl V v E;have G:(ST.e (U:=U) (.c (.jN s k i.toNat 0))).den=(ST.e (U:=U) (.c (.ptr s (i.toNat*U.w k)))).den:=by simp only[ST.den,SE.den,SV.den,sV]
       rw[G]at j;refine⟨_,_,⟨?_,λs Y=>by simp at Y⟩,D⟩;rw[n5];rcases RJ (o:=o) (σ:=σ.st) (by rw[q];exact j)with H|⟨T,X,Z,l,L,a,_⟩
       ·exact SQ.pure p H (ns w)
       ·rw[q]at a;cases a
      ·cases h
     ·cases h
    ·cases h
   ·cases h
  ·split at h
   ·rename_i Q i u v w;split at h
    ·rename_i e z;split at h
     ·rename_i R A;split at h
      ·rename_i b;obtain⟨B,C,D⟩:=h;have E:Bt V t (σ.ev x) i (λr=>r=.e (.c (.jN s k i.toNat 0))):=by unfold Bt;rw[u];simp only[z,A,M];rw[b];exact⟨B,C,aZ⟩
       obtain⟨r,j,rfl⟩:=Tl V v E;have G:(ST.e (U:=U) (.c (.jN s k i.toNat 0))).den=(ST.e (U:=U) (.c (.ptr s (i.toNat*U.w k)))).den:=by simp only[ST.den,SE.den,SV.den,sV]
       rw[G]at j;refine⟨_,_,⟨?_,λs Y=>by simp at Y⟩,D⟩;rw[n5];rcases RJ (o:=o) (σ:=σ.st) (by rw[q];exact j)with H|⟨T,X,Z,l,L,a,_⟩
       ·exact SQ.pure p H (ns w)
       ·rw[q]at a;cases a
      ·cases h
     ·cases h
    ·cases h
   ·cases h
  ·exact Bx h p
 ·exact Bx h p
end
section
variable {P:ay}{U:gw}
def Sr:ST U->ST U->Option Bool
 |.e (.c (.ptr s o)),.e (.c (.ptr a b))=>(match Nat.beq s a,Nat.beq o b with|true,true=>some true|_,_=>none)
 |.e (.c (.ptr _ _)),.e (.c (.d (.sc (.pointer none))))=>some false
 |.e (.c (.d (.sc (.pointer none)))),.e (.c (.ptr _ _))=>some false
 |.e (.c (.d (.sc (.pointer none)))),.e (.c (.d (.sc (.pointer none))))=>some true
 |_,_=>none
def aBU{x y:ST U}{b:Bool}(h:Sr x y=some b):Lr x.den y.den=some b:=by
 unfold Sr at h;split at h
 ·split at h
  ·rename_i a c;rw[<-h];show(if _/\_ then some true else none)=_;rw[aK ⟨cO a,cO c⟩]
  ·cases h
 ·exact h
 ·exact h
 ·exact h
 ·cases h
def TA(V:bU P U)(n:Nat)(ops:aw)(o:Oper)(σ:SS U)(b:BinOp)(t:TypeId)(x y:ax)(K:SS U->Ft->Prop):Prop:=
 match Sr (σ.ev x) (σ.ev y)with
 |some r=>(match b,nr n o.dst with
  |.eql,true=>NA P t/\K (σ.put o.dst (.e (.c (.d (.sc (.bool r)))))) ⟨lk ops o,dl o,[]⟩
  |.neq,true=>NA P t/\K (σ.put o.dst (.e (.c (.d (.sc (.bool (!r))))))) ⟨lk ops o,dl o,[]⟩
  |_,_=>False)
 |none=>xT V n ops o σ K
def S_(V:bU P U)(n:Nat)(ops:aw)(o:Oper)(σ:SS U)(t u:TypeId)(x:ax)(K:SS U->Ft->Prop):Prop:=
 match σ.ev x with
 |.e (.c (.ty s a (.inl m)))=>(match nr n o.dst with
  |true=>Hz P t u a m/\K (σ.put o.dst (.e (.c (.ty s a (.inl m))))) ⟨lk ops o,dl o,[]⟩
  |false=>False)
 |_=>xT V n ops o σ K
def Te(n:Nat)(ops:aw)(o:Oper)(σ:SS U)(Z:FuncId)(a:List Operand)(K:SS U->Ft->Prop):Prop:=
 match a,nr n o.dst with
 |[x],true=>M2 P Z/\K (σ.put o.dst (σ.ev x)) ⟨lk ops o,dl o,[]⟩
 |_,_=>False
variable {V:bU P U}{n:Nat}{ops:aw}{aN:au}{o:Oper}{σ:SS U}{K:SS U→Ft→Prop}
theorem aFi{b:BinOp}(h:TA V n ops o σ b t x y K)(c:fF ops o σ.st)(m:o.op=.binOp b t x y u):∃a f,lj P n ops o aN σ a f/\K a f:=by
 unfold TA at h;split at h
 ·rename_i r p;have e:=aBU p;rw[<-c8,<-c8]at e;split at h
  ·rename_i d;obtain⟨⟨i,j,k,l⟩,h⟩:=h;refine⟨_,_,⟨?_,λs Y=>by simp at Y⟩,h⟩;rw[n5];have:=aft (P:=P) (o:=o) t x y u false (an m) i j k l r e;rw[show(r !=false)=r by cases r<;>rfl]at this;exact SQ.pure c this (ns d)
  ·rename_i d;obtain⟨⟨i,j,k,l⟩,h⟩:=h;refine⟨_,_,⟨?_,λs Y=>by simp at Y⟩,h⟩;rw[n5];have:=aft (P:=P) (o:=o) t x y u true (an m) i j k l r e;rw[show(r !=true)=!r by cases r<;>rfl]at this;exact SQ.pure c this (ns d)
  ·cases h
 ·exact Bx h c
theorem aD_(h:S_ V n ops o σ t u x K)(b:fF ops o σ.st)(c:o.op=.convert t u x):∃a f,lj P n ops o aN σ a f/\K a f:=by
 unfold S_ at h;split at h
 ·rename_i s d m e;split at h
  ·rename_i i;obtain⟨j,h⟩:=h;refine⟨_,_,⟨?_,λs Y=>by simp at Y⟩,h⟩;rw[n5];exact SQ.pure b (aB3 t u x c s d m (by rw[c8,e];rfl) j) (ns i)
  ·cases h
 ·exact Bx h b
def aEk{a:FuncId}{args:Array Operand}{c:Array TypeId}(h:Te (P:=P) n ops o σ a args.toList K)(d:fF ops o σ.st)(i:o.op=.call { callee:=.value (.func a),args:=args,argTypes:=c}):∃b f,lj P n ops o aN σ b f/\K b f:=by
 unfold Te at h;split at h
 ·rename_i x j k;obtain⟨l,h⟩:=h;have e:args=#[x]:=by apply mW;simpa using j
  subst e;refine⟨_,_,⟨?_,λs Y=>by simp at Y⟩,h⟩;rw[n5,<-c8];exact SQ.pure d (aB4 a x c i l) (ns k)
 ·cases h
end
section
variable {P:ay}{U:gw}
def S7(V:bU P U)(n:Nat)(ops:aw)(aN:au)(o:Oper)(σ:SS U)(t:TypeId)(a:Nat)(parts:Array (Nat×Operand))(K:SS U->Ft->Prop):Prop:=
 match V.ty t with
 |some d=>(match d.sl with
  |some e=>(match V.ty e,V.aM e with
   |some b,some k=>(match b.zs,Nat.beq parts.size a,Nat.ble 1 a,Nat.ble (a*b.sz) 16777216,Dm V k σ.ev 0 parts.toList with
    |some _,true,true,true,some l=>zD n ops aN o σ (.aU k l) (.e (.c (.aW σ.bV k a))) K
    |_,_,_,_,_=>False)
   |_,_=>False)
  |none=>False)
 |none=>False
def RS(reg:jT P U)(o:Oper):Bool:=match o.dst with|some d=>(AR reg.ps (1000000+d)).isSome|none=>false
def S6(V:bU P U)(n:Nat)(ops:aw)(o:Oper)(σ:SS U)(t:TypeId)(x:ax)(K:SS U->Ft->Prop):Prop:=
 match V.ty t,σ.ev x,nr n o.dst with
 |some a,.e (.c (.ptr s 0)),true=>(match a.ar with
  |some (m,e)=>(match V.ty e,V.aM e,bX σ.heap s with
   |some _,some k,some (.aU k2 b)=>(match V.cast k k2 b,Nat.ble m 1000000 with
    |some l,true=>m=l.length/\K (σ.put o.dst (.e (.c (.aW s k m)))) ⟨(2*s+1)::lk ops o,dl o,[]⟩
    |_,_=>False)
   |_,_,_=>False)
  |none=>False)
 |_,_,_=>xT V n ops o σ K
def G1(V:bU P U)(n:Nat)(ops:aw)(aN:au)(reg:jT P U)(o:Oper)(σ:SS U)(K:SS U->Ft->Prop):Prop:=
 match o.op with
 |.store t x y=>TD V ops o σ t x y K
 |.box _ x=>(match σ.ev x with|.e e=>zD n ops aN o σ (.cells e.cells) (.e (.c (.ptr σ.bV 0))) K|_=>False)
 |.alloc t=>(match V.ty t with|some k=>(match k.zs with|some h=>(match RS reg o with|true=>zD n ops aN o σ (.cells (h.map λv=>.d (.sc v))) (.e (.c (.ty σ.bV t (.inl h.length)))) K|false=>zD n ops aN o σ (.cells (h.map λv=>.d (.sc v))) (.e (.c (.ptr σ.bV 0))) K)|none=>False)|none=>False)
 |.binOp b t x y _=>TA V n ops o σ b t x y K
 |.convert t u x=>S_ V n ops o σ t u x K
 |.makeSlice t l c=>(match RS reg o with|true=>L6 V.aM V n ops aN o σ t l c K|false=>L6 V.Cv V n ops aN o σ t l c K)
 |.call ⟨.builtin .append,args,a⟩=>(match args.toList,a.toList with|[x,y],[t,m]=>(match Nat.beq t m with|true=>S5 V n ops aN o σ x y t K|false=>False)|_,_=>False)
 |.call ⟨.builtin .copy,args,a⟩=>(match args.toList,a.toList with|[x,y],[t,_]=>Tb V n ops o σ x y t K|_,_=>False)
 |.call ⟨.value (.func Z),args,_⟩=>(match AR reg.ps Z with
  |some _=>S9 n ops o σ reg.ps Z args.toList K
  |none=>(match FN reg.os Z,BC (args.toList.map σ.ev)with|some c,some j=>LW n ops aN o σ c j K|_,_=>Te (P:=P) n ops o σ Z args.toList K))
 |.call ⟨.value x,args,_⟩=>(match σ.ev x with
  |.e (.c (.cr Z f))=>(match FN reg.os Z,BC (args.toList.map σ.ev)with|some c,some j=>LW n ops aN o σ c (j++f.map λp=>.c (.ptr p.1 p.2)) K|_,_=>False)
  |_=>False)
 |.makeMap _ none=>Tt n ops aN o σ K
 |.lookup t x y true=>Tn V n ops o σ t x y K
 |.lookup t x y false=>To V n ops o σ t x y K
 |.mapUpdate t x y z=>Tu V ops o σ t x y z K
 |.slice t x r (some w) (some q)=>TC V n ops o σ t x r w q K
 |.slice t x none none none=>S6 V n ops o σ t x K
 |.buildSlice t i parts=>(match RS reg o with|true=>S7 V n ops aN o σ t i parts K|false=>xT V n ops o σ K)
 |.indexAddr t x s=>Tk V n ops o σ t x s K
 |_=>xT V n ops o σ K
variable {V:bU P U}{n:Nat}{ops:aw}{aN:au}{o:Oper}{σ:SS U}{K:SS U→Ft→Prop}{reg:jT P U}
theorem aD4{parts:Array (Nat×Operand)}(h:S7 V n ops aN o σ t s parts K)(m:fF ops o σ.st)(p:o.op=.buildSlice t s parts):∃a f,lj P n ops o aN σ a f/\K a f:=by
 unfold S7 at h;split at h
 ·rename_i q r;split at h
  ·rename_i e u;split at h
   ·rename_i v k w x;split at h
    ·rename_i G l j y z A B;have C:=V.gg _ q r;have c:=V.gg _ v w;have d:=V.za _ _ x;rw[c.sz,cY]at d;have D:=RY V σ _ _ _ B;have H:=c.zl _ j;have E:=ic z;have i:=ic A;have b:=V.Lo k;refine DN h m _ (an4 t s parts p σ.bV e (U.w k) _ _ (by rw[C.sl,u]) (by rw[c.sz,d]) (c.zs _ j) (by simp;omega) (cO y) (by rw[<-d];exact i) b O D.1) ?_;exact lF.refl _
    ·cases h
   ·cases h
  ·cases h
 ·cases h
theorem aD3(h:S6 V n ops o σ t x K)(i:fF ops o σ.st)(p:o.op=.slice t x none none none):∃b f,lj P n ops o aN σ b f/\K b f:=by
 unfold S6 at h;split at h
 ·rename_i q s u v w;split at h
  ·rename_i m e y;split at h
   ·rename_i z k k2 A B C Y;split at h
    ·rename_i l D j;obtain⟨rfl,h⟩:=h;have E:=V.gg _ q u;have M:=V.gg _ z B;have G:=V.za _ _ C;have H:=V.sa _ _ _ _ D;have L:bx k2 A=bx k l:=by unfold bx;rw[H.1]
     have j:=ic j;refine⟨_,_,⟨?_,λs Y=>by simp at Y⟩,h⟩;rw[n5];refine SQ.N1 i t x p l.length e (U.w k) (by rw[E.ar,y]) G s ((bx k l).map .d) (by rw[c8,v];rfl) (by rw[fZ,Y];simp only[dH,aV.den,L]) (by rw[dS,mf V];exact bu _) (λN c=>?_) O (ns w);cases hf:bx k l with
     |nil=>rw[hf]at c;cases c
     |cons a r=>rw[hf]at c;cases c
    ·cases h
   ·cases h
  ·cases h
 ·exact Bx h i
theorem ahg(h:G1 V n ops aN reg o σ K)(d:fF ops o σ.st):∃i f,lj P n ops o aN σ i f/\K i f:=by
 unfold G1 at h;split at h
 ·rename_i t x y a;exact aFk h d a
 ·rename_i t x a;split at h
  ·rename_i e k;refine DN h d _ (an3 t x a σ.bV e.den (by rw[c8,k];rfl)) ?_;rw[As];exact lF.refl _
  ·cases h
 ·rename_i t a;split at h
  ·rename_i L j;split at h
   ·rename_i G w;split at h
    ·have:=an2 (P:=P) (o:=o) (ev:=σ.st.ev) t a σ.bV _ ((V.gg _ _ j).zs _ w);rw[dS]at this;refine DN h d _ this ?_;simp only[aV.den,UP];exact lF.refl _
    ·refine DN h d _ (an1 t a σ.bV _ ((V.gg _ _ j).zs _ w)) ?_;simp only[aV.den,UP];exact lF.refl _
   ·cases h
  ·cases h
 ·rename_i b t x y H a;exact aFi h d a
 ·rename_i t u x a;exact aD_ h d a
 ·rename_i t l c a;split at h
  ·exact ah_ h d a
  ·exact ah_ h d a
 ·rename_i args v a;split at h
  ·rename_i x y t C p s;split at h
   ·rename_i E;rw[xc p,xc s,<-cO E]at a;exact aD2 h d a
   ·cases h
  ·cases h
 ·rename_i args v a;split at h
  ·rename_i x y t C p s;rw[xc p,xc s]at a;exact aEa h d a
  ·cases h
 ·rename_i Z args r a;split at h
  ·exact aD6 h d a
  ·split at h
   ·rename_i c B m k;have e:=Mn k;refine ahu h d ?_;rw[FO m];refine aus Z args r a (by rw[<-FO m];exact c.fX) _ ?_;rw[ir];have:(args.toList.map λx=>σ.st.ev x)=(args.toList.map σ.ev).map ST.den:=by rw[ir];congr 1;funext x;simp[c8]
    rw[this,e,ir];rfl
   ·exact aEk h d a
 ·rename_i x args r _ a;split at h
  ·rename_i Z q A;split at h
   ·rename_i c B m k;have e:=Mn k;refine ahu h d ?_;rw[FO m,gB];have p:=aur (P:=P) (o:=o) (ev:=σ.st.ev) Z x args r a (by rw[<-FO m];exact c.fX) q (by rw[c8,A];rfl) (B.map SE.den) (by
     have:(args.toList.map λx=>σ.st.ev x)=(args.toList.map σ.ev).map ST.den:=by rw[ir];congr 1;funext x;simp[c8]
     rw[this,e,ir,ir];rfl)
    refine cast (aY (yg P o σ.st.ev Z) ?_) p;congr 1;rw[ir];rfl
   ·cases h
  ·cases h
 ·rename_i t a;exact aE6 h d a
 ·rename_i t x y a;exact aEN h d a
 ·rename_i t x y a;exact aEM h d a
 ·rename_i t x y z a;exact aE7 h d a
 ·rename_i t x N A M a;exact aFj h d a
 ·rename_i t x a;exact aD3 h d a
 ·rename_i t D parts a;split at h
  ·exact aD4 h d a
  ·exact Bx h d
 ·rename_i t x Q a;exact aEH h d a
 ·exact Bx h d
def Bp(V:bU P U)(n:Nat)(ops:aw)(aN:au)(reg:jT P U)(o:Oper)(σ:SS U)(K:SS U->Ft->Prop):Prop:=
 match o.op with
 |.call _=>se σ λσ=>G1 V n ops aN reg o σ λa f=>se a λa=>K a f
 |_=>G1 V n ops aN reg o σ λa f=>fS a λa=>K a f
theorem S4(h:Bp V n ops aN reg o σ K)(d:fF ops o σ.st):∃a f,lj P n ops o aN σ a f/\K a f:=by
 unfold Bp at h;split at h
 ·obtain⟨a,f,c,b⟩:=ahg (vE (K:=λσ=>G1 V n ops aN reg o σ λa f=>se a λa=>K a f) h) d;exact⟨a,f,c,vE (K:=λa=>K a f) b⟩
 ·obtain⟨a,f,c,b⟩:=ahg h d;exact⟨a,f,c,Pr (K:=λa=>K a f) b⟩
def L4(ops:aw)(o:Oper)(σ:SS U)(A B:SS U->Prop):Prop:=
 match o.guard with
 |none=>A σ
 |some (j,want)=>
  (match vL ops.toList j with
   |some a=>(match a.dst with
    |some t=>(match gE σ.aT t with
     |.e (.c (.d (.sc (.bool b))))=>(match b,want with|true,true=>A σ|false,false=>A σ|true,false=>B σ|false,true=>B σ)
     |.e (.c (.d (.b8 b)))=>(b=want->A { σ with aT:=(t,.e (.c (.d (.sc (.bool want)))))::σ.aT})/\(b=!want->B { σ with aT:=(t,.e (.c (.d (.sc (.bool !want)))))::σ.aT})
     |.cn []=>B σ
     |_=>False)
    |none=>False)
   |none=>False)
def ac1(σ:SS U)(t:Nat)(b:Bool)(h:gE σ.aT t=.e (.c (.d (.b8 b)))):({ σ with aT:=(t,.e (.c (.d (.sc (.bool b)))))::σ.aT}:SS U).st=σ.st:=by
 unfold SS.st;simp only;congr 1;have:mk (jk σ.aT) t=.e (.c (.d (.sc (.bool b)))):=by rw[vW,h];rfl
 exact aut this
def ah0{A B:SS U->Prop}(h:L4 ops o σ A B):∃i,i.st=σ.st/\((fF ops o i.st/\A i)\/(wT ops o i.st/\B i)):=by
 unfold L4 at h;split at h
 ·rename_i k;exact⟨σ,rfl,.inl ⟨.inl k,h⟩⟩
 ·rename_i j want k;split at h
  ·rename_i s p;split at h
   ·rename_i t r;have a:(ops[j]?).bind (·.dst)=some t:=by rw[qd]at p;rw[<-yc,p];exact r
    split at h
    ·rename_i b f;have f:σ.st.aT t=.e (.c (.d (.sc (.bool b)))):=by rw[pG,f];rfl
     refine⟨σ,rfl,?_⟩;split at h
     ·exact .inl ⟨.inr ⟨j,_,t,k,a,f⟩,h⟩
     ·exact .inl ⟨.inr ⟨j,_,t,k,a,f⟩,h⟩
     ·exact .inr ⟨⟨j,_,t,k,a,.inl ⟨_,f,rfl⟩⟩,h⟩
     ·exact .inr ⟨⟨j,_,t,k,a,.inl ⟨_,f,rfl⟩⟩,h⟩
    ·rename_i b f;have l:σ.st.aT t=.e (.c (.d (.sc (.bool b)))):=by rw[pG,f];rfl
     by_cases q:b=want
     ·subst q;have e:=ac1 σ t b f;exact⟨_,e,.inl ⟨by rw[e];exact .inr ⟨j,_,t,k,a,l⟩,h.1 rfl⟩⟩
     ·have m:b=!want:=by cases b<;>cases want<;>simp_all
      subst m;have e:=ac1 σ t _ f;exact⟨_,e,.inr ⟨by rw[e];exact⟨j,want,t,k,a,.inl ⟨_,l,by cases want<;>rfl⟩⟩,h.2 rfl⟩⟩
    ·rename_i f;have l:σ.st.aT t=.cn []:=by rw[pG,f];rfl
     exact⟨σ,rfl,.inr ⟨⟨j,want,t,k,a,.inr l⟩,h⟩⟩
    ·cases h
   ·cases h
  ·cases h
def QE(o:Oper)(σ:SS U):Option Nat:=
 match o.op with
 |.call ⟨.builtin .len,args,_⟩=>(match args.toList with|[x]=>(match σ.ev x with|.e (.c (.d (.bf _ l)))=>some l.length|_=>none)|_=>none)
 |_=>none
def axp(h:QE o σ=some m)(C:dY)(a:Act)(w:World)(R:gN C σ.st a w):m<=9223372036854775807:=by
 unfold QE at h;split at h
 ·split at h
  ·rename_i x _;split at h
   ·rename_i k l b;injection h with h;subst h
    obtain⟨c,R⟩:=R;have:=R.ev x;rw[c8,b]at this;have:=axr this;simpa using this
   ·cases h
  ·cases h
 ·cases h
def PF(reg:jT P U)(o:Oper)(σ:SS U):List Nat:=
 match o.op with
 |.call ⟨.value (.func Z),args,_⟩=>(match AR reg.ps Z with|some _=>args.toList.flatMap λx=>(σ.ev x).db|none=>[])
 |.buildSlice _ _ parts=>parts.toList.flatMap λp=>(σ.ev p.2).db
 |.store _ x y=>(match σ.ev x with|.e (.c (.jN _ _ _ _))=>(σ.ev y).db|_=>[])
 |_=>[]
def ain(V:bU P U)(n:Nat)(ops:aw)(aN:au)(reg:jT P U)(o:Oper)(σ:SS U)(R:SS U->Prop):Prop:=
 L4 ops o σ
  (λσ=>(match QE o σ with
    |some m=>(m<=9223372036854775807->xQ aN (PF reg o σ) σ λσ=>Bp V n ops aN reg o σ λa _=>R a)
    |none=>xQ aN (PF reg o σ) σ λσ=>Bp V n ops aN reg o σ λa _=>R a))
  (λσ=>(match nr n o.dst with|true=>fS (σ.put o.dst (.cn [])) R|false=>False))
def pL(V:bU P U)(n:Nat)(ops:aw)(aN:au)(reg:jT P U):List Oper->SS U->(SS U->Prop)->Prop
 |[],σ,K=>K σ
 |o::r,σ,K=>ain V n ops aN reg o σ λa=>pL V n ops aN reg r a K
def Io(σ a:St):Prop:=∀t b,σ.aT t=.e (.c (.d (.sc (.bool b))))->a.aT t=.e (.c (.d (.sc (.bool b))))
def Io.aFY{σ σ':St}(h:Io σ σ')(a:fF ops o σ):fF ops o σ':=by
 rcases a with a|⟨j,w,t,b,c,d⟩
 ·exact .inl a
 ·exact .inr ⟨j,w,t,b,c,h _ _ d⟩
theorem aEr(V:bU P U){n:Nat}{aN:au}{σ:SS U}{K:SS U->Prop}(h:G4 aN s σ K):∃σ',dm n (·∈aN) σ.st σ'.st/\Io σ.st σ'.st/\K σ':=by
 unfold G4 at h;split at h
 ·rename_i k l Y e;obtain⟨a,c⟩:=Rw V h;obtain⟨a,f⟩:=Ry V a;refine⟨_,?_,?_,a⟩
  ·have:=dm.freeze (n:=n) (aS:=(·∈aN)) (σ:=σ.st) s (bx k l) (by rw[fZ,Y];rfl) (nk e);refine cast (aY (dm n (·∈aN) σ.st) ?_) this;unfold St.cL;rw[show(SS.st { aT:=xn s k l σ.aT,heap:=uH s k l σ.heap,bV:=σ.bV})=⟨λi=>(gE (xn s k l σ.aT) i).den,λu=>(bX (uH s k l σ.heap) u).map aV.den⟩from by
    unfold SS.st;congr 1
    ·funext i;exact vW _ i
    ·funext u;exact gz _ u]
   congr 1
   ·funext i;rw[c,pG]
   ·funext u;rw[f,fZ]
  ·intro t b d;rw[pG]at d⊢;rw[show gE (SS.aT { aT:=xn s k l σ.aT,heap:=uH s k l σ.heap,bV:=σ.bV}) t=gE (xn s k l σ.aT) t from rfl,c,d];rfl
 ·exact⟨σ,dm.refl _ _ _,λ_ _ h=>h,h⟩
 ·cases h
theorem ahG(V:bU P U){n:Nat}{aN:au}:∀{l:au}{σ:SS U}{K:SS U->Prop},xQ aN l σ K->∃a,dm n (·∈aN) σ.st a.st/\Io σ.st a.st/\K a
 |[],σ,K,h=>⟨σ,dm.refl _ _ _,λ_ _ h=>h,h⟩
 |s::r,σ,K,h=>by obtain⟨d,e,t1,h⟩:=aEr V (n:=n) h;obtain⟨c,f,t2,h⟩:=ahG V (n:=n) h;exact⟨c,e.trans f,λt b h=>t2 t b (t1 t b h),h⟩
theorem zS:∀(l:List Oper)(σ:SS U)(K:SS U->Prop),pL V n ops aN reg l σ K->fP P n (·∈aN) ops l σ.st λs=>∃σ',σ'.st=s/\K σ'
 |[],σ,K,h=>fP.nil ⟨σ,rfl,h⟩
 |o::r,σ,K,h=>by
  simp only[pL]at h;unfold ain at h;obtain⟨b,u,h⟩:=ah0 h;rw[<-u];rcases h with⟨q,h⟩|⟨j,h⟩
  ·have d:(xQ aN (PF reg o b) b λσ=>Bp V n ops aN reg o σ λσ' _=>pL V n ops aN reg r σ' K)->fP P n (·∈aN) ops (o::r) b.st λs=>∃σ',σ'.st=s/\K σ':=by intro h;obtain⟨e,i,t2,h⟩:=ahG V (n:=n) h;obtain⟨c,f,Y,h⟩:=S4 h (t2.aFY q);exact fP.tX i (fP.one (Y.sq.one Y.kl) (zS r c K h))
   split at h
   ·rename_i m p;intro C k Y a w R;exact d (h (axp p C a w R)) C k Y a w R
   ·exact d h
  ·split at h
   ·rename_i t;have:=zS r _ K (Pr (K:=λσ'=>pL V n ops aN reg r σ' K) h);rw[n5]at this;exact fP.one (.inr ⟨j,ns t,rfl⟩) this
   ·cases h
end
section
variable {P:ay}{U:gw}
def F9(b:List (SS U))(c:List Ft):Bool:=
 c.all λf=>f.kl.all λs=>b.all λa=>(a.aT.map (·.1)).all (λi=>f.wr.contains (2*i)|| !(gE a.aT i).nm s)&&(yK s a.heap).all λu=>f.wr.contains (2*u+1)
def aim(V:bU P U)(n:Nat)(ops:aw)(aN:au)(reg:jT P U)(o:Oper)(b:SS U)(d:List Ft)(c:List (SS U))(R:SS U->List Ft->List (SS U)->Prop):Prop:=
 L4 ops o b
  (λb=>Bp V n ops aN reg o b λa f=>R a (f::d) (b::c))
  (λb=>(match nr n o.dst with|true=>fS (b.put o.dst (.cn [])) λa=>R a (⟨lk ops o,dl o,[]⟩::d) (b::c)|false=>False))
def wv(V:bU P U)(n:Nat)(ops:aw)(aN:au)(reg:jT P U):List Oper->SS U->List Ft->List (SS U)->(SS U->Prop)->Prop
 |[],c,d,a,K=>(Au ops d.reverse&&F9 (c::a) d)=true/\K c
 |o::r,c,d,a,K=>aim V n ops aN reg o c d a λe f b=>wv V n ops aN reg r e f b K
variable {V:bU P U}{n:Nat}{ops:aw}{aN:au}{reg:jT P U}
def awK{i:List (SS U)}{q:List Ft}(h:F9 i q=true){f:Ft}(v:f∈q)(Y:s∈f.kl){d:SS U}(k:d∈i)(l:Nat)(r:l∉f.wr):¬(d.st.at l).bK s:=by
 unfold F9 at h;rw[eM]at h;have t:=h f v;rw[eM]at t;have u:=t s Y;rw[eM]at u;have m:=u d k;rw[dB,eM,eM]at m;intro a;unfold St.at at a;split at a
 ·rename_i w;have o:l=2*(l/2):=O;have a:(d.st.aT (l/2)).bK s:=a;rw[pG,<-T.nB,ST.pf]at a;have x:l/2∈d.aT.map (·.1):=P4 _ _ (λe=>by rw[e]at a;cases a);have j:=m.1 _ x;rw[a,Hw,Bool.or_false]at j;apply r;rw[o];simpa using j
 ·rename_i w;have o:l=2*(l/2)+1:=O;cases c:d.st.heap (l/2)with
  |none=>rw[c]at a;cases a
  |some y=>rw[c]at a;rw[fZ,gM]at c;obtain⟨b,p,rfl⟩:=c;have j:=m.2 _ (E0 s d.heap _ b p a);apply r;rw[o];simpa using j
def U9(P:ay)(n:Nat)(ops:aw)(aN:au)(l:List Oper)(k:SS U)(i:List Ft)(h:List (SS U))(K:SS U->Prop):Prop:=
    ∃(c:List (SS U)) (e:List Ft) (d:SS U),c.length=l.length+1/\e.length=l.length/\(c[0]?).map SS.st=some k.st/\c[l.length]?=some d/\
     (∀(j:Nat)(o:Oper)(a b:SS U)(f:Ft),l[j]?=some o->c[j]?=some a->c[j+1]?=some b->e[j]?=some f->SQ P n (·∈aN) ops o a.st b.st f)/\
     Au ops (i.reverse++e)=true/\F9 (c++h) (e++i)=true/\K d
theorem ajh:∀(l:List Oper) (k:SS U) (i:List Ft) (c:List (SS U)) (K:SS U->Prop),wv V n ops aN reg l k i c K->U9 P n ops aN l k i c K
 |[],k,i,c,K,h=>by simp only[wv,dB]at h;obtain⟨⟨t,q⟩,X⟩:=h;exact⟨[k],[],k,rfl,rfl,rfl,rfl,λj o a b f p=>by simp at p,by simpa using t,q,X⟩
 |o::r,k,i,c,K,h=>by
  simp only[wv]at h;unfold aim at h;obtain⟨e,e1,h⟩:=ah0 h;have m:∀(d:SS U)(f0:Ft),SQ P n (·∈aN) ops o e.st d.st f0->wv V n ops aN reg r d (f0::i) (e::c) K->U9 P n ops aN (o::r) k i c K:=λd f0 y h=>by
   obtain⟨cs,Z,u,N,M,B,L,H,G,w,E⟩:=ajh r d (f0::i) (e::c) K h;refine⟨e::cs,f0::Z,u,by simp[N],by simp[M],by simp[e1],by simpa using L,λj D a b f p A z hf=>?_,?_,?_,E⟩
   ·cases j with
    |zero=>simp only[jH,cY]at p A hf;simp only[yr,oo]at z;subst p;subst A;subst hf;rw[z,dH,cY]at B;rw[B];exact y
    |succ j=>exact H j D a b f (an p) (an A) (an z) (an hf)
   ·simpa using G
   ·unfold F9 at w⊢;rw[eM]at w⊢;intro f hf;have t:=w f (by simp only[dd,dC]at hf⊢;rcases hf with(h|h)|h<;>simp[h]);rw[eM]at t⊢;intro s Y;have q:=t s Y;rw[eM]at q⊢;intro x C;exact q x (by simp only[dd,dC]at C⊢;rcases C with(h|h)|h<;>simp[h])
  rcases h with⟨R,h⟩|⟨Q,h⟩
  ·obtain⟨d,f0,Y,h⟩:=S4 h R;exact m d f0 Y.sq h
  ·split at h
   ·rename_i T;refine m _ _ ?_ (Pr (K:=λv=>wv V n ops aN reg r v (⟨lk ops o,dl o,[]⟩::i) (e::c) K) h);rw[n5];exact SQ.skip Q (ns T)
   ·cases h
theorem ajg{σ:SS U}{K:SS U->Prop}(h:wv V n ops aN reg ops.toList σ [] [] K)(A:z.nt=n)(Y:z.aS=(·∈aN)){a:Act}{w:World}(R:gN z σ.st a w)(B:∀d,K d->∀e i,gN z d.st e i->Q .normal e i):wpAny P .any ops Q ops.size (Array.replicate ops.size false) a { w with drawn:=w.drawn+1}:=by
 obtain⟨cs,D,σE,T,Z,r,E,G,t,u,H⟩:=ajh _ _ _ _ _ h;simp only[List.reverse_nil,gi,l4]at t u;have k:ops.toList.length=ops.size:=ai;have b:∀m,m<=ops.size->∃x,cs[m]?=some x/\x∈cs:=λm hm=>⟨cs[m]' O,ca _,rO _⟩
 have L:((cs[0]?).getD σ).st=σ.st:=by obtain⟨x,c,_⟩:=b 0 (dD _);rw[c,dH,cY]at r;rw[c,ie,r]
 have XL:((cs[ops.size]?).getD σ).st=σE.st:=by rw[<-k,E];rfl
 refine aCZ (fp:=D) (X:=λm=>((cs[m]?).getD σ).st) O (λj f hf=>?_) t (λj f hf s Y m o l p=>?_) A Y (by simpa only[L]using R) (λe i M=>B σE H e i (by simpa only[XL]using M))
 ·have hj:j<ops.size:=by have:=(dM.1 hf).1;omega
  obtain⟨x,c,_⟩:=b j O;obtain⟨y,v,_⟩:=b (j+1) O;have N:ops.toList[j]?=some ops[j]:=ai;simp only[c,v,ie];exact SQ.lq (G j _ x y f N c v hf) ai
 ·obtain⟨x,c,q⟩:=b m o;simp only[c,ie];exact awK u (bF hf) Y q l p
theorem aGS(c:P.follows .mixedOrders=true){id:Nat}{b:SS U}{K:SS U->Prop}(h:wv V n ops aN reg ops.toList b [] [] K){Q:lI}(d:∀a,K a->Q.fC a.st):WP P n (·∈aN) (.region id ops true) b.st Q:=
 λ_ e Y _ _ R=>wp_region_any c (ajg h e Y R λa f _ _ i=>⟨a.st,i,d a f⟩)
def NU(f:aq):List Nat->Prop
 |[]=>True
 |i::r=>f i/\NU f r
theorem Xk:∀{l:au},NU H l->∀i∈l,H i
 |[],_,_,h=>by cases h
 |a::r,h,i,b=>by
  rcases dC.1 b with rfl|b
  ·exact h.1
  ·exact Xk h.2 i b
def GX(p:Nat->Bool):Nat->Nat->List Nat
 |0,_=>[]
 |k+1,i=>(match p i with|true=>i::GX p k (i+1)|false=>GX p k (i+1))
theorem agk(p:Nat->Bool):∀(k i:Nat),(List.range' i k).filter p=GX p k i
 |0,_=>rfl
 |k+1,i=>by rw[List.range'_succ,List.filter_cons,GX,agk p k (i+1)];cases p i<;>rfl
def yJ:List Bool->Nat->Bool->Bool
 |[],_,d=>d
 |b::_,0,_=>b
 |_::r,i+1,d=>yJ r i d
theorem N2:∀(l:List Bool)(i:Nat)(d:Bool),l.toArray.getD i d=yJ l i d
 |[],i,d=>by simp[yJ]
 |b::r,0,d=>by simp[yJ]
 |b::r,i+1,d=>by rw[yJ,<-N2 r i d];simp
def af9(ops:List Oper)(l:List Bool)(i:Nat):Bool:=
 match yJ l i true with
 |true=>false
 |false=>(match ops[i]? with
  |some o=>o.after.toList.all λe=>!Region.binds .any e||yJ l e.on false
  |none=>false)
def LC(ops:List Oper)(l:List Bool):List Nat:=GX (af9 ops l) ops.length 0
def LD(ops:aw)(l:List Bool):Region.ready .any ops l.toArray=LC ops.toList l:=by
 unfold Region.ready LC;rw[List.range_eq_range',<-agk];have e:ops.toList.length=ops.size:=rfl;rw[e];congr 1;funext i;unfold af9;rw[N2];cases yJ l i true with
 |true=>rfl
 |false=>
  simp only[Bool.not_false,BN,yc];cases ops[i]? with
  |none=>rfl
  |some o=>simp only[dH,ie,<-Array.all_toList];congr 1;funext e;rw[N2]
def BF(V:bU P U)(n:Nat)(ops:aw)(aN:au)(reg:jT P U):Nat->List Bool->SS U->(SS U->Prop)->Prop
 |0,listed,b,K=>(match LC ops.toList listed with|[]=>K b|_::_=>False)
 |a+1,listed,b,K=>(match LC ops.toList listed with
  |[]=>K b
  |i::r=>NU (λi=>match ops.toList[i]? with
   |some o=>(match o.guard with
    |none=>Bp V n ops aN reg o b λc _=>BF V n ops aN reg a (listed.set i true) c K
    |some _=>False)
   |none=>False) (i::r))
theorem ajf{ops:aw}(t:z.nt=n)(Y:z.aS=(·∈aN)){K:SS U->Prop}(p:∀c,K c->∀a w,gN z c.st a w->Q .normal a w):∀(b:Nat)(listed:List Bool)(m:SS U)(a:Act)(w:World),BF V n ops aN reg b listed m K->gN z m.st a w->wpAny P .any ops Q b listed.toArray a w
 |0,listed,m,a,w,h,R=>by
  simp only[BF]at h;split at h
  ·rename_i d;exact⟨(LD _ _).trans d,p _ h _ _ R⟩
  ·cases h
 |b+1,listed,m,a,w,h,R=>by
  simp only[BF]at h;split at h
  ·rename_i d;exact⟨λ_=>p _ h _ _ R,λi j=>by rw[LD,d]at j;cases j⟩
  ·rename_i G r d;refine⟨λv=>absurd (d.symm.trans ((LD _ _).symm.trans v)) ai,λi j=>?_⟩;rw[LD,d]at j;have k:=Xk h i j;split at k
   ·rename_i o u;rw[yc]at u;split at k
    ·rename_i q;obtain⟨c,f,l,x⟩:=S4 k (.inl q);have s:=l.sq.one l.kl;unfold wpOp;rw[u];simp only;have y:Region.wanted o (yielded ops a.tmps)=true:=by unfold Region.wanted;rw[q]
     rw[y];left;rcases s with⟨_,s⟩|⟨A,_⟩
     ·refine s z t Y a w R _ Q λB D E=>?_
      have e:listed.toArray.setIfInBounds i true=(listed.set i true).toArray:=ai;rw[e];exact ajf t Y p b _ c B D x E
     ·exact(fF.aei (Or.inl q) A).elim
    ·cases k
   ·cases k
theorem aje(d:P.follows .mixedOrders=true){id:Nat}{ops:aw}{c:SS U}{K:SS U->Prop}(h:BF V n ops aN reg ops.toList.length (List.replicate ops.toList.length false) c K){Q:lI}(f:∀b,K b->Q.fC b.st):WP P n (·∈aN) (.region id ops true) c.st Q:=by intro C i Y a w R;refine wp_region_any d ?_;have e:Array.replicate ops.size false=(List.replicate ops.toList.length false).toArray:=ai;rw[e];refine ajf i Y (λb j a w k=>⟨b.st,k,f b j⟩) _ _ c _ _ h ?_;obtain⟨l,m⟩:=R;exact⟨l,m.drawn⟩
def YY(ops:aw):Bool:=
 match ops.toList with
 |[⟨_,.alloc _,_,_,_,none⟩,⟨none,.store _ _ _,_,_,_,none⟩,⟨none,.store _ _ _,_,_,_,none⟩,⟨_,.load _ _,_,_,_,none⟩]=>true
 |_=>false
end
section
variable {P:ay}{U:gw}
def kH:List (Nat×Option Nat)->Nat->Option Nat
 |[],_=>none
 |(a,b)::r,s=>match Nat.beq a s with|true=>b|false=>kH r s
def mg:List (Nat×Option Nat)->Nat->Bool
 |[],_=>false
 |(a,_)::r,s=>match Nat.beq a s with|true=>true|false=>mg r s
def Sl:SV U->SV U->List (Nat×Option Nat)
 |.aW s _ _,.aW t _ _=>[(t,some s)]
 |.sub s _ _ _,.sub t _ _ _=>[(t,some s)]
 |.ptr s _,.ptr t _=>[(t,some s)]
 |.jN s _ _ _,.jN t _ _ _=>[(t,some s)]
 |.mp s,.mp t=>[(t,some s)]
 |.ty s _ _,.ty t _ _=>[(t,some s)]
 |.ty s _ _,.ptr t _=>[(t,some s)]
 |.d (.sc (.slice none 0 0)),.aW t _ _=>[(t,none)]
 |.cr _ c,.cr _ a=>(c.zip a).map λp=>(p.2.1,some p.1.1)
 |_,_=>[]
def Sn:List (SV U)->List (SV U)->List (Nat×Option Nat)
 |x::b,y::a=>Sl x y++Sn b a
 |_,_=>[]
def Sk:SE U->SE U->List (Nat×Option Nat)
 |.c x,.c y=>Sl x y
 |.agg b,.agg a=>Sn b a
 |_,_=>[]
def prT:ST U->ST U->List (Nat×Option Nat)
 |.e x,.e y=>Sk x y
 |_,_=>[]
def afe(e:List (Nat×ST U)):List (Nat×ST U)->List (Nat×Option Nat)
 |[]=>[]
 |(i,t)::r=>prT (gE e i) t++afe e r
def GL(h:List (Nat×aV U))(a:List (Nat×Option Nat)):List (Nat×aV U)->List (Nat×Option Nat)
 |[]=>[]
 |(s,.cells b)::r=>(match kH a s with|some t=>(match bX h t with|some (.cells d)=>Sn d b|_=>[])|none=>[])++GL h a r
 |(s,.hI _ _ c)::r=>(match kH a s with|some t=>(match bX h t with|some (.hI _ _ v)=>Sl v c|_=>[])|none=>[])++GL h a r
 |_::r=>GL h a r
def Bf(aN:au)(b a:SS U):List (Nat×Option Nat):=
 let d:=(aN.map λs=>(s,some s))++afe b.aT a.aT
 let c:=d++GL b.heap d a.heap
 c++GL b.heap c a.heap
def Kc(v d:Value)(c:Prop):Prop:=
 match v,d with
 |.int k a,.int e b=>(match decide (k=e)with|true=>a=b/\c|false=>False)
 |.bool a,.bool b=>a=b/\c
 |.string a,.string b=>a=b/\c
 |.slice none 0 0,.slice none 0 0=>c
 |v,d=>v=d/\c
def acT{v v':Value}(h:Kc v v' R):R/\v=v':=by
 unfold Kc at h;split at h
 ·split at h
  ·rename_i a;simp only[be]at a;obtain⟨rfl,h⟩:=h;subst a;exact⟨h,rfl⟩
  ·cases h
 ·obtain⟨rfl,h⟩:=h;exact⟨h,rfl⟩
 ·obtain⟨rfl,h⟩:=h;exact⟨h,rfl⟩
 ·exact⟨h,rfl⟩
 ·obtain⟨e,h⟩:=h;exact⟨h,e⟩
def J8(V:bU P U)(x y:SD U)(a:Prop):Prop:=
 match y with
 |.bf h d=>(match x with
  |.bf k l=>(match V.cast h k l with|some f=>f=d/\a|none=>False)
  |.sc (.slice none 0 0)=>d=[]/\a
  |_=>False)
 |.b8 e=>(match x with
  |.b8 b=>b=e/\a
  |.sc (.bool b)=>b=e/\a
  |_=>False)
 |.sc c=>(match x with
  |.sc v=>Kc v c a
  |.b8 b=>Kc (.bool b) c a
  |_=>False)
def acK{V:bU P U}{x y:SD U}(h:J8 V x y R):R/\∀w a v,dE w a x.den v->dE w a y.den v:=by
 unfold J8 at h;split at h
 ·rename_i e f;split at h
  ·rename_i k l;split at h
   ·rename_i i d;obtain⟨rfl,h⟩:=h;refine⟨h,λw a v b=>?_⟩;have:=(V.sa _ _ _ _ d).1;simp only[SD.den]at b⊢;rwa [<-this]
   ·cases h
  ·obtain⟨rfl,h⟩:=h;exact⟨h,λw a v b=>dE.cH b⟩
  ·cases h
 ·split at h
  ·obtain⟨rfl,h⟩:=h;exact⟨h,λ_ _ _ b=>b⟩
  ·obtain⟨rfl,h⟩:=h;exact⟨h,λ_ _ _ b=>b⟩
  ·cases h
 ·split at h
  ·obtain⟨c,rfl⟩:=acT h;exact⟨c,λ_ _ _ b=>b⟩
  ·obtain⟨c,rfl⟩:=acT h;exact⟨c,λ_ _ _ b=>b⟩
  ·cases h
def QA(V:bU P U):List (SD U)->List (SD U)->Prop->Prop
 |[],[],a=>a
 |x::c,y::b,a=>J8 V x y (QA V c b a)
 |_,_,_=>False
theorem acL{V:bU P U}:∀{e d:List (SD U)} {c:Prop},QA V e d c->c/\e.length=d.length/\∀(j:Nat)(x y:SD U),e[j]?=some x->d[j]?=some y->∀w Z v,dE w Z x.den v->dE w Z y.den v
 |[],[],c,h=>⟨h,rfl,λj x y k=>by simp at k⟩
 |x::e,y::d,c,h=>by
  obtain⟨h,n⟩:=acK h;obtain⟨h,m,l⟩:=acL h;refine⟨h,by simp[m],λj a b i f=>?_⟩;cases j with
  |zero=>simp only[jH,cY]at i f;subst i;subst f;exact n
  |succ j=>exact l j a b (an i) (an f)
 |[],_::_,_,h=>h.elim
 |_::_,[],_,h=>h.elim
def same(a:List (Nat×Option Nat))(s t:Nat):Bool:=match kH a t with|some u=>Nat.beq u s|none=>false
def Br(h:same Z s d=true):kH Z d=some s:=by
 unfold same at h;split at h
 ·rename_i u a;rw[a,cO h]
 ·cases h
def Ge(V:bU P U)(b:List (Nat×Option Nat))(x y:SV U)(a:Prop):Prop:=
 match y with
 |.any=>a
 |.d y=>(match x with|.d x=>J8 V x y a|_=>False)
 |.ptr t e=>(match x with|.ptr s o=>(match same b s t,Nat.beq o e with|true,true=>a|_,_=>False)|.ty s _ (.inl _)=>(match same b s t,Nat.beq 0 e with|true,true=>a|_,_=>False)|_=>False)
 |.jN t h v u=>(match x with|.jN s k i j=>(match same b s t,Nat.beq (U.w k) (U.w h)with|true,true=>i=v/\j=u/\a|_,_=>False)|_=>False)
 |.sub t h e l=>(match x with|.sub s k o n=>(match same b s t,Nat.beq (U.w k) (U.w h)with|true,true=>o=e/\n=l/\a|_,_=>False)|_=>False)
 |.aW t h l=>(match x with
  |.aW s k n=>(match same b s t,Nat.beq (U.w k) (U.w h)with|true,true=>n=l/\a|_,_=>False)
  |.d (.sc (.slice none 0 0))=>(match kH b t with|none=>l=0/\a|some _=>False)
  |_=>False)
 |.mp t=>(match x with|.mp s=>(match same b s t with|true=>a|_=>False)|_=>False)
 |.ty t r e=>(match x with|.ty s y o=>(match same b s t,Nat.beq y r with|true,true=>o=e/\a|_,_=>False)|_=>False)
 |.gT m=>(match x with|.gT z=>QA V z m a|_=>False)
 |.cr w q=>(match x with
  |.cr f c=>(match Nat.beq f w,(q.all λp=>(kH b p.1).isSome)with|true,true=>c=(q.map λp=>((kH b p.1).getD 0,p.2))/\a|_,_=>False)
  |_=>False)
def VLe(x y:Ab.V):=∀(w:World)(M:aq)(a:G)(v:Value),dO w M a x v->dO w M a y v
def Kb{V:bU P U}{x y:SV U}(h:Ge V Z x y R):R/\VLe x.den (y.den.eU (kH Z)):=by
 unfold Ge at h;split at h
 ·refine⟨h,λw M i v c=>c.one⟩
 ·split at h
  ·obtain⟨h,e⟩:=acK h;exact⟨h,λw M i v c=>e _ _ _ c⟩
  ·cases h
 ·split at h
  ·split at h
   ·rename_i d f;refine⟨h,λw M i v c=>?_⟩;simp only[SV.den,Ab.V.eU,Br d]at c⊢;rw[<-cO f];exact c
   ·cases h
  ·split at h
   ·rename_i d f;refine⟨h,λw M i v c=>?_⟩;simp only[SV.den,Ab.V.eU,Br d]at c⊢;obtain⟨b,_,p,_,e,_⟩:=c;rw[<-cO f];exact⟨b,p,e⟩
   ·cases h
  ·cases h
 ·split at h
  ·split at h
   ·rename_i d f;obtain⟨rfl,rfl,h⟩:=h;refine⟨h,λw M i v c=>?_⟩;simp only[SV.den,Ab.V.eU,Br d]at c⊢;rw[<-cO f];exact c
   ·cases h
  ·cases h
 ·split at h
  ·split at h
   ·rename_i d f;obtain⟨rfl,rfl,h⟩:=h;refine⟨h,λw M i v c=>?_⟩;simp only[SV.den,Ab.V.eU,Br d]at c⊢;rw[<-cO f];exact c
   ·cases h
  ·cases h
 ·split at h
  ·split at h
   ·rename_i d f;obtain⟨rfl,h⟩:=h;refine⟨h,λw M i v c=>?_⟩;simp only[SV.den,Ab.V.eU,Br d]at c⊢;rw[<-cO f];exact c
   ·cases h
  ·split at h
   ·rename_i d;obtain⟨rfl,h⟩:=h;refine⟨h,λw M i v c=>?_⟩;simp only[SV.den,Ab.V.eU,d]at c⊢;rw[aK ⟨trivial,trivial⟩];exact c
   ·cases h
  ·cases h
 ·split at h
  ·split at h
   ·rename_i d;refine⟨h,λw M i v c=>?_⟩;simp only[SV.den,Ab.V.eU,Br d]at c⊢;exact c
   ·cases h
  ·cases h
 ·split at h
  ·split at h
   ·rename_i d f;obtain⟨rfl,h⟩:=h;refine⟨h,λw M i v c=>?_⟩;simp only[SV.den,Ab.V.eU,Br d]at c⊢;rw[<-cO f];exact c
   ·cases h
  ·cases h
 ·split at h
  ·rename_i q ds;obtain⟨h,z,r⟩:=acL h;refine⟨h,λw M i v c=>?_⟩;obtain⟨a,ev,l,m,s⟩:=c;refine⟨a,ev,l,m,λj x n=>?_⟩;rw[dU,gM]at n;obtain⟨y,o,rfl⟩:=n;have k:j<ds.length:=by have:=(dM.1 o).1;omega
   obtain⟨u,t,c⟩:=s j (ds[j]).den (by rw[dU,ca k];rfl);exact⟨u,t,r j _ y (ca k) o _ _ _ c⟩
  ·cases h
 ·split at h
  ·split at h
   ·rename_i d f;obtain⟨rfl,h⟩:=h;refine⟨h,λw M i v c=>?_⟩;simp only[SV.den,Ab.V.eU]at c⊢;rw[aK f,<-cO d];exact c
   ·cases h
  ·cases h
def Ke(V:bU P U)(b:List (Nat×Option Nat)):List (SV U)->List (SV U)->Prop->Prop
 |[],[],a=>a
 |x::d,y::c,a=>Ge V b x y (Ke V b d c a)
 |_,_,_=>False
theorem Kf{V:bU P U}:∀{k l:List (SV U)} {e:Prop},Ke V Z k l e->e/\∀w M f b,bR w M f (k.map SV.den) b->bR w M f ((l.map SV.den).map (Ab.V.eU (kH Z))) b
 |[],[],e,h=>⟨h,λ_ _ _ _ h=>h⟩
 |x::k,y::l,e,h=>by
  obtain⟨h,n⟩:=Kb h;obtain⟨h,o⟩:=Kf h;refine⟨h,λw M f b j=>?_⟩;cases b with
  |nil=>have:=j.1;simp at this
  |cons v b=>
   have p:=j.2 0 x.den v rfl rfl;have m:=o w M f b ⟨by simpa using j.1,λi a u c d=>j.2 (i+1) a u (an c) (an d)⟩;refine⟨by simpa using m.1,λi a u c d=>?_⟩;cases i with
   |zero=>simp only[dc,jH,cY]at c d;subst c;subst d;exact n _ _ _ _ p
   |succ i=>exact m.2 i a u (an c) (an d)
 |[],_::_,_,h=>h.elim
 |_::_,[],_,h=>h.elim
def Gd(V:bU P U)(b:List (Nat×Option Nat))(x y:SE U)(a:Prop):Prop:=
 match x,y with
 |.c x,.c y=>Ge V b x y a
 |.agg e,.agg d=>Ke V b e d a
 |_,_=>False
def QC(V:bU P U)(b:List (Nat×Option Nat)):List (SE U)->List (SE U)->Prop->Prop
 |[],[],a=>a
 |x::d,y::c,a=>Gd V b x y (QC V b d c a)
 |_,_,_=>False
def Ka(V:bU P U)(b:List (Nat×Option Nat))(x y:ST U)(a:Prop):Prop:=
 match y with
 |.any=>a
 |.e y=>(match x with|.e x=>Gd V b x y a|_=>False)
 |.cn c=>(match x with|.cn d=>QC V b d c a|_=>False)
def axi{V:bU P U}{x y:SE U}(h:Gd V Z x y R):R/\∀w M a v,eP w M a x.den v->eP w M a (y.den.eU (kH Z)) v:=by
 unfold Gd at h;split at h
 ·obtain⟨h,e⟩:=Kb h;exact⟨h,λw M a v b=>e _ _ _ _ b⟩
 ·obtain⟨h,e⟩:=Kf h;refine⟨h,λw M a v b=>?_⟩;obtain⟨c,d,f⟩:=b;exact⟨c,d,e _ _ _ _ f⟩
 ·cases h
theorem acN{V:bU P U}:∀{k l:List (SE U)} {e:Prop},QC V Z k l e->e/\∀w M f b,lb w M f (k.map SE.den) b->lb w M f ((l.map SE.den).map (E.eU (kH Z))) b
 |[],[],e,h=>⟨h,λ_ _ _ _ h=>h⟩
 |x::k,y::l,e,h=>by
  obtain⟨h,n⟩:=axi h;obtain⟨h,o⟩:=acN h;refine⟨h,λw M f b j=>?_⟩;cases b with
  |nil=>have:=j.1;simp at this
  |cons v b=>
   have p:=j.2 0 x.den v rfl rfl;have m:=o w M f b ⟨by simpa using j.1,λi a u c d=>j.2 (i+1) a u (an c) (an d)⟩;refine⟨by simpa using m.1,λi a u c d=>?_⟩;cases i with
   |zero=>simp only[dc,jH,cY]at c d;subst c;subst d;exact n _ _ _ _ p
   |succ i=>exact m.2 i a u (an c) (an d)
 |[],_::_,_,h=>h.elim
 |_::_,[],_,h=>h.elim
def acS{V:bU P U}{x y:ST U}(h:Ka V Z x y R):R/\pU x.den (y.den.eU (kH Z)):=by
 unfold Ka at h;split at h
 ·exact⟨h,λ_ _ _ _ _=>trivial⟩
 ·split at h
  ·unfold Gd at h;split at h
   ·obtain⟨h,e⟩:=Kb h;exact⟨h,λw M f v a=>e _ _ _ _ a⟩
   ·obtain⟨h,e⟩:=Kf h;refine⟨h,λw M f v a=>?_⟩;obtain⟨b,c,d⟩:=a;exact⟨b,c,e _ _ _ _ d⟩
   ·cases h
  ·cases h
 ·split at h
  ·obtain⟨h,e⟩:=acN h;refine⟨h,λw M f v a=>?_⟩;obtain⟨b,c,d⟩:=a;exact⟨b,c,e _ _ _ _ d⟩
  ·cases h
end
section
variable {P:ay}{U:gw}
def kh(h:List (Nat×aV U))(s:Nat):Bool:=match bX h s with|some _=>true|none=>false
def Ot(b:List (Nat×Option Nat))(aN:au)(a:SS U):Bool:=
 (a.aT.all λp=>p.2.db.all (kh a.heap))&&
 (a.heap.all λp=>match p.2 with|.cells c=>c.all λv=>v.db.all (kh a.heap)|.hI _ _ v=>v.db.all (kh a.heap)|_=>true)&&
 ((a.heap.map (·.1)).all λs=>(a.heap.map (·.1)).all λt=>Nat.beq s t||(match kH b s,kH b t with|some u,some v=>!Nat.beq u v|_,_=>true))&&
 (aN.all λs=>kh a.heap s&&(match kH b s with|some u=>Nat.beq u s|none=>false))
def J9(V:bU P U)(c:List (Nat×Option Nat))(b:SS U):List (Nat×ST U)->Prop->Prop
 |[],a=>a
 |(i,t)::r,a=>Ka V c (gE b.aT i) t (J9 V c b r a)
def Dy(V:bU P U)(k:U.K):Nat->List (SV U)->Option (List (U.El k))
 |_,[]=>some []
 |0,_=>none
 |f+1,a=>match GD V k (.agg (a.take (U.w k))),Dy V k f (a.drop (U.w k))with|some x,some r=>some (x::r)|_,_=>none
theorem aiL:∀{a b:List Ab.V}{x y:List D},lY a=some x->lY b=some y->lY (a++b)=some (x++y)
 |[],b,x,y,h,e=>by simp only[lY]at h;injection h with h;subst h;exact e
 |v::a,b,x,y,h,e=>by
  simp only[lY]at h;split at h
  ·rename_i d i f c;injection h with h;subst h
   rw[ei,ei,lY,f,aiL c e]
  ·cases h
theorem agu{V:bU P U}{k:U.K}:∀{f:Nat} {a:List (SV U)} {l:List (U.El k)},Dy V k f a=some l->lY (a.map SV.den)=some (bx k l)
 |f,[],l,h=>by
  have:l=[]:=by cases f<;>(unfold Dy at h;injection h with h;exact h.symm)
  subst this;rfl
 |0,c::a,l,h=>by unfold Dy at h;cases h
 |f+1,c::a,l,h=>by
  unfold Dy at h;split at h
  ·rename_i x r i d;injection h with h;subst h
   have p:=(RX V i).1;have b:=agu d;have e:(SE.agg ((c::a).take (U.w k))).den.cells=((c::a).take (U.w k)).map SV.den:=rfl;rw[e]at p;have:=aiL p b;rw[<-gB,om]at this;rw[this];rfl
  ·cases h
def Qz(V:bU P U)(e:List (Nat×Option Nat))(o:SS U)(s:Nat)(b:aV U)(a:Prop):Prop:=
 match kH e s with
 |some t=>(match bX o.heap t with
  |some (.cells n)=>(match b with|.cells m=>Ke V e n m a|.aU h c=>(match Dy V h n.length n with|some f=>f=c/\a|none=>False)|_=>False)
  |some (.aU k l)=>(match b with|.aU h c=>(match V.cast h k l with|some f=>f=c/\a|none=>False)|_=>False)
  |some (.lr u)=>(match b with|.lr j=>u=j/\a|_=>False)
  |some (.hI p i v)=>(match b with|.hI d r q=>p=d/\i=r/\Ge V e v q a|_=>False)
  |none=>False)
 |none=>(match b with|.aU _ c=>c=[]/\a|_=>False)
def J_(V:bU P U)(d:List (Nat×Option Nat))(c:SS U):List (Nat×aV U)->Prop->Prop
 |[],a=>a
 |(s,b)::r,a=>Qz V d c s b (J_ V d c r a)
def KN(V:bU P U)(aN:au)(c a:SS U)(b:List (Nat×Option Nat))(d:Prop):Prop:=
 match Ot b aN a with
 |true=>J9 V b c a.aT (J_ V b c a.heap d)
 |false=>False
def fO(n:Option Nat)(K:Option Nat->Prop):Prop:=match n with|none=>K none|some m=>fN m λm=>K (some m)
def au2{n:Option Nat}{K:Option Nat->Prop}(h:fO n K):K n:=by
 cases n with
 |none=>exact h
 |some m=>exact tn (K:=λm=>K (some m)) h
def AN:List (Nat×Option Nat)->(List (Nat×Option Nat)->Prop)->Prop
 |[],K=>K []
 |(s,o)::r,K=>fN s λs=>fO o λo=>AN r λr=>K ((s,o)::r)
theorem aaT:∀{l:List (Nat×Option Nat)} {K:List (Nat×Option Nat)->Prop},AN l K->K l
 |[],_,h=>h
 |(s,o)::r,K,h=>aaT (l:=r) (K:=λr=>K ((s,o)::r)) (au2 (K:=λo=>AN r λr=>K ((s,o)::r)) (tn (K:=λs=>fO o λo=>AN r λr=>K ((s,o)::r)) h))
def mt(V:bU P U)(aN:au)(b a:SS U)(c:Prop):Prop:=se b λb=>se a λa=>AN (Bf aN b a) λd=>KN V aN b a d c
theorem ayl{V:bU P U}{aN:au}{b a:SS U}(h:mt V aN b a R):(match Ot (Bf aN b a) aN a with
 |true=>J9 V (Bf aN b a) b a.aT (J_ V (Bf aN b a) b a.heap R)
 |false=>False):=
 aaT (K:=λc=>KN V aN b a c R) (vE (K:=λa=>AN (Bf aN b a) λc=>KN V aN b a c R) (vE (K:=λb=>se a λa=>AN (Bf aN b a) λc=>KN V aN b a c R) h))
theorem acM{V:bU P U}{b:SS U}:∀{l:List (Nat×ST U)} {a:Prop},J9 V Z b l a->a/\∀p∈jk l,pU (b.st.aT p.1) (p.2.eU (kH Z))
 |[],a,h=>⟨h,λp hp=>by simp[jk]at hp⟩
 |(i,t)::r,a,h=>by
  obtain⟨h,c⟩:=acS h;obtain⟨h,d⟩:=acM h;refine⟨h,λp hp=>?_⟩;simp only[jk,dc,dC]at hp;rcases hp with rfl|hp
  ·rw[pG];exact c
  ·exact d p hp
def UY(h:SS U)(b:List (Nat×Option Nat))(s:Nat)(a:List Ab.V):Prop:=
 (∃t c,kH b s=some t/\h.st.heap t=some c/\(∀(w:World)(M:aq)(d:G)(e:av),bR w M d c e->bR w M d (a.map (Ab.V.eU (kH b))) e)/\∀f,c=[.dV f]->a=[.dV f])\/(kH b s=none/\a=[])
def agd(b:Nat->Option Nat)(a:List D):(a.map Ab.V.d).map (Ab.V.eU b)=a.map Ab.V.d:=by simp[vh,Ab.V.eU]
def axh{V:bU P U}{y:SS U}{b:aV U}(h:Qz V Z y s b R):R/\UY y Z s b.den:=by
 unfold Qz at h;split at h
 ·rename_i t f;split at h
  ·rename_i o Y;split at h
   ·rename_i B;obtain⟨h,e⟩:=Kf h;refine⟨h,.inl ⟨t,o.map SV.den,f,by rw[fZ,Y];rfl,e,λm a=>?_⟩⟩;have:=IU o;rw[a]at this;cases this
   ·rename_i z C;split at h
    ·rename_i l2 n;obtain⟨rfl,h⟩:=h;refine⟨h,.inl ⟨t,o.map SV.den,f,by rw[fZ,Y];rfl,λw M p vs a=>?_,λm a=>?_⟩⟩
     ·simp only[aV.den];rw[agd];exact T0 _ _ _ (agu n) a
     ·have:=IU o;rw[a]at this;cases this
    ·cases h
   ·cases h
  ·rename_i k l Y;split at h
   ·rename_i z C;split at h
    ·rename_i l2 n;obtain⟨rfl,h⟩:=h;have e:bx k l=bx z l2:=by unfold bx;rw[(V.sa _ _ _ _ n).1]
     refine⟨h,.inl ⟨t,(bx k l).map .d,f,by rw[fZ,Y];rfl,λw M p vs a=>?_,λm a=>?_⟩⟩
     ·simp only[aV.den];rw[agd,<-e];exact a
     ·have:=O_ (bx k l);rw[a]at this;cases this
    ·cases h
   ·cases h
  ·rename_i m Y;split at h
   ·obtain⟨rfl,h⟩:=h;exact⟨h,.inl ⟨t,[.dV m],f,by rw[fZ,Y];rfl,λw M p vs a=>a,λD a=>a⟩⟩
   ·cases h
  ·rename_i vs i v Y;split at h
   ·rename_i E H q;obtain⟨rfl,rfl,h⟩:=h;obtain⟨h,e⟩:=Kb h;refine⟨h,.inl ⟨t,jL vs i v.den,f,by rw[fZ,Y];rfl,λw M p K a=>?_,λm a=>?_⟩⟩
    ·have G:List.map (Ab.V.eU (kH Z)) (aV.hI vs i q).den=jL vs i (q.den.eU (kH Z)):=GQ (Ab.V.eU (kH Z)) (λ_=>rfl) vs i q.den;rw[G];refine⟨by rw[<-a.1];simp[jL],λj x u c A=>?_⟩;unfold jL at c;rw[Ek]at c;split at c
     ·rename_i r;subst r;split at c
      ·injection c with c;subst c
       rename_i n;exact e _ _ _ _ (a.2 i v.den u (afY (an n)) A)
      ·cases c
     ·rename_i r;exact a.2 j x u (by unfold jL;rw[Ah r];exact c) A
    ·have:=SI (vs:=vs) (i:=i) (Il v);rw[a]at this;cases this
   ·cases h
  ·cases h
 ·rename_i f;split at h
  ·obtain⟨rfl,h⟩:=h;exact⟨h,.inr ⟨f,rfl⟩⟩
  ·cases h
theorem acR{V:bU P U}{e:SS U}:∀{l:List (Nat×aV U)} {d:Prop},J_ V Z e l d->d/\∀s b,bX l s=some b->UY e Z s b.den
 |[],d,h=>⟨h,λs b c=>by cases c⟩
 |(j,a)::r,d,h=>by
  obtain⟨h,f⟩:=axh h;obtain⟨h,i⟩:=acR h;refine⟨h,λs b c=>?_⟩;simp only[bX]at c;split at c
  ·rename_i k;injection c with c;subst c;rw[cO k];exact f
  ·exact i s b c
def AW{h:List (Nat×aV U)}(a:kh h s=true):bJ (bP h) s≠none:=by
 unfold kh at a;split at a
 ·rename_i b e;rw[gz,e];simp
 ·cases a
def abP{h:List (Nat×aV U)}(a:bJ (bP h) s≠none):s∈h.map (·.1):=by
 rw[gz]at a;cases e:bX h s with
 |none=>rw[e]at a;exact absurd rfl a
 |some b=>exact P5 _ _ _ e
theorem JY:∀(l:List (Nat×aV U)) (s:Nat) (b:aV U),bX l s=some b->(s,b)∈l
 |[],_,_,h=>by cases h
 |(j,t)::r,s,b,h=>by
  simp only[bX]at h;split at h
  ·rename_i a;injection h with h;subst h;rw[cO a];simp
  ·exact cE _ (JY r s b h)
def nY{V:bU P U}{aN:au}{e τ:SS U}(h:mt V aN e τ R)(n:Nat):R/\dm n (·∈aN) e.st τ.st:=by
 have h:=ayl h;split at h
 ·rename_i f;obtain⟨h,B⟩:=acM h;obtain⟨h,C⟩:=acR h;refine⟨h,?_⟩;unfold Ot at f;simp only[dB]at f;obtain⟨⟨⟨r,w⟩,c3⟩,c4⟩:=f;refine dm.rename (jk τ.aT) (bP τ.heap) (kH (Bf aN e τ)) B (λs D Y=>?_) (λp y s Y=>?_) (λs E Y x d u a=>?_) (λs t u Y G H K=>?_) (λs Y=>?_)
  ·rw[gz,gM]at Y;obtain⟨b,j,rfl⟩:=Y;exact C s b j
  ·simp only[jk,cj]at y;obtain⟨q,L,rfl⟩:=y;rw[eM]at r;have:=r q L;rw[eM]at this;exact AW (this s (by rw[<-ST.oD];exact T.oE Y))
  ·rw[gz,gM]at Y;obtain⟨b,j,rfl⟩:=Y;rw[eM]at w;have:=w (s,b) (JY _ _ _ j);cases b with
   |cells E=>simp only[aV.den,cj]at d;obtain⟨v,M,rfl⟩:=d;simp only[eM]at this;exact AW (this v M u (by rw[<-SV.oD];exact Ab.V.oE a))
   |aU k l=>exact(Dz d u a).elim
   |lr Q=>simp only[aV.den,dZ]at d;subst d;cases a
   |hI N i v=>
    rcases Lz (show x∈jL N i v.den from d)with rfl|⟨z,rfl⟩
    ·rw[eM]at this;exact AW (this u (by rw[<-SV.oD];exact Ab.V.oE a))
    ·cases a
  ·rw[eM]at c3;have A:=c3 s (abP Y);rw[eM]at A;have c:=A t (abP G);rw[H,K]at c;simp only[vd]at c;rcases c with c|c
   ·exact cO c
   ·simp[HZ]at c
  ·rw[eM]at c4;have m:=c4 s Y;rw[dB]at m;refine⟨AW m.1,?_⟩;have o:=m.2;split at o
   ·rename_i u a;rw[a,cO o]
   ·cases o
 ·cases h
structure mE(U:gw)where
 X:Type
 st:X->SS U
 G:X->Prop
 mu:X->Nat
def AT:Code->Nat
 |.region id _ _=>id
 |.seq a _=>AT a
 |.block _ a=>AT a
 |.loop a=>AT a
 |.cond _ a _=>AT a
 |_=>0
def AS:List (Nat×mE U)->Nat->Option (mE U)
 |[],_=>none
 |(j,a)::r,i=>match Nat.beq i j with|true=>some a|false=>AS r i
def YG(a:SS U):List Nat:=a.heap.flatMap λp=>match p.2 with|.cells b=>b.filterMap (λv=>match v with|.aW s _ _=>some s|_=>none)|_=>[]
def zA(V:bU P U)(aN:au)(d:List (Nat×mE U))(id:Nat)(c:SS U->Prop)(a:SS U):Prop:=
 match AS d (id+4000000)with
 |some L=>∃R:L.X->Prop,∃b,mt V aN a (L.st b) (L.G b/\R b)/\∀x,L.G x->R x->se (L.st x) c
 |none=>(match AS d (id+6000000)with
  |some L=>xQ aN (YG a) a λa=>∃R:L.X->Prop,∃b,mt V aN a (L.st b) (L.G b/\R b)/\∀x,L.G x->R x->se (L.st x) c
  |none=>c a)
def Zg(v:ST U)(A B:Prop):Prop:=
 match v with
 |.e (.c (.d (.sc (.bool true))))=>A
 |.e (.c (.d (.sc (.bool false))))=>B
 |.e (.c (.d (.b8 p)))=>(p=true->A)/\(p=false->B)
 |_=>False
def QK(K:mF->SS U->Prop)(N:SS U->Prop)(b:mF)(a:SS U):Prop:=
 match b with|.fC=>N a|.ext i=>K (.ext i) a|.ret=>K .ret a
def ac4(V:bU P U)(aN:au)(d:List (Nat×mE U))(id:Nat)(e:SS U->(mF->SS U->Prop)->Prop)(a:SS U)(K:mF->SS U->Prop):Prop:=
 match AS d id with
 |some L=>∃c,mt V aN a (L.st c) (L.G c)/\∀x,L.G x->se (L.st x) λa=>e a (QK K λb=>∃y,mt V aN b (L.st y) (L.G y/\L.mu y<L.mu x))
 |none=>(match AS d (id+1000000)with
  |some L=>∃R:L.X->Prop,∃c,mt V aN a (L.st c) (L.G c/\R c)/\∀x,L.G x->R x->se (L.st x) λa=>e a (QK K λb=>∃y,mt V aN b (L.st y) (L.G y/\R y/\L.mu y<L.mu x))
  |none=>(match AS d (id+2000000)with
   |some L=>xQ aN (YG a) a λa=>∃c,mt V aN a (L.st c) (L.G c)/\∀x,L.G x->se (L.st x) λa=>e a (QK K λb=>∃y,mt V aN b (L.st y) (L.G y/\L.mu y<L.mu x))
   |none=>False))
def jW(K:mF->SS U->Prop)(N:SS U->Prop)(b:mF)(a:SS U):Prop:=
 match b with|.fC=>N a|.ext i=>K (.ext i) a|.ret=>K .ret a
def Ya(i:Nat)(K:mF->SS U->Prop)(b:mF)(a:SS U):Prop:=
 match b with|.fC=>K .fC a|.ext j=>(match Nat.beq j i with|true=>K .fC a|false=>K (.ext j) a)|.ret=>K .ret a
def YZ:Code->Option (Array Oper)
 |.region _ a true=>(match YY a with|true=>some a|false=>none)
 |_=>none
def ahx(V:bU P U)(n:Nat)(aN:au)(e:jT P U)(f:List (Nat×mE U))(id:Nat)(a:Code)(j:SS U)(h:SS U->Prop)(i:(mF->SS U->Prop)->Prop)(K:mF->SS U->Prop):Prop:=
 match YZ a with
 |some b=>(match AS f (id+4000000)with
  |some L=>∃R:L.X->Prop,BF V n b aN e b.toList.length (List.replicate b.toList.length false) j (λc=>∃d,mt V aN c (L.st d) (L.G d/\R d))/\∀x,L.G x->R x->se (L.st x) h
  |none=>i (jW K (zA V aN f id h)))
 |none=>i (jW K (zA V aN f id h))
def fw(V:bU P U)(n:Nat)(aN:au)(d:jT P U)(f:List (Nat×mE U)):Code->SS U->(mF->SS U->Prop)->Prop
 |.skip,c,K=>K .fC c
 |.ret,c,K=>K .ret c
 |.exit i,c,K=>K (.ext i) c
 |.seq a b,c,K=>ahx V n aN d f (AT b) a c (λc=>fw V n aN d f b c K) (λK=>fw V n aN d f a c K) K
 |.cond x a b,c,K=>Zg (c.ev x) (fw V n aN d f a c K) (fw V n aN d f b c K)
 |.block i a,c,K=>fw V n aN d f a c (Ya i K)
 |.loop a,c,K=>ac4 V aN f (AT a) (λc K=>fw V n aN d f a c K) c K
 |.region id e draw,c,K=>zA V aN f (id+8000000) (λc=>match draw with|false=>pL V n e aN d e.toList c (K .fC)|true=>(match YY e with|true=>BF V n e aN d e.toList.length (List.replicate e.toList.length false) c (K .fC)|false=>wv V n e aN d e.toList c [] [] (K .fC))) c
 |.scope a,c,K=>fw V n aN d f a c K
 |.label _,c,K=>K .fC c
 |_,_,_=>False
def LX{V:bU P U}{n:Nat}{aN:au}{m:List (Nat×mE U)}{id:Nat}{kb:SS U->Prop}{l:SS U}{Q:lI}(h:zA V aN m id kb l)(b:∀a,kb a->WP P n (·∈aN) c a.st Q):WP P n (·∈aN) c l.st Q:=by
 unfold zA at h;split at h
 ·obtain⟨R,d,e,f⟩:=h;obtain⟨⟨i,j⟩,k⟩:=nY e n;exact WP.tX k (b _ (vE (f d i j)))
 ·split at h
  ·obtain⟨o,p,h⟩:=LZ V (n:=n) h;obtain⟨R,d,e,f⟩:=h;obtain⟨⟨i,j⟩,k⟩:=nY e n;exact WP.tX (p.trans k) (b _ (vE (f d i j)))
  ·exact b _ h
def DX{V:bU P U}{n:Nat}{aN:au}{u:jT P U}{H:List (Nat×mE U)}(hm:P.follows .mixedOrders=true):∀(c:Code)(k:SS U)(K:mF->SS U->Prop),fw V n aN u H c k K->
 ∀Q:lI,(∀q m,K q m->Q.out q m.st)->WP P n (·∈aN) c k.st Q:=by
 intro c
 induction c with
 |skip=>intro k K h Q f;exact WP.skip (f .fC k h)
 |ret=>intro k K h Q f;exact WP.ret (f .ret k h)
 |exit i=>intro k K h Q f;exact WP.exit (f (.ext i) k h)
 |seq a b r t=>
  intro k K h Q f;have M:fw V n aN u H a k (jW K (zA V aN H (AT b) λk=>fw V n aN u H b k K))->WP P n (·∈aN) (.seq a b) k.st Q:=λh=>by
   refine WP.seq (r k _ h _ λq m o=>?_);cases q with
   |fC=>exact LX (kb:=λk=>fw V n aN u H b k K) o λm h'=>t m K h' Q f
   |ext i=>exact f _ _ o
   |ret=>exact f _ _ o
  simp only[fw]at h;unfold ahx at h;split at h
  ·rename_i ops s;split at h
   ·rename_i L hL;obtain⟨R,v,z⟩:=h;have ea:∃id,a=.region id ops true:=by
     unfold YZ at s;split at s
     ·split at s
      ·injection s with e;subst e;exact⟨_,rfl⟩
      ·cases s
     ·cases s
    obtain⟨id,rfl⟩:=ea;refine WP.seq (aje hm v λm o=>?_);obtain⟨A,o⟩:=o;obtain⟨⟨B,D⟩,E⟩:=nY o n;exact WP.tX E (t _ _ (vE (z A B D)) Q f)
   ·exact M h
  ·exact M h
 |scope a r=>intro k K h Q f;exact WP.scope (r k K h Q f)
 |label l=>intro k K h Q f;exact λ_ _ _ _ _ R=>wp_label ⟨k.st,R,f .fC k h⟩
 |cond x a b r t=>
  intro k K h Q f;simp only[fw]at h;unfold Zg at h;split at h
  ·rename_i N;exact WP.cond true (by rw[c8,N];rfl) (λ_=>r k K h Q f) (λe=>by cases e)
  ·rename_i N;exact WP.cond false (by rw[c8,N];rfl) (λe=>by cases e) (λ_=>t k K h Q f)
  ·rename_i p N;exact WP.cond p (by rw[c8,N];rfl) (λe=>r k K (h.1 e) Q f) (λe=>t k K (h.2 e) Q f)
  ·cases h
 |block i a r=>
  intro k K h Q f;refine WP.block (r k _ h _ λq m o=>?_);cases q with
  |fC=>exact f _ _ o
  |ext j=>
   simp only[Ya]at o;show(if j=i then Q.fC m.st else Q.ext j m.st);split at o
   ·rename_i e;rw[aK (cO e)];exact f _ _ o
   ·rename_i e;rw[g (p9 e)];exact f _ _ o
  |ret=>exact f _ _ o
 |loop a r=>
  intro k K h Q f;simp only[fw]at h;unfold ac4 at h;split at h
  ·rename_i L hL;obtain⟨A,v,z⟩:=h;obtain⟨g0,E⟩:=nY v n;refine WP.loop (λx=>(L.st x).st) L.G L.mu A E g0 λx G=>r _ _ (vE (z x G)) _ λq m o=>?_
   cases q with
   |fC=>obtain⟨y,T⟩:=o;obtain⟨⟨B,D⟩,X⟩:=nY T n;exact⟨y,X,B,D⟩
   |ext i=>exact f _ _ o
   |ret=>exact f _ _ o
  ·split at h
   ·rename_i L hL;obtain⟨d,A,v,z⟩:=h;obtain⟨g0,E⟩:=nY v n;refine WP.loop (λx=>(L.st x).st) (λx=>L.G x/\d x) L.mu A E g0 λx G=>r _ _ (vE (z x G.1 G.2)) _ λq m o=>?_
    cases q with
    |fC=>obtain⟨y,T⟩:=o;obtain⟨⟨B,D,g3⟩,X⟩:=nY T n;exact⟨y,X,⟨B,D⟩,g3⟩
    |ext i=>exact f _ _ o
    |ret=>exact f _ _ o
   ·split at h
    ·rename_i L hL;obtain⟨Z,w2,h⟩:=LZ V (n:=n) h;obtain⟨A,v,z⟩:=h;obtain⟨g0,E⟩:=nY v n;refine WP.loop (λx=>(L.st x).st) L.G L.mu A (w2.trans E) g0 λx G=>r _ _ (vE (z x G)) _ λq m o=>?_
     cases q with
     |fC=>obtain⟨y,T⟩:=o;obtain⟨⟨B,D⟩,X⟩:=nY T n;exact⟨y,X,B,D⟩
     |ext i=>exact f _ _ o
     |ret=>exact f _ _ o
    ·cases h
 |region id ops draw=>
  intro k K h Q f;simp only[fw]at h;refine LX h λk h=>?_
  split at h
  ·have:=zS _ _ _ h;have h2:WP P n (·∈aN) (.region id ops.toList.toArray false) k.st Q:=by refine WP.region ?_;have e:ops.toList.toArray=ops:=ai;rw[e];intro C hn Y a w R Q' hq;exact this C hn Y a w R Q' λa' w' σ1 R1 ⟨Z,e2,k2⟩=>hq a' w' σ1 R1 (e2▸f .fC Z k2)
   simpa using h2
  ·split at h
   ·exact aje hm h λm o=>f .fC m o
   ·exact aGS hm h λm o=>f .fC m o
 |_=>intro k K h;cases h
end
section
variable {P:ay}{U:gw}
def tY:Nat->List (SE U)->List (Nat×ST U)
 |_,[]=>[]
 |k,x::r=>(k,.e x)::tY (k+1) r
theorem ME:∀(l:List (SE U)) (k:Nat),jk (tY k l)=zV k (l.map SE.den)
 |[],_=>rfl
 |x::r,k=>by have:=ME r (k+1);simp only[tY,jk,dc,zV]at this⊢;rw[this];rfl
def F1(args:List (SE U)):SS U:=⟨tY 0 args,[],0⟩
def ab3(args:List (SE U)):(F1 args).st=⟨nH (args.map SE.den),tI⟩:=by unfold F1 SS.st nH;simp only[ME];congr 1
def GS(V:bU P U)(b:SS U):ResultVar->Option (ST U)
 |.tmp t=>some (gE b.aT t)
 |.cell a t=>(match gE b.aT a,V.ty t with
  |.e (.c (.ptr s d)),some f=>(match bX b.heap s with|some (.cells h)=>xH f.ag f.sz h d|_=>none)
  |_,_=>none)
def GR(V:bU P U)(a:SS U):List ResultVar->Option (List (SE U))
 |[]=>some []
 |r::c=>(match GS V a r,GR V a c with|some (.e x),some b=>some (x::b)|_,_=>none)
def zy(V:bU P U)(a:SS U):List ResultVar->Option (ST U)
 |[r]=>GS V a r
 |c=>(match GR V a c with|some b=>some (.cn b)|none=>none)
def agi{V:bU P U}{b:SS U}{r:ResultVar}{x:ST U}(h:GS V b r=some x):zx P b.st r=some x.den:=by
 cases r with
 |tmp t=>simp only[GS,cY]at h;subst h;simp only[zx,pG]
 |cell a t=>
  simp only[GS]at h;split at h
  ·rename_i s c j e f;split at h
   ·rename_i d i;simp only[zx,pG,e];show(match b.st.heap s with|some d=>mM P t d c|none=>none)=_;rw[fZ,i];exact Dn (V.gg _ _ f) h
   ·cases h
  ·cases h
theorem agf{V:bU P U}{c:SS U}:∀{b:List ResultVar} {a:List (SE U)},GR V c b=some a->uZ P c.st b=some (a.map SE.den)
 |[],a,h=>by simp only[GR,cY]at h;subst h;rfl
 |r::b,a,h=>by
  simp only[GR]at h;split at h
  ·rename_i x f e d;injection h with h;subst h
   simp only[uZ,agi e,agf d];rfl
  ·cases h
def SK{V:bU P U}{b:SS U}{x:ST U}(h:zy V b L=some x):sF P L b.st=some x.den:=by
 unfold zy at h;split at h
 ·exact agi h
 ·rename_i a;split at h
  ·rename_i d c;injection h with h;subst h
   unfold sF;split
   ·rename_i r;exact absurd rfl (a r)
   ·rw[agf c];rfl
  ·cases h
def SV.Bn{v:SV U}(h:v.db=[]):v.den.eU N=v.den:=by cases v<;>simp_all[SV.db,SV.den,Ab.V.eU]
theorem SE.Bn{x:SE U}(h:x.db=[]):x.den.eU N=x.den:=by
 cases x with
 |c v=>simp only[SE.den,E.eU,SV.Bn (show v.db=[]from h)]
 |agg b=>simp only[SE.db,List.flatMap_eq_nil_iff]at h;simp only[SE.den,E.eU,ir];congr 1;apply lc;intro v a;exact SV.Bn (h v a)
theorem ST.Bn{x:ST U}(h:x.db=[]):x.den.eU N=x.den:=by
 cases x with
 |e v=>simp only[ST.den,T.eU,SE.Bn (show v.db=[]from h)]
 |cn b=>simp only[ST.db,List.flatMap_eq_nil_iff]at h;simp only[ST.den,T.eU,ir];congr 1;apply lc;intro v a;exact SE.Bn (h v a)
 |any=>rfl
def K0{r:ST U}(h:r.db=[]):∀s,¬r.den.bK s:=λs Y=>by have:=T.oE Y;rw[ST.oD,h]at this;simp at this
def tN(V:bU P U)(c:List ResultVar)(r:ST U)(b:SS U):Prop:=
 match zy V b c,r.db with
 |some e,[]=>xQ [] e.db b λa=>(match zy V a c with|some d=>Ka V [] d r True|none=>False)
 |_,_=>False
def Uu(V:bU P U)(a:jT P U)(h:List (Nat×mE U))(f:Nat)(e:List ResultVar)(c:Code)(args:List (SE U))(r:ST U):Prop:=
 fw V f [] a h c (F1 args) λb d=>(match b with|.ext _=>False|.fC=>tN V e r d|.ret=>tN V e r d)
def ahF{V:bU P U}{n:Nat}{r:ST U}{b:SS U}(h:tN V L r b):(∀s,¬r.den.bK s)/\∃c:St,dm n (·∈([]:au)) b.st c/\∃d,sF P L c=some d/\pU d r.den:=by
 unfold tN at h;split at h
 ·rename_i k l f;obtain⟨a,w,h⟩:=LZ V (n:=n) h;split at h
  ·rename_i i j;obtain⟨_,e⟩:=acS h;rw[ST.Bn f]at e;exact⟨λs Y=>by have:=T.oE Y;rw[ST.oD,f]at this;simp at this,a.st,w,i.den,SK j,e⟩
  ·cases h
 ·cases h
def aji{V:bU P U}{o:jT P U}{u:List (Nat×mE U)}(v:P.follows .mixedOrders=true)(x:P.funcs[f]?=some B)(y:B.body=some c)(d:(B.name== "runtime.NumGoroutine")=false)
 {args:List (SE U)}{r:ST U}(z:args.length<=B.ntmps)(A:∀s,¬r.den.bK s)(h:Uu V o u B.ntmps B.results.toList c args r):li P f (args.map SE.den) r.den:=by
 refine cN.intro x y d (an z) (λs h=>h.elim) (λs h=>(A s h).elim) (λt cs h=>by cases h) ?_;have e:(λ_:Nat=>False)=(·∈([]:au)):=by funext s;simp
 rw[e,<-ab3];have b:∀a:SS U,tN V B.results.toList r a->∃j,dm B.ntmps (·∈([]:au)) a.st j/\∃m,sF P B.results.toList j=some m/\pU m r.den/\∀s cs,tI s=some cs->∃k,j.heap s=some k/\lF k cs:=λa h=>by obtain⟨_,j,w,m,C,D⟩:=ahF (n:=B.ntmps) h;exact⟨j,w,m,C,D,λs cs h=>by cases h⟩
 refine WP.post (Q:=⟨λs=>∃a:SS U,a.st=s/\tN V B.results.toList r a,λ_ _=>False,λs=>∃a:SS U,a.st=s/\tN V B.results.toList r a⟩) ?_ ?_ (λi a h=>h.elim) ?_
 ·refine DX v c _ _ h _ λp l q=>?_
  cases p with
  |fC=>exact⟨l,rfl,q⟩
  |ext i=>cases q
  |ret=>exact⟨l,rfl,q⟩
 ·rintro s ⟨a,rfl,h⟩;exact b a h
 ·rintro s ⟨a,rfl,h⟩;exact b a h
def vcO(V:bU P U)(aN:au)(a:jT P U)(h:List (Nat×mE U))(f:Nat)(c:Code)(H:List (Nat×aV U))(args:List (SE U))(d:SS U):Prop:=
 fw V f aN a h c ⟨tY 0 args,H,H.length⟩ λb e=>(match b with|.ext _=>False|.fC=>mt V aN e d True|.ret=>mt V aN e d True)
def IZ(H:List (Nat×aV U)):Bool:=H.all λp=>p.2.db.all (kh H)
def Md(H a:List (Nat×aV U)):=∀s b,bX H s=some b->bX a s=some b
def Dj(V:bU P U)(aN:au)(b:SS U):lI:=⟨λs=>∃a:SS U,a.st=s/\mt V aN a b True,λ_ _=>False,λs=>∃a:SS U,a.st=s/\mt V aN a b True⟩
def LU{V:bU P U}{aN:au}(q:P.funcs[f]?=some B)(u:B.body=some c)(a:(B.name== "runtime.NumGoroutine")=false)
 {H j:List (Nat×aV U)}{args:List (SE U)}{r:ST U}{τ:SS U}(v:args.length<=B.ntmps)(n:r.db.all (kh j)=true)(m:IZ j=true)(o:aN.all (kh j)=true)(k:zy V τ B.results.toList=some r)(l:Md j τ.heap)
 (h:WP P B.ntmps (·∈aN) c (⟨tY 0 args,H,H.length⟩:SS U).st (Dj V aN τ)):cN P f (bJ (bP H)) (args.map SE.den) (bJ (bP j)) (·∈aN) r.den:=by
 rw[eM]at n o;unfold IZ at m;rw[eM]at m;refine cN.intro q u a (an v) (λs Y=>AW (o s Y)) (λs Y=>AW (n s (by rw[<-ST.oD];exact T.oE Y))) (λt w p x y s Y=>?_) ?_
 ·rw[gz,gM]at p;obtain⟨b,d,rfl⟩:=p;have:=m (t,b) (JY _ _ _ d);rw[eM]at this;exact AW (this s (aV.Qw y Y))
 ·have e:(⟨nH (args.map SE.den),bJ (bP H)⟩:St)=(⟨tY 0 args,H,H.length⟩:SS U).st:=by unfold SS.st nH;simp only[ME]
  rw[e];refine WP.post h ?_ (λi z h=>h.elim) ?_
  all_goals
   rintro s ⟨z,rfl,h⟩;refine⟨τ.st,(nY h B.ntmps).2,r.den,SK k,pU.refl _,λs w Y=>?_⟩;rw[gz,gM]at Y;obtain⟨b,d,rfl⟩:=Y;exact⟨b.den,by rw[fZ,l s b d];rfl,lF.refl _⟩
def DY{V:bU P U}{aN:au}{reg:jT P U}{ls:List (Nat×mE U)}(m:P.follows .mixedOrders=true)(n:P.funcs[f]?=some B)(o:B.body=some c)(a:(B.name== "runtime.NumGoroutine")=false)
 {H b:List (Nat×aV U)}{args:List (SE U)}{r:ST U}{τ:SS U}(p:args.length<=B.ntmps)(q:r.db.all (kh b)=true)(s:IZ b=true)(d:aN.all (kh b)=true)(e:zy V τ B.results.toList=some r)(j:Md b τ.heap)
 (h:vcO V aN reg ls B.ntmps c H args τ):cN P f (bJ (bP H)) (args.map SE.den) (bJ (bP b)) (·∈aN) r.den:=
 LU n o a p q s d e j (DX m c _ _ h _ λl k d=>by
  cases l with
  |fC=>exact⟨k,rfl,d⟩
  |ext i=>cases d
  |ret=>exact⟨k,rfl,d⟩)
inductive qG(U:gw)where
 |el (k:U.K)
 |ls (k:U.K)
 |int (k:IntKind)
 |bool
 |kx
def qG.T:qG U->Type
 |.el k=>U.El k
 |.ls k=>List (U.El k)
 |.int _=>Int
 |.bool=>Bool
 |.kx=>ByteArray
def iY(V:bU P U):(p:qG U)->p.T->SE U
 |.el k,x=>.agg ((V.row k x).map .d)
 |.ls k,l=>.c (.d (.bf k l))
 |.int k,n=>.c (.d (.sc (.int k n)))
 |.bool,b=>.c (.d (.b8 b))
 |.kx,s=>.c (.d (.sc (.string s)))
def oL(V:bU P U)(p:qG U)(a:SE U)(K:p.T->Prop):Prop:=
 match p,K with
 |.el k,K=>(match a with|.agg f=>(match GD V k (.agg f)with|some x=>K x|none=>False)|_=>False)
 |.ls k,K=>(match a with
  |.c (.d (.bf e l))=>(match V.cast k e l with|some l=>K l|none=>False)
  |.c (.d (.sc (.slice none 0 0)))=>K []
  |_=>False)
 |.int k,K=>(match a with|.c (.d (.sc (.int e n)))=>(match decide (e=k)with|true=>K n|false=>False)|_=>False)
 |.bool,K=>(match a with|.c (.d (.b8 b))=>K b|.c (.d (.sc (.bool b)))=>K b|_=>False)
 |.kx,K=>(match a with|.c (.d (.sc (.string s)))=>K s|_=>False)
theorem aiM:∀(a:List Ab.V)(b:List D),lY a=some b->a.map Ab.V.cH=b.map Ab.V.d
 |[],b,h=>by simp only[lY,cY]at h;subst h;rfl
 |v::a,b,h=>by
  simp only[lY]at h;split at h
  ·rename_i x d c e;injection h with h;subst h
   rw[dc,dc,aiM a d e];congr 1;cases v<;>simp only[Mm,reduceCtorEq,cY]at c;subst c;rfl
  ·cases h
def qj{V:bU P U}{p:qG U}{a:SE U}{K:p.T->Prop}(h:oL V p a K):∃x,a.den.cH=(iY V p x).den/\K x:=by
 unfold oL at h;split at h
 ·rename_i k K;split at h
  ·rename_i f;split at h
   ·rename_i x d;refine⟨x,?_,h⟩;obtain⟨c,_⟩:=RX V d;simp only[SE.den,E.cells]at c;simp only[SE.den,E.cH,iY];rw[aiM _ _ c,<-V.GY];simp[vh,SV.den]
   ·cases h
  ·cases h
 ·rename_i k K;split at h
  ·split at h
   ·rename_i l e;refine⟨l,?_,h⟩;simp only[SE.den,SV.den,SD.den,iY];rw[(V.sa _ _ _ _ e).1];rfl
   ·cases h
  ·exact⟨[],rfl,h⟩
  ·cases h
 ·split at h
  ·split at h
   ·rename_i b;simp only[be]at b;subst b;exact⟨_,rfl,h⟩
   ·cases h
  ·cases h
 ·split at h
  ·exact⟨_,rfl,h⟩
  ·exact⟨_,rfl,h⟩
  ·cases h
 ·split at h
  ·exact⟨_,rfl,h⟩
  ·cases h
def uz(V:bU P U)(f:FuncId)(b:qG U)(Pre:b.T->Prop)(R:b.T->ST U)(h:∀x,Pre x->li P f [(iY V b x).den] (R x).den):Ct P U where
 f:=f
 run args K:=match args with|[a]=>oL V b a λx=>Pre x/\K (R x)|_=>False
 ok args K hr:=by
  split at hr
  ·obtain⟨x,e,d,c⟩:=qj hr;exact⟨_,by simp only[dc,gL,e];exact h x d,c⟩
  ·cases hr
def qO(V:bU P U)(f:FuncId)(d c:qG U)(Pre:d.T->c.T->Prop)(R:d.T->c.T->ST U)(h:∀x y,Pre x y->li P f [(iY V d x).den,(iY V c y).den] (R x y).den):Ct P U where
 f:=f
 run args K:=match args with|[a,b]=>oL V d a λx=>oL V c b λy=>Pre x y/\K (R x y)|_=>False
 ok args K hr:=by
  split at hr
  ·obtain⟨x,e,hr⟩:=qj hr;obtain⟨y,k,j,i⟩:=qj hr;exact⟨_,by simp only[dc,gL,e,k];exact h x y j,i⟩
  ·cases hr
def CA(V:bU P U)(f:FuncId)(j i d:qG U)(Pre:j.T->i.T->d.T->Prop)(R:j.T->i.T->d.T->ST U)(h:∀x y z,Pre x y z->li P f [(iY V j x).den,(iY V i y).den,(iY V d z).den] (R x y z).den):Ct P U where
 f:=f
 run args K:=match args with|[a,b,c]=>oL V j a λx=>oL V i b λy=>oL V d c λz=>Pre x y z/\K (R x y z)|_=>False
 ok args K hr:=by
  split at hr
  ·obtain⟨x,e,hr⟩:=qj hr;obtain⟨y,n,hr⟩:=qj hr;obtain⟨z,m,l,k⟩:=qj hr;exact⟨_,by simp only[dc,gL,e,n,m];exact h x y z l,k⟩
  ·cases hr
def Zk(V:bU P U)(f:FuncId)(l k j i:qG U)(Pre:l.T->k.T->j.T->i.T->Prop)(R:l.T->k.T->j.T->i.T->ST U)(h:∀x y z u,Pre x y z u->li P f [(iY V l x).den,(iY V k y).den,(iY V j z).den,(iY V i u).den] (R x y z u).den):Ct P U where
 f:=f
 run args K:=match args with|[a,b,c,d]=>oL V l a λx=>oL V k b λy=>oL V j c λz=>oL V i d λu=>Pre x y z u/\K (R x y z u)|_=>False
 ok args K hr:=by
  split at hr
  ·obtain⟨x,e,hr⟩:=qj hr;obtain⟨y,q,hr⟩:=qj hr;obtain⟨z,p,hr⟩:=qj hr;obtain⟨u,o,n,m⟩:=qj hr;exact⟨_,by simp only[dc,gL,e,q,p,o];exact h x y z u n,m⟩
  ·cases hr
end
def FZ{a:Type}:Tr a->Nat->Option a
 |.lf,_=>none
 |.nd v l r,k=>match Nat.beq k 0 with|true=>v|false=>match Nat.beq (k%2) 1 with|true=>FZ l (k/2)|false=>FZ r (k/2-1)
def EK{a:Type}(p:Nat->a->Prop):Tr a->(Nat->Nat)->Prop
 |.lf,_=>True
 |.nd v l r,j=>(match v with|some x=>p (j 0) x|none=>True)/\EK p l (λi=>j (2*i+1))/\EK p r (λi=>j (2*i+2))
theorem P9{c:Type}{p:Nat->c->Prop}:∀(t:Tr c)(j:Nat->Nat),EK p t j->∀(k:Nat)(x:c),FZ t k=some x->p (j k) x
 |.lf,_,_,_,_,h=>by cases h
 |.nd v l r,j,d,k,x,h=>by
  obtain⟨f,i,m⟩:=d;simp only[FZ]at h;split at h
  ·rename_i b;rw[cO b];subst h;exact f
  ·rename_i b;have b:=p9 b;split at h
   ·rename_i a;have a:=cO a;have:=P9 l _ i _ x h;have e:2*(k/2)+1=k:=O;simp only[e]at this;exact this
   ·rename_i a;have a:=p9 a;have:=P9 r _ m _ x h;have e:2*(k/2-1)+2=k:=O;simp only[e]at this;exact this
def JQ(P:ay)(t:TypeId):Nat->List (Nat×TypeId)->Bool
 |_,[]=>true
 |i,p::r=>decide (wq P t i=some p)&&JQ P t (i+1) r
theorem abk:∀{l:List (Nat×TypeId)} {i:Nat},JQ P t i l=true->∀f p,l[f]?=some p->wq P t (i+f)=some p
 |[],_,_,f,p,b=>by simp at b
 |a::r,i,h,f,p,b=>by
  simp only[JQ,dB,be]at h;cases f with
  |zero=>simp only[jH,cY]at b;subst b;exact h.1
  |succ f=>have:=abk h.2 f p (an b);rw[show i+(f+1)=i+1+f by omega];exact this
def Ug(P:ay)(t:TypeId)(i:TI):Bool:=
 decide (fb P t=some i.sz)&&decide (oc P t=some i.dT)&&decide (Hc P t=some i.ag)&&JQ P t 0 i.AV&&decide (jF P t=i.sl)&&decide (wo P t=i.ar)&&decide (zJ P t=i.ik)&&(rB P t==i.st)&&(Bz P t==i.bo)&&
 (match i.zs with|some a=>Nat.beq a.length i.sz|none=>true)&&(match i.pl with|some b=>decide (He P t=some b)|none=>true)&&decide (aiK P t=i.Q1)
def aGi{i:TI}(h:Ug P t i=true)(l:∀c,i.zs=some c->jZ P t=some (c.map λv=>.d (.sc v))):yI P t i:=by
 unfold Ug at h;simp only[dB,be,jw]at h;obtain⟨⟨⟨⟨⟨⟨⟨⟨⟨⟨⟨m,n⟩,o⟩,q⟩,r⟩,s⟩,u⟩,w⟩,x⟩,a⟩,b⟩,e⟩:=h;refine⟨m,n,o,λf p hf=>by have:=abk q f p hf;rwa [oo]at this,r,s,u,w,x,l,λc j=>?_,λy k=>?_,e⟩
 ·rw[j]at a;exact cO a
 ·rw[k]at b;simpa using b
def Kv{b a:Type}(f:Nat->b->a):Tr b->(Nat->Nat)->Tr a
 |.lf,_=>.lf
 |.nd v l r,j=>.nd (v.map (f (j 0))) (Kv f l λi=>j (2*i+1)) (Kv f r λi=>j (2*i+2))
theorem T9:∀{t:Tr TI}{j:Nat->Nat},Kv (λk i=>(Ug P k i,i.zs.map λ_=>jZ P k)) t j=Kv (λ_ i=>(true,i.zs.map λz=>some (z.map λv=>.d (.sc v)))) t j->EK (yI P) t j
 |.lf,_,_=>trivial
 |.nd v l r,j,h=>by
  injection h with c e f
  refine⟨?_,T9 e,T9 f⟩;cases v with
  |none=>trivial
  |some i=>
   injection c with c
   injection c with a b
   exact aGi a λn m=>by rw[m]at b;injection b
section
variable {P:ay}{U:gw}{V:bU P U}{n:Nat}{aN:au}{reg:jT P U}{ls:List (Nat×mE U)}
def mN(_:mF)(_:SS U):=False
theorem pK(f:P.follows .mixedOrders=true){b:SS U}{N:SS U->Prop}(h:fw V n aN reg ls c b (jW mN N)){Q:St->Prop}(j:∀a,N a->Q a.st):WP P n (·∈aN) c b.st (iy Q):=
 DX f c b _ h _ λd a e=>by
  cases d with
  |fC=>exact j _ e
  |ext i=>cases e
  |ret=>cases e
def Ut(V:bU P U)(n:Nat)(aN:au)(reg:jT P U)(d c b:Code)(a:SS U)(N:SS U->Prop):Prop:=
 fw V n aN reg [] d a (jW mN λa=>fw V n aN reg [] c a (jW mN λa=>fw V n aN reg [] b a (jW mN N)))
theorem ajd(b:P.follows .mixedOrders=true){d:SS U}{N:SS U->Prop}(h:Ut V n aN reg c w v d N){Q:St->Prop}(e:∀a,N a->Q a.st):
 WP P n (·∈aN) c d.st (iy λs=>WP P n (·∈aN) w s (iy λs=>WP P n (·∈aN) v s (iy Q))):=
 pK b h λ_ h=>pK b h λ_ h=>pK b h e
def fP.post{aS:aq}{K':St->Prop}(h:fP P n aS X l A K)(i:∀s,K s->∃b,dm n aS s b/\K' b):fP P n aS X l A K':=
 λC d Y a w R Q j=>h C d Y a w R Q λe f s m k=>by obtain⟨b,o,c⟩:=i s k;exact j e f b (o C d Y e f m) c
theorem Mx{b:SS U}{N:SS U->Prop}(h:pL V n X aN reg l b N){Q:St->Prop}(d:∀a,N a->∃c,dm n (·∈aN) a.st c/\Q c):fP P n (·∈aN) X l b.st Q:=
 (zS l b _ h).post λs ⟨a,e,k⟩=>by subst e;exact d a k
def XA(args:List (SE U))(H:List (Nat×aV U))(c:Nat):(⟨nH (args.map SE.den),bJ (bP H)⟩:St)=(⟨tY 0 args,H,c⟩:SS U).st:=by unfold SS.st nH;simp only[ME]
def aGv(e:List (Nat×ST U))(H:List (Nat×aV U))(c i:Nat)(t:ST U):(⟨iX (SS.mk e H c).st.aT i t.den,(SS.mk e H c).st.heap⟩:St)=(⟨(i,t)::e,H,c⟩:SS U).st:=by unfold SS.st;congr 1
def Q_{σ:SS U}(h:(σ.aT.all λp=>p.2.db.all λs=>aN.contains s)=true)(i s:Nat)(Y:(σ.st.aT i).bK s):s∈aN:=by
 have e:σ.st.aT i=(gE σ.aT i).den:=vW σ.aT i;rw[e]at Y;have d:=T.oE Y;rw[ST.oD]at d;rw[eM]at h;have b:∀l:List (Nat×ST U),(∀p∈l,(p.2.db.all λs=>aN.contains s)=true)->s∈(gE l i).db->s∈aN:=by
  intro l
  induction l with
  |nil=>intro _ h;cases h
  |cons p r f=>
   obtain⟨j,t⟩:=p;intro c a;simp only[gE]at a;split at a
   ·have:=c (j,t) (bZ ..);rw[eM]at this;simpa using this s a
   ·exact f (λp k=>c p (cE _ k)) a
 exact b _ h d
end
def aHq{P:ay}(j:List Oper):∀(l:List Oper)(a:Act)(w:World),wpList P X (λe a w=>e=.normal/\wpList P X Q j a w) l a w->wpList P X Q (l++j) a w:=by
 intro l
 induction l with
 |nil=>intro a w h;exact h.2
 |cons o l k=>
  intro a w h;simp only[wpList,ei]at h⊢;split
  ·rename_i c;rw[aK c]at h;rcases h with h|⟨_,_,_,h,_⟩
   ·left;have b:=UI (λa w h=>k a w h) h;unfold Oper.wp at*;generalize(execOp a.eval o).run P w=r at*;cases r with
    |ok x m=>
     cases x with
     |value v=>exact b
     |skip=>exact b
     |defer d=>exact b
     |enter f args=>
      refine Calls.mono b ?_;intro e p i;cases e
      ·exact i
      ·cases i.1
      ·obtain⟨_,_,h,_⟩:=i;cases h
     |row r args=>exact b
     |_=>exact b
    |halt x m=>cases x<;>first|exact b|cases b.1
   ·cases h
  ·rename_i c;rw[g c]at h;exact k _ w h
def fP.then{P:ay}{n:Nat}{aS:aq}(h:fP P n aS X l A λs=>fP P n aS X r s K):fP P n aS X (l++r) A K:=
 λC b Y a w R Q c=>aHq r l a w (h C b Y a w R _ λd e s f k=>⟨rfl,k C b Y d e f Q c⟩)
section
variable {P:ay}{U:gw}{V:bU P U}{n:Nat}{aN:au}{reg:jT P U}
def acG{a:SS U}{v:ST U}{b:aV U}(f:M=b.den):dm n (·∈aN) ⟨iX (λi=>(a.st.aT i).b_ s) d v.den,cX (λu=>(a.st.heap u).map (List.map (Ab.V.b_ s))) s (some M)⟩ (⟨(d,v)::xu s a.aT,(s,b)::uM s a.heap,a.bV⟩:SS U).st:=by
 subst f;have j:cX (λu=>(a.st.heap u).map (List.map (Ab.V.b_ s))) s (some b.den)=bJ (bP ((s,b)::uM s a.heap)):=by
  funext u;rw[gz];simp only[cX,bX];by_cases c:u=s
  ·subst c;rw[aK rfl,HZ];rfl
  ·rw[g c];have:Nat.beq u s=false:=by
    cases h:Nat.beq u s with
    |false=>rfl
    |true=>exact absurd (cO h) c
   rw[this];simp only;rw[JZ,g c,fZ,Option.map_map,Option.map_map];congr 1;funext b;exact(aV.sj s b).symm
 rw[j];refine dm.NY (e:=Ab.mk (jk ((d,v)::xu s a.aT))) λi=>?_
 show(if i=d then v.den else Ab.mk (jk (xu s a.aT)) i)=(if i=d then v.den else(a.st.aT i).b_ s)\/(if i=d then v.den else Ab.mk (jk (xu s a.aT)) i)=.any;split
 ·exact .inl rfl
 ·rw[vW,P0,pG];unfold ST.kl;have h:=ST.pf s (gE a.aT i);split
  ·exact .inr rfl
  ·rename_i e;rw[e]at h;exact .inl (T.xt (λk=>by rw[T.nB.2 k]at h;cases h)).symm
theorem aok(V:bU P U){σ:SS U}{p:Nat}(k:U.K)(f l:List (U.El k)){sb:aA}(z:o.op=.call { callee:=.builtin .append,args:=#[x,y],argTypes:=#[m,p]})(i:o.dst=some d)(q:rB P p=true)
 (A:jF P m=some e)(B:fb P e=some 1)(C:oc P e=some 1)(D:jZ P e=some M)(r:M.length=1)(E:σ.ev x=.e (.c (.ty s e (.inr f.length))))(G:σ.ev y=.e (.c (.d (.sc (.string sb)))))(Y:bX σ.heap s=some (.aU k f))
 (H:(bx k l).map Ab.V.d=s9 sb)(K:U.w k=1)(j:f.length+sb.size<=140737488355328)(u:¬s∈aN)(L:d<n):
 eX P n (·∈aN) o σ.st (⟨(d,.e (.c (.ty s e (.inr (f.length+sb.size)))))::xu s σ.aT,(s,.aU k (f++l))::uM s σ.heap,σ.bV⟩:SS U).st:=by
 have a:=eX.aon (P:=P) (n:=n) (aS:=(·∈aN)) (σ:=σ.st) x y m p q sb z d s f.length i ((bx k f).map .d) (s9 sb) sb.size rfl rfl e (by rw[c8,E];rfl) (by rw[fZ,Y];rfl) (by rw[dS,mf V,K,Nat.mul_one]) (by rw[c8,G];rfl) 1 M A B C D r
  (λv w=>by rw[cj]at w;obtain⟨_,_,rfl⟩:=w;exact λh=>h) O j u L
 exact a.tX (acG (b:=.aU k (f++l)) (v:=.e (.c (.ty s e (.inr (f.length+sb.size))))) (by simp only[aV.den,C3,gB,H]))
theorem aoi(V:bU P U){σ:SS U}(k:U.K)(i l:List (U.El k))(z:o.op=.call { callee:=.builtin .append,args:=#[x,y],argTypes:=#[m,m]})(j:o.dst=some d)
 (A:jF P m=some e)(B:fb P e=some 1)(C:oc P e=some 1)(D:jZ P e=some M)(q:M.length=1)(E:σ.ev x=.e (.c (.ty s e (.inr i.length))))(G:mS 1 σ.st.heap (σ.st.ev y)=some ((bx k l).map Ab.V.d,l.length))(Y:bX σ.heap s=some (.aU k i))
 (H:U.w k=1)(p:i.length+l.length<=140737488355328)(r:¬s∈aN)(K:d<n):
 eX P n (·∈aN) o σ.st (⟨(d,.e (.c (.ty s e (.inr (i.length+l.length)))))::xu s σ.aT,(s,.aU k (i++l))::uM s σ.heap,σ.bV⟩:SS U).st:=by
 have u:∀a:List (U.El k),∀v∈(bx k a).map Ab.V.d,¬v.bK s:=λa v w=>by rw[cj]at w;obtain⟨_,_,rfl⟩:=w;exact λh=>h
 have f:=eX.aol (P:=P) (n:=n) (aS:=(·∈aN)) (σ:=σ.st) x y m z d s i.length j ((bx k i).map .d) ((bx k l).map .d) l.length e (by rw[c8,E];rfl) (by rw[fZ,Y];rfl) (by rw[dS,mf V,H,Nat.mul_one]) G 1 M A B C D q
  (u i) (u l) O p r K
 exact f.tX (acG (b:=.aU k (i++l)) (v:=.e (.c (.ty s e (.inr (i.length+l.length))))) (by simp only[aV.den,C3,gB]))
theorem Qa(m:P.follows .mixedOrders=true){id:Nat}(p:X.toList=l++o::r)(A:o.guard=none){b e:SS U}
 (h:fw V n aN reg [] c b (jW mN λb=>fw V n aN reg [] w b (jW mN λb=>pL V n X aN reg l b λb=>∃f:SS U,eX P n (·∈aN) o b.st f.st/\pL V n X aN reg r f λb=>fw V n aN reg [] v b (jW mN λb=>mt V aN b e True)))):
 WP P n (·∈aN) (.seq c (.seq w (.seq (.region id X false) (.seq v .ret)))) b.st (Dj V aN e):=by
 have lift:∀{a:Code}{s:St}{K:St->Prop},WP P n (·∈aN) a s (iy K)->(∀s,K s->WP P n (·∈aN) .ret s (Dj V aN e))->WP P n (·∈aN) (.seq a .ret) s (Dj V aN e):=λq t=>WP.seq (WP.mono q (λs k=>t s k) (λi s k=>k.elim) (λs k=>k.elim))
 have one:∀{a z:Code}{s:St}{K:St->Prop},WP P n (·∈aN) a s (iy K)->(∀s,K s->WP P n (·∈aN) z s (Dj V aN e))->WP P n (·∈aN) (.seq a z) s (Dj V aN e):=λq t=>WP.seq (WP.mono q (λs k=>t s k) (λi s k=>k.elim) (λs k=>k.elim))
 refine one (pK m h (Q:=λs=>∃b:SS U,b.st=s/\fw V n aN reg [] w b _) λd k=>⟨d,rfl,k⟩) ?_;rintro s ⟨B,rfl,h⟩;refine one (pK m h (Q:=λs=>∃b:SS U,b.st=s/\pL V n X aN reg l b _) λd k=>⟨d,rfl,k⟩) ?_;rintro s ⟨u,rfl,h⟩;have j:X=(l++o::r).toArray:=by apply mW;simpa using p
 refine one (K:=λs=>∃b:SS U,b.st=s/\fw V n aN reg [] v b (jW mN λb=>mt V aN b e True)) ?_ ?_
 ·have x:fP P n (·∈aN) X (l++o::r) u.st λs=>∃b:SS U,b.st=s/\fw V n aN reg [] v b (jW mN λb=>mt V aN b e True):=by refine fP.then (fP.post (zS _ _ _ h) ?_);rintro s ⟨C,rfl,f,y,D⟩;exact⟨_,λ_ _ _ _ _ R=>R,fP.step A y (zS _ _ _ D)⟩
  subst j;exact WP.region x
 ·rintro s ⟨E,rfl,h⟩;exact one (pK m h (Q:=λs=>∃b:SS U,b.st=s/\mt V aN b e True) λd k=>⟨d,rfl,k⟩) λs k=>WP.ret k
end
section
variable {P:ay}{U:gw}{V:bU P U}{n:Nat}{aN:au}{reg:jT P U}{ls:List (Nat×mE U)}
def Pd(V:bU P U)(b:List ResultVar)(r:ST U):lI:=⟨λs=>∃a:SS U,a.st=s/\tN V b r a,λ_ _=>False,λs=>∃a:SS U,a.st=s/\tN V b r a⟩
def Pc(V:bU P U)(c:List ResultVar)(r:ST U)(a:mF)(b:SS U):Prop:=match a with|.ext _=>False|.fC=>tN V c r b|.ret=>tN V c r b
theorem aam{r:ST U}(a:mF)(σ:SS U)(h:Pc V L r a σ):(Pd V L r).out a σ.st:=by
 cases a with
 |fC=>exact⟨σ,rfl,h⟩
 |ext i=>cases h
 |ret=>exact⟨σ,rfl,h⟩
theorem aBW(m:P.funcs[f]?=some B)(o:B.body=some c)(d:(B.name== "runtime.NumGoroutine")=false)
 {args:List (SE U)}{r:ST U}(p:args.length<=B.ntmps)(q:∀s,¬r.den.bK s)(h:WP P B.ntmps (·∈([]:au)) c (F1 args).st (Pd V B.results.toList r)):li P f (args.map SE.den) r.den:=by
 refine cN.intro m o d (an p) (λs h=>h.elim) (λs h=>(q s h).elim) (λt cs h=>by cases h) ?_;have e:(λ_:Nat=>False)=(·∈([]:au)):=by funext s;simp
 rw[e,<-ab3];have a:∀b:SS U,tN V B.results.toList r b->∃j,dm B.ntmps (·∈([]:au)) b.st j/\∃l,sF P B.results.toList j=some l/\pU l r.den/\∀s cs,tI s=some cs->∃k,j.heap s=some k/\lF k cs:=λb h=>by obtain⟨_,j,w,l,u,v⟩:=ahF (n:=B.ntmps) h;exact⟨j,w,l,u,v,λs cs h=>by cases h⟩
 refine WP.post h ?_ (λi b h=>h.elim) ?_
 ·rintro s ⟨b,rfl,h⟩;exact a b h
 ·rintro s ⟨b,rfl,h⟩;exact a b h
def vcL(V:bU P U)(n:Nat)(aN:au)(reg:jT P U)(ls:List (Nat×mE U))(K:mF->SS U->Prop)(N:SS U->Prop)(c b:Nat)(f e d:Code)(a:SS U):Prop:=
 fw V n aN reg ls f a (jW K (zA V aN ls c λa=>fw V n aN reg ls e a (jW K (zA V aN ls b λa=>fw V n aN reg ls d a (jW K N)))))
theorem Td(j:P.follows .mixedOrders=true){K:mF->SS U->Prop}{N:SS U->Prop}{Q:lI}(f:∀b a,K b a->Q.out b a.st){d:SS U}(h:fw V n aN reg ls c d (jW K N))(k:∀a,N a->WP P n (·∈aN) w a.st Q):WP P n (·∈aN) (.seq c w) d.st Q:=
 WP.seq (DX j c d _ h _ λb a e=>by
  cases b with
  |fC=>exact k _ e
  |ext i=>exact f _ _ e
  |ret=>exact f _ _ e)
theorem aGT(e:P.follows .mixedOrders=true){K:mF->SS U->Prop}{N:SS U->Prop}{Q:lI}(f:∀b a,K b a->Q.out b a.st){z:Code}{i:SS U}(h:vcL V n aN reg ls K N s d c w v i)(j:∀a,N a->WP P n (·∈aN) z a.st Q):
 WP P n (·∈aN) (.seq c (.seq w (.seq v z))) i.st Q:=
 Td e f h λk l=>LX l λm o=>Td e f o λp q=>LX q λr t=>Td e f t j
def LF(k:U.K)(L:Nat->List (U.El k)):Nat->Option (List Ab.V):=λm=>some ((bx k (L m)).map .d)
def VS(e:List (Nat×ST U))(a:List (Nat×aV U))(k:U.K)(L:Nat->List (U.El k))(N:Nat):St:=⟨mk (jk e),VH (bJ (bP a)) (LF k L) N⟩
def xy(a:List (Nat×aV U)):Bool:=a.all λp=>Nat.ble (p.1+1) 3&&(p.2.db.all λs=>Nat.ble (s+1) 3)&&dy p.2.den
def zc(e:List (Nat×ST U)):Bool:=e.all λp=>p.2.db.all λs=>Nat.ble (s+1) 4
def Kl{e:List (Nat×ST U)}(h:zc e=true)(i s:Nat)(Y:(mk (jk e) i).bK s):s<4:=by
 have:=Q_ (σ:=⟨e,[],0⟩) (aN:=[0,1,2,3]) (by
  unfold zc at h;rw[eM]at h⊢;intro p a;have:=h p a;rw[eM]at this⊢;intro s Y;have:=ic (this s Y)
  match s,this with
  |0,_=>rfl
  |1,_=>rfl
  |2,_=>rfl
  |3,_=>rfl
  |s+4,h=>exact absurd h O) i s Y
 simp only[dC,List.not_mem_nil,or_false]at this;omega
def Gf{c:List (Nat×aV U)}(h:xy c=true)(d:bJ (bP c) s=some M):s<3/\(∀x∈M,∀a,x.bK a->a<3)/\∀f,M≠[.dV f]:=by
 rw[gz,gM]at d;obtain⟨b,k,rfl⟩:=d;unfold xy at h;rw[eM]at h;have:=h (s,b) (JY _ _ _ k);simp only[dB]at this;obtain⟨⟨l,i⟩,j⟩:=this;refine⟨ic l,λx m a Y=>?_,λf e=>?_⟩
 ·rw[eM]at i;exact ic (i a (aV.Qw m Y))
 ·rw[e]at j;cases j
def QL{a:List (Nat×aV U)}(h:xy a=true)(c:3<=s):bJ (bP a) s=none:=by
 cases b:bJ (bP a) s with
 |none=>rfl
 |some d=>have:=(Gf h b).1;omega
theorem We{k:U.K}{L:Nat->List (U.El k)}(m:Nat)(b:List Ab.V)(h:LF k L m=some b):(∀x∈b,∀s,¬x.bK s)/\∀a,b≠[.dV a]:=by
 unfold LF at h;injection h with h
 subst h;refine⟨λx c s=>Dz c s,λa e=>?_⟩;have:V.dV a∈(bx k (L m)).map Ab.V.d:=by rw[e];exact bZ ..
 obtain⟨_,_,h⟩:=cj.1 this;cases h
def Bv(k:U.K)(a:av)(j:Nat)(l:List (U.El k)):List (Nat×aV U):=[(3,.hI a j (.aW 4 k l.length)),(4,.aU k l)]
theorem ah6(V:bU P U){e:List (Nat×ST U)}{a:List (Nat×aV U)}(h:xy a=true){k:U.K}(o:U.w k=4)(b:av)(j:Nat)(l:List (U.El k))(c:Nat):
 (⟨mk (jk e),ri (bJ (bP a)) b j 4 (some ((bx k l).map .d))⟩:St)=(⟨e,Bv k b j l++a,c⟩:SS U).st:=by
 unfold SS.st;congr 1;funext u;rw[gz];have p:=gz a u;unfold ri;by_cases m:u=3
 ·subst m;rw[aK rfl];show _=some (jL b j (SV.den (.aW 4 k l.length)));unfold jL uF;congr 2;show Ab.V.sub 4 4 0 _=Ab.V.sub 4 (U.w k) 0 l.length;rw[dS,mf V,o];congr 1;omega
 ·rw[g m];by_cases i:u=4
  ·subst i;rw[aK rfl];rfl
  ·rw[g i,p];unfold Bv;simp only[ei,gi,bX];have r:Nat.beq u 3=false:=by
    cases f:Nat.beq u 3 with
    |false=>rfl
    |true=>exact absurd (cO f) m
   have q:Nat.beq u 4=false:=by
    cases f:Nat.beq u 4 with
    |false=>rfl
    |true=>exact absurd (cO f) i
   rw[r,q]
theorem abl{ls:List Value->List (Nat×mE U)}(z:P.follows .mixedOrders=true){e o:List (Nat×ST U)}{b:List (Nat×aV U)}{k:U.K}{L:Nat->List (U.El k)}{N j:Nat}{l':List (U.El k)}{c:Code}{p:Nat}
 (E:0<N)(B:j<N)(l:xy b=true)(C:zc e=true)(q:zc o=true)(t:U.w k=4)
 (h:∀a:List Value,a.length=N->fw V n [] reg (ls a) c ⟨e,Bv k a j (L j)++b,p⟩ (jW mN λx=>mt V [] x ⟨o,Bv k a j l'++b,p⟩ True)):
 WP P n (·∈([]:au)) c (VS e b k L N) (iy λs=>s=VS o b k (λm=>if m=j then l' else L m) N):=by
 have:=WP.focus (P:=P) (n:=n) (c:=c) (aT:=mk (jk e)) (env':=mk (jk o)) (Hb:=bJ (bP b)) (F:=LF k L) (N:=N) (k:=j) (l':=4) (o':=some ((bx k l').map .d)) E (.inl B) (λu f=>QL l f) (λu r f=>(Gf l f).2.1) (λu r H f=>(Gf l f).2.2 H) We
  (Kl C) (Kl q) (bu 4) (λh=>by cases h) (λr D=>We (L:=λ_=>l') 0 r D) (λa y=>by have G:LF k L j=some ((bx k (L j)).map .d):=rfl;rw[G,ah6 V l t a j (L j) p];have:=pK z (h a y) (Q:=λs=>dm n (·∈([]:au)) s (⟨o,Bv k a j l'++b,p⟩:SS U).st) (λw A=>(nY A n).2);refine WP.post this (λs Y=>⟨_,Y,?_⟩) (λi s Y=>Y.elim) (λs Y=>Y.elim);exact(ah6 V l t a j l' p).symm)
 refine WP.mono this (λs Y=>?_) (λi s Y=>Y.elim) (λs Y=>Y.elim);rw[Y];unfold VS;congr 2;funext m;unfold LF;by_cases v:m=j
 ·simp only[aK v]
 ·simp only[g v]
theorem yU(p:P.follows .mixedOrders=true){e f:List (Nat×ST U)}{b:List (Nat×aV U)}{k:U.K}{L:Nat->List (U.El k)}{ct:Nat}
 (o:0<s)(q:xy b=true)(r:zc e=true)(j:zc f=true)(t:U.w k=4)
 (h:∀(d:av) (l:List (U.El k)),fw V n [] reg ls c ⟨e,Bv k d 0 l++b,ct⟩ (jW mN λu=>mt V [] u ⟨f,Bv k d 0 l++b,ct⟩ True)):
 WP P n (·∈([]:au)) c (VS e b k L s) (iy λa=>a=VS f b k L s):=by
 refine WP.mono (abl (ls:=λ_=>ls) p o o q r j t (l':=L 0) λd _=>h d (L 0)) (λa Y=>?_) (λi a Y=>Y.elim) (λa Y=>Y.elim);rw[Y];congr 1;funext m;split
 ·rename_i e;rw[e]
 ·rfl
def awd{e:List (Nat×ST U)}{c:List (Nat×aV U)}{k:U.K}{N:Nat}{b:aV U}(l:xy c=true)(m:zc e=true)(f:b.den=List.replicate N (.d (.sc (.slice none 0 0)))):
 dm n (·∈([]:au)) (⟨e,(3,b)::c,s⟩:SS U).st (VS e c k (λ_=>[]) N):=by
 have:=dm.awc (n:=n) (aS:=(·∈([]:au))) (aT:=mk (jk e)) (Hb:=bJ (bP c)) (N:=N) (λa h=>by cases h) (λu i=>QL l i) (λu q i=>(Gf l i).2.1) (Kl m);have o:(⟨mk (jk e),λu=>if u=3 then some (List.replicate N (.d (.sc (.slice none 0 0))))else bJ (bP c) u⟩:St)=(⟨e,(3,b)::c,s⟩:SS U).st:=by
  unfold SS.st;congr 1;funext u;rw[gz,gz];simp only[bX];by_cases j:u=3
  ·subst j;rw[aK rfl,<-f];rfl
  ·have p:Nat.beq u 3=false:=by
    cases f:Nat.beq u 3 with
    |false=>rfl
    |true=>exact absurd (cO f) j
   rw[g j,p]
 rw[o]at this;exact this
theorem avw(V:bU P U){e:List (Nat×ST U)}{a:List (Nat×aV U)}{k:U.K}{L:Nat->List (U.El k)}{N ct:Nat}{b:aV U}(o:xy a=true)(r:zc e=true)(p:U.w k=4)(c:b.den=(List.range N).map λm=>(SV.d (.bf k (L m))).den):
 dm n (·∈([]:au)) (VS e a k L N) (⟨e,(3,b)::a,ct⟩:SS U).st:=by
 have f:∀m,(bx k (L m)).length=(L m).length*4:=λm=>by rw[mf V,p]
 have:=dm.avv (n:=n) (aS:=(·∈([]:au))) (aT:=mk (jk e)) (Hb:=bJ (bP a)) (N:=N) (λs h=>by cases h) (λu i=>QL o i) (λu z i=>(Gf o i).2.1) (Kl r) (λm=>bx k (L m)) (λm=>by have:=f m;omega);have t:∀m,(SV.d (.bf k (L m))).den=(.d (.sl (aU 4 0 ((bx k (L m)).length/4) (bx k (L m)))):Ab.V):=λm=>by have q:=(Be V (s:=4) (k:=k) (l:=L m) (v:=.aW 4 k (L m).length) (φ:=True) (by simp[v_])).2;have w:(SV.aW (U:=U) 4 k (L m).length).den=.sub 4 (U.w k) 0 (L m).length:=rfl;rw[w,p,FQ,aK rfl,aK (by have:=f m;omega)]at q;rw[show(bx k (L m)).length/4=(L m).length by have:=f m;omega];exact q
 have x:(⟨mk (jk e),λu=>if u=3 then some ((List.range N).map λm=>.d (.sl (aU 4 0 ((bx k (L m)).length/4) (bx k (L m)))))else bJ (bP a) u⟩:St)=(⟨e,(3,b)::a,ct⟩:SS U).st:=by
  unfold SS.st;congr 1;funext u;rw[gz,gz];simp only[bX];by_cases j:u=3
  ·subst j;rw[aK rfl];simp only[<-t,<-c];rfl
  ·have y:Nat.beq u 3=false:=by
    cases c:Nat.beq u 3 with
    |false=>rfl
    |true=>exact absurd (cO c) j
   rw[g j,y]
 rw[x]at this;exact this
end
