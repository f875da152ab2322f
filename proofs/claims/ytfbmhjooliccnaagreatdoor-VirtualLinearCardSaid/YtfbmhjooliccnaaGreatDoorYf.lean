/- A part of the proof of VirtualLinear: Sy22 to Fb. No condition. -/
import Derived.Test.YtfbmhjooliccnaaGreatDoorYe
import Derived.KernelRfl
import Derived.Test.YtfbmhjooliccnaaGreatDoorProg
set_option linter.all false
set_option maxRecDepth 100000
set_option maxHeartbeats 60000000
noncomputable section
namespace Go.Ab
open Go Go.RowKit
variable {t:TypeId}{s m i:Nat}{X:List (Nat×Option Nat)}{x y:aw}{U:aq}{R:Prop}{c:Code}{Q:Array (Nat×Operand)}{f:FuncId}{P:Func}{N:List ResultVar}{M:av}{L:nF}{K:St}{H:ax}{k:Value}{o:Oper}
section
variable {P:ax}{U:gD}
def Gz:List (SV U)->Option (List Value)
 |[]=>some []
 |.d (.sc v)::r=>(match Gz r with|some l=>some (v::l)|none=>none)
 |_::_=>none
def GC:ST U->Option Value
 |.e (.c (.d (.sc v)))=>some v
 |.e (.agg a)=>(match Gz a with|some l=>some (.agg l.toArray)|none=>none)
 |_=>none
theorem acG:∀{e:List (SV U)} {l:au},Gz e=some l->gn (e.map SV.aI)=some l
 |[],l,h=>by simp only[Gz,cS]at h;subst h;rfl
 |v::r,l,h=>by
  unfold Gz at h;split at h
  ·rename_i d;cases d
  ·rename_i x f d;injection d with c b;subst c;subst b
   split at h
   ·rename_i g a;injection h with h;subst h
    simp only[de,SV.aI,SD.aI,gn,acG a,dP]
   ·cases h
  ·cases h
def QY{x:ST U}(h:GC x=some k):zh x.aI=some k:=by
 unfold GC at h;split at h
 ·injection h with h;subst h;rfl
 ·split at h
  ·rename_i l a;injection h with h;subst h
   simp only[ST.aI,SE.aI,zh,acG a,dP]
  ·cases h
 ·cases h
def TX(n:Nat)(ops:av)(aN:aq)(o:Oper)(σ:SS U)(K:SS U->Ft->Prop):Prop:=
 match m_ n o.dst,cd σ.heap σ.bZ,aN.contains σ.bZ with
 |true,none,false=>K { σ.put o.dst (.e (.c (.mp σ.bZ)))with heap:=(σ.bZ,.lc [])::σ.heap,bZ:=σ.bZ+1} ⟨lk ops o,(2*σ.bZ+1)::dl o,[]⟩
 |_,_,_=>False
def TR(V:bY P U)(n:Nat)(ops:av)(o:Oper)(σ:SS U)(t:TypeId)(x y:aw)(K:SS U->Ft->Prop):Prop:=
 match V.GO t,σ.ev x,GC (σ.ev y),m_ n o.dst with
 |some m,.e (.c (.mp s)),some k,true=>
  (match cd σ.heap s,m.z with
   |some (.lc a),.int kk z=>ig m.kf k=true/\pF m.kf a=true/\a.all (λp=>nj kk p.2)=true/\
     (∀(i:Nat)(q:Int),g_ k a 0=some (i,.int kk q)->K (σ.put o.dst (.cE [.c (.d (.sc (.int kk q))),.c (.d (.sc (.bool true)))])) ⟨(2*s+1)::lk ops o,dl o,[]⟩)/\
     (g_ k a 0=none->K (σ.put o.dst (.cE [.c (.d (.sc (.int kk z))),.c (.d (.sc (.bool false)))])) ⟨(2*s+1)::lk ops o,dl o,[]⟩)
   |_,_=>False)
 |_,_,_,_=>False
def TY(V:bY P U)(ops:av)(o:Oper)(σ:SS U)(t:TypeId)(x y z:aw)(K:SS U->Ft->Prop):Prop:=
 match o.dst,V.GO t,σ.ev x,GC (σ.ev y),σ.ev z with
 |none,some m,.e (.c (.mp s)),some k,.e (.c (.d (.sc v)))=>
  (match cd σ.heap s with
   |some (.lc a)=>ig m.kf k=true/\pF m.kf a=true/\K { σ with heap:=su σ.heap s (.lc (tw k v a))} ⟨lk ops o,(2*s+1)::dl o,[]⟩
   |_=>False)
 |_,_,_,_,_=>False
variable {V:bY P U}{n:Nat}{ops:av}{aN:aq}{o:Oper}{σ:SS U}{K:SS U→Ft→Prop}
def aHB(h:TX n ops aN o σ K)(b:fA ops o σ.st)(c:o.op=.makeMap t none):∃a f,kD P n ops o aN σ a f/\K a f:=by
 unfold TX at h;split at h
 ·rename_i d e g;refine⟨_,_,⟨?_,λs I=>by simp at I⟩,h⟩;rw[ad7];exact SQ.makeMap b t c σ.bZ (na d) (nk g) (by rw[ga,e];rfl)
 ·cases h
theorem aHj(h:TR V n ops o σ t x y K)(j:fA ops o σ.st)(l:o.op=.lookup t x y true):∃b f,kD P n ops o aN σ b f/\K b f:=by
 unfold TR at h;split at h
 ·rename_i m s k r u w A;split at h
  ·rename_i e kk z I B;obtain⟨C,D,g,E,G⟩:=h;have a:=SQ.lookup (P:=P) (n:=n) (aU:=(·∈aN)) j t x y true l m (V.Lh _ _ r) s e k (by rw[c8,u];rfl) (by rw[c8];exact QY w) (by rw[ga,I];rfl) C D (na A);rw[aM rfl]at a;cases c:g_ k e 0 with
   |none=>refine⟨_,_,⟨?_,λs I=>by simp at I⟩,G c⟩;rw[oa];simp only[jz,c,B]at a;exact a
   |some p=>obtain⟨i,v⟩:=p;obtain⟨q,H,L⟩:=K_ c;rw[eW]at g;have d:=g q H;rw[L]at d;cases v<;>simp only[nj,jq,be]at d;subst d;refine⟨_,_,⟨?_,λs I=>by simp at I⟩,E i _ c⟩;rw[oa];simp only[jz,c]at a;exact a
  ·cases h
 ·cases h
theorem aHE{z:aw}(h:TY V ops o σ t x y z K)(b:fA ops o σ.st)(c:o.op=.mapUpdate t x y z):∃a f,kD P n ops o aN σ a f/\K a f:=by
 unfold TY at h;split at h
 ·rename_i m s k v d e g i j;split at h
  ·rename_i l I;obtain⟨p,q,r⟩:=h;refine⟨_,_,⟨?_,λs I=>by simp at I⟩,r⟩;rw[Ms _ _ _ _ I];exact SQ.mapUpdate (P:=P) (n:=n) (aU:=(·∈aN)) b t x y z c d m (V.Lh _ _ e) s l k v (by rw[c8,g];rfl) (by rw[c8];exact QY i) (by rw[c8,j];rfl) (by rw[ga,I];rfl) p q
  ·cases h
 ·cases h
end
section
variable {P:ax}{U:gD}
def TD(V:bY P U)(n:Nat)(ops:av)(o:Oper)(σ:SS U)(x y:aw)(t:TypeId)(K:SS U->Ft->Prop):Prop:=
 match σ.ev x with
 |.e (.c (.sub s k1 b a))=>
  (match V.ty t,m_ n o.dst with
   |some g,true=>
    (match g.sl with
     |some e=>(match V.ty e,V.aJ e with
      |some _,some k=>(match cd σ.heap s,Nat.beq (U.w k1) (U.w k)with
       |some (.aW k2 f),true=>(match V.cast k k2 f with
        |some f=>b+a<=f.length/\D_ V k σ (σ.ev y) λl=>K { σ.put o.dst (.e (.c (.d (.sc (.int .i64 (min l.length a:Nat))))))with heap:=su σ.heap s (.aW k (f.take b++l.take a++f.drop (b+min l.length a)))} ⟨lk ops o++jK (uC (σ.ev y)),(2*s+1)::dl o,[]⟩
        |none=>False)
       |_,_=>False)
      |_,_=>False)
     |none=>False)
   |_,_=>False)
 |_=>TC V n ops o σ x y t K
variable {V:bY P U}{n:Nat}{ops:av}{aN:aq}{o:Oper}{σ:SS U}{K:SS U→Ft→Prop}
theorem aGJ{r:TypeId}(h:TD V n ops o σ x y t K)(v:fA ops o σ.st)(w:o.op=.call { callee:=.builtin .copy,args:=#[x,y],argTypes:=#[t,r]}):∃g f,kD P n ops o aN σ g f/\K g f:=by
 unfold TD at h;split at h
 case h_2=>exact aGK h v w
 rename_i s k1 b a E;split at h
 ·rename_i ti G H;split at h
  ·rename_i e L;split at h
   ·rename_i te k M N;split at h
    ·rename_i k2 j I Q;split at h
     ·rename_i l0 R;obtain⟨p,h⟩:=h;obtain⟨l,e1,h,e2⟩:=MJ h;have T1:=V.fX _ _ G;have A:=V.fX _ _ M;have B:=V.zi _ _ N;rw[A.sz,cS]at B;have T:=V.qY _ _ _ _ R;have e3:bG k2 j=bG k l0:=by unfold bG;rw[T.1]
      have q:σ.st.heap s=some ((bG k l0).map .d):=by rw[ga,I];simp only[dP,aZ.aI,e3]
      refine⟨_,_,⟨?_,λs I=>by simp at I⟩,h⟩
      have:=SQ.copy (P:=P) (n:=n) (aU:=(·∈aN)) v x y t r w s (U.w k) (b*U.w k) a ((bG k l0).map .d) ((bG k l).map .d) l.length (by rw[c8,E,<-cU Q];rfl) q (by rw[eh,mH V,<-iN];exact jS _ p) (by rw[c8,e1])
       e (by rw[T1.sl,L]) (by rw[A.sz,B]) (na H) (uC (σ.ev y)) (λu X=>e2 u (by rw[<-c8];exact X))
      refine cast (bi (λz=>SQ P n (·∈aN) ops o σ.st z _) ?_) this;have hh:(σ.put o.dst (.e (.c (.d (.sc (.int .i64 (min l.length a:Nat))))))).heap=σ.heap:=by cases o.dst<;>rfl
      have C:=oa σ o.dst (.e (.c (.d (.sc (.int .i64 (min l.length a:Nat))))));unfold SS.st at C⊢;simp only;congr 1
      ·have:=bi St.aV C;exact this.symm
      ·funext u;rw[iG (su σ.heap s _) u,Ku _ _ _ _ _ I];simp only[cZ];split
       ·simp only[dP,aZ.aI,cS];have D:=AS V k l 0 (min l.length a);simp only[IS,rG]at D;have dr:∀m,m<=l0.length->(bG k l0).drop (m*U.w k)=bG k (l0.drop m):=λm hm=>by have:=AS V k l0 m l0.length;rw[eL (by rw[xa,mH V,<-Nat.sub_mul];exact jS _ O),eL ai]at this;exact this
        have tk:(bG k l0).take (b*U.w k)=bG k (l0.take b):=by have:=AS V k l0 0 b;simpa using this
        unfold kA;rw[<-vo,<-vo,D,tk];have e7:((bG k (l.take (min l.length a))).map Ab.V.d).length=min l.length a*U.w k:=by rw[eh,mH V,gw];congr 1;omega
        rw[e7,<-iN,<-vm,dr _ O,<-ia,<-ia,<-Dd,<-Dd];congr 3;by_cases i:l.length<=a
        ·rw[kC i,eL i,eL (bK _)]
        ·rw[Nat.min_eq_right O]
       ·rw[iG]
     ·cases h
    ·cases h
   ·cases h
  ·cases h
 ·cases h
def OQ:Value->Bool
 |.bool _=>true
 |_=>false
def TS(V:bY P U)(n:Nat)(ops:av)(o:Oper)(σ:SS U)(t:TypeId)(x y:aw)(K:SS U->Ft->Prop):Prop:=
 match V.GO t,σ.ev x,GC (σ.ev y),m_ n o.dst with
 |some m,.e (.c (.mp s)),some k,true=>
  (match cd σ.heap s,m.z with
   |some (.lc a),.bool z=>ig m.kf k=true/\pF m.kf a=true/\a.all (λp=>OQ p.2)=true/\
     (∀b:Bool,(jz (.bool z) k a).1=.bool b->K (σ.put o.dst (.e (.c (.d (.cK b))))) ⟨(2*s+1)::lk ops o,dl o,[]⟩)
   |_,_=>False)
 |_,_,_,_=>False
theorem aHi(h:TS V n ops o σ t x y K)(l:fA ops o σ.st)(p:o.op=.lookup t x y false):∃c f,kD P n ops o aN σ c f/\K c f:=by
 unfold TS at h;split at h
 ·rename_i m s k r u w A;split at h
  ·rename_i e z I B;obtain⟨C,D,g,E⟩:=h;have a:=SQ.lookup (P:=P) (n:=n) (aU:=(·∈aN)) l t x y false p m (V.Lh _ _ r) s e k (by rw[c8,u];rfl) (by rw[c8];exact QY w) (by rw[ga,I];rfl) C D (na A);rw[Z ae,B]at a;have d:∃b,(jz (.bool z) k e).1=.bool b:=by
    unfold jz;split
    ·rename_i i v G;obtain⟨q,H,L⟩:=K_ G;rw[eW]at g;have j:=g q H;rw[L]at j;cases v<;>simp only[OQ,jq]at j;exact⟨_,rfl⟩
    ·exact⟨z,rfl⟩
   obtain⟨b,d⟩:=d;refine⟨_,_,⟨?_,λs I=>by simp at I⟩,E b d⟩;rw[oa];rw[d]at a;exact a
  ·cases h
 ·cases h
def T7(V:bY P U)(n:Nat)(ops:av)(o:Oper)(σ:SS U)(t:TypeId)(x:aw)(f:Option Operand)(h d:aw)(K:SS U->Ft->Prop):Prop:=
 match V.ty t,vZ (σ.ev x),yU σ f,nu (σ.ev h),nu (σ.ev d),m_ n o.dst with
 |some b,some _,some g,some a,some m,true=>
  (match b.sl with
   |some e=>(match V.ty e with
    |some c=>m=a/\Mx c.sz g (some a) (σ.ev x) λr=>fT r λr=>K (σ.put o.dst r) ⟨lk ops o,dl o,[]⟩
    |none=>False)
   |none=>False)
 |_,_,_,_,_,_=>False
theorem aHT{x:aw}{g:Option Operand}{d:aw}(h:T7 V n ops o σ t x g y d K)(p:fA ops o σ.st)(q:o.op=.slice t x g (some y) (some d)):∃c f,kD P n ops o aN σ c f/\K c f:=by
 unfold T7 at h;split at h
 ·rename_i u i Q R m v j w z A B;split at h
  ·rename_i e C;split at h
   ·rename_i k D;obtain⟨rfl,h⟩:=h;have E:=V.fX _ u v;obtain⟨a,b,r,G,hK,⟨rfl,rfl⟩,H,l⟩:=ahT V j h;refine⟨_,_,⟨?_,λs I=>by simp at I⟩,Ka (K:=λr=>K (σ.put o.dst r) _) hK⟩;rw[oa];have L:=Fo w 0 H;have M:=Fo (σ:=σ) (x:=some y) (r:=some m) (by simp only[yU,z]) i l;have N:=Fo (σ:=σ) (x:=some d) (r:=some m) (by simp only[yU,A]) i l;refine SQ.pure p (afO t x g (some y) (some d) q e k.sz i _ _ _ (by rw[E.sl,C]) (V.fX _ k D).sz (by rw[c8];exact Q9 j) M L (.inr ⟨ai,ai,N⟩) (by rw[c8];exact G)) (na B)
   ·cases h
  ·cases h
 ·cases h
theorem agf{U:gD}(a:au):∀m,((List.replicate m (a.map λv=>(SV.d (.sc v):SV U))).flatten).map SV.aI=oL m (a.map λv=>Ab.V.d (.sc v))
 |0=>rfl
 |m+1=>by have b:=agf (U:=U) a m;unfold oL at b⊢;rw[vp,vp,EI,EI,ia,b];congr 1;rw[jc];rfl
def MC(CA:TypeId->Option U.K)(V:bY P U)(n:Nat)(ops:av)(aN:aq)(o:Oper)(σ:SS U)(t:TypeId)(f g:aw)(K:SS U->Ft->Prop):Prop:=
 match V.ty t,nu (σ.ev f),nu (σ.ev g)with
 |some h,some l,some c=>
  (match h.sl with
   |some e=>(match CA e with
    |some k=>(match V.ty e with
     |some a=>(match a.zs,Nat.beq a.sz (U.w k)with
      |some b,true=>(match Nat.beq b.length a.sz with
       |true=>∃m:Nat,l=(m:Int)/\l=c/\a.dF*m<=281474976710656/\l<=281474976710656/\zL n ops aN o σ (.cells ((List.replicate m (b.map λv=>.d (.sc v))).flatten)) (.e (.c (.aX σ.bZ k m))) K
       |false=>False)
      |_,_=>False)
     |none=>False)
    |none=>TW V n ops aN o σ t f g K)
   |none=>False)
 |_,_,_=>False
theorem ah1{CA:TypeId->Option U.K}(h:MC CA V n ops aN o σ t x y K)(j:fA ops o σ.st)(p:o.op=.makeSlice t x y):∃a f,kD P n ops o aN σ a f/\K a f:=by
 unfold MC at h;split at h
 ·rename_i Q l c r s u;split at h
  ·rename_i e w;split at h
   ·rename_i k R;split at h
    ·rename_i z A;split at h
     ·rename_i b B q;split at h
      ·rename_i g;obtain⟨m,rfl,rfl,C,T,h⟩:=h;have D:=V.fX _ _ r;have i:=V.fX _ _ A;obtain⟨E,G⟩:=Ls s;obtain⟨H,L⟩:=Ls u
       have:=Xc (P:=P) (o:=o) (ev:=σ.st.ev) t x y p σ.bZ e (U.w k) z.dF (b.map λv=>.d (.sc v)) m E H (by rw[D.sl,w]) (by rw[i.sz,cU q]) i.dF (i.zs _ B) (by rw[eh,cU g,cU q])
        (by rw[c8,G]) (by rw[c8,L]) C O
       have M:(ST.e (U:=U) (.c (.aX σ.bZ k m))).aI=.e (.c (.sub σ.bZ (U.w k) 0 m)):=rfl;refine D8 h j (oL m (b.map λv=>.d (.sc v))) (by rw[M];exact this) ?_;have N:(aZ.cells (U:=U) ((List.replicate m (b.map λv=>.d (.sc v))).flatten)).aI=oL m (b.map λv=>.d (.sc v)):=by exact agf b m
       rw[N];exact lU.refl _
      ·cases h
     ·cases h
    ·cases h
   ·exact aHz h j p
  ·cases h
 ·cases h
def TM(V:bY P U)(n:Nat)(ops:av)(o:Oper)(σ:SS U)(t:TypeId)(x f:aw)(K:SS U->Ft->Prop):Prop:=
 match σ.ev x with
 |.e (.c (.aX s k a))=>
  (match cd σ.heap s with
   |some (.cells _)=>(match V.ty t,nu (σ.ev f),m_ n o.dst with
    |some b,some i,true=>(match b.sl with
     |some e=>(match V.ty e with
      |some d=>(match Nat.beq (U.w k) d.sz with
       |true=>0<=i/\i<(a:Int)/\HD i (λm=>K (σ.put o.dst (.e (.c (.ptr s (m*U.w k))))) ⟨lk ops o,dl o,[]⟩) a
       |_=>False)
      |none=>False)
     |none=>False)
    |_,_,_=>False)
   |some (.hY _ _ _)=>(match V.ty t,nu (σ.ev f),m_ n o.dst with
    |some b,some i,true=>(match b.sl with
     |some e=>(match V.ty e with
      |some d=>(match Nat.beq (U.w k) d.sz with
       |true=>0<=i/\i<(a:Int)/\K (σ.put o.dst (.e (.c (.ptr s (i.toNat*U.w k))))) ⟨lk ops o,dl o,[]⟩
       |_=>False)
      |none=>False)
     |none=>False)
    |_,_,_=>False)
   |_=>yb V n ops o σ K)
 |_=>yb V n ops o σ K
theorem aHd(h:TM V n ops o σ t x y K)(l:fA ops o σ.st)(p:o.op=.indexAddr t x y):∃d f,kD P n ops o aN σ d f/\K d f:=by
 unfold TM at h;split at h
 ·rename_i s k L H;split at h
  ·split at h
   ·rename_i M i q u v;split at h
    ·rename_i e w;split at h
     ·rename_i N z;split at h
      ·rename_i b;obtain⟨A,B,h⟩:=h;have hK:=MH (m:=i.toNat) h O O;have C:Bq V t (σ.ev x) i (λr=>r=.e (.c (.jF s k i.toNat 0))):=by unfold Bq;rw[q];simp only[w,z,H];rw[b];exact⟨A,B,bj⟩
       obtain⟨r,g,rfl⟩:=TO V u C;have D:(ST.e (U:=U) (.c (.jF s k i.toNat 0))).aI=(ST.e (U:=U) (.c (.ptr s (i.toNat*U.w k)))).aI:=by simp only[ST.aI,SE.aI,SV.aI,uc]
       rw[D]at g;refine⟨_,_,⟨?_,λs I=>by simp at I⟩,hK⟩;rw[oa];rcases Sv (o:=o) (σ:=σ.st) (by rw[p];exact g)with E|⟨Q,R,T,j,G,a,_⟩
       ·exact SQ.pure l E (na v)
       ·rw[p]at a;cases a
      ·cases h
     ·cases h
    ·cases h
   ·cases h
  ·split at h
   ·rename_i M i q u v;split at h
    ·rename_i e w;split at h
     ·rename_i N z;split at h
      ·rename_i b;obtain⟨A,B,hK⟩:=h;have C:Bq V t (σ.ev x) i (λr=>r=.e (.c (.jF s k i.toNat 0))):=by unfold Bq;rw[q];simp only[w,z,H];rw[b];exact⟨A,B,bj⟩
       obtain⟨r,g,rfl⟩:=TO V u C;have D:(ST.e (U:=U) (.c (.jF s k i.toNat 0))).aI=(ST.e (U:=U) (.c (.ptr s (i.toNat*U.w k)))).aI:=by simp only[ST.aI,SE.aI,SV.aI,uc]
       rw[D]at g;refine⟨_,_,⟨?_,λs I=>by simp at I⟩,hK⟩;rw[oa];rcases Sv (o:=o) (σ:=σ.st) (by rw[p];exact g)with E|⟨Q,R,T,j,G,a,_⟩
       ·exact SQ.pure l E (na v)
       ·rw[p]at a;cases a
      ·cases h
     ·cases h
    ·cases h
   ·cases h
  ·exact Bw h l
 ·exact Bw h l
end
def fc.Oo{aU:ap}(t:TypeId)(x:aw)(D:o.op=.slice t x none none none)(n:Nat)(e:TypeId)(k:Nat)(E:wD H t=some (n,e))(G:fg H e=some k)
 (d:Nat)(j:List V)(L:K.ev x=.e (.c (.ptr d 0)))(I:K.heap d=some j)(hl:n*k<=j.length)(M:∀es,j≠[.eY es])(hn:n<=140737488355328)(N:jv s o.dst):fc H s aU o K (K.put o.dst (.e (.c (.sub d k 0 n)))):=by
 intro C q _ a w ⟨A,R⟩ f Q hK;have B:=R.ev x;rw[L]at B;obtain⟨b,r,T⟩:=B;have U:∃(u:TypeId)(vs p:au),w.heap[b]?=some (.cells (vs++p).toArray u (0,0))/\bW w C.M A j vs:=by
  rcases R.mem.gR d j I with⟨b',X,vs,p,g,l,y⟩|⟨h,_⟩|⟨b',en,clk,g,l,h⟩
  ·rw[r]at g;injection g with g;injection g with g;subst g
   exact⟨X,vs,p,l,y⟩
  ·rw[r]at h;injection h with h;cases h
  ·exact absurd h (M _)
 obtain⟨u,vs,p,z,hc⟩:=U;have m:(execOp a.eval o).run H w=.ok (.value (.slice (some ⟨b,0,none⟩) n n)) w:=by simp only[execOp,D,Instr.sliceAt,Instr.sliceBounds,T,Instr.sureAddr];simp[run_underlying (Ug E),nA G];exact λ_=>rfl
 refine mn (v:=.slice (some ⟨b,0,none⟩) n n) (w':=w) m (hK _ _ ⟨A,?_⟩);refine⟨by rw[Bj];exact R.mem,λi=>?_,R.aN,R.aX,R.aU,by rw[wx];exact R.defers,by rw[uS];exact R.size⟩;rw[vS _ _ _ _ (by rw[R.size,q];exact N),rf];split
 ·refine .inl ⟨b,n,_,u,r,rfl,bK _,by simp only[maxLen];omega,z,?_⟩;have:=hc.1;simp;omega
 ·exact R.aV i
theorem SQ.Oo{P:ax}{g:Nat}{aU:ap}{a:av}{o:Oper}{b:St}(v:fA a o b)(t:TypeId)(x:aw)(i:o.op=.slice t x none none none)(n:Nat)(e:TypeId)(k:Nat)(p:wD P t=some (n,e))(u:fg P e=some k)
 (s:Nat)(f:List V)(m:b.ev x=.e (.c (.ptr s 0)))(I:b.heap s=some f)(hl:n*k<=f.length)(r:∀y,f≠[.eY y])(q:n<=140737488355328)(w:jv g o.dst):
 SQ P g aU a o b (b.put o.dst (.e (.c (.sub s k 0 n)))) ⟨(2*s+1)::lk a o,dl o,[]⟩where
 frame l hl:=DW b o _ l hl
 go z j _:=by have d:=v7 (λl h=>cv _ h) j;rw[G5];exact .inl ⟨v.congr d,.Oo t x i n e k p u s f (by rw[pq d x (by simp[i,Op.operands]),m]) (by rw[pu (j (2*s+1) (.inl ai)),I]) hl r q w⟩
def V.vR{i:List D}{v:V}(h:¬v.bx s):v.cA s i=v:=by
 cases v with
 |sub t k c j=>simp only[V.cA];exact Z λe=>h (by first|exact e|exact e.symm)
 |ptr t c=>simp only[V.cA];exact Z λe=>h (by first|exact e|exact e.symm)
 |mp t=>simp only[V.cA];exact Z λe=>h (by first|exact e|exact e.symm)
 |ty t a b=>simp only[V.cA];exact Z λe=>h (by first|exact e|exact e.symm)
 |db f g=>simp only[V.cA];rw[Z];intro e;rw[rF]at e;obtain⟨p,l,e⟩:=e;exact h ⟨p,l,by simpa using e⟩
 |_=>rfl
theorem Vs.vR{s:Nat}{b:List D}{vs:List V}(h:∀v∈vs,¬v.bx s):vs.map (V.cA s b)=vs:=by
 conv=>rhs;rw[<-EN vs]
 exact mw λv a=>V.vR (h v a)
theorem E.vR{s:Nat}{d:List D}{x:E}(h:¬x.bx s):x.cA s d=x:=by
 cases x with
 |c v=>simp only[E.cA];rw[V.vR h]
 |agg e=>simp only[E.cA];rw[Vs.vR λv a b=>h ⟨v,a,b⟩]
theorem T.vR{s:Nat}{d:List D}{x:T}(h:¬x.bx s):x.cA s d=x:=by
 cases x with
 |e x=>simp only[T.cA];rw[E.vR h]
 |cE a=>
  simp only[T.cA];congr 1
  conv=>rhs;rw[<-EN a]
  exact mw λv b=>E.vR λc=>h ⟨v,b,c⟩
 |any=>rfl
def Dq(a:St)(d s:Nat)(r:T)(b:aq):St:=
 ⟨gV (λi=>if i∈b then .any else a.aV i) d r,λu=>if u=s then none else a.heap u⟩
theorem SQ.azi{P:ax}{n:Nat}{aU:ap}(hg:fA M o K)(t:TypeId)(i:Nat)(ho:o.op=.buildSlice t 1 #[(0,.tmp i)])
 (d s p g:Nat)(r:o.dst=some d)(k:List D)(hx:K.aV i=.e (.c (.sub s p 0 g)))(I:K.heap s=some (k.map .d))(hlen:g*p<=k.length)
 (e:TypeId)(H:List V)(ht:jA P t=some e)(hk:fg P e=some 1)(hz:jQ P e=some H)(L:H.length=1)
 (hst:¬aU s)(hd:d<n)(q:aq):
 SQ P n aU M o K (Dq K d s (.e (.c (.d (.sl [[(D.sl (aW p 0 g k)).cB]])))) q) ⟨lk M o,pn (d::q)++jK [s],[s]⟩where
 frame l hl:=by
  simp only[cq,re]at hl;unfold St.at Dq;split
  ·rename_i e0;have e1:l=2*(l/2):=O;rw[e1,r9,da,re]at hl;simp only[gV];rw[Z hl.1.1,Z hl.1.2]
  ·rename_i e0;have e1:l=2*(l/2)+1:=O;rw[e1,nW,cL]at hl;simp only;rw[Z hl.2]
 go m h1 h2:=by
  have G:∀t∈looks M o,m.aV t=K.aV t:=v7 (f:=⟨lk M o,pn (d::q)++jK [s],[s]⟩) (λl h=>h) h1;have hev:=pq G;have y:m.heap s=K.heap s:=pu (h1 _ (.inr (cq.2 (.inr (nW.2 (cL.2 rfl))))));have N:m.aV i=.e (.c (.sub s p 0 g)):=by have:=hev (.tmp i) (by simp[ho,Op.operands]);exact this.trans hx
  have hs':m.heap s=some (k.map .d):=by rw[y,I]
  have hfx:(m.cA s k).ev (.tmp i)=.e (.c (.d (.sl (aW p 0 g k)))):=by show(m.aV i).cA s k=_;rw[N];simp only[T.cA,E.cA,V.cA,gT];rw[aM O]
  have hp:iq P o (m.cA s k).ev (.e (.c (.d (.sl [[(D.sl (aW p 0 g k)).cB]])))):=by refine afM t 1 _ ho e 1 H _ ht hk hz L rfl O O O ?_;simp[uG,hfx,E.cells,ly,HH]
  have st:=fc.aeV (P:=P) (n:=n) (aU:=aU) hp (by intro j hj;rw[r]at hj;injection hj with hj;omega);have U:fc P n aU o m ((m.cA s k).put o.dst (.e (.c (.d (.sl [[(D.sl (aW p 0 g k)).cB]]))))):=λC z x a w R b Q hK=>st C z x a w (d_.freeze s k hs' hst C z x a w R) b Q hK
  have hkE:∀i,i∉d::q->(m.aV i).cA s k=m.aV i:=λi B=>T.vR λz=>h2 s ai (2*i) (by simp only[cq,r9];rintro(h|h);exact B h;exact C9 h) (by rw[As];exact z)
  have hkH:∀u,u≠s->(m.heap u).map (List.map (V.cA s k))=m.heap u:=by
   intro u hu;cases hv:m.heap u with
   |none=>rfl
   |some cs0=>
    simp only[dP,cS];refine Vs.vR λv X z=>h2 s ai (2*u+1) (by simp only[cq,nW,cL];rintro(h|h);exact DB h;exact hu h) ?_
    rw[Au,hv];exact⟨v,X,z⟩
  refine .inl ⟨hg.congr G,U.u9 ?_⟩;refine d_.trans (d_.Ol (e:=gV (λi=>if i∈q then .any else(m.aV i).cA s k) d (.e (.c (.d (.sl [[(D.sl (aW p 0 g k)).cB]]))))) (λi=>?_)) ?_
  ·rw[r];simp only[St.put,gV,St.cA];split
   ·exact .inl rfl
   ·split
    ·exact .inr rfl
    ·exact .inl rfl
  ·have:ku m (Dq K d s (.e (.c (.d (.sl [[(D.sl (aW p 0 g k)).cB]])))) q) (pn (d::q)++jK [s])=
    ⟨gV (λi=>if i∈q then .any else(m.aV i).cA s k) d (.e (.c (.d (.sl [[(D.sl (aW p 0 g k)).cB]])))),((m.cA s k).put o.dst (.e (.c (.d (.sl [[(D.sl (aW p 0 g k)).cB]]))))).heap⟩:=by
    simp only[ku,St.mk.injEq];constructor
    ·funext i;simp only[cq,r9,C9,or_false,Dq,gV];by_cases B:i=d
     ·simp[B]
     ·by_cases A:i∈q
      ·simp[B,A]
      ·have:=hkE i (by simp[B,A]);simp[B,A,this]
    ·funext u;rw[Bj];simp only[cq,nW,DB,false_or,Dq,St.cA,cL];by_cases h2:u=s
     ·simp[h2]
     ·have:=hkH u h2;simp[h2,this]
   rw[this];exact λC z I a w R=>R
section
variable {P:ax}{U:gD}
def Tx(V:bY P U)(n:Nat)(ops:av)(aN:aq)(o:Oper)(σ:SS U)(t:TypeId)(a:Nat)(parts:Array (Nat×Operand))(K:SS U->Ft->Prop):Prop:=
 match V.ty t with
 |some d=>(match d.sl with
  |some e=>(match V.ty e,V.aJ e with
   |some b,some k=>(match b.zs,Nat.beq parts.size a,Nat.ble (a*b.sz) 16777216,DO V k σ.ev 0 parts.toList with
    |some _,true,true,some l=>zL n ops aN o σ (.aW k l) (.e (.c (.aX σ.bZ k a))) K
    |_,_,_,_=>False)
   |_,_=>False)
  |none=>False)
 |none=>False
def SC(reg:kh P U)(o:Oper):Bool:=match o.dst with|some d=>(AP reg.ps (1000000+d)).isSome|none=>false
def Ty(V:bY P U)(n:Nat)(ops:av)(aN:aq)(o:Oper)(σ:SS U)(t:TypeId)(j s:Nat)(f:U.K)(m:Nat)(K:SS U->Ft->Prop):Prop:=
 match o.dst,V.ty t,cd σ.heap s,aN.contains s with
 |some d,some g,some (.aW k2 h),false=>(match g.sl with
  |some e=>(match V.ty e,V.aJ e,V.cast f k2 h with
   |some a,some k,some b=>(match a.zs,Nat.beq a.sz 1,Nat.blt d n,xt s σ.heap,V.DM k [.bN f b]with
    |some _,true,true,[],some i=>m=b.length/\K { aV:=(d,.e (.c (.d (.bN k [i]))))::vX s σ.aV,heap:=r7 s σ.heap,bZ:=σ.bZ} ⟨lk ops o,pn (d::tI s σ.aV)++jK [s],[s]⟩
    |_,_,_,_,_=>False)
   |_,_,_=>False)
  |none=>False)
 |_,_,_,_=>False
def Rb(σ:SS U)(a:Nat):List (Nat×Operand)->Option (Nat×Nat×U.K×Nat)
 |[(0,.tmp i)]=>(match σ.ev (.tmp i),Nat.beq a 1 with|.e (.c (.aX s k m)),true=>some (i,s,k,m)|_,_=>none)
 |_=>none
def Tw(V:bY P U)(n:Nat)(ops:av)(o:Oper)(σ:SS U)(t:TypeId)(x:aw)(K:SS U->Ft->Prop):Prop:=
 match V.ty t,σ.ev x,m_ n o.dst with
 |some a,.e (.c (.ptr s 0)),true=>(match a.ar with
  |some (m,e)=>(match V.ty e,V.aJ e,cd σ.heap s with
   |some _,some k,some (.aW k2 b)=>(match V.cast k k2 b,Nat.ble m 1000000 with
    |some l,true=>m=l.length/\K (σ.put o.dst (.e (.c (.aX s k m)))) ⟨(2*s+1)::lk ops o,dl o,[]⟩
    |_,_=>False)
   |_,_,_=>False)
  |none=>False)
 |_,_,_=>yb V n ops o σ K
def Hq(V:bY P U)(n:Nat)(ops:av)(aN:aq)(reg:kh P U)(o:Oper)(σ:SS U)(K:SS U->Ft->Prop):Prop:=
 match o.op with
 |.store t x y=>T8 V ops o σ t x y K
 |.box _ x=>(match σ.ev x with|.e e=>zL n ops aN o σ (.cells e.cells) (.e (.c (.ptr σ.bZ 0))) K|_=>False)
 |.alloc t=>(match V.ty t with|some r=>(match r.zs with|some j=>(match SC reg o with|true=>zL n ops aN o σ (.cells (j.map λv=>.d (.sc v))) (.e (.c (.ty σ.bZ t (.inl j.length)))) K|false=>zL n ops aN o σ (.cells (j.map λv=>.d (.sc v))) (.e (.c (.ptr σ.bZ 0))) K)|none=>False)|none=>False)
 |.binOp b t x y _=>T6 V n ops o σ b t x y K
 |.convert t u x=>TB V n ops o σ t u x K
 |.makeSlice t l c=>(match SC reg o with|true=>MC V.aJ V n ops aN o σ t l c K|false=>MC V.CA V n ops aN o σ t l c K)
 |.call ⟨.builtin .append,args,a⟩=>(match args.toList,a.toList with|[x,y],[t,w]=>(match Nat.beq t w with|true=>Tv V n ops aN o σ x y t K|false=>False)|_,_=>False)
 |.call ⟨.builtin .copy,args,a⟩=>(match args.toList,a.toList with|[x,y],[t,_]=>TD V n ops o σ x y t K|_,_=>False)
 |.call ⟨.value (.func g),args,_⟩=>(match AP reg.ps g with
  |some _=>TA n ops o σ reg.ps g args.toList K
  |none=>(match Gg reg.os g,BD (args.toList.map σ.ev)with|some c,some q=>Mr n ops aN o σ c q K|_,_=>TF (P:=P) n ops o σ g args.toList K))
 |.call ⟨.value x,args,_⟩=>(match σ.ev x with
  |.e (.c (.db g h))=>(match Gg reg.os g,BD (args.toList.map σ.ev)with|some c,some q=>Mr n ops aN o σ c (q++h.map λp=>.c (.ptr p.1 p.2)) K|_,_=>False)
  |_=>False)
 |.makeMap _ none=>TX n ops aN o σ K
 |.lookup t x y true=>TR V n ops o σ t x y K
 |.lookup t x y false=>TS V n ops o σ t x y K
 |.mapUpdate t x y z=>TY V ops o σ t x y z K
 |.slice t x B (some D) (some A)=>T7 V n ops o σ t x B D A K
 |.slice t x none none none=>Tw V n ops o σ t x K
 |.buildSlice t f parts=>(match SC reg o with|true=>Tx V n ops aN o σ t f parts K|false=>(match Rb σ f parts.toList with|some (i,s,k,m)=>Ty V n ops aN o σ t i s k m K|none=>yb V n ops o σ K))
 |.indexAddr t x C=>TM V n ops o σ t x C K
 |_=>yb V n ops o σ K
variable {V:bY P U}{n:Nat}{ops:av}{aN:aq}{o:Oper}{σ:SS U}{K:SS U→Ft→Prop}{reg:kh P U}
theorem aGC(h:Tx V n ops aN o σ t s Q K)(j:fA ops o σ.st)(m:o.op=.buildSlice t s Q):∃a f,kD P n ops o aN σ a f/\K a f:=by
 unfold Tx at h;split at h
 ·rename_i p q;split at h
  ·rename_i e r;split at h
   ·rename_i u k v w;split at h
    ·rename_i C l i x y z;have A:=V.fX _ p q;have c:=V.fX _ u v;have d:=V.zi _ _ w;rw[c.sz,cS]at d;have B:=SK V σ _ _ _ z;have D:=c.zl _ i;have g:=js y;have b:=V.pI k;refine D8 h j _ (anw t s Q m σ.bZ e (U.w k) _ _ (by rw[A.sl,r]) (by rw[c.sz,d]) (c.zs _ i) (by simp;omega) (cU x) (by rw[<-d];exact g) b B.1) ?_;exact lU.refl _
    ·cases h
   ·cases h
  ·cases h
 ·cases h
def azj{σ:SS U}{d:Nat}{k:U.K}(h:Rb σ s Q.toList=some (i,d,k,m)):s=1/\Q=#[(0,.tmp i)]/\gG σ.aV i=.e (.c (.aX d k m)):=by
 unfold Rb at h;split at h
 ·rename_i j f;split at h
  ·rename_i a b c g p;simp only[cS,Prod.mk.injEq]at h;obtain⟨rfl,rfl,rfl,rfl⟩:=h;refine⟨cU p,?_,g⟩;cases Q with|mk l=>exact bi Array.mk f
  ·cases h
 ·cases h
theorem aGB{g:U.K}(h:Ty V n ops aN o σ t i s g m K)(hg:fA ops o σ.st)(ho:o.op=.buildSlice t 1 #[(0,.tmp i)])(hx:gG σ.aV i=.e (.c (.aX s g m))):∃q f,kD P n ops o aN σ q f/\K q f:=by
 unfold Ty at h;split at h
 ·rename_i d ti k2 l0 w h1 I E;split at h
  ·rename_i e h2;split at h
   ·rename_i te k l1 h3 h4 hl;split at h
    ·rename_i zs el h5 h6 h7 G hp;obtain⟨rfl,h⟩:=h;have T1:=V.fX _ _ h1;have H:=V.fX _ _ h3;have L:d<n:=js h7;have hc:=V.qY _ _ _ _ hl;have e3:bG k2 l0=bG g l1:=by unfold bG;rw[hc.1]
     have M:σ.st.heap s=some ((bG g l1).map .d):=by rw[ga,I];simp only[dP,aZ.aI,e3]
     have N:∀i,(σ.st.aV i).bx s↔i∈tI s σ.aV:=λi=>by rw[zU,oN,<-T.mK,ST.oE]
     have x:∀u b,cd σ.heap u=some b->¬ ∃v∈b.aI,v.bx s:=λu b B l=>by have:=Cv s σ.heap u b B l;rw[G]at this;cases this
     have Q:[(D.sl (aW (U.w g) 0 l1.length (bG g l1))).cB]=U.dh k el:=by
      have e5:aW (U.w g) 0 l1.length (bG g l1)=l1.map (U.dh g):=by have:=Tm (U.w g) 0 0 l1.length (l1.map (U.dh g)) (λr hr=>by obtain⟨a,_,rfl⟩:=b_.1 hr;exact V.len g a) ai ai;rw[rG,eL ai]at this;exact this
      rw[e5];exact V.G8 _ _ _ hp
     refine⟨_,_,⟨?_,λu B R y l=>?_⟩,h⟩
     ·have:=SQ.azi (P:=P) (n:=n) (aU:=(·∈aN)) hg t i ho d s (U.w g) l1.length w (bG g l1) (by rw[oN,hx];rfl) M (by rw[mH V];omega) e _ (by rw[T1.sl,h2]) (by rw[H.sz,cU h6]) (H.zs _ h5) (by rw[eh,H.zl _ h5,cU h6]) (nk E) L (tI s σ.aV);refine cast (bi (λz=>SQ P n (·∈aN) ops o σ.st z _) ?_) this;unfold Dq SS.st;simp only;congr 1
      ·funext j;rw[uI];simp only[gV,gG];cases hi:Nat.beq j d with
       |true=>rw[aM (cU hi),Q];rfl
       |false=>
        rw[Z (o9 hi)];rw[Ks,uI];by_cases C:j∈tI s σ.aV
        ·rw[aM C];simp only[ST.kl,(zU s σ.aV j).1 C];rfl
        ·rw[Z C];have:(gG σ.aV j).nm s=false:=by
          cases G:(gG σ.aV j).nm s with
          |false=>rfl
          |true=>exact absurd ((zU s σ.aV j).2 G) C
         simp only[ST.kl,this]
      ·funext u;rw[iG (r7 s σ.heap) u];rw[Gq];by_cases A:u=s
       ·simp[A]
       ·simp only[A,lM];rw[iG];cases hv:cd σ.heap u with
        |none=>simp
        |some b=>simp only[dP,aZ.q8];rw[Et (x u b hv)]
     ·simp only[cL]at B;subst B;simp only[cq,re]at y;unfold St.at at l;split at l
      ·rename_i e0;have e1:R=2*(R/2):=O;have h9:=(N _).1 l;apply y.1;rw[e1,r9];exact cv _ h9
      ·rename_i e0;cases p:σ.st.heap (R/2)with
       |none=>rw[p]at l;cases l
       |some cs'=>rw[p]at l;rw[ga,gN]at p;obtain⟨b,X,rfl⟩:=p;exact x _ b X l
    ·cases h
   ·cases h
  ·cases h
 ·cases h
theorem aGA(h:Tw V n ops o σ t x K)(g:fA ops o σ.st)(p:o.op=.slice t x none none none):∃b f,kD P n ops o aN σ b f/\K b f:=by
 unfold Tw at h;split at h
 ·rename_i q s u v w;split at h
  ·rename_i m e y;split at h
   ·rename_i z k k2 A B C I;split at h
    ·rename_i l D i;obtain⟨rfl,h⟩:=h;have E:=V.fX _ q u;have M:=V.fX _ z B;have G:=V.zi _ _ C;have H:=V.qY _ _ _ _ D;have L:bG k2 A=bG k l:=by unfold bG;rw[H.1]
     have i:=js i;refine⟨_,_,⟨?_,λs I=>by simp at I⟩,h⟩;rw[oa];refine SQ.Oo g t x p l.length e (U.w k) (by rw[E.ar,y]) G s ((bG k l).map .d) (by rw[c8,v];rfl) (by rw[ga,I];simp only[dP,aZ.aI,L]) (by rw[eh,mH V];exact bK _) (λN c=>?_) O (na w);cases j:bG k l with
     |nil=>rw[j]at c;cases c
     |cons a r=>rw[j]at c;cases c
    ·cases h
   ·cases h
  ·cases h
 ·exact Bw h g
theorem ag7(h:Hq V n ops aN reg o σ K)(d:fA ops o σ.st):∃j f,kD P n ops o aN σ j f/\K j f:=by
 unfold Hq at h;split at h
 ·rename_i t x y a;exact aHU h d a
 ·rename_i t x a;split at h
  ·rename_i e q;refine D8 h d _ (anv t x a σ.bZ e.aI (by rw[c8,q];rfl)) ?_;rw[Ax];exact lU.refl _
  ·cases h
 ·rename_i t a;split at h
  ·rename_i X p;split at h
   ·rename_i R E;split at h
    ·have:=anu (P:=P) (o:=o) (ev:=σ.st.ev) t a σ.bZ _ ((V.fX _ _ p).zs _ E);rw[eh]at this;refine D8 h d _ this ?_;simp only[aZ.aI,U5];exact lU.refl _
    ·refine D8 h d _ (ant t a σ.bZ _ ((V.fX _ _ p).zs _ E)) ?_;simp only[aZ.aI,U5];exact lU.refl _
   ·cases h
  ·cases h
 ·rename_i b t x y T a;exact aHR h d a
 ·rename_i t u x a;exact aGI h d a
 ·rename_i t l c a;split at h
  ·exact ah1 h d a
  ·exact ah1 h d a
 ·rename_i args D a;split at h
  ·rename_i x y t L v C;split at h
   ·rename_i N;rw[xm v,xm C,<-cU N]at a;exact aGz h d a
   ·cases h
  ·cases h
 ·rename_i args D a;split at h
  ·rename_i x y t L v C;rw[xm v,xm C]at a;exact aGJ h d a
  ·cases h
 ·rename_i g args A a;split at h
  ·exact aGE h d a
  ·split at h
   ·rename_i c H r q;have e:=MT q;refine ahk h d ?_;rw[Gh r];refine auv g args A a (by rw[<-Gh r];exact c.iu) _ ?_;rw[jc];have:(args.toList.map λx=>σ.st.ev x)=(args.toList.map σ.ev).map ST.aI:=by rw[jc];congr 1;funext x;simp[c8]
    rw[this,e,jc];rfl
   ·exact aGU h d a
 ·rename_i x args A _ a;split at h
  ·rename_i g w G;split at h
   ·rename_i c H r q;have e:=MT q;refine ahk h d ?_;rw[Gh r,ia];have v:=auu (P:=P) (o:=o) (ev:=σ.st.ev) g x args A a (by rw[<-Gh r];exact c.iu) w (by rw[c8,G];rfl) (H.map SE.aI) (by
     have:(args.toList.map λx=>σ.st.ev x)=(args.toList.map σ.ev).map ST.aI:=by rw[jc];congr 1;funext x;simp[c8]
     rw[this,e,jc,jc];rfl)
    refine cast (bi (yp P o σ.st.ev g) ?_) v;congr 1;rw[jc];rfl
   ·cases h
  ·cases h
 ·rename_i t a;exact aHB h d a
 ·rename_i t x y a;exact aHj h d a
 ·rename_i t x y a;exact aHi h d a
 ·rename_i t x y z a;exact aHE h d a
 ·rename_i t x lx G mx a;exact aHT h d a
 ·rename_i t x a;exact aGA h d a
 ·rename_i t M parts a;split at h
  ·exact aGC h d a
  ·split at h
   ·rename_i i s k m B;obtain⟨rfl,rfl,Q⟩:=azj B;exact aGB h d a Q
   ·exact Bw h d
 ·rename_i t x ix a;exact aHd h d a
 ·exact Bw h d
def Bm(V:bY P U)(n:Nat)(ops:av)(aN:aq)(reg:kh P U)(o:Oper)(σ:SS U)(K:SS U->Ft->Prop):Prop:=
 match o.op with
 |.call _=>rZ σ λσ=>Hq V n ops aN reg o σ λa f=>rZ a λa=>K a f
 |_=>Hq V n ops aN reg o σ λa f=>fS a λa=>K a f
theorem Tu(h:Bm V n ops aN reg o σ K)(d:fA ops o σ.st):∃a f,kD P n ops o aN σ a f/\K a f:=by
 unfold Bm at h;split at h
 ·obtain⟨a,f,c,b⟩:=ag7 (vN (K:=λσ=>Hq V n ops aN reg o σ λa f=>rZ a λa=>K a f) h) d;exact⟨a,f,c,vN (K:=λa=>K a f) b⟩
 ·obtain⟨a,f,c,b⟩:=ag7 h d;exact⟨a,f,c,Qd (K:=λa=>K a f) b⟩
def Mu(ops:av)(o:Oper)(σ:SS U)(A B:SS U->Prop):Prop:=
 match o.guard with
 |none=>A σ
 |some (j,want)=>
  (match vT ops.toList j with
   |some a=>(match a.dst with
    |some t=>(match gG σ.aV t with
     |.e (.c (.d (.sc (.bool b))))=>(match b,want with|true,true=>A σ|false,false=>A σ|true,false=>B σ|false,true=>B σ)
     |.e (.c (.d (.cK b)))=>(b=want->A { σ with aV:=(t,.e (.c (.d (.sc (.bool want)))))::σ.aV})/\(b=!want->B { σ with aV:=(t,.e (.c (.d (.sc (.bool !want)))))::σ.aV})
     |.cE []=>B σ
     |_=>False)
    |none=>False)
   |none=>False)
def adb(σ:SS U)(t:Nat)(b:Bool)(h:gG σ.aV t=.e (.c (.d (.cK b)))):({ σ with aV:=(t,.e (.c (.d (.sc (.bool b)))))::σ.aV}:SS U).st=σ.st:=by
 unfold SS.st;simp only;congr 1;have:mk (mF σ.aV) t=.e (.c (.d (.sc (.bool b)))):=by rw[uI,h];rfl
 exact auw this
def ahN{A B:SS U->Prop}(h:Mu ops o σ A B):∃g,g.st=σ.st/\((fA ops o g.st/\A g)\/(xe ops o g.st/\B g)):=by
 unfold Mu at h;split at h
 ·rename_i i;exact⟨σ,rfl,.inl ⟨.inl i,h⟩⟩
 ·rename_i j want i;split at h
  ·rename_i r m;split at h
   ·rename_i t q;have a:(ops[j]?).bind (·.dst)=some t:=by rw[qh]at m;rw[<-yh,m];exact q
    split at h
    ·rename_i b f;have f:σ.st.aV t=.e (.c (.d (.sc (.bool b)))):=by rw[oN,f];rfl
     refine⟨σ,rfl,?_⟩;split at h
     ·exact .inl ⟨.inr ⟨j,_,t,i,a,f⟩,h⟩
     ·exact .inl ⟨.inr ⟨j,_,t,i,a,f⟩,h⟩
     ·exact .inr ⟨⟨j,_,t,i,a,.inl ⟨_,f,rfl⟩⟩,h⟩
     ·exact .inr ⟨⟨j,_,t,i,a,.inl ⟨_,f,rfl⟩⟩,h⟩
    ·rename_i b f;have k:σ.st.aV t=.e (.c (.d (.sc (.bool b)))):=by rw[oN,f];rfl
     by_cases p:b=want
     ·subst p;have e:=adb σ t b f;exact⟨_,e,.inl ⟨by rw[e];exact .inr ⟨j,_,t,i,a,k⟩,h.1 rfl⟩⟩
     ·have l:b=!want:=by cases b<;>cases want<;>simp_all
      subst l;have e:=adb σ t _ f;exact⟨_,e,.inr ⟨by rw[e];exact⟨j,want,t,i,a,.inl ⟨_,k,by cases want<;>rfl⟩⟩,h.2 rfl⟩⟩
    ·rename_i f;have k:σ.st.aV t=.cE []:=by rw[oN,f];rfl
     exact⟨σ,rfl,.inr ⟨⟨j,want,t,i,a,.inr k⟩,h⟩⟩
    ·cases h
   ·cases h
  ·cases h
def Q8(o:Oper)(σ:SS U):Option Nat:=
 match o.op with
 |.call ⟨.builtin .len,args,_⟩=>(match args.toList with|[x]=>(match σ.ev x with|.e (.c (.d (.bN _ l)))=>some l.length|_=>none)|_=>none)
 |_=>none
def ay4(h:Q8 o σ=some m)(C:ef)(a:Act)(w:World)(R:gO C σ.st a w):m<=9223372036854775807:=by
 unfold Q8 at h;split at h
 ·split at h
  ·rename_i x _;split at h
   ·rename_i k l b;injection h with h;subst h
    obtain⟨c,R⟩:=R;have:=R.ev x;rw[c8,b]at this;have:=ay6 this;simpa using this
   ·cases h
  ·cases h
 ·cases h
def Qq(reg:kh P U)(o:Oper)(σ:SS U):List Nat:=
 match o.op with
 |.call ⟨.value (.func g),args,_⟩=>(match AP reg.ps g with|some _=>args.toList.flatMap λx=>(σ.ev x).dd|none=>[])
 |.buildSlice _ _ parts=>parts.toList.flatMap λp=>(σ.ev p.2).dd
 |.store _ x y=>(match σ.ev x with|.e (.c (.jF _ _ _ _))=>(σ.ev y).dd|_=>[])
 |_=>[]
def aib(V:bY P U)(n:Nat)(ops:av)(aN:aq)(reg:kh P U)(o:Oper)(σ:SS U)(R:SS U->Prop):Prop:=
 Mu ops o σ
  (λσ=>(match Q8 o σ with
    |some m=>(m<=9223372036854775807->x_ aN (Qq reg o σ) σ λσ=>Bm V n ops aN reg o σ λa _=>R a)
    |none=>x_ aN (Qq reg o σ) σ λσ=>Bm V n ops aN reg o σ λa _=>R a))
  (λσ=>(match m_ n o.dst with|true=>fS (σ.put o.dst (.cE [])) R|false=>False))
def ry(V:bY P U)(n:Nat)(ops:av)(aN:aq)(reg:kh P U):List Oper->SS U->(SS U->Prop)->Prop
 |[],σ,K=>K σ
 |o::r,σ,K=>aib V n ops aN reg o σ λa=>ry V n ops aN reg r a K
def I3(σ a:St):Prop:=∀t b,σ.aV t=.e (.c (.d (.sc (.bool b))))->a.aV t=.e (.c (.d (.sc (.bool b))))
def I3.aIx{σ σ':St}(h:I3 σ σ')(a:fA ops o σ):fA ops o σ':=by
 rcases a with a|⟨j,w,t,b,c,d⟩
 ·exact .inl a
 ·exact .inr ⟨j,w,t,b,c,h _ _ d⟩
theorem aG3(V:bY P U){n:Nat}{aN:aq}{σ:SS U}{K:SS U->Prop}(h:Hu aN s σ K):∃σ',d_ n (·∈aN) σ.st σ'.st/\I3 σ.st σ'.st/\K σ':=by
 unfold Hu at h;split at h
 ·rename_i k l I e;obtain⟨a,c⟩:=Sk V h;obtain⟨a,f⟩:=Sn V a;refine⟨_,?_,?_,a⟩
  ·have:=d_.freeze (n:=n) (aU:=(·∈aN)) (σ:=σ.st) s (bG k l) (by rw[ga,I];rfl) (nk e);refine cast (bi (d_ n (·∈aN) σ.st) ?_) this;unfold St.cA;rw[show(SS.st { aV:=xC s k l σ.aV,heap:=uy s k l σ.heap,bZ:=σ.bZ})=⟨λi=>(gG (xC s k l σ.aV) i).aI,λu=>(cd (uy s k l σ.heap) u).map aZ.aI⟩from by
    unfold SS.st;congr 1
    ·funext i;exact uI _ i
    ·funext u;exact iG _ u]
   congr 1
   ·funext i;rw[c,oN]
   ·funext u;rw[f,ga]
  ·intro t b d;rw[oN]at d⊢;rw[show gG (SS.aV { aV:=xC s k l σ.aV,heap:=uy s k l σ.heap,bZ:=σ.bZ}) t=gG (xC s k l σ.aV) t from rfl,c,d];rfl
 ·exact⟨σ,d_.refl _ _ _,λ_ _ h=>h,h⟩
 ·cases h
theorem ahv(V:bY P U){n:Nat}{aN:aq}:∀{l:aq}{σ:SS U}{K:SS U->Prop},x_ aN l σ K->∃a,d_ n (·∈aN) σ.st a.st/\I3 σ.st a.st/\K a
 |[],σ,K,h=>⟨σ,d_.refl _ _ _,λ_ _ h=>h,h⟩
 |s::r,σ,K,h=>by obtain⟨d,f,i,h⟩:=aG3 V (n:=n) h;obtain⟨c,e,g,h⟩:=ahv V (n:=n) h;exact⟨c,f.trans e,λt b h=>g t b (i t b h),h⟩
theorem Em:∀(l:List Oper)(σ:SS U)(K:SS U->Prop),ry V n ops aN reg l σ K->gA P n (·∈aN) ops l σ.st λs=>∃σ',σ'.st=s/\K σ'
 |[],σ,K,h=>gA.nil ⟨σ,rfl,h⟩
 |o::r,σ,K,h=>by
  simp only[ry]at h;unfold aib at h;obtain⟨b,u,h⟩:=ahN h;rw[<-u];rcases h with⟨q,h⟩|⟨j,h⟩
  ·have d:(x_ aN (Qq reg o b) b λσ=>Bm V n ops aN reg o σ λσ' _=>ry V n ops aN reg r σ' K)->gA P n (·∈aN) ops (o::r) b.st λs=>∃σ',σ'.st=s/\K σ':=by intro h;obtain⟨e,g,i,h⟩:=ahv V (n:=n) h;obtain⟨c,f,I,h⟩:=Tu h (i.aIx q);exact gA.u9 g (gA.one (I.sq.one I.kl) (Em r c K h))
   split at h
   ·rename_i m p;intro C k I a w R;exact d (h (ay4 p C a w R)) C k I a w R
   ·exact d h
  ·split at h
   ·rename_i t;have:=Em r _ K (Qd (K:=λσ'=>ry V n ops aN reg r σ' K) h);rw[oa]at this;exact gA.one (.inr ⟨j,na t,rfl⟩) this
   ·cases h
end
section
variable {P:ax}{U:gD}
def Gx(b:List (SS U))(c:List Ft):Bool:=
 c.all λf=>f.kl.all λs=>b.all λa=>(a.aV.map (·.1)).all (λi=>f.wr.contains (2*i)|| !(gG a.aV i).nm s)&&(xt s a.heap).all λu=>f.wr.contains (2*u+1)
def aia(V:bY P U)(n:Nat)(ops:av)(aN:aq)(reg:kh P U)(o:Oper)(b:SS U)(d:List Ft)(c:List (SS U))(R:SS U->List Ft->List (SS U)->Prop):Prop:=
 Mu ops o b
  (λb=>Bm V n ops aN reg o b λa f=>R a (f::d) (b::c))
  (λb=>(match m_ n o.dst with|true=>fS (b.put o.dst (.cE [])) λa=>R a (⟨lk ops o,dl o,[]⟩::d) (b::c)|false=>False))
def wJ(V:bY P U)(n:Nat)(ops:av)(aN:aq)(reg:kh P U):List Oper->SS U->List Ft->List (SS U)->(SS U->Prop)->Prop
 |[],c,d,a,K=>(Ay ops d.reverse&&Gx (c::a) d)=true/\K c
 |o::r,c,d,a,K=>aia V n ops aN reg o c d a λe f b=>wJ V n ops aN reg r e f b K
variable {V:bY P U}{n:Nat}{ops:av}{aN:aq}{reg:kh P U}
def aya{g:List (SS U)}{p:List Ft}(h:Gx g p=true){f:Ft}(u:f∈p)(I:s∈f.kl){d:SS U}(j:d∈g)(l:Nat)(q:l∉f.wr):¬(d.st.at l).bx s:=by
 unfold Gx at h;rw[eW]at h;have r:=h f u;rw[eW]at r;have t:=r s I;rw[eW]at t;have k:=t d j;rw[ej,eW,eW]at k;intro a;unfold St.at at a;split at a
 ·rename_i v;have m:l=2*(l/2):=O;have a:(d.st.aV (l/2)).bx s:=a;rw[oN,<-T.mK,ST.oE]at a;have w:l/2∈d.aV.map (·.1):=Qz _ _ (λe=>by rw[e]at a;cases a);have i:=k.1 _ w;rw[a,rA,Bool.or_false]at i;apply q;rw[m];simpa using i
 ·rename_i v;have m:l=2*(l/2)+1:=O;cases c:d.st.heap (l/2)with
  |none=>rw[c]at a;cases a
  |some x=>rw[c]at a;rw[ga,gN]at c;obtain⟨b,o,rfl⟩:=c;have i:=k.2 _ (Cv s d.heap _ b o a);apply q;rw[m];simpa using i
def Vj(P:ax)(n:Nat)(ops:av)(aN:aq)(l:List Oper)(i:SS U)(h:List Ft)(g:List (SS U))(K:SS U->Prop):Prop:=
    ∃(c:List (SS U)) (e:List Ft) (d:SS U),c.length=l.length+1/\e.length=l.length/\(c[0]?).map SS.st=some i.st/\c[l.length]?=some d/\
     (∀(j:Nat)(o:Oper)(a b:SS U)(f:Ft),l[j]?=some o->c[j]?=some a->c[j+1]?=some b->e[j]?=some f->SQ P n (·∈aN) ops o a.st b.st f)/\
     Ay ops (h.reverse++e)=true/\Gx (c++g) (e++h)=true/\K d
theorem aji:∀(l:List Oper) (i:SS U) (g:List Ft) (c:List (SS U)) (K:SS U->Prop),wJ V n ops aN reg l i g c K->Vj P n ops aN l i g c K
 |[],i,g,c,K,h=>by simp only[wJ,ej]at h;obtain⟨⟨u,t⟩,h3⟩:=h;exact⟨[i],[],i,rfl,rfl,rfl,rfl,λj o a b f q=>by simp at q,by simpa using u,t,h3⟩
 |o::r,i,g,c,K,h=>by
  simp only[wJ]at h;unfold aia at h;obtain⟨e,e1,h⟩:=ahN h;have p:∀(d:SS U)(k:Ft),SQ P n (·∈aN) ops o e.st d.st k->wJ V n ops aN reg r d (k::g) (e::c) K->Vj P n ops aN (o::r) i g c K:=λd k z h=>by
   obtain⟨cs,fl,v,Q,N,C,M,L,H,y,G⟩:=aji r d (k::g) (e::c) K h;refine⟨e::cs,k::fl,v,by simp[Q],by simp[N],by simp[e1],by simpa using M,λj E a b f q B A m=>?_,?_,?_,G⟩
   ·cases j with
    |zero=>simp only[kg,cS]at q B m;simp only[B5,ol]at A;subst q;subst B;subst m;rw[A,dP,cS]at C;rw[C];exact z
    |succ j=>exact L j E a b f (an q) (an B) (an A) (an m)
   ·simpa using H
   ·unfold Gx at y⊢;rw[eW]at y⊢;intro f m;have u:=y f (by simp only[cq,da]at m⊢;rcases m with(h|h)|h<;>simp[h]);rw[eW]at u⊢;intro s I;have t:=u s I;rw[eW]at t⊢;intro x D;exact t x (by simp only[cq,da]at D⊢;rcases D with(h|h)|h<;>simp[h])
  rcases h with⟨T,h⟩|⟨R,h⟩
  ·obtain⟨d,k,I,h⟩:=Tu h T;exact p d k I.sq h
  ·split at h
   ·rename_i X;refine p _ _ ?_ (Qd (K:=λw=>wJ V n ops aN reg r w (⟨lk ops o,dl o,[]⟩::g) (e::c) K) h);rw[oa];exact SQ.skip R (na X)
   ·cases h
theorem ajh{σ:SS U}{K:SS U->Prop}(h:wJ V n ops aN reg ops.toList σ [] [] K){C:ef}(z:C.nt=n)(I:C.aU=(·∈aN)){a:Act}{w:World}(R:gO C σ.st a w){Q:Exit->Act->World->Prop}(A:∀d,K d->∀e g,gO C d.st e g->Q .normal e g):wpAny P .any ops Q ops.size (Array.replicate ops.size false) a { w with drawn:=w.drawn+1}:=by
 obtain⟨cs,B,σE,i1,T,r,D,E,t,u,G⟩:=aji _ _ _ _ _ h;simp only[List.reverse_nil,gf,lB]at t u;have k:ops.toList.length=ops.size:=ai;have b:∀m,m<=ops.size->∃x,cs[m]?=some x/\x∈cs:=λm hm=>⟨cs[m]' O,cN _,tZ _⟩
 have H:((cs[0]?).getD σ).st=σ.st:=by obtain⟨x,c,_⟩:=b 0 (dz _);rw[c,dP,cS]at r;rw[c,ib,r]
 have L:((cs[ops.size]?).getD σ).st=σE.st:=by rw[<-k,D];rfl
 refine aFE (fp:=B) (X:=λm=>((cs[m]?).getD σ).st) O (λj f i=>?_) t (λj f i s I m o l p=>?_) z I (by simpa only[H]using R) (λe g M=>A σE G e g (by simpa only[L]using M))
 ·have hj:j<ops.size:=by have:=(du.1 i).1;omega
  obtain⟨x,c,_⟩:=b j O;obtain⟨y,v,_⟩:=b (j+1) O;have N:ops.toList[j]?=some ops[j]:=ai;simp only[c,v,ib];exact SQ.lq (E j _ x y f N c v i) ai
 ·obtain⟨x,c,q⟩:=b m o;simp only[c,ib];exact aya u (bM i) I q l p
theorem aJD(c:P.follows .mixedOrders=true){id:Nat}{b:SS U}{K:SS U->Prop}(h:wJ V n ops aN reg ops.toList b [] [] K){Q:nF}(d:∀a,K a->Q.f_ a.st):WP P n (·∈aN) (.region id ops true) b.st Q:=
 λ_ e I _ _ R=>wp_region_any c (ajh h e I R λa f _ _ g=>⟨a.st,g,d a f⟩)
def Og(f:ap):List Nat->Prop
 |[]=>True
 |i::r=>f i/\Og f r
theorem Xa{f:ap}:∀{l:aq},Og f l->∀i∈l,f i
 |[],_,_,h=>by cases h
 |a::r,h,i,hi=>by
  rcases da.1 hi with rfl|hi
  ·exact h.1
  ·exact Xa h.2 i hi
def Hj(p:Nat->Bool):Nat->Nat->List Nat
 |0,_=>[]
 |k+1,i=>(match p i with|true=>i::Hj p k (i+1)|false=>Hj p k (i+1))
theorem agl(p:Nat->Bool):∀(k i:Nat),(List.range' i k).filter p=Hj p k i
 |0,_=>rfl
 |k+1,i=>by rw[List.range'_succ,List.filter_cons,Hj,agl p k (i+1)];cases p i<;>rfl
def yR:List Bool->Nat->Bool->Bool
 |[],_,d=>d
 |b::_,0,_=>b
 |_::r,i+1,d=>yR r i d
theorem Oq:∀(l:List Bool)(i:Nat)(d:Bool),l.toArray.getD i d=yR l i d
 |[],i,d=>by simp[yR]
 |b::r,0,d=>by simp[yR]
 |b::r,i+1,d=>by rw[yR,<-Oq r i d];simp
def aga(ops:List Oper)(l:List Bool)(i:Nat):Bool:=
 match yR l i true with
 |true=>false
 |false=>(match ops[i]? with
  |some o=>o.after.toList.all λe=>!Region.binds .any e||yR l e.on false
  |none=>false)
def Mc(ops:List Oper)(l:List Bool):List Nat:=Hj (aga ops l) ops.length 0
def Md(ops:av)(l:List Bool):Region.ready .any ops l.toArray=Mc ops.toList l:=by
 unfold Region.ready Mc;rw[List.range_eq_range',<-agl];have e:ops.toList.length=ops.size:=rfl;rw[e];congr 1;funext i;unfold aga;rw[Oq];cases yR l i true with
 |true=>rfl
 |false=>
  simp only[sC,wQ,yh];cases ops[i]? with
  |none=>rfl
  |some o=>simp only[dP,ib,<-Array.all_toList];congr 1;funext e;rw[Oq]
def BH(V:bY P U)(n:Nat)(ops:av)(aN:aq)(reg:kh P U):Nat->List Bool->SS U->(SS U->Prop)->Prop
 |0,listed,b,K=>(match Mc ops.toList listed with|[]=>K b|_::_=>False)
 |a+1,listed,b,K=>(match Mc ops.toList listed with
  |[]=>K b
  |i::r=>Og (λi=>match ops.toList[i]? with
   |some o=>(match o.guard with
    |none=>Bm V n ops aN reg o b λc _=>BH V n ops aN reg a (listed.set i true) c K
    |some _=>False)
   |none=>False) (i::r))
theorem ajg{ops:av}{C:ef}(t:C.nt=n)(I:C.aU=(·∈aN)){Q:Exit->Act->World->Prop}{K:SS U->Prop}(p:∀c,K c->∀a w,gO C c.st a w->Q .normal a w):∀(b:Nat)(listed:List Bool)(l:SS U)(a:Act)(w:World),BH V n ops aN reg b listed l K->gO C l.st a w->wpAny P .any ops Q b listed.toArray a w
 |0,listed,l,a,w,h,R=>by
  simp only[BH]at h;split at h
  ·rename_i d;exact⟨(Md _ _).trans d,p _ h _ _ R⟩
  ·cases h
 |b+1,listed,l,a,w,h,R=>by
  simp only[BH]at h;split at h
  ·rename_i d;exact⟨λ_=>p _ h _ _ R,λi j=>by rw[Md,d]at j;cases j⟩
  ·rename_i D r d;refine⟨λz=>absurd (d.symm.trans ((Md _ _).symm.trans z)) ai,λi j=>?_⟩;rw[Md,d]at j;have k:=Xa h i j;split at k
   ·rename_i o s;rw[yh]at s;split at k
    ·rename_i m;obtain⟨c,f,g,y⟩:=Tu k (.inl m);have q:=g.sq.one g.kl;unfold wpOp;rw[s];simp only;have v:Region.wanted o (yielded ops a.tmps)=true:=by unfold Region.wanted;rw[m]
     rw[v];left;rcases q with⟨_,q⟩|⟨x,_⟩
     ·refine q C t I a w R _ Q λA u B=>?_
      have e:listed.toArray.setIfInBounds i true=(listed.set i true).toArray:=ai;rw[e];exact ajg t I p b _ c A u y B
     ·exact(fA.aex (Or.inl m) x).elim
    ·cases k
   ·cases k
theorem ajf(d:P.follows .mixedOrders=true){id:Nat}{ops:av}{c:SS U}{K:SS U->Prop}(h:BH V n ops aN reg ops.toList.length (List.replicate ops.toList.length false) c K){Q:nF}(f:∀b,K b->Q.f_ b.st):WP P n (·∈aN) (.region id ops true) c.st Q:=by intro C g I a w R;refine wp_region_any d ?_;have e:Array.replicate ops.size false=(List.replicate ops.toList.length false).toArray:=ai;rw[e];refine ajg g I (λb i a w j=>⟨b.st,j,f b i⟩) _ _ c _ _ h ?_;obtain⟨k,l⟩:=R;exact⟨k,l.drawn⟩
def YJ(ops:av):Bool:=
 match ops.toList with
 |[⟨_,.alloc _,_,_,_,none⟩,⟨none,.store _ _ _,_,_,_,none⟩,⟨none,.store _ _ _,_,_,_,none⟩,⟨_,.load _ _,_,_,_,none⟩]=>true
 |_=>false
end
section
variable {P:ax}{U:gD}
def ko:List (Nat×Option Nat)->Nat->Option Nat
 |[],_=>none
 |(a,b)::r,s=>match Nat.beq a s with|true=>b|false=>ko r s
def l_:List (Nat×Option Nat)->Nat->Bool
 |[],_=>false
 |(a,_)::r,s=>match Nat.beq a s with|true=>true|false=>l_ r s
def S_:SV U->SV U->List (Nat×Option Nat)
 |.aX s _ _,.aX t _ _=>[(t,some s)]
 |.sub s _ _ _,.sub t _ _ _=>[(t,some s)]
 |.ptr s _,.ptr t _=>[(t,some s)]
 |.jF s _ _ _,.jF t _ _ _=>[(t,some s)]
 |.mp s,.mp t=>[(t,some s)]
 |.ty s _ _,.ty t _ _=>[(t,some s)]
 |.ty s _ _,.ptr t _=>[(t,some s)]
 |.d (.sc (.slice none 0 0)),.aX t _ _=>[(t,none)]
 |.db _ c,.db _ a=>(c.zip a).map λp=>(p.2.1,some p.1.1)
 |_,_=>[]
def Ta:List (SV U)->List (SV U)->List (Nat×Option Nat)
 |x::b,y::a=>S_ x y++Ta b a
 |_,_=>[]
def prE:SE U->SE U->List (Nat×Option Nat)
 |.c x,.c y=>S_ x y
 |.agg b,.agg a=>Ta b a
 |_,_=>[]
def prT:ST U->ST U->List (Nat×Option Nat)
 |.e x,.e y=>prE x y
 |_,_=>[]
def afA(e:List (Nat×ST U)):List (Nat×ST U)->List (Nat×Option Nat)
 |[]=>[]
 |(i,t)::r=>prT (gG e i) t++afA e r
def Hc(h:List (Nat×aZ U))(a:List (Nat×Option Nat)):List (Nat×aZ U)->List (Nat×Option Nat)
 |[]=>[]
 |(s,.cells b)::r=>(match ko a s with|some t=>(match cd h t with|some (.cells d)=>Ta d b|_=>[])|none=>[])++Hc h a r
 |(s,.hY _ _ c)::r=>(match ko a s with|some t=>(match cd h t with|some (.hY _ _ v)=>S_ v c|_=>[])|none=>[])++Hc h a r
 |_::r=>Hc h a r
def Bc(aN:aq)(b a:SS U):List (Nat×Option Nat):=
 let d:=(aN.map λs=>(s,some s))++afA b.aV a.aV
 let c:=d++Hc b.heap d a.heap
 c++Hc b.heap c a.heap
def KO(v d:Value)(c:Prop):Prop:=
 match v,d with
 |.int k a,.int e b=>(match decide (k=e)with|true=>a=b/\c|false=>False)
 |.bool a,.bool b=>a=b/\c
 |.string a,.string b=>a=b/\c
 |.slice none 0 0,.slice none 0 0=>c
 |v,d=>v=d/\c
def ac2{v':Value}(h:KO k v' R):R/\k=v':=by
 unfold KO at h;split at h
 ·split at h
  ·rename_i a;simp only[be]at a;obtain⟨rfl,h⟩:=h;subst a;exact⟨h,rfl⟩
  ·cases h
 ·obtain⟨rfl,h⟩:=h;exact⟨h,rfl⟩
 ·obtain⟨rfl,h⟩:=h;exact⟨h,rfl⟩
 ·exact⟨h,rfl⟩
 ·obtain⟨e,h⟩:=h;exact⟨h,e⟩
def KI(V:bY P U)(x y:SD U)(a:Prop):Prop:=
 match y with
 |.bN g d=>(match x with
  |.bN k l=>(match V.cast g k l with|some f=>f=d/\a|none=>False)
  |.sc (.slice none 0 0)=>d=[]/\a
  |_=>False)
 |.cK e=>(match x with
  |.cK b=>b=e/\a
  |.sc (.bool b)=>b=e/\a
  |_=>False)
 |.sc c=>(match x with
  |.sc v=>KO v c a
  |.cK b=>KO (.bool b) c a
  |_=>False)
def acV{V:bY P U}{x y:SD U}(h:KI V x y R):R/\∀w a v,dN w a x.aI v->dN w a y.aI v:=by
 unfold KI at h;split at h
 ·rename_i e f;split at h
  ·rename_i k l;split at h
   ·rename_i g d;obtain⟨rfl,h⟩:=h;refine⟨h,λw a v b=>?_⟩;have:=(V.qY _ _ _ _ d).1;simp only[SD.aI]at b⊢;rwa [<-this]
   ·cases h
  ·obtain⟨rfl,h⟩:=h;exact⟨h,λw a v b=>dN.cB b⟩
  ·cases h
 ·split at h
  ·obtain⟨rfl,h⟩:=h;exact⟨h,λ_ _ _ b=>b⟩
  ·obtain⟨rfl,h⟩:=h;exact⟨h,λ_ _ _ b=>b⟩
  ·cases h
 ·split at h
  ·obtain⟨c,rfl⟩:=ac2 h;exact⟨c,λ_ _ _ b=>b⟩
  ·obtain⟨c,rfl⟩:=ac2 h;exact⟨c,λ_ _ _ b=>b⟩
  ·cases h
def Q2(V:bY P U):List (SD U)->List (SD U)->Prop->Prop
 |[],[],a=>a
 |x::c,y::b,a=>KI V x y (Q2 V c b a)
 |_,_,_=>False
theorem acW{V:bY P U}:∀{e d:List (SD U)} {c:Prop},Q2 V e d c->c/\e.length=d.length/\∀(j:Nat)(x y:SD U),e[j]?=some x->d[j]?=some y->∀w X v,dN w X x.aI v->dN w X y.aI v
 |[],[],c,h=>⟨h,rfl,λj x y i=>by simp at i⟩
 |x::e,y::d,c,h=>by
  obtain⟨h,m⟩:=acV h;obtain⟨h,l,k⟩:=acW h;refine⟨h,by simp[l],λj a b g f=>?_⟩;cases j with
  |zero=>simp only[kg,cS]at g f;subst g;subst f;exact m
  |succ j=>exact k j a b (an g) (an f)
 |[],_::_,_,h=>h.elim
 |_::_,[],_,h=>h.elim
def same(a:List (Nat×Option Nat))(s t:Nat):Bool:=match ko a t with|some u=>Nat.beq u s|none=>false
def Bo(h:same X s m=true):ko X m=some s:=by
 unfold same at h;split at h
 ·rename_i u a;rw[a,cU h]
 ·cases h
def GF(V:bY P U)(b:List (Nat×Option Nat))(x y:SV U)(a:Prop):Prop:=
 match y with
 |.any=>a
 |.d y=>(match x with|.d x=>KI V x y a|_=>False)
 |.ptr t e=>(match x with|.ptr s o=>(match same b s t,Nat.beq o e with|true,true=>a|_,_=>False)|.ty s _ (.inl _)=>(match same b s t,Nat.beq 0 e with|true,true=>a|_,_=>False)|_=>False)
 |.jF t g u r=>(match x with|.jF s k i j=>(match same b s t,Nat.beq (U.w k) (U.w g)with|true,true=>i=u/\j=r/\a|_,_=>False)|_=>False)
 |.sub t g e h=>(match x with|.sub s k o n=>(match same b s t,Nat.beq (U.w k) (U.w g)with|true,true=>o=e/\n=h/\a|_,_=>False)|_=>False)
 |.aX t g h=>(match x with
  |.aX s k n=>(match same b s t,Nat.beq (U.w k) (U.w g)with|true,true=>n=h/\a|_,_=>False)
  |.d (.sc (.slice none 0 0))=>(match ko b t with|none=>h=0/\a|some _=>False)
  |_=>False)
 |.mp t=>(match x with|.mp s=>(match same b s t with|true=>a|_=>False)|_=>False)
 |.ty t q e=>(match x with|.ty s y o=>(match same b s t,Nat.beq y q with|true,true=>o=e/\a|_,_=>False)|_=>False)
 |.gU l=>(match x with|.gU w=>Q2 V w l a|_=>False)
 |.db v m=>(match x with
  |.db f c=>(match Nat.beq f v,(m.all λp=>(ko b p.1).isSome)with|true,true=>c=(m.map λp=>((ko b p.1).getD 0,p.2))/\a|_,_=>False)
  |_=>False)
def VLe(x y:Ab.V):=∀(w:World)(M:ap)(a:G)(v:Value),dQ w M a x v->dQ w M a y v
def KN{V:bY P U}{x y:SV U}(h:GF V X x y R):R/\VLe x.aI (y.aI.eO (ko X)):=by
 unfold GF at h;split at h
 ·refine⟨h,λw M g v c=>c.one⟩
 ·split at h
  ·obtain⟨h,e⟩:=acV h;exact⟨h,λw M g v c=>e _ _ _ c⟩
  ·cases h
 ·split at h
  ·split at h
   ·rename_i d f;refine⟨h,λw M g v c=>?_⟩;simp only[SV.aI,Ab.V.eO,Bo d]at c⊢;rw[<-cU f];exact c
   ·cases h
  ·split at h
   ·rename_i d f;refine⟨h,λw M g v c=>?_⟩;simp only[SV.aI,Ab.V.eO,Bo d]at c⊢;obtain⟨b,_,o,_,e,_⟩:=c;rw[<-cU f];exact⟨b,o,e⟩
   ·cases h
  ·cases h
 ·split at h
  ·split at h
   ·rename_i d f;obtain⟨rfl,rfl,h⟩:=h;refine⟨h,λw M g v c=>?_⟩;simp only[SV.aI,Ab.V.eO,Bo d]at c⊢;rw[<-cU f];exact c
   ·cases h
  ·cases h
 ·split at h
  ·split at h
   ·rename_i d f;obtain⟨rfl,rfl,h⟩:=h;refine⟨h,λw M g v c=>?_⟩;simp only[SV.aI,Ab.V.eO,Bo d]at c⊢;rw[<-cU f];exact c
   ·cases h
  ·cases h
 ·split at h
  ·split at h
   ·rename_i d f;obtain⟨rfl,h⟩:=h;refine⟨h,λw M g v c=>?_⟩;simp only[SV.aI,Ab.V.eO,Bo d]at c⊢;rw[<-cU f];exact c
   ·cases h
  ·split at h
   ·rename_i d;obtain⟨rfl,h⟩:=h;refine⟨h,λw M g v c=>?_⟩;simp only[SV.aI,Ab.V.eO,d]at c⊢;rw[aM ⟨trivial,trivial⟩];exact c
   ·cases h
  ·cases h
 ·split at h
  ·split at h
   ·rename_i d;refine⟨h,λw M g v c=>?_⟩;simp only[SV.aI,Ab.V.eO,Bo d]at c⊢;exact c
   ·cases h
  ·cases h
 ·split at h
  ·split at h
   ·rename_i d f;obtain⟨rfl,h⟩:=h;refine⟨h,λw M g v c=>?_⟩;simp only[SV.aI,Ab.V.eO,Bo d]at c⊢;rw[<-cU f];exact c
   ·cases h
  ·cases h
 ·split at h
  ·rename_i p ds;obtain⟨h,t,q⟩:=acW h;refine⟨h,λw M g v c=>?_⟩;obtain⟨a,ev,k,l,r⟩:=c;refine⟨a,ev,k,l,λj x m=>?_⟩;rw[eC,gN]at m;obtain⟨y,n,rfl⟩:=m;have i:j<ds.length:=by have:=(du.1 n).1;omega
   obtain⟨u,s,c⟩:=r j (ds[j]).aI (by rw[eC,cN i];rfl);exact⟨u,s,q j _ y (cN i) n _ _ _ c⟩
  ·cases h
 ·split at h
  ·split at h
   ·rename_i d f;obtain⟨rfl,h⟩:=h;refine⟨h,λw M g v c=>?_⟩;simp only[SV.aI,Ab.V.eO]at c⊢;rw[aM f,<-cU d];exact c
   ·cases h
  ·cases h
def KR(V:bY P U)(b:List (Nat×Option Nat)):List (SV U)->List (SV U)->Prop->Prop
 |[],[],a=>a
 |x::d,y::c,a=>GF V b x y (KR V b d c a)
 |_,_,_=>False
theorem KS{V:bY P U}{l:List (Nat×Option Nat)}:∀{k j:List (SV U)} {e:Prop},KR V l k j e->e/\∀w M f b,bW w M f (k.map SV.aI) b->bW w M f ((j.map SV.aI).map (Ab.V.eO (ko l))) b
 |[],[],e,h=>⟨h,λ_ _ _ _ h=>h⟩
 |x::k,y::j,e,h=>by
  obtain⟨h,p⟩:=KN h;obtain⟨h,o⟩:=KS h;refine⟨h,λw M f b g=>?_⟩;cases b with
  |nil=>have:=g.1;simp at this
  |cons v b=>
   have n:=g.2 0 x.aI v rfl rfl;have m:=o w M f b ⟨by simpa using g.1,λi a u d c=>g.2 (i+1) a u (an d) (an c)⟩;refine⟨by simpa using m.1,λi a u d c=>?_⟩;cases i with
   |zero=>simp only[de,kg,cS]at d c;subst d;subst c;exact p _ _ _ _ n
   |succ i=>exact m.2 i a u (an d) (an c)
 |[],_::_,_,h=>h.elim
 |_::_,[],_,h=>h.elim
def GD(V:bY P U)(b:List (Nat×Option Nat))(x y:SE U)(a:Prop):Prop:=
 match x,y with
 |.c x,.c y=>GF V b x y a
 |.agg e,.agg d=>KR V b e d a
 |_,_=>False
def Q3(V:bY P U)(b:List (Nat×Option Nat)):List (SE U)->List (SE U)->Prop->Prop
 |[],[],a=>a
 |x::d,y::c,a=>GD V b x y (Q3 V b d c a)
 |_,_,_=>False
def KL(V:bY P U)(b:List (Nat×Option Nat))(x y:ST U)(a:Prop):Prop:=
 match y with
 |.any=>a
 |.e y=>(match x with|.e x=>GD V b x y a|_=>False)
 |.cE c=>(match x with|.cE d=>Q3 V b d c a|_=>False)
def ayX{V:bY P U}{x y:SE U}(h:GD V X x y R):R/\∀w M a v,eK w M a x.aI v->eK w M a (y.aI.eO (ko X)) v:=by
 unfold GD at h;split at h
 ·obtain⟨h,e⟩:=KN h;exact⟨h,λw M a v b=>e _ _ _ _ b⟩
 ·obtain⟨h,e⟩:=KS h;refine⟨h,λw M a v b=>?_⟩;obtain⟨c,d,f⟩:=b;exact⟨c,d,e _ _ _ _ f⟩
 ·cases h
theorem acY{V:bY P U}{l:List (Nat×Option Nat)}:∀{k j:List (SE U)} {e:Prop},Q3 V l k j e->e/\∀w M f b,kS w M f (k.map SE.aI) b->kS w M f ((j.map SE.aI).map (E.eO (ko l))) b
 |[],[],e,h=>⟨h,λ_ _ _ _ h=>h⟩
 |x::k,y::j,e,h=>by
  obtain⟨h,p⟩:=ayX h;obtain⟨h,o⟩:=acY h;refine⟨h,λw M f b g=>?_⟩;cases b with
  |nil=>have:=g.1;simp at this
  |cons v b=>
   have n:=g.2 0 x.aI v rfl rfl;have m:=o w M f b ⟨by simpa using g.1,λi a u d c=>g.2 (i+1) a u (an d) (an c)⟩;refine⟨by simpa using m.1,λi a u d c=>?_⟩;cases i with
   |zero=>simp only[de,kg,cS]at d c;subst d;subst c;exact p _ _ _ _ n
   |succ i=>exact m.2 i a u (an d) (an c)
 |[],_::_,_,h=>h.elim
 |_::_,[],_,h=>h.elim
def ac1{V:bY P U}{x y:ST U}(h:KL V X x y R):R/\qT x.aI (y.aI.eO (ko X)):=by
 unfold KL at h;split at h
 ·exact⟨h,λ_ _ _ _ _=>trivial⟩
 ·split at h
  ·unfold GD at h;split at h
   ·obtain⟨h,e⟩:=KN h;exact⟨h,λw M f v a=>e _ _ _ _ a⟩
   ·obtain⟨h,e⟩:=KS h;refine⟨h,λw M f v a=>?_⟩;obtain⟨b,c,d⟩:=a;exact⟨b,c,e _ _ _ _ d⟩
   ·cases h
  ·cases h
 ·split at h
  ·obtain⟨h,e⟩:=acY h;refine⟨h,λw M f v a=>?_⟩;obtain⟨b,c,d⟩:=a;exact⟨b,c,e _ _ _ _ d⟩
  ·cases h
end
section
variable {P:ax}{U:gD}
def jX(h:List (Nat×aZ U))(s:Nat):Bool:=match cd h s with|some _=>true|none=>false
def O3(b:List (Nat×Option Nat))(aN:aq)(a:SS U):Bool:=
 (a.aV.all λp=>p.2.dd.all (jX a.heap))&&
 (a.heap.all λp=>match p.2 with|.cells c=>c.all λv=>v.dd.all (jX a.heap)|.hY _ _ v=>v.dd.all (jX a.heap)|_=>true)&&
 ((a.heap.map (·.1)).all λs=>(a.heap.map (·.1)).all λt=>Nat.beq s t||(match ko b s,ko b t with|some u,some v=>!Nat.beq u v|_,_=>true))&&
 (aN.all λs=>jX a.heap s&&(match ko b s with|some u=>Nat.beq u s|none=>false))
def KJ(V:bY P U)(c:List (Nat×Option Nat))(b:SS U):List (Nat×ST U)->Prop->Prop
 |[],a=>a
 |(i,t)::r,a=>KL V c (gG b.aV i) t (KJ V c b r a)
def DY(V:bY P U)(k:U.K):Nat->List (SV U)->Option (List (U.El k))
 |_,[]=>some []
 |0,_=>none
 |f+1,a=>match G7 V k (.agg (a.take (U.w k))),DY V k f (a.drop (U.w k))with|some x,some r=>some (x::r)|_,_=>none
theorem aiF:∀{a b:List Ab.V}{x y:List D},ly a=some x->ly b=some y->ly (a++b)=some (x++y)
 |[],b,x,y,h,e=>by simp only[ly]at h;injection h with h;subst h;exact e
 |v::a,b,x,y,h,e=>by
  simp only[ly]at h;split at h
  ·rename_i d g f c;injection h with h;subst h
   rw[eB,eB,ly,f,aiF c e]
  ·cases h
theorem ags{V:bY P U}{k:U.K}:∀{f:Nat} {a:List (SV U)} {l:List (U.El k)},DY V k f a=some l->ly (a.map SV.aI)=some (bG k l)
 |f,[],l,h=>by
  have:l=[]:=by cases f<;>(unfold DY at h;injection h with h;exact h.symm)
  subst this;rfl
 |0,c::a,l,h=>by unfold DY at h;cases h
 |f+1,c::a,l,h=>by
  unfold DY at h;split at h
  ·rename_i x r g d;injection h with h;subst h
   have p:=(SJ V g).1;have b:=ags d;have e:(SE.agg ((c::a).take (U.w k))).aI.cells=((c::a).take (U.w k)).map SV.aI:=rfl;rw[e]at p;have:=aiF p b;rw[<-ia,o0]at this;rw[this];rfl
  ·cases h
def Q1(V:bY P U)(e:List (Nat×Option Nat))(n:SS U)(s:Nat)(b:aZ U)(a:Prop):Prop:=
 match ko e s with
 |some t=>(match cd n.heap t with
  |some (.cells m)=>(match b with|.cells j=>KR V e m j a|.aW g c=>(match DY V g m.length m with|some f=>f=c/\a|none=>False)|_=>False)
  |some (.aW k l)=>(match b with|.aW g c=>(match V.cast g k l with|some f=>f=c/\a|none=>False)|_=>False)
  |some (.lc r)=>(match b with|.lc h=>r=h/\a|_=>False)
  |some (.hY o i v)=>(match b with|.hY d q p=>o=d/\i=q/\GF V e v p a|_=>False)
  |none=>False)
 |none=>(match b with|.aW _ c=>c=[]/\a|_=>False)
def KK(V:bY P U)(d:List (Nat×Option Nat))(c:SS U):List (Nat×aZ U)->Prop->Prop
 |[],a=>a
 |(s,b)::r,a=>Q1 V d c s b (KK V d c r a)
def Li(V:bY P U)(aN:aq)(c a:SS U)(b:List (Nat×Option Nat))(d:Prop):Prop:=
 match O3 b aN a with
 |true=>KJ V b c a.aV (KK V b c a.heap d)
 |false=>False
def fO(n:Option Nat)(K:Option Nat->Prop):Prop:=match n with|none=>K none|some m=>fN m λm=>K (some m)
def avT{n:Option Nat}{K:Option Nat->Prop}(h:fO n K):K n:=by
 cases n with
 |none=>exact h
 |some m=>exact tc (K:=λm=>K (some m)) h
def AN:List (Nat×Option Nat)->(List (Nat×Option Nat)->Prop)->Prop
 |[],K=>K []
 |(s,o)::r,K=>fN s λs=>fO o λo=>AN r λr=>K ((s,o)::r)
theorem aa1:∀{l:List (Nat×Option Nat)} {K:List (Nat×Option Nat)->Prop},AN l K->K l
 |[],_,h=>h
 |(s,o)::r,K,h=>aa1 (l:=r) (K:=λr=>K ((s,o)::r)) (avT (K:=λo=>AN r λr=>K ((s,o)::r)) (tc (K:=λs=>fO o λo=>AN r λr=>K ((s,o)::r)) h))
def mt(V:bY P U)(aN:aq)(b a:SS U)(c:Prop):Prop:=rZ b λb=>rZ a λa=>AN (Bc aN b a) λd=>Li V aN b a d c
theorem azV{V:bY P U}{aN:aq}{b a:SS U}(h:mt V aN b a R):(match O3 (Bc aN b a) aN a with
 |true=>KJ V (Bc aN b a) b a.aV (KK V (Bc aN b a) b a.heap R)
 |false=>False):=
 aa1 (K:=λc=>Li V aN b a c R) (vN (K:=λa=>AN (Bc aN b a) λc=>Li V aN b a c R) (vN (K:=λb=>rZ a λa=>AN (Bc aN b a) λc=>Li V aN b a c R) h))
theorem acX{V:bY P U}{c:List (Nat×Option Nat)}{b:SS U}:∀{l:List (Nat×ST U)} {a:Prop},KJ V c b l a->a/\∀p∈mF l,qT (b.st.aV p.1) (p.2.eO (ko c))
 |[],a,h=>⟨h,λp hp=>by simp[mF]at hp⟩
 |(i,t)::r,a,h=>by
  obtain⟨h,e⟩:=ac1 h;obtain⟨h,d⟩:=acX h;refine⟨h,λp hp=>?_⟩;simp only[mF,de,da]at hp;rcases hp with rfl|hp
  ·rw[oN];exact e
  ·exact d p hp
def U9(g:SS U)(b:List (Nat×Option Nat))(s:Nat)(a:List Ab.V):Prop:=
 (∃t c,ko b s=some t/\g.st.heap t=some c/\(∀(w:World)(M:ap)(d:G)(e:au),bW w M d c e->bW w M d (a.map (Ab.V.eO (ko b))) e)/\∀f,c=[.eY f]->a=[.eY f])\/(ko b s=none/\a=[])
def age(b:Nat->Option Nat)(a:List D):(a.map Ab.V.d).map (Ab.V.eO b)=a.map Ab.V.d:=by simp[vf,Ab.V.eO]
def ayW{V:bY P U}{r:SS U}{b:aZ U}(h:Q1 V X r s b R):R/\U9 r X s b.aI:=by
 unfold Q1 at h;split at h
 ·rename_i t f;split at h
  ·rename_i n I;split at h
   ·rename_i A;obtain⟨h,e⟩:=KS h;refine⟨h,.inl ⟨t,n.map SV.aI,f,by rw[ga,I];rfl,e,λg a=>?_⟩⟩;have:=Ju n;rw[a]at this;cases this
   ·rename_i y B;split at h
    ·rename_i l2 m;obtain⟨rfl,h⟩:=h;refine⟨h,.inl ⟨t,n.map SV.aI,f,by rw[ga,I];rfl,λw M o vs a=>?_,λg a=>?_⟩⟩
     ·simp only[aZ.aI];rw[age];exact Up _ _ _ (ags m) a
     ·have:=Ju n;rw[a]at this;cases this
    ·cases h
   ·cases h
  ·rename_i k l I;split at h
   ·rename_i y B;split at h
    ·rename_i l2 m;obtain⟨rfl,h⟩:=h;have e:bG k l=bG y l2:=by unfold bG;rw[(V.qY _ _ _ _ m).1]
     refine⟨h,.inl ⟨t,(bG k l).map .d,f,by rw[ga,I];rfl,λw M o vs a=>?_,λg a=>?_⟩⟩
     ·simp only[aZ.aI];rw[age,<-e];exact a
     ·have:=PU (bG k l);rw[a]at this;cases this
    ·cases h
   ·cases h
  ·rename_i g I;split at h
   ·obtain⟨rfl,h⟩:=h;exact⟨h,.inl ⟨t,[.eY g],f,by rw[ga,I];rfl,λw M o vs a=>a,λC a=>a⟩⟩
   ·cases h
  ·rename_i vs i v I;split at h
   ·rename_i D G p;obtain⟨rfl,rfl,h⟩:=h;obtain⟨h,e⟩:=KN h;refine⟨h,.inl ⟨t,j3 vs i v.aI,f,by rw[ga,I];rfl,λw M o H a=>?_,λg a=>?_⟩⟩
    ·have E:List.map (Ab.V.eO (ko X)) (aZ.hY vs i p).aI=j3 vs i (p.aI.eO (ko X)):=Hd (Ab.V.eO (ko X)) (λ_=>rfl) vs i p.aI;rw[E];refine⟨by rw[<-a.1];simp[j3],λj x u c z=>?_⟩;unfold j3 at c;rw[Iu]at c;split at c
     ·rename_i q;subst q;split at c
      ·injection c with c;subst c
       rename_i m;exact e _ _ _ _ (a.2 i v.aI u (af8 (an m)) z)
      ·cases c
     ·rename_i q;exact a.2 j x u (by unfold j3;rw[B7 q];exact c) z
    ·have:=Te (vs:=vs) (i:=i) (I1 v);rw[a]at this;cases this
   ·cases h
  ·cases h
 ·rename_i f;split at h
  ·obtain⟨rfl,h⟩:=h;exact⟨h,.inr ⟨f,rfl⟩⟩
  ·cases h
theorem ac0{V:bY P U}{f:List (Nat×Option Nat)}{e:SS U}:∀{l:List (Nat×aZ U)} {d:Prop},KK V f e l d->d/\∀s b,cd l s=some b->U9 e f s b.aI
 |[],d,h=>⟨h,λs b c=>by cases c⟩
 |(j,a)::r,d,h=>by
  obtain⟨h,k⟩:=ayW h;obtain⟨h,i⟩:=ac0 h;refine⟨h,λs b c=>?_⟩;simp only[cd]at c;split at c
  ·rename_i g;injection c with c;subst c;rw[cU g];exact k
  ·exact i s b c
def AU{h:List (Nat×aZ U)}(a:jX h s=true):bX (cy h) s≠none:=by
 unfold jX at a;split at a
 ·rename_i b e;rw[iG,e];simp
 ·cases a
def ab2{h:List (Nat×aZ U)}(a:bX (cy h) s≠none):s∈h.map (·.1):=by
 rw[iG]at a;cases e:cd h s with
 |none=>rw[e]at a;exact absurd rfl a
 |some b=>exact QB _ _ _ e
theorem QA:∀(l:List (Nat×aZ U)) (s:Nat) (b:aZ U),cd l s=some b->(s,b)∈l
 |[],_,_,h=>by cases h
 |(j,t)::r,s,b,h=>by
  simp only[cd]at h;split at h
  ·rename_i a;injection h with h;subst h;rw[cU a];simp
  ·exact cv _ (QA r s b h)
def pG{V:bY P U}{aN:aq}{e τ:SS U}(h:mt V aN e τ R)(n:Nat):R/\d_ n (·∈aN) e.st τ.st:=by
 have h:=azV h;split at h
 ·rename_i f;obtain⟨h,A⟩:=acX h;obtain⟨h,B⟩:=ac0 h;refine⟨h,?_⟩;unfold O3 at f;simp only[ej]at f;obtain⟨⟨⟨o,r⟩,c3⟩,c4⟩:=f;refine d_.rename (mF τ.aV) (cy τ.heap) (ko (Bc aN e τ)) A (λs C I=>?_) (λp w s I=>?_) (λs D I x d u a=>?_) (λs t u I E G H=>?_) (λs I=>?_)
  ·rw[iG,gN]at I;obtain⟨b,g,rfl⟩:=I;exact B s b g
  ·simp only[mF,b_]at w;obtain⟨q,K,rfl⟩:=w;rw[eW]at o;have:=o q K;rw[eW]at this;exact AU (this s (by rw[<-ST.ow];exact T.oz I))
  ·rw[iG,gN]at I;obtain⟨b,g,rfl⟩:=I;rw[eW]at r;have:=r (s,b) (QA _ _ _ g);cases b with
   |cells D=>simp only[aZ.aI,b_]at d;obtain⟨v,L,rfl⟩:=d;simp only[eW]at this;exact AU (this v L u (by rw[<-SV.ow];exact Ab.V.oz a))
   |aW k l=>exact(Hm d u a).elim
   |lc N=>simp only[aZ.aI,cL]at d;subst d;cases a
   |hY M i v=>
    rcases Ma (show x∈j3 M i v.aI from d)with rfl|⟨z,rfl⟩
    ·rw[eW]at this;exact AU (this u (by rw[<-SV.ow];exact Ab.V.oz a))
    ·cases a
  ·rw[eW]at c3;have y:=c3 s (ab2 I);rw[eW]at y;have c:=y t (ab2 E);rw[G,H]at c;simp only[wO]at c;rcases c with c|c
   ·exact cU c
   ·simp[IL]at c
  ·rw[eW]at c4;have j:=c4 s I;rw[ej]at j;refine⟨AU j.1,?_⟩;have m:=j.2;split at m
   ·rename_i u a;rw[a,cU m]
   ·cases m
 ·cases h
structure oh(U:gD)where
 X:Type
 st:X->SS U
 G:X->Prop
 mu:X->Nat
def AR:Code->Nat
 |.region id _ _=>id
 |.seq a _=>AR a
 |.block _ a=>AR a
 |.loop a=>AR a
 |.cond _ a _=>AR a
 |_=>0
def AQ:List (Nat×oh U)->Nat->Option (oh U)
 |[],_=>none
 |(j,a)::r,i=>match Nat.beq i j with|true=>some a|false=>AQ r i
def Yq(a:SS U):List Nat:=a.heap.flatMap λp=>match p.2 with|.cells b=>b.filterMap (λv=>match v with|.aX s _ _=>some s|_=>none)|_=>[]
def D1(V:bY P U)(aN:aq)(d:List (Nat×oh U))(id:Nat)(c:SS U->Prop)(a:SS U):Prop:=
 match AQ d (id+4000000)with
 |some L=>∃R:L.X->Prop,∃b,mt V aN a (L.st b) (L.G b/\R b)/\∀x,L.G x->R x->rZ (L.st x) c
 |none=>(match AQ d (id+6000000)with
  |some L=>x_ aN (Yq a) a λa=>∃R:L.X->Prop,∃b,mt V aN a (L.st b) (L.G b/\R b)/\∀x,L.G x->R x->rZ (L.st x) c
  |none=>c a)
def Y2(v:ST U)(A B:Prop):Prop:=
 match v with
 |.e (.c (.d (.sc (.bool true))))=>A
 |.e (.c (.d (.sc (.bool false))))=>B
 |.e (.c (.d (.cK p)))=>(p=true->A)/\(p=false->B)
 |_=>False
def Rg(K:pW->SS U->Prop)(N:SS U->Prop)(b:pW)(a:SS U):Prop:=
 match b with|.f_=>N a|.ext i=>K (.ext i) a|.ret=>K .ret a
def adg(V:bY P U)(aN:aq)(d:List (Nat×oh U))(id:Nat)(e:SS U->(pW->SS U->Prop)->Prop)(a:SS U)(K:pW->SS U->Prop):Prop:=
 match AQ d id with
 |some L=>∃c,mt V aN a (L.st c) (L.G c)/\∀x,L.G x->rZ (L.st x) λa=>e a (Rg K λb=>∃y,mt V aN b (L.st y) (L.G y/\L.mu y<L.mu x))
 |none=>(match AQ d (id+1000000)with
  |some L=>∃R:L.X->Prop,∃c,mt V aN a (L.st c) (L.G c/\R c)/\∀x,L.G x->R x->rZ (L.st x) λa=>e a (Rg K λb=>∃y,mt V aN b (L.st y) (L.G y/\R y/\L.mu y<L.mu x))
  |none=>(match AQ d (id+2000000)with
   |some L=>x_ aN (Yq a) a λa=>∃c,mt V aN a (L.st c) (L.G c)/\∀x,L.G x->rZ (L.st x) λa=>e a (Rg K λb=>∃y,mt V aN b (L.st y) (L.G y/\L.mu y<L.mu x))
   |none=>False))
def mh(K:pW->SS U->Prop)(N:SS U->Prop)(b:pW)(a:SS U):Prop:=
 match b with|.f_=>N a|.ext i=>K (.ext i) a|.ret=>K .ret a
def XW(i:Nat)(K:pW->SS U->Prop)(b:pW)(a:SS U):Prop:=
 match b with|.f_=>K .f_ a|.ext j=>(match Nat.beq j i with|true=>K .f_ a|false=>K (.ext j) a)|.ret=>K .ret a
def YK:Code->Option (Array Oper)
 |.region _ a true=>(match YJ a with|true=>some a|false=>none)
 |_=>none
def ahm(V:bY P U)(n:Nat)(aN:aq)(e:kh P U)(f:List (Nat×oh U))(id:Nat)(a:Code)(i:SS U)(g:SS U->Prop)(h:(pW->SS U->Prop)->Prop)(K:pW->SS U->Prop):Prop:=
 match YK a with
 |some b=>(match AQ f (id+4000000)with
  |some L=>∃R:L.X->Prop,BH V n b aN e b.toList.length (List.replicate b.toList.length false) i (λc=>∃d,mt V aN c (L.st d) (L.G d/\R d))/\∀x,L.G x->R x->rZ (L.st x) g
  |none=>h (mh K (D1 V aN f id g)))
 |none=>h (mh K (D1 V aN f id g))
def gu(V:bY P U)(n:Nat)(aN:aq)(d:kh P U)(f:List (Nat×oh U)):Code->SS U->(pW->SS U->Prop)->Prop
 |.skip,c,K=>K .f_ c
 |.ret,c,K=>K .ret c
 |.exit i,c,K=>K (.ext i) c
 |.seq a b,c,K=>ahm V n aN d f (AR b) a c (λc=>gu V n aN d f b c K) (λK=>gu V n aN d f a c K) K
 |.cond x a b,c,K=>Y2 (c.ev x) (gu V n aN d f a c K) (gu V n aN d f b c K)
 |.block i a,c,K=>gu V n aN d f a c (XW i K)
 |.loop a,c,K=>adg V aN f (AR a) (λc K=>gu V n aN d f a c K) c K
 |.region id e draw,c,K=>D1 V aN f (id+8000000) (λc=>match draw with|false=>ry V n e aN d e.toList c (K .f_)|true=>(match YJ e with|true=>BH V n e aN d e.toList.length (List.replicate e.toList.length false) c (K .f_)|false=>wJ V n e aN d e.toList c [] [] (K .f_))) c
 |.scope a,c,K=>gu V n aN d f a c K
 |.label _,c,K=>K .f_ c
 |_,_,_=>False
def ahn{V:bY P U}{n:Nat}{aN:aq}{l:List (Nat×oh U)}{id:Nat}{kb:SS U->Prop}{k:SS U}{Q:nF}(h:D1 V aN l id kb k)(b:∀a,kb a->WP P n (·∈aN) c a.st Q):WP P n (·∈aN) c k.st Q:=by
 unfold D1 at h;split at h
 ·obtain⟨R,d,e,f⟩:=h;obtain⟨⟨g,i⟩,j⟩:=pG e n;exact WP.u9 j (b _ (vN (f d g i)))
 ·split at h
  ·obtain⟨m,o,h⟩:=Mt V (n:=n) h;obtain⟨R,d,e,f⟩:=h;obtain⟨⟨g,i⟩,j⟩:=pG e n;exact WP.u9 (o.trans j) (b _ (vN (f d g i)))
  ·exact b _ h
def M3{V:bY P U}{n:Nat}{aN:aq}{t:kh P U}{G:List (Nat×oh U)}(hm:P.follows .mixedOrders=true):∀(c:Code)(g:SS U)(K:pW->SS U->Prop),gu V n aN t G c g K->
 ∀Q:nF,(∀o k,K o k->Q.out o k.st)->WP P n (·∈aN) c g.st Q:=by
 intro c
 induction c with
 |skip=>intro g K h Q f;exact WP.skip (f .f_ g h)
 |ret=>intro g K h Q f;exact WP.ret (f .ret g h)
 |exit i=>intro g K h Q f;exact WP.exit (f (.ext i) g h)
 |seq a b q s=>
  intro g K h Q f;have H:gu V n aN t G a g (mh K (D1 V aN G (AR b) λg=>gu V n aN t G b g K))->WP P n (·∈aN) (.seq a b) g.st Q:=λh=>by
   refine WP.seq (q g _ h _ λo k m=>?_);cases o with
   |f_=>exact ahn (kb:=λg=>gu V n aN t G b g K) m λk h'=>s k K h' Q f
   |ext i=>exact f _ _ m
   |ret=>exact f _ _ m
  simp only[gu]at h;unfold ahm at h;split at h
  ·rename_i ops r;split at h
   ·rename_i L hL;obtain⟨R,u,v⟩:=h;have ea:∃id,a=.region id ops true:=by
     unfold YK at r;split at r
     ·split at r
      ·injection r with e;subst e;exact⟨_,rfl⟩
      ·cases r
     ·cases r
    obtain⟨id,rfl⟩:=ea;refine WP.seq (ajf hm u λk m=>?_);obtain⟨z,m⟩:=m;obtain⟨⟨A,B⟩,D⟩:=pG m n;exact WP.u9 D (s _ _ (vN (v z A B)) Q f)
   ·exact H h
  ·exact H h
 |scope a q=>intro g K h Q f;exact WP.scope (q g K h Q f)
 |label l=>intro g K h Q f;exact λ_ _ _ _ _ R=>wp_label ⟨g.st,R,f .f_ g h⟩
 |cond x a b q s=>
  intro g K h Q f;simp only[gu]at h;unfold Y2 at h;split at h
  ·rename_i M;exact WP.cond true (by rw[c8,M];rfl) (λ_=>q g K h Q f) (λe=>by cases e)
  ·rename_i M;exact WP.cond false (by rw[c8,M];rfl) (λe=>by cases e) (λ_=>s g K h Q f)
  ·rename_i p M;exact WP.cond p (by rw[c8,M];rfl) (λe=>q g K (h.1 e) Q f) (λe=>s g K (h.2 e) Q f)
  ·cases h
 |block i a q=>
  intro g K h Q f;refine WP.block (q g _ h _ λo k m=>?_);cases o with
  |f_=>exact f _ _ m
  |ext j=>
   simp only[XW]at m;show(if j=i then Q.f_ k.st else Q.ext j k.st);split at m
   ·rename_i e;rw[aM (cU e)];exact f _ _ m
   ·rename_i e;rw[Z (o9 e)];exact f _ _ m
  |ret=>exact f _ _ m
 |loop a q=>
  intro g K h Q f;simp only[gu]at h;unfold adg at h;split at h
  ·rename_i L hL;obtain⟨z,u,v⟩:=h;obtain⟨g0,D⟩:=pG u n;refine WP.loop (λx=>(L.st x).st) L.G L.mu z D g0 λx E=>q _ _ (vN (v x E)) _ λo k m=>?_
   cases o with
   |f_=>obtain⟨y,N⟩:=m;obtain⟨⟨A,B⟩,T⟩:=pG N n;exact⟨y,T,A,B⟩
   |ext i=>exact f _ _ m
   |ret=>exact f _ _ m
  ·split at h
   ·rename_i L hL;obtain⟨d,z,u,v⟩:=h;obtain⟨g0,D⟩:=pG u n;refine WP.loop (λx=>(L.st x).st) (λx=>L.G x/\d x) L.mu z D g0 λx E=>q _ _ (vN (v x E.1 E.2)) _ λo k m=>?_
    cases o with
    |f_=>obtain⟨y,N⟩:=m;obtain⟨⟨A,B,g3⟩,T⟩:=pG N n;exact⟨y,T,⟨A,B⟩,g3⟩
    |ext i=>exact f _ _ m
    |ret=>exact f _ _ m
   ·split at h
    ·rename_i L hL;obtain⟨X,w2,h⟩:=Mt V (n:=n) h;obtain⟨z,u,v⟩:=h;obtain⟨g0,D⟩:=pG u n;refine WP.loop (λx=>(L.st x).st) L.G L.mu z (w2.trans D) g0 λx E=>q _ _ (vN (v x E)) _ λo k m=>?_
     cases o with
     |f_=>obtain⟨y,N⟩:=m;obtain⟨⟨A,B⟩,T⟩:=pG N n;exact⟨y,T,A,B⟩
     |ext i=>exact f _ _ m
     |ret=>exact f _ _ m
    ·cases h
 |region id ops draw=>
  intro g K h Q f;simp only[gu]at h;refine ahn h λg h=>?_
  split at h
  ·have:=Em _ _ _ h;have h2:WP P n (·∈aN) (.region id ops.toList.toArray false) g.st Q:=by refine WP.region ?_;have e:ops.toList.toArray=ops:=ai;rw[e];intro C hn I a w R Q' hq;exact this C hn I a w R Q' λa' w' σ1 R1 ⟨X,e2,k2⟩=>hq a' w' σ1 R1 (e2▸f .f_ X k2)
   simpa using h2
  ·split at h
   ·exact ajf hm h λk m=>f .f_ k m
   ·exact aJD hm h λk m=>f .f_ k m
 |_=>intro g K h;cases h
end
section
variable {P:ax}{U:gD}
def tO:Nat->List (SE U)->List (Nat×ST U)
 |_,[]=>[]
 |k,x::r=>(k,.e x)::tO (k+1) r
theorem M7:∀(l:List (SE U)) (k:Nat),mF (tO k l)=zY k (l.map SE.aI)
 |[],_=>rfl
 |x::r,k=>by have:=M7 r (k+1);simp only[tO,mF,de,zY]at this⊢;rw[this];rfl
def QM(args:List (SE U)):SS U:=⟨tO 0 args,[],0⟩
def axC(args:List (SE U)):(QM args).st=⟨nJ (args.map SE.aI),uM⟩:=by unfold QM SS.st nJ;simp only[M7];congr 1
def Hf(V:bY P U)(b:SS U):ResultVar->Option (ST U)
 |.tmp t=>some (gG b.aV t)
 |.cell a t=>(match gG b.aV a,V.ty t with
  |.e (.c (.ptr s d)),some f=>(match cd b.heap s with|some (.cells g)=>xR f.ag f.sz g d|_=>none)
  |_,_=>none)
def He(V:bY P U)(a:SS U):List ResultVar->Option (List (SE U))
 |[]=>some []
 |r::c=>(match Hf V a r,He V a c with|some (.e x),some b=>some (x::b)|_,_=>none)
def zG(V:bY P U)(a:SS U):List ResultVar->Option (ST U)
 |[r]=>Hf V a r
 |c=>(match He V a c with|some b=>some (.cE b)|none=>none)
def agj{V:bY P U}{b:SS U}{r:ResultVar}{x:ST U}(h:Hf V b r=some x):zF P b.st r=some x.aI:=by
 cases r with
 |tmp t=>simp only[Hf,cS]at h;subst h;simp only[zF,oN]
 |cell a t=>
  simp only[Hf]at h;split at h
  ·rename_i s c i e f;split at h
   ·rename_i d g;simp only[zF,oN,e];show(match b.st.heap s with|some d=>mJ P t d c|none=>none)=_;rw[ga,g];exact DP (V.fX _ _ f) h
   ·cases h
  ·cases h
theorem agh{V:bY P U}{c:SS U}:∀{b:List ResultVar} {a:List (SE U)},He V c b=some a->uV P c.st b=some (a.map SE.aI)
 |[],a,h=>by simp only[He,cS]at h;subst h;rfl
 |r::b,a,h=>by
  simp only[He]at h;split at h
  ·rename_i x f e d;injection h with h;subst h
   simp only[uV,agj e,agh d];rfl
  ·cases h
def Tg{V:bY P U}{b:SS U}{x:ST U}(h:zG V b N=some x):tD P N b.st=some x.aI:=by
 unfold zG at h;split at h
 ·exact agj h
 ·rename_i a;split at h
  ·rename_i d c;injection h with h;subst h
   unfold tD;split
   ·rename_i r;exact absurd rfl (a r)
   ·rw[agh c];rfl
  ·cases h
def SV.Bk{a:Nat->Option Nat}{v:SV U}(h:v.dd=[]):v.aI.eO a=v.aI:=by cases v<;>simp_all[SV.dd,SV.aI,Ab.V.eO]
theorem SE.Bk{a:Nat->Option Nat}{x:SE U}(h:x.dd=[]):x.aI.eO a=x.aI:=by
 cases x with
 |c v=>simp only[SE.aI,E.eO,SV.Bk (show v.dd=[]from h)]
 |agg d=>simp only[SE.dd,List.flatMap_eq_nil_iff]at h;simp only[SE.aI,E.eO,jc];congr 1;apply mw;intro v b;exact SV.Bk (h v b)
theorem ST.Bk{a:Nat->Option Nat}{x:ST U}(h:x.dd=[]):x.aI.eO a=x.aI:=by
 cases x with
 |e v=>simp only[ST.aI,T.eO,SE.Bk (show v.dd=[]from h)]
 |cE c=>simp only[ST.dd,List.flatMap_eq_nil_iff]at h;simp only[ST.aI,T.eO,jc];congr 1;apply mw;intro v b;exact SE.Bk (h v b)
 |any=>rfl
def G0{r:ST U}(h:r.dd=[]):∀s,¬r.aI.bx s:=λs I=>by have:=T.oz I;rw[ST.ow,h]at this;simp at this
def Bp(V:bY P U)(c:List ResultVar)(r:ST U)(b:SS U):Prop:=
 match zG V b c,r.dd with
 |some e,[]=>x_ [] e.dd b λa=>(match zG V a c with|some d=>KL V [] d r True|none=>False)
 |_,_=>False
def UN(V:bY P U)(a:kh P U)(g:List (Nat×oh U))(f:Nat)(e:List ResultVar)(c:Code)(args:List (SE U))(r:ST U):Prop:=
 gu V f [] a g c (QM args) λb d=>(match b with|.ext _=>False|.f_=>Bp V e r d|.ret=>Bp V e r d)
def aG1{V:bY P U}{n:Nat}{r:ST U}{b:SS U}(h:Bp V N r b):(∀s,¬r.aI.bx s)/\∃c:St,d_ n (·∈([]:aq)) b.st c/\∃d,tD P N c=some d/\qT d r.aI:=by
 unfold Bp at h;split at h
 ·rename_i j k f;obtain⟨a,w,h⟩:=Mt V (n:=n) h;split at h
  ·rename_i g i;obtain⟨_,e⟩:=ac1 h;rw[ST.Bk f]at e;exact⟨λs I=>by have:=T.oz I;rw[ST.ow,f]at this;simp at this,a.st,w,g.aI,Tg i,e⟩
  ·cases h
 ·cases h
def M4{V:bY P U}{reg:kh P U}{ls:List (Nat×oh U)}(q:P.follows .mixedOrders=true){b:Func}(u:P.funcs[f]?=some b)(v:b.body=some c)(g:(b.name== "runtime.NumGoroutine")=false)
 {args:List (SE U)}{r:ST U}(x:args.length<=b.ntmps)(y:∀s,¬r.aI.bx s)(h:UN V reg ls b.ntmps b.results.toList c args r):lW P f (args.map SE.aI) r.aI:=by
 refine dA.intro u v g (an x) (λs h=>h.elim) (λs h=>(y s h).elim) (λt cs h=>by cases h) ?_;have e:(λ_:Nat=>False)=(·∈([]:aq)):=by funext s;simp
 rw[e,<-axC];have d:∀a:SS U,Bp V b.results.toList r a->∃j,d_ b.ntmps (·∈([]:aq)) a.st j/\∃m,tD P b.results.toList j=some m/\qT m r.aI/\∀s cs,uM s=some cs->∃k,j.heap s=some k/\lU k cs:=λa h=>by obtain⟨_,j,w,m,z,A⟩:=aG1 (n:=b.ntmps) h;exact⟨j,w,m,z,A,λs cs h=>by cases h⟩
 refine WP.post (Q:=⟨λs=>∃a:SS U,a.st=s/\Bp V b.results.toList r a,λ_ _=>False,λs=>∃a:SS U,a.st=s/\Bp V b.results.toList r a⟩) ?_ ?_ (λi a h=>h.elim) ?_
 ·refine M3 q c _ _ h _ λo l p=>?_
  cases o with
  |f_=>exact⟨l,rfl,p⟩
  |ext i=>cases p
  |ret=>exact⟨l,rfl,p⟩
 ·rintro s ⟨a,rfl,h⟩;exact d a h
 ·rintro s ⟨a,rfl,h⟩;exact d a h
def vcO(V:bY P U)(aN:aq)(a:kh P U)(g:List (Nat×oh U))(f:Nat)(c:Code)(H:List (Nat×aZ U))(args:List (SE U))(d:SS U):Prop:=
 gu V f aN a g c ⟨tO 0 args,H,H.length⟩ λb e=>(match b with|.ext _=>False|.f_=>mt V aN e d True|.ret=>mt V aN e d True)
def Jz(H:List (Nat×aZ U)):Bool:=H.all λp=>p.2.dd.all (jX H)
def T_(H a:List (Nat×aZ U)):=∀s b,cd H s=some b->cd a s=some b
def DG(V:bY P U)(aN:aq)(b:SS U):nF:=⟨λs=>∃a:SS U,a.st=s/\mt V aN a b True,λ_ _=>False,λs=>∃a:SS U,a.st=s/\mt V aN a b True⟩
def Mp{V:bY P U}{aN:aq}{a:Func}(q:P.funcs[f]?=some a)(u:a.body=some c)(d:(a.name== "runtime.NumGoroutine")=false)
 {H j:List (Nat×aZ U)}{args:List (SE U)}{r:ST U}{τ:SS U}(v:args.length<=a.ntmps)(n:r.dd.all (jX j)=true)(m:Jz j=true)(o:aN.all (jX j)=true)(k:zG V τ a.results.toList=some r)(l:T_ j τ.heap)
 (h:WP P a.ntmps (·∈aN) c (⟨tO 0 args,H,H.length⟩:SS U).st (DG V aN τ)):dA P f (bX (cy H)) (args.map SE.aI) (bX (cy j)) (·∈aN) r.aI:=by
 rw[eW]at n o;unfold Jz at m;rw[eW]at m;refine dA.intro q u d (an v) (λs I=>AU (o s I)) (λs I=>AU (n s (by rw[<-ST.ow];exact T.oz I))) (λt w p x y s I=>?_) ?_
 ·rw[iG,gN]at p;obtain⟨b,g,rfl⟩:=p;have:=m (t,b) (QA _ _ _ g);rw[eW]at this;exact AU (this s (aZ.acQ y I))
 ·have e:(⟨nJ (args.map SE.aI),bX (cy H)⟩:St)=(⟨tO 0 args,H,H.length⟩:SS U).st:=by unfold SS.st nJ;simp only[M7]
  rw[e];refine WP.post h ?_ (λi z h=>h.elim) ?_
  all_goals
   rintro s ⟨z,rfl,h⟩;refine⟨τ.st,(pG h a.ntmps).2,r.aI,Tg k,qT.refl _,λs w I=>?_⟩;rw[iG,gN]at I;obtain⟨b,g,rfl⟩:=I;exact⟨b.aI,by rw[ga,l s b g];rfl,lU.refl _⟩
def ajk{V:bY P U}{aN:aq}{reg:kh P U}{ls:List (Nat×oh U)}(m:P.follows .mixedOrders=true){b:Func}(n:P.funcs[f]?=some b)(o:b.body=some c)(a:(b.name== "runtime.NumGoroutine")=false)
 {H d:List (Nat×aZ U)}{args:List (SE U)}{r:ST U}{τ:SS U}(p:args.length<=b.ntmps)(q:r.dd.all (jX d)=true)(s:Jz d=true)(e:aN.all (jX d)=true)(g:zG V τ b.results.toList=some r)(j:T_ d τ.heap)
 (h:vcO V aN reg ls b.ntmps c H args τ):dA P f (bX (cy H)) (args.map SE.aI) (bX (cy d)) (·∈aN) r.aI:=
 Mp n o a p q s e g j (M3 m c _ _ h _ λl k e=>by
  cases l with
  |f_=>exact⟨k,rfl,e⟩
  |ext i=>cases e
  |ret=>exact⟨k,rfl,e⟩)
inductive qQ(U:gD)where
 |el (k:U.K)
 |ls (k:U.K)
 |int (k:IntKind)
 |bool
 |eU
def qQ.T:qQ U->Type
 |.el k=>U.El k
 |.ls k=>List (U.El k)
 |.int _=>Int
 |.bool=>Bool
 |.eU=>ByteArray
def iU(V:bY P U):(p:qQ U)->p.T->SE U
 |.el k,x=>.agg ((V.row k x).map .d)
 |.ls k,l=>.c (.d (.bN k l))
 |.int k,n=>.c (.d (.sc (.int k n)))
 |.bool,b=>.c (.d (.cK b))
 |.eU,s=>.c (.d (.sc (.string s)))
def oK(V:bY P U)(p:qQ U)(a:SE U)(K:p.T->Prop):Prop:=
 match p,K with
 |.el k,K=>(match a with|.agg f=>(match G7 V k (.agg f)with|some x=>K x|none=>False)|_=>False)
 |.ls k,K=>(match a with
  |.c (.d (.bN e l))=>(match V.cast k e l with|some l=>K l|none=>False)
  |.c (.d (.sc (.slice none 0 0)))=>K []
  |_=>False)
 |.int k,K=>(match a with|.c (.d (.sc (.int e n)))=>(match decide (e=k)with|true=>K n|false=>False)|_=>False)
 |.bool,K=>(match a with|.c (.d (.cK b))=>K b|.c (.d (.sc (.bool b)))=>K b|_=>False)
 |.eU,K=>(match a with|.c (.d (.sc (.string s)))=>K s|_=>False)
theorem aiG:∀(a:List Ab.V)(b:List D),ly a=some b->a.map Ab.V.cB=b.map Ab.V.d
 |[],b,h=>by simp only[ly,cS]at h;subst h;rfl
 |v::a,b,h=>by
  simp only[ly]at h;split at h
  ·rename_i x d c e;injection h with h;subst h
   rw[de,de,aiG a d e];congr 1;cases v<;>simp only[HH,reduceCtorEq,cS]at c;subst c;rfl
  ·cases h
def qq{V:bY P U}{p:qQ U}{a:SE U}{K:p.T->Prop}(h:oK V p a K):∃x,a.aI.cB=(iU V p x).aI/\K x:=by
 unfold oK at h;split at h
 ·rename_i k K;split at h
  ·rename_i f;split at h
   ·rename_i x d;refine⟨x,?_,h⟩;obtain⟨c,_⟩:=SJ V d;simp only[SE.aI,E.cells]at c;simp only[SE.aI,E.cB,iU];rw[aiG _ _ c,<-V.Hl];simp[vf,SV.aI]
   ·cases h
  ·cases h
 ·rename_i k K;split at h
  ·split at h
   ·rename_i l e;refine⟨l,?_,h⟩;simp only[SE.aI,SV.aI,SD.aI,iU];rw[(V.qY _ _ _ _ e).1];rfl
   ·cases h
  ·exact⟨[],rfl,h⟩
  ·cases h
 ·split at h
  ·split at h
   ·rename_i b;simp only[be]at b;subst b;exact⟨_,rfl,h⟩
   ·cases h
  ·cases h
 ·split at h
  ·exact⟨_,rfl,h⟩
  ·exact⟨_,rfl,h⟩
  ·cases h
 ·split at h
  ·exact⟨_,rfl,h⟩
  ·cases h
def ot(V:bY P U)(f:FuncId)(b:qQ U)(Pre:b.T->Prop)(R:b.T->ST U)(h:∀x,Pre x->lW P f [(iU V b x).aI] (R x).aI):Ct P U where
 f:=f
 run args K:=match args with|[a]=>oK V b a λx=>Pre x/\K (R x)|_=>False
 ok args K hr:=by
  split at hr
  ·obtain⟨x,e,d,c⟩:=qq hr;exact⟨_,by simp only[de,gW,e];exact h x d,c⟩
  ·cases hr
def uq(V:bY P U)(f:FuncId)(d c:qQ U)(Pre:d.T->c.T->Prop)(R:d.T->c.T->ST U)(h:∀x y,Pre x y->lW P f [(iU V d x).aI,(iU V c y).aI] (R x y).aI):Ct P U where
 f:=f
 run args K:=match args with|[a,b]=>oK V d a λx=>oK V c b λy=>Pre x y/\K (R x y)|_=>False
 ok args K hr:=by
  split at hr
  ·obtain⟨x,e,hr⟩:=qq hr;obtain⟨y,j,i,g⟩:=qq hr;exact⟨_,by simp only[de,gW,e,j];exact h x y i,g⟩
  ·cases hr
def CH(V:bY P U)(f:FuncId)(i g d:qQ U)(Pre:i.T->g.T->d.T->Prop)(R:i.T->g.T->d.T->ST U)(h:∀x y z,Pre x y z->lW P f [(iU V i x).aI,(iU V g y).aI,(iU V d z).aI] (R x y z).aI):Ct P U where
 f:=f
 run args K:=match args with|[a,b,c]=>oK V i a λx=>oK V g b λy=>oK V d c λz=>Pre x y z/\K (R x y z)|_=>False
 ok args K hr:=by
  split at hr
  ·obtain⟨x,e,hr⟩:=qq hr;obtain⟨y,m,hr⟩:=qq hr;obtain⟨z,l,k,j⟩:=qq hr;exact⟨_,by simp only[de,gW,e,m,l];exact h x y z k,j⟩
  ·cases hr
def Y5(V:bY P U)(f:FuncId)(k j i g:qQ U)(Pre:k.T->j.T->i.T->g.T->Prop)(R:k.T->j.T->i.T->g.T->ST U)(h:∀x y z u,Pre x y z u->lW P f [(iU V k x).aI,(iU V j y).aI,(iU V i z).aI,(iU V g u).aI] (R x y z u).aI):Ct P U where
 f:=f
 run args K:=match args with|[a,b,c,d]=>oK V k a λx=>oK V j b λy=>oK V i c λz=>oK V g d λu=>Pre x y z u/\K (R x y z u)|_=>False
 ok args K hr:=by
  split at hr
  ·obtain⟨x,e,hr⟩:=qq hr;obtain⟨y,p,hr⟩:=qq hr;obtain⟨z,o,hr⟩:=qq hr;obtain⟨u,n,m,l⟩:=qq hr;exact⟨_,by simp only[de,gW,e,p,o,n];exact h x y z u m,l⟩
  ·cases hr
end
def Gr{a:Type}:Tr a->Nat->Option a
 |.lf,_=>none
 |.nd v l r,k=>match Nat.beq k 0 with|true=>v|false=>match Nat.beq (k%2) 1 with|true=>Gr l (k/2)|false=>Gr r (k/2-1)
def Fc{a:Type}(p:Nat->a->Prop):Tr a->(Nat->Nat)->Prop
 |.lf,_=>True
 |.nd v l r,j=>(match v with|some x=>p (j 0) x|none=>True)/\Fc p l (λi=>j (2*i+1))/\Fc p r (λi=>j (2*i+2))
theorem QG{c:Type}{p:Nat->c->Prop}:∀(t:Tr c)(j:Nat->Nat),Fc p t j->∀(k:Nat)(x:c),Gr t k=some x->p (j k) x
 |.lf,_,_,_,_,h=>by cases h
 |.nd v l r,j,d,k,x,h=>by
  obtain⟨i,g,f⟩:=d;simp only[Gr]at h;split at h
  ·rename_i b;rw[cU b];subst h;exact i
  ·rename_i b;have b:=o9 b;split at h
   ·rename_i a;have a:=cU a;have:=QG l _ g _ x h;have e:2*(k/2)+1=k:=O;simp only[e]at this;exact this
   ·rename_i a;have a:=o9 a;have:=QG r _ f _ x h;have e:2*(k/2-1)+2=k:=O;simp only[e]at this;exact this
def Kh(P:ax)(t:TypeId):Nat->List (Nat×TypeId)->Bool
 |_,[]=>true
 |i,p::r=>decide (wF P t i=some p)&&Kh P t (i+1) r
theorem abr{P:ax}{t:TypeId}:∀{l:List (Nat×TypeId)} {i:Nat},Kh P t i l=true->∀f p,l[f]?=some p->wF P t (i+f)=some p
 |[],_,_,f,p,b=>by simp at b
 |a::r,i,h,f,p,b=>by
  simp only[Kh,ej,be]at h;cases f with
  |zero=>simp only[kg,cS]at b;subst b;exact h.1
  |succ f=>have:=abr h.2 f p (an b);rw[show i+(f+1)=i+1+f by omega];exact this
def UB(P:ax)(t:TypeId)(i:TI):Bool:=
 decide (fg P t=some i.sz)&&decide (oQ P t=some i.dF)&&decide (HE P t=some i.ag)&&Kh P t 0 i.AT&&decide (jA P t=i.sl)&&decide (wD P t=i.ar)&&decide (zT P t=i.ik)&&(rr P t==i.st)&&(BB P t==i.bo)&&
 (match i.zs with|some a=>Nat.beq a.length i.sz|none=>true)&&(match i.pl with|some b=>decide (HJ P t=some b)|none=>true)&&decide (aiE P t=i.Rx)
def aI0{i:TI}(h:UB H t i=true)(k:∀c,i.zs=some c->jQ H t=some (c.map λv=>.d (.sc v))):yP H t i:=by
 unfold UB at h;simp only[ej,be,gQ]at h;obtain⟨⟨⟨⟨⟨⟨⟨⟨⟨⟨⟨l,m⟩,n⟩,o⟩,q⟩,r⟩,s⟩,u⟩,w⟩,a⟩,b⟩,e⟩:=h;refine⟨l,m,n,λf p x=>by have:=abr o f p x;rwa [ol]at this,q,r,s,u,w,k,λc g=>?_,λy j=>?_,e⟩
 ·rw[g]at a;exact cU a
 ·rw[j]at b;simpa using b
def K8{b a:Type}(f:Nat->b->a):Tr b->(Nat->Nat)->Tr a
 |.lf,_=>.lf
 |.nd v l r,j=>.nd (v.map (f (j 0))) (K8 f l λi=>j (2*i+1)) (K8 f r λi=>j (2*i+2))
theorem Uu{P:ax}:∀{t:Tr TI}{j:Nat->Nat},K8 (λk i=>(UB P k i,i.zs.map λ_=>jQ P k)) t j=K8 (λ_ i=>(true,i.zs.map λz=>some (z.map λv=>.d (.sc v)))) t j->Fc (yP P) t j
 |.lf,_,_=>trivial
 |.nd v l r,j,h=>by
  injection h with c g f
  refine⟨?_,Uu g,Uu f⟩;cases v with
  |none=>trivial
  |some i=>
   injection c with c
   injection c with a b
   exact aI0 a λm e=>by rw[e]at b;injection b
end Go.Ab
namespace Go.Proofs.YtfbmhjooliccnaaGreatDoor
open Go Go.Ab Go.Proofs.Tryz
variable {n d:Int}{k:Nat}{X:Type}{l:ao}{f:FuncId}{c:Code}{U:Func}
def mixed:Tryz.prog.follows .mixedOrders=true:=af
def yg(k:IntKind)(n:Nat):TI:=⟨1,n,false,[],none,none,some k,false,false,some [.int k 0],none,none⟩
def rv(e:Nat):TI:=⟨1,24,false,[],some e,none,none,false,false,some [.slice none 0 0],none,none⟩
def ru(v:Value):TI:=⟨1,8,false,[],none,none,none,false,false,some [v],none,none⟩
def MZ(n b:Nat)(f:List (Nat×Nat))(z:Option (List Value))(p:List (Nat×Nat)):TI:=⟨n,b,true,f,none,none,none,false,false,z,some p,none⟩
abbrev bS{α:Type}:Tr α:=.lf
abbrev dt{α:Type}(l r:Tr α):Tr α:=.nd none l r
abbrev ei{α:Type}(x:α)(l r:Tr α):Tr α:=.nd (some x) l r
def aiB:TI:=⟨2,32,true,[(0,4),(1,24)],none,none,none,false,false,some [.bool false,.slice none 0 0],some [(0,1),(1,1)],none⟩
def mi:TI:=⟨4,64,true,[(0,3),(1,26),(3,27)],none,none,none,false,false,some [.int .i64 0,.bool false,.slice none 0 0,.slice none 0 0],some [(0,1),(1,2),(3,1)],none⟩
def oR:TI:=⟨7,104,true,[(0,3),(1,22),(2,29),(6,30)],none,none,none,false,false,some [.int .i64 0,.int .i64 0,.int .i64 0,.bool false,.slice none 0 0,.slice none 0 0,.slice none 0 0],some [(0,1),(1,1),(2,4),(6,1)],none⟩
def HF:TI:=⟨1,24,false,[],some 124,none,none,false,false,some [.slice none 0 0],none,none⟩
def zS:TI:=⟨11,168,true,[(0,3),(1,117)],none,none,none,false,false,some [.int .i64 0,.bool false,.slice none 0 0,.bool false,.slice none 0 0,.bool false,.slice none 0 0,.bool false,.slice none 0 0,.bool false,.slice none 0 0],some [(0,1),(1,10)],none⟩
def Uj:TI:=⟨24,368,true,[(0,3),(1,29),(5,29),(9,29),(13,29),(17,32)],none,none,none,false,false,some [.int .i64 0,.int .i64 0,.bool false,.slice none 0 0,.slice none 0 0,.int .i64 0,.bool false,.slice none 0 0,.slice none 0 0,.int .i64 0,.bool false,.slice none 0 0,.slice none 0 0,.int .i64 0,.bool false,.slice none 0 0,.slice none 0 0,.int .i64 0,.int .i64 0,.int .i64 0,.bool false,.slice none 0 0,.slice none 0 0,.slice none 0 0],some [(0,1),(1,4),(5,4),(9,4),(13,4),(17,7)],none⟩
def BC:TI:=⟨1,4,false,[],none,none,some .u32,false,false,some [.int .u32 0],none,none⟩
def yd:TI:=⟨6,64,true,[(0,26),(2,165)],none,none,none,false,false,some [.bool false,.slice none 0 0,.int .i64 0,.int .i64 0,.int .i64 0,.int .i64 0],some [(0,2),(2,4)],none⟩
def UC:Tr TI:=dt (ei (ru (.nilFunc)) (ei (yg .i64 8) (dt (dt (dt (dt bS (ei (yg .u64 8) bS bS)) (ei (rv 26) bS bS)) (ei (rv 4) bS (dt (dt (ei (yg .i64 8) bS bS) bS) bS))) (dt bS (dt (dt (dt (ei (ru (.pointer none)) bS bS) bS) bS) bS))) (dt (dt (dt bS (dt bS (ei (ru (.pointer none)) bS bS))) bS) (ei (rv 29) (dt (ei (MZ 2 32 [(0,73),(1,4)] (some [.slice none 0 0,.bool false]) [(0,1),(1,1)]) bS (ei (ru (.pointer none)) bS bS)) (dt (ei yd bS bS) bS)) (dt bS (dt bS (ei ⟨1,8,false,[],none,none,none,false,false,some [.map none],none,some (165,3)⟩ bS bS)))))) (ei (yg .u8 1) (ei ⟨1,16,false,[],none,none,none,true,false,some [.string ⟨#[]⟩],none,none⟩ (dt (dt bS (dt (ei (rv 171) bS bS) bS)) (dt (ei HF bS bS) bS)) (dt (dt (ei (rv 81) bS bS) (ei (ru (.nilFunc)) bS bS)) bS)) (dt (dt (dt bS (dt (ei ⟨4,32,true,[],none,some (4,3),none,false,false,some [.int .i64 0,.int .i64 0,.int .i64 0,.int .i64 0],some [(0,1),(1,1),(2,1),(3,1)],none⟩ (ei (ru (.nilFunc)) bS bS) bS) bS)) (dt bS (ei ⟨10,160,true,[],none,some (5,26),none,false,false,some [.bool false,.slice none 0 0,.bool false,.slice none 0 0,.bool false,.slice none 0 0,.bool false,.slice none 0 0,.bool false,.slice none 0 0],some [(0,2),(2,2),(4,2),(6,2),(8,2)],none⟩ bS bS))) (ei mi (dt (dt (ei (rv 146) bS bS) bS) bS) (dt bS (dt bS (ei (MZ 2 32 [(0,251),(1,161)] (some [.map none,.slice none 0 0]) [(0,1),(1,1)]) bS bS))))))) (ei (yg .i64 8) (ei ⟨1,1,false,[],none,none,none,false,true,some [.bool false],none,none⟩ (dt (dt (ei oR (dt bS (ei ⟨1,8,false,[],none,none,none,false,false,some [.map none],none,some (9,4)⟩ (ei (ru (.pointer none)) bS bS) bS)) (dt (ei (rv 171) bS bS) bS)) (ei (rv 9) (dt (ei (ru (.nilFunc)) bS bS) bS) bS)) (ei (rv 168) (ei (yg .i64 8) bS (dt (ei BC bS bS) bS)) (dt (dt (ei (ru (.nilFunc)) bS bS) bS) (dt (dt (ei ⟨24,24,true,[],none,some (24,5),none,false,false,some [.int .u8 0,.int .u8 0,.int .u8 0,.int .u8 0,.int .u8 0,.int .u8 0,.int .u8 0,.int .u8 0,.int .u8 0,.int .u8 0,.int .u8 0,.int .u8 0,.int .u8 0,.int .u8 0,.int .u8 0,.int .u8 0,.int .u8 0,.int .u8 0,.int .u8 0,.int .u8 0,.int .u8 0,.int .u8 0,.int .u8 0,.int .u8 0],some [(0,1),(1,1),(2,1),(3,1),(4,1),(5,1),(6,1),(7,1),(8,1),(9,1),(10,1),(11,1),(12,1),(13,1),(14,1),(15,1),(16,1),(17,1),(18,1),(19,1),(20,1),(21,1),(22,1),(23,1)],none⟩ bS bS) bS) bS)))) (dt (dt (dt (dt (dt (ei (ru (.nilFunc)) bS bS) bS) (dt (ei ⟨65,65,true,[],none,some (65,5),none,false,false,none,none,none⟩ bS bS) bS)) (dt bS (ei (rv 5) bS bS))) bS) (dt (dt bS (dt bS (ei ⟨16,256,true,[],none,some (4,29),none,false,false,some [.int .i64 0,.bool false,.slice none 0 0,.slice none 0 0,.int .i64 0,.bool false,.slice none 0 0,.slice none 0 0,.int .i64 0,.bool false,.slice none 0 0,.slice none 0 0,.int .i64 0,.bool false,.slice none 0 0,.slice none 0 0],some [(0,4),(4,4),(8,4),(12,4)],none⟩ bS bS))) (dt (ei (rv 3) (ei (ru (.nilFunc)) bS bS) bS) (ei zS (dt (ei (yg .u64 8) bS bS) bS) bS))))) (dt (dt (dt (dt (dt (dt (ei (ru (.nilFunc)) bS bS) bS) bS) bS) (ei (MZ 10 160 [(0,3),(1,47),(2,48),(3,32)] (some [.int .i64 0,.slice none 0 0,.slice none 0 0,.int .i64 0,.int .i64 0,.int .i64 0,.bool false,.slice none 0 0,.slice none 0 0,.slice none 0 0]) [(0,1),(1,1),(2,1),(3,7)]) (dt (ei Uj bS bS) bS) bS)) (ei aiB (dt (dt (ei (yg .u64 8) bS bS) bS) (dt (dt (ei (ru (.pointer none)) bS bS) bS) bS)) bS)) (dt (ei (yg .i64 8) (dt bS (dt bS (ei (MZ 2 32 [(0,227),(1,228)] (some [.pointer none,.slice none 0 0]) [(0,1),(1,1)]) bS bS))) (ei (ru (.nilFunc)) bS (dt (dt (ei (rv 27) bS bS) bS) bS))) (ei (rv 32) bS (dt (ei (rv 26) bS bS) bS)))))
def aI2:Fc (yP prog) UC id:=Uu af
def ai3(t:TypeId):Option TI:=Gr UC t
def aI1(t:TypeId)(i:TI)(h:ai3 t=some i):yP prog t i:=QG UC id aI2 t i h
structure aY where
 neg:Bool
 aC:List Int
inductive J where
 |mk (aK:Int) (neg:Bool) (aC:ao) (aL:List J)
namespace J
def aK:J->Int|.mk l _ _ _=>l
def neg:J->Bool|.mk _ n _ _=>n
def aC:J->List Int|.mk _ _ a _=>a
def aL:J->List J|.mk _ _ _ c=>c
end J
inductive F where
 |mk (aJ bU:Int) (aF:J) (aO:List F)
namespace F
def aJ:F->Int|.mk k _ _ _=>k
def bU:F->Int|.mk _ r _ _=>r
def aF:F->J|.mk _ _ p _=>p
def aO:F->List F|.mk _ _ _ c=>c
end F
structure bf where
 e1:Int
 e2:Int
 e3:Int
 e4:Int
structure S where
 neg:Bool
 aC:List Int
 e1:Int
 e2:Int
 e3:Int
 e4:Int
structure N5 where
 neg:Bool
 num:List Int
 aI:List Int
structure dK where
 iP:Int
 all:List Bool
 bx:List ByteArray
 aP:F
structure bw where
 aJ:Int
 a:J
 b:J
 c:J
 d:J
 g:F
structure a_ where
 a0:aY
 a1:aY
 a2:aY
 a3:aY
 a4:aY
structure aR where
 aJ:Int
 f:a_
structure bO where
 l:List (List aR)
 dw:Bool
def vv(n:Int):List D:=[.sc (.int .u32 n)]
def cU8(n:Int):List D:=[.sc (.int .u8 n)]
def apR(n:Int):List D:=[.sc (.int .i64 n)]
def OS(b:Bool):List D:=[.sc (.bool b)]
def OT(s:az):List D:=[.sc (.string s)]
def yX(x:aY):List D:=[.sc (.bool x.neg),.sl (x.aC.map vv)]
mutual
def mE:J->List D
 |.mk l n a c=>[.sc (.int .i64 l),.sc (.bool n),.sl (a.map vv),.sl (FD c)]
def FD:List J->List (List D)
 |[]=>[]
 |p::b=>mE p::FD b
end
theorem Ye:∀l:List J,FD l=l.map mE
 |[]=>by simp[FD]
 |p::a=>by rw[FD,de,Ye a]
def l4(p:J):mE p=[.sc (.int .i64 p.aK),.sc (.bool p.neg),.sl (p.aC.map vv),.sl (p.aL.map mE)]:=by cases p;rw[mE,Ye];rfl
mutual
def qb:F->List D
 |.mk k r p b=>.sc (.int .i64 k)::.sc (.int .i64 r)::(mE p++[.sl (FC b)])
def FC:List F->List (List D)
 |[]=>[]
 |p::a=>qb p::FC a
end
theorem Yd:∀l:List F,FC l=l.map qb
 |[]=>by simp[FC]
 |p::a=>by rw[FC,de,Yd a]
def rW(p:F):qb p=[.sc (.int .i64 p.aJ),.sc (.int .i64 p.bU),.sc (.int .i64 p.aF.aK),.sc (.bool p.aF.neg),.sl (p.aF.aC.map vv),.sl (p.aF.aL.map mE),.sl (p.aO.map qb)]:=by cases p;rw[qb,Yd,l4];rfl
def apS(x:bf):List D:=[.sc (.int .i64 x.e1),.sc (.int .i64 x.e2),.sc (.int .i64 x.e3),.sc (.int .i64 x.e4)]
def Aw(x:S):List D:=[.sc (.bool x.neg),.sl (x.aC.map vv),.sc (.int .i64 x.e1),.sc (.int .i64 x.e2),.sc (.int .i64 x.e3),.sc (.int .i64 x.e4)]
def apT(x:N5):List D:=[.sc (.bool x.neg),.sl (x.num.map vv),.sl (x.aI.map vv)]
def uk(x:dK):List D:=.sc (.int .i64 x.iP)::.sl (x.all.map OS)::.sl (x.bx.map OT)::qb x.aP
def xv(x:bw):List D:=.sc (.int .i64 x.aJ)::(mE x.a++(mE x.b++(mE x.c++(mE x.d++qb x.g))))
def Jr(x:a_):List D:=yX x.a0++(yX x.a1++(yX x.a2++(yX x.a3++yX x.a4)))
def FE(x:aR):List D:=.sc (.int .i64 x.aJ)::Jr x.f
def Yc(x:List aR):List D:=[.sl (x.map FE)]
def Yf(x:bO):List D:=[.sl (x.l.map Yc),.sc (.bool x.dw)]
inductive W where
 |u32|u8|int|bool|eU|cM|aF|aP|mono|bn|xZ|pre|xW|gi|iY|row|oq|fD
@[reducible] def mq:W->Type
  |.u32=>Int|.u8=>Int|.int=>Int|.bool=>Bool|.eU=>ByteArray|.cM=>aY|.aF=>J|.aP=>F|.mono=>bf|.bn=>S|.xZ=>N5|.pre=>dK|.xW=>List J|.gi=>bw|.iY=>a_|.row=>aR|.oq=>List aR|.fD=>bO
def Dm:W->Nat
 |.u32=>1|.u8=>1|.int=>1|.bool=>1|.eU=>1|.cM=>2|.aF=>4|.aP=>7|.mono=>4|.bn=>6|.xZ=>3|.pre=>10|.xW=>1|.gi=>24|.iY=>10|.row=>11|.oq=>1|.fD=>2
def th:(k:W)->mq k->List D
 |.u32,x=>vv x|.u8,x=>cU8 x|.int,x=>apR x|.bool,x=>OS x|.eU,x=>OT x|.cM,x=>yX x|.aF,x=>mE x|.aP,x=>qb x|.mono,x=>apS x|.bn,x=>Aw x|.xZ,x=>apT x|.pre,x=>uk x|.xW,x=>[.sl (x.map mE)]|.gi,x=>xv x|.iY,x=>Jr x|.row,x=>FE x|.oq,x=>Yc x|.fD,x=>Yf x
@[reducible] def Un:gD:=⟨W,mq,Dm,th⟩
def sI(n:Int):SD Un:=.sc (.int .i64 n)
def eF:(k:W)->mq k->List (SD Un)
 |.u32,x=>[.sc (.int .u32 x)]
 |.u8,x=>[.sc (.int .u8 x)]
 |.int,x=>[.sc (.int .i64 x)]
 |.bool,x=>[.cK x]
 |.eU,x=>[.sc (.string x)]
 |.cM,x=>[.cK x.neg,.bN W.u32 x.aC]
 |.aF,x=>[.sc (.int .i64 x.aK),.cK x.neg,.bN W.u32 x.aC,.bN W.aF x.aL]
 |.aP,x=>[.sc (.int .i64 x.aJ),.sc (.int .i64 x.bU),.sc (.int .i64 x.aF.aK),.cK x.aF.neg,.bN W.u32 x.aF.aC,.bN W.aF x.aF.aL,.bN W.aP x.aO]
 |.mono,x=>[.sc (.int .i64 x.e1),.sc (.int .i64 x.e2),.sc (.int .i64 x.e3),.sc (.int .i64 x.e4)]
 |.bn,x=>[.cK x.neg,.bN W.u32 x.aC,.sc (.int .i64 x.e1),.sc (.int .i64 x.e2),.sc (.int .i64 x.e3),.sc (.int .i64 x.e4)]
 |.xZ,x=>[.cK x.neg,.bN W.u32 x.num,.bN W.u32 x.aI]
 |.pre,x=>[.sc (.int .i64 x.iP),.bN W.bool x.all,.bN W.eU x.bx,.sc (.int .i64 x.aP.aJ),.sc (.int .i64 x.aP.bU),.sc (.int .i64 x.aP.aF.aK),.cK x.aP.aF.neg,.bN W.u32 x.aP.aF.aC,.bN W.aF x.aP.aF.aL,.bN W.aP x.aP.aO]
 |.xW,x=>[.bN W.aF x]
 |.gi,x=>[.sc (.int .i64 x.aJ),.sc (.int .i64 x.a.aK),.cK x.a.neg,.bN W.u32 x.a.aC,.bN W.aF x.a.aL,.sc (.int .i64 x.b.aK),.cK x.b.neg,.bN W.u32 x.b.aC,.bN W.aF x.b.aL,.sc (.int .i64 x.c.aK),.cK x.c.neg,.bN W.u32 x.c.aC,.bN W.aF x.c.aL,.sc (.int .i64 x.d.aK),.cK x.d.neg,.bN W.u32 x.d.aC,.bN W.aF x.d.aL,.sc (.int .i64 x.g.aJ),.sc (.int .i64 x.g.bU),.sc (.int .i64 x.g.aF.aK),.cK x.g.aF.neg,.bN W.u32 x.g.aF.aC,.bN W.aF x.g.aF.aL,.bN W.aP x.g.aO]
 |.iY,x=>[.cK x.a0.neg,.bN W.u32 x.a0.aC,.cK x.a1.neg,.bN W.u32 x.a1.aC,.cK x.a2.neg,.bN W.u32 x.a2.aC,.cK x.a3.neg,.bN W.u32 x.a3.aC,.cK x.a4.neg,.bN W.u32 x.a4.aC]
 |.row,x=>[.sc (.int .i64 x.aJ),.cK x.f.a0.neg,.bN W.u32 x.f.a0.aC,.cK x.f.a1.neg,.bN W.u32 x.f.a1.aC,.cK x.f.a2.neg,.bN W.u32 x.f.a2.aC,.cK x.f.a3.neg,.bN W.u32 x.f.a3.aC,.cK x.f.a4.neg,.bN W.u32 x.f.a4.aC]
 |.oq,x=>[.bN W.row x]
 |.fD,x=>[.bN W.oq x.l,.cK x.dw]
def acy(k:W)(x:mq k):(eF k x).map SD.aI=th k x:=by
 cases k
 case aF=>exact(l4 x).symm
 case aP=>exact(rW x).symm
 case pre=>simp only[th,uk];rw[rW];rfl
 case gi=>simp only[th,xv];rw[rW,l4,l4,l4,l4];rfl
 all_goals rfl
def KB:(k a:W)->List (mq a)->Option (List (mq k))
 |.u32,.u32,l=>some l
 |.u8,.u8,l=>some l
 |.int,.int,l=>some l
 |.bool,.bool,l=>some l
 |.eU,.eU,l=>some l
 |.cM,.cM,l=>some l
 |.aF,.aF,l=>some l
 |.aP,.aP,l=>some l
 |.mono,.mono,l=>some l
 |.bn,.bn,l=>some l
 |.xZ,.xZ,l=>some l
 |.pre,.pre,l=>some l
 |.xW,.xW,l=>some l
 |.gi,.gi,l=>some l
 |.iY,.iY,l=>some l
 |.row,.row,l=>some l
 |.oq,.oq,l=>some l
 |.fD,.fD,l=>some l
 |_,_,_=>none
def acv(k k':W)(l:List (mq k'))(a:List (mq k))(h:KB k k' l=some a):l.map (th k')=a.map (th k)/\Dm k=Dm k':=by cases k<;>cases k'<;>simp only[KB,cS,reduceCtorEq]at h<;>(subst h;exact⟨rfl,rfl⟩)
def oc:SD Un->Option Int
 |.sc (.int .i64 n)=>some n
 |_=>none
def Us:SD Un->Option Int
 |.sc (.int .u32 n)=>some n
 |_=>none
def Ut:SD Un->Option Int
 |.sc (.int .u8 n)=>some n
 |_=>none
def ye:SD Un->Option Bool
 |.cK b=>some b
 |.sc (.bool b)=>some b
 |_=>none
def Uq:SD Un->Option ByteArray
 |.sc (.string s)=>some s
 |_=>none
def pP(k:W):SD Un->Option (List (mq k))
 |.bN a l=>KB k a l
 |.sc (.slice none 0 0)=>some []
 |_=>none
def oS{x:SD Un}(h:oc x=some n):x.aI.cB=.sc (.int .i64 n):=by unfold oc at h;split at h<;>first|injection h with h;subst h;rfl|cases h
def aIJ{x:SD Un}(h:Us x=some n):x.aI.cB=.sc (.int .u32 n):=by unfold Us at h;split at h<;>first|injection h with h;subst h;rfl|cases h
def aII{x:SD Un}(h:Ut x=some n):x.aI.cB=.sc (.int .u8 n):=by unfold Ut at h;split at h<;>first|injection h with h;subst h;rfl|cases h
def zV{x:SD Un}{n:Bool}(h:ye x=some n):x.aI.cB=.sc (.bool n):=by unfold ye at h;split at h<;>first|injection h with h;subst h;rfl|cases h
def aIG{x:SD Un}{n:az}(h:Uq x=some n):x.aI.cB=.sc (.string n):=by unfold Uq at h;split at h<;>first|injection h with h;subst h;rfl|cases h
def pQ{k:W}{x:SD Un}{l:List (mq k)}(h:pP k x=some l):x.aI.cB=.sl (l.map (th k)):=by
 unfold pP at h;split at h
 ·have:=(acv _ _ _ _ h).1;exact bi D.sl this
 ·injection h with h;subst h;rfl
 ·cases h
def xS{b:Type}(f:SD Un->Option b):List (SD Un)->Option b
 |[a]=>f a
 |_=>none
def zB:List (SD Un)->Option aY
 |[a,b]=>(match ye a,pP .u32 b with|some x,some y=>some ⟨x,y⟩|_,_=>none)
 |_=>none
def xU:List (SD Un)->Option J
 |[a,b,c,d]=>(match oc a,ye b,pP .u32 c,pP .aF d with|some x,some y,some z,some u=>some (.mk x y z u)|_,_,_,_=>none)
 |_=>none
def G_:List (SD Un)->Option F
 |[a,b,c,d,e,f,g]=>(match oc a,oc b,oc c,ye d,pP .u32 e,pP .aF f,pP .aP g with|some a,some b,some c,some d,some e,some f,some g=>some (.mk a b (.mk c d e f) g)|_,_,_,_,_,_,_=>none)
 |_=>none
def SN:List (SD Un)->Option bf
 |[a,b,c,d]=>(match oc a,oc b,oc c,oc d with|some a,some b,some c,some d=>some ⟨a,b,c,d⟩|_,_,_,_=>none)
 |_=>none
def SY:List (SD Un)->Option S
 |[a,b,c,d,e,f]=>(match ye a,pP .u32 b,oc c,oc d,oc e,oc f with|some a,some b,some c,some d,some e,some f=>some ⟨a,b,c,d,e,f⟩|_,_,_,_,_,_=>none)
 |_=>none
def SR:List (SD Un)->Option N5
 |[a,b,c]=>(match ye a,pP .u32 b,pP .u32 c with|some a,some b,some c=>some ⟨a,b,c⟩|_,_,_=>none)
 |_=>none
def SO:List (SD Un)->Option dK
 |[p,q,r,a,b,c,d,e,f,g]=>(match oc p,pP .bool q,pP .eU r,G_ [a,b,c,d,e,f,g]with
  |some p,some q,some r,some m=>some ⟨p,q,r,m⟩|_,_,_,_=>none)
 |_=>none
def SP:List (SD Un)->Option bw
 |[k,z,y,x,w,v,u,t,s,r,q,c3,c4,p,o,n,m,l,j,g3,i,h,f,e]=>(match oc k,xU [z,y,x,w],xU [v,u,t,s],xU [r,q,c3,c4],xU [p,o,n,m],G_ [l,j,g3,i,h,f,e]with
  |some k,some a,some b,some c,some d,some g=>some ⟨k,a,b,c,d,g⟩|_,_,_,_,_,_=>none)
 |_=>none
def LY:List (SD Un)->Option a_
 |[a,b,c,d,e,f,g,h,i,j]=>(match zB [a,b],zB [c,d],zB [e,f],zB [g,h],zB [i,j]with
  |some a,some b,some c,some d,some e=>some ⟨a,b,c,d,e⟩|_,_,_,_,_=>none)
 |_=>none
def SU:List (SD Un)->Option aR
 |[k,a,b,c,d,e,f,g,h,i,j]=>(match oc k,LY [a,b,c,d,e,f,g,h,i,j]with
  |some k,some f=>some ⟨k,f⟩|_,_=>none)
 |_=>none
def SX:List (SD Un)->Option bO
 |[a,b]=>(match pP .oq a,ye b with|some x,some y=>some ⟨x,y⟩|_,_=>none)
 |_=>none
def acx:(k:W)->List (SD Un)->Option (mq k)
 |.u32,l=>xS Us l|.u8,l=>xS Ut l|.int,l=>xS oc l|.bool,l=>xS ye l|.eU,l=>xS Uq l|.cM,l=>zB l|.aF,l=>xU l|.aP,l=>G_ l|.mono,l=>SN l|.bn,l=>SY l|.xZ,l=>SR l|.pre,l=>SO l|.xW,l=>xS (pP .aF) l|.gi,l=>SP l|.iY,l=>LY l|.row,l=>SU l|.oq,l=>xS (pP .row) l|.fD,l=>SX l
def Bf{f:SD Un->Option X}{g:X->D}(c:∀a x,f a=some x->a.aI.cB=g x)(b:List (SD Un))(x:X)(h:xS f b=some x):b.map (λy=>y.aI.cB)=[g x]:=by
 unfold xS at h;split at h
 ·simp[c _ _ h]
 ·cases h
def SM(a:List (SD Un))(x:F)(h:G_ a=some x):a.map (λy=>y.aI.cB)=qb x:=by
 unfold G_ at h;split at h
 ·split at h
  ·rename_i i g f e d c b;injection h with h;subst h;simp only[de,gW,oS i,oS g,oS f,zV e,pQ d,pQ c,pQ b];exact(rW (.mk _ _ (.mk _ _ _ _) _)).symm
  ·cases h
 ·cases h
def LZ(a:List (SD Un))(x:J)(h:xU a=some x):a.map (λy=>y.aI.cB)=mE x:=by
 unfold xU at h;split at h
 ·split at h
  ·rename_i e d c b;injection h with h;subst h;simp only[de,gW,oS e,zV d,pQ c,pQ b];exact(l4 (.mk _ _ _ _)).symm
  ·cases h
 ·cases h
def aEf(a:List (SD Un))(x:bw)(h:SP a=some x):a.map (λy=>y.aI.cB)=xv x:=by
 unfold SP at h;split at h
 ·split at h
  ·rename_i g f e d c b;injection h with h;subst h
   have m:=LZ _ _ f;have l:=LZ _ _ e;have k:=LZ _ _ d;have j:=LZ _ _ c;have i:=SM _ _ b;unfold xv;rw[<-m,<-l,<-k,<-j,<-i];simp only[de,gW,oS g,eB,gf]
  ·cases h
 ·cases h
def DT(a:List (SD Un))(x:aY)(h:zB a=some x):a.map (λy=>y.aI.cB)=yX x:=by
 unfold zB at h;split at h
 ·split at h
  ·rename_i c b;injection h with h;subst h;simp only[de,gW,zV c,pQ b];rfl
  ·cases h
 ·cases h
def afj(a:List (SD Un))(x:a_)(h:LY a=some x):a.map (λy=>y.aI.cB)=Jr x:=by
 unfold LY at h;split at h
 ·split at h
  ·rename_i f e d c b;injection h with h;subst h
   have l:=DT _ _ f;have k:=DT _ _ e;have j:=DT _ _ d;have i:=DT _ _ c;have g:=DT _ _ b;unfold Jr;rw[<-l,<-k,<-j,<-i,<-g];rfl
  ·cases h
 ·cases h
def aEg(a:List (SD Un))(x:aR)(h:SU a=some x):a.map (λy=>y.aI.cB)=FE x:=by
 unfold SU at h;split at h
 ·split at h
  ·rename_i c b;injection h with h;subst h
   have d:=afj _ _ b;unfold FE;rw[<-d];simp only[de,oS c]
  ·cases h
 ·cases h
def aEh(a:List (SD Un))(x:bO)(h:SX a=some x):a.map (λy=>y.aI.cB)=Yf x:=by
 unfold SX at h;split at h
 ·split at h
  ·rename_i c b;injection h with h;subst h;simp only[de,gW,pQ c,zV b];rfl
  ·cases h
 ·cases h
def ayf(k:W)(a:List (SD Un))(x:mq k)(h:acx k a=some x):a.map (λy=>y.aI.cB)=th k x:=by
 cases k with
 |u32=>exact Bf (g:=λn=>.sc (.int .u32 n)) (λ_ _ h=>aIJ h) a x h
 |u8=>exact Bf (g:=λn=>.sc (.int .u8 n)) (λ_ _ h=>aII h) a x h
 |int=>exact Bf (g:=λn=>.sc (.int .i64 n)) (λ_ _ h=>oS h) a x h
 |bool=>exact Bf (g:=λn=>.sc (.bool n)) (λ_ _ h=>zV h) a x h
 |eU=>exact Bf (g:=λn=>.sc (.string n)) (λ_ _ h=>aIG h) a x h
 |cM=>exact DT a x h
 |aF=>
  change xU a=some x at h;unfold xU at h;split at h
  ·split at h
   ·rename_i d c b e;injection h with h;subst h;simp only[de,gW,oS d,zV c,pQ b,pQ e];exact(l4 (.mk _ _ _ _)).symm
   ·cases h
  ·cases h
 |aP=>exact SM a x h
 |mono=>
  change SN a=some x at h;unfold SN at h;split at h
  ·split at h
   ·rename_i d c b e;injection h with h;subst h;simp only[de,gW,oS d,oS c,oS b,oS e];rfl
   ·cases h
  ·cases h
 |bn=>
  change SY a=some x at h;unfold SY at h;split at h
  ·split at h
   ·rename_i d c b e i f;injection h with h;subst h;simp only[de,gW,zV d,pQ c,oS b,oS e,oS i,oS f];rfl
   ·cases h
  ·cases h
 |xZ=>
  change SR a=some x at h;unfold SR at h;split at h
  ·split at h
   ·rename_i d c b;injection h with h;subst h;simp only[de,gW,zV d,pQ c,pQ b];rfl
   ·cases h
  ·cases h
 |pre=>
  change SO a=some x at h;unfold SO at h;split at h
  ·split at h
   ·rename_i d c b e;injection h with h;subst h
    have:=SM _ _ e;simp only[de,gW,oS d,pQ c,pQ b,th,uk]at this⊢;rw[<-this];rfl
   ·cases h
  ·cases h
 |xW=>exact Bf (g:=λn=>.sl (List.map mE n)) (λ_ _ h=>pQ h) a x h
 |gi=>exact aEf a x h
 |iY=>exact afj a x h
 |row=>exact aEg a x h
 |oq=>exact Bf (g:=λn=>.sl (List.map FE n)) (λ_ _ h=>pQ h) a x h
 |fD=>exact aEh a x h
def KX:List (Nat×W)->Nat->Option W
 |[],_=>none
 |(j,k)::r,t=>match Nat.beq j t with|true=>some k|false=>KX r t
theorem adf:∀{l:List (Nat×W)} {t:Nat} {k:W},KX l t=some k->(t,k)∈l
 |[],_,_,h=>by cases h
 |(j,a)::r,t,k,h=>by
  simp only[KX]at h;split at h
  ·rename_i e;injection h with h;subst h;rw[cU e];simp
  ·exact cv _ (adf h)
def QW:List (Nat×W):=[(168,.u32),(3,.int),(29,.aF),(26,.cM),(32,.aP),(171,.bn),(165,.mono),(4,.bool),(9,.eU),(2,.int),(34,.xZ),(50,.pre),(5,.u8),(146,.gi),(117,.iY),(124,.row),(81,.oq),(75,.fD)]
def acw(t:TypeId):Option W:=KX QW t
def ayb:∀p∈QW,fg prog p.1=some (Dm p.2):=by unfold QW;simp only[List.forall_mem_cons];exact⟨af,af,af,af,af,af,af,af,af,af,af,af,af,af,af,af,af,af,λ_ h=>by simp at h⟩
def aye(t:TypeId)(k:W)(h:acw t=some k):fg prog t=some (Dm k):=ayb (t,k) (adf h)
def ayc(k:W)(x:mq k):(th k x).length=Dm k:=by
 cases k
 case aF=>have e:=l4 x;show(mE x).length=4;rw[e];rfl
 case aP=>have e:=rW x;show(qb x).length=7;rw[e];rfl
 case pre=>have e:=rW (dK.aP x);show(qb (dK.aP x)).length+1+1+1=10;rw[e];rfl
 case gi=>show(xv x).length=24;unfold xv;rw[rW,l4,l4,l4,l4];rfl
 all_goals rfl
def ayd(k:W)(x:mq k):(th k x).map D.cB=th k x:=by
 cases k
 case aF=>have e:=l4 x;show(mE x).map D.cB=mE x;rw[e];rfl
 case aP=>have e:=rW x;show(qb x).map D.cB=qb x;rw[e];rfl
 case pre=>have e:=rW (dK.aP x);show(uk x).map D.cB=uk x;unfold uk;rw[e];rfl
 case gi=>show(xv x).map D.cB=xv x;unfold xv;rw[rW,l4,l4,l4,l4];rfl
 all_goals rfl
def Lb:MI:=⟨165,3,.qa 4 .i64,.int .i64 0⟩
def azD:vq prog 251 Lb:=⟨af,af,af,rfl⟩
def Rr:MI:=⟨9,4,.eU,.bool false⟩
def azE:vq prog 192 Rr:=⟨af,af,af,rfl⟩
def Rv(t:TypeId):Option MI:=match Nat.beq t 251 with|true=>some Lb|false=>(match Nat.beq t 192 with|true=>some Rr|false=>none)
def azT(t:TypeId)(m:MI)(h:Rv t=some m):vq prog t m:=by
 unfold Rv at h;split at h
 ·rename_i e;injection h with h;subst h;rw[cU e];exact azD
 ·split at h
  ·rename_i e;injection h with h;subst h;rw[cU e];exact azE
  ·cases h
def aqc(t:TypeId):Option W:=match Nat.beq t 27 with|true=>some .xW|false=>none
def Vw:bY prog Un where
 row:=eF
 Hl:=acy
 len:=ayc
 pI k:=by cases k<;>decide
 aJ:=acw
 DM:=acx
 G8:=ayf
 cast:=KB
 qY:=acv
 ty:=ai3
 fX:=aI1
 zi:=aye
 f_:=ayd
 wr:=false
 GO:=Rv
 Lh:=azT
 CA:=aqc
def Vx:bY prog Un:= { Vw with wr:=true}
abbrev bh(f:FuncId)(args:List (SE Un))(r:ST Un):Prop:=lW prog f (args.map SE.aI) r.aI
def vG{fn:Func}(d:Tryz.prog.funcs[f]?=some fn)(e:fn.body=some c)(b:kh prog Un)(g:List (Nat×oh Un)){args:List (SE Un)}{r:ST Un}
 (h:UN Vw b g fn.ntmps fn.results.toList c args r)(a:(fn.name== "runtime.NumGoroutine")=false:=by kernel_rfl)(i:args.length<=fn.ntmps:=by exact js rfl)(j:∀s,¬r.aI.bx s:=by exact G0 rfl):bh f args r:=
 M4 mixed d e a i j h
def vF{fn:Func}(b:Tryz.prog.funcs[f]?=some fn)(d:fn.body=some c)(e:List (Ct prog Un))(g:List (Nat×oh Un)){args:List (SE Un)}{r:ST Un}
 (h:UN Vw ⟨e,[]⟩ g fn.ntmps fn.results.toList c args r)(a:(fn.name== "runtime.NumGoroutine")=false:=by kernel_rfl)(i:args.length<=fn.ntmps:=by exact js rfl)(j:∀s,¬r.aI.bx s:=by exact G0 rfl):bh f args r:=
 M4 mixed b d a i j h
def vO{fn:Func}(i:Tryz.prog.funcs[f]?=some fn)(j:fn.body=some c)(g:kh prog Un)(k:List (Nat×oh Un))(aN:aq)(τ:SS Un){H b:List (Nat×aZ Un)}{args:List (SE Un)}{r:ST Un}
 (h:vcO Vw aN g k fn.ntmps c H args τ)(a:(fn.name== "runtime.NumGoroutine")=false:=by kernel_rfl)(l:args.length<=fn.ntmps:=by exact js rfl)(m:r.dd.all (jX b)=true:=by rfl)(n:Jz b=true:=by rfl)(o:aN.all (jX b)=true:=by rfl)(d:zG Vw τ fn.results.toList=some r:=by rfl)(e:T_ b τ.heap:=by exact λ_ _ h=>h):dA prog f (bX (cy H)) (args.map SE.aI) (bX (cy b)) (·∈aN) r.aI:=
 ajk mixed i j a l m n o d e h
abbrev wE(k:W)(x:mq k):SE Un:=iU Vw (.el k) x
abbrev wL(k:W)(x:List (mq k)):SE Un:=iU Vw (.ls k) x
abbrev wI(k:IntKind)(x:Int):SE Un:=iU Vw (.int k) x
abbrev wB(x:Bool):SE Un:=iU Vw .bool x
abbrev wS(x:az):SE Un:=iU Vw .eU x
abbrev br(s:Nat):ST Un:=.e (.c (.ptr s 0))
abbrev fL:SV Un:=.d (.sc (.slice none 0 0))
abbrev iB:SV Un:=.d (.sc (.bool false))
abbrev cG(n:Int):SV Un:=.d (.sc (.int .i64 n))
abbrev cj(k:W)(x:mq k):aZ Un:=.cells ((eF k x).map .d)
def dj{f:FuncId}(p:qQ Un){Pre:p.T->Prop}{R:p.T->ST Un}(h:∀x,Pre x->bh f [iU Vw p x] (R x)):Ct prog Un:=ot Vw f p Pre R h
def eI{f:FuncId}(p q:qQ Un){Pre:p.T->q.T->Prop}{R:p.T->q.T->ST Un}(h:∀x y,Pre x y->bh f [iU Vw p x,iU Vw q y] (R x y)):Ct prog Un:=uq Vw f p q Pre R h
def wK{f:FuncId}(p q r:qQ Un){Pre:p.T->q.T->r.T->Prop}{R:p.T->q.T->r.T->ST Un}(h:∀x y z,Pre x y z->bh f [iU Vw p x,iU Vw q y,iU Vw r z] (R x y z)):Ct prog Un:=CH Vw f p q r Pre R h
def HU{f:FuncId}(p q r s:qQ Un){Pre:p.T->q.T->r.T->s.T->Prop}{R:p.T->q.T->r.T->s.T->ST Un}(h:∀x y z u,Pre x y z u->bh f [iU Vw p x,iU Vw q y,iU Vw r z,iU Vw s u] (R x y z u)):Ct prog Un:=Y5 Vw f p q r s Pre R h
def iT(n:Int):ST Un:=.e (.c (.d (.sc (.int .i64 n))))
def uT(n:Int):ST Un:=.e (.c (.d (.sc (.int .u32 n))))
def bT(b:Bool):ST Un:=.e (.c (.d (.cK b)))
def lT(k:W)(l:List (mq k)):ST Un:=.e (.c (.d (.bN (U:=Un) k l)))
def eT(k:W)(x:mq k):ST Un:=.e (.agg ((eF k x).map .d))
def Sm{a:Type}(l:List a):=l.length<=1099511627776
def jP(l:ao):Nat->Nat
 |0=>0
 |k+1=>if l[k]?=some 0 then jP l k else k+1
def aT(l:ao):List Int:=l.take (jP l l.length)
def aIB(c:0<k)(a:l[k-1]?=some d)(b:d=0):jP l k=jP l (k-1):=by obtain⟨m,rfl⟩:∃m,k=m+1:=⟨k-1,O⟩;simp only[yE]at a⊢;rw[jP,a,b,aM rfl]
def aIC(c:0<k)(a:l[k-1]?=some d)(b:d≠0):jP l k=k:=by obtain⟨m,rfl⟩:∃m,k=m+1:=⟨k-1,O⟩;simp only[yE]at a;rw[jP,a,Z (an b)]
theorem MS(l:ao):∀k,jP l k<=k
 |0=>bK 0
 |k+1=>by rw[jP];have:=MS l k;split<;>omega
def ml(l:ao):(aT l).length<=l.length:=by simp[aT];omega
def MY(h:Sm l):Sm (aT l):=dH (ml l) h
def iL(neg:Bool)(l:ao):aY:=⟨neg&&decide (0<l.length),l⟩
def jE(x:aY):aY:=iL x.neg (aT x.aC)
def bm(x:aY):Int:=if(aT x.aC).length=0 then 0 else if x.neg then-1 else 1
def aIX(l:ao):bh 165 [wL .u32 l] (lT .u32 (aT l)):=by
 refine vF func165 rfl [] [(2,⟨Nat,λk=>⟨[(0,lT .u32 l),(3,iT k)],[],0⟩,λk=>k<=l.length/\jP l k=jP l l.length,λk=>k⟩)] ?_;intro h;refine aS l.length (aQ ⟨rfl,rfl,bK _,rfl⟩ λ(k:Nat)(g:k<=l.length/\jP l k=jP l l.length)=>?_);obtain⟨g,e⟩:=g;apply aQ
 ·intro a;have a:0<k:=an a;have c:(k:Int)-1=((k-1:Nat):Int):=O;refine aQ (by constructor<;>omega) (aQ O (aQ O λ(d:Int) f=>?_));rw[c,bt]at f;apply aQ
  ·intro b;refine aQ (by constructor<;>omega) (aS (k-1) ⟨rfl,c,⟨O,?_⟩,by show k-1<k;omega⟩);rw[<-e,aIB a f (an b)]
  ·intro b;refine⟨O,O,?_,trivial⟩;rw[bt,aT,<-e,aIC a f (an b)]
 ·intro a;have a:k=0:=by have:¬0<k:=an a;omega
  subst a;refine⟨O,O,?_,trivial⟩;rw[aT,<-e];rfl
def vE:=dj (.ls W.u32) λl (_:True)=>aIX l
def aCP(l:ao)(h:Sm l):bh 158 [wL .u32 l] (lT .u32 (aT l)):=by
 refine vF func158 rfl [vE] [] ?_;have a:=MY h;repeat' first|intro _|apply aQ
 all_goals first|exact bj|rfl|omega|simp[BC,Sm,eL];done|simp_all[BC,Sm,eL];omega
def JV:=dj (.ls W.u32) aCP
def axK(l:ao):bh 121 [wL .u32 l] (bT (decide ((aT l).length=0))):=by
 refine vF func121 rfl [vE] [] ?_;repeat' first|intro _|apply aQ
 all_goals first|exact bj|rw[oV];simp_all;done
def ar7:=dj (.ls W.u32) λl (_:True)=>axK l
def aHg(b:Bool)(l:ao):bh 169 [wB b,wL .u32 l] (eT .cM (iL b l)):=by
 refine vF func169 rfl [] [] ?_;repeat' first|intro _|apply aQ
 all_goals first|exact bj|rfl|simp_all[iL];done
def Py:=eI (.bool) (.ls W.u32) λb l (_:True)=>aHg b l
def awC(b:Bool)(l:ao)(h:Sm l):bh 166 [wB b,wL .u32 l] (eT .cM (iL b (aT l))):=by
 refine vF func166 rfl [JV,Py] [] ?_;repeat' first|intro _|apply aQ
 all_goals first|exact bj|rfl|assumption
def FY:=eI (.bool) (.ls W.u32) awC
def aCO(x:aY)(h:Sm x.aC):bh 122 [wE .cM x] (eT .cM (jE x)):=by
 refine vF func122 rfl [FY] [] ?_;repeat' first|intro _|apply aQ
 all_goals first|exact bj|rfl|assumption
def F1:=dj (.el W.cM) aCO
def aHf(x:aY):bh 75 [wE .cM x] (iT (bm x)):=by
 refine vF func75 rfl [ar7] [] ?_;repeat' first|intro _|apply aQ
 all_goals first|exact bj|simp_all[bm];done
def vC:=dj (.el W.cM) λx (_:True)=>aHf x
def axG(n:Int):bh 57 [wI .i64 n] (bT (decide (1<=n/\n<=4))):=by
 refine vF func57 rfl [] [] ?_;repeat' first|intro _|apply aQ
 all_goals first|exact bj|simp at*;omega
def Zh:=dj (.int .i64) λn (_:True)=>axG n
def axL(p:J):bh 120 [wE .aF p] (bT (decide (p.aK=0/\p.aC.length=0))):=by
 refine vF func120 rfl [] [] ?_;repeat' first|intro _|apply aQ
 all_goals first|exact bj|simp at*;omega|rw[oV];simp_all;done
def JU:=dj (.el W.aF) λp (_:True)=>axL p
def iX{a:Type}(f:a->Int->Int):List a->Int->Int
 |[],n=>n
 |c::r,n=>if n<0 then-1 else iX f r (f c n)
def abB(f:X->Int->Int){l:List X}{c:X}(h:l[k]?=some c)(n:Int):iX f (l.drop k) n=if n<0 then-1 else iX f (l.drop (k+1)) (f c n):=by obtain⟨a,rfl⟩:=du.1 h;rw[kB a,iX]
theorem Qo{a:Type}(f:a->Int->Int)(b:∀c n,0<=n->-1<=f c n/\f c n<=n):∀(l:List a)(n:Int),-1<=n->-1<=iX f l n/\iX f l n<=n
 |[],n,h=>⟨h,tY _⟩
 |c::r,n,h=>by
  rw[iX];split
  ·omega
  ·have d:=b c n O;have e:=Qo f b r (f c n) d.1;omega
def kw(dg:Int):Nat->J->Int->Int
 |0,_,_=>-1
 |d+1,p,n=>if dg<p.aC.length\/12<p.aL.length then-1 else iX (kw dg d) p.aL (n-1)
theorem Tk(dg:Int):∀(d:Nat)(p:J)(n:Int),0<=n->-1<=kw dg d p n/\kw dg d p n<=n
 |0,p,n,h=>by rw[kw];omega
 |d+1,p,n,h=>by
  rw[kw];split
  ·omega
  ·have:=Qo (kw dg d) (λc n h=>Tk dg d c n h) p.aL (n-1) O;omega
def AO(p:J)(n dg:Int):Bool:=decide (0<=kw dg 6 p n)
def jj:Nat->F->Int->Int
 |0,_,_=>-1
 |d+1,p,n=>if AO p.aF 40 4=false then-1 else iX (jj d) p.aO (n-1)
theorem Tj:∀(d:Nat)(p:F)(n:Int),0<=n->-1<=jj d p n/\jj d p n<=n
 |0,p,n,h=>by rw[jj];omega
 |d+1,p,n,h=>by
  rw[jj];split
  ·omega
  ·have:=Qo (jj d) (λc n h=>Tj d c n h) p.aO (n-1) O;omega
def xA(m:F)(n:Int):Bool:=decide (0<=jj 12 m n)
def abz{f:X->Int->Int}{l:List X}{R:Int}(h:iX f (l.drop k) n=R)(a:decide ((k:Int)<l.length)=true)(b:decide (n<0)=true):-1=R:=by have a:k<l.length:=an a;rw[abB f (cN a),aM (an b)]at h;exact h
def aby{f:X->Int->Int}{l:List X}{R:Int}(h:iX f (l.drop k) n=R)(a:decide ((k:Int)<l.length)=false):n=R:=by have a:¬k<l.length:=an a;rw[mU O]at h;exact h
def abA{f:X->Int->Int}{l:List X}{R:Int}{c:X}(h:iX f (l.drop k) n=R)(a:l[(k:Int).toNat]?=some c)(b:decide (n<0)=false):iX f (l.drop (k+1)) (f c n)=R:=by rw[bt]at a;rw[abB f a,Z (an b)]at h;exact h
def J.pf(p:J):J.mk p.aK p.neg p.aC p.aL=p:=by cases p;rfl
theorem F.pf(p:F):F.mk p.aJ p.bU (J.mk p.aF.aK p.aF.neg p.aF.aC p.aF.aL) p.aO=p:=by cases p;rw[J.pf];rfl
def F.auT(p:F):F.mk p.aJ p.bU p.aF p.aO=p:=by cases p;rfl
def aiI(h:0<d):d.toNat=(d-1).toNat+1:=O
def aFT(p:J)(n d dg:Int)(h:0<=d/\d<=100/\0<=n/\n<=1000000):bh 107 [wE .aF p,wI .i64 n,wI .i64 d,wI .i64 dg] (iT (kw dg d.toNat p n)):=by
 generalize i:d.toNat=D
 induction D using Nat.strongRecOn generalizing p n d
 rename_i D c;subst i;refine vF func107 rfl [Y5 Vw 107 (.el W.aF) (.int .i64) (.int .i64) (.int .i64) (λ(q:J)(x:Int)(y:Int)(z:Int)=>y=d-1/\z=dg/\0<d/\0<=x/\x<=1000000) (λ(q:J)(x:Int)(y:Int)(z:Int)=>iT (kw dg (d-1).toNat q x)) (by rintro q x _ _ ⟨rfl,rfl,b,k,j⟩;exact c _ O q x _ ⟨O,O,k,j⟩ rfl)] [(5,⟨Nat×Int,λx=>⟨[(4,br 0),(1,iT x.2),(2,iT d),(3,iT dg),(30,iT p.aL.length),(31,iT x.1)],[(0,cj .aF p)],1⟩,λx=>x.1<=p.aL.length/\p.aL.length<=12/\0<d/\-1<=x.2/\x.2<=1000000/\iX (kw dg (d-1).toNat) (p.aL.drop x.1) x.2=kw dg d.toNat p n,λx=>p.aL.length-x.1⟩)] ?_;have m:=h.2.2;have l:d=0->kw dg d.toNat p n=-1:=by rintro rfl;rfl
 have f:0<d->kw dg d.toNat p n=if dg<p.aC.length\/12<p.aL.length then-1 else iX (kw dg (d-1).toNat) p.aL (n-1):=by intro h;rw[aiI h,kw]
 have g:(d==0)=false->0<d:=by intro e;simp at e;omega
 repeat' first|intro _|apply aQ|refine aS (0,n-1) (aQ ?_ λ(x:Nat×Int) (a:x.1<=p.aL.length/\p.aL.length<=12/\0<d/\-1<=x.2/\x.2<=1000000/\iX (kw dg (d-1).toNat) (p.aL.drop x.1) x.2=kw dg d.toNat p n)=>?_)|refine aS (x.1+1,kw dg (d-1).toNat (by assumption) x.2) ?_
 all_goals first|exact bj|rfl|omega|exact abz a.2.2.2.2.2 Y Y|exact aby a.2.2.2.2.2 Y|exact abA a.2.2.2.2.2 Y Y|have b:=g Y;rw[f b];simp_all;done|have:=Tk dg (d-1).toNat ‹Un.El W.aF› x.2 (by simp_all);simp_all;omega|have:=Tk dg (d-1).toNat ‹Un.El W.aF› x.2 (by simp_all);omega|simp[J.pf];done|simp at*;omega
def asy:=HU (.el W.aF) (.int .i64) (.int .i64) (.int .i64) aFT
def av6(p:J)(n dg:Int)(h:0<=n/\n<=1000000):bh 60 [wE .aF p,wI .i64 n,wI .i64 dg] (bT (AO p n dg)):=by
 refine vF func60 rfl [asy] [] ?_;repeat' first|intro _|apply aQ
 all_goals first|exact bj|rfl|omega
def arU:=wK (.el W.aF) (.int .i64) (.int .i64) av6
def aFS(p:F)(n d:Int)(h:0<=d/\d<=100/\0<=n/\n<=1000000):bh 59 [wE .aP p,wI .i64 n,wI .i64 d] (iT (jj d.toNat p n)):=by
 generalize i:d.toNat=D
 induction D using Nat.strongRecOn generalizing p n d
 rename_i D c;subst i;refine vF func59 rfl [arU,CH Vw 59 (.el W.aP) (.int .i64) (.int .i64) (λ(q:F)(x:Int)(y:Int)=>y=d-1/\0<d/\0<=x/\x<=1000000) (λ(q:F)(x:Int)(y:Int)=>iT (jj (d-1).toNat q x)) (by rintro q x _ ⟨rfl,b,k,j⟩;exact c _ O q x _ ⟨O,O,k,j⟩ rfl)] [(5,⟨Nat×Int,λx=>⟨[(3,br 0),(1,iT x.2),(2,iT d),(20,iT p.aO.length),(21,iT x.1)],[(0,cj .aP p)],1⟩,λx=>x.1<=p.aO.length/\p.aO.length<=9223372036854775807/\0<d/\-1<=x.2/\x.2<=1000000/\iX (jj (d-1).toNat) (p.aO.drop x.1) x.2=jj d.toNat p n,λx=>p.aO.length-x.1⟩)] ?_;have m:=h.2.2;have l:d=0->jj d.toNat p n=-1:=by rintro rfl;rfl
 have f:0<d->jj d.toNat p n=if AO p.aF 40 4=false then-1 else iX (jj (d-1).toNat) p.aO (n-1):=by intro h;rw[aiI h,jj]
 have g:(d==0)=false->0<d:=by intro e;simp at e;omega
 repeat' first|intro _|apply aQ|refine aS (0,n-1) (aQ ?_ λ(x:Nat×Int) (a:x.1<=p.aO.length/\p.aO.length<=9223372036854775807/\0<d/\-1<=x.2/\x.2<=1000000/\iX (jj (d-1).toNat) (p.aO.drop x.1) x.2=jj d.toNat p n)=>?_)|refine aS (x.1+1,jj (d-1).toNat (by assumption) x.2) ?_
 all_goals first|exact bj|rfl|assumption|omega|exact abz a.2.2.2.2.2 Y Y|exact aby a.2.2.2.2.2 Y|exact abA a.2.2.2.2.2 Y Y|have b:=g Y;rw[f b];simp_all[J.pf];done|have:=Tj (d-1).toNat ‹Un.El W.aP› x.2 (by simp_all);simp_all;omega|have:=Tj (d-1).toNat ‹Un.El W.aP› x.2 (by simp_all);omega|simp[J.pf,F.pf,F.auT];done|simp at*;omega
def asx:=wK (.el W.aP) (.int .i64) (.int .i64) aFS
def av7(p:F)(n:Int)(h:0<=n/\n<=1000000):bh 28 [wE .aP p,wI .i64 n] (bT (xA p n)):=by
 refine vF func28 rfl [asx] [] ?_;repeat' first|intro _|apply aQ
 all_goals first|exact bj|rfl|omega
def arS:=eI (.el W.aP) (.int .i64) av7
end Go.Proofs.YtfbmhjooliccnaaGreatDoor
