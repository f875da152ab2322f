/- A part of the proof of VirtualLinear: Ab6 to Ab26. No condition. -/
import Derived.Test.YtfbmhjooliccnaaGreatDoorYa
import Derived.Orders
set_option linter.all false
set_option maxRecDepth 100000
set_option maxHeartbeats 60000000
noncomputable section
namespace Go.Ab
open Go Go.RowKit
variable {M:Nat→Prop}{n i k j s:Nat}{P:ax}{o:Oper}{w N:World}{X:av}{v:Value}{U:G}{a:Act}{l:aq}{t u:TypeId}{x y:aw}{R L:au}{C:ef}{H:fF}{c:Code}{Q:List Oper}{b:Bool}
theorem dD.cu{C:ef}{k:G}{j:St}{a:Act}{w:World}(R:dD C k j a w)(s:Nat):dD C k (j.cu s) a w:=by
 refine⟨⟨R.mem.iF,R.mem.inj,R.mem.nm,λt c=>?_,λt q c=>?_,R.mem.jO⟩,λi=>(R.aV i).cu s,R.aN,R.aX,R.aU,R.defers,R.size⟩
 ·simp only[St.cu,Option.map_eq_none_iff]at c;exact R.mem.ic t c
 ·simp only[St.cu,gN]at c;obtain⟨g,o,rfl⟩:=c;rcases R.mem.gR t g o with⟨b,m,l,n,d,f,e⟩|⟨d,e⟩|⟨b,p,h,d,f,e⟩
  ·exact .inl ⟨b,m,l,n,d,f,e.cu s⟩
  ·exact .inr (.inl ⟨d,by simp[e]⟩)
  ·exact .inr (.inr ⟨b,p,h,d,f,by simp[e,V.cu]⟩)
def dD.adH{D:St}(c:dD C U D a w){z:List V}{spare:au}(o:World)(j:o=w\/o=w.drew)
 (hc:bW w C.M U z R)(hn:∀x∈z,¬x.bx s)(M:¬C.aU s)(k:(∀i,¬(D.aV i).bx s)/\∀t B,t≠s->D.heap t=some B->∀x∈B,¬x.bx s):
 dD C (dZ U s (some w.heap.size)) ⟨D.aV,cZ D.heap s (some z)⟩ a (o.alloc (.cells (R++spare).toArray t)):=by
 have N:o.heap=w.heap:=by rcases j with rfl|rfl<;>rfl
 have E:o.heap.size=w.heap.size:=by rw[N]
 have hold:∀b,b<w.heap.size->(o.alloc (.cells (R++spare).toArray t)).heap[b]?=w.heap[b]? :=λb hb=>by rw[Below.heap_alloc _ _ _ (by rw[E];exact hb),N]
 have H:(o.alloc (.cells (R++spare).toArray t)).heap[w.heap.size]?=some (.cells (R++spare).toArray t (0,0)):=by rw[<-E];exact ou _ _
 have A:w.heap.size<=(o.alloc (.cells (R++spare).toArray t)).heap.size:=by simp[N]
 have p:lz C.M U (dZ U s (some w.heap.size)) w (o.alloc (.cells (R++spare).toArray t)):=by
  refine⟨A,λx f=>hold x f.1,λx f u=>?_,λx cells T f=>⟨cells,(hold x (jy f)).trans f,rfl⟩⟩;unfold dZ;split
  ·intro e;injection e with e;injection e with e;have:=f.1;omega
  ·exact f.2.2 u
 have h:∀u,u≠s->dZ U s (some w.heap.size) u=U u:=λu g=>by simp[dZ,g]
 refine⟨⟨λx f=>mz (c.mem.iF x f) A,?_,?_,?_,?_,c.mem.jO.dR p⟩,λi=>?_,?_,?_,?_,c.defers,c.size⟩
 ·intro u v x d y;unfold dZ at d y;split at d<;>split at y
  ·omega
  ·injection d with d;injection d with d;have:=c.mem.lt y;omega
  ·injection y with y;injection y with y;have:=c.mem.lt d;omega
  ·exact c.mem.inj u v x d y
 ·intro u x d;unfold dZ at d;split at d
  ·injection d with d;injection d with d;intro hM;have:=c.mem.iF x hM;omega
  ·exact c.mem.nm u x d
 ·intro u g;simp only[cZ]at g;unfold dZ;split at g
  ·cases g
  ·rw[Z Y];exact c.mem.ic u g
 ·intro u B g;simp only[cZ]at g;split at g
  ·rename_i e;subst e;injection g with g;subst g
   exact .inl ⟨w.heap.size,t,R,spare,by simp[dZ],H,hc.dR p λv q=>h v (by rintro rfl;obtain⟨x,f,q⟩:=q;exact hn x f q)⟩
  ·rename_i r;have l:=k.2 u B r g;have P:∀v,(∃x∈B,x.bx v)->dZ U s (some w.heap.size) v=U v:=λv q=>h v (by rintro rfl;obtain⟨x,f,q⟩:=q;exact l x f q)
   rcases c.mem.gR u B g with⟨K,t',vs,sp,L,m,n⟩|⟨L,n⟩|⟨K,en,Q,L,m,n⟩
   ·exact .inl ⟨K,t',vs,sp,by rw[h u r];exact L,(hold K (jy m)).trans m,n.dR p P⟩
   ·exact .inr (.inl ⟨by rw[h u r];exact L,n⟩)
   ·exact .inr (.inr ⟨K,en,Q,by rw[h u r];exact L,(hold K (jy m)).trans m,n⟩)
 ·exact(c.aV i).dR p λv q=>h v (by rintro rfl;exact k.1 i q)
 ·have l:=c.aN;refine⟨?_,?_,?_,?_,dH l.size A,λx f hp=>(hold x (mz f l.size)).trans (l.same x f hp),λx cells T f=>?_⟩
  ·rcases j with rfl|rfl<;>exact l.os
  ·rcases j with rfl|rfl<;>exact l.tape
  ·rcases j with rfl|rfl<;>exact l.output
  ·rcases j with rfl|rfl
   ·exact l.drawn
   ·exact dH l.drawn (Nat.le_succ _)
  ·obtain⟨c1,X,s1⟩:=l.jb x cells T f;exact⟨c1,(hold x (jy X)).trans X,s1⟩
 ·intro u x d;unfold dZ at d;split at d
  ·injection d with d;injection d with d;have:=c.aN.size;exact .inr O
  ·exact c.aX u x d
 ·intro u g;rw[h u (by rintro rfl;exact M g)];exact c.aU u g
def mN(k:Nat)(H:fF):T->Option (List V×Nat)
 |.e (.c (.d (.sl f)))=>if f.all (λr=>r.length==k)then some (f.flatten.map .d,f.length)else none
 |.e (.c (.sub s h b a))=>
  match H s with
  |some g=>if h=k/\b+a*k<=g.length then some ((g.drop b).take (a*k),a)else none
  |none=>none
 |.e (.c (.d (.sc (.slice none 0 0))))=>some ([],0)
 |_=>none
theorem Gi{d:Type}(k:Nat):∀(b:List (List d)) (_:∀r∈b,r.length=k) (i j:Nat),j<k->b.flatten[i*k+j]?=(b[i]?).bind (λr=>r[j]?)
 |[],_,i,j,_=>by simp
 |r::b,h,i,j,c=>by
  have a:=h r ai;cases i with
  |zero=>simp[B3,a,c]
  |succ i=>have e:=Gi k b (λr a=>h r (by simp[a])) i j c;simp only[EI,B5];rw[B4 (by rw[a,rN];omega),a,<-e];congr 1;rw[rN];omega
theorem abq{b:Type}(k:Nat):∀(a:List (List b)),(∀r∈a,r.length=k)->a.flatten.length=a.length*k
 |[],_=>by simp
 |r::a,h=>by have c:=abq k a (λr d=>h r (by simp[d]));simp[h r ai,c,rN,B8]
def MK(hm:Mem M U H w){x:T}{cs:List V}(g:mN k H x=some (cs,n))(L:cr w M U x v):
 ∃(B:Option Addr)(c:Nat)(us:au),v=.slice B n c/\bW w M U cs us/\us.length=n*k/\(n≠0->∃a,B=some a/\∀j u,us[j]?=some u->w.cell? (a.add j)=some u):=by
 unfold mN at g;split at g
 ·rename_i o;split at g
  ·rename_i N;injection g with g;injection g with h1 P;subst h1;subst P
   have l:∀r∈o,r.length=k:=an N;have hfl:=abq k o l;cases L with
   |sl _ kk z A d hcap hmax Q hA hU=>
    refine⟨A,z,(List.range (o.length*k)).map (λe=>d (e/k) (e%k)),rfl,⟨by rw[eh,hfl];simp,λi x u g hu=>?_⟩,ai,λhne=>?_⟩
    ·have hi:i<o.length*k:=by have:=(du.1 hu).1;simpa using this
     have C:0<k:=IQ (by rintro rfl;simp at hi);rw[eC,vl hi]at hu;simp only[dP,cS]at hu;subst hu;have R:=Gi k o l (i/k) (i%k) (Nat.mod_lt _ C);rw[Nat.div_add_mod']at R;simp only[eC,R]at g;cases X:(o[i/k]?).bind (λr=>r[i%k]?)with
     |none=>rw[X]at g;simp at g
     |some y=>rw[X]at g;simp only[dP,cS]at g;subst g;exact hU _ _ y X
    ·have t:o≠[]:=by rintro rfl;simp at hne
     obtain⟨a,rfl,hsp,hst,hc⟩:=hA t;have hkk:kk=k:=by obtain⟨r,L⟩:=List.exists_mem_of_ne_nil o t;rw[<-Q r L,l r L]
     subst hkk;refine⟨a,rfl,λj u p=>?_⟩;have D:j<o.length*kk:=by have:=(du.1 p).1;simpa using this
     have C:0<kk:=IQ (by rintro rfl;simp at D);rw[eC,vl D]at p;simp only[dP,cS]at p;have:=hc (j/kk) (j%kk) (Nat.div_lt_of_lt_mul (by rw[E2];exact D)) (Nat.mod_lt _ C);rw[Nat.div_add_mod']at this;rw[this,p]
  ·cases g
 ·rename_i s k' E len;split at g
  ·rename_i cs0 I;split at g
   ·rename_i K;obtain⟨rfl,hle⟩:=K;injection g with g;injection g with h1 P;subst h1;subst P
    rcases L with⟨b,z,cells,ty,hg,rfl,_,_,X,_⟩|⟨hg,rfl,rfl,rfl⟩|⟨b,off',hg,rfl,rfl⟩
    ·rcases hm.gR s cs0 I with⟨b',t',vs,sp,f,q,hc'⟩|⟨f,_⟩|⟨b',en,clk,f,q,_⟩
     rotate_left 2
     ·rw[hg]at f;injection f with f;injection f with f;subst f
      rw[X]at q;cases q
     ·rw[hg]at f;injection f with f;injection f with f;subst f
      have hl:=hc'.1;refine⟨some ⟨b,E,none⟩,z,(vs.drop E).take (len*k'),rfl,(hc'.drop E).take _,by simp;omega,λ_=>⟨_,rfl,λj u p=>?_⟩⟩;rw[uH,y4 q];apply Gp;rw[sO]at p;split at p
      ·rwa [nD]at p
      ·cases p
     ·rw[hg]at f;injection f with f;cases f
    ·exact⟨none,0,[],rfl,by simpa using bW.nil,ai,λh=>absurd rfl h⟩
    ·exact⟨_,0,[],rfl,by simpa using bW.nil,ai,λh=>absurd rfl h⟩
   ·cases g
  ·cases g
 ·injection g with g;injection g with h1 P;subst h1;subst P
  cases L;exact⟨none,0,[],rfl,bW.nil,ai,λh=>absurd rfl h⟩
 ·cases g
def Gc{w':World}(b:o.op=.call { callee:=.builtin .append,args:=#[x,y],argTypes:=#[t,t]})
 (h:(Builtin.append_ #[t,t] o.type #[a.eval x,a.eval y]).run P w=.ok v w'):(execOp a.eval o).run P w=.ok (.value v) w':=by
 simp[execOp,b,resolve,invoke,builtin,h]
theorem fc.append{P:ax}{n:Nat}{aU:ap}{o:Oper}{σ:St}(x y:aw)(t:TypeId)(ho:o.op=.call { callee:=.builtin .append,args:=#[x,y],argTypes:=#[t,t]})
 (d s k len:Nat)(hdst:o.dst=some d)(X news:List V)(m:Nat)(hx:σ.ev x=.e (.c (.sub s k 0 len)))(I:σ.heap s=some X)(hcs:X.length=len*k)(hy:mN k σ.heap (σ.ev y)=some (news,m))
 (e:TypeId)(bytes:Nat)(zs:List V)(ht:jA P t=some e)(hk:fg P e=some k)(hb:oQ P e=some bytes)(hz:jQ P e=some zs)(hzk:zs.length=k)
 (hcn:∀v∈X,¬v.bx s)(hnn:∀v∈news,¬v.bx s)(hfit:(len+m)*bytes<=140737488355328)(hmax:len+m<=140737488355328)(hst:¬aU s)(hd:d<n):
 fc P n aU o σ ⟨gV (λi=>(σ.aV i).cu s) d (.e (.c (.sub s k 0 (len+m)))),cZ (λu=>(σ.heap u).map (List.map (V.cu s))) s (some (X++news))⟩:=by
 intro C hn hstay a w ⟨γ,R⟩ K Q hK;have h1:=R.ev x;rw[hx]at h1;obtain⟨B,c,us,hvy,r,hul,hsrc⟩:=MK R.mem hy (R.ev y);have N:len+m<=maxLen:=by simp only[maxLen];omega
 have hdd:jv C.nt o.dst:=by rw[hdst,hn];intro j hj;injection hj with hj;omega
 have g:=R.cu s;have hkk:(∀i,¬((σ.cu s).aV i).bx s)/\∀u X,u≠s->(σ.cu s).heap u=some X->∀v∈X,¬v.bx s:=by refine⟨λi=>T.tj _ s,λu X _ hu v hv=>?_⟩;simp only[St.cu,gN]at hu;obtain⟨cs0,_,rfl⟩:=hu;simp only[b_]at hv;obtain⟨v0,_,rfl⟩:=hv;exact v0.tj s
 have hcns:∀v∈X++news,¬v.bx s:=by
  intro v hv;rcases cq.1 hv with h|h
  ·exact hcn v h
  ·exact hnn v h
 have k_:∀(γ':G)(v':Value)(w':World),dD C γ' ⟨(σ.cu s).aV,cZ (σ.cu s).heap s (some (X++news))⟩ a w'->cr w' C.M γ' (.e (.c (.sub s k 0 (len+m)))) v'->K (a.put o.dst v') w':=by intro γ' v' w' R' hr;refine hK _ _ ⟨γ',?_⟩;have:=R'.Br o.dst hdd v' _ hr;rw[hdst]at this⊢;exact this
 have p:∀(vs:au)(f:Nat)(rest:au),bW w C.M γ X vs->len+m<=f->f<=maxLen->f*k<=((vs++us)++rest).length->
  K (a.put o.dst (.slice (some ⟨w.heap.size,0,none⟩) (len+m) f)) (w.drew.alloc (.cells ((vs++us)++rest).toArray e)):=by
  intro vs f rest hc h1 h2 h3;have R':=g.adH (s:=s) (t:=e) (spare:=rest) w.drew (.inr rfl) (hc.append r) hcns (by rw[hstay];exact hst) hkk;refine k_ _ _ _ R' (.inl ⟨w.heap.size,f,((vs++us)++rest).toArray,e,by simp[dZ],rfl,h1,h2,?_,by simpa using h3⟩);exact ou w.drew _
 rcases h1 with⟨b,cap,cells,ty,hg,hvx,hlc,hcm,U,L⟩|⟨hg,_,h0,hvx⟩|⟨b,off',hg,h0,hvx⟩
 ·obtain⟨t0,vs,spare,H,E⟩:=R.Jk I hg U;rw[H]at U;injection U with U;injection U with U _;subst U
  have hl0:=E.1
  obtain⟨v',w',z,D⟩:=Fg (P:=P) (w:=w) o.type ht hk hb hz hzk (A:=some ⟨b,0,none⟩) (len:=len) (cap:=cap) (vs:=vs) (spare:=spare) (B:=B) (m:=m) (c:=c) (us:=us)
   (.inl ⟨b,t0,rfl,H,by simpa using L⟩) hlc hcm O hul hsrc r.xP hfit N
  refine mn (v:=v') (w':=w') (Gc ho (by rw[hvx,hvy];exact z)) ?_;rcases D with⟨rfl,hle,⟨rfl,hw0⟩|⟨b1,t1,hA,hb1,hsl,rfl⟩⟩|⟨f,rest,rfl,h1,h2,h3,rfl⟩
  ·have l:us=[]:=fR (an hul);have M:news=[]:=fR (by rw[r.1,l];rfl);subst l;subst M;rw[hw0];refine k_ γ _ _ ?_ (.inl ⟨b,cap,_,t0,hg,ai,by simpa using hlc,hcm,H,L⟩);have:=g.zI (s:=s) (cs':=X++[]) (vs':=vs) (spare:=spare) hg H ai (an E) (by simp[St.cu,I]);rwa [setRow_self w b _ t0 _ H]at this
  ·injection hA with hA;injection hA with hA;subst hA
   refine k_ γ _ _ (g.zI (s:=s) (cs':=X++news) (vs':=vs++us) (spare:=spare.drop us.length) hg H (by simp;omega) (E.append r) (by simp[St.cu,I])) ?_;refine .inl ⟨b,cap,_,t0,hg,rfl,hle,hcm,setRow_heap w b _ _ t0 _ H,?_⟩;simp at L⊢;omega
  ·exact p vs f rest E h1 h2 h3
 ·subst h0;rcases R.mem.gR s X I with⟨b',t',vs,sp,q,hb',hc'⟩|⟨_,E⟩|⟨b',en,clk,q,hb',hc'⟩
  rotate_left 2
  ·rw[hg]at q;injection q with q;cases q
  ·rw[hg]at q;injection q with q;cases q
  ·subst E
   obtain⟨v',w',z,D⟩:=Fg (P:=P) (w:=w) o.type ht hk hb hz hzk (A:=none) (len:=0) (cap:=0) (vs:=[]) (spare:=[]) (B:=B) (m:=m) (c:=c) (us:=us)
    (.inr ⟨rfl,rfl⟩) (bK _) (dz _) ai hul hsrc r.xP hfit N
   refine mn (v:=v') (w':=w') (Gc ho (by rw[hvx,hvy];exact z)) ?_;rcases D with⟨rfl,hle,⟨rfl,hw0⟩|⟨b1,t1,hA,_⟩⟩|⟨f,rest,rfl,h1,h2,h3,rfl⟩
   ·have l:us=[]:=fR (an hul);have M:news=[]:=fR (by rw[r.1,l];rfl);subst l;subst M;rw[hw0];refine k_ γ _ _ ?_ (.inr (.inl ⟨hg,rfl,rfl,rfl⟩));have hup:cZ (σ.cu s).heap s (some ([]++[]))=(σ.cu s).heap:=by
     funext u;simp only[cZ];split
     ·rename_i e;subst e;simp[St.cu,I]
     ·rfl
    rw[hup];exact g
   ·cases hA
   ·exact p [] f rest bW.nil h1 h2 h3
 ·subst h0;have hcs0:X=[]:=fR (an hcs);subst hcs0;obtain⟨t0,vs,spare,H,E⟩:=R.gR I hg rfl;have hvs0:vs=[]:=fR (by have:=E.1;simpa using this.symm);subst hvs0
  obtain⟨v',w',z,D⟩:=Fg (P:=P) (w:=w) o.type ht hk hb hz hzk (A:=some ⟨b,off',none⟩) (len:=0) (cap:=0) (vs:=[]) (spare:=[]) (B:=B) (m:=m) (c:=c) (us:=us)
   (.inr ⟨rfl,rfl⟩) (bK _) (dz _) ai hul hsrc r.xP hfit N
  refine mn (v:=v') (w':=w') (Gc ho (by rw[hvx,hvy];exact z)) ?_;rcases D with⟨rfl,hle,⟨rfl,hw0⟩|⟨b1,t1,hA,hb1,hsl,rfl⟩⟩|⟨f,rest,rfl,h1,h2,h3,rfl⟩
  ·have l:us=[]:=fR (an hul);have M:news=[]:=fR (by rw[r.1,l];rfl);subst l;subst M;rw[hw0];refine k_ γ _ _ ?_ (.inr (.inr ⟨b,off',hg,rfl,rfl⟩));have hup:cZ (σ.cu s).heap s (some ([]++[]))=(σ.cu s).heap:=by
    funext u;simp only[cZ];split
    ·rename_i e;subst e;simp[St.cu,I]
    ·rfl
   rw[hup];exact g
  ·have l:us=[]:=fR (an hsl);have hm0:m=0:=O;subst hm0;have M:news=[]:=fR (by rw[r.1,l];rfl);subst l;subst M;injection hA with hA;injection hA with hA _;subst hA
   refine k_ γ _ _ ?_ (.inr (.inr ⟨b,off',hg,rfl,rfl⟩));simp at hb1;have:=g.zI (s:=s) (cs':=[]++[]) (vs':=[]++[]) (spare:=([]:au).drop 0) hg hb1 ai (an bW.nil) (by simp[St.cu,I]);simpa using this
  ·exact p [] f rest bW.nil h1 h2 h3
def gv(P:ax)(f:FuncId):Prop:=∀(args:Array Value)(w:World),(callFunc f args).run P w=.ok (.enter f args) w
def gY{P:ax}{f:FuncId}{b:Func}(d:P.funcs[f]?=some b)(a:(b.name== "runtime.NumGoroutine")=false)(e:b.body=some c):gv P f:=by intro args w;have g:b.name≠ "runtime.NumGoroutine" :=an a;simp[callFunc,d,g,e,mark]
def uM:fF:=λ_=>none
def iJ:G:=λ_=>none
def I2(M:ap)(c:G)(w:World)(f:fF)(aU:ap)(r:T)(e:Ending)(d:World):Prop:=
 ∃v a,e=.returned v/\Mem M a f d/\cr d M a r v/\fY (λb=>∃s,c s=some (some b)) w d/\
  (∀s b,a s=some (some b)->(∃t,c t=some (some b))\/w.heap.size<=b)/\∀s,aU s->a s=c s
def dA(P:ax)(f:FuncId)(H:fF)(args:List E)(c:fF)(aU:ap)(r:T):Prop:=
 gv P f/\∀(M:ap)(b:G)(w:World)(a:au),Mem M b H w->kS w M b args a->Calls P f a.toArray w (I2 M b w c aU r)
def lW(P:ax)(f:FuncId)(args:List E)(r:T):Prop:=dA P f uM args uM (λ_=>False) r
def uP(M:ap)(a:G):Nat->Prop:=λb=>M b\/∃s,a s=some (some b)
def Bx{b:Nat}:dc w (uP M U) iJ b↔dc w M U b:=by
 constructor
 ·rintro⟨c,a,_⟩;exact⟨c,λh=>a (.inl h),λs h=>a (.inr ⟨s,h⟩)⟩
 ·rintro⟨c,a,d⟩;refine⟨c,?_,λs h=>by cases h⟩;rintro(h|⟨s,h⟩)
  ·exact a h
  ·exact d s h
def dQ.Eb{x:V}(h:dQ w M U x v)(g:∀s,¬x.bx s):dQ w (uP M U) iJ x v:=by
 cases x with
 |d x=>exact dN.mono h (λb l=>Bx.2 l) (λ_ _=>rfl)
 |ptr s m=>exact(g s rfl).elim
 |sub s k m t=>exact(g s rfl).elim
 |gU H=>obtain⟨a,e,o,q,y⟩:=h;refine⟨a,e,o,Bx.2 q,λj x z=>?_⟩;obtain⟨u,A,B⟩:=y j x z;exact⟨u,A,B.mono (λb l=>Bx.2 l) (λ_ _=>rfl)⟩
 |db f r=>obtain⟨C,e,D,K⟩:=h;refine⟨C,e,D,λi p c E _=>(g p.1 ⟨p,bM E,rfl⟩).elim⟩
 |mp s=>exact(g s rfl).elim
 |ty s _ _=>exact(g s rfl).elim
 |eY L=>cases h
 |any=>exact h
def dQ.xN{x:V}(h:dQ w (uP M U) iJ x v):dQ w M U x v:=by
 have g:∀s,¬x.bx s:=λs I=>h.named s I rfl
 cases x with
 |d x=>exact dN.mono h (λb l=>Bx.1 l) (λ_ _=>rfl)
 |ptr s m=>exact(g s rfl).elim
 |sub s k m t=>exact(g s rfl).elim
 |gU H=>obtain⟨a,e,o,q,y⟩:=h;refine⟨a,e,o,Bx.1 q,λj x z=>?_⟩;obtain⟨u,A,B⟩:=y j x z;exact⟨u,A,B.mono (λb l=>Bx.1 l) (λ_ _=>rfl)⟩
 |db f r=>obtain⟨C,e,D,K⟩:=h;refine⟨C,e,D,λi p c E _=>(g p.1 ⟨p,bM E,rfl⟩).elim⟩
 |mp s=>exact(g s rfl).elim
 |ty s _ _=>exact(g s rfl).elim
 |eY L=>cases h
 |any=>exact h
theorem bW.Eb{w:World}{M:ap}{b:G}{a:List V}{vs:au}(h:bW w M b a vs)(e:∀s,¬ ∃x∈a,x.bx s):bW w (uP M b) iJ a vs:=
 ⟨h.1,λi x u c d=>(h.2 i x u c d).Eb λs I=>e s ⟨x,bM c,I⟩⟩
theorem bW.xN{w:World}{M:ap}{a:G}{b:List V}{vs:au}(h:bW w (uP M a) iJ b vs):bW w M a b vs:=
 ⟨h.1,λi x u c d=>(h.2 i x u c d).xN⟩
theorem eK.Eb{w:World}{M:ap}{a:G}{x:E}{v:Value}(h:eK w M a x v)(b:∀s,¬x.bx s):eK w (uP M a) iJ x v:=by
 cases x with
 |c x=>exact dQ.Eb h b
 |agg g=>obtain⟨d,e,f⟩:=h;exact⟨d,e,f.Eb b⟩
theorem eK.xN{w:World}{M:ap}{a:G}{x:E}{v:Value}(h:eK w (uP M a) iJ x v):eK w M a x v:=by
 cases x with
 |c x=>exact dQ.xN h
 |agg f=>obtain⟨b,e,d⟩:=h;exact⟨b,e,d.xN⟩
theorem cr.xN{w:World}{M:ap}{a:G}{x:T}{v:Value}(h:cr w (uP M a) iJ x v):cr w M a x v:=by
 cases x with
 |e x=>exact eK.xN h
 |cE j=>obtain⟨b,e,f,g⟩:=h;exact⟨b,e,f,λi x u c d=>(g i x u c d).xN⟩
 |any=>trivial
def D.cB:D->D
 |.sc (.slice none 0 0)=>.sl []
 |x=>x
def V.cB:V->V
 |.d x=>.d x.cB
 |v=>v
def E.cB:E->E
 |.c v=>.c v.cB
 |.agg a=>.agg (a.map V.cB)
def T.cB:T->T
 |.e x=>.e x.cB
 |.cE a=>.cE (a.map E.cB)
 |.any=>.any
theorem dN.cB{w:World}{X:ap}{x:D}{v:Value}(h:dN w X x v):dN w X x.cB v:=by
 unfold D.cB;split
 ·cases h;exact .sl [] 0 0 none (λ_ _=>undef) (bK _) (by simp only[maxLen];omega) (λr b=>by simp at b) (λh=>absurd rfl h) (λi j x a=>by simp at a)
 ·exact h
theorem dQ.cB{w:World}{M:ap}{a:G}{x:V}{v:Value}(h:dQ w M a x v):dQ w M a x.cB v:=by cases x<;>first|exact dN.cB h|exact h
theorem bW.cB{w:World}{M:ap}{d:G}{b:List V}{vs:au}(h:bW w M d b vs):bW w M d (b.map V.cB) vs:=by
 refine⟨by simp[h.1],λi x u a e=>?_⟩;simp only[eC]at a;cases c:b[i]? with
 |none=>simp[c]at a
 |some y=>simp[c]at a;subst a;exact(h.2 i y u c e).cB
theorem eK.cB{w:World}{M:ap}{a:G}{x:E}{v:Value}(h:eK w M a x v):eK w M a x.cB v:=by
 cases x with
 |c x=>exact dQ.cB h
 |agg f=>obtain⟨b,e,d⟩:=h;exact⟨b,e,d.cB⟩
theorem cr.cB{w:World}{M:ap}{c:G}{x:T}{v:Value}(h:cr w M c x v):cr w M c x.cB v:=by
 cases x with
 |e x=>exact eK.cB h
 |cE d=>
  obtain⟨f,e,j,k⟩:=h;refine⟨f,e,by simpa using j,λi x u a g=>?_⟩;simp only[eC]at a;cases b:d[i]? with
  |none=>simp[b]at a
  |some y=>simp[b]at a;subst a;exact(k i y u b g).cB
 |any=>trivial
def aCB(h:Mem M U H w):Mem (uP M U) iJ uM w:=
 ⟨λb a=>a.elim (h.iF b) (λ⟨_,I⟩=>h.lt I),(λs t b c=>by cases c),(λs b c=>by cases c),(λ_ _=>rfl),(λs d I=>by cases I),h.jO.to (λb a=>Bx.2 a) (λ_ _=>rfl)⟩
def an7{f:Operand->T}{args:List E}(b:List Operand)(h:∀x∈b,cr w M U (f x) (a.eval x))(g:(b.map λx=>(f x).cB)=args.map .e):
 kS w M U args (b.map a.eval):=by
 have m:b.length=args.length:=by have:=bi List.length g;simpa using this
 refine⟨by simp[m],λi x u o c=>?_⟩;simp only[eC]at c;cases d:b[i]? with
 |none=>simp[d]at c
 |some y=>simp[d]at c;subst c;have j:=(h y (bM d)).cB;have k:=bi (λl=>l[i]?) g;simp only[eC,d,o,dP,cS]at k;rw[k]at j;exact j
def aEZ{P:ax}{A:Operand->T}(f:FuncId)(k:Array Operand)(D:Array TypeId)(B:o.op=.call { callee:=.value (.func f),args:=k,argTypes:=D})
 (args:List E)(r:T)(I:lW P f args r)(q:(k.toList.map λx=>(A x).cB)=args.map .e)(G:∀x∈args,∀s,¬x.bx s):iq P o A r:=by
 intro M C H w a L h K Q hK;obtain⟨l,N⟩:=I;have c:=an7 (a:=a) k.toList (λx m=>h x (by rw[B];simp only[Op.operands,Call.operands];simp at m⊢;exact .inr m)) q;have d:kS w (uP M C) iJ args (k.toList.map a.eval):=⟨c.1,λi x u m R=>(c.2 i x u m R).Eb (G x (bM m))⟩;have g:=N (uP M C) iJ w _ (aCB L) d;unfold Oper.wp;have p:(execOp a.eval o).run P w=.ok (.enter f (k.toList.map a.eval).toArray) w:=by simp only[execOp,B,resolve,Act.eval,Deferred.ofValue,Sem.run_bind,Sem.run_pure,Result.andThen_ok,invoke];rw[l];congr 2;apply mQ;simp
 rw[p];refine g.mono λe U q=>?_
 obtain⟨v,t,rfl,y,V,j,_,_⟩:=q;have z:t=iJ:=funext λs=>y.ic s rfl
 subst z;refine hK v U ?_ V.xN;exact⟨j.os,j.tape,j.output,j.drawn,j.size,λb X _=>j.same b X (λ⟨s,I⟩=>by cases I),j.jb⟩
structure nF where
 f_:St->Prop
 ext:Nat->St->Prop
 ret:St->Prop
def nF.at(Q:nF):Exit->St->Prop
 |.normal,σ=>Q.f_ σ
 |.exit i,σ=>Q.ext i σ
 |.ret,σ=>Q.ret σ
 |_,_=>False
def WP(P:ax)(n:Nat)(aU:ap)(c:Code)(σ:St)(Q:nF):Prop:=
 ∀C:ef,C.nt=n->C.aU=aU->∀a w,gO C σ a w->c.wp P (λe f d=>∃b,gO C b f d/\Q.at e b) a w
def gA(P:ax)(n:Nat)(aU:ap)(c:av)(l:List Oper)(σ:St)(K:St->Prop):Prop:=
 ∀C:ef,C.nt=n->C.aU=aU->∀a w,gO C σ a w->∀Q:Exit->Act->World->Prop,(∀e d b,gO C b e d->K b->Q .normal e d)->wpList P c Q l a w
section
variable {P:ax}{n:Nat}{aU:Nat→Prop}{σ:St}{Q:nF}
theorem WP.skip(h:Q.f_ σ):WP P n aU .skip σ Q:=λ_ _ _ _ _ R=>wp_skip ⟨σ,R,h⟩
theorem WP.ret(h:Q.ret σ):WP P n aU .ret σ Q:=λ_ _ _ _ _ R=>wp_ret ⟨σ,R,h⟩
theorem WP.exit{i:Nat}(h:Q.ext i σ):WP P n aU (.exit i) σ Q:=λ_ _ _ _ _ R=>wp_exit ⟨σ,R,h⟩
theorem WP.seq{j g:Code}(h:WP P n aU j σ ⟨λb=>WP P n aU g b Q,Q.ext,Q.ret⟩):WP P n aU (.seq j g) σ Q:=by
 intro C f I a w R;refine wp_seq (wp_mono (h C f I a w R) λe m k ⟨b,d,c⟩=>?_);cases e with
 |normal=>exact c C f I m k d
 |exit i=>exact⟨b,d,c⟩
 |ret=>exact⟨b,d,c⟩
 |goto l=>cases c
 |panic o=>cases c
 |outgrown=>cases c
theorem WP.block{c:Code}{i:Nat}(h:WP P n aU c σ ⟨Q.f_,λj b=>if j=i then Q.f_ b else Q.ext j b,Q.ret⟩):WP P n aU (.block i c) σ Q:=by
 intro C g I a w R;refine wp_block (wp_mono (h C g I a w R) λe o k ⟨b,f,d⟩=>?_);cases e with
 |normal=>exact⟨b,f,d⟩
 |exit j=>
  simp only[nF.at]at d;simp only[Exit.inBlock];split at d
  ·rename_i e;rw[aM e];exact⟨b,f,d⟩
  ·rename_i e;rw[Z e];exact⟨b,f,d⟩
 |ret=>exact⟨b,f,d⟩
 |goto l=>cases d
 |panic m=>cases d
 |outgrown=>cases d
theorem WP.cond{c:aw}{x y:Code}(t:Bool)(j:σ.ev c=.e (.c (.d (.sc (.bool t)))))(l:t=true->WP P n aU x σ Q)(k:t=false->WP P n aU y σ Q):WP P n aU (.cond c x y) σ Q:=by intro C i I a w R;obtain⟨g,f⟩:=R;have h:=f.ev c;rw[j]at h;exact wp_cond_split (iw h) (λb=>l b C i I a w ⟨g,f⟩) (λb=>k b C i I a w ⟨g,f⟩)
def d_(n:Nat)(aU:ap)(σ b:St):=∀C:ef,C.nt=n->C.aU=aU->∀a w,gO C σ a w->gO C b a w
def WP.u9{b:St}(e:d_ n aU σ b)(h:WP P n aU c b Q):WP P n aU c σ Q:=λC d I a w R=>h C d I a w (e C d I a w R)
def WP.mono{Q':nF}(h:WP P n aU c σ Q)(f:∀σ,Q.f_ σ->Q'.f_ σ)(g:∀i σ,Q.ext i σ->Q'.ext i σ)(j:∀σ,Q.ret σ->Q'.ret σ):WP P n aU c σ Q':=
 λC k I a w R=>wp_mono (h C k I a w R) λe m o ⟨d,l,b⟩=>⟨d,l,by cases e<;>first|exact f _ b|exact g _ _ b|exact j _ b|exact b⟩
theorem WP.loop{c:Code}{X:Type}(V:X->St)(G:X->Prop)(v:X->Nat)(A:X)(U:d_ n aU σ (V A))(g0:G A)
 (round:∀x,G x->WP P n aU c (V x) ⟨λp=>∃y,d_ n aU p (V y)/\G y/\v y<v x,Q.ext,Q.ret⟩):WP P n aU (.loop c) σ Q:=by
 intro C E I a w R b k L
 have B:∀m (x:X),v x=m->G x->∀a w,gO C (V x) a w->
  ∃e z w',(∃p,gO C p z w'/\Q.at e p)/\Arrives P (lone (b.at a (.code c::.inLoop c::k)) L w) b k L e z w':=by
  intro m
  induction m using Nat.strongRecOn with
  |_ m M=>
   intro x N T a w R;obtain⟨e,g,f,⟨h,o,q⟩,d⟩:=round x T C E I a w R b (.inLoop c::k) L;cases e with
   |normal=>obtain⟨y,D,K,H⟩:=q;obtain⟨t,u,s,r,j⟩:=M (v y) (N▸H) y rfl K g f (D C E I g f o);exact⟨t,u,s,r,.of_steps (Steps.trans d (.one step_inLoop)) j⟩
   |exit i=>exact⟨.exit i,g,f,⟨h,o,q⟩,.pass (x:=.inLoop c) rfl (λ_ _=>.inl ai) d⟩
   |ret=>exact⟨.ret,g,f,⟨h,o,q⟩,.pass (x:=.inLoop c) rfl (λ_ _=>.inl ai) d⟩
   |goto l=>cases q
   |panic ch=>cases q
   |outgrown=>cases q
 obtain⟨e,z,w',q,d⟩:=B _ A rfl g0 a w (U C E I a w R);exact⟨e,z,w',q,.of_steps (.one step_loop) d⟩
end
section
variable {P:ax}{n:Nat}{aU:Nat→Prop}{ops:av}{rest:List Oper}{o:Oper}{σ σ':St}{K:St→Prop}
def gA.nil(h:K σ):gA P n aU ops [] σ K:=λ_ _ _ a w R _ b=>b a w σ R h
def gA.step(g:o.guard=none)(I:fc P n aU o σ σ')(h:gA P n aU ops rest σ' K):gA P n aU ops (o::rest) σ K:=
 λC d b a w R Q f=>wpList_plain g λk c=>I C d b a w R k Q λi e j=>c _ _ (h C d b i e j Q f)
def U1(R:gO C σ a w)(g:(ops[j]?).bind (·.dst)=some i)(k:σ.aV i=.e (.c (.d (.sc (.bool b))))):yielded ops a.tmps j=some b:=by
 obtain⟨l,R⟩:=R;have h:=R.aV i;rw[k]at h;have h:=iw h;unfold yielded;rw[g];simp only[Cb];cases f:a.tmps[i]? with
 |none=>simp[M9,f,undef]at h
 |some v=>simp[M9,f]at h;rw[h]
def gA.yes(l:o.guard=some (j,b))(m:(ops[j]?).bind (·.dst)=some i)(p:σ.aV i=.e (.c (.d (.sc (.bool b)))))
 (I:fc P n aU o σ σ')(h:gA P n aU ops rest σ' K):gA P n aU ops (o::rest) σ K:=
 λC k f a w R Q q=>wpList_step λr g=>by rw[aM (by simp[Region.wanted,l,U1 R m p])];exact I C k f a w R r Q λs u v=>g _ _ (h C k f s u v Q q)
def gA.u9(c:d_ n aU σ σ')(h:gA P n aU ops Q σ' K):gA P n aU ops Q σ K:=λC b I a w R=>h C b I a w (c C b I a w R)
theorem WP.region{id:Nat}{l:List Oper}{Q:nF}(h:gA P n aU l.toArray l σ Q.f_):WP P n aU (.region id l.toArray false) σ Q:=
 λC b I a w R=>wp_region_lit (h C b I a w R _ λ_ _ σ' d c=>⟨σ',d,c⟩)
end
def qT(x y:T):=∀(w:World)(M:ap)(a:G)(v:Value),cr w M a x v->cr w M a y v
def lU(c b:List V):=(∀(w:World)(M:ap)(a:G)(d:au),bW w M a c d->bW w M a b d)/\∀e,c=[.eY e]->b=[.eY e]
def qT.refl(x:T):qT x x:=λ_ _ _ _ h=>h
def lU.refl(x:List V):lU x x:=⟨λ_ _ _ _ h=>h,λ_ h=>h⟩
theorem lU.cB(x:List V):lU x (x.map V.cB):=⟨λ_ _ _ _ h=>h.cB,λa h=>by subst h;rfl⟩
def mk:List (Nat×T)->Nat->T
 |[],_=>.any
 |(j,t)::r,i=>if i=j then t else mk r i
def bX:List (Nat×List V)->fF
 |[],_=>none
 |(j,t)::r,i=>if i=j then some t else bX r i
theorem adD:∀(l:List (Nat×T)) (i:Nat),mk l i=.any\/(i,mk l i)∈l
 |[],_=>.inl rfl
 |(j,t)::r,i=>by
  simp only[mk];split
  ·rename_i e;subst e;exact .inr ai
  ·rcases adD r i with h|h
   ·exact .inl h
   ·exact .inr (cv _ h)
def d_.refl(n:Nat)(aU:ap)(σ:St):d_ n aU σ σ:=λ_ _ _ _ _ h=>h
def d_.trans{n:Nat}{aU:ap}{a b c:St}(h:d_ n aU a b)(k:d_ n aU b c):d_ n aU a c:=λC d I x w R=>k C d I x w (h C d I x w R)
def aW(k a b:Nat)(c:List D):List (List D):=(List.range b).map λi=>(c.drop (a+i*k)).take k
def V.cA(s:Nat)(h:List D):V->V
 |.sub t k c g=>if t=s then(if c+g*k<=h.length then .d (.sl (aW k c g h))else .any)else .sub t k c g
 |.ptr t c=>if t=s then .any else .ptr t c
 |.db f e=>if e.any (λp=>p.1==s)then .any else .db f e
 |.mp t=>if t=s then .any else .mp t
 |.ty t a b=>if t=s then .any else .ty t a b
 |v=>v
def E.cA(s:Nat)(a:List D):E->E
 |.c v=>.c (v.cA s a)
 |.agg b=>.agg (b.map (V.cA s a))
def T.cA(s:Nat)(a:List D):T->T
 |.e x=>.e (x.cA s a)
 |.cE b=>.cE (b.map (E.cA s a))
 |.any=>.any
def St.cA(σ:St)(s:Nat)(a:List D):St:=⟨λi=>(σ.aV i).cA s a,λt=>if t=s then none else(σ.heap t).map (List.map (V.cA s a))⟩
def kZ(a:G)(s:Nat):G:=λt=>if t=s then none else a t
def aFY{d:List D}{a:Nat}{x:D}(b:((aW k i j d)[s]?).bind (λr=>r[a]?)=some x):s<j/\a<k/\d[i+s*k+a]?=some x:=by
 unfold aW at b;rw[eC]at b;by_cases c:s<j
 ·rw[vl c]at b;simp only[dP,Cb]at b;rw[sO]at b;split at b
  ·rename_i e;rw[nD]at b;exact⟨c,e,b⟩
  ·cases b
 ·rw[iM (an c)]at b;simp at b
theorem dQ.cA{w:World}{M:ap}{q:G}{H:fF}(hm:Mem M q H w){s:Nat}{B:List D}(I:H s=some (B.map .d)){x:V}{v:Value}(h:dQ w M q x v):dQ w M (kZ q s) (x.cA s B) v:=by
 have h1:=h.one;have X:∀u b,kZ q s u=some b->q u=some b:=by
  intro u b h;unfold kZ at h;split at h
  ·cases h
  ·exact h
 have l:lz M q (kZ q s) w w:=⟨bK _,λ_ _=>rfl,λb hb u h=>hb.2.2 u (X u _ h),λ_ cells _ h=>⟨cells,h,rfl⟩⟩;have y:∀u,u≠s->kZ q s u=q u:=λu m=>by simp[kZ,m]
 cases x with
 |d x=>exact dQ.dR (x:=.d x) l h (λ_ h=>h.elim)
 |gU ds'=>exact dQ.dR (x:=.gU ds') l h (λ_ h=>h.elim)
 |any=>exact h
 |eY es=>cases h
 |mp t=>
  by_cases e:t=s
  ·simp only[V.cA,aM e];exact h1
  ·simp only[V.cA,Z e];exact dQ.dR (x:=.mp t) l h (λu m=>y u (by cases m;exact e))
 |ty t a b=>
  by_cases e:t=s
  ·simp only[V.cA,aM e];exact h1
  ·simp only[V.cA,Z e];exact dQ.dR (x:=.ty t a b) l h (λu m=>y u (by cases m;exact e))
 |ptr t g=>
  by_cases e:t=s
  ·simp only[V.cA,aM e];exact h1
  ·simp only[V.cA,Z e];exact dQ.dR (x:=.ptr t g) l h (λu m=>y u (by cases m;exact e))
 |db f C=>
  by_cases e:C.any (λp=>p.1==s)=true
  ·simp only[V.cA,aM e];exact h1
  ·simp only[V.cA,Z e];refine dQ.dR (x:=.db f C) l h (λu m=>y u ?_);rintro rfl;obtain⟨p,hp,e2⟩:=m;apply e;simp only[rF,gQ];exact⟨p,hp,e2⟩
 |sub t k g len=>
  by_cases e:t=s
  ·subst e;simp only[V.cA,gT];by_cases hlen:g+len*k<=B.length
   ·rw[aM hlen];have N:(aW k g len B).length=len:=by simp[aW]
    rcases h with⟨b,cap,cells,ty,Q,rfl,hlc,hcm,hb,hroom⟩|⟨Q,rfl,rfl,rfl⟩|⟨b,R,Q,rfl,rfl⟩
    ·rcases hm.gR t _ I with⟨b',t',vs,sp,c,z,hc'⟩|⟨c,_⟩|⟨b',en,clk,c,z,_⟩
     rotate_left 2
     ·rw[Q]at c;injection c with c;injection c with c;subst c
      rw[hb]at z;cases z
     ·rw[Q]at c;injection c with c;injection c with c;subst c
      have L:dc w M (kZ q t) b:=by refine⟨jy z,hm.nm t b Q,λu m=>?_⟩;have h2:=X u _ m;have:=hm.inj u t b h2 Q;subst this;simp[kZ]at m
      have hdl:=hc'.1;simp only[eh]at hdl;have T:dN w (dc w M (kZ q t)) (.sl (aW k g len B)) (.slice (some ⟨b,g,none⟩) (aW k g len B).length cap):=by
       refine .sl (aW k g len B) k cap (some ⟨b,g,none⟩) (λi j=>(vs[g+i*k+j]?).getD undef) (by rw[N];exact hlc) hcm (λr A=>?_) (λ_=>?_) (λi j x E=>?_)
       ·simp only[aW,b_,oZ]at A;obtain⟨i,hi,rfl⟩:=A;have:(i+1)*k<=len*k:=jS _ hi;rw[rN]at this;simp;omega
       ·refine⟨_,rfl,rfl,L,λi j hi hj=>?_⟩;rw[N]at hi;have:(i+1)*k<=len*k:=jS _ hi;rw[rN]at this;have U:g+i*k+j<vs.length:=O;rw[uH,y4 z,<-xd];rw[cN U,ib];exact Gp (cN U)
       ·obtain⟨hi,hj,E⟩:=aFY E;obtain⟨u,m,A⟩:=hc'.Fh (x:=.d x) (i:=g+i*k+j) (by simp[E]);rw[m,ib];exact dQ.dR (x:=.d x) l A (λ_ h=>h.elim)
      rw[N]at T;exact T
     ·rw[Q]at c;injection c with c;cases c
    ·exact .sl [] 0 0 none (λ_ _=>undef) (bK _) (by simp only[maxLen];omega) (λr A=>by simp at A) (λh=>absurd rfl h) (λi j x E=>by simp at E)
    ·have:aW k g 0 B=[]:=rfl;rw[this];exact .sl [] 0 0 (some ⟨b,R,none⟩) (λ_ _=>undef) (bK _) (by simp only[maxLen];omega) (λr A=>by simp at A) (λh=>absurd rfl h) (λi j x E=>by simp at E)
   ·rw[Z hlen];exact h1
  ·simp only[V.cA,Z e];exact dQ.dR (x:=.sub t k g len) l h (λu m=>y u (by cases m;exact e))
theorem bW.cA{w:World}{M:ap}{b:G}{H:fF}(j:Mem M b H w){s:Nat}{f:List D}(I:H s=some (f.map .d)){c:List V}{vs:au}(h:bW w M b c vs):bW w M (kZ b s) (c.map (V.cA s f)) vs:=by
 refine⟨by simp[h.1],λi x u a g=>?_⟩;simp only[eC]at a;cases e:c[i]? with
 |none=>simp[e]at a
 |some y=>simp[e]at a;subst a;exact(h.2 i y u e g).cA j I
theorem eK.cA{w:World}{M:ap}{a:G}{H:fF}(b:Mem M a H w){s:Nat}{f:List D}(I:H s=some (f.map .d)){x:E}{v:Value}(h:eK w M a x v):eK w M (kZ a s) (x.cA s f) v:=by
 cases x with
 |c x=>exact dQ.cA b I h
 |agg j=>obtain⟨g,e,i⟩:=h;exact⟨g,e,i.cA b I⟩
theorem cr.cA{w:World}{M:ap}{b:G}{H:fF}(f:Mem M b H w){s:Nat}{g:List D}(I:H s=some (g.map .d)){x:T}{v:Value}(h:cr w M b x v):cr w M (kZ b s) (x.cA s g) v:=by
 cases x with
 |e x=>exact eK.cA f I h
 |cE j=>
  obtain⟨k,e,m,n⟩:=h;refine⟨k,e,by simpa using m,λi x u a l=>?_⟩;simp only[eC]at a;cases c:j[i]? with
  |none=>simp[c]at a
  |some y=>simp[c]at a;subst a;exact(n i y u c l).cA f I
 |any=>trivial
def d_.freeze{aU:ap}{σ:St}(s:Nat)(q:List D)(I:σ.heap s=some (q.map .d))(l:¬aU s):d_ n aU σ (σ.cA s q):=by
 intro C B c a w ⟨m,R⟩;have f:∀u b,kZ m s u=some b->m u=some b:=by
  intro u b h;unfold kZ at h;split at h
  ·cases h
  ·exact h
 refine⟨kZ m s,⟨R.mem.iF,λu t b x y=>R.mem.inj u t b (f u _ x) (f t _ y),λu b x=>R.mem.nm u b (f u _ x),λu h=>?_,λu E h=>?_,R.mem.jO.to (λb g=>⟨g.1,g.2.1,λu h=>g.2.2 u (f u _ h)⟩) (λ_ _=>rfl)⟩,λi=>(R.aV i).cA R.mem I,R.aN,λu b x=>R.aX u b (f u _ x),λu h=>?_,R.defers,R.size⟩
 ·simp only[St.cA]at h;unfold kZ;split at h
  ·rename_i e;rw[aM e]
  ·rename_i e;rw[Z e];exact R.mem.ic u (an h)
 ·simp only[St.cA]at h;split at h
  ·cases h
  ·rename_i e;rw[gN]at h;obtain⟨o,r,rfl⟩:=h;rcases R.mem.gR u o r with⟨b,t,v,z,j,g,k⟩|⟨j,k⟩|⟨b,A,p,j,g,k⟩
   ·exact .inl ⟨b,t,v,z,by simp[kZ,e,j],g,k.cA R.mem I⟩
   ·exact .inr (.inl ⟨by simp[kZ,e,j],by simp[k]⟩)
   ·exact .inr (.inr ⟨b,A,p,by simp[kZ,e,j],g,by simp[k,V.cA]⟩)
 ·rw[c]at h;have:=R.aU u (by rw[c];exact h);unfold kZ;rw[Z (by rintro rfl;exact l h)];exact this
def zF(P:ax)(b:St):ResultVar->Option T
 |.tmp t=>some (b.aV t)
 |.cell a t=>
  match b.aV a with
  |.e (.c (.ptr s d))=>match b.heap s with|some f=>mJ P t f d|none=>none
  |_=>none
def toE:T->Option E
 |.e x=>some x
 |_=>none
def uV(P:ax)(a:St):List ResultVar->Option (List E)
 |[]=>some []
 |r::c=>
  match(zF P a r).bind toE,uV P a c with
  |some x,some b=>some (x::b)
  |_,_=>none
def tD(P:ax)(a:List ResultVar)(b:St):Option T:=
 match a with
 |[r]=>zF P b r
 |a=>(uV P b a).map .cE
def Hg(a:Act):ResultVar->Sem Value
 |.tmp t=>pure (a.tmps.getD t undef)
 |.cell b t=>do loadVar t (<-asAddr (a.tmps.getD b undef))
def aFO(c:Func)(a:Act):results c a.tmps=(do let b<-c.results.mapM (Hg a);pure (if h:b.size=1 then b[0]else .tuple b)):=rfl
def agk{d:St}(R:dD C U d a w){r:ResultVar}{x:T}(h:zF P d r=some x):
 ∃v,(Hg a r).run P w=.ok v w/\cr w C.M U x v:=by
 cases r with
 |tmp t=>
  simp only[zF]at h;injection h with h;subst h
  exact⟨_,rfl,R.aV t⟩
 |cell b t=>
  simp only[zF]at h;split at h
  ·rename_i s g i;split at h
   ·rename_i k I;have c:=R.aV b;rw[i]at c;obtain⟨u,e,j⟩:=R.mem.load I h c;refine⟨u,?_,j⟩;obtain⟨l,_,f⟩:=c;rw[f]at e;simp only[Hg,f];simpa[Instr.loadAt,Instr.sureAddr,asAddr]using e
   ·cases h
  ·cases h
theorem agi{P:ax}{C:ef}{q:G}{p:St}{a:Act}{w:World}(R:dD C q p a w):∀(g:List ResultVar)(d:List E),uV P p g=some d->
 ∃f:List Value,(g.mapM (m:=Sem) (Hg a)).run P w=.ok f w/\kS w C.M q d f
 |[],d,h=>by
  simp only[uV]at h;injection h with h;subst h
  exact⟨[],ai,rfl,λi x u l=>by simp at l⟩
 |r::g,d,h=>by
  simp only[uV]at h;split at h
  ·rename_i x s l j;injection h with h;subst h
   obtain⟨t,A,c⟩:=IV.1 l;obtain⟨v,z,B⟩:=agk R A;obtain⟨f,n,D,H⟩:=agi R g s j;have b:t=.e x:=by cases t<;>simp[toE]at c;rw[c]
   subst b;refine⟨v::f,?_,by simp[D],λi y u k o=>?_⟩
   ·rw[IA];simp only[Sem.run_bind,z,n,Result.andThen_ok,Sem.run_pure]
   ·cases i with
    |zero=>simp at k o;subst k;subst o;exact B
    |succ i=>exact H i y u (an k) (an o)
  ·cases h
def Mf{b:St}(R:dD C U b a w)(e:Func){r:T}(h:tD P e.results.toList b=some r):∃v,(results e a.tmps).run P w=.ok v w/\cr w C.M U r v:=by
 rw[aFO];generalize n:e.results=o at h;obtain⟨l⟩:=o;simp only at h;rw[List.mapM_toArray];unfold tD at h;split at h
 ·rename_i f;obtain⟨v,p,c⟩:=agk R h;refine⟨v,?_,c⟩;have:(([f]:List ResultVar).mapM (m:=Sem) (Hg a)).run P w=.ok [v] w:=by rw[IA];simp only[Sem.run_bind,p,Result.andThen_ok,List.mapM_nil,Sem.run_pure]
  simp only[Sem.run_bind,Sem.run_map,this,Result.andThen_ok,Sem.run_pure];simp
 ·rename_i g;cases d:uV P b l with
  |none=>rw[d]at h;simp at h
  |some xs=>
   rw[d]at h;simp only[dP,cS]at h;subst h;obtain⟨i,j,c⟩:=agi R l xs d;refine⟨.tuple i.toArray,?_,i,rfl,c⟩;simp only[Sem.run_bind,Sem.run_map,j,Result.andThen_ok,Sem.run_pure];have q:i.length≠1:=by
    rw[<-c.1];intro s;have:l.length=1:=by
     have t:∀(l:List ResultVar)(xs:List E),uV P b l=some xs->l.length=xs.length:=by
      intro l
      induction l with
      |nil=>intro xs h;simp only[uV]at h;injection h with h;subst h;rfl
      |cons r z u=>
       intro xs h;simp only[uV]at h;split at h
       ·rename_i x y _ k;injection h with h;subst h
        simp[u y k]
       ·cases h
     rw[t l xs d,s]
    match l,this with
    |[f],_=>exact g f rfl
   simp[q]
def zY:Nat->List E->List (Nat×T)
 |_,[]=>[]
 |k,x::a=>(k,.e x)::zY (k+1) a
def nJ(args:List E):Nat->T:=mk (zY 0 args)
theorem ajF:∀(args:List E)(k i:Nat),mk (zY k args) (k+i)=match args[i]? with|some x=>.e x|none=>.any
 |[],k,i=>by simp[zY,mk]
 |x::a,k,i=>by
  cases i with
  |zero=>simp[zY,mk]
  |succ i=>have:=ajF a (k+1) i;rw[show k+1+i=k+(i+1)by omega]at this;simp only[zY,mk];rw[Z O,this];simp
def Xs(args:List E)(i:Nat):nJ args i=match args[i]? with|some x=>.e x|none=>.any:=by have:=ajF args 0 i;rwa [ol]at this
theorem dA.intro{P:ax}{f:FuncId}{k:Func}{c:Code}(hf:P.funcs[f]?=some k)(B:k.body=some c)(K:(k.name== "runtime.NumGoroutine")=false){args:List E}{H o:fF}{aU:ap}{r:T}
 (hn:args.length<=k.ntmps)(hst:∀s,aU s->o s≠none)(hnr:∀s,r.bx s->o s≠none)(hnh:∀t m,o t=some m->∀x∈m,∀s,x.bx s->o s≠none)
 (h:WP P k.ntmps aU c ⟨nJ args,H⟩ ⟨λn=>∃A,tD P k.results.toList n=some A/\qT A r/\∀s m,o s=some m->∃d,n.heap s=some d/\lU d m,λ_ _=>False,
   λn=>∃A,tD P k.results.toList n=some A/\qT A r/\∀s m,o s=some m->∃d,n.heap s=some d/\lU d m⟩):dA P f H args o aU r:=by
 refine⟨gY hf K B,λM Q w vals hm z=>?_⟩;refine calls_of_wp hf B ?_
 let C:ef:=⟨M,λb=>∃s,Q s=some (some b),w,Q,aU,k.ntmps⟩
 have hvl:vals.length=args.length:=z.1.symm;have R0:dD C Q ⟨nJ args,H⟩ { tmps:=vals.toArray++Array.replicate (k.ntmps-vals.toArray.size) undef,defers:=[]} w:=by
  refine⟨hm,λi=>?_,fY.refl _ _,λs b I=>.inl ⟨s,I⟩,λ_ _=>rfl,rfl,?_⟩
  ·show cr w M Q (nJ args i) _;rw[Xs];cases hx:args[i]? with
   |none=>trivial
   |some x=>
    have hi:i<args.length:=(du.1 hx).1;have hv:vals[i]?=some (vals[i]' O):=cN O;have:((vals.toArray++Array.replicate (k.ntmps-vals.toArray.size) undef).getD i undef)=vals[i]' O:=by have hi2:i<vals.length:=O;simp[Array.getElem?_append,hi2]
    rw[this];exact z.2 i x _ hx hv
  ·show(vals.toArray++Array.replicate (k.ntmps-vals.toArray.size) undef).size=k.ntmps;simp;omega
 refine Code.wp_mono ?_ (h C rfl rfl _ _ ⟨Q,R0⟩)
 have k_:∀(a:Act)(w':World)(n:St),gO C n a w'->(∃A,tD P k.results.toList n=some A/\qT A r/\∀s m,o s=some m->∃d,n.heap s=some d/\lU d m)->
  a.defers=[]/\∃v,(results k a.tmps).run P w'=.ok v w'/\I2 M Q w o aU r (.returned v) w':=by
  rintro a w' n ⟨p,R⟩ ⟨A,hr',hle,hH⟩;obtain⟨v,hv,V⟩:=Mf R k hr';refine⟨R.defers,v,hv,?_⟩
  let j:G:=λs=>match o s with|none=>none|some _=>p s
  have g:∀s,o s≠none->j s=p s:=by
   intro s I;simp only[j];cases h:o s with
   |none=>exact absurd h I
   |some m=>rfl
  have q:∀s b,j s=some b->p s=some b:=by
   intro s b h;simp only[j]at h;split at h
   ·cases h
   ·exact h
  have N:lz M p j w' w':=⟨bK _,λ_ _=>rfl,λb B s h=>B.2.2 s (q s _ h),λ_ cells _ h=>⟨cells,h,rfl⟩⟩;refine⟨v,j,rfl,⟨R.mem.iF,λs t b x y=>R.mem.inj s t b (q s _ x) (q t _ y),λs b x=>R.mem.nm s b (q s _ x),λs h=>?_,λs m h=>?_,R.mem.jO.dR N⟩,?_,R.aN,λs b I=>R.aX s b (q s _ I),λs I=>?_⟩
  ·simp only[j,h]
  ·obtain⟨d,hs',L⟩:=hH s m h;have D:o s≠none:=by rw[h];simp
   rcases R.mem.gR s d hs' with⟨b,t,vs,sp,X,B,hc⟩|⟨X,hc⟩|⟨b,en,clk,X,B,hc⟩
   rotate_left 2
   ·exact .inr (.inr ⟨b,en,clk,by rw[g s D];exact X,B,L.2 _ hc⟩)
   ·exact .inl ⟨b,t,vs,sp,by rw[g s D];exact X,B,(L.1 _ _ _ _ hc).dR N λu hu=>by obtain⟨x,hx,hu⟩:=hu;exact g u (hnh s m h x hx u hu)⟩
   ·refine .inr (.inl ⟨by rw[g s D];exact X,?_⟩);subst hc;have:=(L.1 w' M p [] bW.nil).1;exact fR (an this)
  ·exact(hle _ _ _ _ V).dR N λs I=>g s (hnr s I)
  ·rw[g s (hst s I)];exact R.aU s I
 intro e a w' ⟨n,R,U⟩;cases e with
 |normal=>exact k_ a w' n R U
 |ret=>exact k_ a w' n R U
 |exit i=>cases U
 |goto l=>cases U
 |panic ch=>cases U
 |outgrown=>cases U
def Fin(P:ax)(c:List ResultVar)(r:T)(b:St):Prop:=∃a,tD P c b=some a/\a.cB=r
def HJ(P:ax)(t:TypeId):Option (List (Nat×Nat)):=
 match P.underlying t with
 |some (.struct a)=>a.toList.mapM λf=>(fg P f.type).map λn=>(f.offset,n)
 |some (.array n e)=>(fg P e).map λk=>(List.range n).map λi=>(i*k,k)
 |_=>none
theorem abc{c pl':Nat->Option (Nat×Nat)}(h:∀i p,c i=some p->pl' i=some p):∀(l:List (Nat×Value)) (cells b:Array Value),Instr.fill c cells l=some b->Instr.fill pl' cells l=some b
 |[],cells,b,a=>a
 |(i,v)::r,cells,b,a=>by
  simp only[Instr.fill]at a⊢;cases d:c i with
  |none=>rw[d]at a;cases a
  |some p=>
   rw[d]at a;rw[h i p d];simp only at a⊢;split at a
   ·cases a
   ·rename_i e;rw[Z e];exact abc h r _ b a
theorem afs{P:ax}(w:World):∀(a:List Field) (b:List (Nat×Nat)),(a.mapM λf=>(fg P f.type).map λn=>(f.offset,n))=some b->
 (a.mapM (m:=Sem) λf=>do pure (f.offset,<-sizeOf f.type)).run P w=.ok b w
 |[],b,h=>by simp at h;subst h;simp
 |f::a,b,h=>by
  rw[IA]at h;cases c:fg P f.type with
  |none=>simp[c]at h
  |some n=>
   cases d:a.mapM (λf=>(fg P f.type).map λn=>(f.offset,n))with
   |none=>simp[c,d]at h
   |some e=>simp[c,d]at h;subst h;have g:=afs w a e d;rw[IA];simp only[Sem.run_bind,nA c,Result.andThen_ok,Sem.run_pure,g]
def afg{e:Operand->T}(parts:List (Nat×Operand))(h:∀x∈parts.map (·.2),cr w M U (e x) (a.eval x)):
 ∀(i:Nat)(p:Nat×T)(q:Nat×Value),(parts.map λp=>(p.1,e p.2))[i]?=some p->(parts.map λp=>(p.1,a.eval p.2))[i]?=some q->p.1=q.1/\cr w M U p.2 q.2:=by
 intro i p q b c;simp only[eC]at b c;cases d:parts[i]? with
 |none=>simp[d]at b
 |some y=>simp[d]at b c;subst b;subst c;exact⟨rfl,h y.2 (List.mem_map_of_mem (bM d))⟩
def aEY{A:Operand->T}(t:TypeId)(parts:Array (Nat×Operand))(B:o.op=.build t parts)(g:List (Nat×Nat))(L C:List V)
 (d:HJ P t=some g)(X:jQ P t=some L)(N:vQ (λi=>g[i]?) L (parts.toList.map λp=>(p.1,A p.2))=some C):iq P o A (.e (.agg C)):=
 kv λM γ H w a _ h=>by
  obtain⟨z0,D,rfl,Q⟩:=Eg X;obtain⟨z,s,u⟩:=HM D w;unfold HJ at d;split at d
  ·rename_i R E;have v:=afs w R.toList g d
   obtain⟨y,l,c⟩:=abd (w:=w) (M:=M) (γ:=γ) (λi=>g[i]?) (parts.toList.map λp=>(p.1,A p.2)) (parts.toList.map λp=>(p.1,a.eval p.2)) _ z0 C ai
    (afg parts.toList λx G=>h x (by simpa[B,Op.operands]using G)) (HX z0 Q) N
   refine⟨.agg y.toArray,?_,y,rfl,c⟩;have q:z.cells=z0.toArray:=by rw[<-u]
   obtain⟨fl⟩:=R;simp only at v;have K:(Functor.map List.toArray (fl.mapM (m:=Sem) λf=>do pure (f.offset,<-sizeOf f.type)):Sem (Array (Nat×Nat))).run P w=.ok g.toArray w:=by rw[Sem.run_map,v];rfl
   have b:(parts.map λp=>(p.1,a.eval p.2)).toList=parts.toList.map λp=>(p.1,a.eval p.2):=ai
   simp only[execOp,B,Instr.build,Sem.run_bind,s,Result.andThen_ok,run_underlying E,List.mapM_toArray,K,q];have e1:(λx:Nat=>(g.toArray)[x]?)=λi=>g[i]? :=by funext i;simp
   rw[e1,b,l];simp
  ·rename_i n e E;rw[gN]at d;obtain⟨k,hk,rfl⟩:=d
   obtain⟨y,l,c⟩:=abd (w:=w) (M:=M) (γ:=γ) (λi=>((List.range n).map λi=>(i*k,k))[i]?) (parts.toList.map λp=>(p.1,A p.2)) (parts.toList.map λp=>(p.1,a.eval p.2)) _ z0 C ai
    (afg parts.toList λx G=>h x (by simpa[B,Op.operands]using G)) (HX z0 Q) N
   refine⟨.agg y.toArray,?_,y,rfl,c⟩;have q:z.cells=z0.toArray:=by rw[<-u]
   have b:(parts.map λp=>(p.1,a.eval p.2)).toList=parts.toList.map λp=>(p.1,a.eval p.2):=ai
   have r:=abc (pl':=λi=>some (i*k,k)) (λi p d=>by simp only[eC,gN]at d;obtain⟨j,hj,rfl⟩:=d;have:=(du.1 hj);obtain⟨hl,U⟩:=this;simp at U;rw[U]) _ _ _ l
   simp only[execOp,B,Instr.build,Sem.run_bind,s,Result.andThen_ok,run_underlying E,nA hk,q];rw[b,r];simp
  ·cases d
def HH:V->Option D
 |.d x=>some x.cB
 |_=>none
def ly:List V->Option (List D)
 |[]=>some []
 |v::b=>match HH v,ly b with|some x,some a=>some (x::a)|_,_=>none
def uG(k:Nat)(b:Operand->T):Nat->List (Nat×Operand)->Option (List (List D))
 |_,[]=>some []
 |i,(j,x)::r=>
  match b x with
  |.e e=>if j=i/\e.cells.length=k then(match ly e.cells,uG k b (i+1) r with|some a,some c=>some (a::c)|_,_=>none)else none
  |_=>none
theorem Uo:∀(a:List V)(b:List D),ly a=some b->b.length=a.length
 |[],b,h=>by simp only[ly]at h;injection h with h;subst h;rfl
 |v::a,b,h=>by
  simp only[ly]at h;split at h
  ·rename_i x c _ d;injection h with h;subst h
   simp[Uo a c d]
  ·cases h
theorem Up{w:World}{M:ap}{f:G}:∀(c:List V)(e:List D)(a:au),ly c=some e->bW w M f c a->bW w M f (e.map .d) a
 |[],e,a,h,b=>by simp only[ly]at h;injection h with h;subst h;exact b
 |v::c,e,a,h,b=>by
  simp only[ly]at h;split at h
  ·rename_i x k j g;injection h with h;subst h
   cases a with
   |nil=>have:=b.1;simp at this
   |cons u a=>have o:=Up c k a g ⟨by have:=b.1;simpa using this,λi y z m l=>b.2 (i+1) y z (an m) (an l)⟩;have n:dQ w M f v u:=b.2 0 v u rfl rfl;cases v<;>simp[HH]at j;subst j;have:=(bW.one (dQ.cB n)).append o;simpa[V.cB]using this
  ·cases h
theorem Rc{w:World}{M:ap}{γ:G}{ev:Operand->T}{a:Act}(k:Nat):∀(parts:List (Nat×Operand)) (i:Nat) (m:List (List D)) (b:au) (z:au),
 (∀x∈parts.map (·.2),cr w M γ (ev x) (a.eval x))->uG k ev i parts=some m->b.length=i*k->z.length=parts.length*k->
 (∀r∈m,r.length=k)/\m.length=parts.length/\∃q:List Value,q.length=m.length*k/\Instr.fill (λi=>some (i*k,k)) (b++z).toArray (parts.map λp=>(p.1,a.eval p.2))=some (b++q).toArray/\bW w M γ (m.flatten.map .d) q
 |[],i,m,b,z,_,h,R,N=>by
  simp only[uG]at h;injection h with h;subst h
  have L:z=[]:=fR (an N);subst L;exact⟨ai,rfl,[],ai,by simp[Instr.fill],bW.nil⟩
 |(j,x)::parts,i,m,b,z,X,h,R,N=>by
  simp only[uG]at h;split at h
  ·rename_i e he;split at h
   ·rename_i n;obtain⟨rfl,hk⟩:=n;split at h
    ·rename_i row u l P;injection h with h;subst h
     have h1:=X x ai;rw[he]at h1;have s:=eK.cells h1;have f:(a.eval x).cells.toList.length=k:=by rw[<-s.1,hk]
     have K:z.length=k+parts.length*k:=by simpa[rN,B8]using N
     obtain⟨H,E,q,C,B,A⟩:=Rc k parts (j+1) u (b++(a.eval x).cells.toList) (z.drop k) (λy V=>X y (by simp at V⊢;exact .inr V)) P (by simp at f;simp[R,f,rN]) (by simp[K]);refine⟨?_,by simp[E],(a.eval x).cells.toList++q,?_,?_,?_⟩
     ·intro r Q;rcases da.1 Q with rfl|Q
      ·rw[Uo _ _ l,hk]
      ·exact H r Q
     ·simp only[cX,f,C,fZ,rN];omega
     ·simp only[de,Instr.fill];have hsz:(a.eval x).cells.size=k:=an f;rw[Z (by simp;omega)];have g:=abC (a.eval x).cells.toList (j*k) 0 (b++z).toArray (by simp;omega);have t:(a.eval x).cells.zipIdx.foldl (λU (p:Value×Nat)=>U.setIfInBounds (j*k+p.2) p.1) (b++z).toArray=((b++(a.eval x).cells.toList)++z.drop k).toArray:=by
       apply mQ;rw[<-Array.toList_zipIdx,uc]at g;simp only[Array.foldl_toList]at g;have e2:(b++z).take (j*k)++(a.eval x).cells.toList++(b++z).drop (j*k+(a.eval x).cells.toList.length)=(b++(a.eval x).cells.toList)++z.drop k:=by
        rw[<-R,List.take_left',Ip,Iq O,f]
        ·simp
        ·rfl
       simp only at g e2⊢;rw[<-e2];exact g
      have o:(a.eval x).cells.zipIdx.foldl (λU x=>match x with|(c,v)=>U.setIfInBounds (j*k+v) c) (b++z).toArray=((b++(a.eval x).cells.toList)++z.drop k).toArray:=t;rw[o,B];simp
     ·simp only[EI,ia];exact(Up _ _ _ l s).append A
    ·cases h
   ·cases h
  ·cases h
def afM{ev:Operand->T}(t:TypeId)(len:Nat)(parts:Array (Nat×Operand))(ho:o.op=.buildSlice t len parts)(e:TypeId)(k:Nat)(zs:List V)(f:List (List D))
 (ht:jA P t=some e)(hk:fg P e=some k)(hz:jQ P e=some zs)(L:zs.length=k)(hl:parts.size=len)(E:len*k<=16777216)(hk0:0<k)(hl0:0<len)(hr:uG k ev 0 parts.toList=some f):iq P o ev (.e (.c (.d (.sl f)))):=by
 intro M γ H w a hm h K Q hK;obtain⟨z0,N,R,ha⟩:=Eg hz;obtain⟨z,U,X⟩:=HM N w;have n:z0.length=k:=by rw[<-L,R];simp
 have hz':z.cells=z0.toArray:=by rw[<-X]
 have q:parts.toList.length=len:=an hl;obtain⟨h1,h2,us,h3,h4,h5⟩:=Rc (w:=w) (M:=M) (γ:=γ) (ev:=ev) (a:=a) k parts.toList 0 f [] ((List.replicate len z0).flatten) (λx m=>h x (by simpa[ho,Op.operands]using m)) hr ai (by simp[q,n]);have hrl:f.length=len:=by rw[h2,q]
 have G:(parts.map λp=>(p.1,a.eval p.2)).toList=parts.toList.map λp=>(p.1,a.eval p.2):=ai
 have b:(Array.range (len*k)).map ((if len*k=0 then(#[]:Array Value)else z.cells)[· %(if len*k=0 then(#[]:Array Value)else z.cells).size]!)=((List.replicate len z0).flatten).toArray:=by
  apply mQ;rw[<-Td z0 len,n];by_cases g:len*k=0
  ·simp[g]
  ·rw[Z g,hz']
 refine mn (v:=.slice (some ⟨w.heap.size,0,none⟩) len len) (w':=w.alloc (.cells us.toArray e)) ?_ (hK _ _ (q7 _ _) ?_)
 ·have hns:¬(16777216<len*k):=by omega
  simp only[gf]at h4;have g:¬(len*k=0):=by intro g;rcases Nat.mul_eq_zero.1 g with h|h<;>omega
  rw[Z g]at b;simp[execOp,ho,Instr.buildSlice,run_underlying (tK ht),nA hk,hns,g,U,b,h4,newRow]
 ·have hblk:(w.alloc (.cells us.toArray e)).heap[w.heap.size]?=some (.cells us.toArray e (0,0)):=ou _ _;have hst:dc (w.alloc (.cells us.toArray e)) M γ w.heap.size:=by refine⟨ai,λhM=>by have:=hm.iF _ hM;omega,λs I=>by have:=hm.lt I;omega⟩
  have h5':=h5.dR (w':=w.alloc (.cells us.toArray e)) (q7 _ _).FJ λ_ _=>rfl
  have y:dN (w.alloc (.cells us.toArray e)) (dc (w.alloc (.cells us.toArray e)) M γ) (.sl f) (.slice (some ⟨w.heap.size,0,none⟩) f.length len):=by
   refine .sl f k len _ (λi j=>(us[i*k+j]?).getD undef) O (by simp only[maxLen];have:=Nat.le_mul_of_pos_right len hk0;omega) h1 (λ_=>⟨_,rfl,rfl,hst,λi j hi hj=>?_⟩) (λi j x m=>?_)
   ·have:(i+1)*k<=f.length*k:=jS _ hi;rw[rN]at this;have A:i*k+j<us.length:=O;rw[uH,y4 hblk,ol,cN A,ib];simp[A]
   ·have hj:j<k:=by
     cases l:f[i]? with
     |none=>simp[l]at m
     |some r=>simp[l]at m;have:=(du.1 m).1;rw[h1 r (bM l)]at this;exact this
    have B:=Gi k f h1 i j hj;rw[m]at B;obtain⟨u,hu,C⟩:=h5'.Fh (x:=.d x) (i:=i*k+j) (by rw[eC,B];rfl);rw[hu,ib];exact C
  rw[hrl]at y;exact y
def A8:T->Option Nat
 |.e (.c (.d (.sc (.int _ i))))=>if 0<=i then some i.toNat else none
 |_=>none
def lK(b:Operand->T)(x:Option Operand)(a:Nat):Option Nat:=match x with|none=>some a|some x=>A8 (b x)
def mM(k a b:Nat):T->Option T
 |.e (.c (.sub s i f g))=>if i=k/\a<=b/\b<=g then some (.e (.c (.sub s k (f+a*k) (b-a))))else none
 |.e (.c (.d (.sl h)))=>if a<=b/\b<=h.length/\h.all (λr=>r.length==k)then some (.e (.c (.d (.sl ((h.drop a).take (b-a))))))else none
 |.e (.c (.d (.sc (.slice none 0 0))))=>if a=0/\b=0 then some (.e (.c (.d (.sc (.slice none 0 0)))))else none
 |_=>none
def aBf{x:T}(h:A8 x=some n)(a:cr w M U x v):∃k,v=.int k n:=by
 unfold A8 at h;split at h
 ·rename_i k i;split at h
  ·injection h with h;subst h
   refine⟨k,?_⟩;rw[iw a,Int.toNat_of_nonneg Y]
  ·cases h
 ·cases h
def apu{b:Operand->T}(h:A8 (b x)=some n)(c:cr w M U (b x) (a.eval x))(d:n<=i)(code:BoundsCode):
 (Instr.sliceBound (a.eval x) i code).run P w=.ok n w:=by
 obtain⟨k,e⟩:=aBf h c;simp[Instr.sliceBound,e,asIntOf,d]
def X2{h:Operand->T}(d e f:Option Operand){m cap:Nat}(p:lK h f cap=some m)(g:lK h e k=some i)(c:lK h d 0=some n)
 (u:∀x,(d=some x\/e=some x\/f=some x)->cr w M U (h x) (a.eval x))(j:n<=i)(q:i<=m)(r:m<=cap)(s:f≠none->e≠none):
 (Instr.sliceBounds true k cap (d.map a.eval) (e.map a.eval) (f.map a.eval)).run P w=.ok (n,i,m) w:=by
 have B:∀(x:aw)(b y:Nat)(code:BoundsCode),A8 (h x)=some b->(d=some x\/e=some x\/f=some x)->b<=y->(Instr.sliceBound (a.eval x) y code).run P w=.ok b w:=
  λx b y code j q r=>apu j (u x q) r code
 cases f with
 |none=>
  simp only[lK,cS]at p;subst p;cases e with
  |none=>
   simp only[lK,cS]at g;subst g;cases d with
   |none=>simp only[lK,cS]at c;subst c;simp[Instr.sliceBounds]
   |some x=>
    simp only[lK]at c;have l:=λcode=>B x n k code c (.inl rfl) j
    simp[Instr.sliceBounds,l]
  |some z=>
   simp only[lK]at g;have o:=λcode=>B z i cap code g (.inr (.inl rfl)) q
   cases d with
   |none=>simp only[lK,cS]at c;subst c;simp[Instr.sliceBounds,o]
   |some x=>
    simp only[lK]at c;have l:=λcode=>B x n i code c (.inl rfl) j
    simp[Instr.sliceBounds,l,o]
 |some y=>
  simp only[lK]at p;have t:=λcode=>B y m cap code p (.inr (.inr rfl)) r
  cases e with
  |none=>exact absurd rfl (s ai)
  |some z=>
   simp only[lK]at g;have o:=λcode=>B z i m code g (.inr (.inl rfl)) q
   cases d with
   |none=>simp only[lK,cS]at c;subst c;simp[Instr.sliceBounds,o,t]
   |some x=>
    simp only[lK]at c;have l:=λcode=>B x n i code c (.inl rfl) j
    simp[Instr.sliceBounds,l,o,t]
def afO{P:ax}{B:Operand->T}(t:TypeId)(x:aw)(lx g C:Option Operand)(ho:o.op=.slice t x lx g C)(e:TypeId)(k n lo hi:Nat)(r:T)
 (ht:jA P t=some e)(hk:fg P e=some k)(hlen:uD (B x)=some n)(hh:lK B g n=some hi)(hl:lK B lx 0=some lo)(hmx:C=none\/(C≠none/\g≠none/\lK B C n=some hi))(f:mM k lo hi (B x)=some r):iq P o B r:=
 kv λM γ H w a _ h=>by
  have D:=h x (by simp[ho,Op.operands]);obtain⟨A,cap,l⟩:=zK hlen D;have E:∀y,(lx=some y\/g=some y\/C=some y)->cr w M γ (B y) (a.eval y):=by intro y hy;apply h;rw[ho];simp only[Op.operands];rcases hy with rfl|rfl|rfl<;>simp
  have c:∀(l1:lo<=hi)(l2:hi<=n)(l3:n<=cap),∃m,m<=cap/\hi<=m/\(execOp a.eval o).run P w=.ok (.value (.slice (if m=lo then A else A.map (·.add (lo*k))) (hi-lo) (m-lo))) w:=by
   intro l1 l2 l3;rcases hmx with rfl|⟨hne0,L,hm'⟩
   ·refine⟨cap,bK _,O,?_⟩;have hb:=X2 (P:=P) (cap:=cap) (m:=cap) lx g none rfl hh hl E l1 O (bK _) (λh=>absurd rfl h);simp only[IW]at hb;simp[execOp,ho,Instr.sliceAt,Instr.slice,run_underlying (tK ht),l,hb,nA hk]
   ·refine⟨hi,O,bK _,?_⟩;have hm:lK B C cap=some hi:=by
     cases C with
     |none=>exact absurd rfl hne0
     |some y=>exact hm'
    have hb:=X2 (P:=P) (cap:=cap) (m:=hi) lx g C hm hh hl E l1 (bK _) O (λ_=>L);simp[execOp,ho,Instr.sliceAt,Instr.slice,run_underlying (tK ht),l,hb,nA hk]
  unfold mM at f;split at f
  ·rename_i s k' off len' p;split at f
   ·rename_i N;obtain⟨rfl,c1,c2⟩:=N;injection f with f;subst f
    rw[p]at D hlen;simp only[uD,cS]at hlen;subst hlen;rcases D with⟨b,G,cells,ty,X,u,hlc,hcm,hb,hroom⟩|⟨X,rfl,rfl,u⟩|⟨b,off',X,rfl,u⟩
    ·rw[u]at l;injection l with v _ d
     subst v;subst d;obtain⟨m,m1,m2,c⟩:=c c1 c2 hlc;refine⟨_,c,?_⟩;by_cases Q:m=lo
     ·refine .inr (.inr ⟨b,off,X,O,?_⟩);rw[aM Q,Q];simp;omega
     ·refine .inl ⟨b,m-lo,cells,ty,X,?_,O,O,hb,?_⟩
      ·rw[Z Q];simp[uH]
      ·have:m*k'<=G*k':=jS _ m1;have e2:(m-lo)*k'+lo*k'=m*k':=by rw[<-iN];congr 1;omega
       omega
    ·rw[u]at l;injection l with v _ d
     subst v;subst d;obtain⟨m,m1,m2,c⟩:=c c1 c2 (bK _);have R:lo=0:=O;have V:hi=0:=O;have q:m=0:=O;subst R;subst V;subst q;exact⟨_,c,.inr (.inl ⟨X,ai,rfl,ai⟩)⟩
    ·rw[u]at l;injection l with v _ d
     subst v;subst d;obtain⟨m,m1,m2,c⟩:=c c1 c2 (bK _);have R:lo=0:=O;have V:hi=0:=O;have q:m=0:=O;subst R;subst V;subst q;exact⟨_,c,.inr (.inr ⟨b,off',X,rfl,ai⟩)⟩
   ·cases f
  ·rename_i es p;split at f
   ·rename_i N;obtain⟨c1,c2,c3⟩:=N;have c3:∀r∈es,r.length=k:=an c3;injection f with f;subst f
    rw[p]at D hlen;simp only[uD,cS]at hlen;subst hlen;generalize hva:a.eval x=va at D l;cases D with
    |sl _ kk G A' U d hmax K v hU=>
     injection l with u _ e3
     subst u;subst e3;obtain⟨m,m1,m2,c⟩:=c c1 c2 d;refine⟨_,c,?_⟩;have z:((es.drop lo).take (hi-lo)).length=hi-lo:=by simp;omega
     have key:dN w (dc w M γ) (.sl ((es.drop lo).take (hi-lo))) (.slice (if m=lo then A' else A'.map (·.add (lo*k))) ((es.drop lo).take (hi-lo)).length (m-lo)):=by
      refine .sl _ kk (m-lo) _ (λi j=>U (lo+i) j) (by rw[z];omega) O (λr f=>K r (ID (nE f))) (λL=>?_) (λi j x g=>?_)
      ·have hpos:0<hi-lo:=by
        rcases Nat.eq_zero_or_pos (hi-lo)with h0|h0
        ·exact absurd (fR (by rw[z,h0])) L
        ·exact h0
       have hes:es≠[]:=by rintro rfl;simp at c2;omega
       obtain⟨ad,rfl,hsp,hst,N⟩:=v hes;have hkk:kk=k:=by obtain⟨r,f⟩:=List.exists_mem_of_ne_nil es hes;rw[<-K r f,c3 r f]
       subst hkk;rw[Z O];refine⟨ad.add (lo*kk),rfl,T5 _ _ hsp,by rw[Cw];exact hst,λi j hi' hj=>?_⟩;rw[z]at hi';rw[I8,<-xd,<-iN];exact N (lo+i) j O hj
      ·rw[sO]at g;split at g
       ·rw[nD]at g;exact hU (lo+i) j x g
       ·simp at g
     rw[z]at key;exact key
   ·cases f
  ·rename_i p;split at f
   ·rename_i N;obtain⟨rfl,rfl⟩:=N;injection f with f;subst f
    rw[p]at D hlen;simp only[uD,cS]at hlen;subst hlen;have u:=iw D;rw[u]at l;injection l with v _ d
    subst v;subst d;obtain⟨m,m1,m2,c⟩:=c (bK _) (bK _) (bK _);have q:m=0:=O;subst q;exact⟨_,c,.sc _ rfl⟩
   ·cases f
  ·cases f
def Be(P:ax)(t:TypeId)(b:List V)(a:Nat):Option T:=mJ P t b a
def afe{e:List V}{r:T}(b:Be P t e n=some r)(g:bW w M U e R):
 ∃v,(part t R.toArray n).run P w=.ok v w/\cr w M U r v:=by
 unfold Be mJ at b;split at b
 ·rename_i c;split at b
  ·rename_i a h;split at b
   ·rename_i hlen;injection b with b;subst b
    refine⟨.agg (R.toArray.extract n (n+a)),?_,(R.drop n).take a,?_,(g.drop n).take a⟩
    ·simp[part,MR c,nA h]
    ·simp[List.extract_eq_take_drop]
   ·cases b
  ·cases b
 ·rename_i c;cases f:e[n]? with
  |none=>simp[f]at b
  |some x=>simp[f]at b;subst b;obtain⟨u,i,d⟩:=g.Fh f;refine⟨u,?_,d⟩;simp[part,MR c,i]
 ·cases b
def aE4{i:Operand->T}(t:TypeId)(x:aw)(f:Nat)(j:o.op=.field t x f)(b:Nat)(k:TypeId)(l:List V)(r:T)
 (n:wF P t f=some (b,k))(p:i x=.e (.agg l))(q:Be P k l b=some r):iq P o i r:=
 kv λM B H w a _ h=>by have m:=h x (by simp[j,Op.operands]);rw[p]at m;obtain⟨C,s,u⟩:=m;obtain⟨D,E,y,g,z,A⟩:=Ui n;obtain⟨v,c,d⟩:=afe q u;refine⟨v,?_,d⟩;simp[execOp,j,Instr.field,run_underlying y,g,s,asAgg,z,A,c]
def aE6{j:Operand->T}(t:TypeId)(x l:aw)(m:o.op=.index t x l)(b:Nat)(e:TypeId)(n:Nat)(k:IntKind)(i:Int)(p:List V)(r:T)
 (u:wD P t=some (b,e))(I:fg P e=some n)(y:j x=.e (.agg p))(z:j l=.e (.c (.d (.sc (.int k i)))))(A:0<=i)(B:i<b)(C:Be P e p (i.toNat*n)=some r):iq P o j r:=
 kv λM G H w a _ h=>by have q:=h x (by simp[m,Op.operands]);have s:=h l (by simp[m,Op.operands]);rw[y]at q;rw[z]at s;obtain⟨K,D,E⟩:=q;obtain⟨v,f,g⟩:=afe C E;refine⟨v,?_,g⟩;simp[execOp,m,Instr.index,iw s,asIntOf,run_underlying (Ug u),D,A,B,nA I,f]
def aE9{b:Operand->T}(t:TypeId)(x f:aw)(g:o.op=.index t x f)(s:az)(k:IntKind)(i:Int)
 (m:rr P t=true)(n:b x=.e (.c (.d (.sc (.string s)))))(p:b f=.e (.c (.d (.sc (.int k i)))))(q:0<=i)(c:UInt8)(r:s[i.toNat]?=some c):iq P o b (.e (.c (.d (.sc (.int .u8 c.toNat))))):=
 kv λM u H w a _ h=>by have j:=h x (by simp[g,Op.operands]);have l:=h f (by simp[g,Op.operands]);rw[n]at j;rw[p]at l;refine⟨_,?_,.sc _ rfl⟩;simp[execOp,g,Instr.index,iw j,iw l,asIntOf,run_underlying (Uz m),q,r]
def yZ(b:Operand->T):List Operand->Option (List (Nat×Nat))
 |[]=>some []
 |x::d=>match b x,yZ b d with|.e (.c (.ptr s a)),some r=>some ((s,a)::r)|_,_=>none
theorem Yj{w:World}{M:ap}{k:G}{m:Operand->T}{a:Act}:∀(d:List Operand) (b:List (Nat×Nat)),(∀x∈d,cr w M k (m x) (a.eval x))->yZ m d=some b->
 (d.map a.eval).length=b.length/\∀(i:Nat)(p:Nat×Nat)(c:Value),b[i]?=some p->(d.map a.eval)[i]?=some c->ud k p.1 p.2 c
 |[],b,_,h=>by simp only[yZ]at h;injection h with h;subst h;exact⟨rfl,λi p c e=>by simp at e⟩
 |x::d,b,l,h=>by
  simp only[yZ]at h;split at h
  ·rename_i s n r t q;injection h with h;subst h
   obtain⟨g,f⟩:=Yj d r (λy o=>l y (by simp[o])) q;refine⟨by simpa using g,λi p c e j=>?_⟩;cases i with
   |zero=>simp at e j;subst e;subst j;have:=l x ai;rw[t]at this;exact this
   |succ i=>exact f i p c (an e) (an j)
  ·cases h
def aFc{g:Operand->T}(f:FuncId)(b:Array Operand)(i:o.op=.makeFunc (.func f) #[] b)(d:List (Nat×Nat))(j:yZ g b.toList=some d):iq P o g (.e (.c (.db f d))):=
 kv λM n H w a _ h=>by
  obtain⟨k,l⟩:=Yj (a:=a) b.toList d (λx m=>h x (by simpa[i,Op.operands]using m)) j;refine⟨.func (.func f) #[] (b.toList.map a.eval).toArray,?_,b.toList.map a.eval,rfl,k,l⟩;have:Array.map a.eval b=(b.toList.map a.eval).toArray:=by apply mQ;simp
  simp[execOp,i,Instr.makeFunc];exact this
def QQ:T->Bool
 |.e (.c (.ptr _ _))=>true
 |.e (.c (.ty _ _ (.inl _)))=>true
 |.e (.c (.gU _))=>true
 |_=>false
def aFg{f:Operand->T}(x:aw)(j:o.op=.nilCheck x)(g:QQ (f x)=true):iq P o f (f x):=
 kv λM k H w a _ h=>by
  have c:=h x (by simp[j,Op.operands]);have:∃i,a.eval x=.pointer (some i):=by
   unfold QQ at g;split at g
   ·rename_i d;rw[d]at c;obtain⟨b,_,e⟩:=c;exact⟨_,e⟩
   ·rename_i d;rw[d]at c;obtain⟨b,_,_,_,e,_⟩:=c;exact⟨_,e⟩
   ·rename_i d;rw[d]at c;obtain⟨i,e,_⟩:=c;exact⟨_,e⟩
   ·cases g
  obtain⟨i,e⟩:=this;refine⟨_,?_,c⟩;simp[execOp,j,e]
def aFd{b:Operand->T}(x y:aw)(m:Array TypeId)(f:o.op=.call { callee:=.builtin .max,args:=#[x,y],argTypes:=m})(k n:IntKind)(i j:Int)
 (p:b x=.e (.c (.d (.sc (.int k i)))))(q:b y=.e (.c (.d (.sc (.int n j))))):iq P o b (.e (.c (.d (.sc (.int k (max i j)))))):=
 kv λM s H w a _ h=>by
  have g:=h x (by simp[f,Op.operands,Call.operands]);have l:=h y (by simp[f,Op.operands,Call.operands]);rw[p]at g;rw[q]at l;refine⟨_,?_,.sc _ rfl⟩;have e:(if j>i then j else i)=max i j:=by by_cases r:i<j<;>simp[r]<;>omega
  simp[execOp,f,resolve,invoke,builtin,Builtin.max_,Builtin.max2,iw g,iw l,e]
def aFe{b:Operand->T}(x y:aw)(m:Array TypeId)(f:o.op=.call { callee:=.builtin .min,args:=#[x,y],argTypes:=m})(k n:IntKind)(i j:Int)
 (p:b x=.e (.c (.d (.sc (.int k i)))))(q:b y=.e (.c (.d (.sc (.int n j))))):iq P o b (.e (.c (.d (.sc (.int k (min i j)))))):=
 kv λM s H w a _ h=>by
  have g:=h x (by simp[f,Op.operands,Call.operands]);have l:=h y (by simp[f,Op.operands,Call.operands]);rw[p]at g;rw[q]at l;refine⟨_,?_,.sc _ rfl⟩;have e:(if j<i then j else i)=min i j:=by by_cases r:j<i<;>simp[r]<;>omega
  simp[execOp,f,resolve,invoke,builtin,Builtin.min_,Builtin.min2,iw g,iw l,e]
def oM:T->Option Value
 |.e (.c (.d (.sc v)))=>some v
 |_=>none
def rh{x:T}(h:oM x=some v):x=.e (.c (.d (.sc v))):=by
 unfold oM at h;split at h
 ·injection h with h;subst h;rfl
 ·cases h
def sc(v:Value):T:=.e (.c (.d (.sc v)))
def Su(P:ax)(c:Call)(a:St):Option T:=
 match c.callee,c.args.toList,c.argTypes.toList with
 |.builtin .len,[x],[t]=>
  (match jA P t with
   |some _=>(uD (a.ev x)).map λ(n:Nat)=>sc (.int .i64 (n:Int))
   |none=>if rr P t then(match oM (a.ev x)with|some (.string s)=>some (sc (.int .i64 s.size))|_=>none)else none)
 |.builtin .max,[x,y],_=>(match oM (a.ev x),oM (a.ev y)with|some (.int k i),some (.int _ j)=>some (sc (.int k (max i j)))|_,_=>none)
 |.builtin .min,[x,y],_=>(match oM (a.ev x),oM (a.ev y)with|some (.int k i),some (.int _ j)=>some (sc (.int k (min i j)))|_,_=>none)
 |_,_,_=>none
def xm{b:Type}{a:Array b}{l:List b}(h:a.toList=l):a=l.toArray:=by apply mQ;simpa using h
def jf(P:ax)(C:Op)(a:St):Option T:=
 match C with
 |.move x=>some (a.ev x)
 |.assign x=>some (a.ev x)
 |.pick c x y=>match oM (a.ev c)with|some (.bool t)=>some (if t then a.ev x else a.ev y)|_=>none
 |.binOp b t x y _=>match oM (a.ev x),oM (a.ev y)with|some o,some z=>(mD P b t o z).map sc|_,_=>none
 |.unOp u _ x=>match oM (a.ev x)with|some o=>(Ei u o).map sc|none=>none
 |.convert s d x=>match zT P s,zT P d,oM (a.ev x)with|some _,some k,some (.int _ n)=>some (sc (.int k (k.wrap n)))|_,_,_=>none
 |.fieldAddr s x f=>match wF P s f with|some (h,r)=>(match fg P r with|some (_+1)=>vP h (a.ev x)|_=>none)|none=>none
 |.indexAddr t x q=>
  match oM (a.ev q)with
  |some (.int _ i)=>
   (match jA P t with
    |some e=>(match fg P e with|some n=>Dk n i (a.ev x)|none=>none)
    |none=>(match wD P t with
     |some (g,e)=>if 0<=i/\i<(g:Int)then(match fg P e with|some n=>vP (i.toNat*n) (a.ev x)|none=>none)else none
     |none=>none))
  |_=>none
 |.load t x=>
  match a.ev x with
  |.e (.c (.ptr s h))=>(match a.heap s with|some j=>mJ P t j h|none=>none)
  |.e (.c (.gU M))=>mJ P t (M.map .d) 0
  |_=>none
 |.extract x i=>match a.ev x with|.cE w=>(w[i]?).map .e|_=>none
 |.field t x f=>match wF P t f,a.ev x with|some (h,r),.e (.agg j)=>Be P r j h|_,_=>none
 |.index t x q=>
  match oM (a.ev q),wD P t,a.ev x with
  |some (.int _ i),some (g,e),.e (.agg j)=>if 0<=i/\i<(g:Int)then(match fg P e with|some n=>Be P e j (i.toNat*n)|none=>none)else none
  |some (.int _ i),none,.e (.c (.d (.sc (.string s))))=>if rr P t=true/\0<=i then(match s[i.toNat]? with|some c=>some (.e (.c (.d (.sc (.int .u8 c.toNat)))))|none=>none)else none
  |_,_,_=>none
 |.build t parts=>match HJ P t,jQ P t with|some B,some m=>(vQ (λi=>B[i]?) m (parts.toList.map λp=>(p.1,a.ev p.2))).map λj=>.e (.agg j)|_,_=>none
 |.buildSlice t g parts=>
  match jA P t with
  |some e=>(match fg P e,jQ P e with
   |some k,some m=>if m.length=k/\parts.size=g/\g*k<=16777216/\0<k/\0<g then(uG k a.ev 0 parts.toList).map λA=>.e (.c (.d (.sl A)))else none
   |_,_=>none)
  |none=>none
 |.slice t x E H D=>
  match jA P t,uD (a.ev x)with
  |some e,some g=>(match fg P e,lK a.ev H g,lK a.ev E 0,D with
   |some k,some K,some G,none=>mM k G K (a.ev x)
   |_,_,_,_=>none)
  |_,_=>none
 |.makeFunc L first v=>match L,first.toList with|.func f,[]=>(yZ a.ev v.toList).map λl=>.e (.c (.db f l))|_,_=>none
 |.nilCheck x=>if QQ (a.ev x)then some (a.ev x)else none
 |.call c=>Su P c a
 |_=>none
def Sv{σ:St}{r:T}(h:jf P o.op σ=some r):iq P o σ.ev r\/∃t x s l u,o.op=.load t x/\σ.ev x=.e (.c (.ptr s l))/\σ.heap s=some u/\mJ P t u l=some r:=by
 generalize a:o.op=op at h;unfold jf at h;split at h
 ·injection h with h;subst h;exact .inl (aFf _ a)
 ·injection h with h;subst h;exact .inl (aEW _ a)
 ·split at h
  ·rename_i t g;injection h with h;subst h;exact .inl (aFh _ _ _ a t (rh g))
  ·cases h
 ·split at h
  ·rename_i A K b d;cases z:mD P _ _ A K with
   |none=>rw[z]at h;simp at h
   |some v=>rw[z]at h;simp only[dP,cS]at h;subst h;exact .inl (aEX _ _ _ _ _ a A K v (rh b) (rh d) z)
  ·cases h
 ·split at h
  ·rename_i A b;cases z:Ei _ A with
   |none=>rw[z]at h;simp at h
   |some v=>rw[z]at h;simp only[dP,cS]at h;subst h;exact .inl (aFi _ _ _ a A v (rh b) z)
  ·cases h
 ·split at h
  ·rename_i k0 k k1 n b d p;injection h with h;subst h;exact .inl (aE0 _ _ _ a _ _ _ (rh p) (by rw[b];rfl) d)
  ·cases h
 ·split at h
  ·rename_i l E b;split at h
   ·rename_i m d;exact .inl (aE5 _ _ _ a l E m b d r h)
   ·cases h
  ·cases h
 ·split at h
  ·rename_i k i b;split at h
   ·rename_i e d;split at h
    ·rename_i m p;exact .inl (aE7 _ _ _ a e m k i d p (rh b) r h)
    ·cases h
   ·split at h
    ·rename_i q e d;split at h
     ·rename_i g;split at h
      ·rename_i m p;exact .inl (aE8 _ _ _ a e m q k i d p (rh b) g.1 g.2 r h)
      ·cases h
     ·cases h
    ·cases h
  ·cases h
 ·split at h
  ·rename_i s l b;split at h
   ·rename_i u d;exact .inr ⟨_,_,s,l,u,rfl,b,d,h⟩
   ·cases h
  ·rename_i M b;exact .inl (aFb _ _ a M r b h)
  ·cases h
 ·split at h
  ·rename_i N b;rw[gN]at h;obtain⟨e,Q,rfl⟩:=h;exact .inl (aE3 _ _ a N e b Q)
  ·cases h
 ·split at h
  ·rename_i l E u b d;exact .inl (aE4 _ _ _ a l E u r b d h)
  ·cases h
 ·split at h
  ·rename_i k i q e u b d p;split at h
   ·rename_i g;split at h
    ·rename_i m B;exact .inl (aE6 _ _ _ a q e m k i u r d B p (rh b) g.1 g.2 h)
    ·cases h
   ·cases h
  ·rename_i k i s b d p;split at h
   ·rename_i g;split at h
    ·rename_i c B;injection h with h;subst h
     exact .inl (aE9 _ _ _ a s k i g.1 p (rh b) g.2 c B)
    ·cases h
   ·cases h
  ·cases h
 ·split at h
  ·rename_i L D b d;cases w:vQ (λi=>L[i]?) D _ with
   |none=>rw[w]at h;simp at h
   |some u=>rw[w]at h;simp only[dP,cS]at h;subst h;exact .inl (aEY _ _ a L D u b d w)
  ·cases h
 ·split at h
  ·rename_i e b;split at h
   ·rename_i k D d p;split at h
    ·rename_i g;cases w:uG k σ.ev 0 _ with
     |none=>rw[w]at h;simp at h
     |some R=>rw[w]at h;simp only[dP,cS]at h;subst h;exact .inl (afM _ _ _ a e k D R b d p g.1 g.2.1 g.2.2.1 g.2.2.2.1 g.2.2.2.2 w)
    ·cases h
   ·cases h
  ·cases h
 ·split at h
  ·rename_i e q b d;split at h
   ·rename_i k U V p B X;exact .inl (afO _ _ _ _ _ a e k q V U r b p d B X (.inl rfl) h)
   ·cases h
  ·cases h
 ·rename_i G;split at h
  ·rename_i f w;rw[xm w]at a;cases g:yZ σ.ev G.toList with
   |none=>rw[g]at h;simp at h
   |some C=>rw[g]at h;simp only[dP,cS]at h;subst h;exact .inl (aFc _ _ a C g)
  ·cases h
 ·split at h
  ·rename_i g;injection h with h;subst h;exact .inl (aFg _ a g)
  ·cases h
 ·rename_i c;obtain⟨callee,args,argTypes⟩:=c;unfold Su at h;simp only at h;split at h
  ·rename_i x t b d;rw[xm b,xm d]at a;split at h
   ·rename_i e b;rw[gN]at h;obtain⟨m,g,rfl⟩:=h;exact .inl (aE_ _ _ a e m b g)
   ·split at h
    ·rename_i b;split at h
     ·rename_i s d;injection h with h;subst h;exact .inl (aFa _ _ a s b (rh d))
     ·cases h
    ·cases h
  ·rename_i x y b;rw[xm b]at a;split at h
   ·rename_i k i H j b d;injection h with h;subst h;exact .inl (aFd _ _ _ a k H i j (rh b) (rh d))
   ·cases h
  ·rename_i x y b;rw[xm b]at a;split at h
   ·rename_i k i H j b d;injection h with h;subst h;exact .inl (aFe _ _ _ a k H i j (rh b) (rh d))
   ·cases h
  ·cases h
 ·cases h
def atu(h:i<n):jv n (some i):=λj a=>by injection a with a;subst a;exact h
section
variable {P:ax}{n:Nat}{aU:Nat→Prop}{ops:av}{rest:List Oper}{l:List (Nat×T)}{H:fF}{K:St→Prop}
def auw{l:List (Nat×T)}{x:T}(h:mk l i=x):mk ((i,x)::l)=mk l:=by
 funext a;simp only[mk];split
 ·rename_i e;subst e;exact h.symm
 ·rfl
end
theorem dD.drawn{C:ef}{d:G}{c:St}{a:Act}{w:World}(R:dD C d c a w):dD C d c a { w with drawn:=w.drawn+1}:=by have b:fY q_ w { w with drawn:=w.drawn+1}:=⟨rfl,rfl,rfl,Nat.le_succ _,bK _,λ_ _ _=>rfl,λ_ cells _ h=>⟨cells,h,rfl⟩⟩;exact⟨R.mem.Gy b,λi=>(R.aV i).dR b.FJ λ_ _=>rfl,R.aN.trans b (λ_ _ h=>h) (λ_ _ h=>h.elim),R.aX,R.aU,R.defers,R.size⟩
def fA(a:av)(o:Oper)(b:St):Prop:=o.guard=none\/∃j want t,o.guard=some (j,want)/\(a[j]?).bind (·.dst)=some t/\b.aV t=.e (.c (.d (.sc (.bool want))))
def looks(a:av)(o:Oper):List Nat:=
 (o.op.operands.toList.filterMap λ|.tmp t=>some t|_=>none)++(match o.guard with|none=>[]|some (j,_)=>((a[j]?).bind (·.dst)).toList)
def auX{a b:St}(h:∀t,x=.tmp t->b.aV t=a.aV t):b.ev x=a.ev x:=by
 match x with
 |.tmp t=>exact h t rfl
 |.const v=>rfl
 |.func f=>rfl
 |.global g=>rfl
def fA.congr{a:av}{b τ:St}(h:fA a o b)(e:∀t∈looks a o,τ.aV t=b.aV t):fA a o τ:=by
 rcases h with h|⟨j,want,t,c,d,f⟩
 ·exact .inl h
 ·exact .inr ⟨j,want,t,c,d,by rw[e t (by simp[looks,c,d]),f]⟩
def vu:List Oper->List (List Nat)->List (List Nat)
 |[],a=>a
 |o::r,a=>vu r (a++[((o.after.toList.filter (Region.binds .any)).flatMap λe=>e.on::(a[e.on]?).getD []).eraseDups])
def GM(a b:aq):Bool:=a.any λx=>b.contains x
theorem Oh(S:ap)(f:List Oper)(d:∀(j:Nat)(o:Oper),f[j]?=some o->S j->∀e∈o.after.toList,Region.binds .any e=true->S e.on):
 ∀(r b:List Oper) (a:List (List Nat)),b++r=f->a.length=b.length->(∀j i,i∈(a[j]?).getD []->S j->S i)->∀j i,i∈((vu r a)[j]?).getD []->S j->S i
 |[],_,a,_,_,g=>g
 |o::r,b,a,q,n,g=>by
  simp only[vu];refine Oh S f d r (b++[o]) _ (an q) (by simp[n]) (λj i hi p=>?_);rw[B3]at hi;split at hi
  ·exact g j i hi p
  ·rename_i t;by_cases h:j=a.length
   ·subst h;simp only[rM,kg,ib]at hi;rw[List.mem_eraseDups]at hi;simp only[kV,jr]at hi;obtain⟨e,⟨m,k⟩,hi⟩:=hi;have s:f[a.length]?=some o:=by rw[<-q,n];simp
    have c:=d _ o s p e m k;rcases da.1 hi with rfl|hi
    ·exact c
    ·exact g _ i hi c
   ·rw[iM (by simp;omega)]at hi;simp at hi
def anK(c:List Oper)(f:∀(j:Nat)(o:Oper),c[j]?=some o->∀e∈o.after.toList,Region.binds .any e=true->e.on<j):∀(j i:Nat),i∈((vu c [])[j]?).getD []->i<j:=by
 have g:∀(r b:List Oper) (a:List (List Nat)),b++r=c->a.length=b.length->(∀(j i:Nat),i∈(a[j]?).getD []->i<j)->∀(j i:Nat),i∈((vu r a)[j]?).getD []->i<j:=by
  intro r
  induction r with
  |nil=>intro b a _ _ h;exact h
  |cons o r t=>
   intro b a s p q;simp only[vu];refine t (b++[o]) _ (an s) (by simp[p]) (λj i hi=>?_);rw[B3]at hi;split at hi
   ·exact q j i hi
   ·rename_i v;by_cases k:j=a.length
    ·subst k;simp only[rM,kg,ib]at hi;rw[List.mem_eraseDups]at hi;simp only[kV,jr]at hi;obtain⟨e,⟨n,m⟩,hi⟩:=hi;have u:c[a.length]?=some o:=by rw[<-s,p];simp
     have d:=f _ o u e n m;rcases da.1 hi with rfl|hi
     ·exact d
     ·exact Nat.lt_trans (q _ i hi) d
    ·rw[iM (by simp;omega)]at hi;simp at hi
 exact g c [] [] rfl rfl (λj i hi=>by simp at hi)
def K9{a b:aq}(c:n∈a)(d:n∈b):GM a b=true:=by simp only[GM,rF,List.contains_iff_mem];exact⟨n,c,d⟩
section
variable (l:List Oper)(X:Nat→St)(S:Nat→Prop)[DecidablePred S]
def kH:Nat->Nat->T
 |0,i=>(X 0).aV i
 |m+1,i=>if S m/\(l[m]?).bind (·.dst)=some i then(X (m+1)).aV i else kH m i
end
def ava{P:ax}{w':World}(b:o.op=.call { callee:=.builtin .copy,args:=#[x,y],argTypes:=#[t,u]})
 (h:(Builtin.copy_ #[t,u] o.type #[a.eval x,a.eval y]).run P w=.ok v w'):(execOp a.eval o).run P w=.ok (.value v) w':=by
 simp[execOp,b,resolve,invoke,builtin,h]
theorem fc.copy{P:ax}{n:Nat}{aU:ap}{o:Oper}{σ:St}(x y:aw)(t t':TypeId)(ho:o.op=.call { callee:=.builtin .copy,args:=#[x,y],argTypes:=#[t,t']})
 (s k f len:Nat)(D h:List V)(m:Nat)(hx:σ.ev x=.e (.c (.sub s k f len)))(I:σ.heap s=some D)(hcs:f+len*k<=D.length)(hy:mN k σ.heap (σ.ev y)=some (h,m))
 (e:TypeId)(ht:jA P t=some e)(hk:fg P e=some k)(hd:jv n o.dst):
 fc P n aU o σ ⟨(σ.put o.dst (.e (.c (.d (.sc (.int .i64 (min m len:Nat))))))).aV,cZ σ.heap s (some (kA D f (h.take (min m len*k))))⟩:=by
 intro C hn hstay a w ⟨γ,R⟩ K Q hK;have h1:=R.ev x;rw[hx]at h1;obtain⟨B,c,H,hvy,T,hul,M⟩:=MK R.mem hy (R.ev y);have hdd:jv C.nt o.dst:=by rw[hn];exact hd
 have hu:=tK ht;have L:=nA hk w;have k_:∀(w':World),dD C γ ⟨σ.aV,cZ σ.heap s (some (kA D f (h.take (min m len*k))))⟩ a w'->K (a.put o.dst (.int .i64 (min m len:Nat))) w':=by
  intro w' R';refine hK _ _ ⟨γ,?_⟩;have:=R'.Br o.dst hdd (.int .i64 (min m len:Nat)) (.e (.c (.d (.sc (.int .i64 (min m len:Nat)))))) (.sc _ rfl);have e1:(St.put ⟨σ.aV,cZ σ.heap s (some (kA D f (h.take (min m len*k))))⟩ o.dst (.e (.c (.d (.sc (.int .i64 (min m len:Nat)))))))=⟨(σ.put o.dst (.e (.c (.d (.sc (.int .i64 (min m len:Nat))))))).aV,cZ σ.heap s (some (kA D f (h.take (min m len*k))))⟩:=by cases o.dst<;>rfl
  rw[e1]at this;exact this
 have q:(H.take (min m len*k)).length=min m len*k:=by have:min m len*k<=m*k:=jS _ (Nat.min_le_left _ _);simp;omega
 have hmk:min m len*k<=len*k:=jS _ (Nat.min_le_right _ _);have l:(Builtin.firstCells k (min m len) (.slice B m c)).run P w=.ok (H.take (min m len*k)).toArray w:=by
  by_cases hm:m=0
  ·subst hm;have hus:H=[]:=fR (an hul);subst hus;cases B<;>simp[Builtin.firstCells,loadCells,loadCellsFrom]
  ·obtain⟨ad,rfl,G⟩:=M hm;have:=run_loadCells_list (P:=P) w ad (H.take (min m len*k)) (λj u hj=>G j u (by
    rw[sO]at hj;split at hj
    ·exact hj
    ·cases hj))
   rw[q]at this;simpa[Builtin.firstCells]using this
 have i:∀(A:Option Addr)(z:Nat)(w':World),a.eval x=.slice A len z->(match A with|some ad=>(storeCells ad (H.take (min m len*k))).run P w=.ok () w'|none=>w'=w)->
  (execOp a.eval o).run P w=.ok (.value (.int .i64 (min m len:Nat))) w':=by
  intro A z w' hv g;refine ava ho ?_;rw[hv,hvy];cases A with
  |none=>simp only at g;subst g;simp only[Builtin.copy_,Iv,kg,B5,Sem.run_bind,run_underlying hu,Result.andThen_ok,Builtin.lenOf,Sem.run_pure,L];have:m.min len=min m len:=rfl;rw[this,l];simp[goInt]
  |some ad=>simp only at g;simp only[Builtin.copy_,Iv,kg,B5,Sem.run_bind,run_underlying hu,Result.andThen_ok,Builtin.lenOf,Sem.run_pure,L];have:m.min len=min m len:=rfl;rw[this,l];simp[goInt,g]
 rcases h1 with⟨b,z,cells,ty,hg,p,hlc,hcm,hbb,hroom⟩|⟨hg,h0,N,p⟩|⟨b,off',hg,h0,p⟩
 ·obtain⟨t0,vs,spare,X,U⟩:=R.Jk I hg hbb;have N:=U.1;have g:=run_storeCells_at P b f t0 (H.take (min m len*k)) 0 (vs++spare).toArray w X (by rw[q];simp;omega) (λv hv=>T.xP v (nE hv));simp only[uc]at g;rw[ah5 vs _ spare f (by rw[q];omega)]at g;refine mn (i _ z _ p g) (k_ _ ?_);refine R.zI hg X (by rw[cX,cX,cX,q];simp;omega) (T4 f U (T.take _)) (by rw[I];simp)
 ·subst N;have r:min m 0=0:=O;refine mn (i none 0 w p rfl) (k_ _ ?_);have E:cZ σ.heap s (some (kA D f (h.take (min m 0*k))))=σ.heap:=by
   funext u;simp only[cZ];split
   ·rename_i e;subst e;rw[r,I];simp[kA]
   ·rfl
  rw[E];exact R
 ·subst h0;have r:min m 0=0:=O;refine mn (i _ 0 w p (by simp[r,storeCells])) (k_ _ ?_);have E:cZ σ.heap s (some (kA D f (h.take (min m 0*k))))=σ.heap:=by
   funext u;simp only[cZ];split
   ·rename_i e;subst e;rw[r,I];simp[kA]
   ·rfl
  rw[E];exact R
section
variable {P:ax}{n:Nat}{aU:Nat→Prop}{σ:St}{c:Code}{Q:nF}
def ay6{b:List (List D)}(h:dN w M (.sl b) v):b.length<=9223372036854775807:=by
 cases h with
 |sl _ k e A U d a=>simp only[maxLen]at a;omega
end
inductive Pl where
 |t (x:T)
 |h (x:Option (List V))
def St.at(a:St)(l:Nat):Pl:=if l%2=0 then .t (a.aV (l/2))else .h (a.heap (l/2))
def Pl.bx:Pl->Nat->Prop
 |.t x,s=>x.bx s
 |.h (some a),s=>∃v∈a,v.bx s
 |.h none,_=>False
def As(a:St)(i:Nat):a.at (2*i)=.t (a.aV i):=by unfold St.at;rw[aM O,show 2*i/2=i by omega]
def Au(a:St)(s:Nat):a.at (2*s+1)=.h (a.heap s):=by unfold St.at;rw[Z O,show(2*s+1)/2=s by omega]
def St.Gd{a τ:St}(h:∀l,a.at l=τ.at l):a=τ:=by
 obtain⟨e,H⟩:=a;obtain⟨e',H'⟩:=τ;have b:e=e':=funext λi=>by have:=h (2*i);rw[As,As]at this;injection this
 have c:H=H':=funext λs=>by have:=h (2*s+1);rw[Au,Au]at this;injection this
 rw[b,c]
def ku(b a:St)(c:aq):St:=⟨λi=>if 2*i∈c then a.aV i else b.aV i,λs=>if 2*s+1∈c then a.heap s else b.heap s⟩
def LV(b a:St)(c:aq)(l:Nat):(ku b a c).at l=if l∈c then a.at l else b.at l:=by
 unfold St.at ku;by_cases h:l%2=0
 ·rw[aM h,aM h,aM h];have e:2*(l/2)=l:=O;simp only[e];split<;>rfl
 ·rw[Z h,Z h,Z h];have e:2*(l/2)+1=l:=O;simp only[e];split<;>rfl
structure Ft where
 rd:List Nat
 wr:List Nat
 kl:List Nat
structure LQ(P:ax)(n:Nat)(aU:ap)(ops:av)(j:Nat)(σ σ':St)(f:Ft):Prop where
 frame:∀l,l∉f.wr->σ'.at l=σ.at l
 go:∀τ:St,(∀l,l∈f.rd\/l∈f.wr->τ.at l=σ.at l)->(∀s∈f.kl,∀l,l∉f.wr->¬(τ.at l).bx s)->
  ∀C:ef,C.nt=n->C.aU=aU->∀a w,gO C τ a w->∀(K:Act->World->Prop)(Q:Exit->Act->World->Prop),(∀a' w',gO C (ku τ σ' f.wr) a' w'->K a' w')->wpOp P ops Q j K a w
def Jy(b a:Ft):Bool:=GM b.wr a.rd||GM b.wr a.wr||GM a.wr b.rd
def Ay(a:av)(fp:List Ft):Bool:=
 let l:=a.toList
 let A:=vu l []
 ((List.range l.length).all λj=>match l[j]? with|some o=>o.after.toList.all (λe=>!Region.binds .any e||decide (e.on<j))|none=>false)&&(List.range l.length).all λj=>(List.range j).all λi=>
   match fp[i]?,fp[j]? with
   |some c,some b=>!Jy c b||((A[j]?).getD []).contains i
   |_,_=>false
def Yz{ops:av}{fp:List Ft}(h:Ay ops fp=true)(a:ops.toList[j]?=some o){e:Edge}(b:e∈o.after.toList)(c:Region.binds .any e=true):e.on<j:=by
 unfold Ay at h;simp only[ej,eW,oZ]at h;have d:j<ops.toList.length:=(du.1 a).1;have:=h.1 j d;rw[a]at this;simp only[eW,wO,be]at this;rcases this e b with h|h
 ·simp[c]at h
 ·exact h
def Yy{a:av}{fp:List Ft}(h:Ay a fp=true)(b:i<j)(c:j<a.toList.length){f g:Ft}(d:fp[i]?=some f)(e:fp[j]?=some g)
 (k:Jy f g=true):i∈((vu a.toList [])[j]?).getD []:=by
 unfold Ay at h;simp only[ej,eW,oZ]at h;have:=h.2 j c i b;rw[d,e]at this;simp only[wO]at this;rcases this with h|h
 ·simp[k]at h
 ·simpa using h
section
variable (fp:List Ft)(X:Nat→St)(S:Nat→Prop)[DecidablePred S]
def oU(m:Nat):List Nat:=((fp[m]?).map (·.wr)).getD []
def oB:Nat->St
 |0=>X 0
 |m+1=>if S m then ku (oB m) (X (m+1)) (oU fp m)else oB m
end
def Lc(fp:List Ft)(X:Nat->St)(S:ap) [DecidablePred S](m l:Nat):(oB fp X S (m+1)).at l=if S m/\l∈oU fp m then(X (m+1)).at l else(oB fp X S m).at l:=by
 simp only[oB];by_cases h:S m
 ·rw[aM h,LV];simp[h]
 ·rw[Z h,Z (λa=>h a.1)]
theorem ady(fp:List Ft)(X:Nat->St)(S a:ap) [DecidablePred S] [DecidablePred a](l:Nat)(h:∀k,l∈oU fp k->(S k↔a k)):∀m,(oB fp X S m).at l=(oB fp X a m).at l
 |0=>rfl
 |m+1=>by
  rw[Lc,Lc,ady fp X S a l h m];by_cases b:l∈oU fp m
  ·simp only[b,and_true,h m b]
  ·simp only[b,and_false,lM]
theorem adz(fp:List Ft)(X:Nat->St)(S:ap) [DecidablePred S](l:Nat):∀m,∃k,k<=m/\(oB fp X S m).at l=(X k).at l
 |0=>⟨0,bK _,rfl⟩
 |m+1=>by
  rw[Lc];split
  ·exact⟨m+1,bK _,rfl⟩
  ·obtain⟨k,b,a⟩:=adz fp X S l m;exact⟨k,O,a⟩
section
variable {fp:List Ft}{X:Nat→St}
theorem GN(f:∀(m l:Nat),l∉oU fp m->m<fp.length->(X (m+1)).at l=(X m).at l)(S:ap) [DecidablePred S](l j:Nat)(h:∀k,k<j->l∈oU fp k->S k)(g:∀k,j<=k->l∈oU fp k->¬S k):
 ∀m,m<=fp.length->(oB fp X S m).at l=(X (min m j)).at l
 |0,_=>by simp[oB]
 |m+1,n=>by
  have c:=GN f S l j h g m O;rw[Lc];by_cases d:m<j
  ·rw[show min (m+1) j=m+1 by omega];rw[show min m j=m by omega]at c;split
   ·rfl
   ·rename_i i;rw[c];by_cases e:l∈oU fp m
    ·exact absurd ⟨h m d e,e⟩ i
    ·exact(f m l e O).symm
  ·rw[show min (m+1) j=j by omega];rw[show min m j=j by omega]at c;rw[Z (by rintro⟨a,b⟩;exact g m O b a)];exact c
end
def aFE{aU:ap}{ops:av}{fp:List Ft}{X:Nat->St}(hlen:fp.length=ops.size)
 (hX:∀(j:Nat)(f:Ft),fp[j]?=some f->LQ P n aU ops j (X j) (X (j+1)) f)(hc:Ay ops fp=true)
 (c:∀(j:Nat)(f:Ft),fp[j]?=some f->∀s∈f.kl,∀m,m<=ops.size->∀l,l∉f.wr->¬((X m).at l).bx s)
  (hn:C.nt=n)(I:C.aU=aU){a:Act}(R:gO C (X 0) a w){Q:Exit->Act->World->Prop}(hQ:∀a' w',gO C (X ops.size) a' w'->Q .normal a' w'):wpAny P .any ops Q ops.size (Array.replicate ops.size false) a { w with drawn:=w.drawn+1}:=by
 have hsz:ops.toList.length=ops.size:=ai;have hF:∀(m l:Nat),l∉oU fp m->m<fp.length->(X (m+1)).at l=(X m).at l:=by intro m l E hml;have hf:fp[m]?=some fp[m]:=cN hml;refine(hX m _ hf).frame l ?_;simpa[oU,hf]using E
 have wr_lt:∀(k l:Nat),l∈oU fp k->k<ops.size:=by
  intro k l h;rcases B9 k ops.size with h'|h'
  ·exact h'
  ·simp[oU,iM (show fp.length<=k by omega)]at h
 have key:∀(g:Nat)(U:aq)(listed:Array Bool)(a:Act)(w:World),U.length<=g->listed.size=ops.size->(∀i,i<ops.size->listed.getD i false=false->i∈U)->
  (∀(j:Nat)(o:Oper),ops.toList[j]?=some o->listed.getD j false=true->∀e∈o.after.toList,Region.binds .any e=true->listed.getD e.on false=true)->
  gO C (oB fp X (λi=>listed.getD i false=true) ops.size) a w->wpAny P .any ops Q g listed a w:=by
  intro g
  have allDone:∀(listed:Array Bool)(a:Act)(w:World),(∀i,i<ops.size->listed.getD i false=true)->
   gO C (oB fp X (λi=>listed.getD i false=true) ops.size) a w->Q .normal a w:=by
   intro listed a w q R;refine hQ a w ?_;have e1:oB fp X (λi=>listed.getD i false=true) ops.size=X ops.size:=by
    refine St.Gd λl=>?_
    have:=GN hF (λi=>listed.getD i false=true) l ops.size (λk c _=>q k c) (λk c d=>by have:=wr_lt k l d;omega) ops.size O;rw[this,Nat.min_self]
   rw[e1]at R;exact R
  have noneReady:∀(listed:Array Bool),listed.size=ops.size->Region.ready .any ops listed=[]->∀i,i<ops.size->listed.getD i false=true:=by
   intro listed G hre i
   induction i using Nat.strongRecOn with
   |_ i ih=>
    intro p;cases T:listed.getD i false with
    |true=>rfl
    |false=>
     exfalso;have ho:ops[i]?=some ops[i]:=Es p;have V:i∈Region.ready .any ops listed:=by
      simp only[Region.ready,jr,oZ];refine⟨p,?_⟩;have hl1:listed.getD i true=false:=by have:i<listed.size:=O;simp[this]at T⊢;exact T
      rw[hl1,ho];simp only[sC,wQ,dP,ib,Array.all_eq_true'];intro e y;by_cases r:Region.binds .any e=true
      ·have hlt:=Yz hc (j:=i) (o:=ops[i]) ai (an y) r;rw[ih e.on hlt O];simp
      ·simp at r;simp[r]
     rw[hre]at V;simp at V
  induction g with
  |zero=>
   intro U listed a w hU G H K R;have hU0:U=[]:=fR O;subst hU0;have q:∀i,i<ops.size->listed.getD i false=true:=λi p=>by
    cases T:listed.getD i false with
    |true=>rfl
    |false=>have:=H i p T;simp at this
   refine⟨?_,allDone listed a w q R⟩;simp only[Region.ready,Wv,oZ];intro i p;have:i<listed.size:=O;have h1:=q i p;simp[this]at h1⊢;intro h2;rw[h1]at h2;cases h2
  |succ g ih=>
   intro U listed a w hU G H K R;refine⟨λhre=>allDone listed a w (noneReady listed G hre) R,λj hj=>?_⟩;simp only[Region.ready,jr,oZ]at hj;obtain⟨hjs,hjr⟩:=hj;have hoa:ops[j]?=some ops[j]:=Es hjs;have ho:ops.toList[j]?=some ops[j]:=ai;rw[hoa]at hjr;simp only[ej,BM,dP,ib,Array.all_eq_true']at hjr;obtain⟨L,M⟩:=hjr;have z:j<listed.size:=O;have hjf:listed.getD j false=false:=by simp[z]at L⊢;exact L
   have A:∀e∈ops[j].after.toList,Region.binds .any e=true->listed.getD e.on false=true:=by intro e y r;have:=M e (an y);simpa[r]using this
   have hf:fp[j]?=some (fp[j]' O):=cN O;have hLS:=hX j _ hf;have B:∀i,i∈((vu ops.toList [])[j]?).getD []->listed.getD i false=true:=by
    intro i p;have:=Oh (λk=>listed.getD k false=true\/k=j) ops.toList (λk o c hSk e y r=>by
     rcases hSk with h|rfl
     ·exact .inl (K k o c h e y r)
     ·rw[ho]at c;injection c with c;subst c;exact .inl (A e y r)) ops.toList [] [] rfl rfl (λk i p=>by simp at p) j i p (.inr rfl)
    rcases this with h|rfl
    ·exact h
    ·exfalso;have hlow:=anK ops.toList (λk o c e y r=>Yz hc c y r) i i p;omega
   have N:∀k,listed.getD k false=true->j∈((vu ops.toList [])[k]?).getD []->False:=by intro k c hjk;have:=Oh (λk=>listed.getD k false=true) ops.toList K ops.toList [] [] rfl rfl (λk i p=>by simp at p) k j hjk c;rw[hjf]at this;cases this
   have hpl:∀t,(t∈(fp[j]' O).rd\/t∈(fp[j]' O).wr)->(∀k,k<j->t∈oU fp k->listed.getD k false=true)/\(∀k,j<k->t∈oU fp k->¬listed.getD k false=true):=by
    intro t x;refine⟨λk c d=>?_,λk c d E=>?_⟩
    ·have hkl:=wr_lt k t d;have D:fp[k]?=some (fp[k]' O):=cN O;simp only[oU,D,dP,ib]at d;refine B k (Yy hc c O D hf ?_);unfold Jy;rcases x with x|x
     ·rw[K9 d x];simp
     ·rw[K9 (a:=(fp[k]' O).wr) (b:=(fp[j]' O).wr) d x];simp
    ·have hkl:=wr_lt k t d;have D:fp[k]?=some (fp[k]' O):=cN O;simp only[oU,D,dP,ib]at d;refine N k E (Yy hc c O hf D ?_);unfold Jy;rcases x with x|x
     ·rw[K9 (a:=(fp[k]' O).wr) (b:=(fp[j]' O).rd) d x];simp
     ·rw[K9 (a:=(fp[j]' O).wr) (b:=(fp[k]' O).wr) x d];simp
   refine hLS.go (oB fp X (λi=>listed.getD i false=true) ops.size) (λt x=>?_) (λs I l E hnm=>?_) C hn I a w R _ Q λa' w' R'=>ih (U.erase j) (listed.setIfInBounds j true) a' w' ?_ (by simp[G]) ?_ ?_ ?_
   ·have h1:=hpl t x;have:=GN hF (λi=>listed.getD i false=true) t j h1.1 (λk c d=>by
     rcases B9 j k with h|h
     ·exact h1.2 k h d
     ·have:k=j:=by omega
      subst this;rw[hjf];simp) ops.size O
    rw[show min ops.size j=j by omega]at this;exact this
   ·obtain⟨k,hk1,hk2⟩:=adz fp X (λi=>listed.getD i false=true) l ops.size;rw[hk2]at hnm;exact c j _ hf s I k hk1 l E hnm
   ·have:=List.length_erase_of_mem (H j hjs hjf);omega
   ·intro i p T;have hne:i≠j:=by rintro rfl;simp[z]at T
    have hv':listed.getD i false=false:=by rw[getD_set_ne false (Ne.symm hne)]at T;exact T
    exact(List.mem_erase_of_ne hne).2 (H i p hv')
   ·intro k o c E e y r;by_cases u:k=j
    ·subst u;rw[ho]at c;injection c with c;subst c
     exact getD_set_true (A e y r)
    ·rw[getD_set_ne false (λh=>u h.symm)]at E;exact getD_set_true (K k o c E e y r)
   ·have eS:∀k,(listed.setIfInBounds j true).getD k false=true↔(listed.getD k false=true\/k=j):=by
     intro k;by_cases u:k=j
     ·subst u;simp[z]
     ·rw[getD_set_ne false (λh=>u h.symm)];simp[u]
    have e3:oB fp X (λi=>(listed.setIfInBounds j true).getD i false=true) ops.size=ku (oB fp X (λi=>listed.getD i false=true) ops.size) (X (j+1)) (fp[j]' O).wr:=by
     refine St.Gd λt=>?_
     rw[LV];by_cases d:t∈(fp[j]' O).wr
     ·rw[aM d];have h1:=hpl t (.inr d);have:=GN hF (λi=>(listed.setIfInBounds j true).getD i false=true) t (j+1) (λk c v=>by
       rw[eS];rcases B9 k j with h|h
       ·exact .inl (h1.1 k h v)
       ·exact .inr O) (λk c v=>by
       rw[eS];rintro(h|h)
       ·exact h1.2 k O v h
       ·omega) ops.size O
      rw[this,show min ops.size (j+1)=j+1 by omega]
     ·rw[Z d];exact ady fp X _ _ t (λk v=>by
       rw[eS];constructor
       ·rintro(h|rfl)
        ·exact h
        ·simp only[oU,hf,dP,ib]at v;exact absurd v d
       ·exact .inl) _
    rw[e3];exact R'
 refine key ops.size (List.range ops.size) _ a _ ai ai (λi p _=>by simpa using p) (λj o hj E=>?_) ?_
 ·exfalso;have L:j<ops.size:=by have:=(du.1 hj).1;omega
  simp[L]at E
 ·have e1:oB fp X (λi=>(Array.replicate ops.size false).getD i false=true) ops.size=X 0:=by
   refine St.Gd λl=>?_
   have:=GN hF (λi=>(Array.replicate ops.size false).getD i false=true) l 0 (λk c=>O) (λk c d=>by have hkl:=wr_lt k l d;simp[hkl]) ops.size O
   rw[this,show min ops.size 0=0 by omega]
  rw[e1];obtain⟨γ,R0⟩:=R;exact⟨γ,R0.drawn⟩
def xe(ops:av)(o:Oper)(σ:St):Prop:=∃j want t,o.guard=some (j,want)/\(ops[j]?).bind (·.dst)=some t/\((∃b,σ.aV t=.e (.c (.d (.sc (.bool b))))/\(b==want)=false)\/σ.aV t=.cE [])
def xe.congr{ops:av}{o:Oper}{σ τ:St}(h:xe ops o σ)(c:∀t∈looks ops o,τ.aV t=σ.aV t):xe ops o τ:=by obtain⟨j,want,t,a,b,d⟩:=h;have e:=c t (by simp[looks,a,b]);exact⟨j,want,t,a,b,by rw[e];exact d⟩
def agd:cr w M U (.cE []) undef:=⟨[],rfl,rfl,λi x u a=>by simp at a⟩
theorem xe.wanted{ops:av}{o:Oper}{σ:St}{C:ef}{a:Act}{w:World}(h:xe ops o σ)(R:gO C σ a w):Region.wanted o (yielded ops a.tmps)=false:=by
 obtain⟨j,want,t,f,e,⟨b,c,k⟩|c⟩:=h
 ·simp[Region.wanted,f,U1 R e c];simpa using k
 ·obtain⟨l,R⟩:=R;have h:=R.aV t;rw[c]at h;obtain⟨m,d,p,_⟩:=h;have g:yielded ops a.tmps j=none:=by
   unfold yielded;rw[e];simp only[Cb];cases i:a.tmps[t]? with
   |none=>rfl
   |some v=>simp[M9,i]at d;rw[d]
  simp[Region.wanted,f,g]
def IU(P:ax)(n:Nat)(aU:ap)(ops:av)(o:Oper)(b a:St):Prop:=
 (fA ops o b/\fc P n aU o b a)\/(xe ops o b/\jv n o.dst/\a=b.put o.dst (.cE []))
structure SQ(P:ax)(n:Nat)(aU:ap)(ops:av)(o:Oper)(σ σ':St)(f:Ft):Prop where
 frame:∀l,l∉f.wr->σ'.at l=σ.at l
 go:∀τ:St,(∀l,l∈f.rd\/l∈f.wr->τ.at l=σ.at l)->(∀s∈f.kl,∀l,l∉f.wr->¬(τ.at l).bx s)->IU P n aU ops o τ (ku τ σ' f.wr)
def aD2{σ σ':St}(h:∀a,a∉l->σ'.at a=σ.at a):ku σ σ' l=σ':=by
 refine St.Gd λa=>?_
 rw[LV];split
 ·rfl
 ·exact(h a Y).symm
def SQ.one{P:ax}{n:Nat}{aU:ap}{ops:av}{o:Oper}{σ σ':St}{f:Ft}(h:SQ P n aU ops o σ σ' f)(a:∀s∈f.kl,∀l,l∉f.wr->¬(σ.at l).bx s):IU P n aU ops o σ σ':=by have:=h.go σ (λ_ _=>rfl) a;rwa [aD2 h.frame]at this
def gA.one{P:ax}{n:Nat}{aU:ap}{ops:av}{o:Oper}{σ c:St}{K:St->Prop}(h:IU P n aU ops o σ c)(d:gA P n aU ops Q c K):gA P n aU ops (o::Q) σ K:=by
 rcases h with⟨e,I⟩|⟨k,l,rfl⟩
 ·rcases e with e|⟨j,want,t,m,p,q⟩
  ·exact .step e I d
  ·exact .yes m p q I d
 ·intro C i f a w R b s;refine wpList_step λv g=>?_
  rw[Z (by rw[k.wanted R];simp)];refine g _ _ (d C i f _ _ ?_ b s);obtain⟨u,R⟩:=R;exact⟨u,R.Br o.dst (by rw[i];exact l) undef (.cE []) agd⟩
theorem SQ.lq{P:ax}{n:Nat}{aU:ap}{ops:av}{o:Oper}{σ b:St}{f:Ft}(h:SQ P n aU ops o σ b f)(g:ops[j]?=some o):LQ P n aU ops j σ b f where
 frame:=h.frame
 go:=by
  intro k l m C e I a w R K Q hK;unfold wpOp;simp only[g];rcases h.go k l m with⟨c,d⟩|⟨p,q,s⟩
  ·have u:Region.wanted o (yielded ops a.tmps)=true:=by
    rcases c with c|⟨i,want,t,v,x,y⟩
    ·simp[Region.wanted,c]
    ·simp[Region.wanted,v,U1 R x y]
   rw[aM u];exact .inl (d C e I a w R K Q hK)
  ·rw[Z (by rw[p.wanted R];simp)];obtain⟨z,R⟩:=R;refine hK _ _ ?_;rw[s];exact⟨z,R.Br o.dst (by rw[e];exact q) undef (.cE []) agd⟩
def lk(ops:av)(o:Oper):List Nat:=(looks ops o).map (2* ·)
def dl(o:Oper):List Nat:=o.dst.toList.map (2* ·)
def aaA{σ a:St}(h:a.at (2*i)=σ.at (2*i)):a.aV i=σ.aV i:=by rw[As,As]at h;injection h
def pu{σ a:St}(h:a.at (2*i+1)=σ.at (2*i+1)):a.heap i=σ.heap i:=by rw[Au,Au]at h;injection h
def v7{ops:av}{o:Oper}{σ a:St}{f:Ft}(b:∀l∈lk ops o,l∈f.rd)(h:∀l,l∈f.rd\/l∈f.wr->a.at l=σ.at l):∀t∈looks ops o,a.aV t=σ.aV t:=
 λt c=>aaA (h _ (.inl (b _ (b_.2 ⟨t,c,rfl⟩))))
def pq{ops:av}{o:Oper}{σ a:St}(h:∀t∈looks ops o,a.aV t=σ.aV t):∀x∈o.op.operands.toList,a.ev x=σ.ev x:=
 λx b=>auX λt c=>h t (by subst c;simp only[looks,cq,IC];exact .inl ⟨_,b,rfl⟩)
def A5{o:Oper}:2*i∈dl o↔o.dst=some i:=by
 unfold dl;cases o.dst with
 |none=>simp
 |some d=>simp only[Option.toList,de,gW,cL,cS];exact⟨λh=>(Nat.eq_of_mul_eq_mul_left ae h).symm,λh=>by rw[h]⟩
def LJ{o:Oper}:2*s+1∉dl o:=by
 unfold dl;cases o.dst with
 |none=>simp
 |some d=>simp;omega
def DW(σ:St)(o:Oper)(r:T)(l:Nat)(h:l∉dl o):(σ.put o.dst r).at l=σ.at l:=by
 unfold St.at;split
 ·rename_i e;rw[rf,Z];intro a;exact h (by rw[show l=2*(l/2)by omega];exact A5.2 a)
 ·rw[Bj]
def G5(a σ:St)(o:Oper)(r:T):ku a (σ.put o.dst r) (dl o)=a.put o.dst r:=by
 have f:(ku a (σ.put o.dst r) (dl o)).aV=(a.put o.dst r).aV:=by funext i;simp only[ku,rf,A5];split<;>simp_all
 have d:(ku a (σ.put o.dst r) (dl o)).heap=(a.put o.dst r).heap:=by funext s;simp only[ku,Bj,LJ,lM]
 cases b:ku a (σ.put o.dst r) (dl o)with|mk e H=>cases c:a.put o.dst r with|mk g h=>rw[b,c]at f d;simp only at f d;rw[f,d]
section
variable {P:ax}{n:Nat}{aU:Nat→Prop}{ops:av}{o:Oper}{σ:St}{r:T}
theorem SQ.pure(a:fA ops o σ)(h:iq P o σ.ev r)(b:jv n o.dst):SQ P n aU ops o σ (σ.put o.dst r) ⟨lk ops o,dl o,[]⟩where
 frame l hl:=DW σ o r l hl
 go d c _:=by have hl:=v7 (λl h=>h) c;rw[G5];exact .inl ⟨a.congr hl,.aeV (h.congr (pq hl)) b⟩
theorem SQ.skip(a:xe ops o σ)(b:jv n o.dst):SQ P n aU ops o σ (σ.put o.dst (.cE [])) ⟨lk ops o,dl o,[]⟩where
 frame l hl:=DW σ o _ l hl
 go d c _:=by have hl:=v7 (λl h=>h) c;rw[G5];exact .inr ⟨a.congr hl,b,rfl⟩
theorem SQ.load(g:fA ops o σ)(t:TypeId)(x:aw)(s a:Nat)(b:List V)(f:o.op=.load t x)(m:σ.ev x=.e (.c (.ptr s a)))(k:σ.heap s=some b)(j:mJ P t b a=some r)(i:jv n o.dst):
 SQ P n aU ops o σ (σ.put o.dst r) ⟨(2*s+1)::lk ops o,dl o,[]⟩where
 frame l hl:=DW σ o r l hl
 go p d _:=by have hl:=v7 (λl h=>cv _ h) d;rw[G5];exact .inl ⟨g.congr hl,.load t x f s a b r (by rw[pq hl x (by simp[f,Op.operands]),m]) (by rw[pu (d (2*s+1) (.inl ai)),k]) j i⟩
theorem SQ.block{d:St}{rd:aq}(s:Nat)(c:Option (List V))(e:d=⟨(σ.put o.dst r).aV,cZ σ.heap s c⟩)(g:∀l∈lk ops o,l∈rd)
 (go:∀a:St,(∀l,l∈rd\/l∈(2*s+1)::dl o->a.at l=σ.at l)->(∀t∈looks ops o,a.aV t=σ.aV t)->IU P n aU ops o a ⟨(a.put o.dst r).aV,cZ a.heap s c⟩):SQ P n aU ops o σ d ⟨rd,(2*s+1)::dl o,[]⟩where
 frame l hl:=by
  subst e;simp only[da,re]at hl;have:=DW σ o r l hl.2;unfold St.at at this⊢;split
  ·rename_i e;rw[aM e,aM e]at this;exact this
  ·rename_i e;simp only[cZ];rw[Z O]
 go a i _:=by
  have hl:=v7 (f:=⟨rd,(2*s+1)::dl o,[]⟩) g i;have:=go a i hl;have k:ku a d ((2*s+1)::dl o)=⟨(a.put o.dst r).aV,cZ a.heap s c⟩:=by
   subst e;refine St.Gd λl=>?_
   rw[LV];unfold St.at;by_cases j:l%2=0
   ·simp only[j,gT];by_cases b:l∈(2*s+1)::dl o
    ·rw[aM b];have:l∈dl o:=(da.1 b).resolve_left O;rw[show l=2*(l/2)by omega,A5]at this;simp only[rf,this,gT]
    ·rw[Z b];have:¬o.dst=some (l/2):=λh=>b (cv _ (by rw[show l=2*(l/2)by omega];exact A5.2 h))
     simp only[rf,this,lM]
   ·simp only[j,lM];by_cases b:l∈(2*s+1)::dl o
    ·rw[aM b];have I:l=2*s+1:=(da.1 b).resolve_right (λh=>by rw[show l=2*(l/2)+1 by omega]at h;exact LJ h);have:l/2=s:=O;simp only[cZ,this,gT]
    ·rw[Z b];have:¬l/2=s:=λh=>b (by rw[da];exact .inl O)
     simp only[cZ,this,lM]
  rw[k];exact this
def SQ.alloc(e:fA ops o σ)(d:Nat)(b:List V)(h:tS P o σ.ev d b r)(g:jv n o.dst)(a:¬aU d)(f:σ.heap d=none):
 SQ P n aU ops o σ ⟨(σ.put o.dst r).aV,cZ σ.heap d (some b)⟩ ⟨lk ops o,(2*d+1)::dl o,[]⟩:=
 SQ.block d (some b) rfl (λ_ h=>h) λj i c=>.inl ⟨e.congr c,.aDI (h.congr (pq c)) g (by rw[pu (i (2*d+1) (.inr ai)),f]) a⟩
def L_{σ:St}{r:T}:σ.put none r=σ:=rfl
theorem SQ.store(p:fA ops o σ)(t:TypeId)(x y:aw)(g:o.op=.store t x y)(b:o.dst=none)(s a:Nat)(f:List V)(e:E)(m:Nat)
 (j:σ.ev x=.e (.c (.ptr s a)))(i:σ.ev y=.e e)(I:σ.heap s=some f)(k:fg P t=some m)(l:e.cells.length=m)(hlen:a+m<=f.length)(q:dS f=true):
 SQ P n aU ops o σ ⟨σ.aV,cZ σ.heap s (some (kA f a e.cells))⟩ ⟨lk ops o,(2*s+1)::dl o,[]⟩:=
 SQ.block (r:=.any) s (some (kA f a e.cells)) (by rw[b,L_]) (λ_ h=>h) λv u d=>by
  rw[b,L_];refine .inl ⟨p.congr d,.store t x y g b s a f e m ?_ ?_ (by rw[pu (u (2*s+1) (.inr ai)),I]) k l hlen q⟩
  ·rw[pq d x (by simp[g,Op.operands]),j]
  ·rw[pq d y (by simp[g,Op.operands]),i]
end
def V.jD(s:Nat):V->Bool
 |.ptr t _=>t==s
 |.sub t _ _ _=>t==s
 |.db _ a=>a.any λp=>p.1==s
 |.mp t=>t==s
 |.ty t _ _=>t==s
 |_=>false
def E.jD(s:Nat):E->Bool
 |.c v=>v.jD s
 |.agg a=>a.any (V.jD s)
def T.jD(s:Nat):T->Bool
 |.e x=>x.jD s
 |.cE a=>a.any (E.jD s)
 |.any=>false
def V.mK{x:V}:x.jD s=true↔x.bx s:=by cases x<;>simp[V.jD,V.bx]
theorem E.mK{s:Nat}{x:E}:x.jD s=true↔x.bx s:=by
 cases x with
 |c v=>exact V.mK
 |agg a=>simp[E.jD,E.bx,V.mK]
theorem T.mK{s:Nat}{x:T}:x.jD s=true↔x.bx s:=by
 cases x with
 |e v=>exact E.mK
 |cE a=>simp[T.jD,T.bx,E.mK]
 |any=>simp[T.jD,T.bx]
def V.xI{x:V}(h:¬x.bx s):x.cu s=x:=by cases x<;>simp_all[V.cu,V.bx]
theorem Et{s:Nat}:∀{a:List V},(¬ ∃v∈a,v.bx s)->a.map (V.cu s)=a
 |[],_=>rfl
 |x::a,h=>by
  have e:¬ ∃v∈a,v.bx s:=λ⟨v,c,d⟩=>h ⟨v,cv _ c,d⟩
  rw[de,V.xI (λb=>h ⟨x,ai,b⟩),Et e]
theorem E.xI{s:Nat}{x:E}(h:¬x.bx s):x.cu s=x:=by
 cases x with
 |c v=>simp only[E.cu,V.xI h]
 |agg a=>simp only[E.cu,Et h]
theorem VB{s:Nat}:∀{a:List E},(¬ ∃v∈a,v.bx s)->a.map (E.cu s)=a
 |[],_=>rfl
 |x::a,h=>by
  have e:¬ ∃v∈a,v.bx s:=λ⟨v,c,d⟩=>h ⟨v,cv _ c,d⟩
  rw[de,E.xI (λb=>h ⟨x,ai,b⟩),VB e]
theorem T.xI{s:Nat}{x:T}(h:¬x.bx s):x.cu s=x:=by
 cases x with
 |e v=>simp only[T.cu,E.xI h]
 |cE a=>simp only[T.cu,VB h]
 |any=>rfl
def fc.u9{aU:ap}{c b σ2:St}(h:fc P n aU o c b)(g:d_ n aU b σ2):fc P n aU o c σ2:=
 λC d I a w R K Q hK=>h C d I a w R K Q λe f i=>hK e f (g C d I e f i)
def d_.Ol{aU:ap}{b:St}{e:Nat->T}(h:∀i,e i=b.aV i\/e i=.any):d_ n aU b ⟨e,b.heap⟩:=by
 intro C d I a w ⟨c,R⟩;refine⟨c,R.mem,λi=>?_,R.aN,R.aX,R.aU,R.defers,R.size⟩;rcases h i with h|h
 ·show cr _ _ _ (e i) _;rw[h];exact R.aV i
 ·show cr _ _ _ (e i) _;rw[h];trivial
def d_.aFL{aU:ap}{z:St}(s s' d k K:Nat){cs:List V}(hd:z.aV d=.e (.c (.sub s k 0 K)))(he:∀i,i≠d->¬(z.aV i).bx s)(hh:∀u cs,z.heap u=some cs->¬ ∃v∈cs,v.bx s)
 (I:z.heap s=some cs)(D:z.heap s'=none)(hst:¬aU s)(L:¬aU s'):
 d_ n aU z ⟨gV z.aV d (.e (.c (.sub s' k 0 K))),λu=>if u=s' then some cs else if u=s then none else z.heap u⟩:=by
 intro C hn p a w ⟨A,R⟩;have hne:s≠s':=by rintro rfl;rw[I]at D;cases D
 have M:A s'=none:=R.mem.ic s' D
 let f:G:=λu=>if u=s' then A s else if u=s then none else A u
 have N:f s'=A s:=by simp[f]
 have g2:f s=none:=by simp[f,hne]
 have g3:∀u,u≠s'->u≠s->f u=A u:=λu g j=>by simp[f,g,j]
 have q:∀u,u≠s->A u≠none->f u=A u:=λu g j=>g3 u (by rintro rfl;exact j M) g
 have r:∀u b,f u=some b->∃t,A t=some b/\(u=s'/\t=s\/u≠s'/\u≠s/\t=u):=by
  intro u b h;by_cases g:u=s'
  ·subst g;exact⟨s,by rw[<-N];exact h,.inl ⟨rfl,rfl⟩⟩
  ·by_cases j:u=s
   ·subst j;rw[g2]at h;cases h
   ·exact⟨u,by rw[<-g3 u g j];exact h,.inr ⟨g,j,rfl⟩⟩
 have E:lz C.M A f w w:=by refine⟨bK _,λ_ _=>rfl,λb hb u hu=>?_,λ_ cells _ h=>⟨cells,h,rfl⟩⟩;obtain⟨t,T,_⟩:=r u _ hu;exact hb.2.2 t T
 refine⟨f,⟨R.mem.iF,λu v b g j=>?_,λu b g=>?_,λu h=>?_,λu cs0 h=>?_,R.mem.jO.dR E⟩,λi=>?_,R.aN,λu b h=>?_,λu h=>?_,R.defers,R.size⟩
 ·obtain⟨P,l,c1⟩:=r u _ g;obtain⟨t2,y,c2⟩:=r v _ j;have:=R.mem.inj P t2 b l y;omega
 ·obtain⟨P,l,_⟩:=r u _ g;exact R.mem.nm P b l
 ·simp only at h;split at h
  ·cases h
  ·split at h
   ·rename_i e;rw[e];exact g2
   ·rename_i l y;rw[g3 u l y];exact R.mem.ic u h
 ·simp only at h;have tr:∀t m,z.heap t=some m->f u=A t->(∃(b:Nat)(ty:TypeId)(U spare:au),f u=some (some b)/\w.heap[b]?=some (.cells (U++spare).toArray ty (0,0))/\bW w C.M f m U)\/(f u=some none/\m=[])\/(∃(b:Nat)(B:Array MapEntry)(H:Nat),f u=some (some b)/\w.heap[b]?=some (.map B H)/\m=[.eY (B.toList.map λe=>(e.key,e.val))]):=by
   intro t m T hg;rcases R.mem.gR t m T with⟨b,ty,U,sp,l,y,X⟩|⟨l,y⟩|⟨b,en,H,l,y,X⟩
   ·exact .inl ⟨b,ty,U,sp,hg.trans l,y,X.dR E λx Q=>q x (by rintro rfl;exact hh t m T Q) (X.named x Q)⟩
   ·exact .inr (.inl ⟨hg.trans l,y⟩)
   ·exact .inr (.inr ⟨b,en,H,hg.trans l,y,X⟩)
  split at h
  ·rename_i e;subst e;injection h with h;subst h
   exact tr s cs I N
  ·split at h
   ·cases h
   ·rename_i l y;exact tr u cs0 h (g3 u l y)
 ·show cr w C.M f (gV z.aV d _ i) _;unfold gV;split
  ·rename_i e;subst e;have g:=R.aV i;rw[hd]at g;rcases g with⟨b,cap,cells,t,g,j⟩|⟨g,j⟩|⟨b,o,g,j⟩
   ·exact .inl ⟨b,cap,cells,t,N.trans g,j⟩
   ·exact .inr (.inl ⟨N.trans g,j⟩)
   ·exact .inr (.inr ⟨b,o,N.trans g,j⟩)
  ·rename_i e;exact(R.aV i).dR E λx Q=>q x (by rintro rfl;exact he i e Q) ((R.aV i).named x Q)
 ·obtain⟨P,l,_⟩:=r u _ h;exact R.aX P b l
 ·rw[p]at h;rw[g3 u (by rintro rfl;exact L h) (by rintro rfl;exact hst h)];exact R.aU u (by rw[p];exact h)
def ah8{a:fF}{x:T}(h:∀s,x.bx s->a s=H s):mN k a x=mN k H x:=by unfold mN;split<;>first|rfl|rename_i s _ _ _;rw[h s rfl]|skip
def jK(l:aq):List Nat:=l.map λs=>2*s+1
def pn(l:aq):List Nat:=l.map λs=>2*s
def r9:2*i∈pn l↔i∈l:=by
 simp only[pn,b_];constructor
 ·rintro⟨j,a,h⟩;have:j=i:=O;exact this▸a
 ·exact λh=>⟨i,h,rfl⟩
def nW:2*i+1∈jK l↔i∈l:=by
 simp only[jK,b_];constructor
 ·rintro⟨j,a,h⟩;have:j=i:=O;exact this▸a
 ·exact λh=>⟨i,h,rfl⟩
def C9:2*i∉jK l:=by simp only[jK,b_];rintro⟨j,a,h⟩;omega
def DB:2*i+1∉pn l:=by simp only[pn,b_];rintro⟨j,a,h⟩;omega
def Cp(a:St)(d s c k b:Nat)(h:List V)(g f:aq):St:=
 ⟨gV (λi=>if i∈g then .any else a.aV i) d (.e (.c (.sub c k 0 b))),λu=>if u=c then some h else if u=s then none else if u∈f then(a.heap u).map (List.map (V.cu s))else a.heap u⟩
theorem SQ.append{P:ax}{n:Nat}{aU:ap}{q:av}{o:Oper}{σ:St}(hg:fA q o σ)(x y:aw)(t:TypeId)(ho:o.op=.call { callee:=.builtin .append,args:=#[x,y],argTypes:=#[t,t]})
 (d s k b:Nat)(hdst:o.dst=some d)(cs news:List V)(m:Nat)(hx:σ.ev x=.e (.c (.sub s k 0 b)))(I:σ.heap s=some cs)(hcs:cs.length=b*k)(hy:mN k σ.heap (σ.ev y)=some (news,m))
 (e:TypeId)(bytes:Nat)(zs:List V)(ht:jA P t=some e)(hk:fg P e=some k)(hb:oQ P e=some bytes)(hz:jQ P e=some zs)(hzk:zs.length=k)
 (hcn:∀v∈cs,¬v.bx s)(N:∀v∈news,¬v.bx s)(X:(b+m)*bytes<=140737488355328)(Q:b+m<=140737488355328)(L:¬aU s)(hd:d<n)
 (c:Nat)(hc:σ.heap c=none)(K:¬aU c)(r A yl:aq)(hyl:∀u,(σ.ev y).bx u->u∈yl):
 SQ P n aU q o σ (Cp σ d s c k (b+m) (cs++news) r A) ⟨lk q o++jK yl,pn (d::r)++jK (c::s::A),[s]⟩where
 frame l hl:=by
  simp only[cq,re]at hl;unfold St.at Cp;split
  ·rename_i e0;have e1:l=2*(l/2):=O;rw[e1,r9,da,re]at hl;simp only[gV];rw[Z hl.1.1,Z hl.1.2]
  ·rename_i e0;have e1:l=2*(l/2)+1:=O;rw[e1,nW,da,da,re,re]at hl;simp only;rw[Z hl.2.1,Z hl.2.2.1,Z hl.2.2.2]
 go g D h2:=by
  have U:∀t∈looks q o,g.aV t=σ.aV t:=v7 (f:=⟨lk q o++jK yl,pn (d::r)++jK (c::s::A),[s]⟩) (λl h=>cq.2 (.inl h)) D;have hev:=pq U;have p:∀u,u∈c::s::A->g.heap u=σ.heap u:=λu j=>pu (D _ (.inr (cq.2 (.inr (nW.2 j)))))
  have hyh:∀u,u∈yl->g.heap u=σ.heap u:=λu j=>pu (D _ (.inl (cq.2 (.inr (nW.2 j)))))
  have hx':g.ev x=.e (.c (.sub s k 0 b)):=by rw[hev x (by simp[ho,Op.operands,Call.operands]),hx]
  have hy':mN k g.heap (g.ev y)=some (news,m):=by rw[hev y (by simp[ho,Op.operands,Call.operands]),ah8 (H:=σ.heap) (λu j=>hyh u (hyl u j)),hy]
  have M:s≠c:=by rintro rfl;rw[I]at hc;cases hc
  have st:=fc.append (P:=P) (aU:=aU) (σ:=g) x y t ho d s k b hdst cs news m hx' (by rw[p s ai,I]) hcs hy' e bytes zs ht hk hb hz hzk hcn N X Q L hd;have hkE:∀i,i∉d::r->(g.aV i).cu s=g.aV i:=λi B=>T.xI λz=>h2 s ai (2*i) (by simp only[cq,r9];rintro(h|h);exact B h;exact C9 h) (by rw[As];exact z)
  have hkH:∀u,u∉c::s::A->(g.heap u).map (List.map (V.cu s))=g.heap u:=by
   intro u j;cases G:g.heap u with
   |none=>rfl
   |some cs0=>
    simp only[dP,cS];refine Et λz=>h2 s ai (2*u+1) (by simp only[cq,nW];rintro(h|h);exact DB h;exact j h) ?_
    rw[Au,G];exact z
  refine .inl ⟨hg.congr U,st.u9 ?_⟩;refine d_.trans (d_.Ol (e:=gV (λi=>if i∈r then .any else(g.aV i).cu s) d (.e (.c (.sub s k 0 (b+m))))) (λi=>?_)) ?_
  ·simp only[gV];split
   ·exact .inl rfl
   ·split
    ·exact .inr rfl
    ·exact .inl rfl
  ·refine d_.trans (d_.aFL s c d k (b+m) (cs:=cs++news) (by simp[gV]) (λi B=>?_) (λu cs0 j=>?_) (by simp[cZ]) ?_ L K) ?_
   ·simp only[gV,B,lM];split
    ·exact λh=>h
    ·exact T.tj _ s
   ·simp only[cZ]at j;split at j
    ·injection j with j;subst j
     rintro⟨v,G,z⟩;rcases cq.1 G with h|h
     ·exact hcn v h z
     ·exact N v h z
    ·rw[gN]at j;obtain⟨cs1,_,rfl⟩:=j;rintro⟨v,G,z⟩;simp only[b_]at G;obtain⟨v0,_,rfl⟩:=G;exact v0.tj s z
   ·simp only[cZ,M.symm,lM,p c ai,hc,IW]
   ·have:ku g (Cp σ d s c k (b+m) (cs++news) r A) (pn (d::r)++jK (c::s::A))=
     ⟨gV (gV (λi=>if i∈r then .any else(g.aV i).cu s) d (.e (.c (.sub s k 0 (b+m))))) d (.e (.c (.sub c k 0 (b+m)))),
      λu=>if u=c then some (cs++news)else if u=s then none else cZ (λu=>(g.heap u).map (List.map (V.cu s))) s (some (cs++news)) u⟩:=by
     simp only[ku,St.mk.injEq];constructor
     ·funext i;simp only[cq,r9,C9,or_false,Cp,gV];by_cases B:i=d
      ·simp[B]
      ·by_cases E:i∈r
       ·simp[B,E]
       ·have:=hkE i (by simp[B,E]);simp[B,E,this]
     ·funext u;simp only[cq,nW,DB,false_or,Cp,cZ];by_cases D:u=c
      ·simp[D]
      ·by_cases h2:u=s
       ·simp[h2,M]
       ·by_cases h3:u∈A
        ·simp[D,h2,h3,p u (by simp[h3])]
        ·have:=hkH u (by simp[D,h2,h3]);simp[D,h2,h3,this]
    rw[this];exact λC z I a w R=>R
def dD.ad6{y:St}{w':World}(R:dD C U y a w){Q:List V}{r:T}{vs spare:au}(hd:jv C.nt o.dst)(X:y.heap n=none)(E:¬C.aU n)
 (p:fY q_ w w')(hb:w.heap.size<=i)(H:w'.heap[i]?=some (.cells (vs++spare).toArray t (0,0)))(z:bW w C.M U Q vs)(hr:cr w' C.M (dZ U n (some i)) r v):
 gO C ⟨(y.put o.dst r).aV,cZ y.heap n (some Q)⟩ (a.put o.dst v) w':=by
 refine⟨dZ U n (some i),?_⟩;have A:U n=none:=R.mem.ic n X;have k:lz C.M U (dZ U n (some i)) w w':=by
  refine⟨p.size,λx q=>p.same x q.1 (λh=>h),λx q s=>?_,p.jb⟩;unfold dZ;split
  ·intro e;injection e with e;injection e with e;have:=q.1;omega
  ·exact q.2.2 s
 have g:∀s,U s≠none->dZ U n (some i) s=U s:=by intro s I;unfold dZ;rw[Z (by rintro rfl;exact I A)]
 refine⟨⟨λx q=>mz (R.mem.iF x q) p.size,?_,?_,?_,?_,R.mem.jO.dR k⟩,λc=>?_,R.aN.trans p (λ_ _ h=>h) (λ_ _ h=>h.elim),?_,?_,?_,?_⟩
 ·intro s K x f l;unfold dZ at f l;split at f<;>split at l
  ·omega
  ·injection f with f;injection f with f;have:=R.mem.lt l;omega
  ·injection l with l;injection l with l;have:=R.mem.lt f;omega
  ·exact R.mem.inj s K x f l
 ·intro s x f;unfold dZ at f;split at f
  ·injection f with f;injection f with f;intro hM;have:=R.mem.iF x hM;omega
  ·exact R.mem.nm s x f
 ·intro s I;simp only[cZ]at I;unfold dZ;split at I
  ·cases I
  ·rw[Z Y];exact R.mem.ic s I
 ·intro s L I;simp only[cZ]at I;split at I
  ·rename_i e;subst e;injection I with I;subst I
   exact .inl ⟨i,t,vs,spare,by simp[dZ],H,z.dR k λs I=>g s (z.named s I)⟩
  ·rename_i hne;rcases R.mem.gR s L I with⟨B,K,M,N,m,j,u⟩|⟨m,u⟩|⟨B,en,P,m,j,u⟩
   ·exact .inl ⟨B,K,M,N,by rw[g s (by rw[m];simp)];exact m,(p.same B (jy j) (λh=>h)).trans j,u.dR k λs I=>g s (u.named s I)⟩
   ·exact .inr (.inl ⟨by rw[g s (by rw[m];simp)];exact m,u⟩)
   ·exact .inr (.inr ⟨B,en,P,by rw[g s (by rw[m];simp)];exact m,(p.same B (jy j) (λh=>h)).trans j,u⟩)
 ·rw[vS _ _ _ _ (by rw[R.size];exact hd)];show cr _ _ _ ((y.put o.dst r).aV c) _;rw[rf];split
  ·exact hr
  ·exact(R.aV c).dR k λs I=>g s ((R.aV c).named s I)
 ·intro s x f;unfold dZ at f;split at f
  ·injection f with f;injection f with f;have:=R.aN.size;exact .inr O
  ·exact R.aX s x f
 ·intro s D;have:=R.aU s D;unfold dZ;rw[Z (by rintro rfl;exact E D)];exact this
 ·rw[wx];exact R.defers
 ·rw[uS];exact R.size
def acC(w:World)(o:Obj):fY q_ w (w.drew.alloc o):=
 ⟨rfl,rfl,rfl,Nat.le_succ _,by have:=(q7 w.drew o).size;exact this,λb a h=>(q7 w.drew o).same b a h,λb cells t h=>(q7 w.drew o).jb b cells t h⟩
def fc.On{P:ax}{aU:ap}{b:St}(x y:aw)(t:TypeId)(L:o.op=.call { callee:=.builtin .append,args:=#[x,y],argTypes:=#[t,t]})
 (k:Nat)(news:List V)(m:Nat)(M:b.ev x=.e (.c (.d (.sc (.slice none 0 0)))))(N:mN k b.heap (b.ev y)=some (news,m))(hm0:m≠0)
 (e:TypeId)(bytes:Nat)(G:List V)(T:jA P t=some e)(hk:fg P e=some k)(hb:oQ P e=some bytes)(U:jQ P e=some G)(s:G.length=k)
 (h:m*bytes<=140737488355328)(H:m<=140737488355328)(c:Nat)(hc:b.heap c=none)(u:¬aU c)(hd:jv n o.dst):
 fc P n aU o b ⟨(b.put o.dst (.e (.c (.sub c k 0 m)))).aV,cZ b.heap c (some news)⟩:=by
 intro C hn f a w ⟨γ,R⟩ K Q hK;have r:=R.ev x;rw[M]at r;have z:a.eval x=.slice none 0 0:=iw r;obtain⟨B,cc,us,D,i,E,j⟩:=MK R.mem N (R.ev y);have g:m<=maxLen:=by simp only[maxLen];omega
 obtain⟨X,w',l,p⟩:=Fg (P:=P) (w:=w) o.type T hk hb U s (A:=none) (len:=0) (cap:=0) (vs:=[]) (spare:=[]) (B:=B) (m:=m) (c:=cc) (us:=us)
  (.inr ⟨rfl,rfl⟩) (bK _) (dz _) ai E j i.xP (an h) (an g)
 refine mn (v:=X) (w':=w') (Gc L (by rw[z,D];exact l)) ?_;rcases p with⟨_,hle,_⟩|⟨q,rest,rfl,r,h2,h3,rfl⟩
 ·omega
 ·refine hK _ _ (R.ad6 (by rw[hn];exact hd) hc (by rw[f];exact u) (acC _ _) (bK _) (t:=e) (vs:=us) (spare:=rest) ?_ i ?_)
  ·have:=ou w.drew (.cells (([]++us)++rest).toArray e);simpa using this
  ·refine .inl ⟨w.heap.size,q,((([]:au)++us)++rest).toArray,e,by simp[dZ],ai,by simpa using r,h2,ou w.drew _,by simpa using h3⟩
def ah7{x:T}{b c:St}(a:∀u,x.bx u->u∈l)(h:∀u,u∈l->b.heap u=c.heap u)(d:H=c.heap):mN k b.heap x=mN k H x:=by subst d;exact ah8 λu e=>h u (a u e)
theorem SQ.On{P:ax}{n:Nat}{aU:ap}{b:av}{o:Oper}{a:St}(L:fA b o a)(x y:aw)(t:TypeId)(w:o.op=.call { callee:=.builtin .append,args:=#[x,y],argTypes:=#[t,t]})
 (k:Nat)(news:List V)(m:Nat)(E:a.ev x=.e (.c (.d (.sc (.slice none 0 0)))))(D:mN k a.heap (a.ev y)=some (news,m))(z:m≠0)
 (e:TypeId)(bytes:Nat)(l:List V)(H:jA P t=some e)(K:fg P e=some k)(Q:oQ P e=some bytes)(C:jQ P e=some l)(q:l.length=k)
 (i:m*bytes<=140737488355328)(f:m<=140737488355328)(c:Nat)(N:a.heap c=none)(v:¬aU c)(M:jv n o.dst)(p:aq)(r:∀u,(a.ev y).bx u->u∈p):
 SQ P n aU b o a ⟨(a.put o.dst (.e (.c (.sub c k 0 m)))).aV,cZ a.heap c (some news)⟩ ⟨lk b o++jK p,(2*c+1)::dl o,[]⟩:=
 SQ.block c (some news) rfl (λ_ h=>cq.2 (.inl h)) λB A g=>by
  have s:∀u,u∈p->B.heap u=a.heap u:=λu G=>pu (A _ (.inl (cq.2 (.inr (nW.2 G)))))
  have j:=pq g;refine .inl ⟨L.congr g,.On x y t w k news m ?_ ?_ z e bytes l H K Q C q i f c (by rw[pu (A (2*c+1) (.inr ai)),N]) v M⟩
  ·rw[j x (by simp[w,Op.operands,Call.operands]),E]
  ·rw[j y (by simp[w,Op.operands,Call.operands]),ah7 r s rfl,D]
theorem SQ.copy{P:ax}{n:Nat}{aU:ap}{g:av}{o:Oper}{σ:St}(K:fA g o σ)(x y:aw)(t A:TypeId)(v:o.op=.call { callee:=.builtin .copy,args:=#[x,y],argTypes:=#[t,A]})
 (s k b a:Nat)(l f:List V)(m:Nat)(D:σ.ev x=.e (.c (.sub s k b a)))(I:σ.heap s=some l)(w:b+a*k<=l.length)(C:mN k σ.heap (σ.ev y)=some (f,m))
 (e:TypeId)(G:jA P t=some e)(H:fg P e=some k)(L:jv n o.dst)(p:aq)(q:∀u,(σ.ev y).bx u->u∈p):
 SQ P n aU g o σ ⟨(σ.put o.dst (.e (.c (.d (.sc (.int .i64 (min m a:Nat))))))).aV,cZ σ.heap s (some (kA l b (f.take (min m a*k))))⟩ ⟨lk g o++jK p,(2*s+1)::dl o,[]⟩:=
 SQ.block s _ rfl (λ_ h=>cq.2 (.inl h)) λz B i=>by
  have r:∀u,u∈p->z.heap u=σ.heap u:=λu E=>pu (B _ (.inl (cq.2 (.inr (nW.2 E)))))
  have j:=pq i;refine .inl ⟨K.congr i,?_⟩
  have:=fc.copy (P:=P) (n:=n) (aU:=aU) (σ:=z) x y t A v s k b a l f m (by rw[j x (by simp[v,Op.operands,Call.operands]),D]) (by rw[pu (B (2*s+1) (.inr ai)),I]) w
   (by rw[j y (by simp[v,Op.operands,Call.operands]),ah7 q r rfl,C]) e G H L
  exact this
def xu(s:az):List Value:=s.data.toList.map λb=>.int .u8 b.toNat
def sZ(s:az):List V:=s.data.toList.map λb=>.d (.sc (.int .u8 b.toNat))
def apD(s:az):(xu s).length=s.size:=by unfold xu;rw[eh];rfl
def awi(w:World)(k:Nat)(s:az):(Builtin.firstCells k s.size (.string s)).run P w=.ok (xu s).toArray w:=by simp[Builtin.firstCells];apply mQ;simp[xu]
def ah9{m:Nat}{news:List V}{a:az}{l:Operand->T}(h:k=1)(b:news=sZ a)(p:m=a.size)(q:l y=.e (.c (.d (.sc (.string a)))))(n:cr w M U (l y) v):
 ∃j:List Value,j=xu a/\v=.string a/\bW w M U news j/\j.length=m*k:=by
 rw[q]at n;refine⟨xu a,rfl,iw n,?_,by rw[apD,h,p];omega⟩;subst b;refine⟨by simp[xu,sZ],λi x u f g=>?_⟩;simp only[sZ,xu,eC]at f g;cases o:a.data.toList[i]? with
 |none=>rw[o]at f;simp at f
 |some c=>rw[o]at f g;simp only[dP,cS]at f g;subst f;subst g;exact dN.sc _ rfl
def aaT{w':World}(b:o.op=.call { callee:=.builtin .append,args:=#[x,y],argTypes:=#[t,u]})
 (h:(Builtin.append_ #[t,u] o.type #[a.eval x,a.eval y]).run P w=.ok v w'):(execOp a.eval o).run P w=.ok (.value v) w':=by
 simp[execOp,b,resolve,invoke,builtin,h]
def Xq{P:ax}{zs:List V}(ty:TypeId)(ht:jA P t=some u)(hk:fg P u=some k)(hb:oQ P u=some n)(hz:jQ P u=some zs)(hzk:zs.length=k)
 {u0:TypeId}(hu0:rr P u0=true)(p:az){m:Nat}{us:au}(hk1:k=1)(hm:m=p.size)(H:us=xu p)
 {A:Option Addr}{len cap:Nat}{vs spare:au}
 (K:(∃(b:Nat)(x:TypeId),A=some ⟨b,0,none⟩/\w.heap[b]?=some (.cells (vs++spare).toArray x (0,0))/\cap*k<=(vs++spare).length)\/(len=0/\cap=0))
 (L:len<=cap)(hcap:cap<=maxLen)(q:vs.length=len*k)
 (M:us.length=m*k)(h1:∀c∈us,c.oneCell'=true)
 (N:(len+m)*n<=140737488355328)(v:len+m<=maxLen):
 ∃o f,(Builtin.append_ #[t,u0] ty #[.slice A len cap,.string p]).run P w=.ok o f/\
  ((o=.slice A (len+m) cap/\len+m<=cap/\((m=0/\f=w)\/(∃b x,A=some ⟨b,0,none⟩/\w.heap[b]?=some (.cells (vs++spare).toArray x (0,0))/\us.length<=spare.length/\f=w.setRow b ((vs++us)++spare.drop us.length).toArray)))\/
   (∃d rest,o=.slice (some ⟨w.heap.size,0,none⟩) (len+m) d/\len+m<=d/\d<=maxLen/\d*k<=((vs++us)++rest).length/\f=w.drew.alloc (.cells ((vs++us)++rest).toArray u))):=by
 obtain⟨i,z,z0,hi,hzi,hsz,hby,hzc,hze,ha⟩:=Uk hk hb hz;have hzl:z.cells.size=k:=by rw[hzc,<-hzk,hze];simp
 have hu:=tK ht;have r:=Uz hu0;have hmax':len+m<=9223372036854775807:=by simp only[maxLen]at v;omega
 subst hsz;have B:∀w:World,(Builtin.firstCells i.size m (.string p)).run P w=.ok us.toArray w:=λw=>by rw[H,hm];exact awi w _ p
 by_cases s:m=0
 ·have Q:us=[]:=fR (by rw[M,s];simp);have R:p.size=0:=O;have T:=B w;rw[Q,s]at T;refine⟨.slice A len cap,w,?_,.inl ⟨by simp[s],O,.inl ⟨s,rfl⟩⟩⟩;cases A with
  |none=>simp[Builtin.append_,run_underlying hu,run_underlying r,sizeOf,typeInfo,hi,Builtin.lenOf,L,T,R]
  |some a=>simp[Builtin.append_,run_underlying hu,run_underlying r,sizeOf,typeInfo,hi,Builtin.lenOf,L,T,R,storeCells]
 ·have C:∀D,D<len+m->Builtin.nextslicecap (len+m) D*i.bytes<=281474976710656:=λD ho=>growslice_fits ho (by rw[hby];exact N)
  have h:∀(U:cap<len+m),(∀f:World,(∀b:Nat,f.heap[b]?=w.heap[b]?)->(Builtin.firstCells i.size len (.slice A len cap)).run P f=.ok vs.toArray f)->
   ∃o f,(Builtin.append_ #[t,u0] ty #[.slice A len cap,.string p]).run P w=.ok o f/\
    (∃d rest,o=.slice (some ⟨w.heap.size,0,none⟩) (len+m) d/\len+m<=d/\d<=maxLen/\d*i.size<=((vs++us)++rest).length/\f=w.drew.alloc (.cells ((vs++us)++rest).toArray u)):=by
   intro U hold;have hn:¬(len+m<=cap):=O;have h63':¬(9223372036854775807<((len:Int)+(m:Int))):=O;have h48':¬(281474976710656<Builtin.nextslicecap (len+m) cap*i.bytes):=by have:=C cap U;omega
   have T:=B w.drew;have hfo:=hold w.drew (λ_=>rfl);have E:p.size=m:=hm.symm
   refine⟨.slice (some ⟨w.heap.size,0,none⟩) (len+m) (grownCap w (len+m) cap u),w.drew.alloc (.cells ((vs++us)++(Builtin.zeroCells z.cells (grownCap w (len+m) cap u-(len+m))).toList).toArray u),?_,
    grownCap w (len+m) cap u,(Builtin.zeroCells z.cells (grownCap w (len+m) cap u-(len+m))).toList,rfl,grownCap_ge _ _ _ _,grownCap_le_maxLen _ _ _ _ v,?_,rfl⟩
   ·simp[Builtin.append_,run_underlying hu,run_underlying r,sizeOf,typeInfo,zeroValue,hi,hzi,Builtin.lenOf,E,hn,h63',h48',Question.forced,T,hfo,newRow,grownCap];try(congr 2;apply mQ;simp[gM])
   ·have hge:=grownCap_ge w (len+m) cap u;simp only[cX,q,M,BK,size_zeroCells,hzl,<-iN];apply jS;omega
  rcases K with⟨b,x,rfl,G,hcs⟩|⟨rfl,rfl⟩
  ·by_cases g:len+m<=cap
   ·have l:len*i.size+us.length<=(vs++spare).toArray.size:=by have:(len+m)*i.size<=cap*i.size:=jS _ g;rw[iN]at this;simp only[List.size_toArray];omega
    have hff:=B w;have X:=run_storeCells_at P b (len*i.size) x us 0 (vs++spare).toArray w G (an l) h1;simp only[uc]at X;have hsl:us.length<=spare.length:=by simp at l;omega
    have hrow:(vs++spare).take (len*i.size)++us++(vs++spare).drop (len*i.size+us.length)=(vs++us)++spare.drop us.length:=by
     rw[<-q,List.take_left',Ip,Iq O]
     ·simp
     ·rfl
    have E:p.size=m:=hm.symm;refine⟨_,w.setRow b ((vs++us)++spare.drop us.length).toArray,?_,.inl ⟨rfl,g,.inr ⟨b,x,rfl,G,hsl,rfl⟩⟩⟩;rw[<-hrow];simp[Builtin.append_,run_underlying hu,run_underlying r,sizeOf,typeInfo,hi,Builtin.lenOf,E,g,hff,Addr.add_lit,X]
   ·obtain⟨o,f,hr,h2⟩:=h O (λf hw'=>by refine run_firstCells_some (P:=P) f i.size len ⟨b,0,none⟩ len cap vs q (λj c hj=>?_);have hb0':f.heap[b]?=some (.cells (vs++spare).toArray x (0,0)):=(hw' b).trans G;rw[uH,ol,y4 hb0'];exact Gp hj)
    exact⟨o,f,hr,.inr h2⟩
  ·have hvs:vs=[]:=fR (an q);subst hvs;obtain⟨o,f,hr,h2⟩:=h O (λf _=>by cases A<;>simp[Builtin.firstCells,loadCells,loadCellsFrom])
   exact⟨o,f,hr,.inr h2⟩
end Go.Ab
