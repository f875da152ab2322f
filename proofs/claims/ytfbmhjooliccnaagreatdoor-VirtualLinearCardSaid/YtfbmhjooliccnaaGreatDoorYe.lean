/- A part of the proof of VirtualLinear: Sy19 to Sy21. No condition. -/
import Derived.Test.YtfbmhjooliccnaaGreatDoorYd
set_option linter.all false
set_option maxRecDepth 100000
set_option maxHeartbeats 60000000
noncomputable section
namespace Go.Ab
open Go Go.RowKit
variable {s:Nat}{M:Nat→Prop}{X:Nat→Nat}{R:aq}
def V.rn(b:Nat->Nat):V->V
 |.ptr s a=>.ptr (b s) a
 |.sub s k a e=>.sub (b s) k a e
 |.db f c=>.db f (c.map λp=>(b p.1,p.2))
 |.mp s=>.mp (b s)
 |.ty s t g=>.ty (b s) t g
 |v=>v
def E.rn(a:Nat->Nat):E->E
 |.c v=>.c (v.rn a)
 |.agg b=>.agg (b.map (V.rn a))
def T.rn(a:Nat->Nat):T->T
 |.e x=>.e (x.rn a)
 |.cE b=>.cE (b.map (E.rn a))
 |.any=>.any
def V.Hi(a:Nat->Nat)(x:V):x.rn a=x.eO (λs=>some (a s)):=by cases x<;>simp[V.rn,V.eO]
theorem E.Hi(a:Nat->Nat)(x:E):x.rn a=x.eO (λs=>some (a s)):=by
 cases x with
 |c v=>simp only[E.rn,E.eO,V.Hi]
 |agg b=>simp only[E.rn,E.eO];congr 1;apply mw;intro v _;exact V.Hi a v
def dQ.vJ{w:World}{z l:G}{x:V}{v:Value}(h:dQ w M z x v)(g:∀c,l (X c)=z c)(m:∀b,dc w M z b->dc w M l b):dQ w M l (x.rn X) v:=by
 cases x with
 |d x=>exact dN.mono h m (λ_ _=>rfl)
 |gU ds=>obtain⟨a,e,A,I,K⟩:=h;exact⟨a,e,A,m _ I,λj x L=>by obtain⟨u,N,P⟩:=K j x L;exact⟨u,N,P.mono m (λ_ _=>rfl)⟩⟩
 |any=>exact h
 |eY es=>exact h
 |ptr s B=>obtain⟨b,n,e⟩:=h;exact⟨b,(g s).trans n,e⟩
 |mp s=>obtain⟨b,n,e⟩:=h;exact⟨b,(g s).trans n,e⟩
 |ty s t sl=>obtain⟨b,cells,n,e⟩:=h;exact⟨b,cells,(g s).trans n,e⟩
 |sub s k B Q=>
  rcases h with⟨b,C,cells,ty,r,y⟩|⟨r,y⟩|⟨b,o,r,y⟩
  ·exact .inl ⟨b,C,cells,ty,(g s).trans r,y⟩
  ·exact .inr (.inl ⟨(g s).trans r,y⟩)
  ·exact .inr (.inr ⟨b,o,(g s).trans r,y⟩)
 |db f E=>obtain⟨cs,e,R,T⟩:=h;refine⟨cs,e,by simpa using R,λi p c H D=>?_⟩;rw[eC,gN]at H;obtain⟨q,U,rfl⟩:=H;obtain⟨b,n,e'⟩:=T i q c U D;exact⟨b,(g q.1).trans n,e'⟩
theorem bW.vJ{w:World}{M:ap}{d a:G}{g:Nat->Nat}{j:List V}{vs:au}(h:bW w M d j vs)(e:∀c,a (g c)=d c)(f:∀b,dc w M d b->dc w M a b):bW w M a (j.map (V.rn g)) vs:=by refine⟨by simpa using h.1,λi x u k m=>?_⟩;rw[eC,gN]at k;obtain⟨y,l,rfl⟩:=k;exact(h.2 i y u l m).vJ e f
theorem eK.vJ{w:World}{M:ap}{g a:G}{i:Nat->Nat}{x:E}{v:Value}(h:eK w M g x v)(d:∀c,a (i c)=g c)(f:∀b,dc w M g b->dc w M a b):eK w M a (x.rn i) v:=by
 cases x with
 |c x=>exact dQ.vJ h d f
 |agg l=>obtain⟨j,e,k⟩:=h;exact⟨j,e,k.vJ d f⟩
theorem cr.vJ{w:World}{M:ap}{g a:G}{j:Nat->Nat}{x:T}{v:Value}(h:cr w M g x v)(d:∀c,a (j c)=g c)(f:∀b,dc w M g b->dc w M a b):cr w M a (x.rn j) v:=by
 cases x with
 |e x=>exact eK.vJ h d f
 |cE q=>obtain⟨l,e,o,p⟩:=h;refine⟨l,e,by simpa using o,λi x u k n=>?_⟩;rw[eC,gN]at k;obtain⟨y,m,rfl⟩:=k;exact(p i y u m n).vJ d f
 |any=>trivial
def dA.rename{P:ax}{f:FuncId}{H H' K K':fF}{args:List E}{aU stay':ap}{r:T}(h:dA P f H args H' aU r)(j:Nat->Nat)(inj:∀a b,j a=j b->a=b)
 (hK:∀c,K (j c)=(H c).map (List.map (V.rn j)))(hK0:∀s,K s≠none->∃c,j c=s)(hK':∀c,K' (j c)=(H' c).map (List.map (V.rn j)))(hK0':∀s,K' s≠none->∃c,j c=s)
 (I:∀s,stay' s->∃c,j c=s/\aU c):dA P f K (args.map (E.rn j)) K' stay' (r.rn j):=by
 refine⟨h.1,λM γ w vals R ha=>?_⟩
 let BJ:G:=λc=>γ (j c)
 have z:∀b,dc w M γ b->dc w M BJ b:=λb p=>⟨p.1,p.2.1,λs=>p.2.2 (j s)⟩
 have hun:∀{U:List V}{vs:au},bW w M γ (U.map (V.rn j)) vs->bW w M BJ U vs:=λ{U vs} k=>by
  have e:U.map (V.rn j)=U.map (V.eO (λs=>some (j s))):=mw λx _=>V.Hi j x
  rw[e]at k;exact k.tL (λs _=>rfl) z
 have hmem:Mem M BJ H w:=by
  refine⟨R.iF,λs t b x y=>inj _ _ (R.inj _ _ b x y),λs b x=>R.nm _ b x,λs e=>R.ic _ (by rw[hK,e];rfl),λs cs e=>?_,R.jO.to z (λ_ _=>rfl)⟩;rcases R.gR (j s) (cs.map (V.rn j)) (by rw[hK,e];rfl)with⟨b,t,vs,sp,q,B,D⟩|⟨q,B⟩|⟨b,en,L,q,B,D⟩
  ·exact .inl ⟨b,t,vs,sp,q,B,hun D⟩
  ·exact .inr (.inl ⟨q,List.map_eq_nil_iff.1 B⟩)
  ·refine .inr (.inr ⟨b,en,L,q,B,?_⟩);cases cs with
   |nil=>simp at D
   |cons x r=>simp only[de,List.cons.injEq,List.map_eq_nil_iff]at D;obtain⟨e1,rfl⟩:=D;cases x<;>simp only[V.rn,reduceCtorEq]at e1;rw[e1]
 have N:kS w M BJ args vals:=by refine⟨by simpa using ha.1,λi x u hx hu=>?_⟩;have q:=ha.2 i (x.rn j) u (by rw[eC,hx];rfl) hu;rw[E.Hi]at q;exact q.tL (λs _=>rfl) z
 refine(h.2 M BJ w vals hmem N).mono λe w' he=>?_
 obtain⟨v,C,rfl,l,X,g,own1,Q⟩:=he;have hdec:∀s,Decidable (∃c,j c=s):=λs=>Classical.propDecidable _
 let o:G:=λs=>if k:∃c,j c=s then C k.choose else none
 have m:∀c,o (j c)=C c:=λc=>by have k:∃d,j d=j c:=⟨c,rfl⟩;simp only[o,dif_pos k];rw[inj _ _ k.choose_spec]
 have n:∀s b,o s=some b->∃c,j c=s/\C c=some b:=λs b p=>by
  simp only[o]at p;split at p
  ·rename_i k;exact⟨k.choose,k.choose_spec,p⟩
  ·cases p
 have A:∀b,dc w' M C b->dc w' M o b:=λb p=>⟨p.1,p.2.1,λs I=>by obtain⟨c,_,k⟩:=n s _ I;exact p.2.2 c k⟩
 refine⟨v,o,rfl,⟨l.iF,λs t b x y=>?_,λs b x=>?_,λs e=>?_,λs cs e=>?_,l.jO.to A (λ_ _=>rfl)⟩,X.vJ m A,?_,λs b x=>?_,λs x=>?_⟩
 ·obtain⟨c,rfl,k⟩:=n s _ x;obtain⟨d,rfl,hd⟩:=n t _ y;rw[l.inj c d b k hd]
 ·obtain⟨c,_,k⟩:=n s _ x;exact l.nm c b k
 ·by_cases k:∃c,j c=s
  ·obtain⟨c,rfl⟩:=k;rw[m];refine l.ic c ?_;rw[hK']at e;simpa using e
  ·simp only[o,dif_neg k]
 ·obtain⟨c,rfl⟩:=hK0' s (by rw[e];simp);rw[hK',gN]at e;obtain⟨cs0,e0,rfl⟩:=e;rw[m];rcases l.gR c cs0 e0 with⟨b,t,vs,sp,q,B,D⟩|⟨q,rfl⟩|⟨b,en,L,q,B,rfl⟩
  ·exact .inl ⟨b,t,vs,sp,q,B,D.vJ m A⟩
  ·exact .inr (.inl ⟨q,rfl⟩)
  ·exact .inr (.inr ⟨b,en,L,q,B,rfl⟩)
 ·exact⟨g.os,g.tape,g.output,g.drawn,g.size,λb p hn=>g.same b p λ⟨s,I⟩=>hn ⟨j s,I⟩,g.jb⟩
 ·obtain⟨c,_,k⟩:=n s _ x;rcases own1 c b k with⟨t,ht⟩|hge
  ·exact .inl ⟨j t,ht⟩
  ·exact .inr hge
 ·obtain⟨c,rfl,k⟩:=I s x;rw[m];exact Q c k
section
variable {P:ax}{U:gD}
def SV.rn(a:Nat->Nat):SV U->SV U
 |.ptr s b=>.ptr (a s) b
 |.jF s k i j=>.jF (a s) k i j
 |.sub s k b c=>.sub (a s) k b c
 |.aX s k c=>.aX (a s) k c
 |.db f e=>.db f (e.map λp=>(a p.1,p.2))
 |.mp s=>.mp (a s)
 |.ty s t g=>.ty (a s) t g
 |v=>v
def SE.rn(a:Nat->Nat):SE U->SE U
 |.c v=>.c (v.rn a)
 |.agg b=>.agg (b.map (SV.rn a))
def ST.rn(a:Nat->Nat):ST U->ST U
 |.e x=>.e (x.rn a)
 |.cE b=>.cE (b.map (SE.rn a))
 |.any=>.any
def aZ.rn(a:Nat->Nat):aZ U->aZ U
 |.cells d=>.cells (d.map (SV.rn a))
 |.hY c i v=>.hY c i (v.rn a)
 |b=>b
def SV.qt(θ:Nat->Nat)(v:SV U):(v.rn θ).aI=v.aI.rn θ:=by cases v<;>rfl
theorem SE.qt(θ:Nat->Nat)(x:SE U):(x.rn θ).aI=x.aI.rn θ:=by
 cases x with
 |c v=>simp only[SE.rn,SE.aI,E.rn,SV.qt]
 |agg a=>simp only[SE.rn,SE.aI,E.rn,jc];congr 1;apply mw;intro v _;exact SV.qt θ v
theorem ST.qt(θ:Nat->Nat)(x:ST U):(x.rn θ).aI=x.aI.rn θ:=by
 cases x with
 |e v=>simp only[ST.rn,ST.aI,T.rn,SE.qt]
 |cE a=>simp only[ST.rn,ST.aI,T.rn,jc];congr 1;apply mw;intro v _;exact SE.qt θ v
 |any=>rfl
theorem aZ.qt(a:Nat->Nat)(b:aZ U):(b.rn a).aI=b.aI.map (V.rn a):=by
 cases b with
 |cells e=>simp only[aZ.rn,aZ.aI,jc];apply mw;intro v _;exact SV.qt a v
 |aW k l=>simp[aZ.rn,aZ.aI,vf,V.rn]
 |lc d=>simp[aZ.rn,aZ.aI,V.rn]
 |hY c i v=>exact(bi (j3 c i) (SV.qt a v)).trans (Hd (V.rn a) (λ_=>rfl) c i v.aI).symm
def SV.x7{b:Nat->Nat}{v:SV U}(h:∀s∈v.dd,X (b s)=s):(v.rn b).rn X=v:=by
 cases v<;>simp_all[SV.rn,SV.dd];rename_i f a
 conv=>rhs;rw[<-EN a]
 apply mw;intro p c;simp only[Function.comp,id];rw[h p.1 _ c]
theorem SE.x7{a b:Nat->Nat}{x:SE U}(h:∀s∈x.dd,a (b s)=s):(x.rn b).rn a=x:=by
 cases x with
 |c v=>simp only[SE.rn,SV.x7 (v:=v) h]
 |agg d=>
  simp only[SE.rn,jc];congr 1
  conv=>rhs;rw[<-EN d]
  apply mw;intro v e;exact SV.x7 λs I=>h s (kV.2 ⟨v,e,I⟩)
def aZ.dd:aZ U->List Nat
 |.cells a=>a.flatMap SV.dd
 |.hY _ _ v=>v.dd
 |_=>[]
theorem aZ.x7{a c:Nat->Nat}{b:aZ U}(h:∀s∈b.dd,a (c s)=s):(b.rn c).rn a=b:=by
 cases b with
 |cells f=>
  simp only[aZ.rn,jc];congr 1
  conv=>rhs;rw[<-EN f]
  apply mw;intro v e;exact SV.x7 λs I=>h s (kV.2 ⟨v,e,I⟩)
 |aW k l=>rfl
 |lc g=>rfl
 |hY d i v=>exact bi (aZ.hY d i) (SV.x7 h)
def aZ.acQ{b:aZ U}{v:V}(c:v∈b.aI)(I:v.bx s):s∈b.dd:=by
 cases b with
 |cells f=>simp only[aZ.aI,b_]at c;obtain⟨a,d,rfl⟩:=c;exact kV.2 ⟨a,d,by rw[<-SV.ow];exact V.oz I⟩
 |aW k l=>exact(Hm c s I).elim
 |lc g=>simp only[aZ.aI,cL]at c;subst c;cases I
 |hY e i a=>
  rcases Ma (show v∈j3 e i a.aI from c)with rfl|⟨u,rfl⟩
  ·show s∈a.dd;rw[<-SV.ow];exact V.oz I
  ·cases I
def pK(a:Nat->Nat)(l:List (Nat×aZ U)):List (Nat×aZ U):=l.map λp=>(a p.1,p.2.rn a)
theorem QC{d:Nat->Nat}(e:∀a b,d a=d b->a=b):∀(l:List (Nat×aZ U)) (c:Nat),cd (pK d l) (d c)=(cd l c).map (aZ.rn d)
 |[],_=>rfl
 |(j,b)::r,c=>by
  simp only[pK,de,cd];cases h:Nat.beq c j with
  |true=>rw[cU h];simp[IL]
  |false=>
   have:Nat.beq (d c) (d j)=false:=by
    cases f:Nat.beq (d c) (d j)with
    |false=>rfl
    |true=>exact absurd (e _ _ (cU f)) (o9 h)
   rw[this];exact QC e r c
theorem QE{a:Nat->Nat}:∀{l:List (Nat×aZ U)} {s:Nat} {b:aZ U},cd (pK a l) s=some b->∃c∈l.map (·.1),a c=s
 |[],_,_,h=>by cases h
 |(j,b)::r,s,g,h=>by
  simp only[pK,de,cd]at h;cases d:Nat.beq s (a j)with
  |true=>exact⟨j,ai,(cU d).symm⟩
  |false=>rw[d]at h;obtain⟨c,f,e⟩:=QE (l:=r) h;exact⟨c,by simp only[de,da];exact .inr f,e⟩
def q5:List Nat->Nat->Nat
 |[],_=>0
 |a::r,s=>match Nat.beq a s with|true=>0|false=>q5 r s+1
def gp(R:aq)(bZ c:Nat):Nat:=match vT R c with|some s=>s|none=>bZ+(c-R.length)
def G1:List Nat->Bool
 |[]=>true
 |a::r=>!r.contains a&&G1 r
theorem Dh:∀{R:aq}{s:Nat},s∈R->R[q5 R s]?=some s
 |[],s,h=>by simp at h
 |a::r,s,h=>by
  simp only[q5];cases b:Nat.beq a s with
  |true=>simp[cU b]
  |false=>
   have:s∈r:=by rcases da.1 h with e|e;exact absurd e.symm (o9 b);exact e
   simpa using Dh this
def zx{bZ:Nat}(h:s∈R):gp R bZ (q5 R s)=s:=by unfold gp;rw[qh,Dh h]
theorem aem:∀{R:aq},G1 R=true->∀(a b s:Nat),R[a]?=some s->R[b]?=some s->a=b
 |[],_,a,b,s,h,_=>by simp at h
 |x::r,e,a,b,s,d,c=>by
  simp only[G1,ej,BM]at e;have f:∀i,r[i]?=some x->False:=λi j=>by have:=bM j;have g:r.contains x=true:=an this;rw[e.1]at g;cases g
  cases a with
  |zero=>
   cases b with
   |zero=>rfl
   |succ b=>simp only[kg,cS]at d;subst d;exact(f b (an c)).elim
  |succ a=>
   cases b with
   |zero=>simp only[kg,cS]at c;subst c;exact(f a (an d)).elim
   |succ b=>rw[aem e.2 a b s (an d) (an c)]
def aC5{bZ:Nat}(f:G1 R=true)(d:∀s∈R,s<bZ)(a b:Nat)(h:gp R bZ a=gp R bZ b):a=b:=by
 unfold gp at h;rw[qh,qh]at h;cases e:R[a]? with
 |some s=>
  rw[e]at h;cases c:R[b]? with
  |some t=>rw[c]at h;simp only at h;subst h;exact aem f a b s e c
  |none=>rw[c]at h;simp only at h;have:=d s (bM e);omega
 |none=>
  rw[e]at h;cases c:R[b]? with
  |some t=>rw[c]at h;simp only at h;have:=d t (bM c);omega
  |none=>rw[c]at h;simp only at h;rw[List.getElem?_eq_none_iff]at e c;omega
end
section
variable {P:ax}{U:gD}
structure iA(U:gD)where
 r:ST U
 heap:List (Nat×aZ U)
 ms:List Nat
 wl:List Nat
structure gy(P:ax)(U:gD)where
 f:FuncId
 iu:gv P f
 run:List (Nat×aZ U)->List (SE U)->(iA U->Prop)->Prop
 ok:∀H args K,run H args K->∃out:iA U,dA P f (bX (cy H)) (args.map SE.aI) (bX (cy out.heap)) (λu=>u<H.length/\u∉out.ms) out.r.aI/\(∀u,u<H.length->u∉out.wl->bX (cy out.heap) u=bX (cy H) u)/\K out
def Gg:List (gy P U)->FuncId->Option (gy P U)
 |[],_=>none
 |c::r,f=>match Nat.beq c.f f with|true=>some c|false=>Gg r f
theorem Gh:∀{l:List (gy P U)} {f:FuncId} {c:gy P U},Gg l f=some c->c.f=f
 |[],_,_,h=>by cases h
 |a::r,f,c,h=>by
  simp only[Gg]at h;split at h
  ·rename_i e;injection h with h;subst h;exact cU e
  ·exact Gh h
def Mb(H:List (Nat×aZ U)):Nat->List Nat->List Nat->List Nat
 |0,_,seen=>seen
 |_+1,[],seen=>seen
 |k+1,s::l,seen=>match seen.contains s with|true=>Mb H k l seen|false=>Mb H k ((match cd H s with|some b=>b.dd|none=>[])++l) (seen++[s])
def FF(a:Nat->Nat)(H:List (Nat×aZ U)):Nat->List Nat->Option (List (Nat×aZ U))
 |_,[]=>some []
 |i,s::r=>match cd H s,FF a H (i+1) r with|some b,some l=>some ((i,b.rn a)::l)|_,_=>none
def XX(m:Nat):List (Nat×aZ U)->Nat
 |[]=>0
 |(c,_)::r=>max (c+1-m) (XX m r)
def zj(a:aq)(x:ST U):ST U:=match a.any (λs=>x.nm s)with|true=>.any|false=>x
def KD(a:aq)(x:SV U):SV U:=match a.any (λs=>x.nm s)with|true=>.any|false=>x
def aZ.Dn(a:aq):aZ U->aZ U
 |.cells d=>.cells (d.map (KD a))
 |.hY c i v=>.hY c i (KD a v)
 |b=>b
def x6(R a:aq):List (Nat×aZ U)->List (Nat×aZ U)
 |[]=>[]
 |(j,b)::r=>match R.contains j with|true=>x6 R a r|false=>(j,b.Dn a)::x6 R a r
def ayv(a:aq)(x:ST U):(zj a x).aI=r6 a x.aI:=by
 unfold zj r6;have:(a.any λs=>x.aI.jD s)=a.any λs=>x.nm s:=by congr 1;funext s;exact ST.oE s x
 rw[this];cases a.any λs=>x.nm s<;>rfl
def acN(a:aq)(x:SV U):(KD a x).aI=mI a x.aI:=by
 unfold KD mI;have:(a.any λs=>x.aI.jD s)=a.any λs=>x.nm s:=by congr 1;funext s;exact SV.oE s x
 rw[this];cases a.any λs=>x.nm s<;>rfl
theorem ayA(a:aq)(b:aZ U):(b.Dn a).aI=b.aI.map (mI a):=by
 cases b with
 |cells e=>simp only[aZ.Dn,aZ.aI,jc];apply mw;intro v _;exact acN a v
 |aW k l=>simp only[aZ.Dn,aZ.aI,jc];apply mw;intro v _;simp only[Function.comp,mI];rw[Z (by simp[V.jD])]
 |lc d=>simp only[aZ.Dn,aZ.aI,de,gW,acL]
 |hY c i v=>exact(bi (j3 c i) (acN a v)).trans (Hd (mI a) (λx=>by simp only[mI];rw[Z (by simp[V.jD])]) c i v.aI).symm
theorem Kt(R a:aq):∀(l:List (Nat×aZ U)) (u:Nat),u∉R->cd (x6 R a l) u=(cd l u).map (aZ.Dn a)
 |[],_,_=>rfl
 |(j,b)::r,u,c=>by
  simp only[x6];cases d:R.contains j with
  |true=>
   have:Nat.beq u j=false:=by
    cases h:Nat.beq u j with
    |false=>rfl
    |true=>exact absurd (by rw[cU h];simpa using d) c
   simp only[cd,this];exact Kt R a r u c
  |false=>
   simp only[cd];cases h:Nat.beq u j with
   |true=>rfl
   |false=>exact Kt R a r u c
theorem abR:∀(l a:List (Nat×aZ U)) (u:Nat),cd (l++a) u=match cd l u with|some b=>some b|none=>cd a u
 |[],_,_=>rfl
 |(j,b)::r,a,u=>by
  simp only[eB,cd];cases h:Nat.beq u j with
  |true=>rfl
  |false=>exact abR r a u
theorem Yg{d:Nat->Nat}{H:List (Nat×aZ U)}:∀{R:aq} {i:Nat} {l:List (Nat×aZ U)},FF d H i R=some l->l.length=R.length/\(∀c s,R[c]?=some s->∃b,cd H s=some b/\cd l (i+c)=some (b.rn d))/\∀c,cd l c≠none->i<=c/\c<i+R.length
 |[],i,l,h=>by simp only[FF,cS]at h;subst h;exact⟨rfl,λc s a=>by simp at a,λc a=>absurd rfl a⟩
 |s::r,i,l,h=>by
  simp only[FF]at h;split at h
  ·rename_i b u k j;injection h with h;subst h
   obtain⟨g,f,e⟩:=Yg j;refine⟨by simp[g],λc t a=>?_,λc a=>?_⟩
   ·cases c with
    |zero=>simp only[kg,cS]at a;subst a;exact⟨b,k,by simp[cd,IL]⟩
    |succ c=>
     obtain⟨q,p,m⟩:=f c t (an a);refine⟨q,p,?_⟩;simp only[cd];have:Nat.beq (i+(c+1)) i=false:=by
      cases h:Nat.beq (i+(c+1)) i with
      |false=>rfl
      |true=>have:=cU h;omega
     rw[this,show i+(c+1)=i+1+c by omega];exact m
   ·simp only[cd]at a;cases h:Nat.beq c i with
    |true=>rw[cU h];simp
    |false=>rw[h]at a;have:=e c a;simp only[fZ];omega
  ·cases h
def Mr(n:Nat)(ops:av)(aN:aq)(o:Oper)(σ:SS U)(c:gy P U)(f:List (SE U))(K:SS U->Ft->Prop):Prop:=
 let R:=Mb σ.heap 1000 (f.flatMap SE.dd) []
 match FF (q5 R) σ.heap 0 R,G1 R&&(R.all λs=>Nat.blt s σ.bZ)&&(f.all λx=>x.dd.all R.contains)&&(R.all λs=>match cd σ.heap s with|some b=>b.dd.all R.contains|none=>true)&&m_ n o.dst&&aN.all (λs=>Nat.blt s σ.bZ)with
 |some H,true=>c.run H (f.map (SE.rn (q5 R))) λa=>
  let e:=a.ms.map (gp R σ.bZ)
  let N:=((a.heap.map (·.1)).filter λc=>Nat.ble R.length c).map (gp R σ.bZ)
  match(a.ms.all λc=>Nat.blt c R.length)&&(e.all λs=>!aN.contains s)&&(N.all λs=>match cd σ.heap s with|some _=>false|none=>true)with
  |true=>K { aV:=(match o.dst with|some d=>(d,a.r.rn (gp R σ.bZ))::σ.aV.map (λp=>(p.1,zj e p.2))|none=>σ.aV.map (λp=>(p.1,zj e p.2))),
             heap:=pK (gp R σ.bZ) a.heap++x6 R e σ.heap,bZ:=σ.bZ+XX R.length a.heap}
    ⟨lk ops o++jK R,dl o++pn (e.flatMap λs=>tI s σ.aV)++jK ((a.wl.map (gp R σ.bZ))++N++e.flatMap λs=>xt s σ.heap),e⟩
  |false=>False
 |_,_=>False
variable {V:bY P U}{n:Nat}{ops:av}{aN:aq}{o:Oper}{σ:SS U}{K:SS U→Ft→Prop}
theorem aaz(a:aq):∀(l:List (Nat×ST U)) (i:Nat),mk (mF (l.map λp=>(p.1,zj a p.2))) i=r6 a (mk (mF l) i)
 |[],i=>by simp only[gW,mF,mk,r6];rw[Z (by simp[T.jD])]
 |(j,t)::r,i=>by
  have b:=aaz a r i;simp only[mF,de,mk]at b⊢;split
  ·exact ayv a t
  ·exact b
theorem ahk{c:gy P U}{es:List (SE U)}(h:Mr n ops aN o σ c es K)(hg:fA ops o σ.st)(hen:yp P o σ.st.ev c.f (es.map SE.aI)):∃σ' f,kD P n ops o aN σ σ' f/\K σ' f:=by
 unfold Mr at h;simp only at h;generalize hR:Mb σ.heap 1000 (es.flatMap SE.dd) []=R at h;split at h
 ·rename_i H hH hck;simp only[ej]at hck;obtain⟨⟨⟨⟨⟨k1,k2⟩,k3⟩,k4⟩,k5⟩,k6⟩:=hck;rw[eW]at k2 k3 k4 k6;have hlt:∀s∈R,s<σ.bZ:=λs I=>js (k2 s I)
  have D:=aC5 (bZ:=σ.bZ) k1 hlt;obtain⟨a,hsat,hwl,h⟩:=c.ok _ _ _ h;split at h
  ·rename_i X;simp only[ej]at X;obtain⟨⟨l1,l2⟩,l3⟩:=X;rw[eW]at l1 l2 l3;obtain⟨c1,c2,c3⟩:=Yg hH;have hnlt:∀s,¬s∈R->∀d,gp R σ.bZ d=s->R.length<=d:=λs I d k=>by
    rcases B9 d R.length with C|hge
    ·exfalso;apply I;rw[<-k];unfold gp;rw[qh,cN C];exact tZ _
    ·exact hge
   have L:∀d,d<R.length->gp R σ.bZ d∈R:=λd k=>by unfold gp;rw[qh,cN k];exact tZ _
   have hout:∀d,R.length<=d->gp R σ.bZ d∉R:=λd k B=>by have:=hlt _ B;unfold gp at this;rw[qh,iM O]at this;simp only at this;omega
   have hargs:∀x∈es,(x.rn (q5 R)).rn (gp R σ.bZ)=x:=λx M=>SE.x7 λs I=>by have:=k3 x M;rw[eW]at this;exact zx (by simpa using this s I)
   have hblk:∀s∈R,∀b,cd σ.heap s=some b->∀t∈b.dd,t∈R:=λs I b hb t ht=>by have:=k4 s I;rw[hb]at this;simp only[eW]at this;simpa using this t ht
   have hsat2:dA P c.f (part σ.st.heap R) (es.map SE.aI) (bX (cy (pK (gp R σ.bZ) a.heap))) (λu=>u∈R/\u∉a.ms.map (gp R σ.bZ)) (a.r.rn (gp R σ.bZ)).aI:=by
    have:=dA.rename (K:=part σ.st.heap R) (K':=bX (cy (pK (gp R σ.bZ) a.heap))) (stay':=λu=>u∈R/\u∉a.ms.map (gp R σ.bZ)) hsat (gp R σ.bZ) D ?_ ?_ ?_ ?_ ?_
    ·rw[ST.qt];refine cast (bi (λz=>dA P c.f _ z _ _ _) ?_) this;rw[jc,jc];apply mw;intro x M;simp only[Function.comp];rw[<-SE.qt,hargs x M]
    ·intro d;rcases B9 d R.length with k|k
     ·have I:R[d]?=some (gp R σ.bZ d):=by unfold gp;rw[qh,cN k]
      obtain⟨b,m,G⟩:=c2 d _ I;rw[ol]at G;simp only[part,aM (L d k)];rw[ga,m,iG,G];simp only[dP,cS];rw[<-aZ.qt,aZ.x7 λs hs'=>zx (hblk _ (L d k) b m s hs')]
     ·simp only[part,Z (hout d k)];have:cd H d=none:=by
       cases e:cd H d with
       |none=>rfl
       |some b=>have:=c3 d (by rw[e];simp);omega
      rw[iG,this];rfl
    ·intro s I;unfold part at I;split at I
     ·rename_i B;exact⟨q5 R s,zx B⟩
     ·exact absurd rfl I
    ·intro d;rw[iG,QC D,iG];cases cd a.heap d with
     |none=>rfl
     |some b=>simp only[dP,aZ.qt]
    ·intro s I;rw[iG]at I;cases e:cd (pK (gp R σ.bZ) a.heap) s with
     |none=>rw[e]at I;exact absurd rfl I
     |some b=>obtain⟨d,_,k⟩:=QE e;exact⟨d,k⟩
    ·rintro s ⟨A,h2⟩;refine⟨q5 R s,zx A,?_,λB=>h2 (b_.2 ⟨_,B,zx A⟩)⟩;rw[c1];exact(du.1 (Dh A)).1
   generalize hms:a.ms.map (gp R σ.bZ)=w at*;generalize hN:((a.heap.map (·.1)).filter λc=>Nat.ble R.length c).map (gp R σ.bZ)=N at*;have hmsR:∀s∈w,s∈R:=λs I=>by rw[<-hms,b_]at I;obtain⟨d,k,rfl⟩:=I;exact L d (js (l1 d k))
   have v:∀u∈N,σ.st.heap u=none:=λu hu=>by
    have:=l3 u hu;rw[ga];split at this
    ·cases this
    ·rename_i e;rw[e];rfl
   have Q:∀u,bX (cy (pK (gp R σ.bZ) a.heap)) u≠none->u∈R\/u∈N:=λu hu=>by
    rw[iG]at hu;cases e:cd (pK (gp R σ.bZ) a.heap) u with
    |none=>rw[e]at hu;exact absurd rfl hu
    |some b=>
     obtain⟨d,k,rfl⟩:=QE e;rcases B9 d R.length with C|hge
     ·exact .inl (L d C)
     ·refine .inr ?_;rw[<-hN,b_];exact⟨d,jr.2 ⟨k,Nat.ble_eq_true_of_le hge⟩,rfl⟩
   have hpass:IX P c.f σ.st.heap R N w (es.map SE.aI) (bX (cy (pK (gp R σ.bZ) a.heap))) (a.r.rn (gp R σ.bZ)).aI:=by
    refine⟨hsat2,λx M s I=>?_,λu hu cs g x M s I=>?_,Q,v⟩
    ·rw[b_]at M;obtain⟨y,hy,rfl⟩:=M;have:=k3 y hy;rw[eW]at this;simpa using this s (by rw[<-SE.ow];exact E.oz I)
    ·rw[ga,gN]at g;obtain⟨b,hb,rfl⟩:=g;exact hblk u hu b hb s (aZ.acQ M I)
   have hkeep:∀u∈N,¬u∈aN:=λu hu hk=>by have A:u<σ.bZ:=js (k6 u hk);rw[<-hN,b_]at hu;obtain⟨d,k,rfl⟩:=hu;have h2:=js (jr.1 k).2;unfold gp at A;rw[qh,iM O]at A;simp only at A;omega
   have hsq:=SQ.OV (P:=P) (n:=n) (aU:=(·∈aN)) (ops:=ops) (o:=o) (W:=a.wl.map (gp R σ.bZ)) (ts:=w.flatMap λs=>tI s σ.aV) (us:=w.flatMap λs=>xt s σ.heap) hg hpass
    (λu hu hk=>by have:=l2 u hu;rw[BM]at this;exact nk this hk) hkeep (na k5) hen ?_ ?_ ?_
   ·refine⟨_,_,⟨?_,λs I l hl q=>?_⟩,h⟩
    ·refine cast (bi (λz=>SQ P n (·∈aN) ops o σ.st z _) ?_) hsq;unfold vw;have henv:((⟨λi=>r6 w (σ.st.aV i),σ.st.heap⟩:St).put o.dst (a.r.rn (gp R σ.bZ)).aI).aV=mk (mF (match o.dst with|some d=>(d,a.r.rn (gp R σ.bZ))::σ.aV.map (λp=>(p.1,zj w p.2))|none=>σ.aV.map (λp=>(p.1,zj w p.2)))):=by
      have e0:(λi=>r6 w (σ.st.aV i))=mk (mF (σ.aV.map λp=>(p.1,zj w p.2))):=by funext i;rw[aaz];rfl
      cases o.dst with
      |none=>simp only[St.put];exact e0
      |some d=>simp only[St.put,e0];rfl
     unfold SS.st;simp only;congr 1;funext u;rw[iG (pK (gp R σ.bZ) a.heap++x6 R w σ.heap) u,abR];by_cases hu:u∈R\/u∈N
     ·rw[aM hu,iG];cases e:cd (pK (gp R σ.bZ) a.heap) u with
      |some b=>rfl
      |none=>
       simp only[IW]
       symm
       rcases hu with hu|hu
       ·have:cd (x6 R w σ.heap) u=none:=by
         have key:∀l:List (Nat×aZ U),cd (x6 R w l) u=none:=λl=>by
          induction l with
          |nil=>rfl
          |cons p r ih=>
           obtain⟨j,b⟩:=p;simp only[x6];cases hj:R.contains j with
           |true=>exact ih
           |false=>
            simp only[cd];cases h2:Nat.beq u j with
            |true=>rw[cU h2]at hu;have:R.contains j=true:=by simpa using hu
                   rw[hj]at this;cases this
            |false=>exact ih
         exact key _
        rw[this];rfl
       ·have A:=v u hu;rw[ga]at A;have h2:cd σ.heap u=none:=an A;have h3:u∉R:=λB=>by obtain⟨b,hb,_⟩:=c2 _ _ (Dh B);rw[h2]at hb;cases hb
        rw[Kt _ _ _ _ h3,h2];rfl
     ·rw[Z hu];have A:cd (pK (gp R σ.bZ) a.heap) u=none:=by
       cases e:cd (pK (gp R σ.bZ) a.heap) u with
       |none=>rfl
       |some b=>exact absurd (Q u (by rw[iG,e];simp)) hu
      rw[A];simp only;rw[Kt _ _ _ _ (λB=>hu (.inl B)),iG];cases cd σ.heap u with
      |none=>rfl
      |some b=>simp only[dP,ayA]
    ·simp only[cq,re]at hl;unfold St.at at q;split at q
     ·rename_i e0;have e1:l=2*(l/2):=O;have q:(σ.st.aV (l/2)).bx s:=q;rw[oN,<-T.mK,ST.oE]at q;apply hl.1.2;rw[e1,r9];exact kV.2 ⟨s,I,(zU s σ.aV _).2 q⟩
     ·rename_i e0;have e1:l=2*(l/2)+1:=O;apply hl.2;rw[e1,nW];cases g:σ.st.heap (l/2)with
      |none=>rw[g]at q;cases q
      |some cs'=>rw[g]at q;rw[ga,gN]at g;obtain⟨b,m,rfl⟩:=g;exact cq.2 (.inr (kV.2 ⟨s,I,Cv _ _ _ b m q⟩))
   ·intro u hu hw;have e1:bX (cy (pK (gp R σ.bZ) a.heap)) u=(bX (cy a.heap) (q5 R u)).map (List.map (V.rn (gp R σ.bZ))):=by
     rw[iG,iG];have:=QC D a.heap (q5 R u);rw[zx hu]at this;rw[this];cases cd a.heap (q5 R u)with
     |none=>rfl
     |some b=>simp only[dP,aZ.qt]
    have k:q5 R u<R.length:=(du.1 (Dh hu)).1;rw[e1,hwl (q5 R u) (by rw[c1];exact k) (λB=>hw (b_.2 ⟨_,B,zx hu⟩))];obtain⟨b,m,G⟩:=c2 _ _ (Dh hu);rw[ol]at G;rw[iG,G,ga,m];simp only[dP,cS];rw[<-aZ.qt,aZ.x7 λs hs'=>zx (hblk _ hu b m s hs')]
   ·intro i hi hts s I q;apply hts;rw[oN,<-T.mK,ST.oE]at q;exact kV.2 ⟨s,I,(zU s σ.aV _).2 q⟩
   ·intro u _ _ hus s I cs g q;apply hus;rw[ga,gN]at g;obtain⟨b,m,rfl⟩:=g;exact kV.2 ⟨s,I,Cv _ _ _ b m q⟩
  ·cases h
 ·cases h
structure kh(P:ax)(U:gD)where
 ps:List (Ct P U)
 os:List (gy P U)
end
end Go.Ab
