/- Part of VirtualWitness. No condition. -/
import Derived.Test.YtfbmhjooliccnaaGreatDoorYh
set_option linter.all false
set_option maxRecDepth 100000
set_option maxHeartbeats 60000000
noncomputable section
namespace Go.Proofs.YtfbmhjooliccnaaGreatDoor
open Go Go.Ab Go.Proofs.Tryz
variable {L k:Nat}{l A:ao}{r y d:Int}{a M:List J}{Z:av}{p c:J}{X:List MemPlace}{b N:List aL}{t:TypeId}{h B:Nat→Nat}{u:Value}{q:ba}{U:Type}{x:bk}{m:F}{R:J→J→J}{Q:aL}{w:World}{P:Addr}{n:Bool}
theorem aaN:∀(n:Nat)(P:Nat->U->Prop),(∀i,i<n->∃x,P i x)->∃l:List U,l.length=n/\∀i x,l[i]?=some x->P i x
 |0,P,_=>⟨[],rfl,λi x h=>by simp at h⟩
 |n+1,P,h=>by
  obtain⟨l,b,c⟩:=aaN n P λi d=>h i O
  obtain⟨x,e⟩:=h n O;refine⟨l++[x],by simp[b],λi y a=>?_⟩;by_cases d:i<n
  ·rw[Ej O]at a;exact c i y a
  ·rw[yq O]at a;have:i=n:=by have:=(dM.1 a).1;simp at this;omega
   subst this;rw[b,rT]at a;simp only[jH,cY]at a;subst a;exact e
def S0(w:World):Nat->Prop:=cS w (λ_=>False) iw
def fm(w:World)(r:List D)(a:av):=r.length=a.length/\∀(i:Nat)(x:D)(u:Value),r[i]?=some x->a[i]?=some u->dE w (S0 w) x u
theorem Kt{d:Type}(f:U->Option d):∀(l:List U)(r:List d),l.mapM f=some r->r.length=l.length/\∀(i:Nat)(a:U)(b:d),l[i]?=some a->r[i]?=some b->f a=some b
 |[],r,h=>by simp at h;subst h;exact⟨rfl,λi a b c=>by simp at c⟩
 |x::l,r,h=>by
  rw[HS]at h;simp only[Option.bind_eq_bind,Ia,Option.pure_def,cY]at h;obtain⟨y,k,m,e,rfl⟩:=h;obtain⟨n,o⟩:=Kt f l m e;refine⟨by simp[n],λi a b c j=>?_⟩;cases i with
  |zero=>simp at c j;subst c;subst j;exact k
  |succ i=>exact o i a b (an c) (an j)
def aqF{w:World}{base n:Nat}{a:Addr}(h:w.cells? base a n=some Z):Z.length=n/\∀(j:Nat)(u:Value),Z[j]?=some u->w.cell? (a.add j)=some u:=by
 unfold World.cells? at h;split at h
 ·obtain⟨b,d⟩:=Kt _ _ _ h;refine⟨by simpa using b,λj u c=>?_⟩;have e:j<n:=by have:=(dM.1 c).1;simp at b;omega
  exact d j j u (by simp[e]) c
 ·cases h
def aqE{w:World}{a:Addr}(h:w.cell? a=some u):a.spot=none/\a.block<w.heap.size:=by
 unfold World.cell? at h;split at h
 ·rename_i b;split at h
  ·cases h
  ·rename_i Y;exact⟨by simpa using Y,(MK.1 b).1⟩
 ·cases h
section
variable {H:Type}{dt:TypeId×Value→H}{P:ay}{w:World}{base:Nat}{sp:Nat→Bool}{held:Bool}
def DM{e:TypeId}{v:Value}{d:DataW H}{E:List MemPlace}{X:Type}(encX:X->List D)(f:X->Prop)(m:P.underlying t=some (.slice e))(hk:0<P.cellsOf e)(hlen:∀x,(encX x).length=P.cellsOf e)
 (elem:∀cs d E,DataW.trod dt P w base sp held L e cs=some (d,E)->cs.length=P.cellsOf e->∃x,f x/\fm w (encX x) cs)
 (h:DataW.trod dt P w base sp held (L+1) t [v]=some (d,E)):∃l:List X,(∀x∈l,f x)/\dE w (S0 w) (.sl (l.map encX)) v:=by
 unfold DataW.trod at h;rw[m]at h;have U:(∃a len k,v=.slice (some a) len k)\/v=.slice none 0 0:=by
  cases v
  case slice A len k=>
   cases A with
   |some a=>exact .inl ⟨a,len,k,rfl⟩
   |none=>
    cases len with
    |zero=>cases k with
     |zero=>exact .inr rfl
     |succ c=>simp at h
    |succ c=>simp at h
  all_goals(simp at h)
 rcases U with⟨a,len,k,rfl⟩|rfl
 case inr=>exact⟨[],λx n=>by simp at n,dE.sl [] 1 0 none (λ_ _=>.bool false) ai ai (λr p=>by simp at p) (λq=>absurd rfl q) (λi j x n=>by simp at n)⟩
 case inl=>
  simp only at h;split at h
  ·rename_i R;rw[Ia]at h;obtain⟨o,hm,_⟩:=h;obtain⟨h1,h2⟩:=Kt _ _ _ hm;have hl:o.length=len:=an h1;have G:∀i,i<len->∃x:X,f x/\∃cs,cs.length=P.cellsOf e/\(∀(j:Nat)(u:Value),cs[j]?=some u->w.cell? (a.add (i*P.cellsOf e+j))=some u)/\fm w (encX x) cs:=by intro i z;have:=h2 i i (o[i]' O) (by simp[z]) ai;rw[Ia]at this;obtain⟨cs,K,M⟩:=this;obtain⟨C,B⟩:=aqF K;obtain⟨x,b,r⟩:=elem cs _ _ M C;refine⟨x,b,cs,C,λj u m=>?_,r⟩;have:=B j u m;rwa [Iu]at this
   obtain⟨l,T,N⟩:=aaN len (λi x=>f x/\∃cs,cs.length=P.cellsOf e/\(∀(j:Nat)(u:Value),cs[j]?=some u->w.cell? (a.add (i*P.cellsOf e+j))=some u)/\fm w (encX x) cs) G;refine⟨l,λx n=>?_,?_⟩
   ·obtain⟨i,z⟩:=yt n;exact(N i x z).1
   ·have e0:len=(l.map encX).length:=by simp[T]
    have cellAt:∀i j,i<len->j<P.cellsOf e->∃u,w.cell? (a.add (i*P.cellsOf e+j))=some u:=by intro i j z Q;obtain⟨_,cs,C,B,_⟩:=N i (l[i]' O) ai;obtain⟨u,m⟩:∃u,cs[j]?=some u:=⟨cs[j]' O,ai⟩;exact⟨u,B j u m⟩
    have:=dE.sl (w:=w) (S:=S0 w) (l.map encX) (P.cellsOf e) k (some a) (λi j=>(w.cell? (a.add (i*P.cellsOf e+j))).getD (.bool false)) (by have:=R.2.1;simp;omega) R.2.2
     (λr p=>by rw[cj]at p;obtain⟨x,_,rfl⟩:=p;exact hlen x) (λq=>?_) (λi j x n=>?_)
    ·rw[<-e0]at this;exact this
    ·have h0:0<len:=by
      rcases Nat.eq_zero_or_pos len with h|h
      ·exact absurd (fc (by rw[dS];omega)) q
      ·exact h
     obtain⟨u,m⟩:=cellAt 0 0 h0 hk;have hf:=aqE m;rw[H7,sV]at hf;have V:a.add 0=a:=by unfold Addr.add;simp
     rw[V]at hf;refine⟨a,rfl,hf.1,⟨hf.2,λh=>h,λs Y=>by cases Y⟩,λi j z Q=>?_⟩;obtain⟨u,m⟩:=cellAt i j (by simpa[T]using z) Q;rw[m];rfl
    ·rw[Ia]at n;obtain⟨r,p,n⟩:=n;rw[dU,gM]at p;obtain⟨y,Z,rfl⟩:=p;obtain⟨_,cs,C,B,c3⟩:=N i y Z;have Q:j<P.cellsOf e:=by have:=(dM.1 n).1;rw[hlen]at this;exact this
     obtain⟨u,m⟩:∃u,cs[j]?=some u:=⟨cs[j]' O,ai⟩;rw[B j u m];exact c3.2 j x u n m
  ·cases h
end
def zM:F:=.mk 0 0 zP []
def jM(r:Int):Int:=if r<1\/6<r then 3 else r
mutual
def cG:F->F
 |.mk k r p a=>if k=1 then .mk 1 0 zP []else if k=2 then .mk 2 (jM r) (dG p) []else if k=3\/k=4 then .mk k 0 zP (oH a)else zM
def oH:List F->List F
 |[]=>[]
 |m::r=>cG m::oH r
end
theorem adX:∀l,oH l=l.map cG
 |[]=>by rw[oH];rfl
 |m::r=>by rw[oH,adX r];rfl
def Gt(m:F):cG m=if m.aM=1 then .mk 1 0 zP []else if m.aM=2 then .mk 2 (jM m.bW) (dG m.aH) []else if m.aM=3\/m.aM=4 then .mk m.aM 0 zP (m.aO.map cG)else zM:=by cases m;rw[cG,adX];rfl
mutual
def fY:F->List J
 |.mk k r p a=>if k=2 then [p]else jK a
def jK:List F->List J
 |[]=>[]
 |m::r=>fY m++jK r
end
theorem ae9:∀(a b:List F),jK (a++b)=jK a++jK b
 |[],b=>by rw[gi,jK];rfl
 |m::a,b=>by rw[ei,jK,jK,ae9 a b,gh]
def ae8(m:F):fY m=if m.aM=2 then [m.aH]else jK m.aO:=by cases m;rw[fY];rfl
inductive mz:F->Prop where
 |mk (k r:Int) (p:J) (ks:List F) (h1:jG p) (h2:∀c∈ks,mz c):mz (.mk k r p ks)
inductive iF:F->Prop where
 |mk (k r:Int) (p:J) (ks:List F) (h1:bO p) (h2:ks.length<=1000000) (h3:∀c∈ks,iF c):iF (.mk k r p ks)
def iF.np(h:iF m):bO m.aH:=by cases h;assumption
def iF.len(h:iF m):m.aO.length<=1000000:=by cases h;assumption
def iF.bz(h:iF m):∀c∈m.aO,iF c:=by cases h;assumption
theorem PE{f:U->Int->Int}:∀{l:List U}{n:Int},0<=iQ f l n->0<=n
 |[],n,h=>by rw[iQ]at h;exact h
 |c::r,n,h=>by
  rw[iQ]at h;split at h
  ·omega
  ·omega
theorem agn(dg:Nat):∀(d:Nat)(p:J)(n:Int),0<=kK dg d p n->jG p->ja dg p/\(nP p:Int)+kK dg d p n<=n
 |0,p,n,h,_=>by rw[kK]at h;omega
 |d+1,p,n,h,k=>by
  rw[kK]at h⊢;split at h
  ·omega
  ·rename_i a;rw[g a];have b:∀(l:List J)(n:Int),(∀c∈l,jG c)->0<=iQ (kK dg d) l n->(∀c∈l,ja dg c)/\(je l:Int)+iQ (kK dg d) l n<=n:=by
    intro l
    induction l with
    |nil=>intro n _ h;rw[iQ,KT];exact⟨λc a=>by simp at a,O⟩
    |cons c r m=>
     intro n j h;rw[iQ]at h⊢;split at h
     ·omega
     ·rename_i o;rw[g o];have i:=m (kK dg d c n) (λc a=>j c (by simp[a])) h;have f:=agn dg d c n (PE h) (j c ai);rw[Ba];refine⟨λx e=>?_,O⟩;rcases dC.1 e with rfl|e
      ·exact f.1
      ·exact i.1 x e
   have i:=b p.aG (n-1) k.bz h;have f:=k.dg;have q:=KS p;refine⟨?_,O⟩;cases p;exact .mk _ _ _ _ (by simp only[J.aF]at a;omega) f (by simp only[J.aG]at a;omega) i.1
def aaX{n:Int}{dg:Nat}(h:sf p n dg=true)(a:jG p):ja dg p/\(nP p:Int)<=n:=by unfold sf at h;simp only[be]at h;have:=agn dg 6 p n h a;exact⟨this.1,O⟩
def JK{dg:Nat}(h:sf p r dg=true)(a:jG p)(c:r<=1000000)(b:dg<=1000000):bO p:=by have:=aaX h a;unfold bO;exact⟨this.1.up b,O⟩
mutual
def bc:F->Nat
 |.mk _ _ _ a=>1+cy a
def cy:List F->Nat
 |[]=>0
 |m::r=>bc m+cy r
end
def kM(m:F):bc m=1+cy m.aO:=by cases m;rw[bc];rfl
def gV:cy []=0:=by rw[cy]
def eE(m:F)(r:List F):cy (m::r)=bc m+cy r:=by rw[cy]
def zF(m:F):1<=bc m:=by rw[kM];omega
theorem rr:∀l,l.length<=cy l
 |[]=>by simp
 |m::r=>by have:=rr r;have:=zF m;rw[eE];simp;omega
theorem agm:∀(d:Nat)(m:F)(n:Int),n<=1000000->0<=jq d m n->mz m->iF m/\(bc m:Int)+jq d m n<=n
 |0,m,n,_,h,_=>by rw[jq]at h;omega
 |d+1,m,n,o,h,w=>by
  rw[jq]at h⊢;split at h
  ·omega
  ·rename_i a;rw[g a];have b:∀(l:List F)(n:Int),n<=1000000->(∀c∈l,mz c)->0<=iQ (jq d) l n->(∀c∈l,iF c)/\(cy l:Int)+iQ (jq d) l n<=n:=by
    intro l
    induction l with
    |nil=>intro n _ _ h;rw[iQ,gV];exact⟨λc a=>by simp at a,O⟩
    |cons c r t=>
     intro n o q h;rw[iQ]at h⊢;split at h
     ·omega
     ·rename_i i;rw[g i];have s:=agm d c n o (PE h) (q c ai);have j:=t (jq d c n) O (λc a=>q c (by simp[a])) h;rw[eE];refine⟨λx f=>?_,O⟩;rcases dC.1 f with rfl|f
      ·exact s.1
      ·exact j.1 x f
   cases w with
   |mk k r p ks u v=>have j:=b ks (n-1) O v h;have s:=rr ks;have e:F.aO (.mk k r p ks)=ks:=rfl;rw[e]at h⊢;refine⟨.mk k r p ks ?_ O j.1,by rw[bc];omega⟩;exact JK (dg:=4) (by simpa[F.aH]using a) u O O
def FL{n:Int}(a:n<=1000000)(h:qU m n=true)(b:mz m):iF m/\(bc m:Int)<=n:=by unfold qU at h;simp only[be]at h;have:=agm 12 m n a h b;exact⟨this.1,O⟩
mutual
theorem ae_:∀m:F,iF m->∀p∈fY (cG m),jG p
 |.mk k r p b,h=>by
  cases h with
  |mk _ _ _ _ f j e=>
   intro q a
   rw[cG]at a
   split at a
   ·rw[fY,g O,jK]at a;simp at a
   ·split at a
    ·rw[fY,aK rfl]at a
     rw[dZ]at a
     subst a
     exact f.cH.O5
    ·split at a
     ·rename_i i
      rw[fY,g O]at a
      exact afa b e q a
     ·unfold zM at a
      rw[fY,g O,jK]at a;simp at a
theorem afa:∀l:List F,(∀c∈l,iF c)->∀p∈jK (oH l),jG p
 |[],h,p,hp=>by rw[oH,jK]at hp;simp at hp
 |m::r,h,p,hp=>by
  rw[oH,jK,dd]at hp
  rcases hp with hp|hp
  ·exact ae_ m (h m ai) p hp
  ·exact afa r (λc d=>h c (by simp[d])) p hp
end
mutual
theorem afb:∀m:F,(fY m).length<=bc m
 |.mk k r p a=>by
  have:=Si a
  rw[fY,bc]
  split
  ·simp
  ·omega
theorem Si:∀l:List F,(jK l).length<=cy l
 |[]=>by rw[jK];simp
 |m::r=>by
  have:=afb m
  have:=Si r
  rw[jK,cy];simp;omega
end
mutual
theorem ad4:∀m:F,bc (cG m)<=bc m
 |.mk k r p a=>by
  have:=ad5 a
  rw[cG]
  split
  ·rw[bc,bc,gV];omega
  ·split
   ·rw[bc,bc,gV];omega
   ·split
    ·rw[bc,bc];omega
    ·unfold zM;rw[bc,bc,gV];omega
theorem ad5:∀l:List F,cy (oH l)<=cy l
 |[]=>by rw[oH];omega
 |m::r=>by
  have:=ad4 m
  have:=ad5 r
  rw[oH,eE,eE];omega
end
section
variable {H:Type}{dt:TypeId×Value→H}{P:ay}{w:World}{base:Nat}{sp:Nat→Bool}{held:Bool}
def x_{d:DataW H}(h:DataW.trod dt P w base sp held L t Z=some (d,X)):∃f,L=f+1:=by
 cases L with
 |zero=>simp[DataW.trod]at h
 |succ f=>exact⟨f,rfl⟩
def apV{d:DataW H}(a:P.underlying t=some .bool)(h:DataW.trod dt P w base sp held L t Z=some (d,X)):∃b,Z=[.bool b]:=by
 obtain⟨f,rfl⟩:=x_ h;unfold DataW.trod at h;rw[a]at h
 match Z,h with
 |[.bool b],_=>exact⟨b,rfl⟩
def F3{k:IntKind}{d:DataW H}(b:P.underlying t=some (.int k))(h:DataW.trod dt P w base sp held L t Z=some (d,X)):∃n,Z=[.int k n]/\(Lit.int k n).wf=true:=by
 obtain⟨f,rfl⟩:=x_ h;unfold DataW.trod at h;rw[b]at h
 match Z,h with
 |[.int c n],h=>
  simp only at h;split at h
  ·rename_i a;exact⟨n,by rw[a.1],a.2⟩
  ·cases h
def aFs{a:Array Field}{d:DataW H}(b:P.underlying t=some (.struct a))(h:DataW.trod dt P w base sp held (L+1) t Z=some (d,X)):
 Z.length=P.cellsOf t/\∀(i:Nat)(f:Field),a.toList[i]?=some f->∃d X,DataW.trod dt P w base sp held L f.type ((Z.drop f.offset).take (P.cellsOf f.type))=some (d,X):=by
 unfold DataW.trod at h;rw[b]at h;simp only at h;split at h
 ·rename_i c;refine⟨c,λi f hf=>?_⟩;rw[gM]at h;obtain⟨xs,e,_⟩:=h;obtain⟨l,j⟩:=Kt _ _ _ e;have k:i<xs.length:=by have:=(dM.1 hf).1;omega
  have:=j i f xs[i] hf (ca k);exact⟨xs[i].1,xs[i].2,this⟩
 ·cases h
def fm.cons{x:D}{r:List D}(h:dE w (S0 w) x u)(c:fm w r Z):fm w (x::r) (u::Z):=by
 refine⟨by simp[c.1],λi y v a b=>?_⟩;cases i with
 |zero=>simp at a b;subst a;subst b;exact h
 |succ i=>exact c.2 i y v (an a) (an b)
def fm.nil:fm w [] []:=⟨rfl,λi x u a=>by simp at a⟩
end
section
variable {H:Type}{dt:TypeId×Value→H}{w:World}{base:Nat}{sp:Nat→Bool}{held:Bool}
def c3:Tryz.prog.cellsOf 3=1:=af
def c4:Tryz.prog.cellsOf 4=1:=af
def c22:Tryz.prog.cellsOf 22=1:=af
def Yl:Tryz.prog.cellsOf 24=1:=af
def Of:Tryz.prog.cellsOf 26=2:=af
def c27:Tryz.prog.cellsOf 27=1:=af
def IK:Tryz.prog.cellsOf 29=4:=af
def c30:Tryz.prog.cellsOf 30=1:=af
def Og:Tryz.prog.cellsOf 32=7:=af
def aGp{n:Int}(h:(Lit.int .u32 n).wf=true):bY n:=by simp[Lit.wf,IntKind.min,IntKind.max,IntKind.bits,IntKind.signed]at h;unfold bY;omega
def Z4{v:Value}{d:DataW H}{a:List MemPlace}(h:DataW.trod dt prog w base sp held L 24 [v]=some (d,a)):∃l:List Int,Dg l/\dE w (S0 w) (.sl (l.map vu)) v:=by
 obtain⟨f,rfl⟩:=x_ h;have c:Tryz.prog.underlying 24=some (.slice 168):=af;have b:Tryz.prog.cellsOf 168=1:=af;have e:Tryz.prog.underlying 168=some (.int .u32):=af;obtain⟨l,i,j⟩:=DM (X:=Int) vu bY c (by rw[b];decide) (λx=>by rw[b];rfl) (λo d a k p=>by obtain⟨n,rfl,m⟩:=F3 e k;exact⟨n,aGp m,fm.cons (.sc _ rfl) fm.nil⟩) h
 exact⟨l,i,j⟩
def axk(h:Z.length=2):∃a b,Z=[a,b]:=by
 match Z,h with
 |[a,b],_=>exact⟨a,b,rfl⟩
def axn(h:Z.length=4):∃a b c d,Z=[a,b,c,d]:=by
 match Z,h with
 |[a,b,c,d],_=>exact⟨a,b,c,d,rfl⟩
def axo(h:Z.length=7):∃a b c d e f i,Z=[a,b,c,d,e,f,i]:=by
 match Z,h with
 |[a,b,c,d,e,f,i],_=>exact⟨a,b,c,d,e,f,i,rfl⟩
def uG{i off:Nat}{ft:TypeId}{d:DataW H}(h:DataW.trod dt prog w base sp held (L+1) k Z=some (d,X))(b:wq prog k i=some (off,ft)):
 Z.length=Tryz.prog.cellsOf k/\∃d X,DataW.trod dt prog w base sp held L ft ((Z.drop off).take (Tryz.prog.cellsOf ft))=some (d,X):=by
 obtain⟨n,c,e,a,f,j⟩:=TR b;obtain⟨l,m⟩:=aFs e h;have:=m i c (an a);rw[f,j]at this;exact⟨l,this⟩
def ab4{cs:av}{d:DataW H}(h:DataW.trod dt prog w base sp held L 26 cs=some (d,X)):∃x:bk,Dg x.aF/\fm w (Yp x) cs:=by obtain⟨f,rfl⟩:=x_ h;obtain⟨a,d0,o,c⟩:=uG (i:=0) (off:=0) (ft:=4) h af;obtain⟨_,d1,p,j⟩:=uG (i:=1) (off:=1) (ft:=24) h af;rw[Of]at a;rw[c4]at c;rw[Yl]at j;obtain⟨q,k,rfl⟩:=axk a;obtain⟨b,e⟩:=apV (show Tryz.prog.underlying 4=some .bool by kernel_rfl) c;obtain⟨l,m,n⟩:=Z4 (v:=k) j;simp at e;subst e;exact⟨⟨b,l⟩,m,fm.cons (.sc _ rfl) (fm.cons n fm.nil)⟩
def aBB:∀(a:Nat){cs:av}{d:DataW H}{b:List MemPlace},DataW.trod dt prog w base sp held a 29 cs=some (d,b)->∃x:J,jG x/\fm w (mJ x) cs:=by
 intro a
 induction a using Nat.strongRecOn with
 |_ a s=>
  intro cs d b h;obtain⟨f,rfl⟩:=x_ h;obtain⟨c,d0,K,o⟩:=uG (i:=0) (off:=0) (ft:=3) h af;obtain⟨_,d1,G,m⟩:=uG (i:=1) (off:=1) (ft:=26) h af;obtain⟨_,d2,E,j⟩:=uG (i:=2) (off:=3) (ft:=27) h af;rw[IK]at c;rw[c3]at o;rw[Of]at m;rw[c27]at j;obtain⟨D,r,q,p,rfl⟩:=axn c;obtain⟨n,e,_⟩:=F3 (show Tryz.prog.underlying 3=some (.int .i64)by kernel_rfl) o;simp at e;subst e;obtain⟨x,t,k⟩:=ab4 (cs:=[r,q]) m;obtain⟨A,rfl⟩:=x_ j
  obtain⟨l,z,y⟩:=DM (X:=J) (v:=p) mJ jG (show Tryz.prog.underlying 27=some (.slice 29)by kernel_rfl) (by rw[IK];decide) (λx=>by rw[IK,l7];rfl)
   (λcs d b u c=>s A O u) j
  refine⟨.mk n x.neg x.aF l,.mk _ _ _ _ t z,?_⟩;rw[l7];have C:=k.2 0 _ _ rfl rfl;have B:=k.2 1 _ _ rfl rfl;exact fm.cons (.sc _ rfl) (fm.cons C (fm.cons B (fm.cons y fm.nil)))
def ax0:∀(a:Nat){cs:av}{d:DataW H}{c:List MemPlace},DataW.trod dt prog w base sp held a 32 cs=some (d,c)->∃x:F,mz x/\fm w (nM x) cs:=by
 intro a
 induction a using Nat.strongRecOn with
 |_ a z=>
  intro cs d c h;obtain⟨f,rfl⟩:=x_ h;obtain⟨j,d0,Q,q⟩:=uG (i:=0) (off:=0) (ft:=3) h af;obtain⟨_,d1,N,p⟩:=uG (i:=1) (off:=1) (ft:=22) h af;obtain⟨_,d2,M,o⟩:=uG (i:=2) (off:=2) (ft:=29) h af;obtain⟨_,d3,L,k⟩:=uG (i:=3) (off:=6) (ft:=30) h af;rw[Og]at j;rw[c3]at q;rw[c22]at p;rw[IK]at o;rw[c30]at k;obtain⟨K,G,y,u,t,s,r,rfl⟩:=axo j;obtain⟨n,e,_⟩:=F3 (show Tryz.prog.underlying 3=some (.int .i64)by kernel_rfl) q;simp at e;subst e;obtain⟨m,e,_⟩:=F3 (show Tryz.prog.underlying 22=some (.int .i64)by kernel_rfl) p;simp at e;subst e;obtain⟨x,A,b⟩:=aBB f (cs:=[y,u,t,s]) o;obtain⟨E,rfl⟩:=x_ k
  obtain⟨l,D,C⟩:=DM (X:=F) (v:=r) nM mz (show Tryz.prog.underlying 30=some (.slice 32)by kernel_rfl) (by rw[Og];decide) (λx=>by rw[Og,r_];rfl)
   (λcs d c B j=>z E O B) k
  refine⟨.mk n m x l,.mk _ _ _ _ A D,?_⟩;rw[r_];rw[l7]at b;exact fm.cons (.sc _ rfl) (fm.cons (.sc _ rfl) (fm.cons (b.2 0 _ _ rfl rfl) (fm.cons (b.2 1 _ _ rfl rfl) (fm.cons (b.2 2 _ _ rfl rfl) (fm.cons (b.2 3 _ _ rfl rfl) (fm.cons C fm.nil))))))
end
def nV:List Int->Int
 |[]=>0
 |d::l=>d+4294967296*nV l
def pB(n:Nat):Int:=4294967296^n
def Dl:pB 0=1:=rfl
def ko(n:Nat):pB (n+1)=4294967296*pB n:=by unfold pB;rw[Int.pow_succ,iB]
theorem kn:∀n,0<pB n
 |0=>by decide
 |n+1=>by rw[ko];have:=kn n;omega
theorem zp(m:Nat):∀n,pB (m+n)=pB m*pB n
 |0=>by rw[Dl,Int.mul_one];rfl
 |n+1=>by rw[<-uj,ko,ko,zp m n,ue]
theorem q8(b:ao):∀a:List Int,nV (a++b)=nV a+pB a.length*nV b
 |[]=>by simp[nV,Dl]
 |d::a=>by rw[ei,nV,nV,q8 b a,fD,ko,mB,kA];omega
def Dg.cons(h:Dg (d::l)):bY d/\Dg l:=⟨h d (bZ ..),λx a=>h x (cE _ a)⟩
def Dg.nil:Dg []:=λ_ h=>by cases h
def Dg.mk(h:bY d)(b:Dg l):Dg (d::l):=λx a=>by rcases dC.1 a with rfl|a;exact h;exact b x a
def Dg.uo(h:Dg l)(c:Dg A):Dg (l++A):=λx d=>(dd.1 d).elim (h x) (c x)
theorem Dg.take(h:Dg l)(n:Nat):Dg (l.take n):=λx b=>h x (oi b)
theorem Dg.drop(h:Dg l)(n:Nat):Dg (l.drop n):=λx b=>h x (B3 b)
def Dg.zU(n:Nat):Dg (List.replicate n 0):=λx a=>by rw[rL a];exact C7
theorem Dg.set(h:Dg l)(n:Nat)(b:bY r):Dg (l.set n r):=λy c=>by
 rcases B4 c with d|rfl
 ·exact h y d
 ·exact b
theorem gS:∀{l:ao},Dg l->0<=nV l/\nV l<pB l.length
 |[],_=>by decide
 |d::l,h=>by have b:=gS h.cons.2;have a:=h.cons.1;rw[cg]at a;rw[nV,fD,ko];omega
def gf(h:Dg l):0<=nV l:=(gS h).1
theorem vZ:∀n,nV (List.replicate n 0)=0
 |0=>rfl
 |n+1=>by rw[rR,nV,vZ n];rfl
def tH(l:ao)(n:Nat):nV l=nV (l.take n)+pB (l.take n).length*nV (l.drop n):=by have:=q8 (l.drop n) (l.take n);rw[om]at this;exact this
theorem so:∀{l:ao}{n:Nat}{x y:Int},l[n]?=some y->nV (l.set n x)=nV l+(x-y)*pB n
 |[],n,x,y,h=>by simp at h
 |d::l,0,x,y,h=>by simp only[jH,cY]at h;subst h;rw[vm,nV,nV,Dl];omega
 |d::l,n+1,x,y,h=>by rw[yr]at h;rw[HV,nV,nV,so h,ko,mB,ue 4294967296];omega
def kj(l:ao):=l.getLast?≠some 0
theorem TV(l:ao):∀k,k<=l.length->(∀j,jX l k<=j->j<k->l[j]?=some 0)/\(jX l k=0\/l[jX l k-1]? ≠some 0)
 |0,_=>⟨λj _ h=>O,.inl rfl⟩
 |k+1,d=>by
  rw[jX];by_cases h:l[k]?=some 0
  ·rw[aK h];have a:=TV l k O;refine⟨λj b c=>?_,a.2⟩;by_cases e:j=k
   ·rw[e];exact h
   ·exact a.1 j b O
  ·rw[g h];exact⟨λj b c=>O,.inr h⟩
def Ud(l:ao):l=aR l++List.replicate (l.length-(aR l).length) 0:=by
 have h:=(TV l l.length (bu _)).1;have b:=Ml l l.length;have hlen:(aR l).length=jX l l.length:=by simp[aR];omega
 rw[hlen];have e:l.drop (jX l l.length)=List.replicate (l.length-jX l l.length) 0:=by
  apply ug;intro j;rw[m_,wO];by_cases a:j<l.length-jX l l.length
  ·rw[aK a];exact h _ O O
  ·rw[g a,gp O]
 rw[<-e,aR,om]
def gZ(l:ao):nV (aR l)=nV l:=by have:=aY nV (Ud l);rw[q8,vZ,z_,yi]at this;exact this.symm
def sx(l:ao):kj (aR l):=by
 unfold kj;have h:=(TV l l.length (bu _)).2;have a:=Ml l l.length;rw[aR,pS];rcases h with h|h
 ·rw[h];simp
 ·rw[ez,ju a,rM];split
  ·exact h
  ·simp
def K1:kj []:=by simp[kj]
def K2(h:kj (d::l)):kj l:=by
 unfold kj at*;cases l with
 |nil=>simp
 |cons e l=>simpa[List.getLast?_cons_cons]using h
def Uc(h:kj l):aR l=l:=by
 have e:=Ud l;by_cases a:l.length-(aR l).length=0
 ·have:=mw l;rw[a,HU,l4]at e;exact e.symm
 ·exfalso;obtain⟨k,a⟩:∃k,l.length-(aR l).length=k+1:=⟨l.length-(aR l).length-1,O⟩;rw[a]at e;apply h;rw[e,List.replicate_succ',<-gh,List.getLast?_append];simp
theorem KU:∀{a b:ao},Dg a->Dg b->kj a->kj b->nV a=nV b->a=b
 |[],[],_,_,_,_,_=>rfl
 |[],e::b,l,k,j,i,h=>by
  exfalso;have c:=k.cons;have f:=gf c.2;rw[cg]at c;rw[nV,nV]at h;have:=KU (a:=[]) (b:=b) Dg.nil c.2 K1 (K2 i) (by rw[nV];omega);subst this;have:e=0:=by rw[nV]at h;omega
  subst this;exact i rfl
 |d::a,[],l,k,j,i,h=>by
  exfalso;have c:=l.cons;have f:=gf c.2;rw[cg]at c;rw[nV,nV]at h;have:=KU (a:=a) (b:=[]) c.2 Dg.nil (K2 j) K1 (by rw[nV];omega);subst this;have:d=0:=by rw[nV]at h;omega
  subst this;exact j rfl
 |d::a,e::b,l,k,j,i,h=>by have c:=l.cons;have f:=k.cons;have o:=gf c.2;have n:=gf f.2;rw[cg]at c f;rw[nV,nV]at h;have m:d=e:=O;have:=KU (a:=a) (b:=b) c.2 f.2 (K2 j) (K2 i) O;rw[m,this]
def cM(n:Nat):List Int:=if h:n=0 then []else((n%4294967296:Nat):Int)::cM (n/4294967296)
termination_by n
decreasing_by omega
def uC:cM 0=[]:=by rw[cM];rfl
def Jt(h:L≠0):cM L=((L%4294967296:Nat):Int)::cM (L/4294967296):=by rw[cM,dif_neg h]
def lR(n:Nat):Dg (cM n)/\nV (cM n)=n/\kj (cM n):=by
 induction n using Nat.strongRecOn with
 |_ n d=>
  by_cases h:n=0
  ·subst h;rw[uC];exact⟨Dg.nil,rfl,K1⟩
  ·rw[Jt h];obtain⟨f,e,c⟩:=d (n/4294967296) O;refine⟨Dg.mk (cg.2 ⟨O,O⟩) f,by rw[nV,e];omega,?_⟩;unfold kj;by_cases b:n/4294967296=0
   ·rw[b,uC,List.getLast?_singleton];intro a;injection a with a;omega
   ·rw[Jt b]at c⊢;rw[List.getLast?_cons_cons];exact c
def tc(h:Dg l):aR l=cM (nV l).toNat:=by have a:=lR (nV l).toNat;have:=gf h;exact KU h.eW a.1 (sx l) a.2.2 (by rw[gZ,a.2.1];omega)
def Z1(h:Dg l)(a:kj l):l=cM (nV l).toNat:=by rw[<-tc h,Uc a]
def qR{n:Nat}(h:(n:Int)<pB k):(cM n).length<=k:=by
 induction k generalizing n with
 |zero=>rw[Dl]at h;have:n=0:=by omega
        subst this;rw[uC];exact bu _
 |succ k b=>
  by_cases a:n=0
  ·subst a;rw[uC];exact dD _
  ·rw[Jt a,fD];have:=b (n:=n/4294967296) (by rw[ko]at h;omega);omega
def CP(n:Nat):aR (cM n)=cM n:=Uc (lR n).2.2
def iV(x:bk):Int:=if x.neg then-nV x.aF else nV x.aF
def iD(n:Int):bk:=⟨decide (n<0),cM n.natAbs⟩
def il(n:Int):iV (iD n)=n:=by
 unfold iV iD;rw[(lR _).2.1];by_cases h:n<0
 ·rw[aK (an h)];omega
 ·rw[g (an h)];omega
def fA(n:Int):Dg (iD n).aF:=(lR _).1
def Q9(h:Dg l)(a:kj l)(b:nV l=0):l=[]:=by have:=Z1 h a;rw[b]at this;rw[this];exact uC
def zC{b:Bool}(h:Dg l):iL b (aR l)=iD (if b then-nV l else nV l):=by
 unfold iL iD;have i:=gf h;have e:(if b=true then-nV l else nV l).natAbs=(nV l).toNat:=by split<;>omega
 rw[e,<-tc h];congr 1;by_cases a:nV l=0
 ·have:aR l=[]:=Q9 h.eW (sx l) (by rw[gZ];exact a);rw[this,a];simp
 ·have d:0<(aR l).length:=by apply H4;intro f;have:aR l=[]:=fc f;have c:=gZ l;rw[this]at c;exact a c.symm
  cases b
  ·simp;omega
  ·simp[d];omega
def tJ(h:Dg x.aF):jm x=iD (iV x):=by unfold jm iV;exact zC h
theorem adL(j:Dg A)(m:Dg l):∀k,nV ((List.range k).map (o5 A l))+pB k*lP A l k=nV (A.take k)+nV (l.take k)
 |0=>by simp[nV,Yn]
 |k+1=>by
  have s:=adL j m k;have f:∀(d:ao),nV (d.take (k+1))=nV (d.take k)+pB k*(d[k]?).getD 0:=λd=>by
   rw[h_,q8];by_cases h:k<d.length
   ·rw[ez,ju O];congr 1;rw[ca h];simp[nV]
   ·rw[gp O];simp[nV]
  rw[f,f,oW,gB,q8,dS,oh,IM,ko];have e:nV ([k].map (o5 A l))=((A[k]?).getD 0+(l[k]?).getD 0+lP A l k)%4294967296:=by simp[nV,o5]
  rw[e];generalize(A[k]?).getD 0=a at*;generalize(l[k]?).getD 0=b at*;generalize lP A l k=c at*;have n:a+b+c=(a+b+c)%4294967296+4294967296*((a+b+c)/4294967296):=O;generalize(a+b+c)%4294967296=r at*;generalize(a+b+c)/4294967296=q at*;generalize pB k=p at*;generalize nV ((List.range k).map (o5 A l))=z at*;have i:p*(a+b+c)=p*(r+4294967296*q):=by rw[n]
  rw[mB,mB,mB]at i;have o:p*(4294967296*q)=4294967296*p*q:=by rw[<-kA,iB p]
  rw[o]at i;omega
def aza{B:ao}(a:Dg A)(b:Dg B)(c:B.length<=A.length):nV (qL A B)=nV A+nV B:=by have h:=adL a b A.length;rw[i_,eQ c]at h;unfold qL;rw[q8,dS,oh];simp only[nV,z_,yi];exact h
theorem Dg.qL(a:Dg A)(b:Dg l):Dg (qL A l):=by
 refine Dg.uo (λx c=>?_) (Dg.mk ?_ Dg.nil)
 ·obtain⟨k,_,rfl⟩:=cj.1 c;unfold o5;rw[cg];omega
 ·have:=IL a b A.length;rw[cg];omega
def Is{b:ao}(c:Dg l)(d:Dg b):ig l b=cM (nV l+nV b).toNat:=by
 have e:=QJ c.eW d.eW;have f:=Tj c.eW d.eW;unfold ig;rw[tc (Dg.qL e f),aza e f (ac2 _ _)];have:nV (qf (aR l) (aR b))+nV (u6 (aR l) (aR b))=nV l+nV b:=by unfold qf u6;split<;>rw[gZ,gZ]<;>omega
 rw[this]
theorem adN(f:Dg A)(i:Dg l):∀k,nV ((List.range k).map (o9 A l))-pB k*lM A l k=nV (A.take k)-nV (l.take k)
 |0=>by simp[nV,XV]
 |k+1=>by
  have s:=adN f i k;have j:∀(d:ao),nV (d.take (k+1))=nV (d.take k)+pB k*(d[k]?).getD 0:=λd=>by
   rw[h_,q8];by_cases h:k<d.length
   ·rw[ez,ju O];congr 1;rw[ca h];simp[nV]
   ·rw[gp O];simp[nV]
  have d1:=qQ f k;have d2:=qQ i k;have d3:=N5 A l k;rw[cg]at d1 d2;rw[j,j,oW,gB,q8,dS,oh,ID,ko];have e:nV ([k].map (o9 A l))=((A[k]?).getD 0-(l[k]?).getD 0-lM A l k)%4294967296:=by simp[nV,o9]
  rw[e];generalize(A[k]?).getD 0=a at*;generalize(l[k]?).getD 0=b at*;generalize lM A l k=c at*;have n:a-b-c=(a-b-c)%4294967296-4294967296*(if a<b+c then 1 else 0):=by split<;>omega
  generalize(a-b-c)%4294967296=r at*;generalize(if a<b+c then(1:Int)else 0)=q at*;generalize pB k=p at*;generalize nV ((List.range k).map (o9 A l))=z at*;have m:p*(a-b-c)=p*(r-4294967296*q):=by rw[n]
  rw[Eb,Eb,Eb]at m;have o:p*(4294967296*q)=4294967296*p*q:=by rw[<-kA,iB p]
  rw[o]at m;omega
theorem YQ(d:Dg A)(e:Dg l):∀k,k<=A.length->k<=l.length->oZ A l k=if nV (A.take k)<nV (l.take k)then-1 else if nV (l.take k)<nV (A.take k)then 1 else 0
 |0,_,_=>by simp[oZ]
 |k+1,m,n=>by
  have o:=YQ d e k O O;have f:∀(c:ao),k<c.length->nV (c.take (k+1))=nV (c.take k)+pB k*(c[k]?).getD 0:=λc h=>by rw[h_,q8,ez,ju O];congr 1;rw[ca h];simp[nV]
  rw[oZ,o,f A m,f l n];have p:=gS (d.take k);have q:=gS (e.take k);rw[ez,ju O]at p q;have r:=kn k;generalize nV (A.take k)=x at*;generalize nV (l.take k)=y at*;generalize(A[k]?).getD 0=a at*;generalize(l[k]?).getD 0=b at*;rcases Int.lt_trichotomy a b with h|h|h
  ·have:pB k*(a+1)<=pB k*b:=qx O O;rw[mB]at this;rw[aK h,aK O]
  ·subst h;rw[g (show¬a<a by omega),g (show¬a<a by omega)];by_cases i:x<y
   ·rw[aK i,aK O]
   ·rw[g i,g (show¬x+pB k*a<y+pB k*a by omega)];by_cases j:y<x
    ·rw[aK j,aK O]
    ·rw[g j,g O]
  ·have:pB k*(b+1)<=pB k*a:=qx O O;rw[mB]at this;rw[g O,aK h,g O,aK O]
def Gs(h:Dg l)(d:kj l)(j:0<l.length):pB (l.length-1)<=nV l:=by
 obtain⟨n,c⟩:∃n,l.length=n+1:=⟨l.length-1,O⟩;have e:=tH l n;rw[ez,ju O]at e;have k:=gS (h.take n);have f:l.drop n=[l[n]' O]:=by rw[mZ O,pR O]
 have a:l[n]' O≠0:=by intro i;apply d;rw[pS,c,yu,ca O,i]
 have b:=h (l[n]' O) (rO _);rw[cg]at b;rw[f]at e;simp only[nV,z_,yi]at e;rw[c,yu];have:pB n*1<=pB n*l[n]:=qx O (by have:=kn n;omega);omega
def wc{n:Nat}(h:L<=n):pB L<=pB n:=by obtain⟨k,rfl⟩:∃k,n=L+k:=⟨n-L,O⟩;rw[zp];have a:=kn L;have b:=kn k;have:pB L*1<=pB L*pB k:=qx O O;omega
def Av(j:Dg l)(k:Dg A):ij l A=if nV l<nV A then-1 else if nV A<nV l then 1 else 0:=by
 unfold ij;have f:=gZ l;have h:=gZ A;have m:=sx l;have n:=sx A;have d1:=j.eW;have d2:=k.eW;have o:=gS d1;have p:=gS d2;rw[<-f,<-h];clear f h;generalize aR l=c at*;generalize aR A=B at*;by_cases d:c.length<B.length
 ·have:=Gs d2 n O;have:=wc (show c.length<=B.length-1 by omega);rw[aK d,aK O]
 ·by_cases i:B.length<c.length
  ·have:=Gs d1 m O;have:=wc (show B.length<=c.length-1 by omega);rw[g d,aK i,g O,aK O]
  ·have e:c.length=B.length:=by omega
   rw[g d,g i,YQ d1 d2 _ (bu _) O,i_,eQ O]
theorem Dg.oa:Dg (oa A l):=by intro x a;obtain⟨k,_,rfl⟩:=cj.1 a;unfold o9;rw[cg];omega
def TF{b:ao}(f:Dg A)(i:Dg b)(h:nV b<=nV A):lB A b=cM (nV A-nV b).toNat:=by
 have k:=Av f i;have j:¬ij A b<0:=by rw[k,g O];split<;>omega
 unfold lB;rw[g j,tc Dg.oa];have hlen:=YR j;have c:=adN f.eW i.eW (aR A).length;rw[i_,eQ hlen,gZ,gZ]at c;have e:nV (oa (aR A) (aR b))=nV A-nV b:=by
  have d:=gS (l:=oa (aR A) (aR b)) Dg.oa;have m:=N5 (aR A) (aR b) (aR A).length;have n:(oa (aR A) (aR b)).length=(aR A).length:=by simp[oa]
  rw[n]at d;change nV (oa (aR A) (aR b))-_=_ at c;have:lM (aR A) (aR b) (aR A).length=0\/lM (aR A) (aR b) (aR A).length=1:=O;rcases this with e|e
  ·rw[e]at c;omega
  ·rw[e]at c;omega
 rw[e]
def Ir{y:bk}(c:Dg x.aF)(d:Dg y.aF):ji x y=iD (iV x+iV y):=by
 have tr:∀n,aR (cM n)=cM n:=CP;have o:=gf c;have p:=gf d;have a:∀(b:Bool)(n:Int),0<=n->iL b (cM n.toNat)=iD (if b then-n else n):=λb n q=>by rw[<-tr,zC (lR _).1,(lR _).2.1];have:((n.toNat:Nat):Int)=n:=O;rw[this]
 have k:=Av c d;have l:=Av d c;unfold ji iV;by_cases h:x.neg=y.neg
 ·rw[aK h,Is c d,a _ _ O,h];congr 1;split<;>omega
 ·rw[g h];by_cases f:0<=ij x.aF y.aF
  ·rw[aK f];have i:nV y.aF<=nV x.aF:=by
    refine Aa.1 λj=>?_
    rw[k,aK j]at f;omega
   rw[TF c d i,a _ _ O];congr 1;cases e:x.neg<;>cases m:y.neg<;>simp_all<;>omega
  ·rw[g f];have i:nV x.aF<=nV y.aF:=by
    refine Aa.1 λj=>f ?_
    rw[k,g O,aK j];omega
   rw[TF d c i,a _ _ O];congr 1;cases e:x.neg<;>cases m:y.neg<;>simp_all<;>omega
def qp(h:Dg x.aF):gu x=if iV x<0 then-1 else if 0<iV x then 1 else 0:=by
 unfold gu iV;have d:=gf h;by_cases a:(aR x.aF).length=0
 ·have e:=fc a;have b:=gZ x.aF;rw[e]at b;rw[aK a,<-b];cases x.neg<;>rfl
 ·have:nV x.aF≠0:=λc=>a (by rw[Q9 h.eW (sx _) (by rw[gZ];exact c)];rfl)
  rw[g a];cases x.neg
  ·simp;rw[g O,aK O]
  ·simp;omega
def kP(n:Int):J:=.mk 0 (iD n).neg (iD n).aF []
def cV(p:J):Int:=iV ⟨p.neg,p.aF⟩
def IP(n:Int):cV (kP n)=n:=il n
def abV:iD 0=⟨false,[]⟩:=by unfold iD;rw[show(0:Int).natAbs=0 from rfl,uC];rfl
def vP:kP 0=zP:=by unfold kP;rw[abV];rfl
def Z3{n:Nat}(h:n≠0):cM n≠[]:=by rw[Jt h];simp
def F5(n:Int):bM (kP n)=decide (n=0):=by
 by_cases h:n=0
 ·subst h;rw[vP];rfl
 ·have:cM n.natAbs≠[]:=Z3 O;have a:(cM n.natAbs).length≠0:=λh=>this (fc h)
  unfold bM kP iD;simp[J.aJ,J.aF,a,h]
inductive br:Nat->J->Prop where
 |const {L:Nat} (n:Int):br L (kP n)
 |node {L:Nat} (lv:Nat) (cs:List J) (h1:1<=lv) (h2:lv<=L) (h3:2<=cs.length) (h4:∀c∈cs,br (lv-1) c) (h5:∀c,cs.getLast?=some c->bM c=false):br L (.mk lv false [] cs)
def br.mono(h:br L p)(i:L<=k):br k p:=by
 cases h with
 |const n=>exact .const n
 |node a b c j d e f=>exact .node a b c O d e f
def br.zero(L:Nat):br L zP:=by rw[<-vP];exact .const 0
mutual
def ev (b:az):J->Rat
 |.mk l n a d=>if l<=0 then((iV ⟨n,a⟩:Int):Rat)else if 4<l then 0 else cP b (b l) d
def cP (b:az) (x:Rat):List J->Rat
 |[]=>0
 |c::r=>ev b c+x*cP b x r
end
def l_(a:az)(n:Int):ev a (kP n)=(n:Rat):=by unfold kP;rw[ev,aK ae];congr 1;exact il n
def gr(a:az):ev a zP=0:=by rw[<-vP,l_];rfl
def uD(b:az)(cs:List J)(c:1<=L)(d:L<=4)(n:Bool)(a:ao):ev b (.mk L n a cs)=cP b (b L) cs:=by rw[ev,g O,g O]
def qa(h:br L p)(a:bM p=true):p=zP:=by
 cases h with
 |const n=>rw[F5]at a;rw[eD a,vP]
 |node b c d e f i j=>unfold bM at a;simp[J.aJ]at a;omega
def pw(x:Rat):Nat->Rat
 |0=>1
 |n+1=>x*pw x n
theorem FE(d:az)(x:Rat)(b:List J):∀a,cP d x (a++b)=cP d x a+pw x a.length*cP d x b
 |[]=>by rw[gi,cP,rP,pw];grind
 |c::a=>by rw[ei,cP,cP,FE d x b a,fD,pw];grind
theorem CV(a:az)(x:Rat):∀l:List J,(∀c∈l,ev a c=0)->cP a x l=0
 |[],_=>by rw[cP]
 |c::r,h=>by rw[cP,h c (bZ ..),CV a x r (λc b=>h c (cE _ b))];grind
def iW(a:List J):Nat->Nat
 |0=>0
 |k+1=>if((a[k]?).map bM).getD false then iW a k else k+1
theorem ai4(a:List J):∀k,iW a k<=k
 |0=>bu 0
 |k+1=>by rw[iW];have:=ai4 a k;split<;>omega
def kO(b:Int)(a:List J):J:=
 if iW a a.length=0 then zP else if iW a a.length=1 then a.headD zP else .mk b false [] (a.take (iW a a.length))
theorem Mt(a:List J):∀k,k<=a.length->(∀j,iW a k<=j->j<k->((a[j]?).map bM).getD false=true)/\(iW a k=0\/((a[iW a k-1]?).map bM).getD false=false)
 |0,_=>⟨λj _ h=>O,.inl rfl⟩
 |k+1,f=>by
  rw[iW];by_cases h:((a[k]?).map bM).getD false=true
  ·rw[aK h];have b:=Mt a k O;refine⟨λj c d=>?_,b.2⟩;by_cases e:j=k
   ·rw[e];exact h
   ·exact b.1 j c O
  ·rw[g h];exact⟨λj c d=>O,.inr (by rw[yu];simpa using h)⟩
def auO(a:az)(x:Rat){cs:List J}(h:∀c∈cs,br L c):cP a x (cs.take (iW cs cs.length))=cP a x cs:=by
 have Y:=(Mt cs cs.length (bu _)).1;have e:=FE a x (cs.drop (iW cs cs.length)) (cs.take (iW cs cs.length));rw[om]at e;rw[e,CV a x (cs.drop _)]
 ·grind
 ·intro c f;obtain⟨j,i,rfl⟩:=List.mem_iff_getElem.1 f;rw[qC]at i;have b:iW cs cs.length+j<cs.length:=O;have d:=Y (iW cs cs.length+j) O b;rw[ca b]at d;have k:=qa (h _ (rO b)) (an d);rw[List.getElem_drop,k,gr]
def aiZ(a:az)(d:1<=L)(f:L<=4){cs:List J}(h:∀c∈cs,br k c):ev a (kO L cs)=cP a (a L) cs:=by
 have e:=auO a (a L) h;unfold kO;split
 ·rename_i b;rw[b]at e;rw[gr,<-e,iC,cP]
 ·split
  ·rename_i b;rw[b]at e;rw[<-e];cases cs with
   |nil=>simp[iW]at b
   |cons c r=>rw[pT,iC,cP,cP,List.headD_cons];grind
  ·rw[uD a _ d f,e]
def aiX(e:1<=L)(h:∀c∈a,br (L-1) c):br L (kO L a):=by
 have Y:=(Mt a a.length (bu _)).2;have d:=ai4 a a.length;unfold kO;split
 ·exact .zero _
 ·split
  ·cases a with
   |nil=>exact .zero _
   |cons c r=>exact(h c (bZ ..)).mono O
  ·rename_i f i;refine .node L _ e (bu _) (by rw[ez];omega) (λc b=>h c (oi b)) (λc b=>?_);rcases Y with Y|Y
   ·exact absurd Y f
   ·rw[pS,ez,ju d,rM,aK O]at b;rw[b]at Y;simpa using Y
def cT:List J->Int
 |[]=>0
 |p::r=>max p.aJ (cT r)
theorem qg:∀l,0<=cT l
 |[]=>B0 0
 |p::r=>by rw[cT];have:=qg r;omega
theorem zg:∀{l:List J}{p:J},p∈l->p.aJ<=cT l
 |q::r,p,h=>by
  rw[cT];rcases dC.1 h with rfl|h
  ·omega
  ·have:=zg h;omega
theorem A9{L:Int}(a:0<=L):∀{l:List J},(∀p∈l,p.aJ<=L)->cT l<=L
 |[],_=>a
 |p::r,h=>by
  rw[cT];have:=h p (bZ ..);have:=A9 a (l:=r) λq b=>h q (cE _ b)
  omega
def iM(a:Int):List J->Nat
 |[]=>0
 |p::r=>if p.aJ=a then max p.aG.length (iM a r)else iM a r
def sJ:List J->Int
 |[]=>0
 |p::r=>cV p+sJ r
def dN(a:Int)(i:Nat)(p:J):Option J:=if p.aJ=a then p.aG[i]? else if p.aJ<a/\i=0 then some p else none
def lL:Nat->List J->J
 |0,l=>kP (sJ l)
 |f+1,l=>if cT l=0 then kP (sJ l)else kO (cT l) ((List.range (iM (cT l) l)).map λi=>lL f (l.filterMap (dN (cT l) i)))
def iP(l:List J):J:=lL (cT l).toNat l
def br.lv(h:br L p):0<=p.aJ/\p.aJ<=L:=by
 cases h with
 |const n=>exact⟨B0 0,by show(0:Int)<=L;omega⟩
 |node a b c d e f i=>exact⟨by show(0:Int)<=a;omega,by show(a:Int)<=L;omega⟩
def br.bz(h:br L p)(a:c∈p.aG):br (p.aJ.toNat-1) c:=by
 cases h with
 |const n=>cases a
 |node d e f i j b k=>exact b c a
def br.oX(h:br L p)(a:p.aJ=0):p=kP (cV p):=by
 cases h with
 |const n=>rw[IP]
 |node b c d e f i j=>have:(b:Int)=0:=a;omega
def br.ow(h:br L p)(b:p.aJ≠0):∃a:Nat,1<=a/\a<=L/\p.aJ=a/\p=.mk a false [] p.aG/\2<=p.aG.length:=by
 cases h with
 |const n=>exact absurd rfl b
 |node a f c d e i j=>exact⟨a,c,d,rfl,rfl,e⟩
def GF{lv:Nat}(h:∀p∈a,br L p)(o:1<=lv)(i:Nat):∀c∈a.filterMap (dN lv i),br (lv-1) c:=by
 intro c q;obtain⟨p,r,b⟩:=Ai.1 q;have d:=h p r;unfold dN at b;split at b
 ·rename_i e;have:=d.bz (bF b);rw[e]at this;exact this
 ·split at b
  ·rename_i e;injection b with b;subst b
   obtain⟨e,_⟩:=e;by_cases f:p.aJ=0
   ·rw[d.oX f];exact .const _
   ·obtain⟨m,x,y,j,z,A⟩:=d.ow f;rw[j]at e;cases d with
    |const n=>exact absurd rfl f
    |node k s t B u v w=>have:(k:Int)=m:=j;exact .node k s t O u v w
  ·cases b
def iA(a:az):List J->Rat
 |[]=>0
 |p::r=>ev a p+iA a r
theorem TH(b:az):∀{l:List J},(∀p∈l,br L p)->(∀p∈l,p.aJ=0)->iA b l=((sJ l:Int):Rat)
 |[],_,_=>by rw[iA,sJ];rfl
 |p::r,h,c=>by rw[iA,sJ,TH b (λq a=>h q (cE _ a)) (λq a=>c q (cE _ a)),Rat.intCast_add];congr 1;rw[(h p (bZ ..)).oX (c p (bZ ..)),l_,IP]
def Pm(a:az)(x:Rat)(f:Nat->J):∀n,cP a x ((List.range (n+1)).map f)=cP a x ((List.range n).map f)+pw x n*ev a (f n):=by intro n;rw[oW,gB,FE];simp only[dc,gL,cP,dS,oh];grind
def aaD(d:az)(x:Rat):∀(a:List J)(n:Nat),a.length<=n->cP d x a=cP d x ((List.range n).map λi=>(a[i]?).getD zP):=by
 intro a n k;have e:(List.range n).map (λi=>(a[i]?).getD zP)=a++List.replicate (n-a.length) zP:=by
  apply ug;intro j;rw[dU,B2];by_cases f:j<n
  ·rw[qB f];by_cases b:j<a.length
   ·rw[aK b];simp[ca b]
   ·rw[g b,wO,aK O];simp[gp (show a.length<=j by omega)]
  ·rw[gp (by simp;omega)];rw[g O,wO,g O];rfl
 rw[e,FE,CV d x (List.replicate _ zP) (λc h=>by rw[rL h,gr])];grind
def aBl(d:az){lv:Nat}(B:1<=lv)(C:lv<=4)(n:Nat):∀{l:List J},(∀p∈l,br L p)->(∀p∈l,p.aJ<=lv)->(∀p∈l,p.aJ=lv->p.aG.length<=n)->1<=n->
 iA d l=((List.range n).map λi=>pw (d lv) i*iA d (l.filterMap (dN lv i))).foldr (·+ ·) 0:=by
 have o:∀(b:Nat->Rat)(m:Nat),((List.range (m+1)).map b).foldr (·+ ·) 0=((List.range m).map b).foldr (·+ ·) 0+b m:=by
  intro b m;rw[oW,gB,List.foldr_append];simp only[dc,gL,Ei,Ag];have:∀(l:List Rat)(z:Rat),l.foldr (·+ ·) z=l.foldr (·+ ·) 0+z:=by
   intro l z
   induction l with
   |nil=>simp only[Ag];grind
   |cons a r s=>simp only[Ei,s];grind
  rw[this];grind
 have D:∀m,((List.range m).map λi=>pw (d lv) i*iA d ([].filterMap (dN lv i))).foldr (·+ ·) 0=0:=by
  intro m
  induction m with
  |zero=>rfl
  |succ m s=>rw[o,s,List.filterMap_nil,iA];grind
 intro l
 induction l with
 |nil=>intro _ _ _ _;rw[D,iA]
 |cons p r s=>
  intro x y A t;have u:=s (λq h=>x q (cE _ h)) (λq h=>y q (cE _ h)) (λq h=>A q (cE _ h)) t;have E:=x p (bZ ..);have v:ev d p=((List.range n).map λi=>pw (d lv) i*((dN lv i p).map (ev d)).getD 0).foldr (·+ ·) 0:=by
   by_cases e:p.aJ=lv
   ·obtain⟨m,M,N,P,G,Q⟩:=E.ow O;have H:m=lv:=O;subst H;have hlen:=A p (bZ ..) e;rw[G,uD d _ B C,aaD d _ p.aG n hlen];have:∀k,cP d (d m) ((List.range k).map λi=>(p.aG[i]?).getD zP)=((List.range k).map λi=>pw (d m) i*((dN m i (.mk m false [] p.aG)).map (ev d)).getD 0).foldr (·+ ·) 0:=by
     intro k
     induction k with
     |zero=>rw[HT,gL,cP];rfl
     |succ k f=>
      rw[Pm,o,f];congr 2;unfold dN;rw[aK (show(J.mk (m:Int) false [] p.aG).aJ=(m:Int)from rfl)];show ev d ((p.aG[k]?).getD zP)=((p.aG[k]?).map (ev d)).getD 0;cases p.aG[k]? with
      |none=>exact gr d
      |some c=>rfl
    exact this n
   ·have w:p.aJ<lv:=by have:=y p (bZ ..);omega
    have:∀k,1<=k->((List.range k).map λi=>pw (d lv) i*((dN lv i p).map (ev d)).getD 0).foldr (·+ ·) 0=ev d p:=by
     intro k K;obtain⟨k,rfl⟩:∃j,k=j+1:=⟨k-1,O⟩;clear K
     induction k with
     |zero=>rw[o];unfold dN;rw[g e,aK ⟨w,rfl⟩];simp only[HT,gL,Ag,dH,ie,pw];grind
     |succ k f=>rw[o,f];unfold dN;rw[g e,g O];simp only[Ex,Ew];grind
    exact(this n t).symm
  rw[iA,u,v];have:∀k,((List.range k).map λi=>pw (d lv) i*((dN lv i p).map (ev d)).getD 0).foldr (·+ ·) 0+((List.range k).map λi=>pw (d lv) i*iA d (r.filterMap (dN lv i))).foldr (·+ ·) 0=((List.range k).map λi=>pw (d lv) i*iA d ((p::r).filterMap (dN lv i))).foldr (·+ ·) 0:=by
   intro k
   induction k with
   |zero=>simp only[HT,gL,Ag];grind
   |succ k f=>
    rw[o,o,o,<-f];cases h:dN lv k p with
    |none=>rw[yn h];simp only[Ex,Ew];grind
    |some q=>rw[yo h,iA];simp only[dH,ie];grind
  exact this n
theorem TL:∀{l:List J}{p:J},p∈l->p.aJ=r->p.aG.length<=iM r l
 |q::a,p,h,e=>by
  rw[iM];rcases dC.1 h with rfl|h
  ·rw[aK e];omega
  ·have:=TL h e;split<;>omega
theorem Df:∀{l:List J},cT l≠0->∃p∈l,p.aJ=cT l
 |[],h=>absurd rfl h
 |p::r,h=>by
  rw[cT]at h⊢;by_cases c:cT r<=p.aJ
  ·exact⟨p,bZ ..,O⟩
  ·have e:max p.aJ (cT r)=cT r:=by omega
   rw[e]at h⊢;obtain⟨q,a,b⟩:=Df h;exact⟨q,cE _ a,b⟩
theorem NR(b:az):∀(f:Nat)(l:List J),(∀p∈l,br 4 p)->cT l<=f->ev b (lL f l)=iA b l/\br (cT l).toNat (lL f l)
 |0,l,h,hf=>by
  have t:∀p∈l,p.aJ=0:=λp j=>by have:=zg j;have:=(h p j).lv;omega
  rw[lL];exact⟨by rw[l_,TH b h t],.const _⟩
 |f+1,l,h,hf=>by
  rw[lL];by_cases t:cT l=0
  ·rw[aK t];have q:∀p∈l,p.aJ=0:=λp j=>by have:=zg j;have:=(h p j).lv;omega
   exact⟨by rw[l_,TH b h q],.const _⟩
  ·rw[g t];have G:=qg l;obtain⟨lv,w⟩:∃lv:Nat,cT l=lv:=⟨(cT l).toNat,O⟩;obtain⟨x,o,A⟩:=Df t;have B:=(h x o).lv;have q:1<=lv:=O;have y:lv<=4:=O;rw[w]at A⊢;have n:=λi=>GF (lv:=lv) h q i
   have u:∀i,ev b (lL f (l.filterMap (dN lv i)))=iA b (l.filterMap (dN lv i))/\br (lv-1) (lL f (l.filterMap (dN lv i))):=λi=>by
    have D:cT (l.filterMap (dN lv i))<=((lv-1:Nat):Int):=A9 O λc s=>(n i c s).lv.2
    have:=NR b f (l.filterMap (dN lv i)) (λc s=>(n i c s).mono O) O;exact⟨this.1,this.2.mono O⟩
   have d:∀c∈(List.range (iM lv l)).map (λi=>lL f (l.filterMap (dN lv i))),br (lv-1) c:=λc s=>by obtain⟨i,_,rfl⟩:=cj.1 s;exact(u i).2
   refine⟨?_,(aiX q d).mono O⟩;rw[aiZ b q y d];have C:1<=iM lv l:=by have:=TL o A;obtain⟨m,N,M,L,K,H⟩:=(h x o).ow O;omega
   rw[aBl b q y (iM lv l) h (λp j=>by have:=zg j;omega) (λp j e=>TL j e) C];have:∀k,cP b (b lv) ((List.range k).map λi=>lL f (l.filterMap (dN lv i)))=((List.range k).map λi=>pw (b lv) i*iA b (l.filterMap (dN lv i))).foldr (·+ ·) 0:=by
    intro k
    induction k with
    |zero=>rw[HT,gL,cP];rfl
    |succ k v=>
     have E:∀(Z:Nat->Rat)(m:Nat),((List.range (m+1)).map Z).foldr (·+ ·) 0=((List.range m).map Z).foldr (·+ ·) 0+Z m:=by
      intro Z m;rw[oW,gB,List.foldr_append];simp only[dc,gL,Ei,Ag];have:∀(l:List Rat)(z:Rat),l.foldr (·+ ·) z=l.foldr (·+ ·) 0+z:=by
       intro l z
       induction l with
       |nil=>simp only[Ag];grind
       |cons a r u=>simp only[Ei,u];grind
      rw[this];grind
     rw[Pm,E,v,(u k).1]
   exact this _
def W4(a:az){l:List J}(h:∀p∈l,br 4 p):ev a (iP l)=iA a l:=(NR a _ l h (by have:=qg l;omega)).1
def NS{L:Nat}(c:L<=4)(h:∀p∈a,br L p):br L (iP a):=by
 have d:∀p∈a,br 4 p:=λp b=>(h p b).mono c
 have:=(NR (λ_=>0) _ a d (show cT a<=((cT a).toNat:Int)by have:=qg a;omega)).2;exact this.mono (by have:=A9 (L:=L) O λp b=>(h p b).lv.2;omega)
theorem W0:∀(f Z:Nat)(l:List J),(∀p∈l,br 4 p)->cT l<=f->f<=Z->lL Z l=lL f l
 |0,0,l,_,_,_=>rfl
 |0,Z+1,l,_,hf,_=>by rw[lL,lL,aK (by have:=qg l;omega)]
 |f+1,0,l,_,_,o=>by omega
 |f+1,Z+1,l,h,hf,o=>by
  rw[lL,lL];by_cases b:cT l=0
  ·rw[aK b,aK b]
  ·rw[g b,g b];congr 1;refine lc λi s=>?_
   have r:=qg l;obtain⟨lv,e⟩:∃lv:Nat,cT l=lv:=⟨(cT l).toNat,O⟩;obtain⟨k,d,q⟩:=Df b;have m:=(h k d).lv;rw[e]at q⊢;have a:=GF (lv:=lv) h O i;have n:cT (l.filterMap (dN lv i))<=((lv-1:Nat):Int):=A9 O λc j=>(a c j).lv.2
   exact W0 f Z _ (λc j=>(a c j).mono O) O O
def W7(h:cT a=0):iP a=kP (sJ a):=by unfold iP;rw[h];rfl
def W5(h:∀p∈a,br 4 p)(k:cT a≠0):iP a=kO (cT a) ((List.range (iM (cT a) a)).map λi=>iP (a.filterMap (dN (cT a) i))):=by
 have s:=qg a;unfold iP;obtain⟨f,hf⟩:∃f,(cT a).toNat=f+1:=⟨(cT a).toNat-1,O⟩;rw[hf,lL,g k];congr 1;refine lc λi t=>?_
 obtain⟨lv,d⟩:∃lv:Nat,cT a=lv:=⟨(cT a).toNat,O⟩;obtain⟨m,e,n⟩:=Df k;have o:=(h m e).lv;rw[d]at n⊢;have b:=GF (lv:=lv) h O i;have q:cT (a.filterMap (dN lv i))<=((lv-1:Nat):Int):=A9 O λc j=>(b c j).lv.2
 have r:=qg (a.filterMap (dN lv i));exact W0 _ f _ (λc j=>(b c j).mono O) O O
def lW(f:J->J->J)(b a:List J)(k i:Nat):Option J:=
 match b[i]? with
 |some p=>if i<=k then(match a[k-i]? with|some q=>if bM p||bM q then none else some (f p q)|none=>none)else none
 |none=>none
def jD(f:J->J->J)(a b:List J)(k:Nat):List J:=(List.range a.length).filterMap (lW f a b k)
def jU(f:J->J->J)(p q:J):J:=
 if bM p||bM q then zP
 else if p.aJ=0 then kP (cV p*cV q)
 else if q.aJ<p.aJ then .mk p.aJ false [] (p.aG.map λc=>f c q)
 else kO p.aJ ((List.range (p.aG.length+q.aG.length-1)).map λk=>iP (jD f p.aG q.aG k))
def jd:Nat->J->J->J
 |0,p,q=>if bM p||bM q then zP else kP (cV p*cV q)
 |f+1,p,q=>if p.aJ<q.aJ then jU (jd f) q p else jU (jd f) p q
def bn(p q:J):J:=jd (p.aJ+q.aJ).toNat p q
def F6:bM zP=true:=rfl
theorem aaF(a:az)(x y:Rat)(Z:J->J):∀{l:List J},(∀c∈l,ev a (Z c)=ev a c*y)->cP a x (l.map Z)=cP a x l*y
 |[],_=>by rw[gL,cP];grind
 |c::r,h=>by rw[dc,cP,cP,h c (bZ ..),aaF a x y Z (λc b=>h c (cE _ b))];grind
def uy(a:az)(c b:List J)(k:Nat):Nat->Rat
 |0=>0
 |i+1=>uy a c b k i+(if i<=k then((c[i]?).map (ev a)).getD 0*((b[k-i]?).map (ev a)).getD 0 else 0)
theorem ais(d:az)(b:List J):∀a,iA d (a++b)=iA d a+iA d b
 |[]=>by rw[gi,iA];grind
 |c::a=>by rw[ei,iA,iA,ais d b a];grind
theorem afm(b:az)(f:J->J->J){ps qs:List J}(o:∀c∈ps,br L c)(p:∀c∈qs,br L c)(r:∀c∈ps,∀d∈qs,bM c=false->bM d=false->ev b (f c d)=ev b c*ev b d)(k:Nat):
 ∀n,n<=ps.length->iA b ((List.range n).filterMap (lW f ps qs k))=uy b ps qs k n
 |0,_=>by rw[uy];rfl
 |n+1,s=>by
  rw[oW,ym,ais,afm b f o p r k n O,uy];congr 1;have l:ps[n]?=some ps[n]:=ca O;have e:ps[n]∈ps:=rO _;simp only[List.filterMap_cons,List.filterMap_nil];unfold lW;rw[l];simp only;by_cases i:n<=k
  ·rw[aK i,aK i];cases m:qs[k-n]? with
   |none=>simp only[Ex,Ew,iA];grind
   |some q=>
    have h:q∈qs:=bF m;simp only[dH,ie];by_cases j:bM ps[n]=true
    ·rw[j,BO,aK rfl,iA,qa (o _ e) j,gr];grind
    ·by_cases a:bM q=true
     ·rw[a,Hx,aK rfl,iA,qa (p _ h) a,gr];grind
     ·rw[g (by simp[j,a]),iA,iA,r _ e _ h (an j) (an a)];grind
  ·rw[g i,g i,iA]
def fa(Z:Nat->Rat):Nat->Rat
 |0=>0
 |n+1=>fa Z n+Z n
theorem Mf(Z h:Nat->Rat):∀n,fa (λi=>Z i+h i) n=fa Z n+fa h n
 |0=>by simp only[fa];grind
 |n+1=>by simp only[fa,Mf Z h n];grind
theorem TJ(Z:Nat->Rat)(y:Rat):∀n,fa (λi=>y*Z i) n=y*fa Z n
 |0=>by simp only[fa];grind
 |n+1=>by simp only[fa,TJ Z y n];grind
theorem xV{a h:Nat->Rat}:∀n,(∀i,i<n->a i=h i)->fa a n=fa h n
 |0,_=>rfl
 |n+1,e=>by simp only[fa,xV n (λi b=>e i O),e n O]
theorem FF(a:az)(x:Rat)(Z:Nat->J):∀n,cP a x ((List.range n).map Z)=fa (λi=>pw x i*ev a (Z i)) n
 |0=>by rw[HT,gL,cP,fa]
 |n+1=>by rw[Pm,fa,FF a x Z n]
theorem Su(x:Rat)(m:Nat):∀n,pw x (m+n)=pw x m*pw x n
 |0=>by rw[sV,pw];grind
 |n+1=>by rw[<-uj,pw,pw,Su x m n];grind
def aEB(x:Rat)(b:Nat->Rat)(m i:Nat)(c:∀j,m<=j->b j=0):∀n,i+m<=n->fa (λk=>pw x k*(if i<=k then b (k-i)else 0)) n=pw x i*fa (λj=>pw x j*b j) m:=by
 have f:∀d,fa (λk=>pw x k*(if i<=k then b (k-i)else 0)) (i+d)=pw x i*fa (λj=>pw x j*b j) d:=by
  intro d
  induction d with
  |zero=>
   have:∀e,e<=i->fa (λk=>pw x k*(if i<=k then b (k-i)else 0)) e=0:=by
    intro e
    induction e with
    |zero=>intro _;rfl
    |succ e a=>intro l;simp only[fa];rw[a O,g O];grind
   rw[sV,this i (bu _),fa];grind
  |succ d a=>rw[<-uj];simp only[fa];rw[a,aK O,show i+d-i=d by omega,Su];grind
 intro n h;obtain⟨d,rfl⟩:∃d,n=i+d:=⟨n-i,O⟩;rw[f];congr 1;have:∀e,fa (λj=>pw x j*b j) (m+e)=fa (λj=>pw x j*b j) m:=by
  intro e
  induction e with
  |zero=>rfl
  |succ e a=>rw[<-uj];simp only[fa];rw[a,c _ O];grind
 obtain⟨e,rfl⟩:∃e,d=m+e:=⟨d-m,O⟩;exact this e
theorem Zi(b:az)(x:Rat)(c a:List J)(N:Nat)(f:c.length+a.length<=N+1):∀n,n<=c.length->fa (λk=>pw x k*uy b c a k n) N=fa (λi=>pw x i*((c[i]?).map (ev b)).getD 0) n*fa (λj=>pw x j*((a[j]?).map (ev b)).getD 0) a.length
 |0,_=>by
  have:∀m,fa (λk=>pw x k*uy b c a k 0) m=0:=by
   intro m
   induction m with
   |zero=>rfl
   |succ m d=>simp only[fa];rw[d,uy];grind
  rw[this];simp only[fa];grind
 |n+1,o=>by
  have l:fa (λk=>pw x k*uy b c a k (n+1)) N=fa (λk=>pw x k*uy b c a k n) N+((c[n]?).map (ev b)).getD 0*fa (λk=>pw x k*(if n<=k then((a[k-n]?).map (ev b)).getD 0 else 0)) N:=by
   rw[<-TJ,<-Mf];refine xV N λk p=>?_
   simp only[uy];by_cases h:n<=k
   ·rw[aK h,aK h];grind
   ·rw[g h,g h];grind
  rw[l,Zi b x c a N f n O,aEB x (λj=>((a[j]?).map (ev b)).getD 0) a.length n (λj e=>by rw[gp e];rfl) N O];simp only[fa];grind
def Pk(a:az)(x:Rat)(cs:List J):cP a x cs=fa (λi=>pw x i*((cs[i]?).map (ev a)).getD 0) cs.length:=by
 rw[aaD a x cs cs.length (bu _),FF];refine xV _ λi b=>?_
 rw[ca b];rfl
def Re(h:1<=k):bM (.mk (k:Int) n l a)=false:=by unfold bM;simp[J.aJ];omega
def acb(h:r≠0):bM (kP r)=false:=by rw[F5];simpa using h
def aGc{lv:Nat}{cs:List J}(d:cs[k]? ≠none)(e:∀c,cs[k]?=some c->bM c=false)(j:1<=lv)(f:1<=k):∃ds,kO lv cs=.mk lv false [] ds:=by
 have Y:=(Mt cs cs.length (bu _)).1;have a:k<cs.length:=by refine yv λh=>d (gp h)
 have:k<iW cs cs.length:=by
  refine yv λh=>?_
  have b:=Y k h a;rw[ca a]at b;have i:=e _ (ca a);simp[i]at b
 unfold kO;rw[g O,g O];exact⟨_,rfl⟩
def aGo{cs:List J}(h:∀c,cs.getLast?=some c->bM c=false):iW cs cs.length=cs.length:=by
 cases b:cs.length with
 |zero=>rfl
 |succ n=>rw[iW,g];have a:n<cs.length:=O;have:=h cs[n] (by rw[pS,b,yu,ca a]);rw[ca a];simp[this]
theorem W6:∀(L:Nat){c:J},L<=4->br L c->iP [c]=c
 |L,c,u,h=>by
  by_cases l:c.aJ=0
  ·rw[W7 (by simp only[cT,l];rfl)];simp only[sJ,yi];exact(h.oX l).symm
  ·obtain⟨lv,z,y,k,v,x⟩:=h.ow l;have s:cT [c]=lv:=by simp only[cT,k];omega
   rw[W5 (by intro p o;simp only[dZ]at o;subst o;exact h.mono u) O,s];have m:iM lv [c]=c.aG.length:=by simp only[iM];rw[aK k];omega
   have t:(List.range (iM lv [c])).map (λi=>iP ([c].filterMap (dN lv i)))=c.aG:=by
    rw[m];apply ug;intro j;rw[dU];by_cases f:j<c.aG.length
    ·rw[qB f,ca f];have e:[c].filterMap (dN lv j)=[c.aG[j]]:=by
      have:dN lv j c=some c.aG[j]:=by unfold dN;rw[aK k,ca f]
      rw[yo this];rfl
     have a:=h.bz (rO f);rw[k]at a;show some (iP _)=_;rw[e,W6 (lv-1) O (an a)]
    ·rw[gp (an f),gp O];rfl
   rw[t];have b:∀d,c.aG.getLast?=some d->bM d=false:=by
    cases h with
    |const n=>exact absurd rfl l
    |node q A E D C B w=>exact w
   have r:=aGo b;unfold kO;rw[r,g O,g O,i_];exact v.symm
termination_by L=>L
def rS(a:az)(Z:J->J->J)(p q:J):=ev a (Z p q)=ev a p*ev a q/\br (max p.aJ q.aJ).toNat (Z p q)/\(bM p=false->bM q=false->bM (Z p q)=false)
def Q3(j:az)(f:J->J->J){q:J}(G:br 4 p)(E:br 4 q)(hle:q.aJ<=p.aJ)(hg:∀c d,br 4 c->br 4 d->c.aJ+d.aJ<p.aJ+q.aJ->rS j f c d):rS j (jU f) p q:=by
 unfold rS jU;have K:max p.aJ q.aJ=p.aJ:=O;have hl:=G.lv;have hl2:=E.lv;rw[K];by_cases hz:bM p=true
 ·rw[hz,BO,aK rfl,qa G hz,gr];exact⟨ah,.zero _,λh=>by cases h⟩
 by_cases z:bM q=true
 ·rw[z,Hx,aK rfl,qa E z,gr];exact⟨ah,.zero _,λ_ h=>by cases h⟩
 rw[g (by simp[hz,z])];by_cases M:p.aJ=0
 ·rw[aK M];have Z:=G.oX M;have e2:=E.oX O;refine⟨?_,.const _,λh1 h2=>?_⟩
  ·rw[l_];have u:=aY (ev j) Z;have H:=aY (ev j) e2;rw[l_]at u H;rw[u,H,NH]
  ·refine acb λh3=>?_
   rw[Z,F5]at h1;rw[e2,F5]at h2;rcases Int.mul_eq_zero.1 h3 with h|h
   ·simp[h]at h1
   ·simp[h]at h2
 ·rw[g M];obtain⟨lv,u,H,a3,a4,a5⟩:=G.ow M;have l:∀c∈p.aG,br (lv-1) c:=λc s=>by have:=G.bz s;rw[a3]at this;exact this
  have v:∀d,p.aG.getLast?=some d->bM d=false:=by
   cases G with
   |const n=>exact absurd rfl M
   |node t cs b1 b2 b3 b4 b5=>exact b5
  have AF:ev j p=cP j (j lv) p.aG:=by have:=aY (ev j) a4;rw[uD j _ u H]at this;exact this
  by_cases N:q.aJ<p.aJ
  ·rw[aK N];have s:∀c∈p.aG,rS j f c q:=λc s=>hg c q ((l c s).mono O) E (by have:=(l c s).lv;omega)
   rw[a3];refine⟨?_,?_,λ_ _=>Re u⟩
   ·rw[uD j _ u H,AF];exact aaF j _ _ (λc=>f c q) λc h=>(s c h).1
   ·refine .node lv _ u ai (by rw[dS];exact a5) (λc m=>?_) (λc m=>?_)
    ·obtain⟨d,C,rfl⟩:=cj.1 m;exact(s d C).2.1.mono (by have:=(l d C).lv;omega)
    ·rw[List.getLast?_map,gM]at m;obtain⟨d,C,rfl⟩:=m;exact(s d (List.mem_of_getLast? C)).2.2 (v d C) (an z)
  ·rw[g N];have he:q.aJ=p.aJ:=O;obtain⟨t,b1,b2,b3,b4,b5⟩:=E.ow O;have hlv:t=lv:=O;subst hlv;have r:∀c∈q.aG,br (t-1) c:=λc s=>by have:=E.bz s;rw[b3]at this;exact this
   have A:∀d,q.aG.getLast?=some d->bM d=false:=by
    cases E with
    |const n=>exact absurd (show(kP n).aJ=0 from rfl) O
    |node lv2 cs c1 c2 c3 c4 c5=>exact c5
   have evq:ev j q=cP j (j t) q.aG:=by have:=aY (ev j) b4;rw[uD j _ b1 b2]at this;exact this
   have s:∀c∈p.aG,∀d∈q.aG,rS j f c d:=λc s d C=>hg c d ((l c s).mono O) ((r d C).mono O) (by have:=(l c s).lv;have:=(r d C).lv;omega)
   have P:∀k,∀c∈jD f p.aG q.aG k,br (t-1) c:=λk c m=>by
    obtain⟨i,hi,o⟩:=Ai.1 m;unfold lW at o;split at o
    ·rename_i a ha;split at o
     ·split at o
      ·rename_i b hb;split at o
       ·cases o
       ·injection o with o;subst o
        have ma:=bF ha;have mb:=bF hb;exact(s a ma b mb).2.1.mono (by have:=(l a ma).lv;have:=(r b mb).lv;omega)
      ·cases o
     ·cases o
    ·cases o
   have hpe:∀k,iA j (jD f p.aG q.aG k)=uy j p.aG q.aG k p.aG.length:=λk=>by unfold jD;exact afm j f l r (λc m d hdm _ _=>(s c m d hdm).1) k _ (bu _)
   have D:∀c∈(List.range (p.aG.length+q.aG.length-1)).map (λk=>iP (jD f p.aG q.aG k)),br (t-1) c:=λc m=>by obtain⟨k,_,rfl⟩:=cj.1 m;exact NS O (P k)
   rw[a3];refine⟨?_,(aiX u D).mono ai,λhn1 hn2=>?_⟩
   ·rw[aiZ j u H D,FF,AF,evq,Pk j _ p.aG,Pk j _ q.aG,
     <-Zi j (j t) p.aG q.aG (p.aG.length+q.aG.length-1) O p.aG.length (bu _)]
    refine xV _ λk hk=>?_
    rw[W4 j (λc m=>(P k c m).mono O),hpe]
   ·have hk:p.aG.length+q.aG.length-2<p.aG.length+q.aG.length-1:=by omega
    obtain⟨x,hx⟩:∃x,p.aG[p.aG.length-1]?=some x:=⟨p.aG[p.aG.length-1]' O,ca _⟩;obtain⟨y,hy⟩:∃y,q.aG[q.aG.length-1]?=some y:=⟨q.aG[q.aG.length-1]' O,ca _⟩;have Q:x∈p.aG:=bF hx;have R:y∈q.aG:=bF hy;have z1:=v x (by rw[pS];exact hx);have z2:=A y (by rw[pS];exact hy);have T:jD f p.aG q.aG (p.aG.length+q.aG.length-2)=[f x y]:=by
     unfold jD;obtain⟨n,hn⟩:∃n,p.aG.length=n+1:=⟨p.aG.length-1,O⟩;have U:∀e,e<=n->(List.range e).filterMap (lW f p.aG q.aG (p.aG.length+q.aG.length-2))=[]:=by intro e he;rw[List.filterMap_eq_nil_iff];intro i hi;have hi:=ol.1 hi;unfold lW;rw[ca O];simp only;rw[aK O,gp O]
     have er:List.range p.aG.length=List.range n++[n]:=by rw[hn,oW]
     rw[er,ym,U n (bu _)];have Z:lW f p.aG q.aG (p.aG.length+q.aG.length-2) n=some (f x y):=by
      unfold lW;have i1:p.aG[n]?=some x:=by rw[<-hx];congr 1;omega
      have i2:q.aG[p.aG.length+q.aG.length-2-n]?=some y:=by rw[<-hy];congr 1;omega
      rw[i1];simp only;rw[aK O,i2];simp only;rw[z1,z2];rfl
     rw[yo Z];rfl
    have V:=s _ Q _ R;have X:br 4 (f x y):=V.2.1.mono (by have:=(l _ Q).lv;have:=(r _ R).lv;omega);have w:((List.range (p.aG.length+q.aG.length-1)).map (λk=>iP (jD f p.aG q.aG k)))[p.aG.length+q.aG.length-2]?=some (f x y):=by rw[dU,qB hk,dH,T,W6 4 (bu _) X]
    obtain⟨ds,hds⟩:=aGc (lv:=t) (cs:=(List.range (p.aG.length+q.aG.length-1)).map (λk=>iP (jD f p.aG q.aG k))) (k:=p.aG.length+q.aG.length-2) (by rw[w];simp) (λc B=>by rw[w]at B;injection B with B;subst B;exact V.2.2 z1 z2) u O;rw[hds];exact Re u
def rS.wk{d:az}(h:rS d R c p):ev d (R c p)=ev d p*ev d c/\br (max p.aJ c.aJ).toNat (R c p)/\(bM p=false->bM c=false->bM (R c p)=false):=by obtain⟨e,f,i⟩:=h;exact⟨by rw[e];grind,by rw[Int.max_comm];exact f,λa b=>i b a⟩
theorem KQ(a:az):∀(f:Nat)(p q:J),br 4 p->br 4 q->p.aJ+q.aJ<=f->rS a (jd f) p q
 |0,p,q,i,b,hf=>by
  have r:=i.lv;have o:=b.lv;have:=Q3 a (λ_ _=>zP) i b O (λc d k j h=>by have:=k.lv;have:=j.lv;exfalso;omega);have e:jd 0 p q=jU (λ_ _=>zP) p q:=by
   unfold jd jU;by_cases l:(bM p||bM q)=true
   ·rw[aK l,aK l]
   ·rw[g l,g l,aK (show p.aJ=0 by omega)]
  unfold rS at this⊢;rw[e];exact this
 |f+1,p,q,i,b,hf=>by
  have m:=KQ a f;unfold rS;rw[jd];by_cases h:p.aJ<q.aJ
  ·rw[aK h];exact(Q3 a (jd f) b i O (λc d k j n=>m c d k j O)).wk
  ·rw[g h];exact Q3 a (jd f) i b O (λc d k j n=>m c d k j O)
def Q5(a:az){q:J}(b:br 4 p)(c:br 4 q):rS a bn p q:=by have:=KQ a (p.aJ+q.aJ).toNat p q b c (by have:=b.lv;have:=c.lv;omega);exact this
def ayC(a:az){q:J}(b:br 4 p)(c:br 4 q):ev a (bn p q)=ev a p*ev a q:=(Q5 a b c).1
def vX(a:L<=4)(b:br L p)(d:br L c):br L (bn p c):=
 (Q5 (λ_=>0) (b.mono a) (d.mono a)).2.1.mono (by have:=b.lv;have:=d.lv;omega)
mutual
def d_:J->Nat
 |.mk l n a b=>if l<=0 then(iV ⟨n,a⟩).natAbs else if 4<l then 0 else dQ b
def dQ:List J->Nat
 |[]=>0
 |c::r=>d_ c+dQ r
end
def sw(n:Int):d_ (kP n)=n.natAbs:=by unfold kP;rw[d_,aK ae];congr 1;exact il n
def q9:d_ zP=0:=by rw[<-vP,sw];rfl
def oI(cs:List J)(b:1<=L)(c:L<=4)(n:Bool)(a:ao):d_ (.mk L n a cs)=dQ cs:=by rw[d_,g O,g O]
theorem Rb(b:List J):∀a,dQ (a++b)=dQ a+dQ b
 |[]=>by rw[gi,dQ];omega
 |c::a=>by rw[ei,dQ,dQ,Rb b a];omega
theorem v7:∀{l:List J},c∈l->d_ c<=dQ l
 |d::r,h=>by
  rw[dQ];rcases dC.1 h with rfl|h
  ·omega
  ·have:=v7 h;omega
def azC{b:List J}(h:List.Sublist a b):dQ a<=dQ b:=by
 induction h with
 |slnil=>exact bu _
 |cons x _ c=>rw[dQ];omega
 |cons_cons x _ c=>rw[dQ,dQ];omega
def sN(Z:Nat->Nat):Nat->Nat
 |0=>0
 |n+1=>sN Z n+Z n
theorem zz:∀n,(∀i,i<n->B i<=h i)->sN B n<=sN h n
 |0,_=>bu _
 |n+1,a=>by rw[sN,sN];have:=zz n λi b=>a i O;have:=a n O;omega
theorem LO:∀n,(∀i,i<n->B i=h i)->sN B n=sN h n
 |0,_=>rfl
 |n+1,a=>by rw[sN,sN,LO n λi b=>a i O,a n O]
theorem LN(Z h:Nat->Nat):∀n,sN (λi=>Z i+h i) n=sN Z n+sN h n
 |0=>rfl
 |n+1=>by rw[sN,sN,sN,LN Z h n];omega
theorem G0:∀n,sN (λ_=>0) n=0
 |0=>rfl
 |n+1=>by rw[sN,G0 n]
theorem S1(c:Nat)(Z:Nat->Nat):∀n,sN (λi=>c*Z i) n=c*sN Z n
 |0=>rfl
 |n+1=>by rw[sN,sN,S1 c Z n,Nat.mul_add]
theorem ahf(Z:Nat->Nat->Nat)(m:Nat):∀n,sN (λk=>sN (Z k) m) n=sN (λi=>sN (λk=>Z k i) n) m
 |0=>by show 0=sN (λ_=>0) m;rw[G0]
 |n+1=>by rw[sN,ahf Z m n,<-LN];rfl
theorem SY(Z:Nat->Nat):∀n,sN Z (n+1)=Z 0+sN (λi=>Z (i+1)) n
 |0=>by rw[sN,sN,sN];omega
 |n+1=>by rw[sN,SY Z n,sN];omega
theorem S2(h:∀j,L<=j->B j=0):∀n,sN B n<=sN B L
 |0=>dD _
 |n+1=>by
  rw[sN];by_cases a:L<=n
  ·rw[h n a];exact S2 h n
  ·have:∀k,n+1<=k->sN B (n+1)<=sN B k:=by
    intro k c
    induction k with
    |zero=>omega
    |succ k b=>
     by_cases e:n+1=k+1
     ·rw[e];exact bu _
     ·have:=b O;rw[sN]at this⊢;rw[sN];omega
   have:=this L O;rw[sN]at this;exact this
def aDL{m:Nat}(h:∀j,m<=j->B j=0)(i:Nat):∀n,sN (λk=>if i<=k then B (k-i)else 0) n<=sN B m:=by
 have:∀n,sN (λk=>if i<=k then B (k-i)else 0) n=sN B (n-i):=by
  intro n
  induction n with
  |zero=>rw[Nat.zero_sub];rfl
  |succ n b=>
   rw[sN,b];by_cases a:i<=n
   ·rw[aK a,show n+1-i=n-i+1 by omega,sN]
   ·rw[g a,show n+1-i=0 by omega,show n-i=0 by omega];rfl
 intro n;rw[this];exact S2 h _
theorem KW:∀(a:List J),dQ a=sN (λi=>((a[i]?).map d_).getD 0) a.length
 |[]=>rfl
 |c::r=>by rw[dQ,KW r,fD,SY];rfl
theorem adW(f:Nat->Option J):∀n,dQ ((List.range n).filterMap f)=sN (λi=>((f i).map d_).getD 0) n
 |0=>rfl
 |n+1=>by
  rw[oW,ym,Rb,adW f n,sN];congr 1;cases h:f n with
  |none=>rw[yn h];rfl
  |some c=>rw[yo h];simp[dQ]
theorem KX(f:Nat->J):∀n,dQ ((List.range n).map f)=sN (λi=>d_ (f i)) n
 |0=>rfl
 |n+1=>by rw[oW,gB,Rb,KX f n,sN];simp[dQ]
inductive Fr(v:Int):J->Prop where
 |mk (l:Int) (n:Bool) (a:ao) (cs:List J) (h:l≠v) (h2:∀c∈cs,Fr v c):Fr v (.mk l n a cs)
def Fr.lv{v:Int}(h:Fr v p):p.aJ≠v:=by cases h;assumption
def Fr.bz(h:Fr r p):∀c∈p.aG,Fr r c:=by cases h;assumption
def Fr.const{v:Int}(a:v≠0)(n:Int):Fr v (kP n):=.mk _ _ _ _ (λh=>a h.symm) λ_ h=>by cases h
def Fr.zero(a:r≠0):Fr r zP:=by rw[<-vP];exact .const a 0
inductive DL(d:Nat):J->Prop where
 |mk (l:Int) (n:Bool) (a:ao) (cs:List J) (h:cs.length<=d+1) (h2:∀c∈cs,DL d c):DL d (.mk l n a cs)
def DL.len(h:DL L p):p.aG.length<=L+1:=by cases h;assumption
def DL.bz(h:DL L p):∀c∈p.aG,DL L c:=by cases h;assumption
def DL.const(d:Nat)(n:Int):DL d (kP n):=.mk _ _ _ _ (dD _) λ_ h=>by cases h
def DL.zero(d:Nat):DL d zP:=.mk _ _ _ _ (dD _) λ_ h=>by cases h
def DL.up(b:L<=k)(h:DL L p):DL k p:=by
 induction h with
 |mk l n a c h i f=>exact .mk l n a c O f
def ai1(a:1<=L)(b:L<=4)(cs:List J):d_ (kO L cs)<=dQ cs:=by
 unfold kO;split
 ·rw[q9];omega
 ·split
  ·cases cs with
   |nil=>rw[List.headD_nil,q9];omega
   |cons c r=>rw[List.headD_cons,dQ];omega
  ·rw[oI _ a b];exact azC (List.take_sublist _ _)
def ai0(d:r≠0)(e:y≠r)(h:∀c∈a,Fr r c):Fr r (kO y a):=by
 unfold kO;split
 ·exact .zero d
 ·split
  ·cases a with
   |nil=>exact .zero d
   |cons c b=>exact h c (bZ ..)
  ·exact .mk _ _ _ _ e λc f=>h c (oi f)
def aiY(f:a.length<=L+1)(h:∀c∈a,DL L c):DL L (kO r a):=by
 unfold kO;split
 ·exact .zero L
 ·split
  ·cases a with
   |nil=>exact .zero L
   |cons c b=>exact h c (bZ ..)
  ·exact .mk _ _ _ _ (by rw[ez];omega) λc e=>h c (oi e)
theorem aeS(c:1<=L)(d:L<=4)(n:Nat):∀{l:List J},(∀p∈l,br 4 p)->sN (λi=>dQ (l.filterMap (dN L i))) n<=dQ l
 |[],_=>by rw[dQ];show sN (λ_=>0) n<=0;rw[G0];omega
 |p::r,h=>by
  have v:=aeS c d n (l:=r) λq a=>h q (cE _ a)
  have e:∀i,dQ ((p::r).filterMap (dN L i))=((dN L i p).map d_).getD 0+dQ (r.filterMap (dN L i)):=λi=>by
   cases a:dN L i p with
   |none=>rw[yn a];simp
   |some q=>rw[yo a,dQ];simp
  rw[LO n λi _=>e i,LN,dQ];have w:sN (λi=>((dN L i p).map d_).getD 0) n<=d_ p:=by
   by_cases e:p.aJ=L
   ·have b:=h p (bZ ..);obtain⟨m,f,k,x,o,y⟩:=b.ow O;have:d_ p=dQ p.aG:=by rw[o,oI _ f k];rfl
    rw[this,KW];have s:∀i,((dN L i p).map d_).getD 0=((p.aG[i]?).map d_).getD 0:=λi=>by unfold dN;rw[aK e]
    rw[LO n λi _=>s i];exact S2 (λj t=>by rw[gp t];rfl) n
   ·cases n with
    |zero=>exact dD _
    |succ n=>
     rw[SY];have u:sN (λi=>((dN L (i+1) p).map d_).getD 0) n=0:=by refine(LO n λi _=>?_).trans (G0 n);unfold dN;rw[g e,g O];rfl
     rw[u];unfold dN;rw[g e];split
     ·simp
     ·simp
  omega
def anj:∀(f:Nat)(l:List J),(∀p∈l,br 4 p)->cT l<=f->
 d_ (lL f l)<=dQ l/\(∀v:Int,v≠0->(∀p∈l,Fr v p)->Fr v (lL f l))/\(∀d,(∀p∈l,DL d p)->DL d (lL f l)):=by
 have j:∀l:List J,(∀p∈l,br 4 p)->(∀p∈l,p.aJ=0)->(sJ l).natAbs<=dQ l:=by
  intro l
  induction l with
  |nil=>intro _ _;rw[sJ,dQ];decide
  |cons p r u=>
   intro h n;have:=u (λq k=>h q (cE _ k)) λq k=>n q (cE _ k)
   have e:=(h p (bZ ..)).oX (n p (bZ ..));have H:d_ p=(cV p).natAbs:=by have:=aY d_ e;rw[sw]at this;exact this
   rw[sJ,dQ,H];omega
 intro f
 induction f with
 |zero=>
  intro l h hf;have n:∀p∈l,p.aJ=0:=λp b=>by have:=zg b;have:=(h p b).lv;omega
  rw[lL];exact⟨by rw[sw];exact j l h n,λv t _=>.const t _,λd _=>.const d _⟩
 |succ f z=>
  intro l h hf;rw[lL];by_cases n:cT l=0
  ·rw[aK n];have x:∀p∈l,p.aJ=0:=λp b=>by have:=zg b;have:=(h p b).lv;omega
   exact⟨by rw[sw];exact j l h x,λv t _=>.const t _,λd _=>.const d _⟩
  ·rw[g n];have L:=qg l;obtain⟨lv,A⟩:∃lv:Nat,cT l=lv:=⟨(cT l).toNat,O⟩;obtain⟨B,w,K⟩:=Df n;have E:=(h B w).lv;have x:1<=lv:=O;have D:lv<=4:=O;rw[A]at K⊢;have m:=λi=>GF (lv:=lv) h x i
   have u:∀i,_:=λi=>z (l.filterMap (dN lv i)) (λc j=>(m i c j).mono O) (by
    have G:cT (l.filterMap (dN lv i))<=((lv-1:Nat):Int):=A9 O λc j=>(m i c j).lv.2
    omega)
   refine⟨?_,λv t o=>?_,λd s=>?_⟩
   ·refine eZ (ai1 x D _) ?_;rw[KX];exact eZ (zz _ λi _=>(u i).1) (aeS x D _ h)
   ·refine ai0 t (by have:=(o B w).lv;omega) λc j=>?_
    obtain⟨i,_,rfl⟩:=cj.1 j;refine(u i).2.1 v t λq k=>?_
    obtain⟨p,b,a⟩:=Ai.1 k;unfold dN at a;split at a
    ·exact(o p b).bz _ (bF a)
    ·split at a
     ·injection a with a;subst a;exact o p b
     ·cases a
   ·refine aiY ?_ λc j=>?_
    ·rw[dS,oh];have:∀l:List J,(∀p∈l,DL d p)->iM lv l<=d+1:=by
      intro l
      induction l with
      |nil=>intro _;rw[iM];omega
      |cons p r y=>
       intro C;rw[iM];have N:=(C p (bZ ..)).len;have M:=y λq k=>C q (cE _ k)
       split<;>omega
     exact this l s
    ·obtain⟨i,_,rfl⟩:=cj.1 j;refine(u i).2.2 d λq k=>?_
     obtain⟨p,b,a⟩:=Ai.1 k;unfold dN at a;split at a
     ·exact(s p b).bz _ (bF a)
     ·split at a
      ·injection a with a;subst a;exact s p b
      ·cases a
def EO(h:∀p∈a,br 4 p):d_ (iP a)<=dQ a/\(∀v:Int,v≠0->(∀p∈a,Fr v p)->Fr v (iP a))/\(∀d,(∀p∈a,DL d p)->DL d (iP a)):=
 anj _ a h (by have:=qg a;omega)
def sU(Z:J->J->J)(p q:J):=d_ (Z p q)<=d_ p*d_ q/\(∀v:Int,v≠0->Fr v p->Fr v q->Fr v (Z p q))/\(∀d e,DL d p->DL e q->DL (d+e) (Z p q))
def ad3(h:br L p)(a:p.aJ=0):d_ p=(cV p).natAbs:=by have:=aY d_ (h.oX a);rw[sw]at this;exact this
def sU.wk(h:sU R c p):d_ (R c p)<=d_ p*d_ c/\(∀v:Int,v≠0->Fr v p->Fr v c->Fr v (R c p))/\(∀d e,DL d p->DL e c->DL (d+e) (R c p)):=
 ⟨by rw[Et];exact h.1,λv f a b=>h.2.1 v f b a,λd e a b=>by rw[Aj];exact h.2.2 e d b a⟩
def Q4(f:J->J->J){q:J}(H:br 4 p)(C:br 4 q)(hle:q.aJ<=p.aJ)(T:∀c d,br 4 c->br 4 d->c.aJ+d.aJ<p.aJ+q.aJ->sU f c d/\rS (λ_=>0) f c d):sU (jU f) p q:=by
 unfold sU jU;have hl:=H.lv;have hl2:=C.lv;by_cases U:bM p=true
 ·rw[U,BO,aK rfl];exact⟨by rw[q9];omega,λv t _ _=>.zero t,λd e _ _=>.zero _⟩
 by_cases D:bM q=true
 ·rw[D,Hx,aK rfl];exact⟨by rw[q9];omega,λv t _ _=>.zero t,λd e _ _=>.zero _⟩
 rw[g (by simp[U,D])];by_cases K:p.aJ=0
 ·rw[aK K];refine⟨?_,λv t _ _=>.const t _,λd e _ _=>.const _ _⟩;rw[sw,ad3 H K,ad3 C O,Ec];exact bu _
 ·rw[g K];obtain⟨lv,M,N,P,a4,a5⟩:=H.ow K;have o:∀c∈p.aG,br (lv-1) c:=λc n=>by have:=H.bz n;rw[P]at this;exact this
  have V:d_ p=dQ p.aG:=by rw[a4,oI _ M N];rfl
  by_cases E:q.aJ<p.aJ
  ·rw[aK E];have n:∀c∈p.aG,sU f c q:=λc n=>(T c q ((o c n).mono O) C (by have:=(o c n).lv;omega)).1
   rw[P];refine⟨?_,λv t f1 f2=>?_,λd e d1 d2=>?_⟩
   ·rw[oI _ M N,V];have:∀l:List J,(∀c∈l,sU f c q)->dQ (l.map λc=>f c q)<=dQ l*d_ q:=by
     intro l
     induction l with
     |nil=>intro _;rw[gL,dQ,H7];exact bu _
     |cons c r ih=>intro X;rw[dc,dQ,dQ,jS];exact Nat.add_le_add (X c (bZ ..)).1 (ih λx u=>X x (cE _ u))
    exact this _ n
   ·refine .mk _ _ _ _ (by have:=f1.lv;omega) λc m=>?_
    obtain⟨x,u,rfl⟩:=cj.1 m;exact(n x u).2.1 v t (f1.bz x u) f2
   ·refine .mk _ _ _ _ (by rw[dS];have:=d1.len;omega) λc m=>?_
    obtain⟨x,u,rfl⟩:=cj.1 m;exact(n x u).2.2 d e (d1.bz x u) d2
  ·rw[g E];have he:q.aJ=p.aJ:=O;obtain⟨G,b1,b2,b3,b4,b5⟩:=C.ow O;have Q:G=lv:=O;subst Q;have s:∀c∈q.aG,br (G-1) c:=λc n=>by have:=C.bz n;rw[b3]at this;exact this
   have nq:d_ q=dQ q.aG:=by rw[b4,oI _ b1 b2];rfl
   have n:∀c∈p.aG,∀d∈q.aG,sU f c d/\rS (λ_=>0) f c d:=λc n d Z=>T c d ((o c n).mono O) ((s d Z).mono O) (by have:=(o c n).lv;have:=(s d Z).lv;omega)
   have w:∀k,∀c∈jD f p.aG q.aG k,∃a∈p.aG,∃b∈q.aG,c=f a b:=λk c m=>by
    obtain⟨i,R,h⟩:=Ai.1 m;unfold lW at h;split at h
    ·rename_i a ha;split at h
     ·split at h
      ·rename_i b L;split at h
       ·cases h
       ·injection h with h;subst h
        exact⟨a,bF ha,b,bF L,rfl⟩
      ·cases h
     ·cases h
    ·cases h
   have A:∀k,∀c∈jD f p.aG q.aG k,br 4 c:=λk c m=>by obtain⟨a,y,b,z,rfl⟩:=w k c m;exact(n a y b z).2.2.1.mono (by have:=(o a y).lv;have:=(s b z).lv;omega)
   rw[P];refine⟨?_,λv t f1 f2=>?_,λd e d1 d2=>?_⟩
   ·refine eZ (ai1 M N _) ?_;rw[KX];refine eZ (zz _ λk _=>(EO (A k)).1) ?_;have e1:∀k,dQ (jD f p.aG q.aG k)<=sN (λi=>((p.aG[i]?).map d_).getD 0*(if i<=k then((q.aG[k-i]?).map d_).getD 0 else 0)) p.aG.length:=λk=>by
     unfold jD;rw[adW];refine zz _ λi R=>?_
     unfold lW;rw[ca R];simp only;split
     ·split
      ·rename_i b L;rw[L];split
       ·exact dD _
       ·simp only[dH,ie];exact(n _ (rO R) b (bF L)).1.1
      ·exact dD _
     ·exact dD _
    refine eZ (zz _ λk _=>e1 k) ?_;rw[ahf,V,nq,KW p.aG,Et,<-S1];refine zz _ λi _=>?_
    rw[S1,Et];refine jI _ ?_;rw[KW q.aG];exact aDL (B:=λj=>((q.aG[j]?).map d_).getD 0) (λj hj=>by show((q.aG[j]?).map d_).getD 0=0;rw[gp hj];rfl) i _
   ·refine ai0 t (by have:=f1.lv;omega) λc m=>?_
    obtain⟨k,_,rfl⟩:=cj.1 m;refine(EO (A k)).2.1 v t λx u=>?_
    obtain⟨a,y,b,z,rfl⟩:=w k x u;exact(n a y b z).1.2.1 v t (f1.bz a y) (f2.bz b z)
   ·refine aiY (by rw[dS,oh];have:=d1.len;have:=d2.len;omega) λc m=>?_
    obtain⟨k,_,rfl⟩:=cj.1 m;refine(EO (A k)).2.2 _ λx u=>?_
    obtain⟨a,y,b,z,rfl⟩:=w k x u;exact(n a y b z).1.2.2 d e (d1.bz a y) (d2.bz b z)
theorem adD:∀(f:Nat)(p q:J),br 4 p->br 4 q->p.aJ+q.aJ<=f->sU (jd f) p q
 |0,p,q,j,i,hf=>by
  have o:=j.lv;have n:=i.lv;have:=Q4 (λ_ _=>zP) j i O (λc d b a h=>by have:=b.lv;have:=a.lv;exfalso;omega);have e:jd 0 p q=jU (λ_ _=>zP) p q:=by
   unfold jd jU;by_cases k:(bM p||bM q)=true
   ·rw[aK k,aK k]
   ·rw[g k,g k,aK (show p.aJ=0 by omega)]
  unfold sU at this⊢;rw[e];exact this
 |f+1,p,q,j,i,hf=>by
  have l:=adD f;unfold sU;rw[jd];by_cases h:p.aJ<q.aJ
  ·rw[aK h];exact(Q4 (jd f) i j O (λc d b a m=>⟨l c d b a O,KQ _ f c d b a O⟩)).wk
  ·rw[g h];exact Q4 (jd f) j i O (λc d b a m=>⟨l c d b a O,KQ _ f c d b a O⟩)
def Q7{q:J}(a:br 4 p)(b:br 4 q):sU bn p q:=adD (p.aJ+q.aJ).toNat p q a b (by have:=a.lv;have:=b.lv;omega)
def mV(a:az):Nat->ba->Rat
 |0,_=>1
 |k+1,q=>mV a k q*pw (a (k+1:Nat)) (b7 q (k+1:Nat)).toNat
def tV(a:az)(k:Nat)(t:aL):Rat:=((iV t.cZ:Int):Rat)*mV a k t.mono
def dJ(a:az)(k:Nat):List aL->Rat
 |[]=>0
 |t::r=>tV a k t+dJ a k r
def eL:List aL->Nat
 |[]=>0
 |t::r=>(iV t.cZ).natAbs+eL r
theorem Jx(c:az)(k:Nat)(b:List aL):∀a,dJ c k (a++b)=dJ c k a+dJ c k b
 |[]=>by rw[gi,dJ];grind
 |t::a=>by rw[ei,dJ,dJ,Jx c k b a];grind
theorem KZ(b:List aL):∀a,eL (a++b)=eL a+eL b
 |[]=>by rw[gi,eL];omega
 |t::a=>by rw[ei,eL,eL,KZ b a];omega
def auI(c:az)(k:Nat)(h:N.Perm b):dJ c k N=dJ c k b:=by
 induction h with
 |nil=>rfl
 |cons x _ d=>rw[dJ,dJ,d]
 |swap x y l=>rw[dJ,dJ,dJ,dJ];grind
 |trans _ _ e f=>rw[e,f]
def azI(h:N.Perm b):eL N=eL b:=by
 induction h with
 |nil=>rfl
 |cons x _ c=>rw[eL,eL,c]
 |swap x y l=>rw[eL,eL,eL,eL];omega
 |trans _ _ d e=>rw[d,e]
def axY(a:az)(c:1<=r)(d:r<=4)(f:0<=b7 q r)(i:Nat):mV a 4 (eV q r (b7 q r+i))=mV a 4 q*pw (a r) i:=by
 have e:(b7 q r+(i:Int)).toNat=(b7 q r).toNat+i:=O;simp only[mV];have b:r=1\/r=2\/r=3\/r=4:=O;rcases b with rfl|rfl|rfl|rfl
 all_goals
  simp only[b7,eV]at e⊢;simp at e⊢;rw[e,Su];grind
mutual
theorem Y8 (a:az):∀(p:J)(q:ba)(B:Int),MB B q->dJ a 4 (cv p q)=mV a 4 q*ev a p
 |.mk lv e o n,q,B,h=>by
  have f:=λd b=>Y9 a lv d b n q B 0 h
  rw[cv,ev]
  split
  ·rw[dJ,dJ];show((iV ⟨e,o⟩:Int):Rat)*mV a 4 q+0=_;grind
  ·split
   ·rw[dJ];grind
   ·rw[f O O,pw];grind
theorem Y9 (a:az) (lv:Int) (d:1<=lv) (b:lv<=4):∀(l:List J)(q:ba)(B:Int)(i:Nat),MB B q->dJ a 4 (gD lv l q (b7 q lv) i)=mV a 4 q*(pw (a lv) i*cP a (a lv) l)
 |[],q,B,i,h=>by rw[gD,cP,dJ];grind
 |c::r,q,B,i,h=>by
  have j:0<=b7 q lv:=by
   unfold MB at h;unfold b7
   split
   ·omega
   ·split
    ·omega
    ·split<;>omega
  have m:=Y8 a c (eV q lv (b7 q lv+i)) (B+i) h.set
  have k:=Y9 a lv d b r q B (i+1) h
  rw[gD,Jx,m,k,cP,axY a d b j,pw]
  grind
end
mutual
theorem Za:∀(p:J)(q:ba),eL (cv p q)=d_ p
 |.mk a h j f,q=>by
  have e:=λd b=>Zb a d b f q (b7 q a) 0
  rw[cv,d_]
  split
  ·simp only[eL,aL.cZ];omega
  ·split
   ·rw[eL]
   ·exact e O O
theorem Zb (a:Int) (d:1<=a) (b:a<=4):∀(l:List J)(q:ba)(s:Int)(i:Nat),eL (gD a l q s i)=dQ l
 |[],q,s,i=>by rw[gD,dQ,eL]
 |c::r,q,s,i=>by rw[gD,KZ,Za c _,Zb a d b r q s (i+1),dQ]
end
theorem aaz(b:az)(k:Nat):∀{l:List aL}{i:Nat}{t u:aL},l[i]?=some t->dJ b k (l.set i u)=dJ b k l+tV b k u-tV b k t
 |[],i,t,u,h=>by simp at h
 |a::r,0,t,u,h=>by simp only[jH,cY]at h;subst h;rw[vm,dJ,dJ];grind
 |a::r,i+1,t,u,h=>by rw[HV,dJ,dJ,aaz b k (l:=r) (i:=i) (an h)];grind
theorem adY:∀{l:List aL}{i:Nat}{t u:aL},l[i]?=some t->eL (l.set i u)+(iV t.cZ).natAbs=eL l+(iV u.cZ).natAbs
 |[],i,t,u,h=>by simp at h
 |a::r,0,t,u,h=>by simp only[jH,cY]at h;subst h;rw[vm,eL,eL];omega
 |a::r,i+1,t,u,h=>by have:=adY (l:=r) (i:=i) (t:=t) (u:=u) (an h);rw[HV,eL,eL];omega
theorem F0:∀{l:List aL}{i:Nat},mh q l=some i->∃t,l[i]?=some t/\t.mono=q
 |[],i,h=>by simp[mh]at h
 |t::r,i,h=>by
  rw[mh]at h;split at h
  ·rename_i e;injection h with h;subst h
   exact⟨t,rfl,by have:=DA.1 e;first|exact this|exact this.symm⟩
  ·rw[gM]at h;obtain⟨j,a,rfl⟩:=h;obtain⟨u,b,c⟩:=F0 a;exact⟨u,by simpa using b,c⟩
theorem abX:∀{l:List aL},mh q l=none->∀t∈l,t.mono≠q
 |[],_,t,a=>by simp at a
 |u::r,h,t,a=>by
  rw[mh]at h;split at h
  ·cases h
  ·rename_i e;rw[Option.map_eq_none_iff]at h;rcases dC.1 a with rfl|a
   ·intro b;have:ql q t.mono=true:=by first|exact DA.2 b|exact DA.2 b.symm
    rw[this]at e;cases e
   ·exact abX h t a
structure GT(l:List aL):Prop where
 co:∀t∈l,∃z,t.cZ=iD z
 nd:l.Pairwise λs t=>s.mono≠t.mono
def ze(c:bk)(q:ba):(xA c q).cZ=c:=rfl
def A8(c:bk)(q:ba):(xA c q).mono=q:=rfl
def GT.dg(h:GT b):∀t∈b,Dg t.cZ.aF:=λt a=>by obtain⟨z,c⟩:=h.co t a;rw[c];exact fA z
def avI{l:List aL}{c:bk}(h:GT l)(o:Dg c.aF):GT (gW l q c)/\eL (gW l q c)<=eL l+(iV c).natAbs/\∀(f:az)(k:Nat),jf q=false->dJ f k (gW l q c)=dJ f k l+((iV c:Int):Rat)*mV f k q:=by
 by_cases j:jf q=true
 ·rw[FW j];exact⟨h,O,λf k m=>by rw[j]at m;cases m⟩
 ·have j:jf q=false:=by simpa using j
  cases p:mh q l with
  |none=>
   have r:=abX p;rw[C4 j p];refine⟨⟨λt d=>?_,?_⟩,?_,λf k _=>?_⟩
   ·rcases dd.1 d with d|d
    ·exact h.co t d
    ·rw[dZ.1 d];exact⟨iV c,tJ o⟩
   ·rw[List.pairwise_append];refine⟨h.nd,ai,λs Y t d=>?_⟩;rw[dZ.1 d];exact r s Y
   ·rw[KZ,eL,eL,ze,tJ o,il];omega
   ·rw[Jx,dJ,dJ,tV,ze,A8,tJ o,il];grind
  |some i=>
   obtain⟨t,d,y⟩:=F0 p;have z:=h.dg t (bF d);have e:=Ir z o;rw[JT j p d];refine⟨⟨λu v=>?_,?_⟩,?_,λf k _=>?_⟩
   ·rcases B4 v with v|rfl
    ·exact h.co u v
    ·exact⟨_,e⟩
   ·rw[B5];intro a b A B w;have C:i<l.length:=(dM.1 d).1;have x:l[i]=t:=(dM.1 d).2;have n:=B5.1 h.nd a b (an A) (an B) w;rw[List.getElem_set,List.getElem_set];split
    ·rename_i D;subst D;split
     ·omega
     ·rw[A8];rw[x]at n;exact n
    ·split
     ·rename_i E;subst E;rw[A8];rw[x]at n;exact n
     ·exact n
   ·have:=adY d (u:=xA (ji t.cZ c) t.mono);rw[ze,e,il]at this;rw[e];omega
   ·rw[aaz f k d,tV,tV,ze,A8,e,il,y,Rat.intCast_add];grind
theorem JS{p:List aL}(e:∀t∈p,Dg t.cZ.aF)(f:∀t∈p,jf t.mono=false):∀i,i<=p.length->GT (gQ p i)/\eL (gQ p i)<=eL (p.take i)/\∀(b:az)(k:Nat),dJ b k (gQ p i)=dJ b k (p.take i)
 |0,_=>by rw[xo,iC];exact⟨⟨λt a=>by simp at a,List.Pairwise.nil⟩,bu _,λ_ _=>rfl⟩
 |i+1,o=>by
  obtain⟨j,r,l⟩:=JS e f i O;obtain⟨t,a⟩:∃t,p[(i:Int).toNat]?=some t:=by rw[bI];exact⟨p[i]' O,ai⟩
  have h:t∈p:=bF a;have d:=avI (q:=t.mono) (c:=t.cZ) j (e t h);have m:p.take (i+1)=p.take i++[t]:=by rw[bI]at a;rw[h_,a];rfl
  have n:gQ p (i+1)=gW (gQ p i) t.mono t.cZ:=(uI a).symm;rw[n,m];refine⟨d.1,?_,λb k=>?_⟩
  ·rw[KZ,eL,eL];have:=d.2.1;omega
  ·rw[d.2.2 b k (f t h),l,Jx,dJ,dJ,tV];grind
theorem aax(a:az)(k:Nat)(f:aL->Bool):∀{l:List aL},(∀t∈l,f t=false->iV t.cZ=0)->dJ a k (l.filter f)=dJ a k l
 |[],_=>rfl
 |t::r,h=>by
  have b:=aax a k f (l:=r) λu c=>h u (cE _ c)
  cases hf:f t with
  |true=>rw[yp hf,dJ,dJ,b]
  |false=>rw[Ae (by simp[hf]),dJ,b,tV,h t (bZ ..) hf];show _=((0:Int):Rat)*_+_;simp;try grind
def azJ(h:List.Sublist N b):eL N<=eL b:=by
 induction h with
 |slnil=>exact bu _
 |cons x _ c=>rw[eL];omega
 |cons_cons x _ c=>rw[eL,eL];omega
structure CT(l:List aL):Prop where
 co:∀t∈l,∃z,z≠0/\t.cZ=iD z
 nd:l.Pairwise λs t=>s.mono≠t.mono
def La(h:Dg Q.cZ.aF):v8 Q=decide (iV Q.cZ≠0):=by
 unfold v8;show(gu Q.cZ !=0)=_;rw[qp h];by_cases a:iV Q.cZ<0
 ·rw[aK a];simp;omega
 ·rw[g a];by_cases b:0<iV Q.cZ
  ·rw[aK b];simp;omega
  ·rw[g b];simp;omega
def K5{p:List aL}(l:∀t∈p,Dg t.cZ.aF)(m:∀t∈p,jf t.mono=false):CT (di p)/\eL (di p)<=eL p/\∀(b:az)(k:Nat),dJ b k (di p)=dJ b k p:=by
 obtain⟨c,e,n⟩:=JS l m p.length (bu _);rw[i_]at e;have a:(di p).Perm ((gQ p p.length).filter v8):=by unfold di oK tR;exact Bw _ _
 refine⟨⟨λt d=>?_,?_⟩,?_,λb k=>?_⟩
 ·have o:=a.mem_iff.1 d;obtain⟨f,i⟩:=iZ.1 o;obtain⟨z,j⟩:=c.co t f;refine⟨z,?_,j⟩;rw[La (c.dg t f),j,il]at i;simpa using i
 ·refine List.Pairwise.perm ?_ a.symm (λh=>h.symm);exact c.nd.sublist Eh
 ·rw[azI a];exact eZ (azJ Eh) e
 ·rw[auI b k a,aax,n,i_];intro t d hf;rw[La (c.dg t d)]at hf;simpa using hf
def CT.sub{l':List aL}(h:CT b)(Y:List.Sublist l' b):CT l':=⟨λt a=>h.co t (Y.subset a),h.nd.sublist Y⟩
theorem QQ{t:aL}:∀{k:Nat},BP (t::b) k->BP (t::b) (fI t k)/\∀u∈t::b,∀v,fI t k<v->v<=k->ex v u=0
 |0,h=>by rw[fI];exact⟨h,λu _ v a c=>O⟩
 |k+1,h=>by
  rw[fI];split
  ·rename_i i;obtain⟨a,c⟩:=QQ (h.zero (t:=t) rfl i);refine⟨a,λu d v f j=>?_⟩;by_cases e:v=k+1
   ·subst e;have l:=h.head O (t:=t) rfl u d;have m:=h.yW d (v:=k+1) O h.k4;omega
   ·exact c u d v f O
  ·exact⟨h,λu _ v a c=>O⟩
theorem QM:∀{k:Nat},fI Q k≠0->ex (fI Q k) Q≠0
 |0,h=>by rw[fI]at h;exact absurd rfl h
 |k+1,h=>by
  rw[fI]at h⊢;split at h
  ·rename_i a;rw[aK a];exact QM h
  ·rename_i a;rw[g a];exact a
theorem adi(a:az):∀{k:Nat},L<=k->(∀v,L<v->v<=k->ex v Q=0)->mV a k Q.mono=mV a L Q.mono
 |0,h,_=>by rw[show L=0 by omega]
 |k+1,h,b=>by
  by_cases e:L=k+1
  ·rw[e]
  ·rw[mV,adi a O λv c d=>b v c O];have:=b (k+1) O (bu _);unfold ex at this;rw[this];show _*pw _ 0=_;rw[pw];grind
theorem aay(a:az)(b:L<=k):∀{l:List aL},(∀t∈l,∀v,L<v->v<=k->ex v t=0)->dJ a k l=dJ a L l
 |[],_=>rfl
 |t::r,h=>by rw[dJ,dJ,aay a b λu c=>h u (cE _ c),tV,tV,adi a b (h t (bZ ..))]
theorem aiu(c:Rat)(m:Nat):∀n,m<n->fa (λe=>if e=m then c else 0) n=c
 |n+1,h=>by
  rw[fa];by_cases e:m=n
  ·subst e;rw[aK rfl];have:fa (λe=>if e=m then c else 0) m=0:=by
    have:∀k,k<=m->fa (λe=>if e=m then c else 0) k=0:=by
     intro k
     induction k with
     |zero=>intro _;rfl
     |succ k a=>intro b;rw[fa,a O,g O];grind
    exact this m (bu _)
   rw[this];grind
  ·rw[g (λh=>e h.symm),aiu c m n O];grind
theorem aaA(a:az)(k n:Nat):∀{l:List aL},(∀u∈l,0<=ex (k+1) u/\ex (k+1) u<n)->
 fa (λe=>pw (a (k+1:Nat)) e*dJ a k (l.filter λu=>ex (k+1) u==(e:Int))) n=dJ a (k+1) l
 |[],_=>by
  rw[dJ];have:∀m,fa (λe=>pw (a (k+1:Nat)) e*dJ a k (([]:List aL).filter λu=>ex (k+1) u==(e:Int))) m=0:=by
   intro m
   induction m with
   |zero=>rfl
   |succ m b=>rw[fa,b,Nh,dJ];grind
  exact this n
 |t::r,h=>by
  have b:=aaA a k n (l:=r) λu d=>h u (cE _ d)
  have f:=h t (bZ ..);have e:∀e:Nat,pw (a (k+1:Nat)) e*dJ a k ((t::r).filter λu=>ex (k+1) u==(e:Int))=(if e=(ex (k+1) t).toNat then tV a (k+1) t else 0)+pw (a (k+1:Nat)) e*dJ a k (r.filter λu=>ex (k+1) u==(e:Int)):=by
   intro e;by_cases c:ex (k+1) t=(e:Int)
   ·rw[yp (by simp[c]),aK O,dJ,tV,tV,mV];have:(b7 t.mono (k+1:Nat)).toNat=e:=by unfold ex at c;omega
    rw[this];grind
   ·rw[Ae (by simp[c]),g O];grind
  rw[xV n λi _=>e i,Mf,b,aiu _ _ _ O,dJ]
def aDK(c m n:Nat):sN (λe=>if e=m then c else 0) n<=c:=by
 have b:∀k,k<=m->sN (λe=>if e=m then c else 0) k=0:=by
  intro k
  induction k with
  |zero=>intro _;rfl
  |succ k a=>intro d;rw[sN,a O,g O]
 induction n with
 |zero=>exact dD _
 |succ n a=>
  rw[sN];by_cases e:n=m
  ·rw[b n O,aK e];omega
  ·rw[g e];exact a
theorem adZ(k n:Nat):∀{l:List aL},sN (λe=>eL (l.filter λu=>ex (k+1) u==(e:Int))) n<=eL l
 |[]=>by show sN (λ_=>0) n<=0;rw[G0];exact bu _
 |t::r=>by
  have b:=adZ k n (l:=r);have e:∀e:Nat,eL ((t::r).filter λu=>ex (k+1) u==(e:Int))<=(if e=(ex (k+1) t).toNat then(iV t.cZ).natAbs else 0)+eL (r.filter λu=>ex (k+1) u==(e:Int)):=by
   intro e;by_cases a:ex (k+1) t=(e:Int)
   ·rw[yp (by simp[a]),aK O,eL];omega
   ·rw[Ae (by simp[a])];omega
  refine eZ (zz n λi _=>e i) ?_;rw[LN,eL];have:=aDK (iV t.cZ).natAbs (ex (k+1) t).toNat n;omega
def ayi{p:ba}(h:∀v:Nat,1<=v->v<=4->b7 p v=b7 q v):p=q:=by have a:=h 1 O O;have b:=h 2 O O;have c:=h 3 O O;have d:=h 4 O O;simp[b7]at a b c d;cases p;cases q;simp_all
def EU(E:Int)(l:List aL):=∀t∈l,∀v:Nat,1<=v->v<=4->ex v t<=E
structure MT(f:Nat)(l:List aL)(k:Nat):Prop where
 ev:∀ρ,ev ρ (cC f l k)=dJ ρ k l
 bw:br k (cC f l k)
 nz:l≠[]->bM (cC f l k)=false
 nm:d_ (cC f l k)<=eL l
 fr:∀v:Nat,1<=v->v<=4->(∀t∈l,ex v t=0)->Fr v (cC f l k)
 dl:∀d:Nat,EU d l->DL d (cC f l k)
 ld:∀d:Nat,DL d (cC f l k)->∀t∈l,∀v:Nat,1<=v->v<=k->ex v t<=d
theorem Yh:∀(f:Nat)(l:List aL)(k:Nat),CT l->BP l k->EU 1073741824 l->l.length+k<=f->MT f l k
 |0,[],k,D,M,B,hf=>by
  refine⟨λm=>?_,?_,λh=>absurd rfl h,?_,λv s _ _=>?_,λd _=>?_,λd _ t U=>by simp at U⟩;all_goals rw[E3]
  ·exact gr m
  ·exact .zero _
  ·rw[q9];omega
  ·exact .zero O
  ·exact .zero _
 |0,t::r,k,D,M,B,hf=>by simp at hf
 |f+1,[],k,D,M,B,hf=>by
  refine⟨λm=>?_,?_,λh=>absurd rfl h,?_,λv s _ _=>?_,λd _=>?_,λd _ t U=>by simp at U⟩;all_goals rw[E3]
  ·exact gr m
  ·exact .zero _
  ·rw[q9];omega
  ·exact .zero O
  ·exact .zero _
 |f+1,t::r,k,D,M,B,hf=>by
  obtain⟨b,E⟩:=QQ M;have hk4:=M.k4;have y:=Km t k;have p:∀m,dJ m k (t::r)=dJ m (fI t k) (t::r):=λm=>aay m y E
  by_cases P:fI t k=0
  ·have e:cC (f+1) (t::r) k=.mk 0 t.neg t.aF []:=by rw[xf,aK P]
   rw[P]at b E p;have hr:r=[]:=by
    cases r with
    |nil=>rfl
    |cons u r=>exfalso;have V:=(Eo.1 D.nd).1 u (bZ ..);refine V (ayi λv s q=>?_);unfold BP at b;exact b.2.2.2.2 t (bZ ..) u (cE _ (bZ ..)) v O q
   subst hr;obtain⟨z,Q,x⟩:=D.co t (bZ ..);have e2:J.mk 0 t.neg t.aF []=kP z:=by unfold kP;rw[<-x];rfl
   rw[e2]at e;refine⟨λm=>?_,?_,λ_=>?_,?_,λv s _ _=>?_,λd _=>?_,λd _ u j v s X=>?_⟩
   ·rw[e,p,l_,dJ,dJ,tV,x,il,mV];grind
   ·rw[e];exact .const z
   ·rw[e];exact acb Q
   ·rw[e,sw,eL,x,il];omega
   ·rw[e];exact .const O z
   ·rw[e];exact .const d z
   ·have:=E u j v O X;omega
  ·have G:=QM P;obtain⟨lv,K⟩:∃lv,fI t k=lv+1:=⟨fI t k-1,O⟩;rw[K]at b E p y G;have q:lv+1<=4:=O;have Z:=b.yW (bZ ..) (v:=lv+1) O q;have hexE:=B t (bZ ..) (lv+1) O q;have o:=b.head O (t:=t) rfl;have e:cC (f+1) (t::r) k=.mk (lv+1:Nat) false [] ((List.range (ex (lv+1) t+1).toNat).map λ(e:Nat)=>cC f ((t::r).filter λu=>ex (lv+1) u==(e:Int)) lv):=by rw[xf,g P,K,g O];rfl
   have w:∀e:Nat,MT f ((t::r).filter λu=>ex (lv+1) u==(e:Int)) lv:=λe=>by
    refine Yh f _ lv (D.sub Eh) ((b.sub Eh).down (z:=e) λu j=>?_) (λu j=>B u (iZ.1 j).1) ?_
    ·have:=(iZ.1 j).2;simpa using this
    ·have:=Em (λu=>ex (lv+1) u==(e:Int)) (t::r);omega
   have n:∀c∈(List.range (ex (lv+1) t+1).toNat).map (λ(e:Nat)=>cC f ((t::r).filter λu=>ex (lv+1) u==(e:Int)) lv),∃e:Nat,e<(ex (lv+1) t+1).toNat/\c=cC f ((t::r).filter λu=>ex (lv+1) u==(e:Int)) lv:=λc a=>by obtain⟨e,B,rfl⟩:=cj.1 a;exact⟨e,ol.1 B,rfl⟩
   refine⟨λm=>?_,?_,λ_=>?_,?_,λv s R N=>?_,λd C=>?_,λd C u j v s X=>?_⟩
   ·rw[e,uD m _ O q,p,FF,<-aaA m lv (ex (lv+1) t+1).toNat]
    ·refine xV _ λi _=>?_
     rw[(w i).ev]
    ·intro u j;have a1:=o u j;have a2:=b.yW j (v:=lv+1) O q;omega
   ·rw[e];refine .node (lv+1) _ O y (by rw[dS,oh];omega) (λc a=>?_) (λc a=>?_)
    ·obtain⟨i,_,rfl⟩:=n c a;exact(w i).bw.mono O
    ·rw[pS,dS,oh,dU,qB O]at a;simp only[dH,cY]at a;subst a;refine(w _).nz λH=>?_
     have:t∈(t::r).filter λu=>ex (lv+1) u==(((ex (lv+1) t+1).toNat-1:Nat):Int):=iZ.2 ⟨bZ ..,by simp;omega⟩
     rw[H]at this;simp at this
   ·rw[e];exact Re O
   ·rw[e,oI _ O q,KX];exact eZ (zz _ λi _=>(w i).nm) (adZ lv _)
   ·rw[e];refine .mk _ _ _ _ (λhh=>?_) λc a=>?_
    ·have:v=lv+1:=by omega
     subst this;exact G (N t (bZ ..))
    ·obtain⟨i,_,rfl⟩:=n c a;exact(w i).fr v s R λu j=>N u (iZ.1 j).1
   ·rw[e];refine .mk _ _ _ _ ?_ λc a=>?_
    ·rw[dS,oh];have:=C t (bZ ..) (lv+1) O q;omega
    ·obtain⟨i,_,rfl⟩:=n c a;exact(w i).dl d λu j=>C u (iZ.1 j).1
   ·rw[e]at C;have hlen:=C.len;have A:=C.bz;change ((List.range (ex (lv+1) t+1).toNat).map _).length<=d+1 at hlen;rw[dS,oh]at hlen;have a1:=o u j;have a2:=b.yW j (v:=lv+1) O q;by_cases N:lv+1<v
    ·rw[E u j v N X];omega
    ·by_cases T:v=lv+1
     ·subst T;omega
     ·refine(w (ex (lv+1) u).toNat).ld d (A _ ?_) u (iZ.2 ⟨j,by simp;omega⟩) v s O;exact cj.2 ⟨(ex (lv+1) u).toNat,ol.2 O,rfl⟩
section
def ayv(x y:Int)(h:bY x/\bY y):bh 283 [wI .u32 x,wI .u32 y] (tT [uE (x*y/4294967296),uE (x*y%4294967296)]):=by
 refine vF func283 rfl [] [] ?_;obtain⟨hx,c⟩:=h;rw[cg]at hx c;have l:0<=x*y/\x*y<=18446744065119617025:=by refine⟨og hx.1 c.1,?_⟩;exact Int.le_trans (wH (show x<=4294967295 by omega) c.1) O
 have f:IntKind.u64.wrap x=x:=IntWalk.u64_in _ O;have e:IntKind.u64.wrap y=y:=IntWalk.u64_in _ O;have d:IntKind.u64.wrap (x*y)=x*y:=IntWalk.u64_in _ O;have k:IntKind.u32.wrap (x*y)=(x*y)%4294967296:=by rw[IntKind.wrap_u32]
 have j:(x*y).fdiv (2^min (Int.toNat 32) IntKind.u64.bits)=(x*y)/4294967296:=by show(x*y).fdiv 4294967296=_;rw[yj _ O]
 have i:IntKind.u32.wrap ((x*y)/4294967296)=(x*y)/4294967296:=IntWalk.u32_in _ O;repeat' first|intro _|apply aP
 all_goals first|exact aZ|omega|rw[f,e,d,k];done|rw[f,e,d,j,i];done
def OQ:=eO (.int .u32) (.int .u32) ayv
def zf(m:Nat)(z:ao):=∀k,m<=k->∀y,z[k]?=some y->y=0
@[irreducible] def s7(a b:ao)(i:Nat)(z:ao):=i<=a.length/\z.length=a.length+b.length/\Dg z/\nV z=nV (a.take i)*nV b/\zf (i+b.length) z
@[irreducible] def wY(a b:ao)(i:Nat)(x:Int)(j:Nat)(c:Int)(z:ao):=i<a.length/\a[i]?=some x/\j<=b.length/\z.length=a.length+b.length/\Dg z/\bY c/\nV z+c*pB (i+j)=nV (a.take i)*nV b+x*nV (b.take j)*pB i/\zf (i+b.length) z
def kE(n k:Nat):List Int:=cM n++List.replicate (k-(cM n).length) 0
def Js{z:ao}(h:Dg z):z=kE (nV z).toNat z.length:=by unfold kE;rw[<-tc h];exact Ud z
def CN(h:(L:Int)<pB k):(kE L k).length=k:=by have:=qR h;unfold kE;rw[c_,na];omega
def CL(n k:Nat):Dg (kE n k):=(lR n).1.uo (Dg.zU _)
def CO(n k:Nat):nV (kE n k)=n:=by unfold kE;rw[q8,vZ,(lR n).2.1];omega
def amD(a b:ao):s7 a b 0 (List.replicate (a.length+b.length) 0):=by
 unfold s7;refine⟨dD _,ai,Dg.zU _,by rw[vZ,iC,nV,Ee],λk _ y c=>?_⟩;rw[wO]at c;split at c
 ·injection c with c;exact c.symm
 ·cases c
def wm{a:ao}{i:Nat}{x:Int}(h:a[i]?=some x):nV (a.take (i+1))=nV (a.take i)+x*pB i:=by
 have d:i<a.length:=by
  refine yv λc=>?_
  rw[gp c]at h;cases h
 rw[h_,q8,ez,ju O,h];simp[nV,iB]
def avS(h:l[(k:Int).toNat]?=some y):y=(l[k]?).getD 0:=(pa h).symm
variable {a b:ao}
section
variable {x:Nat×List Int}(hx:s7 a b x.1 x.2∧True)
include hx
def amH:x.1<=a.length/\x.2.length=a.length+b.length:=by have h:=hx.1;unfold s7 at h;exact⟨h.1,h.2.1⟩
def amG(c:a[((x.1:Nat):Int).toNat]?=some d)(e:(d==0)=true):s7 a b (x.1+1) x.2:=by
 rw[bI]at c;have e:d=0:=an e;subst e;have f:x.1<a.length:=by
  refine yv λi=>?_
  rw[gp i]at c;cases c
 have h:=hx.1;unfold s7 at h⊢;refine⟨f,h.2.1,h.2.2.1,?_,λk l y j=>h.2.2.2.2 k O y j⟩;rw[wm c,Ee,yi];exact h.2.2.2.1
def amI(i:Dg a)(c:a[((x.1:Nat):Int).toNat]?=some d):wY a b x.1 ((a[x.1]?).getD 0) 0 0 x.2:=by
 rw[bI]at c;have e:x.1<a.length:=by
  refine yv λf=>?_
  rw[gp f]at c;cases c
 have h:=hx.1;unfold s7 at h;unfold wY;rw[c,ie];refine⟨e,rfl,dD _,h.2.1,h.2.2.1,C7,?_,h.2.2.2.2⟩;rw[h.2.2.2.1];simp[nV]
def amE(d:decide (((x.1:Nat):Int)<(a.length:Int))=false):x.2=kE (nV a*nV b).toNat (a.length+b.length):=by
 have h:=hx.1;unfold s7 at h;have e:x.1=a.length:=by simp only[bj]at d;omega
 have c:=Js h.2.2.1;rw[h.2.1,h.2.2.2.1,e,i_]at c;exact c
end
section
variable {v:Nat×Int×Nat×Int×List Int}(hv:wY a b v.1 v.2.1 v.2.2.1 v.2.2.2.1 v.2.2.2.2∧True)
include hv
def EJ:v.1<a.length/\v.2.2.1<=b.length/\v.2.2.2.2.length=a.length+b.length/\bY v.2.2.2.1/\a[v.1]?=some v.2.1/\Dg v.2.2.2.2:=by have h:=hv.1;unfold wY at h;exact⟨h.1,h.2.2.1,h.2.2.2.1,h.2.2.2.2.2.1,h.2.1,h.2.2.2.2.1⟩
def WO(c:Dg a):bY v.2.1:=c.at (EJ hv).2.2.2.2.1
def WN(c:v.2.2.2.2[v.1+((v.2.2.1:Nat):Int).toNat]?=some r):bY r:=(EJ hv).2.2.2.2.2.at c
def NK(f:Dg a)(h:Dg b)(c:b[((v.2.2.1:Nat):Int).toNat]?=some y)(d:v.2.2.2.2[v.1+((v.2.2.1:Nat):Int).toNat]?=some r):
 IntKind.u32.wrap (IntKind.u32.wrap (v.2.1*y/4294967296+(v.2.1*y%4294967296+r+0)/4294967296)+((v.2.1*y%4294967296+r+0)%4294967296+v.2.2.2.1+0)/4294967296)=(v.2.1*(b[v.2.2.1]?).getD 0+(v.2.2.2.2[v.1+v.2.2.1]?).getD 0+v.2.2.2.1)/4294967296/\
 ((v.2.1*y%4294967296+r+0)%4294967296+v.2.2.2.1+0)%4294967296=(v.2.1*(b[v.2.2.1]?).getD 0+(v.2.2.2.2[v.1+v.2.2.1]?).getD 0+v.2.2.2.1)%4294967296/\
 0<=(v.2.1*(b[v.2.2.1]?).getD 0+(v.2.2.2.2[v.1+v.2.2.1]?).getD 0+v.2.2.2.1)/4294967296/\(v.2.1*(b[v.2.2.1]?).getD 0+(v.2.2.2.2[v.1+v.2.2.1]?).getD 0+v.2.2.2.1)/4294967296<4294967296:=by
 have i:=WO hv f;have e:=Dg.Ap h c;have l:=WN hv d;have m:=(EJ hv).2.2.2.1;rw[bI]at c d;rw[c,d,ie,ie];rw[cg]at*;have n:0<=v.2.1*y/\v.2.1*y<=18446744065119617025:=by refine⟨og i.1 e.1,?_⟩;exact Int.le_trans (wH (show v.2.1<=4294967295 by omega) e.1) O
 generalize v.2.1*y=p at*;have j:IntKind.u32.wrap (p/4294967296+(p%4294967296+r+0)/4294967296)=p/4294967296+(p%4294967296+r+0)/4294967296:=IntWalk.u32_in _ O;rw[j];have k:IntKind.u32.wrap (p/4294967296+(p%4294967296+r+0)/4294967296+((p%4294967296+r+0)%4294967296+v.2.2.2.1+0)/4294967296)=p/4294967296+(p%4294967296+r+0)/4294967296+((p%4294967296+r+0)%4294967296+v.2.2.2.1+0)/4294967296:=IntWalk.u32_in _ O;rw[k];omega
def amJ(j:Dg a)(l:Dg b)(d:b[((v.2.2.1:Nat):Int).toNat]?=some y)(e:v.2.2.2.2[v.1+((v.2.2.1:Nat):Int).toNat]?=some r):
 wY a b v.1 v.2.1 (v.2.2.1+1) ((v.2.1*(b[v.2.2.1]?).getD 0+(v.2.2.2.2[v.1+v.2.2.1]?).getD 0+v.2.2.2.1)/4294967296) (v.2.2.2.2.set (v.1+v.2.2.1) ((v.2.1*(b[v.2.2.1]?).getD 0+(v.2.2.2.2[v.1+v.2.2.1]?).getD 0+v.2.2.2.1)%4294967296)):=by
 have f:=NK hv j l d e;rw[bI]at d e;have n:v.2.2.1<b.length:=by
  refine yv λo=>?_
  rw[gp o]at d;cases d
 have h:=hv.1;rw[d,e,ie,ie]at f⊢;unfold wY at h⊢;obtain⟨p,q,H,s,t,K,u,z⟩:=h;refine⟨p,q,n,by rw[oV];exact s,t.set _ (cg.2 O),cg.2 ⟨f.2.2.1,f.2.2.2⟩,?_,λk A w c=>?_⟩
 ·rw[so e,wm d];have B:pB (v.1+(v.2.2.1+1))=4294967296*pB (v.1+v.2.2.1):=by rw[<-uj,ko]
  rw[B,mB,jR,<-Int.add_assoc,<-u];have C:v.2.1*(y*pB v.2.2.1)*pB v.1=v.2.1*y*pB (v.1+v.2.2.1):=by rw[zp];simp only[kA,iB,ue]
  rw[C];generalize pB (v.1+v.2.2.1)=P;generalize v.2.1*y=m;have D:m+r+v.2.2.2.1=(m+r+v.2.2.2.1)%4294967296+4294967296*((m+r+v.2.2.2.1)/4294967296):=O;generalize(m+r+v.2.2.2.1)%4294967296=L at*;generalize(m+r+v.2.2.2.1)/4294967296=i at*;have E:=aY (· *P) D;simp only[jR,rJ]at E⊢;have G:i*(4294967296*P)=4294967296*i*P:=by rw[ue,kA]
  rw[G];omega
 ·rw[Ek]at c;split at c
  ·omega
  ·exact z k A w c
def amF(q:decide (((v.2.2.1:Nat):Int)<(b.length:Int))=false):s7 a b (v.1+1) (v.2.2.2.2.set (v.1+b.length) v.2.2.2.1):=by
 have h:=hv.1;unfold wY at h;obtain⟨p,o,s,n,m,l,i,f⟩:=h;have e:v.2.2.1=b.length:=by simp only[bj]at q;omega
 rw[e]at i;obtain⟨r,j⟩:∃r,v.2.2.2.2[v.1+b.length]?=some r:=⟨v.2.2.2.2[v.1+b.length]' O,ai⟩;have d:=f _ (bu _) _ j;subst d;unfold s7;refine⟨p,by rw[oV];exact n,m.set _ l,?_,λk t w c=>?_⟩
 ·rw[so j,wm o,HL,i,i_,jR];congr 1;rw[kA,kA,iB (nV b)]
 ·rw[Ek]at c;split at c
  ·omega
  ·exact f k O w c
end
def aD9(a b:ao)(h:a.length+b.length<=1099511627776/\Dg a/\Dg b):bh 266 [wL .u32 a,wL .u32 b] (lT .u32 (kE (nV a*nV b).toNat (a.length+b.length))):=by
 refine vF func266 rfl [CD,OQ] [(3,⟨Nat×List Int,λx=>⟨[(0,lT .u32 a),(1,lT .u32 b),(5,.e (.c (.aW 0 (U:=S) W.u32 (a.length+b.length)))),(21,lT .u32 a),(22,iT a.length),(23,iT x.1)],[(0,.aU (U:=S) W.u32 x.2)],1⟩,λx=>s7 a b x.1 x.2/\True,λx=>a.length-x.1⟩),(1000009,⟨Nat×Int×Nat×Int×List Int,λv=>⟨[(0,lT .u32 a),(1,lT .u32 b),(5,.e (.c (.aW 0 (U:=S) W.u32 (a.length+b.length)))),(21,lT .u32 a),(22,iT a.length),(23,iT v.1),(7,uT v.2.1),(8,.e (.c (.sub 0 (U:=S) W.u32 v.1 (a.length+b.length-v.1)))),(9,uT v.2.2.2.1),(33,lT .u32 b),(34,iT b.length),(35,iT v.2.2.1)],[(0,.aU (U:=S) W.u32 v.2.2.2.2)],1⟩,λv=>wY a b v.1 v.2.1 v.2.2.1 v.2.2.2.1 v.2.2.2.2/\True,λv=>b.length-v.2.2.1⟩)] ?_;obtain⟨k,d,f⟩:=h;repeat' (first
  |intro _|apply aP
  |refine aX ((0,List.replicate (a.length+b.length) 0):Nat×List Int) (aP ?_ λ(x:Nat×List Int)(hx:s7 a b x.1 x.2/\True)=>?_)
  |refine aX (λv=>v.1=x.1) (aX (x.1,(a[x.1]?).getD 0,0,0,x.2) (aP ?_ λ(v:Nat×Int×Nat×Int×List Int)(hv:wY a b v.1 v.2.1 v.2.2.1 v.2.2.2.1 v.2.2.2.2/\True)(i:v.1=x.1)=>?_))
  |refine aX (v.1,v.2.1,v.2.2.1+1,(v.2.1*(b[v.2.2.1]?).getD 0+(v.2.2.2.2[v.1+v.2.2.1]?).getD 0+v.2.2.2.1)/4294967296,v.2.2.2.2.set (v.1+v.2.2.1) ((v.2.1*(b[v.2.2.1]?).getD 0+(v.2.2.2.2[v.1+v.2.2.1]?).getD 0+v.2.2.2.1)%4294967296)) ?_
  |refine aX (v.1+1,v.2.2.2.2.set (v.1+b.length) v.2.2.2.1) ?_
  |refine aX (x.1+1,x.2) ?_)
 all_goals first|exact aZ|with_reducible rfl|exact amD a b|exact WO hv d|exact WN hv I|exact Dg.Ap f I|exact(EJ hv).2.2.2.1|rw[cg];omega|exact i|exact amI hx d I|exact amG hx I I|exact amE hx I|exact amF hv I|omega|with_reducible exact avS I|have j:=EJ hv;simp only[be,bj]at*;omega|have j:=amH hx;simp only[be,bj]at*;omega|simp only[zI];omega|rw[show((a.length:Int)+(b.length:Int)).toNat=a.length+b.length by omega]|exact(NK hv d f I I).1|rw[bI];exact aY _ (NK hv d f I I).2.1|exact amJ hv d f I I|rw[bI];done
end
def nl(Z:ao)(o:Nat)(x:ao):List Int:=Z.take o++kE (nV (Z.drop o)+nV x).toNat (Z.length-o)
@[irreducible] def AP(Z:ao)(o n:Nat)(x:ao):=n=Z.length-o/\o<=Z.length/\x.length<=n/\Z.length<=1099511627776/\Dg Z/\Dg x/\nV (Z.drop o)+nV x<pB n
@[irreducible] def AG(Z:ao)(o n:Nat)(x:ao)(j:Nat)(c:Int)(z:ao):=j<=n/\z.length=Z.length/\Dg z/\0<=c/\c<=1/\z.take o=Z.take o/\nV (z.drop o)+c*pB j=nV (Z.drop o)+nV (x.take j)
section
variable {Z:ao}{o n:Nat}{x:ao}(hP:AP Z o n x)
include hP
def AP.n1:n=Z.length-o/\o<=Z.length/\x.length<=n/\Z.length<=1099511627776:=by unfold AP at hP;exact⟨hP.1,hP.2.1,hP.2.2.1,hP.2.2.2.1⟩
def AP.dx:Dg x:=by unfold AP at hP;exact hP.2.2.2.2.2.1
def ajQ:AG Z o n x 0 0 Z:=by unfold AP at hP;unfold AG;refine⟨dD _,rfl,hP.2.2.2.2.1,O,O,rfl,by simp[nV]⟩
variable {v:Nat×Int×List Int}(hv:AG Z o n x v.1 v.2.1 v.2.2∧True)
include hv
theorem BK:v.1<=n/\v.2.2.length=Z.length/\0<=v.2.1/\v.2.1<=1:=by have h:=hv.1;unfold AG at h;exact⟨h.1,h.2.1,h.2.2.2.1,h.2.2.2.2.1⟩
theorem MF(a:v.2.2[o+((v.1:Nat):Int).toNat]?=some r):bY r:=by have h:=hv.1;unfold AG at h;exact h.2.2.1.at a
def UT(b:y=(x[v.1]?).getD 0)(a:v.2.2[o+((v.1:Nat):Int).toNat]?=some r):
 AG Z o n x (v.1+1) ((r+y+v.2.1)/4294967296) (v.2.2.set (o+((v.1:Nat):Int).toNat) ((r+y+v.2.1)%4294967296)):=by
 have i:=MF hP hv a;have h:=hv.1;rw[bI]at a⊢;have c:bY y:=by rw[b];exact qQ hP.dx v.1
 rw[cg]at i c;have d:=hP;unfold AP at d;unfold AG at h⊢;obtain⟨B,j,k,C,D,l,E⟩:=h;have m:o+v.1<v.2.2.length:=by
  refine yv λp=>?_
  rw[gp p]at a;cases a
 refine⟨O,by rw[oV];exact j,k.set _ (cg.2 ⟨O,O⟩),O,O,?_,?_⟩
 ·rw[<-l];rw[List.take_set_of_le O]
 ·have q:(v.2.2.set (o+v.1) ((r+y+v.2.1)%4294967296)).drop o=(v.2.2.drop o).set v.1 ((r+y+v.2.1)%4294967296):=by rw[List.drop_set,g O];congr 1;omega
  have s:(v.2.2.drop o)[v.1]?=some r:=by rw[m_];exact a
  have t:nV (x.take (v.1+1))=nV (x.take v.1)+y*pB v.1:=by
   by_cases u:v.1<x.length
   ·have:x[v.1]?=some y:=by rw[b,ca u];rfl
    exact wm this
   ·rw[gp O]at b;have e:y=0:=b;rw[e,eQ O,eQ O];omega
  rw[q,so s,t,ko];have w:r+y+v.2.1=(r+y+v.2.1)%4294967296+4294967296*((r+y+v.2.1)/4294967296):=O;generalize(r+y+v.2.1)%4294967296=G at*;generalize(r+y+v.2.1)/4294967296=f at*;generalize pB v.1=P at*;have z:=aY (· *P) w;simp only[jR,rJ]at z⊢;have A:f*(4294967296*P)=4294967296*f*P:=by rw[ue,kA]
  rw[A];omega
def US(j:x.length<=v.1)(c:v.2.1=0\/n<=v.1):v.2.2=nl Z o x:=by
 have h:=hv.1;have b:=hP;unfold AP at b;unfold AG at h;obtain⟨y,i,d,w,u,f,a⟩:=h;obtain⟨t,s,r,q,p,m,l⟩:=b;rw[eQ j]at a;have z:=gS (d.drop o);have k:v.2.1=0:=by
  rcases c with c|c
  ·exact c
  ·have e:v.1=n:=by omega
   rw[e]at a;have:v.2.1=0\/v.2.1=1:=O;rcases this with e2|e2
   ·exact e2
   ·rw[e2]at a;omega
 rw[k,Ee,yi]at a;have e:=Js (d.drop o);rw[a,qC,i]at e;unfold nl;rw[<-e,<-f,om]
end
def aul:fh prog 267:=fH func267 af rfl
def JW{o:Nat}(a:l[o+(k:Int).toNat]?=some r):(l[o+k]?).getD 0=r:=by rw[bI]at a;rw[a];rfl
def Xg{x:ao}{o:Nat}(a:l[o+(k:Int).toNat]?=some r)(b:x[(k:Int).toNat]?=some y):(r+y+d)/4294967296=((l[o+k]?).getD 0+(x[k]?).getD 0+d)/4294967296:=by rw[JW a,pa b]
def Xh{x:ao}{o:Nat}(a:l[o+(k:Int).toNat]?=some r)(b:x[(k:Int).toNat]?=some y):l.set (o+(k:Int).toNat) ((r+y+d)%4294967296)=l.set (o+k) (((l[o+k]?).getD 0+(x[k]?).getD 0+d)%4294967296):=by rw[JW a,pa b,bI]
def Xi{o:Nat}(a:l[o+(k:Int).toNat]?=some r):(r+0+y)/4294967296=((l[o+k]?).getD 0+0+y)/4294967296:=by rw[JW a]
def Xj{o:Nat}(a:l[o+(k:Int).toNat]?=some r):l.set (o+(k:Int).toNat) ((r+0+y)%4294967296)=l.set (o+k) (((l[o+k]?).getD 0+0+y)%4294967296):=by rw[JW a,bI]
section
variable {Z:ao}{o n:Nat}{x:ao}(hP:AP Z o n x){v:Nat×Int×List Int}
include hP
def anU(hv:(AG Z o n x v.1 v.2.1 v.2.2/\v.1<=x.length)/\True)(a:v.2.2[o+((v.1:Nat):Int).toNat]?=some r)(b:x[((v.1:Nat):Int).toNat]?=some y):
 AG Z o n x (v.1+1) (((v.2.2[o+v.1]?).getD 0+(x[v.1]?).getD 0+v.2.1)/4294967296) (v.2.2.set (o+v.1) (((v.2.2[o+v.1]?).getD 0+(x[v.1]?).getD 0+v.2.1)%4294967296)):=by
 rw[<-Xh a b,<-Xg a b];exact UT hP ⟨hv.1.1,aZ⟩ (pa b).symm a
def anV(hv:(AG Z o n x v.1 v.2.1 v.2.2/\x.length<=v.1)/\True)(a:v.2.2[o+((v.1:Nat):Int).toNat]?=some r):
 AG Z o n x (v.1+1) (((v.2.2[o+v.1]?).getD 0+0+v.2.1)/4294967296) (v.2.2.set (o+v.1) (((v.2.2[o+v.1]?).getD 0+0+v.2.1)%4294967296)):=by
 rw[<-Xj a,<-Xi a];exact UT hP ⟨hv.1.1,aZ⟩ (FX hv.1.2).symm a
theorem anW(hv:(AG Z o n x v.1 v.2.1 v.2.2/\v.1<=x.length)/\True)(h:decide (((v.1:Nat):Int)<(x.length:Int))=false):AG Z o n x x.length v.2.1 v.2.2:=by
 simp only[bj]at h;have e:v.1=x.length:=by have:=hv.1.2;omega
 rw[<-e];exact hv.1.1
end
def ant(Z:ao)(o n:Nat)(x:ao)(hP:AP Z o n x):cN prog 267 (bJ (bP [(0,aV.aU (U:=S) W.u32 Z)])) ([.c (.sub 0 (U:=S) W.u32 o n),lE .u32 x].map SE.den) (bJ (bP [(0,aV.aU (U:=S) W.u32 (nl Z o x))])) (·∈[0]) (ST.cn (U:=S) []).den:=by
 refine vO func267 rfl ⟨[CD],[]⟩ [(2,⟨Nat×Int×List Int,λv=>⟨[(0,.e (.c (.sub 0 (U:=S) W.u32 o n))),(1,lT .u32 x),(4,uT v.2.1),(8,lT .u32 x),(9,iT x.length),(10,iT v.1)],[(0,.aU (U:=S) W.u32 v.2.2)],1⟩,λv=>(AG Z o n x v.1 v.2.1 v.2.2/\v.1<=x.length)/\True,λv=>x.length-v.1⟩),(7,⟨Nat×Int×List Int,λv=>⟨[(0,.e (.c (.sub 0 (U:=S) W.u32 o n))),(1,lT .u32 x),(4,uT v.2.1),(7,iT v.1)],[(0,.aU (U:=S) W.u32 v.2.2)],1⟩,λv=>(AG Z o n x v.1 v.2.1 v.2.2/\x.length<=v.1)/\True,λv=>n-v.1⟩)] [0] ⟨[],[(0,.aU (U:=S) W.u32 (nl Z o x))],1⟩ ?_;repeat' (first
  |intro _|apply aP
  |refine aX ((0,0,Z):Nat×Int×List Int) (aP ?_ λ(v:Nat×Int×List Int) (hv:(AG Z o n x v.1 v.2.1 v.2.2/\v.1<=x.length)/\True)=>?_)
  |refine aX ((x.length,v.2.1,v.2.2):Nat×Int×List Int) (aP ?_ λ(w:Nat×Int×List Int) (a:(AG Z o n x w.1 w.2.1 w.2.2/\x.length<=w.1)/\True)=>?_)
  |refine aX (w.1+1,((w.2.2[o+w.1]?).getD 0+0+w.2.1)/4294967296,w.2.2.set (o+w.1) (((w.2.2[o+w.1]?).getD 0+0+w.2.1)%4294967296)) ?_
  |refine aX (v.1+1,((v.2.2[o+v.1]?).getD 0+(x[v.1]?).getD 0+v.2.1)/4294967296,v.2.2.set (o+v.1) (((v.2.2[o+v.1]?).getD 0+(x[v.1]?).getD 0+v.2.1)%4294967296)) ?_)
 all_goals first|exact aZ|with_reducible rfl|exact ajQ hP|with_reducible exact Xg I I|with_reducible exact Xh I I|with_reducible exact Xi I|with_reducible exact Xj I|with_reducible exact anU hP hv I I|with_reducible exact anV hP a I|exact MF hP ⟨hv.1.1,aZ⟩ I|exact MF hP ⟨a.1.1,aZ⟩ I|exact Dg.Ap (AP.dx hP) I|exact C7|with_reducible exact(BK hP ⟨hv.1.1,aZ⟩).2.2.1|with_reducible exact(BK hP ⟨hv.1.1,aZ⟩).2.2.2|with_reducible exact(BK hP ⟨a.1.1,aZ⟩).2.2.1|with_reducible exact(BK hP ⟨a.1.1,aZ⟩).2.2.2|omega|have f:=BK hP ⟨a.1.1,aZ⟩;have d:=AP.n1 hP;have b:=a.1.2;simp only[be,bj]at*;omega|have f:=BK hP ⟨hv.1.1,aZ⟩;have d:=AP.n1 hP;have b:=hv.1.2;simp only[be,bj]at*;omega|exact US hP ⟨a.1.1,aZ⟩ a.1.2 (.inr (by simp only[be,bj]at*;omega))|rename_i h _;show AG Z o n x x.length v.2.1 v.2.2;exact anW hP hv h|rename_i h;exact US hP ⟨a.1.1,aZ⟩ a.1.2 (.inl (an h))
def agA(H:List (Nat×aV S))(args:List (SE S))(K:f_ S->Prop):Prop:=
 match H,args with
 |[(0,.aU W.u32 Z)],[.c (.sub 0 W.u32 o n),.c (.d (.bf W.u32 x))]=>AP Z o n x/\K ⟨.cn [],[(0,.aU (U:=S) W.u32 (nl Z o x))],[],[0]⟩
 |_,_=>False
def aAm:fk prog S where
 f:=267
 fX:=aul
 run:=agA
 ok H args K h:=by
  unfold agA at h;split at h
  ·rename_i Z o n x;obtain⟨d,c⟩:=h;refine⟨_,?_,λu a b=>?_,c⟩
   ·exact(ant Z o n x d).fK λu a=>by have:u<1:=a.1;simp;omega
   ·have:u<1:=a;simp at b;omega
  ·cases h
