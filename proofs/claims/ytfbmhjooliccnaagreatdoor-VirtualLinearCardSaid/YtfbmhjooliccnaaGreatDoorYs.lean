/- A part of the proof of VirtualLinear: Kl1 to Kl3. No condition. -/
import Derived.Test.YtfbmhjooliccnaaGreatDoorYr
set_option linter.all false
set_option maxRecDepth 100000
set_option maxHeartbeats 60000000
noncomputable section
namespace Go.Proofs.YtfbmhjooliccnaaGreatDoor
open Go Go.Ab Go.Proofs.Tryz
variable {m p:F}{l X:List F}{x y:Nat}{K:Int}
theorem wz{c:F}:∀{l:List F},c∈l->ba c<=ck l
 |a::r,h=>by
  rw[dW];rcases da.1 h with rfl|h
  ·omega
  ·have:=wz h;omega
@[irreducible] def jR(m:F):=CM CZ m/\ba m<=1000000000
def jR.u{m:F}(h:jR m):=(jR.eq_1 ..).mp h
theorem jR.bu{m:F}(h:jR m):∀c∈m.aO,jR c:=λc d=>by unfold jR;refine⟨h.u.1.bu c d,?_⟩;have f:=wz d;have e:=h.u.2;rw[j8]at e;omega
def jR.len(h:jR m):m.aO.length<=1000000000:=by have d:=rj m.aO;have c:=h.u.2;rw[j8]at c;omega
def jR.xH(h:jR m):kd m=m.aJ:=by have:=h.u.1.kd;unfold kd;rw[Z O]
theorem jR.bU{m:F}(h:jR m)(c:m.aJ=2):jN m.bU=m.bU:=by
 cases h.u.1 with
 |tt=>cases c
 |ff=>cases c
 |gE r p d f=>unfold jN;unfold R6 at d;rw[Z];show¬(r<1\/6<r);omega
 |node k e g i=>have c:k=2:=c;omega
def jR.po(h:jR m)(c:m.aJ=2):CZ m.aF:=by
 cases h.u.1 with
 |tt=>cases c
 |ff=>cases c
 |gE r p e d=>exact d
 |node k f g i=>have c:k=2:=c;omega
def jR.k0(h:jR m)(c:m.aJ=2):m.aO=[]:=by
 cases h.u.1 with
 |tt=>cases c
 |ff=>cases c
 |gE r p d e=>rfl
 |node k f g i=>have c:k=2:=c;omega
def jR.r0(h:jR m)(c:m.aJ≠2):m.bU=0/\m.aF=zP:=by
 cases h.u.1 with
 |tt=>exact⟨rfl,rfl⟩
 |ff=>exact⟨rfl,rfl⟩
 |gE r p d e=>exact absurd rfl c
 |node k f g i=>exact⟨rfl,rfl⟩
def jR.k1(h:jR m)(e:m.aJ≠2)(c:m.aJ≠3)(d:m.aJ≠4):m.aO=[]:=by
 cases h.u.1 with
 |tt=>rfl
 |ff=>rfl
 |gE r p f g=>exact absurd rfl e
 |node k i j l=>have c:k≠3:=c;have d:k≠4:=d;omega
@[irreducible] def u_(a b:F):=jR a/\jR b
def u_.u{a b:F}(h:u_ a b):=(u_.eq_1 ..).mp h
def aGv:ij zP zP=true:=by rw[Hr];show(decide (_=_)&&wy ⟨false,[]⟩ ⟨false,[]⟩&&jk [] [])=true;rw[jk];simp[wy]
section
variable {a b:F}(h:u_ a b)
include h
def sm1(c:(kd a !=kd b)=true):kO a b=false:=by rw[h.u.1.xH,h.u.2.xH]at c;exact(aGo c).symm
def Hz(c:(kd a !=kd b)=false):a.aJ=b.aJ:=by rw[h.u.1.xH,h.u.2.xH]at c;simpa using c
def sm2(f:(kd a !=kd b)=false)(c:(kd a==2)=true)(d:(jN a.bU==jN b.bU)=false):kO a b=false:=by have e:=Hz h f;rw[h.u.1.xH]at c;have c:a.aJ=2:=an c;rw[h.u.1.bU c,h.u.2.bU O]at d;refine(aGn ?_).symm;simpa using d
def sm3(f:(kd a !=kd b)=false)(c:(kd a==2)=true)(d:(jN a.bU==jN b.bU)=true):kO a b=ij a.aF b.aF:=by have e:=Hz h f;rw[h.u.1.xH]at c;have c:a.aJ=2:=an c;rw[h.u.1.bU c,h.u.2.bU O]at d;rw[Mn,h.u.1.k0 c,h.u.2.k0 O,qd e,qd (an d),hZ];simp
def aHn(d:(kd a !=kd b)=false)(c:(kd a==2)=true):Z2 a.aF b.aF:=by have e:=Hz h d;rw[h.u.1.xH]at c;have c:a.aJ=2:=an c;exact .of (h.u.1.po c) (h.u.2.po O)
def sm4(g:(kd a !=kd b)=false)(c:(kd a==2)=false):kO a b=hZ a.aO b.aO:=by have e:=Hz h g;rw[h.u.1.xH]at c;have c:a.aJ≠2:=an c;have f:=h.u.1.r0 c;have d:=h.u.2.r0 O;rw[Mn,qd e,f.1,d.1,f.2,d.2,aGv];simp
def sm5(g:(kd a !=kd b)=false)(c:(kd a==2)=false)(f:(kd a==3)=false)(d:(kd a==4)=false):kO a b=true:=by rw[sm4 h g c];have e:=Hz h g;rw[h.u.1.xH]at c f d;have c:a.aJ≠2:=an c;have f:a.aJ≠3:=an f;have d:a.aJ≠4:=an d;rw[h.u.1.k1 c f d,h.u.2.k1 O O O,hZ]
theorem u_.bu:∀x∈a.aO,∀y∈b.aO,u_ x y:=λx d y c=>by unfold u_;exact⟨h.u.1.bu x d,h.u.2.bu y c⟩
end
def auI(h:((l.length:Int) !=(X.length:Int))=true):hZ l X=false:=by
 cases e:hZ l X with
 |false=>rfl
 |true=>rw[ahd e]at h;simp at h
def auL{a b:F}(e:hZ (l.take x) (X.take x)=true)(c:l[(x:Int).toNat]?=some a)(d:X[(x:Int).toNat]?=some b)(h:(!kO a b)=false):hZ (l.take (x+1)) (X.take (x+1))=true:=by rw[bt]at c d;exact ahe e c d (an h)
def auK{a b:F}(c:l[(x:Int).toNat]?=some a)(d:X[(x:Int).toNat]?=some b)(h:(!kO a b)=true):hZ l X=false:=by
 cases e:hZ l X with
 |false=>rfl
 |true=>rw[ahb e c d]at h;cases h
def auJ{ps:List F}(c:((ps.length:Int) !=(l.length:Int))=false)(d:hZ (ps.take x) (l.take x)=true)(f:x<=ps.length)(h:decide ((x:Int)<ps.length)=false):hZ ps l=true:=by simp only[bc]at h;have c:(ps.length:Int)=(l.length:Int):=an c;have e:x=ps.length:=O;subst e;rw[im,show ps.length=l.length by omega,im]at d;exact d
def at5:gv prog 163:=gY func163 af rfl
def auf:gv prog 210:=gY func210 af rfl
def agU(D:F->F->Prop)(H:List (Nat×aZ Un))(args:List (SE Un))(K:iA Un->Prop):Prop:=
 match H,args with
 |[],[.agg [.d (.sc (.int .i64 k1)),.d (.sc (.int .i64 e)),.d (.sc (.int .i64 l)),.d (.cK j),.d (.bN W.u32 p),.d (.bN W.aF n),.d (.bN W.aP g)],.agg [.d (.sc (.int .i64 k2)),.d (.sc (.int .i64 c)),.d (.sc (.int .i64 k)),.d (.cK i),.d (.bN W.u32 o),.d (.bN W.aF m),.d (.bN W.aP f)]]=>D (.mk k1 e (.mk l j p n) g) (.mk k2 c (.mk k i o m) f)/\K ⟨bT (kO (.mk k1 e (.mk l j p n) g) (.mk k2 c (.mk k i o m) f)),[],[],[]⟩
 |_,_=>False
def aDr(D:F->F->Prop)(n:∀a b,D a b->bh 163 [wE .aP a,wE .aP b] (bT (kO a b))):gy prog Un where
 f:=163
 iu:=at5
 run:=agU D
 ok H args K h:=by
  unfold agU at h;split at h
  ·rename_i k1 e m k t r i k2 d l j s q g;obtain⟨p,o⟩:=h;refine⟨_,?_,λu c v=>absurd c (oi _),o⟩;exact(n (.mk k1 e (.mk m k t r) i) (.mk k2 d (.mk l j s q) g) p).gL λu c=>absurd c.1 (oi _)
  ·cases h
theorem auy(d f:List F)(k:d.length<=1000000000)(j:∀a∈d,∀b∈f,bh 163 [wE .aP a,wE .aP b] (bT (kO a b))):lW prog 210 ([wL .aP d,wL .aP f,.c (.db 163 [])].map SE.aI) (bT (hZ d f)).aI:=by
 refine vG func210 rfl ⟨[],[aDr (λa b=>a∈d/\b∈f) (λa b h=>j a h.1 b h.2)]⟩ [(4,⟨Nat,λx=>⟨[(1,lT .aP f),(2,.e (.c (.db 163 []))),(15,lT .aP d),(16,iT d.length),(17,iT x)],[],0⟩,λx=>(x<=d.length/\hZ (d.take x) (f.take x)=true)/\True,λx=>d.length-x⟩)] ?_;repeat' first|intro _|apply aQ|refine aS 0 (aQ ?_ λ(x:Nat) (i:(x<=d.length/\hZ (d.take x) (f.take x)=true)/\True)=>?_)|refine aS (x+1) ?_
 all_goals(try clear j)
 all_goals(try simp only[bz,fI]at*)
 all_goals first|omega|rw[auI Y];done|exact bM Y|rw[auK Y Y Y];done|exact auL i.1.2 Y Y Y|rw[auJ Y i.1.2 i.1.1 Y];done|have g:=i.1.1;simp only[be,bc,Fm]at*;omega|rfl
def agF(D:List F->List F->Prop)(H:List (Nat×aZ Un))(args:List (SE Un))(K:iA Un->Prop):Prop:=
 match H,args with
 |[],[.c (.d (.bN W.aP f)),.c (.d (.bN W.aP e)),.c (.db 163 [])]=>D f e/\K ⟨bT (hZ f e),[],[],[]⟩
 |_,_=>False
def aDk(D:List F->List F->Prop)(g:∀c d,D c d->c.length<=1000000000/\∀a∈c,∀b∈d,bh 163 [wE .aP a,wE .aP b] (bT (kO a b))):gy prog Un where
 f:=210
 iu:=auf
 run:=agF D
 ok H args K h:=by
  unfold agF at h;split at h
  ·rename_i c d;obtain⟨i,j⟩:=h;refine⟨_,?_,λu e k=>absurd e (oi _),j⟩;exact(auy c d (g c d i).1 (g c d i).2).gL λu e=>absurd e.1 (oi _)
  ·cases h
theorem aGw(a:F):∀b:F,u_ a b->bh 163 [wE .aP a,wE .aP b] (bT (kO a b)):=by
 generalize j:SizeOf.sizeOf a=D
 induction D using Nat.strongRecOn generalizing a
 rename_i D e;subst j;intro b h;refine vG func163 rfl ⟨[FZ,Zq,Pj],[aDk (λd c=>d=a.aO/\c=b.aO) (λd c i=>by obtain⟨rfl,rfl⟩:=i;exact⟨h.u.1.len,λx f y g=>e _ (F.lt f) x rfl y (h.bu x f y g)⟩)]⟩ [] ?_
 repeat' first|intro _|apply aQ
 all_goals(try clear e)
 all_goals(try simp only[bz,fI]at*)
 all_goals first|((with_reducible show(_&&_)=true);kernel_rfl)|rw[sm1 h Y];done|rw[sm2 h Y Y Y];done|rw[sm3 h Y Y Y];done|exact aHn h Y Y|rw[sm4 h Y Y];done|rw[sm5 h Y Y Y Y];done|exact absurd ‹(kd a==3)=true› (by rw[‹(kd a==3)=false›];decide)
def Zs:=eI (.el W.aP) (.el W.aP) aGw
def atY:gv prog 117:=gY func117 af rfl
def atZ:gv prog 118:=gY func118 af rfl
def at2:gv prog 119:=gY func119 af rfl
def Mh(f:Int->Int->Int×Bool)(H:List (Nat×aZ Un))(args:List (SE Un))(K:iA Un->Prop):Prop:=
 match H,args with
 |[],[.c (.d (.sc (.int .i64 a))),.c (.d (.sc (.int .i64 b)))]=>K ⟨tT [iE (f a b).1,bE (f a b).2],[],[],[]⟩
 |_,_=>False
def aDm:gy prog Un where
 f:=117
 iu:=atY
 run:=Mh tu
 ok H args K h:=by
  unfold Mh at h;split at h
  ·rename_i a b;refine⟨⟨tT [iE (tu a b).1,bE (tu a b).2],[],[],[]⟩,?_,λu d e=>absurd d (oi _),h⟩;exact dA.gL (stay':=λu=>u<0/\¬u∈[]) (azA a b) λu d=>absurd d.1 (oi _)
  ·cases h
def aDl:gy prog Un where
 f:=118
 iu:=atZ
 run:=Mh tg
 ok H args K h:=by
  unfold Mh at h;split at h
  ·rename_i a b;refine⟨⟨tT [iE (tg a b).1,bE (tg a b).2],[],[],[]⟩,?_,λu d e=>absurd d (oi _),h⟩;exact dA.gL (stay':=λu=>u<0/\¬u∈[]) (axZ a b) λu d=>absurd d.1 (oi _)
  ·cases h
@[irreducible] def IN(l:List F)(p:F):=(∀c∈l,jR c)/\jR p/\l.length<=1000000000
def Ac{l:List F}{p:F}(h:IN l p):=(IN.eq_1 ..).mp h
@[irreducible] def IG(K:Int)(l:List F)(p:F)(x:Nat):=x<=l.length/\cO K p l=(l.take x++(cO K p (l.drop x)).1,(cO K p (l.drop x)).2)
def VL(K:Int)(l:List F)(p:F):IG K l p 0:=by unfold IG;exact⟨dz _,rfl⟩
def VR{K:Int}{l:List F}{p:F}{x:Nat}(h:IG K l p x):x<=l.length:=by unfold IG at h;exact h.1
section
variable {K:Int}{l:List F}{p:F}{x:Nat}(h:IG K l p x){c:F}(hc:l[((x:Nat):Int).toNat]?=some c)
include h hc
theorem NA:l.drop x=c::l.drop (x+1)/\x<l.length:=by rw[bt]at hc;have a:=ns hc;refine⟨?_,a⟩;rw[kB a];rw[cN a]at hc;injection hc with hc;rw[hc]
def ND(h2:cO K p (c::l.drop (x+1))=(c::(cO K p (l.drop (x+1))).1,(cO K p (l.drop (x+1))).2)):IG K l p (x+1):=by have a:=NA h hc;unfold IG at h⊢;refine⟨a.2,?_⟩;rw[h.2,a.1,h2];rw[bt]at hc;simp only;rw[fy,hc,gM];rfl
def VM(hk:(c.aJ !=p.aJ)=true):IG K l p (x+1):=ND h hc (by rw[cO,aM (an hk)])
theorem VN(hk:(c.aJ !=p.aJ)=false)(h2:(p.aJ !=2)=true)(I:kO c p=false):IG K l p (x+1):=ND h hc (by rw[cO,Z (an hk),aM (an h2),Z (by rw[I];decide)])
theorem VO(hk:(c.aJ !=p.aJ)=false)(h2:(p.aJ !=2)=false)(I:ij c.aF p.aF=false):IG K l p (x+1):=ND h hc (by rw[cO,Z (an hk),Z (an h2),Z (by rw[I];decide)])
theorem VV(hk:(c.aJ !=p.aJ)=false)(h2:(p.aJ !=2)=true)(I:kO c p=true):cO K p l=(l,true):=by have a:=NA h hc;unfold IG at h;rw[h.2,a.1,cO,Z (an hk),aM (an h2),aM I,<-a.1,o0]
theorem NE(hk:(c.aJ !=p.aJ)=false)(h2:(p.aJ !=2)=false)(I:ij c.aF p.aF=true):cO K p l=(l.set x (.mk c.aJ (mZ K c.bU p.bU).1 c.aF c.aO),(mZ K c.bU p.bU).2):=by have a:=NA h hc;unfold IG at h;rw[h.2,a.1,cO,Z (an hk),Z (an h2),aM I];simp only;rw[NQ,aM a.2]
end
section
variable {K:Int}{l:List F}{p:F}{x:Nat}(h:IG K l p x){c:F}(I:ij c.aF p.aF=true)(hc:l[((x:Nat):Int).toNat]?=some c)(hk:(c.aJ !=p.aJ)=false)(h2:(p.aJ !=2)=false)
include h I hc hk h2
theorem VY:(mZ K c.bU p.bU).2=(cO K p l).2:=by rw[NE h hc hk h2 I]
theorem VX:l.length=(cO K p l).1.length:=by rw[NE h hc hk h2 I,rK]
theorem VW(a:l[(x:Int).toNat]?=some m):l.set (x:Int).toNat (.mk m.aJ (mZ K c.bU p.bU).1 m.aF m.aO)=(cO K p l).1:=by
 have e:m=c:=by rw[hc]at a;injection a with a;exact a.symm
 rw[NE h hc hk h2 I,e,bt]
end
def VZ{K:Int}{l:List F}{p:F}{x:Nat}(h:IG K l p x)(a:decide ((x:Int)<l.length)=false):cO K p l=(l++[p],true):=by unfold IG at h;simp only[bc]at a;have e:x=l.length:=O;subst e;rw[h.2,im,List.drop_length,cO]
def Ig{l:List F}{p:F}(h:IN l p)(q:F):(l.length+[q].length)*oR.dF<=140737488355328/\l.length+[q].length<=140737488355328:=by have h2:=(Ac h).2.2;have e:oR.dF=104:=rfl;have a:[q].length=1:=rfl;rw[e,a];omega
def VT{l:List F}{p:F}(h:IN l p){c:F}(hc:l[y]?=some c):u_ c p:=by unfold u_;exact⟨(Ac h).1 c (bM hc),(Ac h).2.1⟩
def VU{l:List F}{p:F}(h:IN l p){c:F}(hc:l[y]?=some c)(hk:(c.aJ !=p.aJ)=false)(h2:(p.aJ !=2)=false):Z2 c.aF p.aF:=by have h2:p.aJ=2:=an h2;have hk:c.aJ=p.aJ:=an hk;exact .of (((Ac h).1 c (bM hc)).po O) ((Ac h).2.1.po h2)
def Yp(a b:Int):tu a b=mZ 3 a b:=rfl
def Yo(a b:Int):tg a b=mZ 4 a b:=rfl
theorem axA(l:List F)(p:F)(h:IN l p):dA prog 119 (bX (cy (U:=Un) [(0,.aW W.aP l)])) ([.c (.aX 0 W.aP l.length),wE .aP p,.c (.db 117 [])].map SE.aI) (bX (cy (U:=Un) [(1,.aW W.aP (cO 3 p l).1)])) (·∈[]) (ST.aI (U:=Un) (tT [.c (.aX 1 W.aP (cO 3 p l).1.length),bE (cO 3 p l).2])):=by
 refine vO func119 rfl ⟨[Zs,Pj],[aDm]⟩ [(2,⟨Nat,λx=>⟨[(0,.e (.c (.aX 0 W.aP l.length))),(2,.e (.c (.db 117 []))),(4,br 1),(12,.e (.c (.aX 0 W.aP l.length))),(13,iT l.length),(14,iT x)],[(0,.aW W.aP l),(1,cj .aP p)],2⟩,λx=>IG 3 l p x/\True,λx=>l.length-x⟩)] [] ⟨[(6,.e (.c (.aX 1 W.aP (cO 3 p l).1.length))),(7,bT (cO 3 p l).2)],[(1,.aW W.aP (cO 3 p l).1)],2⟩ ?_;repeat' first|intro _|apply aQ|refine aS 0 (aQ ?_ λ(x:Nat)(a:IG 3 l p x/\True)=>?_)|refine aS (x+1) ?_
 all_goals(try simp only[bz,fI,Yp,Yo]at*)
 all_goals first|exact bj|omega| (with_reducible first|exact VL _ _ _|exact VT h Y)|exact VU h Y Y Y| (with_reducible first|exact(Ig h _).1|exact(Ig h _).2)|exact VM a.1 Y Y|exact VN a.1 Y Y Y Y|exact VO a.1 Y Y Y Y|exact VX a.1 ‹ij _ _=true› Y Y Y|exact VY a.1 ‹ij _ _=true› Y Y Y|exact VW a.1 ‹ij _ _=true› Y Y Y Y|rw[VV a.1 Y Y Y Y];done|(rw[VZ a.1 Y];first|done|rfl|simp;done)|have g:=VR a.1;have b:=(Ac h).2.2;simp only[be,bc]at*;omega|rfl
theorem axB(l:List F)(p:F)(h:IN l p):dA prog 119 (bX (cy (U:=Un) [(0,.aW W.aP l)])) ([.c (.aX 0 W.aP l.length),wE .aP p,.c (.db 118 [])].map SE.aI) (bX (cy (U:=Un) [(1,.aW W.aP (cO 4 p l).1)])) (·∈[]) (ST.aI (U:=Un) (tT [.c (.aX 1 W.aP (cO 4 p l).1.length),bE (cO 4 p l).2])):=by
 refine vO func119 rfl ⟨[Zs,Pj],[aDl]⟩ [(2,⟨Nat,λx=>⟨[(0,.e (.c (.aX 0 W.aP l.length))),(2,.e (.c (.db 118 []))),(4,br 1),(12,.e (.c (.aX 0 W.aP l.length))),(13,iT l.length),(14,iT x)],[(0,.aW W.aP l),(1,cj .aP p)],2⟩,λx=>IG 4 l p x/\True,λx=>l.length-x⟩)] [] ⟨[(6,.e (.c (.aX 1 W.aP (cO 4 p l).1.length))),(7,bT (cO 4 p l).2)],[(1,.aW W.aP (cO 4 p l).1)],2⟩ ?_;repeat' first|intro _|apply aQ|refine aS 0 (aQ ?_ λ(x:Nat)(a:IG 4 l p x/\True)=>?_)|refine aS (x+1) ?_
 all_goals(try simp only[bz,fI,Yp,Yo]at*)
 all_goals first|exact bj|omega| (with_reducible first|exact VL _ _ _|exact VT h Y)|exact VU h Y Y Y| (with_reducible first|exact(Ig h _).1|exact(Ig h _).2)|exact VM a.1 Y Y|exact VN a.1 Y Y Y Y|exact VO a.1 Y Y Y Y|exact VX a.1 ‹ij _ _=true› Y Y Y|exact VY a.1 ‹ij _ _=true› Y Y Y|exact VW a.1 ‹ij _ _=true› Y Y Y Y|rw[VV a.1 Y Y Y Y];done|(rw[VZ a.1 Y];first|done|rfl|simp;done)|have g:=VR a.1;have b:=(Ac h).2.2;simp only[be,bc]at*;omega|rfl
def agJ(H:List (Nat×aZ Un))(args:List (SE Un))(K:iA Un->Prop):Prop:=
 match H,args with
 |[(0,.aW W.aP l)],[.c (.aX 0 W.aP n),.agg [.d (.sc (.int .i64 k1)),.d (.sc (.int .i64 a)),.d (.sc (.int .i64 f)),.d (.cK e),.d (.bN W.u32 j),.d (.bN W.aF i),.d (.bN W.aP b)],.c (.db g [])]=>(n=l.length/\IN l (.mk k1 a (.mk f e j i) b))/\
  (match Nat.beq g 117,Nat.beq g 118 with
   |true,_=>K ⟨tT [.c (.aX 1 W.aP (cO 3 (.mk k1 a (.mk f e j i) b) l).1.length),bE (cO 3 (.mk k1 a (.mk f e j i) b) l).2],[(1,.aW W.aP (cO 3 (.mk k1 a (.mk f e j i) b) l).1)],[0],[0]⟩
   |_,true=>K ⟨tT [.c (.aX 1 W.aP (cO 4 (.mk k1 a (.mk f e j i) b) l).1.length),bE (cO 4 (.mk k1 a (.mk f e j i) b) l).2],[(1,.aW W.aP (cO 4 (.mk k1 a (.mk f e j i) b) l).1)],[0],[0]⟩
   |_,_=>False)
 |_,_=>False
def aeK:gy prog Un where
 f:=119
 iu:=at2
 run:=agJ
 ok H args K h:=by
  unfold agJ at h;split at h
  ·rename_i l n k1 d k j q o i g;obtain⟨⟨r,m⟩,h2⟩:=h;subst r;split at h2
   ·rename_i e;have e:=cU e;subst e;refine⟨_,?_,λu a b=>?_,h2⟩
    ·exact(axA l (.mk k1 d (.mk k j q o) i) m).gL λu a=>by have:u<1:=a.1;have:u∉[0]:=a.2;simp at this;omega
    ·have:u<1:=a;simp at b;omega
   ·rename_i e s;have e:=cU e;subst e;refine⟨_,?_,λu a b=>?_,h2⟩
    ·exact(axB l (.mk k1 d (.mk k j q o) i) m).gL λu a=>by have:u<1:=a.1;have:u∉[0]:=a.2;simp at this;omega
    ·have:u<1:=a;simp at b;omega
   ·cases h2
  ·cases h
@[irreducible] def OF(m:F):Prop:=RM (λp=>b8 p/\CZ (eQ p)) m/\ba m<=1000000000
def E3{m:F}(h:OF m):=(OF.eq_1 ..).mp h
def OF.bu{m:F}(h:OF m)(hk:m.aJ=3\/m.aJ=4):∀c∈m.aO,OF c:=λc hc=>by
 have b:=E3 h;unfold OF;refine⟨?_,?_⟩
 ·cases b.1 with
  |mk k r p e hp a=>exact a hk c hc
 ·have f:=wz hc;have d:=b.2;rw[j8]at d;omega
def OF.np{m:F}(h:OF m)(hk:m.aJ=2):b8 m.aF:=by
 cases(E3 h).1 with
 |mk k r p b hp a=>exact(hp hk).1
def OF.cm{m:F}(h:OF m):CM CZ (bF m)/\ba (bF m)<=ba m:=by have:=tB (Q:=CZ) (λp hp=>hp) (E3 h).1;exact⟨this.1,this.2.2⟩
def zC(K:Int)(s:F):List F:=if s.aJ=K then s.aO else [s]
def afI(K:Int)(s:F):ck (zC K s)<=ba s:=by
 unfold zC;split
 ·rw[j8];omega
 ·rw[dW,e_];omega
def aER{K:Int}{s:F}(h:CM CZ s):∀c∈zC K s,CM CZ c:=by
 unfold zC;split
 ·exact h.bu
 ·intro c hc;rw[cL.1 hc];exact h
@[irreducible] def JO(K:Int)(m:F)(x:Nat)(acc:List F):Prop:=
  x<=m.aO.length/\fW K m.aO []=fW K (m.aO.drop x) acc/\(∀c∈acc,CM CZ c)/\ck acc+ck (m.aO.drop x)<=1000000000
@[irreducible] def JI(K:Int)(m:F)(x:Nat)(ps:List F)(y:Nat)(acc:List F):Prop:=
  x<m.aO.length/\fW K m.aO []=(match nO K (ps.drop y) acc with|some a=>fW K (m.aO.drop (x+1)) a|none=>.mk (nH K) 0 zP [])/\y<=ps.length/\(∀c∈acc,CM CZ c)/\(∀c∈ps,CM CZ c)/\ck acc+ck (ps.drop y)+ck (m.aO.drop (x+1))<=1000000000/\ps.length<=1000000000
def ED{K:Int}{m:F}{x:Nat}{acc:List F}(h:JO K m x acc):=(JO.eq_1 ..).mp h
def Ag{K:Int}{m:F}{x:Nat}{ps:List F}{y:Nat}{acc:List F}(h:JI K m x ps y acc):=(JI.eq_1 ..).mp h
def V7{m:F}(h:OF m)(K:Int):JO K m 0 []:=by have:=(E3 h).2;rw[j8]at this;unfold JO;exact⟨dz _,rfl,λc hc=>by simp at hc,by rw[rG,e_];omega⟩
def C3{x:Nat}{c:F}(hc:l[(x:Int).toNat]?=some c):l.drop x=c::l.drop (x+1)/\x<l.length:=by rw[bt]at hc;have hx:=ns hc;refine⟨?_,hx⟩;rw[kB hx];rw[cN hx]at hc;injection hc with hc;rw[hc]
section
variable {K:Int}{m:F}(hm:OF m)(hk:m.aJ=K)(hK:K=3∨K=4){x:Nat}{acc:List F}(h:JO K m x acc){c:F}(hc:m.aO[((x:Nat):Int).toNat]?=some c)
include hm hk hK h hc
theorem NH:OF c:=hm.bu (by rw[hk];exact hK) c (bM hc)
theorem ald(ha:(bF c).aJ=nH K):fW K m.aO []=.mk (nH K) 0 zP []:=by rw[(ED h).2.1,(C3 hc).1,fW,aM ha]
theorem ale(ha:(bF c).aJ≠nH K)(a:(bF c).aJ=uK K):JO K m (x+1) acc:=by
 have u:=ED h;have d:=C3 hc;unfold JO;refine⟨d.2,?_,u.2.2.1,?_⟩
 ·rw[u.2.1,d.1,fW,Z ha,aM a]
 ·have:=u.2.2.2;rw[d.1,dW]at this;omega
theorem We(ha:(bF c).aJ≠nH K)(e:(bF c).aJ≠uK K):JI K m x (zC K (bF c)) 0 acc:=by
 have u:=ED h;have d:=C3 hc;have a:=(NH hm hk hK h hc).cm;unfold JI;refine⟨d.2,?_,dz _,u.2.2.1,aER a.1,?_,?_⟩
 ·rw[u.2.1,d.1,fW,Z ha,Z e];rfl
 ·have b:=u.2.2.2;have f:=afI K (bF c);rw[d.1,dW]at b;rw[rG];have:=a.2;omega
 ·have b:=u.2.2.2;have f:=afI K (bF c);have g:=rj (zC K (bF c));rw[d.1,dW]at b;have:=a.2;omega
end
section
variable {K:Int}{m:F}{x:Nat}{ps:List F}{y:Nat}{acc:List F}(h:JI K m x ps y acc)
include h
def V4(b:decide ((y:Int)<ps.length)=false):JO K m (x+1) acc:=by have u:=Ag h;simp only[bc]at b;have e:y=ps.length:=O;subst e;unfold JO;have a:=u.2.1;rw[List.drop_length,nO]at a;exact⟨u.1,a,u.2.2.2.1,by have:=u.2.2.2.2.2.1;omega⟩
variable {p:F}(hp:ps[((y:Nat):Int).toNat]?=some p)
include hp
def V5:IN acc p:=by
 have u:=Ag h;have d:=C3 hp;have s:=u.2.2.2.2.2.1;rw[d.1,dW]at s;unfold IN jR;refine⟨λc hc=>⟨u.2.2.2.1 c hc,?_⟩,⟨u.2.2.2.2.1 p (bM hp),O⟩,?_⟩
 ·have:=wz hc;omega
 ·have:=rj acc;omega
def alb(a:(cO K p acc).2=false):fW K m.aO []=.mk (nH K) 0 zP []:=by rw[(Ag h).2.1,(C3 hp).1,nO,Z (by rw[a];decide)]
theorem alc(hK:K=3\/K=4)(a:(cO K p acc).2=true):JI K m x ps (y+1) (cO K p acc).1:=by have u:=Ag h;have d:=C3 hp;have i:=QL (λ_=>0) hK (u.2.2.2.2.1 p (bM hp)) u.2.2.2.1;have s:=u.2.2.2.2.2.1;rw[d.1,dW]at s;unfold JI;refine⟨u.1,?_,d.2,(i.1 a).1,u.2.2.2.2.1,by have:=i.2.2.1;omega,u.2.2.2.2.2.2⟩;rw[u.2.1,d.1,nO,aM a]
end
section
variable {K:Int}{m:F}{x:Nat}{acc:List F}(h:JO K m x acc)(hx:decide ((x:Int)<(m.aO.length:Int))=false)
include h hx
def NG:fW K m.aO []=xB K acc:=by have u:=ED h;simp only[bc]at hx;rw[u.2.1,mU O,fW]
def Wb(a:((acc.length:Int)==0)=true):fW K m.aO []=.mk (uK K) 0 zP []:=by rw[NG h hx];have a:(acc.length:Int)=0:=an a;have e:acc=[]:=fR O;rw[e];rfl
def Wc(d:((acc.length:Int)==1)=true){a:F}(ha:acc[(0:Int).toNat]?=some a):fW K m.aO []=a:=by
 rw[NG h hx];have d:(acc.length:Int)=1:=an d
 match acc,d,ha with
 |[b],_,ha=>exact yG ha
 |[],d,_=>simp at d
 |_::_::_,d,_=>simp at d;omega
def Wd(d:((acc.length:Int)==0)=false)(a:((acc.length:Int)==1)=false):fW K m.aO []=.mk K 0 zP acc:=by
 rw[NG h hx];have d:(acc.length:Int)≠0:=an d;have a:(acc.length:Int)≠1:=an a
 match acc,d,a with
 |[],d,_=>exact absurd rfl d
 |[b],_,a=>exact absurd rfl a
 |_::_::_,_,_=>rfl
end
def jk3{m:F}(h:m.aJ=3)(a:(m.aJ==4)=true):False:=by have a:m.aJ=4:=an a;omega
def jk4{m:F}(h:m.aJ=4)(a:(m.aJ==4)=false):False:=by have a:m.aJ≠4:=an a;omega
section
variable {K:Int}{m:F}(hm:OF m)(hk:m.aJ=K)(hK:K=3∨K=4){x:Nat}{acc:List F}(h:JO K m x acc){c:F}(hc:m.aO[((x:Nat):Int).toNat]?=some c){ab ne:Int}(eab:nH K=ab)(ene:uK K=ne)
include hm hk hK h hc eab
theorem V8(ha:((bF c).aJ==ab)=true):fW K m.aO []=.mk ab 0 zP []:=by rw[<-eab]at ha⊢;exact ald hm hk hK h hc (an ha)
variable (ha:((bF c).aJ==ab)=false)
include ene ha
theorem V9(a:((bF c).aJ==ne)=true):JO K m (x+1) acc:=by rw[<-eab]at ha;rw[<-ene]at a;exact ale hm hk hK h hc (an ha) (an a)
theorem V_(a:((bF c).aJ==ne)=false)(hp:((bF c).aJ==m.aJ)=true):JI K m x (bF c).aO 0 acc:=by rw[<-eab]at ha;rw[<-ene]at a;have:=We hm hk hK h hc (an ha) (an a);unfold zC at this;rwa [aM (by rw[<-hk];simpa using hp)]at this
theorem Wa(a:((bF c).aJ==ne)=false)(hp:((bF c).aJ==m.aJ)=false):JI K m x [bF c] 0 acc:=by rw[<-eab]at ha;rw[<-ene]at a;have:=We hm hk hK h hc (an ha) (an a);unfold zC at this;rwa [Z (by rw[<-hk];simpa using hp)]at this
end
def V2{K:Int}{m:F}{x:Nat}{ps:List F}{y:Nat}{acc:List F}(h:JI K m x ps y acc){p:F}(hp:ps[(y:Int).toNat]?=some p){ab:Int}(eab:nH K=ab)(a:(!(cO K p acc).2)=true):fW K m.aO []=.mk ab 0 zP []:=by rw[<-eab];exact alb h hp (an a)
theorem V3{K:Int}{m:F}{x:Nat}{ps:List F}{y:Nat}{acc:List F}(h:JI K m x ps y acc){p:F}(hp:ps[(y:Int).toNat]?=some p)(hK:K=3\/K=4)(a:(!(cO K p acc).2)=false):JI K m x ps (y+1) (cO K p acc).1:=alc h hp hK (an a)
def Wf{K:Int}{m:F}{x:Nat}{acc:List F}(h:JO K m x acc):acc.length<=1000000000/\x<=m.aO.length:=by have u:=ED h;have:=rj acc;exact⟨O,u.1⟩
def V6{K:Int}{m:F}{x:Nat}{ps:List F}{y:Nat}{acc:List F}(h:JI K m x ps y acc):y<=ps.length/\x<m.aO.length:=⟨(Ag h).2.2.1,(Ag h).1⟩
def IT{m:F}(h:OF m):m.aO.length<=1000000000:=by have:=(E3 h).2;have a:=rj m.aO;rw[j8]at this;omega
def afH{K:Int}{m:F}{x:Nat}{ps:List F}{y:Nat}{acc:List F}(h:JI K m x ps y acc):ps.length<=1000000000:=(Ag h).2.2.2.2.2.2
theorem axT(m:F)(h:OF m)(hk:m.aJ=3)(d:∀c∈m.aO,OF c->bh 33 [wE .aP c] (eT .aP (bF c))):bh 67 [wE .aP m] (eT .aP (fW 3 m.aO [])):=by
 refine vG func67 rfl ⟨[ot Vw 33 (.el W.aP) (λ(c:F)=>c∈m.aO/\OF c) (λ(c:F)=>eT .aP (bF c)) (λc hc=>d c hc.1 hc.2)],[aeK]⟩ [(6,⟨Nat×List F,λx=>⟨[(1,br 0),(2,br 1),(3,iT 1),(4,iT 0),(5,.e (.c (.db 117 []))),(18,lT .aP m.aO),(19,iT m.aO.length),(6,.e (.c (.aX 2 W.aP x.2.length))),(20,iT x.1)],[(0,cj .aP m),(1,cj .aP zM),(2,.aW (U:=Un) W.aP x.2)],3⟩,λx=>JO 3 m x.1 x.2/\True,λx=>m.aO.length-x.1⟩),(1000017,⟨Nat×List F×Nat×List F,λx=>⟨[(1,br 0),(2,br 1),(3,iT 1),(4,iT 0),(5,.e (.c (.db 117 []))),(18,lT .aP m.aO),(19,iT m.aO.length),(6,.e (.c (.aX 2 W.aP x.2.2.2.length))),(20,iT x.1),(44,lT .aP x.2.1),(45,iT x.2.1.length),(46,iT x.2.2.1)],[(0,cj .aP m),(1,cj .aP zM),(2,.aW (U:=Un) W.aP x.2.2.2)],3⟩,λx=>JI 3 m x.1 x.2.1 x.2.2.1 x.2.2.2/\True,λx=>x.2.1.length-x.2.2.1⟩)] ?_;repeat' (first
  |exact(jk3 hk ‹(m.aJ==4)=true›).elim
  |((with_reducible show mt _ _ _ _ _);(conv=>whnf);(fail_if_success with_reducible show mt _ _ _ _ _))
  |intro _|apply aQ
  |refine @aS (Nat×List F) _ (0,[]) (aQ ?_ λ(x:Nat×List F)(hx:JO 3 m x.1 x.2/\True)=>?_)
  |refine @aS (Nat×List F×Nat×List F->Prop) _ (λb=>b.1=x.1) (@aS (Nat×List F×Nat×List F) _ (x.1,?_,0,x.2) (aQ ?_ λ(y:Nat×List F×Nat×List F)(a:JI 3 m y.1 y.2.1 y.2.2.1 y.2.2.2/\True)(f:y.1=x.1)=>?_))
  |refine @aS (Nat×List F×Nat×List F) _ (y.1,y.2.1,y.2.2.1+1,?_) ?_
  |refine @aS (Nat×List F) _ (y.1+1,y.2.2.2) ?_
  |refine @aS (Nat×List F) _ (x.1+1,x.2) ?_
  |fail)
 all_goals(try clear d)
 all_goals(try simp only[bz,fI]at*)
 all_goals first| (with_reducible first|show Int|show List J|show List F|show Nat)|exact bj|with_reducible rfl|omega|with_reducible exact V7 h _|exact bM Y|exact NH h hk (.inl rfl) hx.1 Y|rw[V8 h hk (.inl rfl) hx.1 Y rfl Y]<;>rfl|exact V9 h hk (.inl rfl) hx.1 Y rfl rfl Y Y|simp only[bz,fI]at*;exact V_ h hk (.inl rfl) hx.1 Y rfl rfl Y Y Y|simp only[bz,fI]at*;exact Wa h hk (.inl rfl) hx.1 Y rfl rfl Y Y Y|exact V5 a.1 Y|rw[V2 a.1 Y rfl Y]<;>rfl|simp only[bz,fI]at*;exact V3 a.1 Y (.inl rfl) Y|exact V4 a.1 Y|rw[Wb hx.1 Y Y]<;>rfl|rw[Wc hx.1 Y Y Y]|(rw[Wd hx.1 Y Y Y];first|done|rfl|exact hk)|have g:=Wf hx.1;have i:=IT h;simp only[be,bc,gQ,jJ,iI]at*;omega|have g:=V6 a.1;have i:=IT h;have g3:=afH a.1;simp only[be,bc]at*;omega|rfl
theorem axU(m:F)(h:OF m)(hk:m.aJ=4)(d:∀c∈m.aO,OF c->bh 33 [wE .aP c] (eT .aP (bF c))):bh 67 [wE .aP m] (eT .aP (fW 4 m.aO [])):=by
 refine vG func67 rfl ⟨[ot Vw 33 (.el W.aP) (λ(c:F)=>c∈m.aO/\OF c) (λ(c:F)=>eT .aP (bF c)) (λc hc=>d c hc.1 hc.2)],[aeK]⟩ [(6,⟨Nat×List F,λx=>⟨[(1,br 0),(2,br 1),(3,iT 0),(4,iT 1),(5,.e (.c (.db 118 []))),(18,lT .aP m.aO),(19,iT m.aO.length),(6,.e (.c (.aX 2 W.aP x.2.length))),(20,iT x.1)],[(0,cj .aP m),(1,cj .aP zM),(2,.aW (U:=Un) W.aP x.2)],3⟩,λx=>JO 4 m x.1 x.2/\True,λx=>m.aO.length-x.1⟩),(1000017,⟨Nat×List F×Nat×List F,λx=>⟨[(1,br 0),(2,br 1),(3,iT 0),(4,iT 1),(5,.e (.c (.db 118 []))),(18,lT .aP m.aO),(19,iT m.aO.length),(6,.e (.c (.aX 2 W.aP x.2.2.2.length))),(20,iT x.1),(44,lT .aP x.2.1),(45,iT x.2.1.length),(46,iT x.2.2.1)],[(0,cj .aP m),(1,cj .aP zM),(2,.aW (U:=Un) W.aP x.2.2.2)],3⟩,λx=>JI 4 m x.1 x.2.1 x.2.2.1 x.2.2.2/\True,λx=>x.2.1.length-x.2.2.1⟩)] ?_;repeat' (first
  |exact(jk4 hk ‹(m.aJ==4)=false›).elim
  |((with_reducible show mt _ _ _ _ _);(conv=>whnf);(fail_if_success with_reducible show mt _ _ _ _ _))
  |intro _|apply aQ
  |refine @aS (Nat×List F) _ (0,[]) (aQ ?_ λ(x:Nat×List F)(hx:JO 4 m x.1 x.2/\True)=>?_)
  |refine @aS (Nat×List F×Nat×List F->Prop) _ (λb=>b.1=x.1) (@aS (Nat×List F×Nat×List F) _ (x.1,?_,0,x.2) (aQ ?_ λ(y:Nat×List F×Nat×List F)(a:JI 4 m y.1 y.2.1 y.2.2.1 y.2.2.2/\True)(f:y.1=x.1)=>?_))
  |refine @aS (Nat×List F×Nat×List F) _ (y.1,y.2.1,y.2.2.1+1,?_) ?_
  |refine @aS (Nat×List F) _ (y.1+1,y.2.2.2) ?_
  |refine @aS (Nat×List F) _ (x.1+1,x.2) ?_
  |fail)
 all_goals(try clear d)
 all_goals(try simp only[bz,fI]at*)
 all_goals first| (with_reducible first|show Int|show List J|show List F|show Nat)|exact bj|with_reducible rfl|omega|with_reducible exact V7 h _|exact bM Y|exact NH h hk (.inr rfl) hx.1 Y|rw[V8 h hk (.inr rfl) hx.1 Y rfl Y]<;>rfl|exact V9 h hk (.inr rfl) hx.1 Y rfl rfl Y Y|simp only[bz,fI]at*;exact V_ h hk (.inr rfl) hx.1 Y rfl rfl Y Y Y|simp only[bz,fI]at*;exact Wa h hk (.inr rfl) hx.1 Y rfl rfl Y Y Y|exact V5 a.1 Y|rw[V2 a.1 Y rfl Y]<;>rfl|simp only[bz,fI]at*;exact V3 a.1 Y (.inr rfl) Y|exact V4 a.1 Y|rw[Wb hx.1 Y Y]<;>rfl|rw[Wc hx.1 Y Y Y]|(rw[Wd hx.1 Y Y Y];first|done|rfl|exact hk)|have g:=Wf hx.1;have i:=IT h;simp only[be,bc,gQ,jJ,iI]at*;omega|have g:=V6 a.1;have i:=IT h;have g3:=afH a.1;simp only[be,bc]at*;omega|rfl
def of1{m:F}(h:(m.aJ==1)=true):bF m=tM true:=by rw[LM,aM (an h)]
def of2{m:F}(a:(m.aJ==1)=false)(h:(m.aJ==2)=true):bF m=dB m.aF m.bU:=by rw[LM,Z (an a),aM (an h)]
def of3{m:F}(h:m.aJ=3\/m.aJ=4):bF m=fW m.aJ m.aO []:=by
 rw[LM];rcases h with e|e<;>rw[e,Z ae,Z ae]
 ·rw[aM rfl]
 ·rw[Z ae,aM rfl]
def of0{m:F}(a:(m.aJ==1)=false)(b:(m.aJ==2)=false)(d:(m.aJ==3)=false)(e:(m.aJ==4)=false):bF m=tM false:=by rw[LM,Z (an a),Z (an b),Z (an d),Z (an e)]
def acm{m:F}(h:(m.aJ==3)=true):m.aJ=3\/m.aJ=4:=.inl (an h)
def acn{m:F}(h:(m.aJ==4)=true):m.aJ=3\/m.aJ=4:=.inr (an h)
def axX(m:F)(h:OF m)(hk:m.aJ=3\/m.aJ=4)(a:∀c∈m.aO,OF c->bh 33 [wE .aP c] (eT .aP (bF c))):bh 67 [wE .aP m] (eT .aP (fW m.aJ m.aO [])):=by
 rcases hk with e|e
 ·rw[e];exact axT m h e a
 ·rw[e];exact axU m h e a
theorem aDJ(m:F):OF m->bh 33 [wE .aP m] (eT .aP (bF m)):=by
 generalize e:SizeOf.sizeOf m=D
 induction D using Nat.strongRecOn generalizing m
 rename_i D b;subst e;intro h;have a:∀n:F,n=m/\(m.aJ=3\/m.aJ=4)->bh 67 [wE .aP n] (eT .aP (fW n.aJ n.aO [])):=λn d=>by obtain⟨rfl,hk⟩:=d;exact axX n h hk λc hc=>b _ (F.lt hc) c rfl
 clear b;refine vF func33 rfl [Zv,FX,ot Vw 67 (.el W.aP) (λ(n:F)=>n=m/\(m.aJ=3\/m.aJ=4)) (λ(n:F)=>eT .aP (fW n.aJ n.aO [])) a] [] ?_;repeat' first|intro _|apply aQ
 all_goals(try clear a)
 all_goals(try simp only[bz,fI]at*)
 all_goals first|exact bj|with_reducible exact h.np (by simpa using‹(m.aJ==2)=true›)|exact acm Y|exact acn Y|exact absurd ‹(m.aJ==3)=true› (by rw[‹(m.aJ==3)=false›];decide)|rw[of1 Y];done|rw[of2 Y Y];done|rw[of3 (acm Y)];done|rw[of3 (acn Y)];done|rw[of0 Y Y Y Y];done
def CL:=dj (.el W.aP) aDJ
end Go.Proofs.YtfbmhjooliccnaaGreatDoor
