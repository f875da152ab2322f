/- A part of the proof of VirtualLinear: Sz to Kr. No condition. -/
import Derived.Test.YtfbmhjooliccnaaGreatDoorYk
import Derived.Lib.ItoaNum
set_option linter.all false
set_option maxRecDepth 100000
set_option maxHeartbeats 60000000
noncomputable section
namespace Go.Proofs.YtfbmhjooliccnaaGreatDoor
open Go Go.Ab Go.Ab.VS Go.Proofs.Tryz
variable {d k n v:Nat}{p q:J}{r:Int}{Q:J→Prop}{a b:F}
structure Sz(d k:Nat)(p:J):Prop where
 bR:bQ 4 p
 dl:DL d p
 nm:fh p<2^k
def BF{b:Nat}(h:d<=b):2^d<=2^b:=Ca O h
theorem Sz.up{d k e l:Nat}{p:J}(h:Sz d k p)(b:d<=e)(a:k<=l):Sz e l p:=⟨h.bR,h.dl.up b,mz h.nm (BF a)⟩
theorem Sz.zero(d k:Nat):Sz d k zP:=⟨.zero 4,.zero d,by rw[sf];exact IR k⟩
theorem Sz.const{n:Int}{k:Nat}(d:Nat)(h:n.natAbs<2^k):Sz d k (kP n):=⟨.const n,.const d n,by rw[uL];exact h⟩
def lG(p q:J):J:=lX [p,q]
def li(p:J):J:=ca p (kP (-1))
def aid(p q:J):J:=lX [p,ca q (kP (-1))]
def Sz.tx{l:Nat}(h:Sz d k p)(a:r.natAbs<2^l):Sz d (k+l) (ca p (kP r)):=by rw[zn];have I:=RD h.bR r (bK 4);refine⟨(Rz h.bR r (bK 4)).1,I.2.2 d h.dl,rL I.1 ?_⟩;rw[B_];exact IP h.nm a
def Sz.neg(h:Sz d k p):Sz d k (li p):=by unfold li;rw[zn];have I:=RD h.bR (-1) (bK 4);refine⟨(Rz h.bR (-1) (bK 4)).1,I.2.2 d h.dl,rL I.1 ?_⟩;have:=h.nm;rw[show(-1:Int).natAbs=1 from rfl];omega
def AG(h:bQ 4 p)(n:Int)(a:ay):ev a (ca p (kP n))=ev a p*n:=by rw[zn];exact(Rz h n (bK 4)).2.1 a
def Fr.tx(a:r≠0)(b:bQ 4 p)(h:Fr r p)(n:Int):Fr r (ca p (kP n)):=by rw[zn];exact(RD b n (bK 4)).2.1 r a h
def Fr.neg(a:r≠0)(b:bQ 4 p)(h:Fr r p):Fr r (li p):=h.tx a b _
def Ll(a:bQ 4 q):ca zP q=zP:=by rw[<-pC,adK a,GQ];simp[pC]
def Lk(h:bQ 4 p)(n:Int):ca (kP n) p=ca p (kP n):=by rw[adK h,zn]
def r8(h:Q p)(a:Q q):∀c∈[p,q],Q c:=λc hc=>by
 rcases da.1 hc with rfl|hc
 ·exact h
 ·rw[cL.1 hc];exact a
def Sz.add(h:Sz d k p)(a:Sz n v q):Sz (max d n) (max k v+1) (lG p q):=by have I:=anh (r8 h.bR a.bR);refine⟨ane (bK _) (r8 h.bR a.bR),I.2.2 _ (r8 (h.dl.up O) (a.dl.up O)),rL I.1 ?_⟩;have b:=mz h.nm (BF (show k<=max k v by omega));have c:=mz a.nm (BF (show v<=max k v by omega));rw[ee,ee,ee,Nat.pow_succ];omega
def xz(b:bQ 4 p)(c:bQ 4 q)(a:ay):ev a (lG p q)=ev a p+ev a q:=by unfold lG;rw[anf a (r8 b c),j7,j7,j7];grind
def y_(b:bQ 4 p)(a:ay):ev a (li p)=-ev a p:=by unfold li;rw[AG b];simp;try grind
def Z5(h:n<2^k):(cT n).length<=k:=by
 refine ur ?_;have a:2^k<=(4294967296:Nat)^k:=Nat.pow_le_pow_left O k;unfold pB;have:((4294967296:Nat)^k:Nat)=((4294967296:Int)^k):=by rw[B0];rfl
 omega
def Sz.G3:∀{L:Nat}{p:J},bQ L p->L<=4->DL d p->fh p<2^k->d<=1000->jT k p:=by
 intro L p h
 induction h with
 |const n=>intro _ _ a _;rw[uL]at a;exact .mk _ _ _ _ (Z5 a) (iv n) (dz _) λc b=>by simp at b
 |node m g i o q r s j=>intro t e a f;have l:=e.len;change g.length<=d+1 at l;rw[tA _ i O]at a;refine .mk _ _ _ _ (dz _) (λd e=>by simp at e) O λc b=>j c b O (e.bu c b) (rL (Dy b) a) f
def aBa:∀{L:Nat}{p:J},bQ L p->DL d p->nP p<=(d+2)^L:=by
 intro L p h
 induction h with
 |const n=>intro _;have:0<(d+2)^(by assumption:Nat):=Nat.pow_pos O;exact this
 | @node L a b v k w y z o=>
   intro f;have g:=f.len;change b.length<=d+1 at g;have q:∀c∈b,nP c<=(d+2)^(a-1):=λc i=>o c i (f.bu c i)
   have:∀l:List J,(∀c∈l,nP c<=(d+2)^(a-1))->iR l<=l.length*(d+2)^(a-1):=by
    intro l
    induction l with
    |nil=>intro _;rw[GW];omega
    |cons c r e=>
     intro j;have A:=j c (b6 ..);have B:=e λx s=>j x (cv _ s)
     rw[xL,fZ,iN];omega
   have C:=this b q;rw[nP];have D:b.length*(d+2)^(a-1)<=(d+1)*(d+2)^(a-1):=jS _ g;have E:1<=(d+2)^(a-1):=Nat.pow_pos O;have G:(d+2)^a<=(d+2)^L:=Ca O k;have t:(d+2)^a=(d+2)*(d+2)^(a-1):=by obtain⟨m,rfl⟩:∃m,a=m+1:=⟨a-1,O⟩;rw[yE,Nat.pow_succ,E2]
   have u:(d+2)*(d+2)^(a-1)=(d+1)*(d+2)^(a-1)+(d+2)^(a-1):=by rw[<-rN]
   omega
def Lo(a:d<=12)(h:bQ 4 p)(b:DL d p):nP p<=38416:=by have:=aBa h (b.up a);exact this
def Sz.np(h:Sz d k p)(a:d<=12)(c:k<=100000):b8 p:=by have b:=Sz.G3 h.bR (bK _) h.dl h.nm O;have e:=Lo a h.bR h.dl;unfold b8;exact⟨b.up O,O⟩
def Sz.sn(h:Sz d k p)(b:d<=12)(c:k<=100000):Sz d k (eQ p):=by
 obtain⟨z,a⟩:=Bt (h.np b c);have e:cY p=p:=by rw[vz,aM (FG h.bR)]
 exact⟨a.bR,a.dl d (by rw[e];exact h.dl),rL a.nm h.nm⟩
def Sz.cB(h:Sz d k p)(a:d<=12)(b:k<=100000):dT p=p:=by rw[sh (h.np a b),vz,aM (FG h.bR)]
def awz(h:Sz d k p)(b:d<=12)(c:k<=100000)(e:1<=v)(a:v<=4)(f:Fr v p):Fr v (eQ p):=by obtain⟨z,g⟩:=Bt (h.np b c);exact g.fr v e a f
@[irreducible] def bk(p:J)(a:Int):List J:=if cP p then []else(cC a (gh a p).toNat p).map dT
def dV(p:J)(a:Int)(i:Nat):J:=((bk p a)[i]?).getD zP
def ez(p:J)(a:Int):Int:=if cP p then-1 else gh a p
def Tf(f:d<=12)(g:k<=100000){lv:Int}{n:Nat}(h:Sz d k p):∀c∈cC lv n p,b8 c/\mS c:=λc a=>by have b:=O7 (lv:=lv) (n:=n) h.bR (bK 4);have e:=b.ok k (Sz.G3 h.bR (bK _) h.dl h.nm O) c a;have i:=b.np c a;have j:=Lo f h.bR h.dl;refine⟨?_,e.Z3⟩;unfold b8;exact⟨e.up O,O⟩
def RT(h:b8 p)(a:∀t∈cJ p ⟨0,0,0,0⟩,∀v:Nat,1<=v->v<=4->ex v t<=d)(f:gB p=true->DL d p):DL d (dT p):=by
 rw[sh h,vz];split
 ·rename_i b;exact f b
 ·refine h.tt.ON.dl d λt c v g i=>?_
  unfold dM at c;obtain⟨u,j,e⟩:=LF c;have:=a u j v g i;unfold ex at this⊢;rw[<-e];exact this
inductive RC:Nat->J->Prop where
 |const {L:Nat} (n:Int):RC L (kP n)
 |node {L:Nat} (lv:Nat) (cs:List J) (h1:1<=lv) (h2:lv<=L) (h4:∀c∈cs,RC (lv-1) c):RC L (.mk lv false [] cs)
def bQ.rc(h:bQ d p):RC d p:=by
 induction h with
 |const n=>exact .const n
 |node a b c e g i j f=>exact .node a b c e f
def RC.zero(L:Nat):RC L zP:=by rw[<-pC];exact .const 0
def RC.mono(h:RC d p)(f:d<=k):RC k p:=by
 cases h with
 |const n=>exact .const n
 |node a b c g e=>exact .node a b c O e
def RC.fr(h:RC d p)(e:d<v):Fr v p:=by
 induction h with
 |const n=>exact .const O n
 |node f g i j k a=>exact .mk _ _ _ _ O λc b=>a c b O
def aFB:∀{L:Nat}{p:J},RC L p->L<=4->DL d p->∀(q:bf)(t),t∈cJ p q->∀v:Nat,1<=v->v<=4->cg t.mono v<=cg q v+d:=by
 intro L p h
 induction h with
 |const n=>intro _ _ q t b v _ _;unfold kP at b;rw[cJ,aM ae,cL]at b;subst b;show cg q v<=_;omega
 | @node L m o u w r s=>
   intro x i q t b v f a;rw[cJ,Z O,Z O]at b;obtain⟨j,c,k,l⟩:=AA b;have g:=bM k;by_cases e:v=m
   ·subst e;have:=vB v f a c _ ((r c g).fr O) t l;rw[this,qi f a O O,aM rfl];have:=(du.1 k).1;have:=i.len;change o.length<=d+1 at this;omega
   ·have:=s c g O (i.bu c g) _ t l v f a;rw[qi f a O O,Z O]at this;exact this
def aq4:∀{L:Nat}{p:J},bQ L p->L<=4->1<=d->∀c∈cC d n p,RC L c:=by
 intro L p h
 induction h with
 | @const L z=>
   intro j b c hc;rw[FO,aM O]at hc;rcases da.1 hc with rfl|hc
   ·exact .const z
   ·rw[rI hc];exact .zero _
 | @node L m k e f l g o q=>
   intro j b c hc;rw[xx]at hc;split at hc
   ·rcases da.1 hc with rfl|hc
    ·exact(bQ.node m k e f l g o).rc
    ·rw[rI hc];exact .zero _
   ·split at hc
    ·rcases cq.1 hc with hc|hc
     ·exact(g c (nE hc)).rc.mono O
     ·rw[rI hc];exact .zero _
    ·obtain⟨i,r,rfl⟩:=b_.1 hc;refine .node m _ e f λc hc=>?_
     obtain⟨a,s,rfl⟩:=b_.1 hc;have hlen:=kE d n a;rw[cN (by have:=oZ.1 r;omega)];exact q a s O b _ (tZ _)
def aFC(h:b8 p)(f:RC 4 p)(a:DL d p)(g:fh p<2^k):Sz d k (dT p):=by
 have b:=s7 h;have e:=sh h;refine⟨by rw[e];exact b.bR,RT h (λt i v j l=>?_) λ_=>a,by rw[e];exact rL b.nm g⟩;have:=aFB f (bK _) a _ t i v j l;unfold ex;have m:cg ⟨0,0,0,0⟩ (v:Int)=0:=by have:v=1\/v=2\/v=3\/v=4:=O;rcases this with rfl|rfl|rfl|rfl<;>rfl
 omega
def wj{c:J}(h:b8 c)(a:ay):ev a (dT c)=ev a c:=by rw[sh h,(s7 h).ev]
def RY(h:b8 p)(a:1<=v)(b:v<=4)(d:Fr v p):Fr v (dT p):=by rw[sh h];exact(s7 h).fr v a b d
def PM{lv:Nat}(h:bQ 4 p)(b:1<=lv):0<=gh lv p:=by
 rw[JX];split
 ·omega
 ·split
  ·rename_i e;cases h with
   |const n=>change (0:Int)=lv at e;omega
   |node m a c d f g i=>show(0:Int)<=(a.length:Int)-1;omega
  ·exact ZZ _ _
structure aj4(d k:Nat)(p:J)(lv:Nat):Prop where
 sz:∀c∈bk p lv,Sz d k c
 frl:∀c∈bk p lv,Fr lv c
 fr:∀v:Nat,1<=v->v<=4->Fr v p->∀c∈bk p lv,Fr v c
 ev:∀ρ y,ev (up ρ lv y) p=dy ρ y (bk p lv)
 len:cP p=false->((bk p lv).length:Int)=gh lv p+1
 ac3:cP p=true->bk p lv=[]
theorem aaI{a:ay}{x:Rat}{f:J->J}:∀{l:List J},(∀c∈l,ev a (f c)=ev a c)->dy a x (l.map f)=dy a x l
 |[],_=>rfl
 |c::r,h=>by rw[de,dy,dy,h c (b6 ..),aaI λd b=>h d (cv _ b)]
def YG(h:Sz d k p)(s:d<=12)(t:k<=100000){lv:Nat}(m:1<=lv)(r:lv<=4):aj4 d k p lv:=by
 cases j:cP p with
 |true=>
  have e:bk p lv=[]:=by unfold bk;rw[aM j]
  refine⟨λc a=>?_,λc a=>?_,λv _ _ _ c a=>?_,λo y=>?_,λh=>?_,λ_=>e⟩
  ·rw[e]at a;simp at a
  ·rw[e]at a;simp at a
  ·rw[e]at a;simp at a
  ·rw[e,dy,y7 h.bR j,jW]
  ·rw[j]at h;cases h
 |false=>
  have e:bk p lv=(cC lv (gh lv p).toNat p).map dT:=by unfold bk;rw[Z (by simp[j])]
  have x:=PM h.bR m;have l:=aq3 m r (n:=(gh lv p).toNat) h.bR (bK 4) O;have i:=O7 (lv:=lv) (n:=(gh lv p).toNat) h.bR (bK 4);have f:=λc a=>(Tf s t (lv:=lv) (n:=(gh lv p).toNat) h c a).1
  refine⟨λc a=>?_,λc a=>?_,λv u q w c a=>?_,λo y=>?_,λ_=>?_,λh=>?_⟩
  ·rw[e]at a;obtain⟨g,b,rfl⟩:=b_.1 a;exact aFC (f g b) (aq4 h.bR (bK 4) m g b) (i.dl d h.dl g b) (rL (i.nm g b) h.nm)
  ·rw[e]at a;obtain⟨g,b,rfl⟩:=b_.1 a;exact RY (f g b) m r (l.fr g b)
  ·rw[e]at a;obtain⟨g,b,rfl⟩:=b_.1 a;exact RY (f g b) u q (i.fr v O w g b)
  ·rw[e,aaI λc a=>wj (f c a) o];exact l.ev o y
  ·rw[e,eh,kE];omega
  ·rw[j]at h;cases h
def aqU(h:Sz d k p)(i:d<=12)(j:k<=100000)(l:1<=v)(o:v<=4)(q:1<=n)(a:gh v p=n):cP (dV p v n)=false:=by
 have f:cP p=false:=by
  cases f:cP p with
  |false=>rfl
  |true=>rw[y7 h.bR f,<-pC,PL,aM O]at a;omega
 obtain⟨c,b,g⟩:=aqY l o q h.bR (bK _) a;obtain⟨m,r,_⟩:=g ⟨0,0,0,0⟩;have e:bk p v=(cC v n p).map dT:=by unfold bk;rw[Z (by simp[f]),a];rfl
 unfold dV;rw[e,eC,b];exact aq_ (Tf i j h c (bM b)).1 r
def Fr.y6(h:Fr r p):gh r p<=0:=by
 induction h with
 |mk l n a f h j g=>
  rw[F4];split
  ·omega
  ·have:∀b:List J,(∀c∈b,gh r c<=0)->iW r b<=0:=by
    intro b
    induction b with
    |nil=>intro _;rw[iW];omega
    |cons c b d=>
     intro e;have k:=e c (b6 ..);have m:=d λx i=>e x (cv _ i)
     rw[iW];omega
   exact this f g
def Fr.vd(h:Fr r p):ez p r<=0:=by unfold ez;split;omega;exact h.y6
def fV(a:ay)(p:J)(b:Int)(i:Nat):Rat:=ev a (dV p b i)
def O6(h:Sz d k p)(e:d<=12)(f:k<=100000)(g:1<=n)(j:n<=4)(i:Nat):Sz d k (dV p n i)/\Fr n (dV p n i):=by
 have a:=YG h e f g j;unfold dV;cases b:(bk p n)[i]? with
 |none=>exact⟨.zero d k,.zero O⟩
 |some c=>exact⟨a.sz c (bM b),a.frl c (bM b)⟩
def qj(b:List J)(a:Int):J:=dT (.mk a false [] b)
def aCj:∀{l:List J}{j:Nat},(∀c∈l,fh c<2^k)->l.length<=2^j->ee l<2^(k+j):=by
 intro l j h b;have:∀l:List J,(∀c∈l,fh c<2^k)->ee l+l.length<=l.length*2^k:=by
  intro l
  induction l with
  |nil=>intro _;rw[ee];simp
  |cons c r d=>
   intro a;have i:=a c (b6 ..);have m:=d λx e=>a x (cv _ e)
   rw[ee,fZ,iN];omega
 have f:=this l h;have g:l.length*2^k<=2^j*2^k:=jS _ b;have n:2^(k+j)=2^j*2^k:=by rw[B_,E2]
 cases l with
 |nil=>rw[ee];exact IR _
 |cons c r=>rw[fZ]at f g;simp only[fZ]at*;omega
def ack(o:d<=12)(L:k<=90000){cs:List J}(z:1<=n)(A:n<=4)(E:cs.length<=d+1)(h:∀c∈cs,Sz d k c)(B:∀c∈cs,Fr n c):
 b8 (.mk n false [] cs)/\(∀i y,ev (up i n y) (qj cs n)=dy i y cs)/\(gB (.mk n false [] cs)=true->qj cs n=.mk n false [] cs)/\(∀v:Nat,1<=v->v<=4->v≠n->(∀c∈cs,Fr v c)->Fr v (qj cs n))/\Sz d (k+4) (qj cs n):=by
 have a:b8 (.mk n false [] cs):=by
  unfold b8;refine⟨.mk _ _ _ _ (dz _) (λd o=>by simp at o) O λc f=>(Sz.G3 (h c f).bR (bK _) (h c f).dl (h c f).nm O).up O,?_⟩;have:∀l:List J,(∀c∈l,Sz d k c)->iR l<=l.length*38416:=by
   intro l
   induction l with
   |nil=>intro _;rw[GW];omega
   |cons c r p=>
    intro q;have M:=Lo o (q c (b6 ..)).bR (q c (b6 ..)).dl;have N:=p λx G=>q x (cv _ G)
    rw[xL,fZ];omega
  have:=this cs h;rw[nP];omega
 have f:=s7 a;refine⟨a,λi y=>?_,λs=>?_,λv g b H u=>?_,?_,?_,?_⟩
 ·unfold qj;rw[wj a,ph _ _ z A,M0,Gb (σ:=i) λc f=>(B c f).ev i y]
 ·unfold qj;rw[sh a,vz,aM s]
 ·exact RY a g b (.mk _ _ _ _ O u)
 ·unfold qj;rw[sh a];exact f.bR
 ·unfold qj;refine RT a (λt C v g b=>?_) λ_=>.mk _ _ _ _ E λc f=>(h c f).dl
  rw[cJ,Z O,Z O]at C;obtain⟨j,c,D,m⟩:=AA C;have w:=bM D;have P:cg ⟨0,0,0,0⟩ (v:Int)=0:=by have:v=1\/v=2\/v=3\/v=4:=O;rcases this with rfl|rfl|rfl|rfl<;>rfl
  have K:cg ⟨0,0,0,0⟩ (n:Int)=0:=by have:n=1\/n=2\/n=3\/n=4:=O;rcases this with rfl|rfl|rfl|rfl<;>rfl
  unfold ex;by_cases e:v=n
  ·subst e;have:=vB v g b c _ (B c w) t m;rw[this,qi g b O O,aM rfl];have:=(du.1 D).1;omega
  ·have:=YS (h c w).bR (bK 4) (h c w).dl _ t m v g b;rw[qi g b O O,Z O]at this;omega
 ·unfold qj;rw[sh a];refine rL f.nm ?_;rw[tA _ z A];exact aCj (λc f=>(h c f).nm) O
def df(l:List F):F:=.mk 3 0 zP l
def kq(l:List F):F:=.mk 4 0 zP l
def uo(r:Int):Int:=if r=1 then 5 else if r=2 then 6 else if r=4 then 3 else if r=5 then 1 else if r=6 then 2 else 4
mutual
def dS:F->F
 |.mk k r p a=>if k=1 then .mk 0 0 zP []else if k=2 then .mk 2 (uo (jN r)) (dT p) []else if k=3\/k=4 then .mk (7-k) 0 zP (uN a)else .mk 1 0 zP []
def uN:List F->List F
 |[]=>[]
 |m::r=>dS m::uN r
end
theorem RZ:∀l,uN l=l.map dS
 |[]=>by rw[uN];rfl
 |m::r=>by rw[uN,RZ r];rfl
def LH(m:F):dS m=if m.aJ=1 then .mk 0 0 zP []else if m.aJ=2 then .mk 2 (uo (jN m.bU)) (dT m.aF) []else if m.aJ=3\/m.aJ=4 then .mk (7-m.aJ) 0 zP (m.aO.map dS)else .mk 1 0 zP []:=by cases m;rw[dS,RZ];rfl
def agc(r:Int):R6 (jN r):=by unfold jN R6;split<;>omega
def af6(r s:Int):rH (jN r) s=rH r s:=by
 unfold jN;split
 ·rename_i h;unfold rH;rw[Z O,Z O,Z O,Z O,Z O,Z O,Z O,Z O,Z O,Z O]
 ·rfl
def ara(h:R6 r):R6 (uo r):=by rcases h.cases with rfl|rfl|rfl|rfl|rfl|rfl<;>simp[uo,R6]
def arc(h:R6 r)(s:Int):rH (uo r) s=!rH r s:=by rcases h.cases with rfl|rfl|rfl|rfl|rfl|rfl<;>simp[uo,rH]<;>(try(rw[oV];simp))<;>(try omega)
mutual
theorem DA {R Q:J->Prop} (b:∀p,R p->b8 p/\Q (dT p)):∀{m:F},RM R m->CM Q (dS m)/\(∀a,tr a (dS m)=!tr a m)/\ba (dS m)<=ba m
 |.mk k r p q,h=>by
  cases h with
  |mk _ _ _ _ n t=>
   have s:=λi=>aet b (l:=q) i
   rw[dS]
   by_cases e:k=1
   ·rw[aM e]
    exact⟨.ff,λa=>by rw[tr,tr,aM e];rfl,by rw[ba,ba,e_];omega⟩
   rw[Z e]
   by_cases d:k=2
   ·rw[aM d]
    refine⟨.gE _ _ (ara (agc r)) (b p (n d)).2,λa=>?_,by rw[ba,ba,e_];omega⟩
    rw[tr,tr,Z ae,aM rfl,Z e,aM d,arc (agc r),af6,wj (b p (n d)).1]
   rw[Z d]
   by_cases f:k=3\/k=4
   ·rw[aM f]
    obtain⟨j,g,o,y⟩:=s (t f)
    refine⟨.node _ _ O j,λa=>?_,by rw[ba,ba];omega⟩
    rcases f with rfl|rfl
    ·rw[tr,tr,Z ae,Z ae,Z ae,aM ae,Z ae,Z ae,aM rfl,o]
    ·rw[tr,tr,Z ae,Z ae,aM ae,Z ae,Z ae,Z ae,aM rfl,g]
   ·rw[Z f]
    refine⟨.tt,λa=>?_,by rw[ba,ba,e_];omega⟩
    rw[tr,tr,aM rfl,Z e,Z d,Z O,Z O];rfl
theorem aet {R Q:J->Prop} (b:∀p,R p->b8 p/\Q (dT p)):∀{l:List F},(∀c∈l,RM R c)->(∀c∈uN l,CM Q c)/\(∀a,eV a (uN l)=!fq a l)/\(∀a,fq a (uN l)=!eV a l)/\ck (uN l)<=ck l
 |[],_=>by rw[uN];exact⟨λc hc=>by simp at hc,λa=>by rw[eV,fq];rfl,λa=>by rw[eV,fq];rfl,bK _⟩
 |m::r,h=>by
  obtain⟨j,g,o⟩:=DA b (h m (b6 ..))
  obtain⟨w,v,u,x⟩:=aet b (l:=r) λc hc=>h c (cv _ hc)
  rw[uN]
  refine⟨λc hc=>?_,λa=>?_,λa=>?_,?_⟩
  ·rcases da.1 hc with rfl|hc
   ·exact j
   ·exact w c hc
  ·rw[eV,fq,g,v,Bool.not_or]
  ·rw[eV,fq,g,u,Bool.not_and]
  ·rw[dW,dW];omega
end
def MW(a:ay)(l:List F):tr a (df l)=eV a l:=by unfold df;rw[qF a (.inl rfl)];rfl
def aiZ(a:ay)(l:List F):tr a (kq l)=fq a l:=by unfold kq;rw[qF a (.inr rfl)];rfl
def Uw(c:ay)(a b:F):tr c (df [a,b])=(tr c a&&tr c b):=by rw[MW,eV,eV,eV,H3]
def ai0(c:ay)(a b:F):tr c (kq [a,b])=(tr c a||tr c b):=by rw[aiZ,fq,fq,fq,Bool.or_false]
def CM.Ar(d:CM Q a)(e:CM Q b):CM Q (df [a,b]):=.node 3 _ (.inl rfl) λc hc=>by
 rcases da.1 hc with rfl|hc
 ·exact d
 ·rw[cL.1 hc];exact e
def CM.DI(d:CM Q a)(e:CM Q b):CM Q (kq [a,b]):=.node 4 _ (.inr rfl) λc hc=>by
 rcases da.1 hc with rfl|hc
 ·exact d
 ·rw[cL.1 hc];exact e
def MN(a b:F):ba (df [a,b])=1+(ba a+ba b):=by unfold df;rw[ba,dW,dW,e_];omega
def aiw(a b:F):ba (kq [a,b])=1+(ba a+ba b):=by unfold kq;rw[ba,dW,dW,e_];omega
def j_(l:List J):F:=df (l.map λc=>dB c 3)
def qC(r:Int):Int:=if r=2 then 1 else if r=5 then 6 else r
structure UV where
 u:J
 v:J
 pw:J
def pO(t:bw)(c:J)(last:Bool)(s:UV):UV where
 u:=lG (if cP t.b then ca s.u t.a else lG (ca s.u t.a) (ca (ca s.v t.b) t.c)) (ca c s.pw)
 v:=if cP t.b then ca s.v t.a else lG (ca s.v t.a) (ca s.u t.b)
 pw:=if last then s.pw else ca s.pw t.d
def fQ(t:bw)(a:List J):Nat->UV
 |0=>⟨zP,zP,kP 1⟩
 |k+1=>pO t ((a[a.length-1-k]?).getD zP) (decide (a.length-1-k=0)) (fQ t a k)
def il(p:J)(a:Int)(t:bw):J×J:=
 if bk p a≠[]/\(bk p a).length%2=0 then(ca (fQ t (bk p a) (bk p a).length).u t.d,ca (fQ t (bk p a) (bk p a).length).v t.d)
 else((fQ t (bk p a) (bk p a).length).u,(fQ t (bk p a) (bk p a).length).v)
def eqF(u v w:J):F:=df [dB w 3,dB (ca u v) 2]
def ac4(u v w:J):F:=kq [df [dB u 1,dB w 6],df [dB v 1,kq [dB u 1,dB w 1]]]
def leF(u v w:J):F:=kq [df [dB u 2,dB w 5],df [dB v 2,dB w 2]]
def atF(u v w:J)(r:Int):F:=
 if r=1 then ac4 u v w else if r=2 then leF u v w else if r=4 then dS (eqF u v w)else if r=5 then leF (li u) (li v) w else if r=6 then ac4 (li u) (li v) w else eqF u v w
def wP(u v c:J):J:=aid (ca u u) (ca (ca v v) c)
def lI(p:J)(r a:Int)(t:bw):F:=
 if cP (il p a t).2 then dB (il p a t).1 r else atF (il p a t).1 (il p a t).2 (wP (il p a t).1 (il p a t).2 t.c) r
def yT(a:List J)(i:Nat):J:=if i%2=1 then li ((a[i]?).getD zP)else(a[i]?).getD zP
def ui(a:List J)(r:Int):Nat->F
 |0=>dB ((a[0]?).getD zP) r
 |k+1=>kq [dB (yT a (k+1)) (qC r),df [dB (yT a (k+1)) 3,ui a r k]]
def nv(r:Int):=r=1\/r=2\/r=5\/r=6
instance (r:Int):Decidable (nv r):=by unfold nv;infer_instance
def rV(p:J)(r a:Int):F:=
 if nv r then(if bk p a=[]then dB zP r else ui (bk p a) r ((bk p a).length-1))
 else if r=4 then dS (j_ (bk p a))else j_ (bk p a)
def kF(p:J)(a:Int):J:=
 if bk p a=[]then zP else qj ((List.range ((bk p a).length-1)).map λ(i:Nat)=>ca (((bk p a)[i+1]?).getD zP) (kP ((i:Int)+1))) a
def vI(a:Int):Nat->J->List J
 |0,p=>[p]
 |f+1,p=>if 0<ez p a then p::vI a f (kF p a)else [p]
def ug(r a:Int)(t:bw):List J->F
 |[]=>.mk 0 0 zP []
 |[d]=>lI d r a t
 |d::e::rest=>kq [lI d (qC r) a t,df [lI d 3 a t,ug r a t (e::rest)]]
def uh(p:J)(r a:Int)(t:bw):F:=
 if nv r then ug r a t (vI a 3 p)else if r=4 then dS (j_ (bk p a))else j_ (bk p a)
def oP(p:J)(r a:Int)(t:bw):F:=if t.aJ=1 then rV p r a else if t.aJ=2 then lI p r a t else uh p r a t
mutual
def fG (a:Int) (t:bw):F->F
 |.mk k r p b=>if k=2 then oP p r a t else if k=3\/k=4 then .mk k 0 zP (nK a t b)else .mk k r p b
def nK (a:Int) (t:bw):List F->List F
 |[]=>[]
 |m::r=>fG a t m::nK a t r
end
theorem Xv(a:Int)(t:bw):∀l,nK a t l=l.map (fG a t)
 |[]=>by rw[nK];rfl
 |m::r=>by rw[nK,Xv a t r];rfl
def aFD(p:J)(a:Int):J:=if bk p a=[]then zP else qj (bk p a).dropLast a
def pD(p:J)(a:Int)(b:F):bw:=⟨2,li (dV p a 0),kP 0,kP 0,dV p a 1,bF (df [b,dB (dV p a 1) 4])⟩
def Hn(a b c:J):J:=aid (ca b b) (ca (ca a c) (kP 4))
def Kq(a b c:J):F:=bF (df [dB a 4,dB (Hn a b c) 5])
def aFm(a b c:J):List bw:=
 if(Kq a b c).aJ=0 then []else
 if cP (Hn a b c)then [⟨2,li b,kP 0,Hn a b c,ca a (kP 2),Kq a b c⟩]
 else [⟨2,li b,kP (-1),Hn a b c,ca a (kP 2),Kq a b c⟩,⟨2,li b,kP 1,Hn a b c,ca a (kP 2),Kq a b c⟩]
def aFn(p:J)(a:Int):List bw:=aFm (dV p a 2) (dV p a 1) (dV p a 0)
def gK(p:J)(a:Int):List bw:=
 if ez p a<1 then []else if ez p a=1 then [pD p a (.mk 1 0 zP [])]
 else aFn p a++(if(dV p a 2).aK≠0/\ez (aFD p a) a=1 then [pD p a (dB (dV p a 2) 3)]else [])
def jY(r:Int)(t:bw):bw:=if r=1\/r=4\/r=6 then⟨3,t.a,t.b,t.c,t.d,t.g⟩else t
structure PS where
 eZ:List bw
 nR:List ByteArray
def jX(s:az)(l:List ByteArray):Bool:=l.any λt=>t.toList==s.toList
def p9(a:bw->ByteArray)(t:bw)(s:PS):PS:=if jX (a t) s.nR then s else⟨s.eZ++[t],s.nR++[a t]⟩
def p_(a:bw->ByteArray)(r:Int):List bw->PS->PS
 |[],s=>s
 |t::l,s=>p_ a r l (p9 a (jY r t) s)
mutual
def oT (a:bw->ByteArray) (b:Int):F->PS->PS
 |.mk k r p c,s=>if k=3\/k=4 then oe a b c s else if k=2 then p_ a r (gK p b) s else s
def oe (a:bw->ByteArray) (b:Int):List F->PS->PS
 |[],s=>s
 |m::r,s=>oe a b r (oT a b m s)
end
def v8:bw:=⟨1,zP,zP,zP,zP,.mk 1 0 zP []⟩
def jM(a:bw->ByteArray)(m:F)(b:Int):List bw:=(oT a b m ⟨[v8],[]⟩).eZ
def qW(m:F)(b:Int):List bw->List F->F
 |[],a=>bF (kq a)
 |t::r,a=>
  if(bF (df [t.g,fG b t m])).aJ=1 then .mk 1 0 zP []
  else qW m b r (if(bF (df [t.g,fG b t m])).aJ≠0 then a++[bF (df [t.g,fG b t m])]else a)
def jI(b:bw->ByteArray)(m:F)(a:Int):F:=qW m a (jM b m a) []
def fJ(m:F)(a:Int):Bool:=(dY m).any λp=>decide (0<ez p a)
def mG(b:bw->ByteArray)(a:Int):Nat->F->F
 |0,m=>m
 |f+1,m=>
  if fJ m a=false then m
  else if m.aJ=4 then bF (kq (m.aO.map (mG b a f)))
  else if m.aJ=3 then
   (match m.aO.filter (λc=>fJ c a)with
   |[c]=>if c.aJ=4 then bF (df (m.aO.filter (λc=>!fJ c a)++[mG b a f c]))else bF (df (m.aO.filter (λc=>!fJ c a)++[jI b (df [c]) a]))
   |inner=>bF (df (m.aO.filter (λc=>!fJ c a)++[jI b (df inner) a])))
  else jI b m a
def oW(a:bw->ByteArray)(m:F)(b:Int):F:=mG a b (ba (bF m)) (bF m)
def wN(a:bw->ByteArray)(m:F)(b:Int):F:=bF (dS (oW a (dS m) b))
structure SF(d k:Nat)(lv:Int)(p:J):Prop where
 sz:Sz d k p
 fr:Fr lv p
def GA(a:Int)(p:J):=SF 12 60000 a p
theorem GA.np{a:Int}{p:J}(h:GA a p):b8 p:=h.sz.np O O
theorem GA.sn{a:Nat}(c:1<=a)(b:a<=4){p:J}(h:GA a p):GA a (eQ p):=⟨h.sz.sn O O,awz h.sz O O c b h.fr⟩
def GA.at(a:1<=d)(b:d<=4)(h:GA d p)(r:Int):CM (GA d) (dB p r):=Oy (h.sn a b) r
def rH1(x:Rat):rH 1 (dx x)=true↔x<0:=by rcases pM x with⟨h,e⟩|⟨h,e⟩|⟨h,e⟩<;>rw[e]<;>simp[rH]<;>grind
def rH2(x:Rat):rH 2 (dx x)=true↔x<=0:=by rcases pM x with⟨h,e⟩|⟨h,e⟩|⟨h,e⟩<;>rw[e]<;>simp[rH]<;>grind
def rH3(x:Rat):rH 3 (dx x)=true↔x=0:=by rcases pM x with⟨h,e⟩|⟨h,e⟩|⟨h,e⟩<;>rw[e]<;>simp[rH]<;>grind
def rH4(x:Rat):rH 4 (dx x)=true↔x≠0:=by rcases pM x with⟨h,e⟩|⟨h,e⟩|⟨h,e⟩<;>rw[e]<;>simp[rH]<;>grind
def rH5(x:Rat):rH 5 (dx x)=true↔0<=x:=by rcases pM x with⟨h,e⟩|⟨h,e⟩|⟨h,e⟩<;>rw[e]<;>simp[rH]<;>grind
def rH6(x:Rat):rH 6 (dx x)=true↔0<x:=by rcases pM x with⟨h,e⟩|⟨h,e⟩|⟨h,e⟩<;>rw[e]<;>simp[rH]<;>grind
def aHY(h:nv r){z:Int}(a:z≠0):rH (qC r) z=rH r z:=by rcases h with rfl|rfl|rfl|rfl<;>simp[qC,rH]<;>omega
end Go.Proofs.YtfbmhjooliccnaaGreatDoor
namespace Go.Proofs.YtfbmhjooliccnaaGreatDoor
open Go Go.Ab Go.Proofs.Tryz
variable {m c:F}{s t:az}{l:List ByteArray}{i:Nat}{R:Int}{b:Bool}
def ct0(f:FuncId)(R:ST Un)(h:lW prog f [] R.aI):Ct prog Un where
 f:=f
 run args K:=match args with|[]=>K R|_=>False
 ok args K hr:=by
  split at hr
  ·exact⟨R,h,hr⟩
  ·cases hr
def aJ2:bh 131 [] (lT .eU tN):=by
 refine vF func131 rfl [] [] ?_;repeat' first|intro _|apply aQ
 all_goals first|exact bj|rfl
def asW:Ct prog Un:=ct0 131 (lT .eU tN) aJ2
@[irreducible] def Fq(s:az)(i:Nat):Int:=(s.data.toList.getD i 0).toNat
def X8(s:az)(i:Nat):((s.data.toList.getD (i:Int).toNat 0).toNat:Int)=Fq s i:=by unfold Fq;rw[bt]
def um(i:Nat)(c:Int):=(97<=c/\c<=122)\/(65<=c/\c<=90)\/c=95\/(0<i/\48<=c/\c<=57)
instance (i:Nat) (c:Int):Decidable (um i c):=by unfold um;infer_instance
@[irreducible] def s8(s:az)(i:Nat):=∀j,j<i->um j (Fq s j)
def Yw(s:az):s8 s 0:=by unfold s8;intro j h;omega
def Yx(h:s8 s i)(a:um i ((s.data.toList.getD (i:Int).toNat 0).toNat:Int)):s8 s (i+1):=by
 rw[X8]at a;unfold s8 at*;intro j b;by_cases e:j=i
 ·subst e;exact a
 ·exact h j O
@[irreducible] def lm(s:az):Bool:=decide (1<=s.size/\s.size<=16)&&(!ie tN s&&(List.range s.size).all λi=>decide (um i (Fq s i)))
def aeY(h:(s.size:Int)<1\/16<(s.size:Int)):false=lm s:=by unfold lm;rw[rX O];rfl
def ae0(h:ie tN s=true):false=lm s:=by unfold lm;rw[h];simp
def aeX(a:i<s.size)(h:¬um i ((s.data.toList.getD (i:Int).toNat 0).toNat:Int)):false=lm s:=by
 rw[X8]at h;unfold lm;have:((List.range s.size).all λi=>decide (um i (Fq s i)))=false:=by rw[List.all_eq_false];exact⟨i,by simpa using a,by simpa using h⟩
 rw[this];simp
def ae1(c:1<=(s.size:Int))(d:(s.size:Int)<=16)(a:ie tN s=false)(e:s.size<=i)(h:s8 s i):true=lm s:=by
 unfold lm;rw[qd O,a]
 symm
 simp only[sC,wQ,eW,be];unfold s8 at h;intro j b;exact h j (by rw[oZ]at b;omega)
def wd:ie tN s=((⟨#[116,114,117,101]⟩:az).toList==s.toList||((⟨#[102,97,108,115,101]⟩:az).toList==s.toList||((⟨#[97,110,100]⟩:az).toList==s.toList||((⟨#[111,114]⟩:az).toList==s.toList||((⟨#[110,111,116]⟩:az).toList==s.toList||((⟨#[105,109,112,108,105,101,115]⟩:az).toList==s.toList||((⟨#[105,102,102]⟩:az).toList==s.toList||((⟨#[102,111,114,97,108,108]⟩:az).toList==s.toList||((⟨#[101,120,105,115,116,115]⟩:az).toList==s.toList||false))))))))):=by unfold ie tN;rfl
def aDO(s:az):bh 82 [wS s] (bT (lm s)):=by
 refine vF func82 rfl [asW,ar3] [(4,⟨Nat,λx=>⟨[(0,.e (.c (.d (.sc (.string s))))),(3,iT x)],[],0⟩,λx=>x<=s.size/\1<=(s.size:Int)/\(s.size:Int)<=16/\ie tN s=false/\s8 s x,λx=>s.size-x⟩)] ?_;repeat' first|intro _|apply aQ|refine aS 0 (aQ ?_ λ(x:Nat) (a:x<=s.size/\1<=(s.size:Int)/\(s.size:Int)<=16/\ie tN s=false/\s8 s x)=>?_)|refine aS (x+1) ?_
 all_goals first|exact bj| (with_reducible first|rfl|exact Yw s)|exact absurd ‹(!true)=true› ae|rename_i h;with_reducible exact ae0 h|refine aeY ?_;simp only[be,bc,yi,rA,sC,gQ,jJ,iI]at*;omega|refine aeX (i:=x) ?_ ?_ <;>simp only[be,bc,yi,rA,sC,gQ,jJ,iI]at* <;>(try unfold um)<;>omega|refine Yx a.2.2.2.2 ?_;simp only[be,bc,yi,rA,sC,gQ,jJ,iI]at*;unfold um;omega|refine ae1 a.2.1 a.2.2.1 a.2.2.2.1 ?_ a.2.2.2.2;simp only[be,bc,yi,rA,sC,gQ,jJ,iI]at*;omega| (with_reducible first|exact a.2.1|exact a.2.2.1|exact a.2.2.2.1)|rename_i h;with_reducible exact h|simp only[be,bc,yi,rA,sC,gQ,jJ,iI]at*;(try have:=a.1);(try have:=a.2.2.1);omega
def asr:=dj (.eU) λs (_:True)=>aDO s
def sY{a b:List UInt8}{c:Bool}(h:(a==b)=c):(b==a)=c:=by rw[<-h,Bool.beq_comm]
def xO(i:Nat)(a:tN[i]?=some t)(h:(s.toList==t.toList)=true):false=lm s:=by refine ae0 ?_;unfold ie;exact rF.2 ⟨t,bM a,sY h⟩
def aDP(a:(s.toList==(⟨#[116,114,117,101]⟩:az).toList)=false)(b:(s.toList==(⟨#[102,97,108,115,101]⟩:az).toList)=false)(c:(s.toList==(⟨#[97,110,100]⟩:az).toList)=false)(d:(s.toList==(⟨#[111,114]⟩:az).toList)=false)(e:(s.toList==(⟨#[110,111,116]⟩:az).toList)=false)(f:(s.toList==(⟨#[105,109,112,108,105,101,115]⟩:az).toList)=false)(g:(s.toList==(⟨#[105,102,102]⟩:az).toList)=false)(h:(s.toList==(⟨#[102,111,114,97,108,108]⟩:az).toList)=false)(i:(s.toList==(⟨#[101,120,105,115,116,115]⟩:az).toList)=false):ie tN s=false:=by rw[wd,sY a,sY b,sY c,sY d,sY e,sY f,sY g,sY h,sY i];rfl
def aDQ(a:i<=s.size/\1<=(s.size:Int)/\(s.size:Int)<=16/\s8 s i)(b:decide ((i:Int)<(s.size:Int))=false)(c:ie tN s=false):true=lm s:=by simp only[bc]at b;exact ae1 a.2.1 a.2.2.1 c O a.2.2.2
def aDN(s:az):bh 132 [wS s] (bT (lm s)):=by
 refine vF func132 rfl [] [(4,⟨Nat,λx=>⟨[(0,.e (.c (.d (.sc (.string s))))),(14,iT s.size),(15,iT x)],[],0⟩,λx=>x<=s.size/\1<=(s.size:Int)/\(s.size:Int)<=16/\s8 s x,λx=>s.size-x⟩)] ?_;repeat' first|intro _|apply aQ|refine aS 0 (aQ ?_ λ(x:Nat) (f:x<=s.size/\1<=(s.size:Int)/\(s.size:Int)<=16/\s8 s x)=>?_)|refine aS (x+1) ?_
 all_goals first|exact bj| (with_reducible first|rfl|exact Yw s)|rename_i a b;exact absurd (a.symm.trans b) ae|rename_i a b _;exact absurd (a.symm.trans b) ae|(rename_i h;first|exact xO 0 rfl h|exact xO 1 rfl h|exact xO 2 rfl h|exact xO 3 rfl h|exact xO 4 rfl h|exact xO 5 rfl h|exact xO 6 rfl h|exact xO 7 rfl h|exact xO 8 rfl h)|rename_i g r q p o n m l k j;exact aDQ f g (aDP r q p o n m l k j)|refine aeY ?_;simp only[be,bc,yi,rA,sC,gQ,jJ,iI]at*;omega|refine aeX (i:=x) ?_ ?_ <;>simp only[be,bc,yi,rA,sC,gQ,jJ,iI]at* <;>(try unfold um)<;>omega|refine Yx f.2.2.2 ?_;simp only[be,bc,yi,rA,sC,gQ,jJ,iI]at*;unfold um;omega| (with_reducible first|exact f.2.1|exact f.2.2.1)|simp only[be,bc,yi,rA,sC,gQ,jJ,iI]at*;(try have:=f.1);(try have:=f.2.2.1);omega
def asq:=dj (.eU) λs (_:True)=>aDN s
def zd(s:az):List ByteArray->Nat->Int
 |[],_=>-1
 |t::r,i=>if s.toList==t.toList then(i:Int)else zd s r (i+1)
@[irreducible] def uA(l:List ByteArray)(s:az)(i:Nat):Int:=zd s (l.drop i) i
@[irreducible] def AV(l:List ByteArray)(s:az):Int:=zd s l 0
def axw(l:List ByteArray)(s:az):uA l s 0=AV l s:=by unfold uA AV;rfl
def axz(a:uA l s i=R)(h:l[(i:Int).toNat]?=some t)(e:(s.toList==t.toList)=true):(i:Int)=R:=by rw[bt]at h;obtain⟨b,rfl⟩:=du.1 h;unfold uA at a;rw[kB b,zd,aM e]at a;exact a
def axy(a:uA l s i=R)(h:l[(i:Int).toNat]?=some t)(e:(s.toList==t.toList)=false):uA l s (i+1)=R:=by rw[bt]at h;obtain⟨b,rfl⟩:=du.1 h;unfold uA at*;rw[kB b,zd,Z (by simp[e])]at a;exact a
def axx(a:uA l s i=R)(h:decide ((i:Int)<l.length)=false):-1=R:=by simp only[bc]at h;unfold uA at a;rw[mU O,zd]at a;exact a
theorem ab_(s:az):∀(l:List ByteArray)(i:Nat),decide (0<=zd s l i)=ie l s
 |[],i=>by unfold ie;rfl
 |t::r,i=>by
  have a:=ab_ s r (i+1);unfold ie at*;rw[zd,List.any_cons];split
  ·rename_i e;rw[sY e];simp
  ·rename_i e;rw[a,show(t.toList==s.toList)=false from sY (an e)];simp
def axv(l:List ByteArray)(s:az):decide (0<=AV l s)=ie l s:=by unfold AV;exact ab_ s l 0
theorem acR(l:List ByteArray)(s:az):∀k,k<=l.length->decide (0<=q9 l s k)=ie (l.take k) s
 |0,_=>by rw[q9];unfold ie;rfl
 |k+1,c=>by
  have b:=acR l s k O;obtain⟨t,a⟩:∃t,l[k]?=some t:=⟨l[k]' O,ai⟩;rw[q9,a,ib];unfold ie at*;rw[fy,a,List.any_append];split
  ·rename_i e;simp[e]
  ·rename_i e;rw[b];simp[show(t.toList==s.toList)=false by simpa using e]
def acS(l:List ByteArray)(s:az):decide (0<=AZ l s)=ie l s:=by unfold AZ;rw[acR l s _ (bK _),im]
def axu(l:List ByteArray)(s:az):bh 177 [wL .eU l,wS s] (iT (AV l s)):=by
 refine vF func177 rfl [] [(2,⟨Nat,λx=>⟨[(0,lT .eU l),(1,.e (.c (.d (.sc (.string s))))),(7,iT l.length),(8,iT x)],[],0⟩,λx=>x<=l.length/\uA l s x=AV l s,λx=>l.length-x⟩)] ?_;repeat' first|intro _|apply aQ|refine aS 0 (aQ ?_ λ(x:Nat)(a:x<=l.length/\uA l s x=AV l s)=>?_)|refine aS (x+1) ?_
 all_goals first|exact bj|with_reducible rfl|omega|with_reducible exact axw l s|(rename_i f b;with_reducible first|exact axz a.2 f b|exact axy a.2 f b)|rename_i h;with_reducible exact axx a.2 h|simp only[be,bc]at*;omega
def ar5:=eI (.ls W.eU) (.eU) λl s (_:True)=>axu l s
def aw4(l:List ByteArray)(s:az):bh 133 [wL .eU l,wS s] (bT (ie l s)):=by
 refine vF func133 rfl [ar5] [] ?_;repeat' first|intro _|apply aQ
 all_goals first|exact bj|with_reducible exact axv l s
def ar2:=eI (.ls W.eU) (.eU) λl s (_:True)=>aw4 l s
def Lt(l:List ByteArray)(j:Nat):Bool:=match l[j]? with|some s=>lm s&& !ie (l.take j) s|none=>true
@[irreducible] def oD(l:List ByteArray)(i:Nat):Bool:=(List.range i).all (Lt l)
@[irreducible] def nY(l:List ByteArray):Bool:=oD l l.length&&decide ((l.length:Int)<=4)
def aej(l:List ByteArray):oD l 0=true:=by unfold oD;rfl
def aek(h:oD l i=true)(I:l[(i:Int).toNat]?=some s)(a:lm s=true)(b:ie (l.take i) s=false):oD l (i+1)=true:=by rw[bt]at I;unfold oD at*;rw[sP,List.all_append,h];simp[Lt,I,a,b]
def Lv(I:l[(i:Int).toNat]?=some s)(h:lm s=false\/ie (l.take i) s=true):false=nY l:=by
 rw[bt]at I;have a:=(du.1 I).1;unfold nY oD;have:(List.range l.length).all (Lt l)=false:=by rw[List.all_eq_false];refine⟨i,by simpa using a,?_⟩;simp only[Lt,I];rcases h with h|h<;>simp[h]
 rw[this];rfl
def RR(h:oD l i=true)(b:i<=l.length)(a:decide ((i:Int)<l.length)=false):decide ((l.length:Int)<=4)=nY l:=by simp only[bc]at a;have:i=l.length:=O;subst this;unfold nY;rw[h];rfl
def aCu(h:decide (4<(l.length:Int))=true):false=nY l:=by simp only[be]at h;unfold nY;rw[rX O,Bool.and_false]
def aCt(h:oD l i=true)(a:i<=l.length)(b:decide ((i:Int)<l.length)=false)(c:decide (4<(l.length:Int))=false):true=nY l:=by rw[<-RR h a b];simp only[bc]at c;rw[qd O]
def tk:l.take (i:Int).toNat=l.take i:=by rw[bt]
def RO(I:l[(i:Int).toNat]?=some s)(h:(!lm s)=true):false=nY l:=Lv I (.inl (an h))
def RP(I:l[(i:Int).toNat]?=some s)(h:(!lm s)=!false):false=nY l:=Lv I (.inl (an h))
def aCe(I:l[(i:Int).toNat]?=some s)(a:l[(i:Int).toNat]?=some t)(h:decide (0<=AZ (l.take (i:Int).toNat) t)=true):false=nY l:=by
 rw[I]at a;injection a with a;subst a
 rw[acS,tk]at h;exact Lv I (.inr h)
def aCf(b:oD l i=true)(I:l[(i:Int).toNat]?=some s)(c:(!lm s)=false)(a:l[(i:Int).toNat]?=some t)(h:decide (0<=AZ (l.take (i:Int).toNat) t)=false):oD l (i+1)=true:=by
 rw[I]at a;injection a with a;subst a
 rw[acS,tk]at h;exact aek b I (an c) h
def aec(I:l[(i:Int).toNat]?=some s)(h:ie (l.take (i:Int).toNat) s=true):false=nY l:=by rw[tk]at h;exact Lv I (.inr h)
def aCg(a:oD l i=true)(I:l[(i:Int).toNat]?=some s)(b:(!lm s)=false)(h:ie (l.take (i:Int).toNat) s=false):oD l (i+1)=true:=by rw[tk]at h;exact aek a I (an b) h
def aBd(l:List ByteArray):bh 40 [wL .eU l] (bT (nY l)):=by
 refine vF func40 rfl [asr,asa] [(2,⟨Nat,λx=>⟨[(0,lT .eU l),(5,iT l.length),(6,iT x)],[],0⟩,λx=>x<=l.length/\oD l x=true,λx=>l.length-x⟩)] ?_;repeat' first|intro _|apply aQ|refine aS 0 (aQ ?_ λ(x:Nat)(b:x<=l.length/\oD l x=true)=>?_)|refine aS (x+1) ?_
 all_goals first|exact bj|((with_reducible show(_&&_)=true);kernel_rfl)| (with_reducible first|rfl|exact aej l)|(rename_i a d;with_reducible first|exact RO a d|exact RP a d)|(rename_i I a _ c h;with_reducible first|exact aCe I c h|exact aCf b.2 I a c h)|rename_i h _;with_reducible exact RR b.2 b.1 h|omega|simp only[be,bc]at*;omega
def asj:=dj (.ls W.eU) λl (_:True)=>aBd l
def aBe(l:List ByteArray):bh 84 [wL .eU l] (bT (nY l)):=by
 refine vF func84 rfl [asq,ar2] [(4,⟨Nat,λx=>⟨[(0,lT .eU l),(8,lT .eU l),(9,iT l.length),(10,iT x)],[],0⟩,λx=>x<=l.length/\oD l x=true,λx=>l.length-x⟩)] ?_;repeat' first|intro _|apply aQ|refine aS 0 (aQ ?_ λ(x:Nat)(c:x<=l.length/\oD l x=true)=>?_)|refine aS (x+1) ?_
 all_goals first|exact bj| (with_reducible first|rfl|exact aej l)|(rename_i a b;with_reducible first|exact RO a b|exact RP a b)|(rename_i a _ b;with_reducible first|exact RO a b|exact RP a b|exact aec a b)|(rename_i I a h;with_reducible first|exact aec I h|exact aCg c.2 I a h)|(rename_i h;with_reducible first|exact RR c.2 c.1 h|exact aCu h|exact aCt c.2 c.1 h ak)|omega|simp only[be,bc]at*;omega
def asl:=dj (.ls W.eU) λl (_:True)=>aBe l
def KG(m:F):=m.aJ=3\/m.aJ=4
def Ba(h:(m.aJ==1)=true):b9 m=.mk 1 0 zP []:=by rw[Lu,aM (an h)]
def xM(h:(m.aJ==2)=true):b9 m=.mk 2 (jN m.bU) (dT m.aF) []:=by have h:m.aJ=2:=an h;rw[Lu,Z O,aM h]
def Bb(h:m.aJ=3\/m.aJ=4):b9 m=.mk m.aJ 0 zP (m.aO.map b9):=by rw[Lu,Z O,Z O,aM h]
def A_(a:(m.aJ==1)=false)(b:(m.aJ==2)=false)(c:(m.aJ==3)=false)(d:(m.aJ==4)=false):b9 m=zM:=by have a:m.aJ≠1:=an a;have b:m.aJ≠2:=an b;have c:m.aJ≠3:=an c;have d:m.aJ≠4:=an d;rw[Lu,Z a,Z b,Z O]
def aAM(h:(m.aJ==1)=true):1=(b9 m).aJ:=by rw[Ba h];rfl
def aAF(a:(m.aJ==1)=false)(b:(m.aJ==2)=false)(c:(m.aJ==3)=false)(d:(m.aJ==4)=false):0=(b9 m).aJ:=by rw[A_ a b c d];rfl
def aAT(h:(m.aJ==2)=true):2=(b9 m).aJ:=by rw[xM h];rfl
def aA2(h:KG m):m.aJ=(b9 m).aJ:=by rw[Bb h];rfl
def aAN(h:(m.aJ==1)=true):0=(b9 m).bU:=by rw[Ba h];rfl
def aAG(a:(m.aJ==1)=false)(b:(m.aJ==2)=false)(c:(m.aJ==3)=false)(d:(m.aJ==4)=false):0=(b9 m).bU:=by rw[A_ a b c d];rfl
def aAU(h:(m.aJ==2)=true)(a:decide (m.bU<1)=true):3=(b9 m).bU:=by rw[xM h];simp only[be]at a;show 3=jN m.bU;unfold jN;rw[aM (.inl a)]
def aAV(h:(m.aJ==2)=true)(a:decide (6<m.bU)=true):3=(b9 m).bU:=by rw[xM h];simp only[be]at a;show 3=jN m.bU;unfold jN;rw[aM (.inr a)]
def aAW(h:(m.aJ==2)=true)(a:decide (m.bU<1)=false)(b:decide (6<m.bU)=false):m.bU=(b9 m).bU:=by rw[xM h];simp only[bc]at a b;show m.bU=jN m.bU;unfold jN;rw[Z O]
def aA3(h:KG m):0=(b9 m).bU:=by rw[Bb h];rfl
def aAO(h:(m.aJ==1)=true):0=(b9 m).aF.aK:=by rw[Ba h];rfl
def aAH(a:(m.aJ==1)=false)(b:(m.aJ==2)=false)(c:(m.aJ==3)=false)(d:(m.aJ==4)=false):0=(b9 m).aF.aK:=by rw[A_ a b c d];rfl
def aAX(h:(m.aJ==2)=true):(dT (.mk m.aF.aK m.aF.neg m.aF.aC m.aF.aL)).aK=(b9 m).aF.aK:=by rw[xM h];rw[bz];rfl
def aA4(h:KG m):0=(b9 m).aF.aK:=by rw[Bb h];rfl
def aAP(h:(m.aJ==1)=true):false=(b9 m).aF.neg:=by rw[Ba h];rfl
def aAI(a:(m.aJ==1)=false)(b:(m.aJ==2)=false)(c:(m.aJ==3)=false)(d:(m.aJ==4)=false):false=(b9 m).aF.neg:=by rw[A_ a b c d];rfl
def aAY(h:(m.aJ==2)=true):(dT (.mk m.aF.aK m.aF.neg m.aF.aC m.aF.aL)).neg=(b9 m).aF.neg:=by rw[xM h];rw[bz];rfl
def aA5(h:KG m):false=(b9 m).aF.neg:=by rw[Bb h];rfl
def aAQ(h:(m.aJ==1)=true):(b9 m).aF.aC=[]:=by rw[Ba h];rfl
def aAJ(a:(m.aJ==1)=false)(b:(m.aJ==2)=false)(c:(m.aJ==3)=false)(d:(m.aJ==4)=false):(b9 m).aF.aC=[]:=by rw[A_ a b c d];rfl
def aAZ(h:(m.aJ==2)=true):(dT (.mk m.aF.aK m.aF.neg m.aF.aC m.aF.aL)).aC=(b9 m).aF.aC:=by rw[xM h];rw[bz];rfl
def aA6(h:KG m):(b9 m).aF.aC=[]:=by rw[Bb h];rfl
def aAR(h:(m.aJ==1)=true):(b9 m).aF.aL=[]:=by rw[Ba h];rfl
def aAK(a:(m.aJ==1)=false)(b:(m.aJ==2)=false)(c:(m.aJ==3)=false)(d:(m.aJ==4)=false):(b9 m).aF.aL=[]:=by rw[A_ a b c d];rfl
def aA0(h:(m.aJ==2)=true):(dT (.mk m.aF.aK m.aF.neg m.aF.aC m.aF.aL)).aL=(b9 m).aF.aL:=by rw[xM h];rw[bz];rfl
def aA7(h:KG m):(b9 m).aF.aL=[]:=by rw[Bb h];rfl
def aAS(h:(m.aJ==1)=true):(b9 m).aO=[]:=by rw[Ba h];rfl
def aAL(a:(m.aJ==1)=false)(b:(m.aJ==2)=false)(c:(m.aJ==3)=false)(d:(m.aJ==4)=false):(b9 m).aO=[]:=by rw[A_ a b c d];rfl
def aA1(h:(m.aJ==2)=true):(b9 m).aO=[]:=by rw[xM h];rfl
def aA8(h:KG m):m.aO.map b9=(b9 m).aO:=by rw[Bb h];rfl
@[irreducible] def nl(m:F)(i:Nat):List F:=(m.aO.take i).map b9
def acr(m:F):nl m 0=[]:=by unfold nl;rfl
def ax4(m:F):(nl m 0).length=0:=by rw[acr];rfl
def ax7(h:m.aO[(i:Int).toNat]?=some c):nl m i++[b9 c]=nl m (i+1):=by rw[bt]at h;unfold nl;rw[fy,h,ia];rfl
def acs(m:F)(i:Nat):(nl m i).length<=m.aO.length:=by unfold nl;simp;omega
def ax5(h:decide ((i:Int)<m.aO.length)=false):nl m i=m.aO.map b9:=by simp only[bc]at h;unfold nl;rw[eL O]
def ax6(a:KG m)(h:decide ((i:Int)<m.aO.length)=false):nl m i=(b9 m).aO:=by rw[ax5 h];exact aA8 a
def PY(h:b=!false):b=true:=h
def aeC(h:iz m):b8 (.mk m.aF.aK m.aF.neg m.aF.aC m.aF.aL):=by rw[bz];exact h.np
@[reducible] def Lf(c:F):F:=.mk (b9 (.mk c.aJ c.bU (.mk c.aF.aK c.aF.neg c.aF.aC c.aF.aL) c.aO)).aJ (b9 (.mk c.aJ c.bU (.mk c.aF.aK c.aF.neg c.aF.aC c.aF.aL) c.aO)).bU (.mk (b9 (.mk c.aJ c.bU (.mk c.aF.aK c.aF.neg c.aF.aC c.aF.aL) c.aO)).aF.aK (b9 (.mk c.aJ c.bU (.mk c.aF.aK c.aF.neg c.aF.aC c.aF.aL) c.aO)).aF.neg (b9 (.mk c.aJ c.bU (.mk c.aF.aK c.aF.neg c.aF.aC c.aF.aL) c.aO)).aF.aC (b9 (.mk c.aJ c.bU (.mk c.aF.aK c.aF.neg c.aF.aC c.aF.aL) c.aO)).aF.aL) (b9 (.mk c.aJ c.bU (.mk c.aF.aK c.aF.neg c.aF.aC c.aF.aL) c.aO)).aO
def azG(c:F):Lf c=b9 c:=by unfold Lf;rw[C4,C4]
def acu(h:m.aO[(i:Int).toNat]?=some c):nl m i++[Lf c]=nl m (i+1):=by rw[azG];exact ax7 h
def ax8(h:m.aO[(i:Int).toNat]?=some c):(nl m i).length+[Lf c].length=(nl m (i+1)).length:=by rw[<-acu h];simp
def kb1(h:iz m)(i:Nat)(x:F):((nl m i).length+[x].length)*oR.dF<=140737488355328:=by have b:=acs m i;have c:=h.len;have e:oR.dF=104:=rfl;have a:[x].length=1:=rfl;rw[e,a];omega
def kb2(h:iz m)(i:Nat)(x:F):(nl m i).length+[x].length<=140737488355328:=by have b:=acs m i;have c:=h.len;have a:[x].length=1:=rfl;rw[a];omega
def kg3(h:(m.aJ==3)=true):KG m:=.inl (an h)
def kg4(h:(m.aJ==4)=true):KG m:=.inr (an h)
def aCl(m:F)(i:iz m):bh 15 [wE .aP m] (eT .aP (b9 m)):=by
 generalize n:SizeOf.sizeOf m=D
 induction D using Nat.strongRecOn generalizing m
 rename_i D k;subst n;refine vF func15 rfl [y5,ot Vw 15 (.el W.aP) (λ(q:F)=>q∈m.aO) (λ(q:F)=>eT .aP (b9 q)) (λq c=>k _ (F.lt c) q (i.bu q c) rfl)] [(13,⟨Nat,λx=>⟨[(1,br 0),(2,br 1),(4,br 2),(34,iT m.aO.length),(35,iT x)],[(0,cj .aP m),(1,cj .aP zM),(2,.cells [cG m.aJ,cG 0,cG 0,iB,fL,fL,.aX 3 W.aP (nl m x).length]),(3,.aW (U:=Un) W.aP (nl m x))],4⟩,λx=>x<=m.aO.length/\KG m,λx=>m.aO.length-x⟩)] ?_;repeat' first|intro _|apply aQ|refine aS 0 (aQ ?_ λ(x:Nat)(d:x<=m.aO.length/\KG m)=>?_)|refine aS (x+1) ?_
 all_goals clear k
 all_goals first|exact bj|((with_reducible show(_&&_)=true);kernel_rfl)| (with_reducible first|rfl|exact aeC i|exact acr m|exact ax4 m|exact d.2|exact kb1 i _ _|exact kb2 i _ _|exact FL _)|rename_i a b;exact absurd (a.symm.trans b) ae|(rename_i h;with_reducible first|exact aAM h|exact aAN h|exact aAO h|exact aAP h|exact aAQ h|exact aAR h|exact aAS h)|(rename_i c g f e;with_reducible first|exact aAF c g f e|exact aAG c g f e|exact aAH c g f e|exact aAI c g f e|exact aAJ c g f e|exact aAK c g f e|exact aAL c g f e)|rename_i j;with_reducible exact aAV ak j|rename_i j;with_reducible exact aAU ak (PY j)|rename_i j l;with_reducible exact aAW ak j l|(with_reducible first|exact aAT ak|exact aAX ak|exact aAY ak|exact aAZ ak|exact aA0 ak|exact aA1 ak)|(with_reducible first|exact aA2 d.2|exact aA3 d.2|exact aA4 d.2|exact aA5 d.2|exact aA6 d.2|exact aA7 d.2)|rename_i h;with_reducible exact ax6 d.2 h|(rename_i h;with_reducible first|exact F.at h|exact acu h|exact ax8 h)|(with_reducible first|exact kg3 ak|exact kg4 ak)|have:=i.len;omega|have:=i.len;(simp only[be,bc]at*;omega)|rfl
def Pr:=dj (.el W.aP) aCl
@[irreducible] def pH(m:F)(i:Nat):List J:=iS (m.aO.take i)
def ae9(m:F):pH m 0=[]:=by unfold pH;rw[gx,iS]
def aD6(m:F):(pH m 0).length=0:=by rw[ae9];rfl
def LW{m:F}(h:m.aO[(i:Int).toNat]?=some c):pH m i++dY (.mk c.aJ c.bU (.mk c.aF.aK c.aF.neg c.aF.aC c.aF.aL) c.aO)=pH m (i+1):=by rw[bt]at h;unfold pH;rw[C4,fy,h,afy];simp only[yH];rw[iS,iS,lB]
def aD7{m:F}(h:m.aO[(i:Int).toNat]?=some c):(pH m i).length+(dY (.mk c.aJ c.bU (.mk c.aF.aK c.aF.neg c.aF.aC c.aF.aL) c.aO)).length=(pH m (i+1)).length:=by rw[<-LW h];simp
theorem ais:∀(l:List F)(i:Nat),ck (l.take i)<=ck l
 |[],i=>by simp
 |m::r,0=>by rw[gx,e_];omega
 |m::r,i+1=>by have:=ais r i;rw[o4,dW,dW];omega
def aIj{m:F}(h:c∈m.aO):ba c<=ba m:=by
 rw[j8 m];obtain⟨i,e⟩:=EM h;have b:∀(l:List F)(i:Nat),l[i]?=some c->ba c<=ck l:=by
  intro l
  induction l with
  |nil=>intro i h;simp at h
  |cons a r f=>
   intro i h;rw[dW];cases i with
   |zero=>simp only[kg,cS]at h;subst h;omega
   |succ i=>have:=f i (an h);omega
 have:=b _ i e;omega
def ae_(m:F)(i:Nat):(pH m i).length<=ba m:=by unfold pH;have b:=S8 (m.aO.take i);have a:=ais m.aO i;rw[j8];omega
def pb1{m:F}(h:ba m<=1000000)(a:m.aO[(i:Int).toNat]?=some c):((pH m i).length+(dY (.mk c.aJ c.bU (.mk c.aF.aK c.aF.neg c.aF.aC c.aF.aL) c.aO)).length)*mi.dF<=140737488355328:=by have b:=ae_ m (i+1);rw[<-LW a,cX]at b;have e:mi.dF=64:=rfl;rw[e];omega
def pb2{m:F}(h:ba m<=1000000)(a:m.aO[(i:Int).toNat]?=some c):(pH m i).length+(dY (.mk c.aJ c.bU (.mk c.aF.aK c.aF.neg c.aF.aC c.aF.aL) c.aO)).length<=140737488355328:=by have b:=ae_ m (i+1);rw[<-LW a,cX]at b;omega
def pA{m:F}(h:(m.aJ==2)=true):[J.mk m.aF.aK m.aF.neg m.aF.aC m.aF.aL]=dY m:=by rw[afx,aM (an h),bz]
def pE{m:F}(h:(m.aJ==2)=false)(a:decide ((i:Int)<m.aO.length)=false):pH m i=dY m:=by simp only[bc]at a;rw[afx,Z (an h)];unfold pH;rw[eL O]
@[irreducible] def SZ(m:F):=ba m<=1000000
def SZ.le{m:F}(h:SZ m):=(SZ.eq_1 ..).mp h
def SZ.len{m:F}(h:SZ m):m.aO.length<=1000000:=by have:=h.le;have:=rj m.aO;rw[j8]at*;omega
def aEu(m:F)(a:SZ m):bh 20 [wE .aP m] (lT .aF (dY m)):=by
 generalize j:SizeOf.sizeOf m=D
 induction D using Nat.strongRecOn generalizing m
 rename_i D b;subst j;have f:∀c∈m.aO,SZ c:=λc i=>by have:=aIj i;have:=a.le;unfold SZ;omega
 refine vF func20 rfl [ot Vw 20 (.el W.aP) (λ(q:F)=>q∈m.aO) (λ(q:F)=>lT .aF (dY q)) (λq g=>b _ (F.lt g) q (f q g) rfl)] [(5,⟨Nat,λx=>⟨[(1,br 0),(3,.e (.c (.aX 1 (U:=Un) W.aF (pH m x).length))),(13,iT m.aO.length),(14,iT x)],[(0,cj .aP m),(1,.aW (U:=Un) W.aF (pH m x))],2⟩,λx=>x<=m.aO.length/\True,λx=>m.aO.length-x⟩)] ?_;repeat' first|intro _|apply aQ|refine aS 0 (aQ ?_ λ(x:Nat)(k:x<=m.aO.length/\True)=>?_)|refine aS (x+1) ?_
 all_goals clear b f
 all_goals first|exact bj| (with_reducible first|rfl|exact ae9 m|exact aD6 m|exact FL _)|(rename_i h;with_reducible first|exact pA h|exact F.at h|exact pb1 a.le h|exact pb2 a.le h|exact LW h|exact aD7 h)|rename_i h;with_reducible exact pE ak h|have:=a.len;omega|have:=a.len;(simp only[be,bc]at*;omega)
def Zp:=dj (.el W.aP) aEu
section
variable {m:F}{n d:Int}
@[reducible] def fM(m:F):F:=.mk m.aJ m.bU (.mk m.aF.aK m.aF.neg m.aF.aC m.aF.aL) m.aO
@[reducible] def fN(m:F):F:=.mk (b9 (fM m)).aJ (b9 (fM m)).bU (.mk (b9 (fM m)).aF.aK (b9 (fM m)).aF.neg (b9 (fM m)).aF.aC (b9 (fM m)).aF.aL) (b9 (fM m)).aO
def AM(m:F):fM m=m:=C4 m
def aa0(m:F):fN m=b9 m:=by unfold fN;rw[AM,C4]
end
end Go.Proofs.YtfbmhjooliccnaaGreatDoor
namespace Go.Ab.VS
def aic(r:Int):=r=1\/r=4\/r=6
instance (r:Int):Decidable (aic r):=by unfold aic;infer_instance
end Go.Ab.VS
namespace Go.Proofs.YtfbmhjooliccnaaGreatDoor
open Go Go.Ab Go.Ab.VS Go.Proofs.Tryz
variable {d k:Nat}{p:J}
def DL.y6:∀{L:Nat}{p:J},bQ L p->DL d p->gh k p<=d:=by
 intro L p h
 induction h with
 |const n=>intro _;rw[PL];split;omega;split<;>omega
 |node m b l o q s t i=>
  intro e;rw[F4];split
  ·omega
  ·split
   ·have:=e.len;change b.length<=d+1 at this;omega
   ·have:∀r:List J,(∀c∈r,gh k c<=d)->iW k r<=d:=by
     intro r
     induction r with
     |nil=>intro _;rw[iW];omega
     |cons c r a=>
      intro f;have u:=f c (b6 ..);have v:=a λx j=>f x (cv _ j)
      rw[iW];omega
    exact this b λc g=>i c g (e.bu c g)
def Sz.vd(h:Sz d k p)(a:Nat):ez p a<=d:=by unfold ez;split;omega;exact h.dl.y6 h.bR
mutual
def gX:F->List (Int×J)
 |.mk k r p a=>if k=2 then [(r,p)]else if k=3\/k=4 then mB a else []
def mB:List F->List (Int×J)
 |[]=>[]
 |m::r=>gX m++mB r
end
mutual
theorem Xh:∀m:F,(gX m).length<=ba m
 |.mk k r p a=>by
  have:=Xi a
  rw[gX,ba]
  split
  ·simp
  ·split
   ·omega
   ·simp
theorem Xi:∀l:List F,(mB l).length<=ck l
 |[]=>by rw[mB];simp
 |m::r=>by
  have c:=Xh m
  have b:=Xi r
  rw[mB,ck,cX];omega
end
def Ja{Q:J->Prop}{m:F}(h:CM Q m):∀x∈gX m,R6 x.1/\Q x.2:=by
 have f:∀l:List F,(∀c∈l,∀x∈gX c,R6 x.1/\Q x.2)->∀x∈mB l,R6 x.1/\Q x.2:=by
  intro l
  induction l with
  |nil=>intro _ x a;rw[mB]at a;simp at a
  |cons c r b=>
   intro e x a;rw[mB]at a;rcases cq.1 a with a|a
   ·exact e c (b6 ..) x a
   ·exact b (λd g=>e d (cv _ g)) x a
 induction h with
 |tt=>intro x a;rw[gX,Z ae,Z ae]at a;simp at a
 |ff=>intro x a;rw[gX,Z ae,Z ae]at a;simp at a
 |gE r p i j=>intro x a;rw[gX,aM rfl,cL]at a;subst a;exact⟨i,j⟩
 |node K k hK n b=>intro x a;rw[gX,Z O,aM hK]at a;exact f k b x a
def aw3{s:az}{l:List ByteArray}(h:jX s l=true):∃k∈l,k.toList=s.toList:=by unfold jX at h;obtain⟨k,a,b⟩:=rF.1 h;exact⟨k,a,by simpa using b⟩
def QO(p:J):=Sz 12 60000 p
def QO.rq:∀p,QO p->b8 p/\QO (eQ p):=λp h=>⟨h.np O O,h.sn O O⟩
def QO.rn:∀p,QO p->b8 p/\QO (dT p):=λp h=>⟨h.np O O,by rw[h.cB O O];exact h⟩
def GA.qo{a:Int}(h:GA a p):QO p:=h.sz
theorem Uc(f:F->Bool):∀l:List F,ck (l.filter f)+ck (l.filter λc=>!f c)=ck l
 |[]=>rfl
 |m::r=>by
  have a:=Uc f r;cases h:f m with
  |true=>rw[yy h,Ah (by simp[h]),dW,dW];omega
  |false=>rw[Ah (by simp[h]),yy (by simp[h]),dW,dW];omega
end Go.Proofs.YtfbmhjooliccnaaGreatDoor
namespace Go.Proofs.YtfbmhjooliccnaaGreatDoor
open Go Go.Ab Go.Proofs.Tryz
variable {k:Nat}
def axr{n:Bool}{a:ao}(h:Dg a)(b:a.length<=k):(iV ⟨n,a⟩).natAbs<2^(32*k):=by
 have c:=iH h;have d:=zz b;have e:pB k=((2^(32*k):Nat):Int):=by unfold pB;rw[Nat.pow_mul,B0];rfl
 unfold iV;generalize 2^(32*k)=X at*;show(if n then-nV a else nV a).natAbs<X;split<;>omega
def aDS{p:J}(h:jT k p):fh p<=nP p*2^(32*k):=by
 induction h with
 |mk l n a f g i o q j=>
  have b:∀l:List J,(∀c∈l,fh c<=nP c*2^(32*k))->ee l<=iR l*2^(32*k):=by
   intro l
   induction l with
   |nil=>intro _;rw[ee,iR];omega
   |cons c r d=>
    intro e;have s:=e c (b6 ..);have t:=d λc m=>e c (cv _ m)
    rw[ee,iR,iN];omega
  have u:=b f j;have v:=axr (n:=n) i g;rw[fh,nP,iN];split
  ·omega
  ·split<;>omega
def RF(p:J):=mS p/\AO p 40 4=true
theorem Ti:∀(d:Nat)(m:F)(n:Int),0<=jj d m n->qJ m->RM RF m
 |0,m,n,h,_=>by rw[jj]at h;omega
 |d+1,m,n,h,q=>by
  rw[jj]at h;split at h
  ·omega
  ·rename_i a;have b:∀(l:List F)(n:Int),(∀c∈l,qJ c)->0<=iX (jj d) l n->∀c∈l,RM RF c:=by
    intro l
    induction l with
    |nil=>intro n _ _ c a;simp at a
    |cons c r i=>
     intro n g h;rw[iX]at h;split at h
     ·omega
     ·have s:=Ti d c n (Qp h) (g c ai);have t:=i (jj d c n) (λc a=>g c (by simp[a])) h;intro x e;rcases da.1 e with rfl|e
      ·exact s
      ·exact t x e
   cases q with
   |mk k r p f j o=>exact .mk k r p f (λ_=>⟨j,by simpa[F.aF]using a⟩) λ_=>b f (n-1) o h
end Go.Proofs.YtfbmhjooliccnaaGreatDoor
namespace Go.Proofs.YtfbmhjooliccnaaGreatDoor
open Go Go.Ab Go.Ab.VS Go.Proofs.Tryz
variable {k K l:Nat}{X:Int→Prop}{p q:J}{w r:Int}{U:bw→ByteArray}{m:F}{t:bw}{Q:J→Prop}{R:Rat}
def kR(p:J):Prop:=∀(b a:ay)(t:Rat),ev (λi=>a i+t*(b i-a i)) p=ev a p+t*(ev b p-ev a p)
def kR.const(n:Int):kR (kP n):=λb a t=>by rw[jw,jw,jw];grind
def kR.zero:kR zP:=by rw[<-pC];exact .const 0
def kR.add(a:bQ 4 p)(b:bQ 4 q)(h:kR p)(c:kR q):kR (lG p q):=λd e t=>by rw[xz a b,xz a b,xz a b,h,c];grind
def kR.tx(a:bQ 4 p)(h:kR p)(n:Int):kR (ca p (kP n)):=λb c t=>by rw[AG a,AG a,AG a,h];grind
def kR.neg(a:bQ 4 p)(h:kR p):kR (li p):=λb c t=>by rw[y_ a,y_ a,y_ a,h];grind
def kR.sn(g:b8 p)(h:kR p):kR (eQ p):=λb a t=>by
 obtain⟨d,f⟩:=Bt g;have e:=λb=>f.ev b
 have j:(d:Rat)≠0:=by intro c;have:((d:Int):Rat)=((0:Int):Rat):=c;exact f.nz (N2.1 this)
 have k:=e (λi=>a i+t*(b i-a i));rw[h,<-e b,<-e a]at k;have:(d:Rat)*(ev (λi=>a i+t*(b i-a i)) (eQ p)-(ev a (eQ p)+t*(ev b (eQ p)-ev a (eQ p))))=0:=ah;rcases N4.1 this with c|c
 ·exact absurd c j
 ·grind
def auV:∀{L:Nat}{p:J},bQ L p->L<=4->DL 1 p->(∀c,ev c p=0)->p=zP:=by
 intro L p h
 induction h with
 |const n=>
  intro _ _ h;have m:=h λ_=>0
  rw[jw]at m;have:n=0:=N2.1 m;rw[this,pC]
 |node d g s x r l q o=>
  intro w j h;have i:=j.len;change g.length<=2 at i;obtain⟨a,b,rfl⟩:∃a b,g=[a,b]:=by
   match g,r,i with
   |[a,b],_,_=>exact⟨a,b,rfl⟩
  have k:cP b=false:=q b rfl;have t:=(l b ai).fr (v:=d) O;have u:=(l a ai).fr (v:=d) O;have:b=zP:=o b ai O (j.bu b (show b∈[a,b]by simp)) λc=>by have f:=h (up c d 0);have e:=h (up c d 1);rw[ph _ _ s O]at f e;rw[M0]at f e;simp only[dy]at f e;rw[u.ev,t.ev]at f e;grind
  rw[this]at k;exact absurd k ae
def J2(h:bQ 4 p)(k:DL 1 p){z:Rat}(g:∀c,ev c p=z):∃n:Int,p=kP n/\(n:Rat)=z:=by
 cases h with
 |const n=>exact⟨n,rfl,by have:=g λ_=>0;rwa [jw]at this⟩
 |node d i o u q j r=>
  exfalso;have l:=k.len;change i.length<=2 at l;obtain⟨a,b,rfl⟩:∃a b,i=[a,b]:=by
   match i,q,l with
   |[a,b],_,_=>exact⟨a,b,rfl⟩
  have m:cP b=false:=r b rfl;have s:=(j b ai).fr (v:=d) O;have t:=(j a ai).fr (v:=d) O;have:b=zP:=auV (j b ai) O (k.bu b (show b∈[a,b]by simp)) λc=>by have e:=g (up c d 0);have f:=g (up c d 1);rw[ph _ _ o O]at e f;rw[M0]at e f;simp only[dy]at e f;rw[t.ev,s.ev]at e f;grind
  rw[this]at m;exact absurd m ae
structure Ln(k:Nat)(p:J):Prop where
 sz:Sz 1 k p
 xl:kR p
structure Kn(k:Nat)(p:J):Prop where
 z:∃n:Int,p=kP n/\n.natAbs<2^k
def Kn.sz(h:Kn k p):Sz 0 k p:=by obtain⟨n,rfl,a⟩:=h.z;exact .const 0 a
theorem Kn.ev{k:Nat}{p:J}(h:Kn k p):∃z:Rat,∀a,Go.Proofs.YtfbmhjooliccnaaGreatDoor.ev a p=z:=by obtain⟨n,rfl,b⟩:=h.z;exact⟨n,λa=>jw a n⟩
def Kn.up(h:Kn k p)(a:k<=l):Kn l p:=by obtain⟨n,e,b⟩:=h.z;exact⟨n,e,mz b (BF a)⟩
def Kn.of(h:w.natAbs<2^k):Kn k (kP w):=⟨w,rfl,h⟩
def Kn.zero(k:Nat):Kn k zP:=by rw[<-pC];exact .of (IR k)
def Kn.DD(h:Sz 1 k p){z:Rat}(a:∀b,Go.Proofs.YtfbmhjooliccnaaGreatDoor.ev b p=z):Kn k p:=by obtain⟨n,rfl,_⟩:=J2 h.bR h.dl a;exact .of (by have:=h.nm;rwa [uL]at this)
def Kn.ln(h:Kn k p):Ln k p:=⟨h.sz.up O (bK _),by obtain⟨n,rfl,_⟩:=h.z;exact .const n⟩
theorem Ln.up{k l:Nat}{p:J}(h:Ln k p)(a:k<=l):Ln l p:=⟨h.sz.up (bK _) a,h.xl⟩
theorem Ln.bR{k:Nat}{p:J}(h:Ln k p):bQ 4 p:=h.sz.bR
theorem Kn.bR{k:Nat}{p:J}(h:Kn k p):bQ 4 p:=h.sz.bR
theorem Ln.add{k l:Nat}{p q:J}(h:Ln k p)(a:Ln l q):Ln (max k l+1) (lG p q):=⟨h.sz.add a.sz,h.xl.add h.bR a.bR a.xl⟩
def Ln.GU(h:Ln k p)(a:Kn l q):Ln (k+l) (ca p q):=by obtain⟨n,rfl,b⟩:=a.z;exact⟨h.sz.tx b,h.xl.tx h.bR n⟩
def Kn.comm(h:Kn k p)(a:bQ 4 q):ca p q=ca q p:=by obtain⟨n,rfl,_⟩:=h.z;exact Lk a n
def Ln.O5(h:Kn k p)(a:Ln l q):Ln (k+l) (ca p q):=by rw[h.comm a.bR,B8];exact a.GU h
def y9(h:bQ 4 p)(b:Kn k q)(a:ay):ev a (ca p q)=ev a p*ev a q:=by obtain⟨n,rfl,_⟩:=b.z;rw[AG h,jw]
def auW(h:Kn k p)(b:bQ 4 q)(a:ay):ev a (ca p q)=ev a p*ev a q:=by rw[h.comm b,y9 b h,Rat.mul_comm]
def Kn.mul(h:Kn k p)(a:Kn l q):Kn (k+l) (ca p q):=by obtain⟨n,rfl,b⟩:=h.z;obtain⟨m,rfl,c⟩:=a.z;rw[zn,GR];refine .of ?_;rw[Int.natAbs_mul,B_];exact IP b c
theorem Kn.add{k l:Nat}{p q:J}(h:Kn k p)(a:Kn l q):Kn (max k l+1) (lG p q):=by obtain⟨z,b⟩:=h.ev;obtain⟨y,c⟩:=a.ev;exact .DD (z:=z+y) ((h.sz.add a.sz).up O (bK _)) λd=>by rw[xz h.bR a.bR,b,c]
theorem Kn.neg(h:Kn k p):Kn k (li p):=by obtain⟨z,a⟩:=h.ev;exact .DD (z:=-z) (h.sz.neg.up O (bK _)) λb=>by rw[y_ h.bR,a]
theorem Ln.neg{k:Nat}{p:J}(h:Ln k p):Ln k (li p):=⟨h.sz.neg,h.xl.neg h.bR⟩
theorem Ln.np{k:Nat}{p:J}(h:Ln k p)(a:k<=100000):b8 p:=h.sz.np O a
theorem Ln.sn{k:Nat}{p:J}(h:Ln k p)(a:k<=100000):Ln k (eQ p):=⟨h.sz.sn O a,h.xl.sn (h.np a)⟩
structure Wq(k:Nat)(p:J)(lv:Nat):Prop where
 c0:Ln k (dV p lv 0)
 f0:Fr lv (dV p lv 0)
 c1:Kn k (dV p lv 1)
 len:(bk p lv).length<=2
 all:∀c∈bk p lv,Ln k c/\Fr lv c
 l0:bk p lv=[]↔cP p=true
 y6:cP p=false->((bk p lv).length:Int)=ez p lv+1
 ev:∀ρ y,Go.Proofs.YtfbmhjooliccnaaGreatDoor.ev (up ρ lv y) p=fV ρ p lv 0+fV ρ p lv 1*y
def tn(h:Ln k p)(G:k<=50000){lv:Nat}(s:1<=lv)(u:lv<=4):Wq k p lv:=by
 have l:=YG h.sz O O s u;have o:=h.sz.vd lv;have hlen:(bk p lv).length<=2:=by
  cases m:cP p with
  |true=>rw[l.ac3 m];simp
  |false=>have:=l.len m;unfold ez at o;rw[m]at o;simp at o;omega
 have g:∀d y,Go.Proofs.YtfbmhjooliccnaaGreatDoor.ev (up d lv y) p=fV d p lv 0+fV d p lv 1*y:=λd y=>by
  rw[l.ev];unfold fV dV
  match bk p lv,hlen with
  |[],_=>simp[dy,jW];try grind
  |[a],_=>simp[dy,jW];try grind
  |[a,b],_=>simp[dy,jW];try grind
 have v:=O6 h.sz O O s u 0;have w:=O6 h.sz O O s u 1;have q:kR (dV p lv 0):=λd f t=>by
  have e:=λd=>g d 0
  have x:=h.xl (up d lv 0) (up f lv 0) t;have:(λi=>(up f lv 0) i+t*((up d lv 0) i-(up f lv 0) i))=up (λi=>f i+t*(d i-f i)) lv 0:=by funext i;unfold up;split<;>grind
  rw[this,e,e,e]at x;unfold fV at x;grind
 have A:∀d,fV d p lv 1=Go.Proofs.YtfbmhjooliccnaaGreatDoor.ev (up d lv 1) p-Go.Proofs.YtfbmhjooliccnaaGreatDoor.ev (up d lv 0) p:=λd=>by rw[g,g];grind
 have B:∀d f,fV d p lv 1=fV f p lv 1:=λd f=>by
  have C:=h.xl (up d lv 1) (up f lv 0) (1/2);have D:=h.xl (up f lv 1) (up d lv 0) (1/2);have:(λi=>(up f lv 0) i+1/2*((up d lv 1) i-(up f lv 0) i))=λi=>(up d lv 0) i+1/2*((up f lv 1) i-(up d lv 0) i):=by funext i;unfold up;split<;>grind
  rw[this,D]at C;rw[A,A];grind
 refine⟨⟨v.1,q⟩,v.2,.DD (z:=fV (λ_=>0) p lv 1) w.1 λd=>B d _,hlen,λc r=>⟨⟨l.sz c r,?_⟩,l.frl c r⟩,⟨λE=>?_,l.ac3⟩,λm=>?_,g⟩
 ·have j:kR (dV p lv 1):=by obtain⟨n,e,_⟩:=(Kn.DD (z:=fV (λ_=>0) p lv 1) w.1 λd=>B d _).z;rw[e];exact .const n
  unfold dV at q j
  match bk p lv,hlen,r,q,j with
  |[a],_,h,q,_=>rw[cL.1 h];exact q
  |[a,b],_,h,q,j=>
   rcases da.1 h with rfl|h
   ·exact q
   ·rw[cL.1 h];exact j
 ·cases m:cP p with
  |true=>rfl
  |false=>have:=l.len m;rw[E]at this;have:=PM h.bR s;simp at*;omega
 ·have:=l.len m;unfold ez;rw[m];simpa using this
def Ix(w:Int)(p:J):=∀a y,ev (up a w y) p=ev a p
def Ix.const(w n:Int):Ix w (kP n):=λa y=>by rw[jw,jw]
def Ix.add(a:bQ 4 p)(b:bQ 4 q)(h:Ix w p)(c:Ix w q):Ix w (lG p q):=λd y=>by rw[xz a b,xz a b,h,c]
def Ix.tx(a:bQ 4 p)(h:Ix w p)(n:Int):Ix w (ca p (kP n)):=λb y=>by rw[AG a,AG a,h]
def Ix.neg(a:bQ 4 p)(h:Ix w p):Ix w (li p):=λb y=>by rw[y_ a,y_ a,h]
def Ix.sn(e:b8 p)(h:Ix w p):Ix w (eQ p):=λa y=>by
 obtain⟨d,c⟩:=Bt e;have f:=c.ev (up a w y);rw[h,<-c.ev a]at f;have g:(d:Rat)≠0:=by intro b;have:((d:Int):Rat)=((0:Int):Rat):=b;exact c.nz (N2.1 this)
 have:(d:Rat)*(ev (up a w y) (eQ p)-ev a (eQ p))=0:=ah;rcases N4.1 this with b|b
 ·exact absurd b g
 ·grind
def Fr.ix(h:Fr w p):Ix w p:=λa y=>h.ev a y
def Kn.ix(h:Kn k p)(w:Int):Ix w p:=by obtain⟨n,rfl,_⟩:=h.z;exact .const w n
def aI_(a:ay)(h:r≠w)(x y:Rat):up (up a r x) w y=up (up a w y) r x:=by
 funext i;unfold up;split
 ·rename_i b;rw[Z O]
 ·rfl
def KH(h:Wq k p K)(a:Ix w p\/w=K):Ix w (dV p K 0):=by
 by_cases e:w=K
 ·rw[e];exact h.f0.ix
 ·have a:Ix w p:=a.resolve_right e;intro b y;have c:=h.ev (up b w y) 0;have d:=h.ev b 0;rw[aI_ b e,a,d]at c;unfold fV at c;grind
structure LX(k:Nat)(T:Int->Prop)(p:J):Prop where
 ln:Ln k p
 ix:∀w,T w->Ix w p
theorem LX.up{k l:Nat}{T:Int->Prop}{p:J}(h:LX k T p)(a:k<=l):LX l T p:=⟨h.ln.up a,h.ix⟩
def LX.rq(a:k<=100000){T:Int->Prop}:∀p,LX k T p->b8 p/\LX k T (eQ p):=λp h=>⟨h.ln.np a,h.ln.sn a,λw b=>(h.ix w b).sn (h.ln.np a)⟩
def LX.rn(a:k<=100000){T:Int->Prop}:∀p,LX k T p->b8 p/\LX k T (dT p):=λp h=>⟨h.ln.np a,by rw[h.ln.sz.cB O a];exact h⟩
def LX.at(a:k<=100000)(h:LX k X p)(r:Int):CM (LX k X) (dB p r):=Oy (LX.rq a p h).2 r
def Kn.lx(h:Kn k p)(T:Int->Prop):LX k T p:=⟨h.ln,λw _=>h.ix w⟩
def TL(T:Int->Prop)(a:Int):Int->Prop:=λw=>T w\/w=a
structure LT(K lv:Nat)(T:Int->Prop)(t:bw):Prop where
 a:LX K (TL T lv) t.a
 b:t.b=zP
 c:t.c=zP
 d:Kn K t.d
 kd:t.aJ=1\/t.aJ=2\/t.aJ=3
 one:t.aJ=1->t=v8
 nz:t.aJ≠1->∀ρ,ev ρ t.d≠0
 g:t.g=.mk 1 0 zP []
 fr:Fr lv t.a
theorem LT.v8(K:Nat){e:Nat}(f:1<=e)(T:Int->Prop):LT K e T v8:=⟨(Kn.zero K).lx _,rfl,rfl,.zero K,.inl rfl,λ_=>rfl,λh=>absurd rfl h,rfl,.zero O⟩
def xT(a:ay)(t:bw):Rat:=ev a t.a/ev a t.d
def jZ(a:ay)(b r:Int)(p:J):fx:=⟨r,fV a p b 0,fV a p b 1⟩
def ajD:cP zP=true:=rfl
def Lm(a:bQ 4 q):ca zP q=zP:=Ll a
structure amA(k K lv:Nat)(T:Int->Prop)(p:J)(t:bw):Prop where
 v:(il p lv t).2=zP
 u:LX (k+2*K+9) (TL T lv) (il p lv t).1
 s:t.aJ≠1->∀ρ,dx (ev ρ (il p lv t).1)=dx ((jZ ρ lv 0 p).v (xT ρ t))
 kn:(∃z,∀ρ,ev ρ p=z)->∃z,∀ρ,ev ρ (il p lv t).1=z
def ajb(h1:1<=l)(h4:l<=4)(hk:k<=50000)(N:LX k X p)(f:LT K l X t):amA k K l X p t:=by
 have u:=tn N.ln hk h1 h4;have L:∀w,TL X l w->Ix w (dV p l 0):=λw r=>KH u (r.imp (N.ix w) id)
 have o:∀d,fV d p l 0=ev d (dV p l 0):=λ_=>rfl
 have q:∀d,fV d p l 1=ev d (dV p l 1):=λ_=>rfl
 have v:=u.c0;have G:=u.c1;have B:cP t.b=true:=by rw[f.b];rfl
 have k1:Kn 1 (kP 1):=.of ae;have g:LX k (TL X l) (dV p l 0):=⟨v,L⟩;have s:∀{a b:Nat}{x y:J},LX a (TL X l) x->LX b (TL X l) y->LX (max a b+1) (TL X l) (lG x y):=λj h=>⟨j.ln.add h.ln,λw r=>(j.ix w r).add j.ln.bR h.ln.bR (h.ix w r)⟩
 have m:∀{a b:Nat}{x y:J},LX a (TL X l) x->Kn b y->LX (a+b) (TL X l) (ca x y):=λj h=>⟨j.ln.GU h,λw r=>by obtain⟨n,rfl,_⟩:=h.z;exact(j.ix w r).tx j.ln.bR n⟩
 have C:∀{a b:Nat}{x y:J},Kn a x->LX b (TL X l) y->LX (a+b) (TL X l) (ca x y):=λj h=>⟨.O5 j h.ln,λw r=>by rw[j.comm h.ln.bR];obtain⟨n,rfl,_⟩:=j.z;exact(h.ix w r).tx h.ln.bR n⟩
 have one:((1:Int):Rat)=1:=rfl;unfold dV at*
 match i:bk p l,u.len with
 |[],_=>
  rw[i]at o q;have e:il p l t=(zP,zP):=by unfold il;rw[i,Z ai];rfl
  refine⟨by rw[e],by rw[e];exact((Kn.zero 0).lx _).up O,λ_ d=>?_,λ_=>⟨0,λd=>by rw[e];exact jW d⟩⟩;rw[e];unfold fx.v jZ;rw[o,q];simp[jW];congr 1;grind
 |[a],_=>
  rw[i]at o q g v;simp at o q g v;have e:il p l t=(lG (ca zP t.a) (ca a (kP 1)),ca zP t.a):=by unfold il;rw[i,Z ai];simp[fQ,pO,B]
  rw[Lm f.a.ln.bR]at e;have P:=m g k1;have H:=s ((Kn.zero 0).lx _) P;have E:∀d,ev d (lG zP (ca a (kP 1)))=ev d a:=λd=>by rw[xz (.zero 4) P.ln.bR,y9 v.bR k1,jw,jW,one];grind
  refine⟨by rw[e],by rw[e];exact H.up O,λ_ d=>?_,λ⟨z,B⟩=>⟨z,λd=>?_⟩⟩
  ·rw[e];show dx (ev d (lG zP (ca a (kP 1))))=_;rw[E];unfold fx.v jZ;rw[o,q,jW];congr 1;grind
  ·rw[e];show ev d (lG zP (ca a (kP 1)))=z;rw[E];have:=u.ev d 0;rw[B,o]at this;grind
 |[a,b],_=>
  rw[i]at o q g v G;simp at o q g v G;have e:il p l t=(ca (lG (ca (lG (ca zP t.a) (ca b (kP 1))) t.a) (ca a (ca (kP 1) t.d))) t.d,ca (ca (ca zP t.a) t.a) t.d):=by unfold il;rw[i,aM ai];simp[fQ,pO,B]
  rw[Lm f.a.ln.bR,Lm f.a.ln.bR,Lm f.d.bR]at e;have b1:=G.mul k1;have H:=(Kn.zero 0).add b1;have Q:=k1.mul f.d;have R:=C H f.a;have U:=m g Q;have V:=s R U;have x4:=m V f.d;have E:∀d,ev d (il p l t).1=(ev d b*ev d t.a+ev d a*ev d t.d)*ev d t.d:=λd=>by rw[e];show ev d (ca _ t.d)=_;rw[y9 V.ln.bR f.d,xz R.ln.bR U.ln.bR,auW H f.a.ln.bR,xz (.zero 4) b1.bR,y9 G.bR k1,y9 v.bR Q,y9 k1.bR f.d,jw,jW,one];grind
  refine⟨by rw[e],by rw[e];exact x4.up O,λM d=>?_,λ⟨z,B⟩=>?_⟩
  ·rw[E];unfold fx.v jZ xT;rw[o,q];have hd:=f.nz M d;generalize ev d t.d=D at*;generalize ev d t.a=A at*;have hD:D*(A/D)=A:=by rw[Rat.div_def];have:=Rat.mul_inv_cancel D hd;grind
   generalize A/D=c at*;have pI:=aHS hd;have:(ev d b*A+ev d a*D)*D=(ev d a+ev d b*c)*(D*D):=by rw[<-hD];grind
   rw[this];exact Mv pI
  ·obtain⟨y,h⟩:=f.d.ev;refine⟨z*y*y,λd=>?_⟩;have y0:=u.ev d 0;have y1:=u.ev d 1;rw[B,o,q]at y0 y1;rw[E,h];have b0:ev d b=0:=ah;have a0:ev d a=z:=ah;rw[b0,a0];grind
def fv(q:J)(m:F):Prop:=(∃b,m=tM b)\/∃r,m=.mk 2 r q []
def fv.sz(h:fv q m):ba m=1:=by
 rcases h with⟨b,rfl⟩|⟨r,rfl⟩
 ·cases b<;>(unfold tM;simp[ba,e_])
 ·rw[ba,e_]
def Jd(p:J)(r:Int):fv (eQ p) (dB p r):=by
 unfold dB;split
 ·exact .inl ⟨_,rfl⟩
 ·exact .inr ⟨_,rfl⟩
def aIu(b:Bool):(tM b).aJ=if b then 1 else 0:=by cases b<;>rfl
def aDA(b:Bool):bF (tM b)=tM b:=by cases b<;>(unfold tM;simp[bF];try rfl)
theorem fv.jn{q:J}{K:Int}(g:K=3\/K=4):∀{l a:List F},(∀c∈l,fv q (bF c))->(a=[]\/∃r,a=[.mk 2 r q []])->fv q (fW K l a)
 |[],a,_,h=>by
  rw[fW];rcases h with rfl|⟨r,rfl⟩
  ·unfold xB uK;rcases g with rfl|rfl
   ·exact .inl ⟨true,rfl⟩
   ·exact .inl ⟨false,rfl⟩
  ·exact .inr ⟨r,rfl⟩
 |bu::r,a,m,h=>by
  have n:=m bu (b6 ..);have i:∀c∈r,fv q (bF c):=λc o=>m c (cv _ o)
  have d:fv q (.mk (nH K) 0 zP []):=by
   unfold nH;rcases g with rfl|rfl
   ·exact .inl ⟨false,rfl⟩
   ·exact .inl ⟨true,rfl⟩
  rw[fW];split
  ·exact d
  ·rename_i k;split
   ·exact fv.jn g i h
   ·rename_i j;rcases n with⟨b,p⟩|⟨s,I⟩
    ·exfalso;rw[p,aIu]at k j;unfold nH at k;unfold uK at j;rcases g with rfl|rfl<;>cases b<;>simp at k j
    ·rw[I];have:¬(F.mk 2 s q []).aJ=K:=by show¬(2:Int)=K;omega
     rw[Z this];rcases h with rfl|⟨t,rfl⟩
     ·simp only[nO,cO,gT];exact fv.jn g i (.inr ⟨s,rfl⟩)
     ·have f:ij q q=true:=Hs.2 rfl;have e:cO K (.mk 2 s q []) [.mk 2 t q []]=([.mk 2 (mZ K t s).1 q []],(mZ K t s).2):=by rw[cO,Z (by show¬(2:Int)≠2;omega),Z (by show¬(2:Int)≠2;omega)];exact aM f
      simp only[nO,e];cases(mZ K t s).2 with
      |true=>exact fv.jn g i (.inr ⟨_,rfl⟩)
      |false=>exact d
def fv.node{q:J}{K:Int}(a:K=3\/K=4){r:Int}{p:J}{l:List F}(h:∀c∈l,fv q (bF c)):fv q (bF (.mk K r p l)):=by
 rw[bF,Z O,Z O];rcases a with rfl|rfl
 ·rw[aM rfl];exact fv.jn (.inl rfl) h (.inl rfl)
 ·rw[Z ae,aM rfl];exact fv.jn (.inr rfl) h (.inl rfl)
def fv.Ee(d:w=3\/w=4){b:F}(e:fv q (bF m))(f:fv q (bF b)):fv q (bF (.mk w r p [m,b])):=fv.node d λc hc=>by
 rcases da.1 hc with rfl|hc
 ·exact e
 ·rw[cL.1 hc];exact f
theorem fv.tM(q:J)(b:Bool):fv q (bF (tM b)):=by rw[aDA];exact .inl ⟨b,rfl⟩
def Bu(c:k<=100000)(h:Ln k p)(r:Int):fv (eQ (eQ p)) (bF (dB p r)):=by
 rcases Jd p r with⟨b,a⟩|⟨s,I⟩
 ·rw[a];exact .tM _ b
 ·rw[I,bF,Z ae,aM rfl];exact Jd _ _
def Kn.OX(h:Kn k p):(cY p).aK=0:=by obtain⟨n,rfl,_⟩:=h.z;rw[vz,aM (FG (.const (L:=4) n))];rfl
def Kn.gE(h:Kn k p)(r:Int):∃b,dB p r=tM b:=by unfold dB;rw[aM h.OX];exact⟨_,rfl⟩
theorem Kn.fv{k:Nat}{p:J}(h:Kn k p)(q:J)(r:Int):fv q (bF (dB p r)):=by obtain⟨b,e⟩:=h.gE r;rw[e];exact .tM q b
def aes(b:Bool):dS (tM b)=tM (!b):=by cases b<;>(unfold tM;simp[dS];try rfl)
def fv.aev(a:k<=100000)(h:Ln k p)(r:Int):fv (eQ (eQ p)) (bF (dS (dB p r))):=by
 rcases Jd p r with⟨b,c⟩|⟨s,I⟩
 ·rw[c,aes];exact .tM _ _
 ·rw[I,dS,Z ae,aM rfl,(h.sn a).sz.cB O a,bF,Z ae,aM rfl];exact Jd _ _
def fv.aCT(h:Kn k p)(q:J)(r:Int):fv q (bF (dS (dB p r))):=by obtain⟨b,e⟩:=h.gE r;rw[e,aes];exact .tM q _
structure yN(k:Nat)(T:Int->Prop)(m:F)(s:(Int->Rat)->Bool):Prop where
 cm:CM (LX k T) m
 tr:∀ρ,Go.Proofs.YtfbmhjooliccnaaGreatDoor.tr ρ m=s ρ
 a1:∃q,fv q (bF m)
 sz:ba m<=5
def ae7(h:R6 r)(a:¬nv r):r=3\/r=4:=by unfold nv at a;rcases h.cases with rfl|rfl|rfl|rfl|rfl|rfl<;>simp at a⊢
def aJx(d:k<=100000){l:List J}(h:∀c∈l,LX k X c):CM (LX k X) (j_ l)/\∀a,tr a (j_ l)=l.all λc=>decide (ev a c=0):=by
 unfold j_;refine⟨.node 3 _ (.inl rfl) λc e=>?_,λa=>?_⟩
 ·obtain⟨x,b,rfl⟩:=b_.1 e;exact(h x b).at d 3
 ·rw[MW]
  induction l with
  |nil=>rw[gW,eV];rfl
  |cons c r f=>rw[de,eV,f λx b=>h x (cv _ b),xn a ((h c (b6 ..)).ln.np d),w_];congr 1;rw[oV,rH3,be]
def af5(a:nv r)(s:Int)(b:Bool):(rH (qC r) s||(rH 3 s&&b))=if s=0 then b else rH r s:=by
 by_cases h:s=0
 ·rw[aM h,h];rcases a with rfl|rfl|rfl|rfl<;>simp[qC,rH]
 ·rw[Z h,aHY a h];have:rH 3 s=false:=by simp[rH,h]
  rw[this];simp
def aJz(a:J):ba (j_ [a])=2:=by unfold j_ df;rw[ba,de,dW,qX,gW,e_]
def aJA(a b:J):ba (j_ [a,b])=3:=by unfold j_ df;rw[ba,de,dW,qX,de,dW,qX,gW,e_]
def ajd(r:k<=50000){T:Int->Prop}(s:1<=K)(t:K<=4)(q:LX k T p):
 yN k (TL T K) (j_ (bk p K)) (λf=>decide (fV f p K 0=0/\fV f p K 1=0))/\
 yN k (TL T K) (dS (j_ (bk p K))) (λf=>!decide (fV f p K 0=0/\fV f p K 1=0)):=by
 have e:=tn q.ln r s t;have m:∀w,TL T K w->Ix w (dV p K 0):=λw u=>KH e (u.imp (q.ix w) id)
 have v:∀f,fV f p K 0=ev f (dV p K 0):=λ_=>rfl
 have x:∀f,fV f p K 1=ev f (dV p K 1):=λ_=>rfl
 have g:=e.c1;have d:LX k (TL T K) (dV p K 0):=⟨e.c0,m⟩;have i:LX k (TL T K) (dV p K 1):=g.lx _;have n:∀c∈bk p K,LX k (TL T K) c:=λc o=>by
  unfold dV at d i
  match bk p K,e.len,o,d,i with
  |[a],_,h,d,_=>rw[cL.1 h];exact d
  |[a,b],_,h,d,i=>
   rcases da.1 h with rfl|h
   ·exact d
   ·rw[cL.1 h];exact i
 obtain⟨v1,v2⟩:=aJx O n;obtain⟨y,z,B⟩:=DA (LX.rn (T:=TL T K) (show k<=100000 by omega)) v1.rm;have j:∀f,tr f (j_ (bk p K))=decide (fV f p K 0=0/\fV f p K 1=0):=λf=>by
  rw[v2,v,x];unfold dV
  match bk p K,e.len with
  |[],_=>simp[jW]
  |[a],_=>simp[jW]
  |[a,b],_=>simp
 have I:ba (j_ (bk p K))<=3:=by
  match bk p K,e.len with
  |[],_=>unfold j_ df;rw[ba];simp[e_]
  |[a],_=>rw[aJz];omega
  |[a,b],_=>rw[aJA];omega
 refine⟨⟨v1,j,?_,O⟩,⟨y,λf=>by rw[z,j],?_,O⟩⟩
 ·unfold dV at d g
  match bk p K,e.len,d,g with
  |[],_,_,_=>exact⟨zP,fv.node (.inl rfl) λc e=>by simp at e⟩
  |[a],_,d,_=>exact⟨_,fv.node (.inl rfl) λc e=>by simp at e;rw[e];exact Bu O d.ln 3⟩
  |[a,b],_,d,g=>exact⟨_,fv.Ee (.inl rfl) (Bu O d.ln 3) (g.fv _ 3)⟩
 ·unfold dV at d g;have A:∀l:List J,dS (j_ l)=.mk 4 0 zP (l.map λc=>dS (dB c 3)):=λl=>by unfold j_ df;rw[dS,Z ae,Z ae,aM (.inl rfl),RZ,jc];rfl
  rw[A]
  match bk p K,e.len,d,g with
  |[],_,_,_=>exact⟨zP,fv.node (.inr rfl) λc e=>by simp at e⟩
  |[a],_,d,_=>exact⟨_,fv.node (.inr rfl) λc e=>by simp at e;rw[e];exact fv.aev O d.ln 3⟩
  |[a,b],_,d,g=>exact⟨_,fv.Ee (.inr rfl) (fv.aev O d.ln 3) (fv.aCT g _ 3)⟩
def apb(v:k<=50000)(x:1<=K)(y:K<=4)(q:LX k X p)(B:R6 r):
 yN k (TL X K) (rV p r K) (λc=>rH r (jZ c K r p).vU):=by
 have n:=tn q.ln v x y;obtain⟨i,j⟩:=ajd v x y q;have l:∀w,TL X K w->Ix w (dV p K 0):=λw C=>KH n (C.imp (q.ix w) id)
 have z:∀c,fV c p K 0=ev c (dV p K 0):=λ_=>rfl
 have A:∀c,fV c p K 1=ev c (dV p K 1):=λ_=>rfl
 have m:=n.c1;have d:LX k (TL X K) (dV p K 0):=⟨n.c0,l⟩;unfold rV;by_cases o:nv r
 ·rw[aM o];unfold fx.vU jZ;simp only[z,A];clear z A l i j;unfold dV at*
  match bk p K,n.len,d,m with
  |[],_,_,_=>rw[aM rfl];have s:=Kn.zero k;exact⟨(s.lx _).at O r,λc=>by rw[xn c (s.ln.np O)];simp[jW],⟨zP,s.fv _ r⟩,by rw[qX];omega⟩
  |[a],_,d,_=>rw[Z ai];simp at d;have t:ui [a] r ([a].length-1)=dB a r:=rfl;rw[t];exact⟨d.at O r,λc=>by rw[xn c (d.ln.np O)];simp[jW],⟨_,Bu O d.ln r⟩,by rw[qX];omega⟩
  |[a,b],_,d,m=>
   rw[Z ai];simp at d m;have t:ui [a,b] r ([a,b].length-1)=kq [dB (li b) (qC r),df [dB (li b) 3,dB a r]]:=rfl;rw[t];have f:=m.neg;refine⟨.DI ((f.lx _).at O _) (.Ar ((f.lx _).at O _) (d.at O _)),λc=>?_,⟨eQ (eQ a),fv.Ee (.inr rfl) (f.fv _ _) (fv.Ee (.inl rfl) (f.fv _ _) (Bu O d.ln r))⟩,by rw[aiw,MN,qX,qX,qX];omega⟩;rw[ai0,Uw,xn c (f.ln.np O),xn c (f.ln.np O),xn c (d.ln.np O),af5 o,y_ m.bR,ahP];simp;by_cases u:ev c b=0
   ·rw[u,zJ];simp
   ·have:=Hv u;rw[Z O,Z u]
 ·rw[Z o];have e:∀c,(jZ c K r p).vU=0↔(fV c p K 0=0/\fV c p K 1=0):=λc=>by
   unfold fx.vU jZ;simp only;split
   ·rename_i h;constructor
    ·exact λg=>⟨ahO g,h⟩
    ·rintro⟨g,_⟩;rw[g];exact zJ
   ·rename_i h;have:=Hv h;constructor
    ·intro g;omega
    ·rintro⟨_,g⟩;exact absurd g h
  rcases ae7 B o with rfl|rfl
  ·rw[Z ae];exact⟨i.cm,λc=>by rw[i.tr,oV,be,<-e c];simp[rH],i.a1,i.sz⟩
  ·rw[aM rfl];exact⟨j.cm,λc=>by rw[j.tr,oV];have:=e c;simp[rH];grind,j.a1,j.sz⟩
def Fi(c:1<=l)(d:l<=4)(f:k<=50000)(g:k+2*K+9<=50000)(h:LX k X p)(i:LT K l X t)(j:t.aJ≠1)(r:Int):
 yN (k+2*K+9) (TL X l) (lI p r l t) (λb=>rH r (dx ((jZ b l 0 p).v (xT b t))))/\∃u,Ln (k+2*K+9) u/\∀r,lI p r l t=dB u r:=by
 have a:=ajb c d f h i;have e:∀r,lI p r l t=dB (il p l t).1 r:=λr=>by unfold lI;rw[a.v,aM ajD]
 refine⟨?_,_,a.u.ln,e⟩;rw[e];exact⟨a.u.at O r,λb=>by rw[xn b (a.u.ln.np O),a.s j],⟨_,Bu O a.u.ln r⟩,by rw[qX];omega⟩
def Z1{k:Nat}(u:k<=50000){lv:Nat}(s:1<=lv)(t:lv<=4)(v:Ln k p)(o:0<ez p lv):Kn (k+5) (kF p lv)/\∀f,ev f (kF p lv)=fV f p lv 1:=by
 have g:=tn v u s t;have j:cP p=false:=by
  cases j:cP p with
  |false=>rfl
  |true=>unfold ez at o;rw[j]at o;simp at o
 have hlen:=g.y6 j;have w:=g.len;have h:=g.c1;have m:∀f,fV f p lv 1=ev f (dV p lv 1):=λ_=>rfl
 have one:((1:Int):Rat)=1:=rfl;unfold kF;unfold dV at h m;have x:(bk p lv).length=2:=O
 match q:bk p lv,x with
 |[a,b],_=>
  rw[q]at h m;simp at h m;rw[Z ai];have k1:Kn 1 (kP 1):=.of ae;have r:=h.mul k1;have e:((List.range ([a,b].length-1)).map λ(i:Nat)=>ca ((([a,b]:List J)[i+1]?).getD zP) (kP ((i:Int)+1)))=[ca b (kP 1)]:=rfl;rw[e];obtain⟨j1,j2,_,_,y⟩:=ack (d:=1) (k:=k+1) O O s t (cs:=[ca b (kP 1)]) ai (λc g=>by rw[cL.1 g];exact r.ln.sz) (λc g=>by rw[cL.1 g];obtain⟨n,e,_⟩:=r.z;rw[e];exact .const O n)
  obtain⟨z,j⟩:=r.ev;have l:∀f,ev f (qj [ca b (kP 1)] lv)=ev f b:=λf=>by have:=j2 f (f lv);rw[HO]at this;rw[this,dy,dy,y9 h.bR k1,jw,one];grind
  refine⟨.DD (z:=z) y λf=>?_,λf=>by rw[l,m]⟩;rw[l,<-j f,y9 h.bR k1,jw,one];grind
def anr{lv:Nat}(b:1<=lv)(c:lv<=4)(hkK:k+2*K+14<=50000){p:J}(d:LX k X p)(j:LT K lv X t)(y:t.aJ≠1)(hr:R6 r):
 yN (k+2*K+14) (TL X lv) (uh p r lv t) (λa=>rH r ((jZ a lv r p).rU (xT a t))):=by
 have g:k<=50000:=O;have U:=tn d.ln g b c;obtain⟨A,B⟩:=ajd g b c d;have l:∀{m s},yN k (TL X lv) m s->yN (k+2*K+14) (TL X lv) m s:=λh=>⟨h.cm.imp λp d=>d.up O,h.tr,h.a1,h.sz⟩
 unfold uh;by_cases C:nv r
 ·rw[aM C];obtain⟨D,u,V,E⟩:=Fi b c g O d j y r;have a2:=(Fi b c g O d j y (qC r)).1;have a3:=(Fi b c g O d j y 3).1;unfold vI;by_cases L:0<ez p lv
  ·rw[aM L];obtain⟨dk,dv⟩:=Z1 g b c d.ln L;have M:¬0<ez (kF p lv) lv:=by
    obtain⟨n,e,_⟩:=dk.z;have:Fr (lv:Int) (kF p lv):=by rw[e];exact .const O n
    have:=this.vd;omega
   unfold vI;rw[Z M];have b1:=(Fi (p:=kF p lv) b c O O (dk.lx X) j y r).1;obtain⟨w,wk,ew⟩:∃w,Kn (k+5+2*K+9) w/\lI (kF p lv) r lv t=dB w r:=by
    have N:=ajb b c O (dk.lx X) j;have e:lI (kF p lv) r lv t=dB (il (kF p lv) lv t).1 r:=by unfold lI;rw[N.v,aM ajD]
    obtain⟨z,G⟩:=N.kn dk.ev;exact⟨_,.DD N.u.ln.sz G,e⟩
   have P:ug r lv t [p,kF p lv]=kq [lI p (qC r) lv t,df [lI p 3 lv t,lI (kF p lv) r lv t]]:=rfl;rw[P];have o:∀q,LX (k+2*K+9) (TL X lv) q->LX (k+2*K+14) (TL X lv) q:=λq x=>x.up O
   refine⟨.DI (a2.cm.imp o) (.Ar (a3.cm.imp o) (b1.cm.imp λq x=>x.up O)),λa=>?_,⟨eQ (eQ u),?_⟩,?_⟩
   ·rw[ai0,Uw,a2.tr,a3.tr,b1.tr,af5 C];have hf:(jZ a lv 0 (kF p lv)).v (xT a t)=fV a p lv 1:=by have Q:=tn dk.ln O b c;have:=Q.ev a (xT a t);have R:=(dk.ix lv) a (xT a t);unfold fx.v jZ;rw[<-this,R,dv]
    rw[hf];unfold fx.rU;have e:(jZ a lv r p).v (xT a t)=(jZ a lv 0 p).v (xT a t):=rfl;rw[e];by_cases H:(jZ a lv 0 p).v (xT a t)=0
    ·rw[aM H,H,zJ,aM rfl];rfl
    ·rw[Z H,Z (Hv H)]
   ·rw[E,E,ew];exact fv.Ee (.inr rfl) (Bu O V _) (fv.Ee (.inl rfl) (Bu O V _) (wk.fv _ _))
   ·rw[aiw,MN,E,E,ew,qX,qX,qX];omega
  ·rw[Z L];have P:ug r lv t [p]=lI p r lv t:=rfl;rw[P];refine⟨D.cm.imp λq x=>x.up O,λa=>?_,D.a1,D.sz⟩;rw[D.tr];have f1:(jZ a lv r p).f1=0:=by
    show fV a p lv 1=0;have hl:(bk p lv).length<=1:=by
     cases G:cP p with
     |true=>rw[U.l0.2 G];simp
     |false=>have:=U.y6 G;omega
    unfold fV dV;rw[iM O];exact jW a
   rw[fx.Of f1];rfl
 ·rw[Z C];have f:∀a,(jZ a lv r p).rU (xT a t)=0↔(fV a p lv 0=0/\fV a p lv 1=0):=λa=>by
   unfold fx.rU fx.v jZ;simp only;split
   ·rename_i h;constructor
    ·intro i;have:=ahO i;rw[this]at h;exact⟨ah,this⟩
    ·rintro⟨_,i⟩;rw[i];exact zJ
   ·rename_i h;have:=Hv h;constructor
    ·intro i;omega
    ·rintro⟨i,h5⟩;rw[i,h5]at h;exact absurd ah h
  rcases ae7 hr C with rfl|rfl
  ·rw[Z ae];exact l ⟨A.cm,λa=>by rw[A.tr,oV,be,<-f a];simp[rH],A.a1,A.sz⟩
  ·rw[aM rfl];exact l ⟨B.cm,λa=>by rw[B.tr,oV];have:=f a;simp[rH];grind,B.a1,B.sz⟩
mutual
theorem Xw {lv:Int} {t:bw} {ρ d:ay}:∀{m:F},(∀x∈gX m,tr ρ (oP x.2 x.1 lv t)=rH x.1 (dx (ev d x.2)))->tr ρ (fG lv t m)=tr d m
 |.mk k r p ks,h=>by
  rw[fG]
  by_cases f:k=2
  ·rw[aM f]
   have e:gX (.mk k r p ks)=[(r,p)]:=by rw[gX,aM f]
   rw[e]at h
   rw[h (r,p) (cL.2 rfl),tr,Z O,aM f]
  ·rw[Z f]
   by_cases c:k=3\/k=4
   ·rw[aM c]
    have e:gX (.mk k r p ks)=mB ks:=by rw[gX,Z f,aM c]
    rw[e]at h
    have:=Xz (l:=ks) h
    rw[qF ρ c,qF d c]
    unfold jg
    rw[this.1,this.2]
   ·obtain⟨j,i⟩:=re.1 c
    rw[Z c,tr,tr]
    simp only[f,j,i,lM]
theorem Xz {lv:Int} {t:bw} {ρ d:ay}:∀{l:List F},(∀x∈mB l,tr ρ (oP x.2 x.1 lv t)=rH x.1 (dx (ev d x.2)))->eV ρ (nK lv t l)=eV d l/\fq ρ (nK lv t l)=fq d l
 |[],_=>by rw[nK];exact⟨rfl,rfl⟩
 |m::r,h=>by
  rw[mB]at h
  have a:=Xw (m:=m) λx g=>h x (cq.2 (.inl g))
  have b:=Xz (l:=r) λx g=>h x (cq.2 (.inr g))
  rw[nK,eV,eV,fq,fq,a,b.1,b.2]
  exact⟨rfl,rfl⟩
end
mutual
theorem Xx {g:Int} {t:bw} {f σ:ay}:∀{m:F},(∀x∈gX m,rH x.1 (dx (ev σ x.2))=true->tr f (oP x.2 x.1 g t)=true)->tr σ m=true->tr f (fG g t m)=true
 |.mk k r p ks,h,d=>by
  rw[fG]
  by_cases i:k=2
  ·rw[aM i]
   have e:gX (.mk k r p ks)=[(r,p)]:=by rw[gX,aM i]
   rw[e]at h
   rw[tr,Z O,aM i]at d
   exact h (r,p) (cL.2 rfl) d
  ·rw[Z i]
   by_cases c:k=3\/k=4
   ·rw[aM c]
    have e:gX (.mk k r p ks)=mB ks:=by rw[gX,Z i,aM c]
    rw[e]at h
    have:=XB (l:=ks) h
    rw[qF σ c]at d
    rw[qF f c]
    unfold jg at d⊢
    split at d
    ·rw[aM Y];exact this.1 d
    ·rw[Z Y];exact this.2 d
   ·obtain⟨o,n⟩:=re.1 c
    rw[Z c]
    rw[tr]at d⊢
    simp only[i,o,n,lM]at d⊢
    exact d
theorem XB {g:Int} {t:bw} {f σ:ay}:∀{l:List F},(∀x∈mB l,rH x.1 (dx (ev σ x.2))=true->tr f (oP x.2 x.1 g t)=true)->(eV σ l=true->eV f (nK g t l)=true)/\(fq σ l=true->fq f (nK g t l)=true)
 |[],_=>by rw[nK];exact⟨λh=>h,λh=>h⟩
 |m::r,h=>by
  rw[mB]at h
  have a:=Xx (m:=m) λx j=>h x (cq.2 (.inl j))
  have b:=XB (l:=r) λx j=>h x (cq.2 (.inr j))
  rw[nK,eV,eV,fq,fq,ej,ej,wO,wO]
  exact⟨λh=>⟨a h.1,b.1 h.2⟩,λh=>h.elim (λh=>.inl (a h)) λh=>.inr (b.2 h)⟩
end
def uZ(a:ay)(b:Int)(t:bw)(p:J):Int:=if t.aJ=1 then(jZ a b 0 p).vU else if t.aJ=2 then dx ((jZ a b 0 p).v (xT a t))else(jZ a b 0 p).rU (xT a t)
def aii(c:1<=l)(d:l<=4)(f:k+2*K+14<=50000)(g:LX k X p)(i:LT K l X t)(m:R6 r):
 yN (k+2*K+14) (TL X l) (oP p r l t) (λa=>rH r (uZ a l t p)):=by
 unfold oP uZ;rcases i.kd with e|e|e
 ·rw[aM e];have h:=apb O c d g m;exact⟨h.cm.imp λq j=>j.up O,λa=>by rw[aM e];exact h.tr a,h.a1,h.sz⟩
 ·have b:t.aJ≠1:=by omega
  rw[Z b,aM e];have h:=(Fi c d O O g i b r).1;exact⟨h.cm.imp λq j=>j.up O,λa=>by rw[Z b,aM e];exact h.tr a,h.a1,h.sz⟩
 ·have b:t.aJ≠1:=by omega
  have n:t.aJ≠2:=O;rw[Z b,Z n];have h:=anr c d f g i b m;exact⟨h.cm,λa=>by rw[Z b,Z n];exact h.tr a,h.a1,h.sz⟩
def zQ:List F->Nat
 |[]=>0
 |m::r=>ba (bF m)+zQ r
theorem QU{R Q:J->Prop}(b:∀p,R p->b8 p/\Q (eQ p)){K:Int}(f:K=3\/K=4):∀{l acc:List F},(∀c∈l,RM R c)->(∀c∈acc,CM Q c)->ba (fW K l acc)<=1+ck acc+zQ l
 |[],acc,_,e=>by rw[fW];have:=(Kf (λ_=>0) f e).2.2;omega
 |bu::r,acc,i,e=>by
  obtain⟨k1,k2,n⟩:=tB b (i bu (b6 ..));have h:∀c∈r,RM R c:=λc g=>i c (cv _ g)
  rw[fW,zQ];split
  ·rw[ba,e_];omega
  ·split
   ·have:=QU b f h e;omega
   ·have a:∀c∈(if(bF bu).aJ=K then(bF bu).aO else [bF bu]),CM Q c:=by
     split
     ·exact k1.bu
     ·intro c g;rw[cL.1 g];exact k1
    have k:ck (if(bF bu).aJ=K then(bF bu).aO else [bF bu])<=ba (bF bu):=by
     split
     ·rw[j8];omega
     ·rw[dW,e_];omega
    split
    ·rename_i d m;have j:=(Kw (λ_=>0) f a e).1 d m;have:=QU b f h j.1;have:=j.2.2;omega
    ·rw[ba,e_];omega
def Si{R:J->Prop}(a:∀p,R p->b8 p/\Q (eQ p)){K:Int}(b:K=3\/K=4){l:List F}(d:∀c∈l,RM R c)(r:Int)(p:J):ba (bF (.mk K r p l))<=1+zQ l:=by
 have h:=QU a b d (acc:=[]) (λc e=>by simp at e);rw[e_]at h;rw[bF,Z O,Z O];rcases b with rfl|rfl
 ·rw[aM rfl];omega
 ·rw[Z ae,aM rfl];omega
structure ajU(k:Nat)(T:Int->Prop)(m:F)(s:Nat):Prop where
 cm:CM (LX k T) m
 hY:ba m<=5*s
 sz:ba (bF m)<=s
mutual
theorem Ov {k K d:Nat} (j:1<=d) (i:d<=4) (e:k+2*K+14<=50000) {T:Int->Prop} {t:bw} (g:LT K d T t):∀{m:F},CM (LX k T) m->ajU (k+2*K+14) (TL T d) (fG d t m) (ba m)
 |.mk kd r p n,h=>by
  rw[fG]
  by_cases w:kd=2
  ·rw[aM w]
   cases h with
   |tt=>omega
   |ff=>omega
   |node K n hK s=>omega
   |gE r p u v=>
    have:=aii j i e v g u
    obtain⟨q,x⟩:=this.a1
    exact⟨this.cm,by rw[ba,e_];have:=this.sz;omega,by rw[x.sz,ba,e_];omega⟩
  ·rw[Z w]
   by_cases f:kd=3\/kd=4
   ·rw[aM f]
    have o:∀c∈n,CM (LX k T) c:=h.bu
    have b:=XA j i e g o
    refine⟨.node kd _ f b.1,by rw[ba,ba];have:=b.2.1;omega,?_⟩
    have:=Si (LX.rq (T:=TL T d) (show k+2*K+14<=100000 by omega)) f (λc hc=>(b.1 c hc).rm) 0 zP
    rw[ba];have:=b.2.2;omega
   ·rw[Z f]
    cases h with
    |tt=>exact⟨.tt,O,by rw[bF,aM rfl];exact Nat.le_of_eq (by unfold tM;simp[ba,e_])⟩
    |ff=>exact⟨.ff,O,by rw[bF,Z ae,Z ae,Z ae,Z ae];exact Nat.le_of_eq (by unfold tM;simp[ba,e_])⟩
    |node K n hK s=>omega
    |gE r p u v=>omega
theorem XA {k K d:Nat} (j:1<=d) (i:d<=4) (e:k+2*K+14<=50000) {T:Int->Prop} {t:bw} (g:LT K d T t):∀{l:List F},(∀c∈l,CM (LX k T) c)->(∀c∈nK d t l,CM (LX (k+2*K+14) (TL T d)) c)/\ck (nK d t l)<=5*ck l/\zQ (nK d t l)<=ck l
 |[],_=>by rw[nK];exact⟨λc hc=>by simp at hc,by rw[e_];omega,dz _⟩
 |m::r,h=>by
  have a:=Ov j i e g (h m (b6 ..))
  have b:=XA j i e g (l:=r) λc hc=>h c (cv _ hc)
  rw[nK]
  refine⟨λc hc=>?_,by rw[dW,dW];have:=a.hY;have:=b.2.1;omega,by rw[dW,zQ];have:=a.sz;have:=b.2.2;omega⟩
  rcases da.1 hc with rfl|hc
  ·exact a.cm
  ·exact b.1 c hc
end
def GJ(r:1<=K)(s:K<=4)(x:k<=50000)(j:LX k X p)(f:ez p K=1):
 LT k K X (pD p K (.mk 1 0 zP []))/\(∀a,fV a p K 1≠0)/\∀a,xT a (pD p K (.mk 1 0 zP []))=-fV a p K 0/fV a p K 1:=by
 have c:=tn j.ln x r s;have l:∀w,TL X K w->Ix w (dV p K 0):=λw m=>KH c (m.imp (j.ix w) id)
 have o:cP p=false:=by
  cases o:cP p with
  |false=>rfl
  |true=>unfold ez at f;rw[o]at f;simp at f
 have g:gh K p=((1:Nat):Int):=by unfold ez at f;rw[o]at f;simpa using f
 have i:=aqU j.ln.sz O O r s (n:=1) O g;obtain⟨n,e,B⟩:=c.c1.z;have q:n≠0:=λh=>by rw[e,h,xG]at i;simp at i
 have y:∀a,fV a p K 1=(n:Rat):=λa=>by unfold fV;rw[e,jw]
 have d:∀a,fV a p K 1≠0:=λa h=>by rw[y]at h;exact q (N2.1 h)
 have z:bF (df [.mk 1 0 zP [],dB (dV p K 1) 4])=.mk 1 0 zP []:=by
  obtain⟨b,t⟩:=c.c1.gE 4;have i:tr (λ_=>0) (dB (dV p K 1) 4)=true:=by rw[xn _ (c.c1.ln.np O),rH4];exact d _
  rw[t,MX]at i;rw[t,i];unfold df;rw[bF,Z ae,Z ae,aM rfl];have u:bF (.mk 1 0 zP [])=.mk 1 0 zP []:=by rw[bF,aM rfl];rfl
  have A:tM true=.mk 1 0 zP []:=rfl;have v:(F.mk 1 0 zP []).aJ=uK 3:=rfl;rw[fW,u,Z ae,aM v,fW,A,u,Z ae,aM v,fW];rfl
 refine⟨⟨⟨c.c0.neg,λw m=>(l w m).neg c.c0.bR⟩,pC,pC,c.c1,.inr (.inl rfl),λh=>absurd (show(2:Int)=1 from h) ae,λ_ a=>d a,z,Fr.neg O c.c0.bR c.f0⟩,d,λa=>?_⟩;unfold xT pD;simp only;rw[y_ c.c0.bR];rfl
theorem LT.jY{K f:Nat}{T:Int->Prop}{t:bw}(h:LT K f T t)(i:t.aJ=2)(r:Int):LT K f T (jY r t):=by
 unfold Go.Proofs.YtfbmhjooliccnaaGreatDoor.jY;split
 ·exact⟨h.a,h.b,h.c,h.d,.inr (.inr rfl),λe=>absurd (show(3:Int)=1 from e) ae,λ_=>h.nz O,h.g,h.fr⟩
 ·exact h
def Tl(f:1<=K)(g:K<=4)(h:k<=50000)(b:LX k X p):(gK p K=[]/\∀a,fV a p K 1=0)\/(gK p K=[pD p K (.mk 1 0 zP [])]/\ez p K=1):=by
 have i:=b.ln.sz.vd K;have c:=tn b.ln h f g;unfold gK;by_cases d:ez p K<1
 ·left;rw[aM d];refine⟨rfl,λa=>?_⟩;have j:(bk p K).length<=1:=by
   cases e:cP p with
   |true=>rw[c.l0.2 e];simp
   |false=>have:=c.y6 e;omega
  unfold fV dV;rw[iM O];exact jW a
 ·right;have:ez p K=1:=O;rw[Z d,aM this];exact⟨rfl,this⟩
def wY(b:bw->ByteArray)(K c:Nat)(T:Int->Prop):=∀t a,LT K c T t->LT K c T a->(b t).toList=(b a).toList->t=a
structure Ce(κ:bw->ByteArray)(K lv:Nat)(T:Int->Prop)(s:PS):Prop where
 pg:∀t∈s.eZ,LT K lv T t
 ks:∀k∈s.nR,∃t∈s.eZ,κ t=k
def ank(b:wY U K k X){s:PS}(I:Ce U K k X s)(d:LT K k X t):
 Ce U K k X (p9 U t s)/\t∈(p9 U t s).eZ/\(∀u∈s.eZ,u∈(p9 U t s).eZ)/\(p9 U t s).eZ.length<=s.eZ.length+1:=by
 unfold p9;split
 ·rename_i h;obtain⟨a,hk,c⟩:=aw3 h;obtain⟨u,hu,rfl⟩:=I.ks a hk;have:=b u t (I.pg u hu) d c;subst this;exact⟨I,hu,λ_ h=>h,O⟩
 ·refine⟨⟨λu hu=>?_,λa hk=>?_⟩,cq.2 (.inr (cL.2 rfl)),λu hu=>cq.2 (.inl hu),ai⟩
  ·rcases cq.1 hu with hu|hu
   ·exact I.pg u hu
   ·rw[cL.1 hu];exact d
  ·rcases cq.1 hk with hk|hk
   ·obtain⟨u,hu,c⟩:=I.ks a hk;exact⟨u,cq.2 (.inl hu),c⟩
   ·rw[cL.1 hk];exact⟨t,cq.2 (.inr (cL.2 rfl)),rfl⟩
structure WS(κ:bw->ByteArray)(K lv:Nat)(T:Int->Prop)(ats:List (Int×J))(s s':PS):Prop where
 i:Ce κ K lv T s'
 all:∀x∈ats,ez x.2 lv=1->jY x.1 (pD x.2 lv (.mk 1 0 zP []))∈s'.eZ
 up:∀u∈s.eZ,u∈s'.eZ
 len:s'.eZ.length<=s.eZ.length+ats.length
mutual
theorem ajm {g:bw->ByteArray} {d k:Nat} (t:1<=d) (q:d<=4) (o:k<=50000) {T:Int->Prop} (f:wY g k d T):∀{m:F},(∀x∈gX m,LX k T x.2)->∀{s:PS},Ce g k d T s->WS g k d T (gX m) s (oT g d m s)
 |.mk kd r p ks,j,s,I=>by
  rw[oT]
  by_cases i:kd=3\/kd=4
  ·rw[aM i]
   have e:gX (.mk kd r p ks)=mB ks:=by rw[gX,Z O,aM i]
   rw[e]at j⊢
   exact ajn t q o f j I
  ·rw[Z i]
   by_cases w:kd=2
   ·rw[aM w]
    have e:gX (.mk kd r p ks)=[(r,p)]:=by rw[gX,aM w]
    rw[e]at j⊢
    have n:LX k T p:=j (r,p) (cL.2 rfl)
    rcases Tl t q o n with⟨z,y⟩|⟨z,y⟩
    ·rw[z,p_]
     exact⟨I,λx c v=>by rw[cL.1 c]at v;exact absurd (y λ_=>0) ((GJ t q o n v).2.1 _),λ_ h=>h,ai⟩
    ·rw[z,p_,p_]
     have B:=(GJ t q o n y).1.jY rfl r
     obtain⟨G,E,D,C⟩:=ank f I B
     exact⟨G,λx c _=>by rw[cL.1 c];exact E,D,by simpa using C⟩
   ·rw[Z w]
    have e:gX (.mk kd r p ks)=[]:=by rw[gX,Z w,Z i]
    rw[e]
    exact⟨I,λx c=>by simp at c,λ_ h=>h,ai⟩
theorem ajn {g:bw->ByteArray} {d k:Nat} (t:1<=d) (q:d<=4) (o:k<=50000) {T:Int->Prop} (f:wY g k d T):∀{l:List F},(∀x∈mB l,LX k T x.2)->∀{s:PS},Ce g k d T s->WS g k d T (mB l) s (oe g d l s)
 |[],_,s,I=>by rw[oe,mB];exact⟨I,λx c=>by simp at c,λ_ h=>h,ai⟩
 |m::r,j,s,I=>by
  rw[mB]at j
  have a:=ajm t q o f (m:=m) (λx c=>j x (cq.2 (.inl c))) I
  have b:=ajn t q o f (l:=r) (λx c=>j x (cq.2 (.inr c))) a.i
  rw[oe,mB]
  refine⟨b.i,λx c v=>?_,λu A=>b.up u (a.up u A),by rw[cX];have:=a.len;have:=b.len;omega⟩
  rcases cq.1 c with c|c
  ·exact b.up _ (a.all x c v)
  ·exact b.all x c v
end
def L9(d:1<=K)(e:K<=4)(b:k<=50000)(c:wY U k K X)(f:∀x∈gX m,LX k X x.2):
 (∀t∈jM U m K,LT k K X t)/\v8∈jM U m K/\(∀x∈gX m,ez x.2 K=1->jY x.1 (pD x.2 K (.mk 1 0 zP []))∈jM U m K)/\(jM U m K).length<=1+ba m:=by
 have g:Ce U k K X ⟨[v8],[]⟩:=⟨λt h=>by rw[cL.1 h];exact .v8 _ d _,λk b=>by simp at b⟩;have a:=ajm d e b c f g;have:=Xh m;exact⟨a.i.pg,a.up _ (cL.2 rfl),a.all,by have:=a.len;unfold jM;simp at this;omega⟩
def aGT{lv:Nat}(o:1<=lv)(p:lv<=4)(R:3*k+14<=50000)(z:wY U k lv X)(N:CM (LX k X) m)(ρ:ay):
 (∃t∈jM U m lv,tr ρ (fG lv t m)=true)↔∃v,tr (up ρ lv v) m=true:=by
 have g:=Ja N;obtain⟨L,M,u,_⟩:=L9 o p O z λx b=>(g x b).2
 have i:∀x∈gX m,∀v,ev (up ρ lv v) x.2=(jZ ρ lv x.1 x.2).v v:=λx b v=>(tn (g x b).2.ln O o p).ev ρ v
 have l:∀t∈jM U m lv,∀x∈gX m,tr ρ (oP x.2 x.1 lv t)=rH x.1 (uZ ρ lv t x.2):=λt q x b=>(aii o p O (g x b).2 (L t q) (g x b).1).tr ρ
 constructor
 ·rintro⟨t,q,A⟩;obtain⟨v,B⟩:∃v,∀x∈gX m,uZ ρ lv t x.2=dx (ev (up ρ lv v) x.2):=by
   rcases(L t q).kd with e|e|e
   ·obtain⟨V,C⟩:=ace ((gX m).map λx=>jZ ρ lv x.1 x.2);refine⟨V,λx b=>?_⟩;rw[i x b,C V Rat.le_refl _ (b_.2 ⟨x,b,rfl⟩)];unfold uZ;rw[aM e];rfl
   ·refine⟨xT ρ t,λx b=>?_⟩;rw[i x b];unfold uZ;rw[Z O,aM e];rfl
   ·obtain⟨d,j,C⟩:=VS.W8 (xT ρ t) ((gX m).map λx=>jZ ρ lv x.1 x.2);refine⟨xT ρ t+d,λx b=>?_⟩;rw[i x b,C d j Rat.le_refl _ (b_.2 ⟨x,b,rfl⟩)];unfold uZ;rw[Z O,Z O];rfl
  refine⟨v,?_⟩;rw[<-Xw (lv:=lv) (t:=t) (ρ:=ρ) λx b=>by rw[l t q x b,B x b]];exact A
 ·rintro⟨v,B⟩;have D:=aqp v ((gX m).map λx=>jZ ρ lv x.1 x.2);have mono:∀t∈jM U m lv,(∀x∈gX m,rH x.1 (dx (ev (up ρ lv v) x.2))=true->rH x.1 (uZ ρ lv t x.2)=true)->tr ρ (fG lv t m)=true:=λt q h=>Xx (σ:=up ρ lv v) (λx b E=>by rw[l t q x b];exact h x b E) B
  have pI:∀x∈gX m,(jZ ρ lv x.1 x.2).f1≠0->ez x.2 lv=1:=λx b r=>by
   rcases Tl o p O (g x b).2 with⟨_,G⟩|⟨_,G⟩
   ·exact absurd (G ρ) r
   ·exact G
  rcases D with⟨a,H,r,I,c⟩|⟨a,H,r,I,c⟩|c
  ·obtain⟨x,b,rfl⟩:=b_.1 H;have j:=pI x b r;obtain⟨P,Q,K⟩:=GJ o p O (g x b).2 j;refine⟨_,u x b j,mono _ (u x b j) λy n f=>?_⟩;rw[i y n]at f;have:=c _ (b_.2 ⟨y,n,rfl⟩) f;have w:jY x.1 (pD x.2 lv (.mk 1 0 zP []))=pD x.2 lv (.mk 1 0 zP []):=by unfold Go.Proofs.YtfbmhjooliccnaaGreatDoor.jY;rw[Z];have I:decide (x.1=1\/x.1=4\/x.1=6)=false:=I;exact cQ I
   rw[w];unfold uZ;have k2:(pD x.2 lv (.mk 1 0 zP [])).aJ=2:=rfl;rw[k2,Z ae,aM rfl,K];exact this
  ·obtain⟨x,b,rfl⟩:=b_.1 H;have j:=pI x b r;obtain⟨P,Q,K⟩:=GJ o p O (g x b).2 j;refine⟨_,u x b j,mono _ (u x b j) λy n f=>?_⟩;rw[i y n]at f;have:=c _ (b_.2 ⟨y,n,rfl⟩) f;have s:x.1=1\/x.1=4\/x.1=6:=dO (show decide (x.1=1\/x.1=4\/x.1=6)=true from I);have ex:xT ρ (jY x.1 (pD x.2 lv (.mk 1 0 zP [])))=xT ρ (pD x.2 lv (.mk 1 0 zP [])):=by unfold Go.Proofs.YtfbmhjooliccnaaGreatDoor.jY;rw[aM s];rfl
   have w:(jY x.1 (pD x.2 lv (.mk 1 0 zP []))).aJ=3:=by unfold Go.Proofs.YtfbmhjooliccnaaGreatDoor.jY;rw[aM s]
   unfold uZ;rw[Z (by rw[w];decide),Z (by rw[w];decide),ex,K];exact this
  ·refine⟨v8,M,mono _ M λy n f=>?_⟩;rw[i y n]at f;have:=c _ (b_.2 ⟨y,n,rfl⟩) f;unfold uZ;have k1:v8.aJ=1:=rfl;rw[aM k1];exact this
inductive NC:F->Prop where
 |gE (r:Int) (p:J) (h:p.aK≠0):NC (.mk 2 r p [])
 |node (K:Int) (ks:List F) (hK:K=3\/K=4) (hn:ks≠[]) (hk:∀c∈ks,NC c):NC (.mk K 0 zP ks)
def rR(m:F):=m.aJ=0\/m.aJ=1\/NC m
theorem NC.aO{m:F}(h:NC m):∀c∈m.aO,NC c:=by
 cases h with
 |gE=>intro c b;cases b
 |node K d hK e a=>exact a
theorem NC.cO{K:Int}{p:F}(e:NC p):∀{acc:List F},(∀c∈acc,NC c)->∀c∈(Go.Proofs.YtfbmhjooliccnaaGreatDoor.cO K p acc).1,NC c
 |[],_=>λc hc=>by rw[Go.Proofs.YtfbmhjooliccnaaGreatDoor.cO]at hc;rw[cL.1 hc];exact e
 |a::r,h=>by
  have f:=h a (b6 ..);have g:=NC.cO (K:=K) e (acc:=r) λc hc=>h c (cv _ hc)
  have aN:∀c∈a::(Go.Proofs.YtfbmhjooliccnaaGreatDoor.cO K p r).1,NC c:=λc hc=>by
   rcases da.1 hc with rfl|hc
   ·exact f
   ·exact g c hc
  rw[Go.Proofs.YtfbmhjooliccnaaGreatDoor.cO];split
  ·exact aN
  ·rename_i b;split
   ·split
    ·exact h
    ·exact aN
   ·rename_i d;split
    ·intro c hc;rcases da.1 hc with rfl|hc
     ·have d:p.aJ=2:=by simpa using d
      have b:a.aJ=p.aJ:=an b;cases f with
      |gE k l i=>exact .gE _ _ i
      |node j m hK=>have:j=2:=b.trans d;omega
     ·exact h c (cv _ hc)
    ·exact aN
theorem NC.nO{K:Int}:∀{d b a:List F},(∀c∈d,NC c)->(∀c∈b,NC c)->Go.Proofs.YtfbmhjooliccnaaGreatDoor.nO K d b=some a->∀c∈a,NC c
 |[],b,a,_,h,e=>by rw[Go.Proofs.YtfbmhjooliccnaaGreatDoor.nO]at e;injection e with e;subst e;exact h
 |p::r,b,a,f,h,e=>by
  rw[Go.Proofs.YtfbmhjooliccnaaGreatDoor.nO]at e;split at e
  ·exact NC.nO (λc g=>f c (cv _ g)) (NC.cO (f p (b6 ..)) h) e
  ·cases e
theorem rR.tM(b:Bool):rR (tM b):=by cases b;exact .inl rfl;exact .inr (.inl rfl)
theorem rR.k_(e:w=3\/w=4):∀{d:List F},(∀c∈d,NC c)->rR (xB w d)
 |[],_=>by
  rcases e with rfl|rfl
  ·exact .inr (.inl rfl)
  ·exact .inl rfl
 |[a],h=>.inr (.inr (h a (b6 ..)))
 |a::b::r,h=>.inr (.inr (.node w _ e ai h))
def aHH(g:k<=100000)(h:Ln k p)(b:(cY p).aK≠0):(eQ p).aK≠0:=by
 intro c;have i:cY p=p:=by rw[vz,aM (FG h.bR)]
 rw[i]at b;have I:=h.sn g;obtain⟨d,j⟩:=Bt (h.np g);have f:∀q,bQ 4 q->q.aK=0->∃n,q=kP n:=λq l c=>by
  cases l with
  |const n=>exact⟨n,rfl⟩
  |node m r s=>exfalso;have:(m:Int)=0:=c;omega
 have:∃z,∀a,ev a (eQ p)=z:=by obtain⟨n,e⟩:=f _ I.bR c;exact⟨n,λa=>by rw[e,jw]⟩
 obtain⟨z,o⟩:=this;obtain⟨n,e,_⟩:=J2 h.bR h.sz.dl (z:=(d:Rat)*z) λa=>by rw[<-j.ev a,o]
 rw[e]at b;exact b rfl
mutual
theorem Sg {R:J->Prop} (e:∀p,R p->(cY p).aK≠0->(eQ p).aK≠0):∀{m:F},RM R m->rR (bF m)
 |.mk kd r p y,h=>by
  cases h with
  |mk _ _ _ _ o f=>
   rw[bF]
   split
   ·exact .tM _
   ·split
    ·rename_i x
     have o:=o x
     unfold dB
     split
     ·exact .tM _
     ·rename_i g;exact .inr (.inr (.gE _ _ (e p o g)))
    ·split
     ·rename_i w;exact Kz e (.inl rfl) (f (.inl w)) λc d=>by cases d
     ·split
      ·rename_i v;exact Kz e (.inr rfl) (f (.inr v)) λc d=>by cases d
      ·exact .tM _
theorem Kz {R:J->Prop} (e:∀p,R p->(cY p).aK≠0->(eQ p).aK≠0) {K:Int} (hK:K=3\/K=4):∀{l a:List F},(∀c∈l,RM R c)->(∀c∈a,NC c)->rR (fW K l a)
 |[],a,_,i=>by rw[fW];exact .k_ hK i
 |bu::r,a,g,i=>by
  have I:=Sg e (g bu (b6 ..))
  have q:∀c∈r,RM R c:=λc d=>g c (cv _ d)
  have b:rR (.mk (nH K) 0 zP []):=by
   rcases hK with rfl|rfl
   ·exact .inl rfl
   ·exact .inr (.inl rfl)
  rw[fW]
  split
  ·exact b
  ·rename_i k
   split
   ·exact Kz e hK q i
   ·rename_i j
    have s:NC (bF bu):=by
     rcases I with h|h|h
     ·exfalso
      rw[h]at k j
      rcases hK with rfl|rfl
      ·exact k rfl
      ·exact j rfl
     ·exfalso
      rw[h]at k j
      rcases hK with rfl|rfl
      ·exact j rfl
      ·exact k rfl
     ·exact h
    have n:∀c∈(if(bF bu).aJ=K then(bF bu).aO else [bF bu]),NC c:=by
     split
     ·exact s.aO
     ·intro c d;rw[cL.1 d];exact s
    split
    ·rename_i t u
     exact Kz e hK q (NC.nO n i u)
    ·exact b
end
def DC(a:k<=100000)(h:RM (LX k X) m):rR (bF m):=Sg (λp b=>aHH a b.ln) h
def NC.no(h:NC m):CM Q m->(∀p,Q p->p.aK=0)->False:=by
 induction h with
 |gE r p h=>
  intro a b;cases a with
  |gE _ _ _ d=>exact h (b p d)
  |node _ _ hK=>omega
 |node K e hK f i g=>
  intro a b
  match e,f with
  |c::r,_=>exact g c (b6 ..) (a.bu c (b6 ..)) b
def aHC(i:∀w:Nat,1<=w->w<=4->X w)(o:CM (LX k X) m)(h:rR m):m.aJ=0\/m.aJ=1:=by
 rcases h with h|h|h
 ·exact .inl h
 ·exact .inr h
 ·exfalso;refine h.no o λp b=>?_
  have d:∀a,ev a p=ev (up (up (up (up a 1 0) 2 0) 3 0) 4 0) p:=λa=>by rw[b.ix 4 (i 4 O O),b.ix 3 (i 3 O O),b.ix 2 (i 2 O O),b.ix 1 (i 1 O O)]
  have ext:∀{L:Nat}{q:J},bQ L q->L<=4->∀a f:Int->Rat,(∀v:Nat,1<=v->v<=4->a v=f v)->ev a q=ev f q:=by
   intro L q r
   induction r with
   |const n=>intro _ a f _;rw[jw,jw]
   |node s y j z A t B u=>intro C a f l;rw[ph _ _ j O,ph _ _ j O,l s j O];exact Gb λc x=>u c x O a f l
  have g:∀a,ev a p=ev (λ_=>0) p:=λa=>by
   rw[d a,d λ_=>0];refine ext b.ln.bR (bK 4) _ _ λv j t=>?_
   have:v=1\/v=2\/v=3\/v=4:=O;rcases this with rfl|rfl|rfl|rfl<;>simp[up]
  obtain⟨n,e,_⟩:=J2 b.ln.bR b.ln.sz.dl g;rw[e];rfl
def lZ(s:Nat):Nat:=(s+2)*(s+2)
theorem Om{a k:Nat}(y:1<=a)(x:a<=4)(G:3*k+14<=50000){T:Int->Prop}{m:F}(s:CM (LX k T) m):∀{l:List bw}{acc:List F},(∀t∈l,LT k a T t)->(∀c∈acc,CM (LX (3*k+14) (TL T a)) c)->
 CM (LX (3*k+14) (TL T a)) (qW m a l acc)/\ba (qW m a l acc)<=1+ck acc+l.length*(ba m+2)/\(∀b,tr b (qW m a l acc)=true↔(fq b acc=true\/∃t∈l,tr b (fG a t m)=true))/\rR (qW m a l acc)
 |[],acc,_,i=>by
  have r:CM (LX (3*k+14) (TL T a)) (kq acc):=CM.node 4 acc (.inr rfl) i;obtain⟨p,o,n⟩:=tB (LX.rq (show 3*k+14<=100000 by omega)) r.rm;rw[qW];refine⟨p,?_,λb=>?_,DC O r.rm⟩
  ·unfold kq at n⊢;rw[ba]at n;simp;omega
  ·rw[o];unfold kq;rw[qF b (.inr rfl)];show fq b acc=true↔_;simp
 |t::l,acc,v,i=>by
  have f:=v t (b6 ..);have g:=Ov y x O f s;rw[show k+2*k+14=3*k+14 by omega]at g;have w:CM (LX (3*k+14) (TL T a)) t.g:=by rw[f.g];exact .tt
  have hc:=CM.Ar w g.cm;obtain⟨p,o,n⟩:=tB (LX.rq (show 3*k+14<=100000 by omega)) hc.rm;have E:=DC (show 3*k+14<=100000 by omega) hc.rm;have d:∀b,tr b (bF (df [t.g,fG a t m]))=tr b (fG a t m):=λb=>by rw[o,Uw,f.g,yf b rfl,wQ]
  have D:ba (bF (df [t.g,fG a t m]))<=ba m+2:=by
   have:=Si (LX.rq (T:=TL T a) (show 3*k+14<=100000 by omega)) (K:=3) (.inl rfl) (l:=[t.g,fG a t m]) (λc hc=>by
    rcases da.1 hc with rfl|hc
    ·exact w.rm
    ·rw[cL.1 hc];exact g.cm.rm) 0 zP
   simp only[zQ]at this;have j:ba (bF t.g)=1:=by rw[f.g,bF,aM rfl];unfold tM;simp[ba,e_]
   have:=g.sz;unfold df;omega
  rw[qW];by_cases j:(bF (df [t.g,fG a t m])).aJ=1
  ·rw[aM j];refine⟨.tt,by rw[ba,e_];omega,λb=>⟨λ_=>.inr ⟨t,b6 ..,by rw[<-d];exact yf b j⟩,λ_=>yf b rfl⟩,.inr (.inl rfl)⟩
  ·rw[Z j];have e:∀c∈(if(bF (df [t.g,fG a t m])).aJ≠0 then acc++[bF (df [t.g,fG a t m])]else acc),CM (LX (3*k+14) (TL T a)) c:=λc hc=>by
    split at hc
    ·rcases cq.1 hc with hc|hc
     ·exact i c hc
     ·rw[cL.1 hc];exact p
    ·exact i c hc
   obtain⟨C,B,A,z⟩:=Om y x G s (l:=l) (λu hu=>v u (cv _ hu)) e;refine⟨C,dH B ?_,λb=>?_,z⟩
   ·have:ck (if(bF (df [t.g,fG a t m])).aJ≠0 then acc++[bF (df [t.g,fG a t m])]else acc)<=ck acc+(ba m+2):=by
     split
     ·rw[zO,dW,e_];omega
     ·omega
    rw[fZ,iN];omega
   ·rw[A];have:fq b (if(bF (df [t.g,fG a t m])).aJ≠0 then acc++[bF (df [t.g,fG a t m])]else acc)=true↔(fq b acc=true\/tr b (fG a t m)=true):=by
     split
     ·rw[aiU,fq,fq,Bool.or_false,wO,d]
     ·rename_i q;have q:(bF (df [t.g,fG a t m])).aJ=0:=an q;have:=Ed b q;rw[d]at this;rw[this];simp
    rw[this];constructor
    ·rintro((h|h)|⟨u,hu,h⟩)
     ·exact .inl h
     ·exact .inr ⟨t,b6 ..,h⟩
     ·exact .inr ⟨u,cv _ hu,h⟩
    ·rintro(h|⟨u,hu,h⟩)
     ·exact .inl (.inl h)
     ·rcases da.1 hu with rfl|hu
      ·exact .inl (.inr h)
      ·exact .inr ⟨u,hu,h⟩
structure BU(k lv:Nat)(T:Int->Prop)(m r:F):Prop where
 cm:CM (LX (3*k+14) (TL T lv)) r
 sz:ba r<=lZ (ba m)
 tr:∀ρ,Go.Proofs.YtfbmhjooliccnaaGreatDoor.tr ρ r=true↔∃v,Go.Proofs.YtfbmhjooliccnaaGreatDoor.tr (Go.Proofs.YtfbmhjooliccnaaGreatDoor.up ρ lv v) m=true
 MD:rR m->rR r
def aob(d:1<=K)(e:K<=4)(g:3*k+14<=50000)(a:wY U k K X)(f:CM (LX k X) m):ba (jI U m K)<=1+(1+ba m)*(ba m+2):=by
 have b:=Ja f;obtain⟨h,p,q,i⟩:=L9 d e O a λx j=>(b x j).2
 obtain⟨r,n,s,t⟩:=Om d e g f (l:=jM U m K) (acc:=[]) h λc o=>by simp at o
 refine dH n ?_;rw[e_];have:=jS (ba m+2) i;omega
def Ow(b:1<=K)(d:K<=4)(i:3*k+14<=50000)(a:wY U k K X)(f:CM (LX k X) m):BU k K X m (jI U m K):=by
 have g:=Ja f;obtain⟨n,v,w,o⟩:=L9 b d O a λx p=>(g x p).2
 obtain⟨q,r,s,t⟩:=Om b d i f (l:=jM U m K) (acc:=[]) n λc u=>by simp at u
 refine⟨q,dH r ?_,λj=>?_,λ_=>t⟩
 ·rw[e_];have:=jS (ba m+2) o;unfold lZ;have e:(ba m+2)*(ba m+2)=(1+ba m)*(ba m+2)+(ba m+2):=by rw[show ba m+2=(1+ba m)+1 by omega,iN,Nat.one_mul]
  omega
 ·show tr j (qW m K (jM U m K) [])=true↔_;rw[s,<-aGT b d i a f j];constructor
  ·rintro(h|h)
   ·cases h
   ·exact h
  ·exact .inr
end Go.Proofs.YtfbmhjooliccnaaGreatDoor
namespace Go.Proofs.YtfbmhjooliccnaaGreatDoor
open Go Go.Ab Go.Proofs.Tryz
variable {n:Int}{k u:Nat}
def vV(x:UInt8):Bool:=decide (48<=x.toNat)&&decide (x.toNat<=57)
def Ea(h:k<10):(UInt8.ofNat (48+k)).toNat=48+k:=by rw[UInt8.toNat_ofNat'];omega
def acg(h:k<10):vV (UInt8.ofNat (48+k))=true:=by unfold vV;rw[Ea h];simp;omega
def ZV:∀(u:Nat),∀x∈Lib.decDigits u,vV x=true:=by
 intro u
 induction u using Nat.strongRecOn with
 |_ u b=>
  intro x a;rw[Lib.decDigits]at a;split at a
  ·rw[cL]at a;subst a;exact acg O
  ·rcases cq.1 a with a|a
   ·exact b (u/10) O x a
   ·rw[cL]at a;subst a;exact acg O
def dvl(l:List UInt8):Nat:=l.foldl (λa x=>10*a+(x.toNat-48)) 0
def aap(u:Nat):dvl (Lib.decDigits u)=u:=by
 induction u using Nat.strongRecOn with
 |_ u a=>
  rw[Lib.decDigits];split
  ·rename_i h;show 10*0+((UInt8.ofNat (48+u)).toNat-48)=u;rw[Ea h];omega
  ·have:=a (u/10) O;unfold dvl at this⊢;rw[EJ,this,vk,List.foldl_nil,Ea O];omega
def as8{v:Nat}(h:Lib.decDigits u=Lib.decDigits v):u=v:=by rw[<-aap u,h,aap]
theorem ah6:∀{a b:List UInt8}{c e:UInt8}{r f:List UInt8},(∀x∈a,vV x=true)->(∀x∈b,vV x=true)->vV c=false->vV e=false->a++c::r=b++e::f->a=b/\c::r=e::f
 |[],[],c,e,r,f,_,_,_,_,h=>⟨rfl,h⟩
 |[],y::b,c,e,r,f,_,k,d,_,h=>by
  injection h with g m
  rw[g,k y (b6 ..)]at d;cases d
 |x::a,[],c,e,r,f,l,_,_,d,h=>by
  injection h with g m
  rw[<-g,l x (b6 ..)]at d;cases d
 |x::a,y::b,c,e,r,f,l,k,d,j,h=>by
  injection h with g m
  have:=ah6 (λz i=>l z (cv _ i)) (λz i=>k z (cv _ i)) d j m;exact⟨by rw[g,this.1],this.2⟩
def as9{c a:UInt8}{r r':List UInt8}(d:vV c=false)(b:vV a=false)(h:Lib.decDigits u++c::r=Lib.decDigits k++a::r'):u=k/\c::r=a::r':=by have:=ah6 (ZV u) (ZV k) d b h;exact⟨as8 this.1,this.2⟩
def Dj(a:0<=n)(b:n<10):Lib.itoa n=[UInt8.ofNat (48+n.toNat)]:=by unfold Lib.itoa;rw[Z O,Lib.decDigits,dif_pos O]
def Z6{m:Int}(a:0<=n)(b:n<10)(c:0<=m)(d:m<10)(h:UInt8.ofNat (48+n.toNat)=UInt8.ofNat (48+m.toNat)):n=m:=by have:=bi UInt8.toNat h;rw[Ea O,Ea O]at this;omega
def dk:List Int->List UInt8
 |[]=>[]
 |d::l=>32::(Lib.decDigits d.toNat++dk l)
mutual
def pk:J->List UInt8
 |.mk l n a b=>91::(Lib.itoa l++((if l=0 then(if n then [45]else [])++dk a else [])++(hJ b++[93])))
def hJ:List J->List UInt8
 |[]=>[]
 |c::r=>pk c++hJ r
end
theorem PT:∀{a b:ao}{r f:List UInt8},Dg a->Dg b->dk a++93::r=dk b++93::f->a=b/\r=f
 |[],[],r,f,_,_,h=>by rw[dk]at h;injection h with _ h;exact⟨rfl,h⟩
 |[],e::b,r,f,_,_,h=>by rw[dk,dk]at h;injection h with h _;exact absurd h ae
 |d::a,[],r,f,_,_,h=>by rw[dk,dk]at h;injection h with h _;exact absurd h ae
 |d::a,e::b,r,f,k,j,h=>by
  rw[dk,dk,eB,eB,gM,gM]at h;injection h with _ h
  have q:=k.cons.1;have p:=j.cons.1;rw[cD]at q p;have g:∀(l:ao)(r:List UInt8),∃c t,dk l++93::r=c::t/\vV c=false:=λl r=>by
   cases l with
   |nil=>exact⟨93,r,rfl,ae⟩
   |cons x l=>exact⟨32,_,by rw[dk,eB],ae⟩
  obtain⟨c,t,o,s⟩:=g a r;obtain⟨z,w,n,i⟩:=g b f;rw[o,n]at h;obtain⟨y,m⟩:=as9 s i h;rw[<-o,<-n]at m;obtain⟨v,u⟩:=PT k.cons.2 j.cons.2 m;refine⟨?_,u⟩;rw[v];have:d=e:=O;rw[this]
def L3(p:J):∃t,pk p=91::t:=by cases p;exact⟨_,by rw[pk]⟩
def L0(n:Int):pk (kP n)=91::48::((if(iD n).neg then [45]else [])++(dk (iD n).aC++[93])):=by unfold kP;rw[pk,aM rfl,hJ,Dj ae ae,gf,gM];rfl
def L4{a:List J}(b:1<=n)(c:n<=4):pk (.mk n false [] a)=91::UInt8.ofNat (48+n.toNat)::(hJ a++[93]):=by rw[pk,Z O,Dj O O];rfl
theorem afo{L:Nat}:∀{a b:List J}{r f:List UInt8},(∀c∈a,∀(M:Nat)(q:J),bQ M q->M<=4->∀r f,pk c++r=pk q++f->c=q/\r=f)->(∀c∈b,∃M,bQ M c/\M<=4)->hJ a++93::r=hJ b++93::f->a=b/\r=f
 |[],[],r,f,_,_,h=>by rw[hJ]at h;injection h with _ h;exact⟨rfl,h⟩
 |[],e::b,r,f,_,_,h=>by obtain⟨t,g⟩:=L3 e;rw[hJ,hJ,g]at h;injection h with h _;exact absurd h ae
 |d::a,[],r,f,_,_,h=>by obtain⟨t,g⟩:=L3 d;rw[hJ,hJ,g]at h;injection h with h _;exact absurd h ae
 |d::a,e::b,r,f,l,k,h=>by rw[hJ,hJ,gM,gM]at h;obtain⟨M,m,j⟩:=k e (b6 ..);obtain⟨s,p⟩:=l d (b6 ..) M e m j _ _ h;obtain⟨o,n⟩:=afo (L:=L) (λc i=>l c (cv _ i)) (λc i=>k c (cv _ i)) p;exact⟨by rw[s,o],n⟩
def aeQ(a:1<=n)(b:n<10):(48:UInt8)≠UInt8.ofNat (48+n.toNat):=λh=>by have:=bi UInt8.toNat h;rw[Ea O]at this;have e:(48:UInt8).toNat=48:=rfl;omega
def afm{L:Nat}{p:J}(h:bQ L p):L<=4->∀(M:Nat)(q:J),bQ M q->M<=4->∀r r',pk p++r=pk q++r'->p=q/\r=r':=by
 induction h with
 |const n=>
  intro _ M q g j r r' a;cases g with
  |const m=>
   rw[L0,L0,eB,eB,eB,eB]at a;injection a with _ a
   injection a with _ a
   have d:(iD n).neg=(iD m).neg/\(iD n).aC=(iD m).aC/\r=r':=by
    have b:∀x:Int,∀r:List UInt8,(dk (iD x).aC++[93]++r)=dk (iD x).aC++93::r:=λx r=>by rw[gM];rfl
    cases f:(iD n).neg with
    |true=>
     cases e:(iD m).neg with
     |true=>
      rw[f,e]at a;simp only[gT,IH,eB]at a;injection a with _ a
      simp only[gf]at a;rw[b,b]at a;have:=PT (iv n) (iv m) a;exact⟨rfl,this.1,this.2⟩
     |false=>
      rw[f,e]at a;simp only[gT,IH,eB,jq,lM,gf]at a;rw[b,b]at a;cases i:(iD m).aC with
      |nil=>rw[i,dk]at a;injection a with a _;exact absurd a ae
      |cons x l=>rw[i,dk]at a;injection a with a _;exact absurd a ae
    |false=>
     cases e:(iD m).neg with
     |true=>
      rw[f,e]at a;simp only[gT,IH,eB,jq,lM,gf]at a;rw[b,b]at a;cases i:(iD n).aC with
      |nil=>rw[i,dk]at a;injection a with a _;exact absurd a ae
      |cons x l=>rw[i,dk]at a;injection a with a _;exact absurd a ae
     |false=>rw[f,e]at a;simp only[jq,lM,gf]at a;rw[b,b]at a;have:=PT (iv n) (iv m) a;exact⟨rfl,this.1,this.2⟩
   refine⟨?_,d.2.2⟩;unfold kP;rw[d.1,d.2.1]
  |node s t u v w y z=>
   rw[L0,L4 O O,eB,eB,eB,eB]at a;injection a with _ a
   injection a with a _
   exact absurd a (aeQ O O)
 |node s t u v w y z A=>
  intro P M q g j r r' a;cases g with
  |const m=>
   rw[L0,L4 O O,eB,eB,eB,eB]at a;injection a with _ a
   injection a with a _
   exact absurd a.symm (aeQ O O)
  |node B C D E G k H=>
   rw[L4 O O,L4 O O,eB,eB,eB,eB]at a;injection a with _ a
   injection a with f a
   have e:=Z6 O O O O f;rw[gM,gM]at a;obtain⟨K,N⟩:=afo (L:=0) (λc o M q g j r r' h=>A c o O M q g j r r' h) (λc o=>⟨_,k c o,O⟩) a;exact⟨by rw[e,K],N⟩
mutual
def lO:F->List UInt8
 |.mk k r p a=>40::(Lib.itoa k++((if k=2 then 32::(Lib.itoa r++pk p)else [])++(kK a++[41])))
def kK:List F->List UInt8
 |[]=>[]
 |c::r=>lO c++kK r
end
def adC(p:F):∃t,lO p=40::t:=by cases p;exact⟨_,by rw[lO]⟩
def gn(t:bw):List UInt8:=Lib.itoa t.aJ++(pk t.a++(pk t.b++(pk t.c++(pk t.d++lO t.g))))
def cR(t:bw):ByteArray:=⟨(gn t).toArray⟩
def acF(t:bw):(cR t).toList=gn t:=by unfold cR;rw[ByteArray.toList_eq]
end Go.Proofs.YtfbmhjooliccnaaGreatDoor
