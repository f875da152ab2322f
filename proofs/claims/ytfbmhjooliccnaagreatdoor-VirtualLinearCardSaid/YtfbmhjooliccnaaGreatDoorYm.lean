/- A part of the proof of VirtualLinear: Ig0 to Il. No condition. -/
import Derived.Test.YtfbmhjooliccnaaGreatDoorYl
set_option linter.all false
set_option maxRecDepth 100000
set_option maxHeartbeats 60000000
noncomputable section
namespace Go.Proofs.YtfbmhjooliccnaaGreatDoor
open Go Go.Ab Go.Proofs.Tryz
variable {x i:Nat}{l:List J}{p q U:J}{n:Int}{X:Type}
inductive PB(n:Nat):J->Prop where
 |mk (l:Int) (ng:Bool) (a:ao) (cs:List J) (h1:a.length<=n) (h2:cs.length<=1000000) (h3:∀c∈cs,PB n c):PB n (.mk l ng a cs)
theorem PB.aC{n:Nat}(h:PB n p):p.aC.length<=n:=by cases h;assumption
def PB.len(h:PB x p):p.aL.length<=1000000:=by cases h;assumption
def PB.bu(h:PB x p):∀c∈p.aL,PB x c:=by cases h;assumption
@[irreducible] def nC(n:Nat)(l:List J):=(∀p∈l,bQ 4 p/\PB n p)/\n<=1000000000/\l.length<=1000000
@[irreducible] def tR(l:List J):Prop:=∃n,nC n l
@[irreducible] def A1(l:List J)(x:Nat):=x<=l.length
@[irreducible] def zZ(l:List J)(x:Nat):=x<=l.length
@[irreducible] def A2(l:List J)(x:Nat):=x<=jo (c_ l) l
@[irreducible] def A3(l:List J)(x:Nat):=x<=l.length
@[irreducible] def j9(l:List J):Nat:=jo (c_ l) l
@[irreducible] def lP(l:List J):Int:=c_ l
def cI(p:J):aY:=⟨p.neg,p.aC⟩
@[irreducible] def pJ(l:List J)(a:Int)(i j:Nat):List J:=(l.take j).filterMap (dU a i)
@[irreducible] def ul(l:List J)(a:Int)(n i:Nat):List J:=(List.range i).map (λk=>lX (l.filterMap (dU a k)))++List.replicate (n-i) zP
@[irreducible] def me(l:List J)(i:Nat):Int:=c_ (l.take i)
@[irreducible] def rp(l:List J)(i:Nat):Nat:=jo (c_ (l.take i)) (l.take i)
def ajK(h:zZ l x/\True):x<=l.length:=by have:=h.1;unfold zZ at this;exact this
def U6(h:A2 l x/\True):x<=j9 l:=by have:=h.1;unfold A2 at this;unfold j9;exact this
def ns{l:List X}{p:X}(h:l[(x:Int).toNat]?=some p):x<l.length:=by
 rw[bt]at h;refine E0 λa=>?_
 rw[iM a]at h;cases h
def A1n(h:l[(x:Int).toNat]?=some p):A1 l (x+1):=by unfold A1;exact ns h
def ajL(h:l[(x:Int).toNat]?=some p):zZ l (x+1):=by unfold zZ;exact ns h
def A3n(h:l[(x:Int).toNat]?=some p):A3 l (x+1):=by unfold A3;exact ns h
theorem adN(b:List J):∀a,c_ (a++b)=max (c_ a) (c_ b)
 |[]=>by rw[gf];have:=ql b;rw[c_];omega
 |p::a=>by rw[eB,c_,c_,adN b a];omega
theorem MO(c:Int)(b:List J):∀a,jo c (a++b)=max (jo c a) (jo c b)
 |[]=>by rw[gf,jo];omega
 |p::a=>by rw[eB,jo,jo,MO c b a];split<;>omega
theorem aiy{b:Int}:∀{a:List J},(∀q∈a,q.aK≠b)->jo b a=0
 |[],_=>rfl
 |p::a,h=>by rw[jo,Z (h p (b6 ..)),aiy λq c=>h q (cv _ c)]
def BA{l:List X}{p:X}(h:l[(x:Int).toNat]?=some p):l.take (x+1)=l.take x++[p]:=by rw[bt]at h;rw[fy,h];rfl
def K4(h:l[(x:Int).toNat]?=some p):me l (x+1)=max (me l x) p.aK:=by unfold me;rw[BA h,adN,c_,c_];have:=ql (l.take x);omega
def aIq(h:l[(x:Int).toNat]?=some p)(a:me l x<p.aK):rp l (x+1)=p.aL.length:=by
 have e:=K4 h;unfold me at a e;unfold rp;have b:c_ (l.take (x+1))=p.aK:=by rw[e];omega
 rw[b,BA h,MO,aiy λq c=>by have:=zp c;omega];simp[jo]
def aIp(h:l[(x:Int).toNat]?=some p)(a:p.aK=me l x):rp l (x+1)=max (rp l x) p.aL.length:=by
 have e:=K4 h;unfold me at a e;unfold rp;have b:c_ (l.take (x+1))=c_ (l.take x):=by rw[e];omega
 rw[b,BA h,MO,<-a];simp[jo]
def aIr(h:l[(x:Int).toNat]?=some p)(a:p.aK<me l x):rp l (x+1)=rp l x:=by
 have e:=K4 h;unfold me at a e;unfold rp;have b:c_ (l.take (x+1))=c_ (l.take x):=by rw[e];omega
 rw[b,BA h,MO];have:jo (c_ (l.take x)) [p]=0:=by simp[jo];omega
 rw[this];omega
def azp(l:List J):me l 0=0:=by unfold me;rfl
def aIn(l:List J):rp l 0=0:=by unfold rp;rfl
def Ro(h:l.length<=x):me l x=lP l:=by unfold me lP;rw[eL h]
def aIo(h:l.length<=x):rp l x=j9 l:=by unfold rp j9;rw[eL h]
theorem aix{n:Nat}(a:Int):∀{l:List J},(∀p∈l,PB n p)->jo a l<=1000000
 |[],_=>by rw[jo];omega
 |p::r,h=>by
  rw[jo];have d:=(h p (b6 ..)).len;have c:=aix a (l:=r) λq b=>h q (cv _ b)
  split<;>omega
def nC.len(h:nC x l):l.length<=1000000:=by unfold nC at h;exact h.2.2
theorem nC.j9{n:Nat}{l:List J}(h:nC n l):j9 l<=1000000:=by unfold nC at h;unfold Go.Proofs.YtfbmhjooliccnaaGreatDoor.j9;exact aix _ λp a=>(h.1 p a).2
theorem aij:∀l:List J,gr (l.map cI)=tH l
 |[]=>rfl
 |p::r=>by rw[de,gr,tH,aij r];rfl
def nC.sib(h:nC x l)(f:c_ l=0):Ci (l.map cI):=by unfold nC at h;unfold Ci;refine⟨x,?_⟩;unfold vr;refine⟨λa d=>?_,h.2.1,by rw[eh];omega⟩;obtain⟨p,b,rfl⟩:=b_.1 d;refine⟨(h.1 p b).2.aC,?_⟩;have c:=(h.1 p b).1;have g:=zp b;have i:=c.lv;have e:=c.sX O;show Dg p.aC;rw[e];exact iv _
def I7(a:c_ l=0):lX l=kP (gr (l.map cI)):=by rw[ani a,aij]
def nC.part(h:nC x l)(j:lP l≠0)(i:Nat):tR (l.filterMap (dU (lP l) i))/\c_ (l.filterMap (dU (lP l) i))<c_ l:=by
 unfold lP at j⊢;unfold nC at h;have r:=ql l;obtain⟨lv,f⟩:∃lv:Nat,c_ l=lv:=⟨(c_ l).toNat,O⟩;have k:∀p∈l,bQ 4 p:=λp e=>(h.1 p e).1
 obtain⟨m,g,o⟩:=Dw j;have q:=(k m g).lv;rw[f]at o⊢;have d:=G9 (lv:=lv) k O i;refine⟨?_,?_⟩
 ·unfold tR;refine⟨x,?_⟩;unfold nC;refine⟨λc b=>⟨(d c b).mono O,?_⟩,h.2.1,?_⟩
  ·obtain⟨p,e,a⟩:=IC.1 b;unfold dU at a;split at a
   ·exact(h.1 p e).2.bu _ (bM a)
   ·split at a
    ·injection a with a;subst a;exact(h.1 p e).2
    ·cases a
  ·exact dH (List.length_filterMap_le _ _) h.2.2
 ·have:c_ (l.filterMap (dU lv i))<=((lv-1:Nat):Int):=A7 O λc b=>(d c b).lv.2
  omega
def DV(h:l[(x:Int).toNat]?=some p)(a:dU n i p=some q):pJ l n i x++[q]=pJ l n i (x+1):=by unfold pJ;rw[BA h,Ws,Wu a];rfl
def DU(h:l[(x:Int).toNat]?=some p)(a:dU n i p=none):pJ l n i x=pJ l n i (x+1):=by unfold pJ;rw[BA h,Ws,Wt a];simp
def afJ(l:List J)(a:Int)(i:Nat):pJ l a i 0=[]:=by unfold pJ;rfl
def aES{lv:Int}{j:Nat}(h:l.length<=j):pJ l lv i j=l.filterMap (dU lv i):=by unfold pJ;rw[eL h]
def aET(l:List J)(a:Int)(i j:Nat):(pJ l a i j).length<=l.length:=by unfold pJ;exact dH (List.length_filterMap_le _ _) (by rw[gw];omega)
def Yv{a:Int}{n:Nat}(h:i<=n):(ul l a n i).length=n:=by unfold ul;simp;omega
def aqi(h:i<x):(ul l n x i).set i (lX (l.filterMap (dU n i)))=ul l n x (i+1):=by unfold ul;have e:x-i=(x-(i+1))+1:=O;rw[e,vp,yB _ _ ai];simp[sP]
def aqh(l:List J)(a:Int)(n:Nat):ul l a n 0=List.replicate n zP:=by unfold ul;simp
def anm(h:nC x l)(a:lP l≠0):mO (lP l) (ul l (lP l) (j9 l) (j9 l))=lX l:=by unfold lP at a;unfold nC at h;rw[ang (λp b=>(h.1 p b).1) a];unfold ul lP j9;rw[rM,NP,lB]
@[irreducible] def se(l:List J)(x:Nat):List aY:=(l.take x).map cI++List.replicate (l.length-x) ⟨false,[]⟩
def aB5(l:List J):se l 0=List.replicate l.length ⟨false,[]⟩:=by unfold se;simp
def aB8(a:decide ((x:Int)<l.length)=true)(b:l[(x:Int).toNat]?=some p):(se l x).set (x:Int).toNat ⟨p.neg,p.aC⟩=se l (x+1):=by unfold se;exact TH (f:=cI) a b
def aB7(h:x<=l.length):(se l x).length=l.length:=by unfold se;simp;omega
def aB6(a:decide ((x:Int)<l.length)=false)(h:x<=l.length):se l x=l.map cI:=by unfold se;exact Ql (f:=cI) a h
def mm0{l:List J}{x:Nat}(a:decide ((x:Int)<l.length)=false)(h:(me l x==0)=true):c_ l=0:=by simp only[bc]at a;have:=Ro (l:=l) (x:=x) O;unfold lP at this;rw[<-this];simpa using h
def mm1{l:List J}{x:Nat}(a:decide ((x:Int)<l.length)=false)(h:(me l x==0)=false):lP l≠0:=by simp only[bc]at a;have:=Ro (l:=l) (x:=x) O;rw[<-this];simpa using h
def mm2(a:decide ((x:Int)<l.length)=false):me l x=lP l:=by simp only[bc]at a;exact Ro O
def mm3(a:decide ((x:Int)<l.length)=false):rp l x=j9 l:=by simp only[bc]at a;exact aIo O
def SH(h:(p.aK==n)=true)(a:p.aL[(i:Int).toNat]?=some q):dU n i p=some (.mk q.aK q.neg q.aC q.aL):=by rw[bt]at a;unfold dU;rw[aM (an h),a,bz]
def SI(h:decide (p.aK<n)=true)(a:((i:Int)==0)=true):dU n i p=some (.mk p.aK p.neg p.aC p.aL):=by have h:=dO h;have a:(i:Int)=0:=an a;unfold dU;rw[Z O,aM ⟨h,O⟩,bz]
def pa3(h:(p.aK==n)=true)(a:decide ((i:Int)<p.aL.length)=false):dU n i p=none:=by simp only[bc]at a;unfold dU;rw[aM (an h),iM O]
def pa4{lv:Int}(h:(p.aK==lv)=false)(a:((i:Int)==0)=false):dU lv i p=none:=by have h:p.aK≠lv:=an h;have a:(i:Int)≠0:=an a;unfold dU;rw[Z h,Z O]
def pa5{lv:Int}(h:(p.aK==lv)=false)(a:decide (p.aK<lv)=false):dU lv i p=none:=by have h:p.aK≠lv:=an h;have a:=cQ a;unfold dU;rw[Z h,Z O]
theorem W5(n:Nat)(l:List J)(h:nC n l)(A:∀q:List J,tR q/\c_ q<c_ l->bh 227 [wL .aF q] (eT .aF (lX q))):bh 227 [wL .aF l] (eT .aF (lX l)):=by
 refine vF func227 rfl [asL,asQ,ot Vw 227 (.ls W.aF) (λ(q:List J)=>tR q/\c_ q<c_ l) (λq=>eT .aF (lX q)) A] [(4000017,⟨List aY,λw=>⟨[(2,br 0),(7,.e (.c (.aX 1 (U:=Un) W.cM w.length)))],[(0,cj .aF zP),(1,.aW (U:=Un) W.cM w)],2⟩,λw=>True/\True,λ_=>0⟩),(3,⟨Nat,λx=>⟨[(0,lT .aF l),(2,br 0),(3,iT (me l x)),(4,iT (rp l x)),(15,lT .aF l),(16,iT l.length),(17,iT x)],[(0,cj .aF zP)],1⟩,λx=>A1 l x/\True,λx=>l.length-x⟩),(13,⟨Nat,λx=>⟨[(0,lT .aF l),(2,br 0),(7,.e (.c (.aX 1 (U:=Un) W.cM l.length))),(42,lT .aF l),(43,iT l.length),(44,iT x)],[(0,cj .aF zP),(1,.aW (U:=Un) W.cM (se l x))],2⟩,λx=>zZ l x/\True,λx=>l.length-x⟩),(20,⟨Nat,λx=>⟨[(0,lT .aF l),(2,br 0),(3,iT (lP l)),(10,.e (.c (.aX 1 (U:=Un) W.aF (j9 l)))),(60,.e (.c (.aX 1 (U:=Un) W.aF (j9 l)))),(61,iT (j9 l)),(62,iT x)],[(0,cj .aF zP),(1,.aW (U:=Un) W.aF (ul l (lP l) (j9 l) x))],2⟩,λx=>A2 l x/\True,λx=>j9 l-x⟩),(1000024,⟨Nat×Nat,λv=>⟨[(0,lT .aF l),(2,br 0),(3,iT (lP l)),(10,.e (.c (.aX 1 (U:=Un) W.aF (j9 l)))),(60,.e (.c (.aX 1 (U:=Un) W.aF (j9 l)))),(61,iT (j9 l)),(62,iT v.1),(11,iT v.1),(12,.e (.c (.aX 2 (U:=Un) W.aF (pJ l (lP l) v.1 v.2).length))),(65,lT .aF l),(66,iT l.length),(67,iT v.2)],[(0,cj .aF zP),(1,.aW (U:=Un) W.aF (ul l (lP l) (j9 l) v.1)),(2,.aW (U:=Un) W.aF (pJ l (lP l) v.1 v.2))],3⟩,λv=>A3 l v.2/\True,λv=>l.length-v.2⟩)] ?_;repeat' (first
  |intro _|apply aQ
  |refine aS 0 (aQ ?_ λ(x:Nat)(E:A1 l x/\True)=>?_)
  |refine aS 0 (aQ ?_ λ(z:Nat)(B:zZ l z/\True)=>?_)
  |refine aS 0 (aQ ?_ λ(y:Nat)(u:A2 l y/\True)=>?_)
  |refine aS (λv=>v.1=y) (aS (y,0) (aQ ?_ λ(v:Nat×Nat)(H:A3 l v.2/\True)(C:v.1=y)=>?_))
  |refine aS (v.1,v.2+1) ?_
  |refine aS (v.1+1) ?_
  |refine aS (λw=>w=se l z) (aS (se l z) (aQ ?_ λ(w:List aY)(G:True/\True)(p:w=se l z)=>?_))
  |refine aS (z+1) ?_
  |refine aS (x+1) ?_)
 all_goals first
  |exact bj
  | (with_reducible first|rfl|exact C)
  |exact(azp l).symm
  |rw[aIn];rfl
  |exact(rfl:(0:Int)=zP.aK)|exact(rfl:false=zP.neg)|exact(rfl:zP.aC=[])|exact(rfl:zP.aL=[])
  |unfold A1;exact dz _|unfold zZ;exact dz _|unfold A2;exact dz _|unfold A3;exact dz _
  | (with_reducible first|exact A1n Y|exact ajL Y)|exact A3n (x:=v.2) Y
  |omega
  |(have d:=‹l[(x:Int).toNat]?=some _›;first
   |have e:=K4 d;simp only[be,bc]at*;omega
   |exact absurd ‹(J.aK _==J.aK _)=false› ai
   |rw[aIq d (by simpa using‹decide (me l x<_)=true›)];omega
   |rw[aIp d (by simpa using‹(_==me l x)=true›)];omega
   |(rw[aIr d (by have a:=‹(_==me l x)=false›;have b:=‹decide (me l x<_)=false›;simp only[bc,jJ,iI]at a b;omega)]))
  |(have o:=ajK B;have m:=‹decide ((x:Int)<l.length)=false›;first
   |exact aB8 Y Y
   |(rw[aB7 o];first|done|simp only[be,bc]at*;omega)
   |simp only[cX,eh,gw,xb,be,bc]at*;omega
   |(have f:=mm0 m Y;have s:=aB6 ‹decide ((z:Int)<l.length)=false› o;first
    |(have e:=p.trans s;first|show Ci _;rw[e];exact h.sib f|rw[I7 f];rfl|rw[e,I7 f];rfl)
    |show Ci _;rw[s];exact h.sib f
    |rw[I7 f];rfl
    |(rw[s,I7 f];rfl)))
  |(have m:=‹decide ((x:Int)<l.length)=false›;have D:=mm2 m;have t:=mm3 m;have M:=h.j9;have L:=h.len;first
   |exact D
   |rw[t];simp only[mi];omega
   |rw[t];omega
   |rw[t,aqh,bt];rfl
   |show(pJ _ _ _ 0).length=0;rw[afJ];rfl
   |show pJ _ _ _ 0=[];rw[afJ]
   |have K:=aET l (lP l) v.1 v.2;simp only[mi,fZ,mW,be,bc]at*;omega
   |(have d:=‹l[((v.2:Nat):Int).toNat]?=some _›;first
    |exact DV d (SH Y Y)
    |exact DV d (SI Y Y)
    |exact DU d (pa3 Y Y)
    |exact DU d (pa4 Y Y)
    |exact DU d (pa5 Y Y)
    |exact bi List.length (DV d (SH Y Y))
    |exact bi List.length (DV d (SI Y Y))
    |exact bi List.length (DU d (pa3 Y Y))
    |exact bi List.length (DU d (pa4 Y Y))
    |exact bi List.length (DU d (pa5 Y Y)))
   |simp only[aiB,mi];omega
   |rw[bt,aB5]
   |rw[bt];rfl
   |(have d:=‹l[((v.2:Nat):Int).toNat]?=some _›;first
    |have e:=bi List.length (DV d (SH (i:=v.1) Y Y));rw[cX]at e;exact e
    |(have e:=bi List.length (DV d (SI (i:=v.1) Y Y));rw[cX]at e;exact e))
   |(have f:=mm1 m Y;have r:=‹decide ((v.2:Int)<(l.length:Int))=false›;have k:=‹decide ((y:Int)<(j9 l:Int))=true›;simp only[be,bc]at r k
     have d:=aES (l:=l) (lv:=lP l) (i:=v.1) (j:=v.2) O;have g:v.1<j9 l:=O;first
     |rw[d];exact(h.part f _).1
     |rw[d];exact(h.part f _).2
     |rw[Yv O];omega
     |rw[d,bt,bz];exact aqi g
     |(unfold A2;unfold j9 at g;omega))
   |exact(Yv (U6 u)).symm
   |(have f:=mm1 m Y;have k:=‹decide ((y:Int)<(j9 l:Int))=false›;simp only[bc]at k;have g:=U6 u
     have e:y=j9 l:=O;rw[e,anm h f])
   )
  |simp only[be,bc]at*;omega
def ann:∀(f:Nat)(l:List J),tR l->c_ l<=f->bh 227 [wL .aF l] (eT .aF (lX l)):=by
 intro f
 induction f with
 |zero=>intro l h c;unfold tR at h;obtain⟨n,h⟩:=h;exact W5 n l h λq a=>by have:=ql q;have:=a.2;omega
 |succ f b=>intro l h c;unfold tR at h;obtain⟨n,h⟩:=h;exact W5 n l h λq a=>b q a.1 (by have:=a.2;omega)
def anl(l:List J)(h:tR l):bh 227 [wL .aF l] (eT .aF (lX l)):=ann (c_ l).toNat l h (by have:=ql l;omega)
def arx:=dj (.ls W.aF) anl
@[irreducible] def CZ(p:J):Prop:=∃d k,d<=12/\k<=90000/\Sz d k p
def Sz.cz{d k:Nat}(h:Sz d k p)(a:d<=12)(b:k<=90000):CZ p:=by unfold CZ;exact⟨d,k,a,b,h⟩
theorem Sz.sm{d k:Nat}{p:J}(h:Sz d k p)(b:d<=12)(a:k<=100000):kY p:=(Sz.G3 h.bR (bK _) h.dl h.nm O).sm O
def Sz.pb:∀{L:Nat}{p:J},bQ L p->L<=4->DL x p->fh p<2^i->x<=1000->PB i p:=by
 intro L p h
 induction h with
 |const n=>intro _ _ a _;rw[uL]at a;exact .mk _ _ _ _ (Z5 a) (dz _) λc b=>by simp at b
 |node o g j q r s t l=>intro u f a e;have m:=f.len;change g.length<=x+1 at m;rw[tA _ j O]at a;exact .mk _ _ _ _ (dz _) O λc b=>l c b O (f.bu c b) (rL (Dy b) a) e
theorem CZ.bR{p:J}(h:CZ p):bQ 4 p:=by unfold CZ at h;obtain⟨d,k,_,_,h⟩:=h;exact h.bR
theorem CZ.sm{p:J}(h:CZ p):kY p:=by unfold CZ at h;obtain⟨d,k,a,b,h⟩:=h;exact h.sm a O
def CZ.cs(h:CZ p):CS p:=by have:=h.bR;have:=h.sm;unfold CS;exact⟨by assumption,by assumption⟩
theorem CZ.np{p:J}(h:CZ p):b8 p:=by unfold CZ at h;obtain⟨d,k,a,b,h⟩:=h;exact h.np a O
theorem CZ.dg{p:J}(h:CZ p):Dg p.aC:=h.np.dg.dg
theorem CZ.bu{p:J}(h:CZ p):∀c∈p.aL,CZ c:=λc a=>by
 unfold CZ at h;obtain⟨d,k,g,f,h⟩:=h;refine Sz.cz (d:=d) (k:=k) ⟨(h.bR.bu a).mono (by have:=h.bR.lv;omega),h.dl.bu c a,?_⟩ g f;have b:=h.nm;cases e:h.bR with
 |const n=>cases a
 |node l r j i q o m=>rw[tA _ j i]at b;exact rL (Dy a) b
theorem CZ.len{p:J}(h:CZ p):p.aL.length<=13:=by unfold CZ at h;obtain⟨d,k,b,a,h⟩:=h;have:=h.dl.len;omega
@[irreducible] def fw(p q:J):Prop:=∃(n:Int)(d k:Nat),(q=kP n/\Sz d k p\/p=kP n/\Sz d k q)/\n.natAbs<2^1504/\d<=12/\k<=80000
def fw.c{j:Nat}(h:Sz x i p)(e:n.natAbs<2^j)(f:j<=1504)(g:x<=12)(l:i<=80000):fw p (kP n):=by unfold fw;exact⟨n,x,i,.inl ⟨rfl,h⟩,mz e (BF (b:=1504) f),g,l⟩
def fw.Bz(h:fw p q):fw q p:=by unfold fw at*;obtain⟨n,d,k,e,f⟩:=h;exact⟨n,d,k,e.symm,f⟩
def fw.r(h:fw p q):CZ (ca p q):=by
 unfold fw at h;obtain⟨n,d,k,⟨rfl,h⟩|⟨rfl,h⟩,e,f,g⟩:=h
 ·exact(h.tx e).cz f O
 ·rw[Lk h.bR];exact(h.tx e).cz f O
def fw.a(h:fw p q):CZ p:=by
 unfold fw at h;obtain⟨n,d,k,⟨rfl,h⟩|⟨rfl,h⟩,e,f,g⟩:=h
 ·exact h.cz f O
 ·exact(Sz.const 0 e).cz O O
def fw.b(h:fw p q):CZ q:=h.Bz.a
def ad2(b:CZ p)(c:CZ q):tR [p,q]:=by
 unfold CZ at b c;obtain⟨d,k,f,g,h⟩:=b;obtain⟨e,l,i,j,a⟩:=c;unfold tR;refine⟨max k l,?_⟩;unfold nC;refine⟨r8 ⟨h.bR,?_⟩ ⟨a.bR,?_⟩,O,ai⟩
 ·exact Sz.pb h.bR (bK _) h.dl (mz h.nm (BF O)) O
 ·exact Sz.pb a.bR (bK _) a.dl (mz a.nm (BF O)) O
@[irreducible] def sB(p q:J):Prop:=∃d k e l,Sz d k p/\Sz e l q/\d<=12/\e<=12/\k<=79999/\l<=79999
def sB.a(h:sB p q):CZ p:=by unfold sB at h;obtain⟨d,k,e,l,c,f,g,i,j,m⟩:=h;exact c.cz O O
def sB.b(h:sB p q):CZ q:=by unfold sB at h;obtain⟨d,k,e,l,f,c,g,i,j,m⟩:=h;exact c.cz O O
def sB.r(h:sB p q):CZ (lG p q):=by unfold sB at h;obtain⟨d,k,e,l,c,f,g,i,j,m⟩:=h;exact(c.add f).cz O O
def Pz(h:CZ p):l6 p=p:=FU 4 h.bR
theorem aFK(r:Int):bh 70 [wI .i64 r] (iT (jN r)):=by
 refine vF func70 rfl [] [] ?_;repeat' first|intro _|apply aQ
 all_goals first|exact bj|(simp only[gQ,jJ,be,bc,iI,bne_iff_ne,Fm]at*;first|omega|unfold jN;simp[*];done|unfold jN;simp[*];omega|unfold jN;split<;>omega)|simp_all;unfold jN;omega
def Zq:=dj (.int .i64) λr (_:True)=>aFK r
theorem arb(r:Int):bh 69 [wI .i64 r] (iT (uo r)):=by
 refine vF func69 rfl [] [] ?_;repeat' first|intro _|apply aQ
 all_goals first|exact bj|(simp only[gQ,jJ,be,bc,iI,bne_iff_ne,Fm]at*;first|omega|unfold uo;simp[*];done|unfold uo;simp[*];omega|unfold uo;split<;>omega)
def arH:=dj (.int .i64) λr (_:True)=>arb r
theorem aHe(r:Int):bh 112 [wI .i64 r] (iT (jl r:Nat)):=by
 refine vF func112 rfl [] [] ?_;repeat' first|intro _|apply aQ
 all_goals first|exact bj|(simp only[gQ,jJ,be,bc,iI,bne_iff_ne,Fm]at*;first|omega|unfold jl;simp[*];done|unfold jl;simp[*];omega|unfold jl;split<;>omega)
def JW:=dj (.int .i64) λr (_:True)=>aHe r
theorem apm(s:Int):bh 113 [wI .i64 s] (iT (xq s:Nat)):=by
 refine vF func113 rfl [] [] ?_;repeat' first|intro _|apply aQ
 all_goals first|exact bj|(simp only[gQ,jJ,be,bc,iI,bne_iff_ne,Fm]at*;first|omega|unfold xq;simp[*];done|unfold xq;simp[*];omega|unfold xq;split<;>omega)
def arC:=dj (.int .i64) λs (_:True)=>apm s
theorem aHX(r:Int):bh 254 [wI .i64 r] (iT (qC r)):=by
 refine vF func254 rfl [] [] ?_;repeat' first|intro _|apply aQ
 all_goals first|exact bj|(simp only[gQ,jJ,be,bc,iI,bne_iff_ne,Fm]at*;first|omega|unfold qC;simp[*];done|unfold qC;simp[*];omega|unfold qC;split<;>omega)
def Zt:=dj (.int .i64) λr (_:True)=>aHX r
theorem aIY(b:Bool):bh 65 [wB b] (eT .aP (tM b)):=by
 refine vF func65 rfl [] [] ?_;repeat' first|intro _|apply aQ
 all_goals first|exact bj|(subst_vars;rfl)
def Zv:=dj (.bool) λb (_:True)=>aIY b
def aFH(a:1<=x)(c:x<=6)(h:(((jl (x:Int)):Nat):Int)=n):lu n.toNat=((x:Int),true):=by subst h;rw[bt];have:x=1\/x=2\/x=3\/x=4\/x=5\/x=6:=O;rcases this with rfl|rfl|rfl|rfl|rfl|rfl<;>decide
@[irreducible] def x5(b:Int)(x:Nat):=1<=x/\x<=7/\∀r:Nat,1<=r->r<x->(((jl (r:Int)):Nat):Int)≠b
def DX:x5 n x↔(1<=x/\x<=7/\∀r:Nat,1<=r->r<x->(((jl (r:Int)):Nat):Int)≠n):=by unfold x5;exact Iff.rfl
def aFG(h:x5 n x/\True)(l:0<=n)(c:decide ((x:Int)<=6)=false):lu n.toNat=(0,false):=by
 obtain⟨m,o,a⟩:=DX.1 h.1;have e:x=7:=by simp only[bc]at c;omega
 subst e;have d:=a 1 O O;have f:=a 2 O O;have g:=a 3 O O;have i:=a 4 O O;have j:=a 5 O O;have k:=a 6 O O;simp[jl]at d f g i j k;unfold lu;rw[Z O,Z O,Z O,Z O,Z O,Z O]
def aFI(b:Int):x5 b 1:=DX.2 ⟨O,O,λr c a=>O⟩
def aFJ(h:x5 n x/\True)(c:decide ((x:Int)<=6)=true)(d:((((jl (x:Int)):Nat):Int)==n)=false):x5 n (x+1):=by
 obtain⟨i,j,f⟩:=DX.1 h.1;simp only[be]at c;refine DX.2 ⟨O,O,λr a g=>?_⟩;by_cases e:r=x
 ·subst e;simpa using d
 ·exact f r a O
def agb(h:x5 n x/\True):1<=x/\x<=7:=⟨(DX.1 h.1).1,(DX.1 h.1).2.1⟩
def bq{b:Int}(h:(n==b)=true):n=b:=an h
theorem aFF(b:Int)(h:0<=b):bh 116 [wI .i64 b] (tT [iE (lu b.toNat).1,bE (lu b.toNat).2]):=by
 refine vF func116 rfl [JW] [(2,⟨Nat,λx=>⟨[(0,iT b),(4,iT x)],[],0⟩,λx=>x5 b x/\True,λx=>7-x⟩)] ?_;repeat' first|intro _|apply aQ|refine aS 1 (aQ ?_ λ(x:Nat)(a:x5 b x/\True)=>?_)|refine aS (x+1) ?_
 all_goals first|exact bj|with_reducible rfl|omega|exact aFI b|have g:=agb a;simp only[be]at*;omega|(have g:=agb a;have c:=‹decide ((x:Int)<=6)=true›;simp only[be]at c;have e:=aFH g.1 O (bq ‹(_==b)=true›);first|rw[e];done|rw[e])|rw[aFG a h Y];done|exact aFJ a Y Y
def Px:=dj (.int .i64) aFF
def OI:∀a∈[1,2,3,4,5,6],∀b∈[1,2,3,4,5,6],IntKind.i64.wrap ((BitVec.ofInt IntKind.i64.bits ((a:Nat):Int) &&& BitVec.ofInt IntKind.i64.bits ((b:Nat):Int)).toNat:Int)=((a &&& b:Nat):Int):=ae
def X1:∀a∈[1,2,3,4,5,6],∀b∈[1,2,3,4,5,6],IntKind.i64.wrap ((BitVec.ofInt IntKind.i64.bits ((a:Nat):Int) ||| BitVec.ofInt IntKind.i64.bits ((b:Nat):Int)).toNat:Int)=((a ||| b:Nat):Int):=ae
def apl(s:Int):xq s∈[1,2,3,4,5,6]:=by unfold xq;split<;>(try split)<;>simp
theorem azA(a b:Int):bh 117 [wI .i64 a,wI .i64 b] (tT [iE (tu a b).1,bE (tu a b).2]):=by
 refine vF func117 rfl [JW,Px] [] ?_;repeat' first|intro _|apply aQ
 all_goals first|exact bj|show 0<=_;rw[OI _ (pN a) _ (pN b)];omega|rw[OI _ (pN a) _ (pN b),bt];rfl
theorem axZ(a b:Int):bh 118 [wI .i64 a,wI .i64 b] (tT [iE (tg a b).1,bE (tg a b).2]):=by
 refine vF func118 rfl [JW,Px] [] ?_;repeat' first|intro _|apply aQ
 all_goals first|exact bj|show 0<=_;rw[X1 _ (pN a) _ (pN b)];omega|rw[X1 _ (pN a) _ (pN b),bt];rfl
@[irreducible] def B6(c:Int):=c=1\/c=2\/c=3\/c=4\/c=5\/c=6
def B6.of(h:x∈[1,2,3,4,5,6]):B6 (x:Int):=by unfold B6;simp at h;omega
theorem aDV(c:Int)(h:B6 c):bh 115 [wI .i64 c] (iT (G4 c.toNat:Nat)):=by
 refine vF func115 rfl [] [] ?_;unfold B6 at h;rcases h with rfl|rfl|rfl|rfl|rfl|rfl
 all_goals repeat' first|intro _|apply aQ
 all_goals first|exact bj|rename_i b a;revert b a;decide
def ass:=dj (.int .i64) aDV
@[irreducible] def mT(p q:J):=bQ 4 q/\gm 4 q=gm 4 p
def mT.c(h:mT p q/\True):bQ 4 q:=by have:=h.1;unfold mT at this;exact this.1
def mT.f(h:mT p q/\True):gm 4 q=gm 4 p:=by have:=h.1;unfold mT at this;exact this.2
def akM(h:bQ 4 p):mT p p:=by unfold mT;exact⟨h,rfl⟩
def akO{c:J}(h:mT p q/\True)(b:q.aL[((q.aL.length:Int)-1).toNat]?=some c):mT p c:=by have a:=mT.c h;have g:=mT.f h;have d:=bM b;have e:((q.aL.length:Int)-1).toNat=q.aL.length-1:=O;rw[e,<-rJ]at b;unfold mT;refine⟨(a.bu d).mono (by have:=a.lv;omega),?_⟩;rw[<-g];show _=(match q.aL.getLast? with|some c=>gm 3 c|none=>_);rw[b];show gm 4 c=gm 3 c;have f:=a.bu d;have:=a.lv;rw[Kk 4 f O,Kk 3 f O]
def akN(h:mT p q/\True)(d:decide (0<((q.aL.length:Nat):Int))=false):bm ⟨q.neg,q.aC⟩=sv (gm 4 p):=by
 have b:=mT.c h;have a:Dg q.aC:=by
  cases b with
  |const n=>exact iv n
  |node f c g i j k l=>exact Dg.nil
 rw[<-mT.f h,qz a];have e:gm 4 q=iV ⟨q.neg,q.aC⟩:=by
  cases b with
  |const n=>rw[Gj];exact(fU n).symm
  |node f c g i j k l=>exact absurd (show(0:Int)<(c.length:Int)by omega) (cQ d)
 rw[e];unfold sv;split
 ·rfl
 ·split<;>split<;>omega
def aEc(h:mT U q/\True)(a:q.aL[((q.aL.length:Int)-1).toNat]?=some p):SizeOf.sizeOf p<SizeOf.sizeOf q:=J.lt (bM a)
theorem awj(p:J)(h:bQ 4 p):bh 114 [wE .aF p] (iT (sv (gm 4 p))):=by
 refine vF func114 rfl [vC] [(1,⟨J,λx=>⟨[(1,br 0)],[(0,.cells [cG x.aK,.d (.cK x.neg),.d (.bN (U:=Un) W.u32 x.aC),.d (.bN (U:=Un) W.aF x.aL)])],1⟩,λx=>mT p x/\True,λx=>SizeOf.sizeOf x⟩)] ?_;repeat' first|intro _|apply aQ|refine aS p (aQ ?_ λ(x:J)(a:mT p x/\True)=>?_)|refine aS ‹J› ?_
 all_goals first|exact bj|with_reducible rfl|omega|exact akM h|exact akN a Y|exact akO a Y|simp only[be]at*;omega|show SizeOf.sizeOf _<SizeOf.sizeOf x;exact aEc a Y
def arW:=dj (.el W.aF) awj
end Go.Proofs.YtfbmhjooliccnaaGreatDoor
