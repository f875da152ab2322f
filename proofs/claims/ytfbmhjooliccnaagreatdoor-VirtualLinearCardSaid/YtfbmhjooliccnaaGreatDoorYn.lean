/- A part of the proof of VirtualLinear: Je to Jg. No condition. -/
import Derived.Test.YtfbmhjooliccnaaGreatDoorYi
set_option linter.all false
set_option maxRecDepth 100000
set_option maxHeartbeats 60000000
noncomputable section
namespace Go.Proofs.YtfbmhjooliccnaaGreatDoor
open Go Go.Ab Go.Proofs.Tryz
variable {d b:Int}{x y:aY}{a:ao}
@[irreducible] def wT(a b:ao):=Dg a/\Dg b/\a.length<=1073741824/\b.length<=1073741824/\0<nV b
@[irreducible] def gq(b:ao):Int:=32-bL (((aT b)[(aT b).length-1]?).getD 0)
def vD(b:ao):List Int:=cT (nV (aT b)*2^(gq b).toNat).toNat
def aD(a b:ao):Int:=nV a*2^(gq b).toNat
def lD(a:ao):Nat:=(aT a).length+1
section
variable {a b:ao}(h:wT a b)
include h
def tU:=(wT.eq_1 ..).mp h
def Vf(h0:decide (ir a (aT b)<0)=true):[]=cT (nV a/nV b).toNat/\aT a=cT (nV a%nV b).toNat:=by
 have u:=tU h;have h0:=dO h0;rw[Az u.1 u.2.1.fe,i_]at h0;have d:=iZ u.1;have c:nV a<nV b:=by
  split at h0
  ·assumption
  ·split at h0<;>omega
 rw[Int.ediv_eq_zero_of_lt d c,Ih d c];exact⟨uu.symm,s9 u.1⟩
def z7(h0:decide (ir a (aT b)<0)=false):nV b<=nV a/\0<(aT b).length/\(aT b).length<=(aT a).length:=by
 have u:=tU h;have h0:=cQ h0;rw[Az u.1 u.2.1.fe,i_]at h0;have f:nV b<=nV a:=by
  refine B1.1 λc=>?_
  rw[aM c]at h0;omega
 have d:0<(aT b).length:=by
  refine IQ λe=>?_
  have:=adS (fR e) u.2.1;omega
 refine⟨f,d,Nat.not_lt.1 λc=>?_⟩;have k1:=GX u.2.1.fe (wg b) d;have k2:=(iH u.1.fe).2;have i:=zz (show(aT a).length<=(aT b).length-1 by omega);rw[i_]at k1 k2;omega
def yj(c:(((aT b).length:Int)==1)=true)(f:(aT b)[(0:Int).toNat]?=some d):d=nV b/\mR a d:=by
 have u:=tU h;have c:((aT b).length:Int)=1:=an c;have e:d=nV b:=by
  rw[<-i_]
  match i:aT b,c with
  |[y],_=>rw[i]at f;have:d=y:=an f.symm;subst this;simp only[nV];omega
 refine⟨e,?_⟩;unfold mR;exact⟨u.1,u.2.1.fe.at f,O,O⟩
def Nh(h0:0<(aT b).length){t:Int}(c:(aT b)[(((aT b).length:Int)-1).toNat]?=some t):b5 t/\0<t/\gq b=32-bL t/\0<=gq b/\gq b<=31:=by
 have u:=tU h;have e:(((aT b).length:Int)-1).toNat=(aT b).length-1:=O;rw[e]at c;have d:=u.2.1.fe.at c;have f:0<t:=by
  have k:=wg b;unfold lj at k;rw[rJ,c]at k;have:t≠0:=λe=>k (by rw[e])
  rw[cD]at d;omega
 have i:gq b=32-bL t:=by unfold gq;rw[c];rfl
 have j:=XO d f;exact⟨d,f,i,O,O⟩
end
def aJd(b:ao):cT (nV (aT b)*2^(gq b).toNat).toNat=vD b:=rfl
section
variable {a b:ao}(h:wT a b)(h0:decide (ir a (aT b)<0)=false)
include h h0
def Vg:∃t,(aT b)[(aT b).length-1]?=some t/\b5 t/\0<t/\gq b=32-bL t/\0<=gq b/\gq b<=31:=by have g:=(z7 h h0).2.1;have e:(((aT b).length:Int)-1).toNat=(aT b).length-1:=O;refine⟨(aT b)[(aT b).length-1]' O,cN _,?_⟩;exact Nh h g (by rw[e];exact cN _)
def BN:0<=gq b/\gq b<=31/\rP (aT b) (gq b)/\rP a (gq b):=by
 have u:=tU h;obtain⟨t,_,_,_,_,d,c⟩:=Vg h h0;have l:=ml b;refine⟨d,c,?_,?_⟩<;>unfold rP
 ·exact⟨u.2.1.fe,O,d,c⟩
 ·exact⟨u.1,O,d,c⟩
def Ni:nV (vD b)=nV b*2^(gq b).toNat/\Dg (vD b)/\(vD b).length=(aT b).length/\lj (vD b):=by
 have u:=tU h;have g:=(z7 h h0).2.1;obtain⟨t,j,i,f,C,z,y⟩:=Vg h h0;have w:=wH (n:=(gq b).toNat) O;have B:=XO i f;have p:0<=nV (aT b)*2^(gq b).toNat:=pU (iZ u.2.1.fe) O;have k:=pd (nV (aT b)*2^(gq b).toNat).toNat;have ev:nV (vD b)=nV b*2^(gq b).toNat:=by show nV (cT _)=_;rw[k.2.1,<-i_ b];omega
 refine⟨ev,k.1,?_,k.2.2⟩;have D:nV b=nV ((aT b).take ((aT b).length-1))+t*pB ((aT b).length-1):=by have:=yc j;rw[show(aT b).length-1+1=(aT b).length by omega,im,i_]at this;exact this
 have s:=iH (u.2.1.fe.take ((aT b).length-1));rw[gw,kC O]at s;have e:=mf ((aT b).length-1);have q:pB (aT b).length=4294967296*pB ((aT b).length-1):=by rw[<-lr,show(aT b).length-1+1=(aT b).length by omega]
 have d:(t+1)*2^(gq b).toNat<=4294967296:=by
  have r:(2:Int)^bL t*2^(gq b).toNat=4294967296:=by rw[<-Int.pow_add,show bL t+(gq b).toNat=32 by omega];rfl
  rw[<-r];exact wW O O
 have m:nV b*2^(gq b).toNat<pB (aT b).length:=by
  have a1:nV b<(t+1)*pB ((aT b).length-1):=by rw[kT,Int.one_mul];omega
  have a2:nV b*2^(gq b).toNat<(t+1)*pB ((aT b).length-1)*2^(gq b).toNat:=V1 a1 w.2.2;have K:(t+1)*pB ((aT b).length-1)*2^(gq b).toNat=(t+1)*2^(gq b).toNat*pB ((aT b).length-1):=BZ ..;have H:(t+1)*2^(gq b).toNat*pB ((aT b).length-1)<=4294967296*pB ((aT b).length-1):=wW d (wV e);omega
 have o:pB ((aT b).length-1)<=nV b*2^(gq b).toNat:=by
  have a1:pB ((aT b).length-1)<=nV b:=by have:1*pB ((aT b).length-1)<=t*pB ((aT b).length-1):=wW O (wV e);omega
  have a2:nV b*1<=nV b*2^(gq b).toNat:=sH O O;omega
 have G:(vD b).length<=(aT b).length:=ur (by rw[i_];omega);have E:(aT b).length-1<(vD b).length:=by
  refine Nat.not_le.1 λc=>?_
  have:=(iH (l:=vD b) k.1).2;have:=zz c;omega
 omega
def Eu(c:(((aT b).length:Int)==1)=false):2<=(vD b).length/\(vD b).length<lD a/\lD a<=1073741825:=by have c:((aT b).length:Int)≠1:=an c;have g:=z7 h h0;have v:=Ni h h0;have u:=tU h;have l:=ml a;unfold lD;omega
def Ve:0<=aD a b/\aD a b<pB (lD a)/\(cT (aD a b).toNat).length<=lD a:=by
 have u:=tU h;have s:=BN h h0;have w:=wH (n:=(gq b).toNat) O;have f:=(iH u.1.fe).2;rw[i_]at f;have c:=iZ u.1;have e:0<=aD a b:=pU c O;have d:aD a b<pB (lD a):=by have a1:aD a b<=nV a*4294967296:=sH O c;have a2:pB (lD a)=4294967296*pB (aT a).length:=lr _;omega
 exact⟨e,d,ur O⟩
def vb(d:(((aT b).length:Int)==1)=false):sF (aD a b) (lD a) (vD b):=by
 have u:=tU h;have L:=Eu h h0 d;have v:=Ni h h0;have A:=Ve h h0;have g:=z7 h h0;have s:=BN h h0;have w:=wH (n:=(gq b).toNat) O;unfold sF;refine⟨(vD b).length-2,O,v.2.1,?_,O,O,A.1,A.2.1,?_⟩
 ·have e:(vD b).length-2+1=(vD b).length-1:=by omega
  rw[e];have k:=v.2.2.2;unfold lj at k;rw[rJ]at k;have c:=rY v.2.1 ((vD b).length-1);rw[cD]at c;rw[cN O]at k c⊢;rw[ib]at c⊢;have:(vD b)[(vD b).length-1]≠0:=λe=>k (by rw[e])
  omega
 ·rw[v.1];have f:=(iH u.1.fe).2;rw[i_]at f;have k1:=GX u.2.1.fe (wg b) g.2.1;rw[i_]at k1;have j:pB (aT a).length=pB (lD a-(vD b).length)*pB ((aT b).length-1):=by rw[<-G6];congr 1;unfold lD;omega
  have a1:pB (lD a-(vD b).length)*pB ((aT b).length-1)<=pB (lD a-(vD b).length)*nV b:=sH k1 (wV (mf _));have a2:nV a<pB (lD a-(vD b).length)*nV b:=O;have i:=V1 a2 w.2.2;show nV a*2^(gq b).toNat<_;rw[<-kU];exact i
def aj7(c:(((aT b).length:Int)==1)=false):lV (aD a b) (lD a) (vD b) (lD a-(vD b).length)
 (List.take (List.replicate ((((aT a).length:Nat):Int)+1).toNat (0:Int)).length (cT (nV a*2^(gq b).toNat).toNat)++List.drop (cT (nV a*2^(gq b).toNat).toNat).length (List.replicate ((((aT a).length:Nat):Int)+1).toNat 0))
 (List.replicate (((((((aT a).length:Nat):Int)+1).toNat:Nat):Int)-((vD b).length:Int)).toNat 0):=by
 have A:=Ve h h0;have L:=Eu h h0 c;have e:((((aT a).length:Nat):Int)+1).toNat=lD a:=by unfold lD;omega
 have d:(((lD a:Nat):Int)-((vD b).length:Int)).toNat=lD a-(vD b).length:=O;have A2:(cT (nV a*2^(gq b).toNat).toNat).length<=lD a:=A.2.2;rw[e,d,xb,List.drop_replicate,eL A2];exact akk (vb h h0 c)
end
section
variable {A:Int}{L:Nat}{v:ao}(h:sF A L v){x:Nat×List Int×List Int}(g:lV A L v x.1 x.2.1 x.2.2∧True)(hi:decide (0≤(x.1:Int)-1)=true)
include h g
theorem Vr:x.1<=L-v.length/\x.2.1.length=L/\x.2.2.length=L-v.length/\Dg x.2.1/\Dg x.2.2:=by have k:=g.1;unfold lV at k;exact⟨k.1,k.2.1,k.2.2.1,k.2.2.2.1,k.2.2.2.2.1⟩
include hi
theorem BQ:((x.1:Int)-1).toNat=x.1-1/\lV A L v (x.1-1+1) x.2.1 x.2.2/\1<=x.1:=by simp only[be]at hi;refine⟨O,?_,O⟩;rw[show x.1-1+1=x.1 by omega];exact g.1
def BR:1<=x.1/\x.1+v.length<=L/\x.2.1.length=L/\x.2.2.length=L-v.length/\L<=1099511627776/\2<=v.length/\x.1<=L-v.length:=by obtain⟨e,k,i⟩:=BQ h g hi;have l:=z8 h k;omega
def Ns:((x.1:Int)-1+(v.length:Int)+1).toNat-((x.1:Int)-1).toNat=v.length+1:=by have l:=BR h g hi;omega
theorem Ew{u2 u1 u0 v1 v2:Int}(a2:x.2.1[((x.1:Int)-1).toNat+((v.length:Nat):Int).toNat]?=some u2)(a1:x.2.1[((x.1:Int)-1).toNat+(((v.length:Nat):Int)-1).toNat]?=some u1)(a0:x.2.1[((x.1:Int)-1).toNat+(((v.length:Nat):Int)-2).toNat]?=some u0)
 (b1:v[(((v.length:Nat):Int)-1).toNat]?=some v1)(b2:v[(((v.length:Nat):Int)-2).toNat]?=some v2):
 EP u2 u1 u0 v1 v2/\nV (dG x.2.1 (x.1-1) (v.length+1))/nV v<=jV u2 u1 u0 v1 v2/\jV u2 u1 u0 v1 v2<=nV (dG x.2.1 (x.1-1) (v.length+1))/nV v+1:=by
 have l:=BR h g hi;obtain⟨e,k,i⟩:=BQ h g hi;obtain⟨n,c⟩:∃n,v.length=n+2:=⟨v.length-2,O⟩;have E:=DVe h k c;rw[e]at a2 a1 a0;rw[show x.1-1+((v.length:Nat):Int).toNat=x.1-1+(n+2)by omega]at a2;rw[show x.1-1+(((v.length:Nat):Int)-1).toNat=x.1-1+(n+1)by omega]at a1;rw[show x.1-1+(((v.length:Nat):Int)-2).toNat=x.1-1+n by omega]at a0;rw[show(((v.length:Nat):Int)-1).toNat=n+1 by omega]at b1;rw[show(((v.length:Nat):Int)-2).toNat=n by omega]at b2;rw[a2,a1,a0,b1,b2]at E;exact E
def akr(c:b5 d):rQ x.2.1 ((x.1:Int)-1).toNat (((x.1:Int)-1+(v.length:Int)+1).toNat-((x.1:Int)-1).toNat) v d:=by have l:=BR h g hi;obtain⟨e,k,i⟩:=BQ h g hi;have k2:=z8 h k;rw[Ns h g hi,e];unfold rQ;exact⟨rfl,O,O,k2.2.2.2.2.1,k2.2.2.2.2.2.2.1,c⟩
def Ex{y:Int}(c:(x.2.2.set ((x.1:Int)-1).toNat d)[((x.1:Int)-1).toNat]?=some y):y=d:=by have l:=BR h g hi;rw[Ww O]at c;injection c with c;exact c.symm
def Vp:0<=nV (dG x.2.1 (x.1-1) (v.length+1))/\nV (dG x.2.1 (x.1-1) (v.length+1))<pB (v.length+1)/\0<nV v/\nV v<pB (v.length+1):=by obtain⟨e,k,i⟩:=BQ h g hi;have k2:=z8 h k;have b1:=iH (Bh (o:=x.1-1) (n:=v.length+1) k2.2.2.2.2.1);rw[Bi k2.2.2.2.1]at b1;have b2:=(iH k2.2.2.2.2.2.2.1).2;have d:=lr v.length;have c:=mf v.length;exact⟨b1.1,b1.2,H7 h,O⟩
def akn(j:b5 d)(m:nV (dG x.2.1 (x.1-1) (v.length+1))/nV v<=d)(c:sw x.2.1 ((x.1:Int)-1).toNat (((x.1:Int)-1+(v.length:Int)+1).toNat-((x.1:Int)-1).toNat) v d=false):
 lV A L v (x.1-1) (qA x.2.1 ((x.1:Int)-1).toNat (((x.1:Int)-1+(v.length:Int)+1).toNat-((x.1:Int)-1).toNat) v d) (x.2.2.set ((x.1:Int)-1).toNat d):=by
 have b:=Vp h g hi;obtain⟨e,k,i⟩:=BQ h g hi;rw[Ns h g hi,e]at c⊢;unfold sw at c;simp only[bc]at c;have f:d*nV v<=nV (dG x.2.1 (x.1-1) (v.length+1)):=O;have l:d=nV (dG x.2.1 (x.1-1) (v.length+1))/nV v:=by have:=(Ii b.2.2.1).2 f;omega
 have N:=Vm h k j l;have n:=pU (cD.1 j).1 (wV b.2.2.1);unfold qA;rw[Ih O O];exact N
def Vo(r:b5 d)(G:d<=nV (dG x.2.1 (x.1-1) (v.length+1))/nV v+1)(c:sw x.2.1 ((x.1:Int)-1).toNat (((x.1:Int)-1+(v.length:Int)+1).toNat-((x.1:Int)-1).toNat) v d=true):
 rz (qA x.2.1 ((x.1:Int)-1).toNat (((x.1:Int)-1+(v.length:Int)+1).toNat-((x.1:Int)-1).toNat) v d) ((x.1:Int)-1).toNat (((x.1:Int)-1+(v.length:Int)+1).toNat-((x.1:Int)-1).toNat) v/\
 lV A L v (x.1-1) (xj (qA x.2.1 ((x.1:Int)-1).toNat (((x.1:Int)-1+(v.length:Int)+1).toNat-((x.1:Int)-1).toNat) v d) ((x.1:Int)-1).toNat (((x.1:Int)-1+(v.length:Int)+1).toNat-((x.1:Int)-1).toNat) v) ((x.2.2.set ((x.1:Int)-1).toNat d).set ((x.1:Int)-1).toNat (IntKind.u32.wrap (d-1))):=by
 have b:=Vp h g hi;have l:=BR h g hi;obtain⟨e,k,i⟩:=BQ h g hi;have k2:=z8 h k;rw[Ns h g hi,e]at c⊢;unfold sw at c;simp only[be]at c;have s:=cD.1 r;have t:0<d:=by
  refine Int.lt_of_not_ge λu=>?_
  have:d=0:=O;subst this;omega
 have m:d-1=nV (dG x.2.1 (x.1-1) (v.length+1))/nV v:=by have:=(BY b.2.2.1).2 c;omega
 have j:b5 (d-1):=cD.2 ⟨O,O⟩;have w:IntKind.u32.wrap (d-1)=d-1:=by rw[IntKind.wrap_u32];omega
 have y:=EA (nV (dG x.2.1 (x.1-1) (v.length+1))) (nV v);have z:=rE (nV (dG x.2.1 (x.1-1) (v.length+1))) (sJ b.2.2.1);have B:=sG (nV (dG x.2.1 (x.1-1) (v.length+1))) b.2.2.1;rw[<-m,iy,sL,Int.one_mul]at y;have N:=Vm h k j m;have f:(kG ((nV (dG x.2.1 (x.1-1) (v.length+1))-d*nV v)%pB (v.length+1)).toNat (v.length+1)).length=v.length+1:=by have p:=mf (v.length+1);have n:=rE (nV (dG x.2.1 (x.1-1) (v.length+1))-d*nV v) (sJ p);have q:=sG (nV (dG x.2.1 (x.1-1) (v.length+1))-d*nV v) p;exact PO O
 refine⟨?_,?_⟩
 ·unfold rz qA;exact⟨rfl,by rw[TG k2.2.2.2.1 f];exact k2.2.2.2.1,by rw[TG k2.2.2.2.1 f];omega,ahq k2.2.2.2.2.1 (F8 _ _),k2.2.2.2.2.2.2.1⟩
 ·rw[w,List.set_set];have C:xj (qA x.2.1 (x.1-1) (v.length+1) v d) (x.1-1) (v.length+1) v=ob x.2.1 (x.1-1) (v.length+1) (kG (nV (dG x.2.1 (x.1-1) (v.length+1))-(d-1)*nV v).toNat (v.length+1)):=by
   unfold xj qA;rw[ahs k2.2.2.2.1 f,F9];have n:(nV (dG x.2.1 (x.1-1) (v.length+1))-d*nV v)%pB (v.length+1)=nV (dG x.2.1 (x.1-1) (v.length+1))-d*nV v+1*pB (v.length+1):=Lg (mf _) O O;have D:(((nV (dG x.2.1 (x.1-1) (v.length+1))-d*nV v)%pB (v.length+1)).toNat:Int)=nV (dG x.2.1 (x.1-1) (v.length+1))-d*nV v+1*pB (v.length+1):=by rw[n];omega
   have q:(nV (dG x.2.1 (x.1-1) (v.length+1))-d*nV v+1*pB (v.length+1)+nV v)%pB (v.length+1)=nV (dG x.2.1 (x.1-1) (v.length+1))-d*nV v+1*pB (v.length+1)+nV v+(-1)*pB (v.length+1):=Lg (mf _) O O;rw[D,q];have E:nV (dG x.2.1 (x.1-1) (v.length+1))-d*nV v+1*pB (v.length+1)+nV v+(-1)*pB (v.length+1)=nV (dG x.2.1 (x.1-1) (v.length+1))-(d-1)*nV v:=by rw[sL];omega
   rw[E];have ss:=aht (Z:=x.2.1) (o:=x.1-1) k2.2.2.2.1 f;unfold ob at ss⊢;rw[ss.2.1,ss.2.2]
  rw[C];exact N
end
section
variable {A:Int}{L:Nat}{v:ao}(h:sF A L v){x:Nat×List Int×List Int}(g:lV A L v x.1 x.2.1 x.2.2∧True)(hi:decide (0≤(x.1:Int)-1)=true){u2 u1 u0 v1 v2:Int}(a2:x.2.1[((x.1:Int)-1).toNat+((v.length:Nat):Int).toNat]?=some u2)(a1:x.2.1[((x.1:Int)-1).toNat+(((v.length:Nat):Int)-1).toNat]?=some u1)(a0:x.2.1[((x.1:Int)-1).toNat+(((v.length:Nat):Int)-2).toNat]?=some u0)
 (b1:v[(((v.length:Nat):Int)-1).toNat]?=some v1)(b2:v[(((v.length:Nat):Int)-2).toNat]?=some v2){y1:Int}(hy1:(x.2.2.set ((x.1:Int)-1).toNat (jV u2 u1 u0 v1 v2))[((x.1:Int)-1).toNat]?=some y1)
include h g hi a2 a1 a0 b1 b2 hy1
theorem aks:rQ x.2.1 ((x.1:Int)-1).toNat (((x.1:Int)-1+(v.length:Int)+1).toNat-((x.1:Int)-1).toNat) v y1:=by rw[Ex h g hi hy1];exact akr h g hi (F_ (Ew h g hi a2 a1 a0 b1 b2).1)
theorem ako(c:(!sw x.2.1 ((x.1:Int)-1).toNat (((x.1:Int)-1+(v.length:Int)+1).toNat-((x.1:Int)-1).toNat) v y1)=true):
 lV A L v (x.1-1) (qA x.2.1 ((x.1:Int)-1).toNat (((x.1:Int)-1+(v.length:Int)+1).toNat-((x.1:Int)-1).toNat) v y1) (x.2.2.set ((x.1:Int)-1).toNat (jV u2 u1 u0 v1 v2)):=by
 have e:=Ex h g hi hy1;rw[e]at c⊢;have E:=Ew h g hi a2 a1 a0 b1 b2;rw[BM]at c;exact akn h g hi (F_ E.1) E.2.1 c
theorem akp(c:(!sw x.2.1 ((x.1:Int)-1).toNat (((x.1:Int)-1+(v.length:Int)+1).toNat-((x.1:Int)-1).toNat) v y1)=false):
 rz (qA x.2.1 ((x.1:Int)-1).toNat (((x.1:Int)-1+(v.length:Int)+1).toNat-((x.1:Int)-1).toNat) v y1) ((x.1:Int)-1).toNat (((x.1:Int)-1+(v.length:Int)+1).toNat-((x.1:Int)-1).toNat) v:=by
 have e:=Ex h g hi hy1;rw[e]at c⊢;have E:=Ew h g hi a2 a1 a0 b1 b2;rw[Bool.not_eq_false']at c;exact(Vo h g hi (F_ E.1) E.2.2 c).1
theorem akq(c:(!sw x.2.1 ((x.1:Int)-1).toNat (((x.1:Int)-1+(v.length:Int)+1).toNat-((x.1:Int)-1).toNat) v y1)=false)(f:(x.2.2.set ((x.1:Int)-1).toNat (jV u2 u1 u0 v1 v2))[((x.1:Int)-1).toNat]?=some d):
 lV A L v (x.1-1) (xj (qA x.2.1 ((x.1:Int)-1).toNat (((x.1:Int)-1+(v.length:Int)+1).toNat-((x.1:Int)-1).toNat) v y1) ((x.1:Int)-1).toNat (((x.1:Int)-1+(v.length:Int)+1).toNat-((x.1:Int)-1).toNat) v) ((x.2.2.set ((x.1:Int)-1).toNat (jV u2 u1 u0 v1 v2)).set ((x.1:Int)-1).toNat (IntKind.u32.wrap (d-1))):=by
 have e:=Ex h g hi hy1;have i:=Ex h g hi f;rw[e]at c⊢;rw[i];have E:=Ew h g hi a2 a1 a0 b1 b2;rw[Bool.not_eq_false']at c;exact(Vo h g hi (F_ E.1) E.2.2 c).2
end
def Vq{a b:ao}(h:wT a b)(h0:decide (ir a (aT b)<0)=false)(f:(((aT b).length:Int)==1)=false){x:Nat×List Int×List Int}(g:lV (aD a b) (lD a) (vD b) x.1 x.2.1 x.2.2/\True)(hi:decide (0<=(x.1:Int)-1)=false):
 aT x.2.2=cT (nV a/nV b).toNat/\cT (nV x.2.1/2^(gq b).toNat).toNat=cT (nV a%nV b).toNat:=by
 simp only[bc]at hi;have n:=Vr (vb h h0 f) g;have i:x.1=0:=O;have k:=g.1;rw[i]at k;obtain⟨c,d⟩:=akl (vb h h0 f) k;have s:=BN h h0;have w:=wH (n:=(gq b).toNat) O;have v:=(Ni h h0).1;rw[v]at c d;have j:aD a b=nV a*2^(gq b).toNat:=rfl;rw[j]at c d;rw[Int.mul_ediv_mul_of_pos_left _ _ w.2.2]at c;have e:nV x.2.1=nV a%nV b*2^(gq b).toNat:=by rw[d,iy (nV a),iy (nV b),V0 _ _ w.2.2,iy]
 refine⟨by rw[s9 n.2.2.2.2,c],?_⟩;rw[e,Int.mul_ediv_cancel _ (sJ w.2.2)]
def Nj{a:ao}{b:Int}(h:mR a d)(e:d=b):0<=IntKind.u64.wrap (nV a%d)/\IntKind.u64.wrap (nV a%d)<=18446744073709551615/\cT (IntKind.u64.wrap (nV a%d)).toNat=cT (nV a%b).toNat:=by
 have u:=ym h;have i:=cD.1 u.2.1;have c:=rE (nV a) (sJ u.2.2.1);have j:=sG (nV a) u.2.2.1;have f:IntKind.u64.wrap (nV a%d)=nV a%d:=by rw[IntKind.wrap_u64];omega
 rw[f,e];subst e;exact⟨c,O,rfl⟩
def atl(a b:ao)(h:wT a b):bh 212 [wL .u32 a,wL .u32 b] (tT [lE .u32 (cT (nV a/nV b).toNat),lE .u32 (cT (nV a%nV b).toNat)]):=by
 refine vG func212 rfl ⟨[JV,JR,Pu,arK,asb,asE,asF,arP],[aDt,aDd]⟩ [(14,⟨Nat×List Int×List Int,λv=>⟨[(4,.e (.c (.aX 1 (U:=Un) W.u32 (lD a-(vD b).length)))),(9,iT (gq b)),(10,lT .u32 (vD b)),(11,iT (vD b).length),(12,.e (.c (.aX 0 (U:=Un) W.u32 (lD a)))),(13,iT ((v.1:Int)-1))],[(0,.aW (U:=Un) W.u32 v.2.1),(1,.aW (U:=Un) W.u32 v.2.2)],2⟩,λx=>lV (aD a b) (lD a) (vD b) x.1 x.2.1 x.2.2/\True,λv=>v.1⟩)] ?_;repeat' first|intro _|apply aQ|refine aS (lD a-(vD b).length,?_,?_) (aQ ?_ λ(x:Nat×List Int×List Int) (d:lV (aD a b) (lD a) (vD b) x.1 x.2.1 x.2.2/\True)=>?_)|refine aS (x.1-1,?_,?_) ?_
 all_goals(try rw[<-(Nh h (z7 h Y).2.1 ‹(aT b)[(((aT b).length:Int)-1).toNat]?=some _›).2.2.1])
 all_goals(try simp only[aJd])
 all_goals first| (with_reducible first|show Int|show List Int|show Nat)|exact bj|with_reducible rfl|omega|((with_reducible show(_&&_)=true);kernel_rfl)| (with_reducible first|exact(Vf h Y).1.symm|exact(Vf h Y).2)|show Sm _;unfold Sm;have u:=tU h;omega|exact(yj h Y Y).2|have k:=(yj h Y Y).1;with_reducible rw[k];done| (with_reducible first|exact(Nj (yj h Y Y).2 (yj h Y Y).1).1|exact(Nj (yj h Y Y).2 (yj h Y Y).1).2.1|exact(Nj (yj h Y Y).2 (yj h Y Y).1).2.2)|(have k:=z7 h Y;have u:=tU h;have l:=ml a;first|omega|show 0<_;omega|show 4*_<=_;omega)|exact(Nh h (z7 h Y).2.1 Y).1|exact(BN h Y).2.2.1|exact(BN h Y).2.2.2|rw[xb];done|(have L:=Eu h Y Y;have f:lD a=(aT a).length+1:=rfl;first|omega|show 4*_<=_;omega)|exact aj7 h Y Y|(have l:=BR (vb h Y Y) d Y;first|omega|rw[rK];omega|have L:=Eu h Y Y;omega)|exact(Ew (vb h Y Y) d Y Y Y Y Y Y).1|exact aks (vb h Y Y) d Y Y Y Y Y Y Y|exact ako (vb h Y Y) d Y Y Y Y Y Y Y Y|exact akp (vb h Y Y) d Y Y Y Y Y Y Y Y|exact akq (vb h Y Y) d Y Y Y Y Y Y Y Y Y|(have L:=Vr (vb h Y Y) d;have g:=Eu h Y Y;first|omega|show Sm _;unfold Sm;omega|show rP _ _;have s:=BN h Y;unfold rP;exact⟨L.2.2.2.1,O,s.1,s.2.1⟩)|exact(Vq h Y Y d Y).1|exact(Vq h Y Y d Y).2
def Ze:=eI (.ls W.u32) (.ls W.u32) atl
def iE2(n:Int):SE Un:=.c (.d (.sc (.int .i64 n)))
def Di(x:aY):SE Un:=.agg ((eF .cM x).map .d)
def axQ{x:aY}(h:Dg x.aC):(bm ⟨x.neg,x.aC⟩==0)=decide (iV x=0):=by
 have e:bm ⟨x.neg,x.aC⟩=if iV x<0 then-1 else if 0<iV x then 1 else 0:=qz h;rw[e,oV,gQ,be];split
 ·omega
 ·split<;>omega
def axJ(x:aY)(h:Dg x.aC):bh 214 [wE .cM x] (bT (decide (iV x=0))):=by
 refine vF func214 rfl [vC] [] ?_;repeat' first|intro _|apply aQ
 all_goals first|exact bj|exact axQ h
def Zi:=dj (.el W.cM) axJ
@[irreducible] def QP(x y:aY):=Dg x.aC/\Dg y.aC/\x.aC.length<=1073741824/\y.aC.length<=1073741824/\iV y≠0
section
variable {x y:aY}(h:QP x y)
include h
def Am:=(QP.eq_1 ..).mp h
def IZ:0<nV y.aC:=by have u:=Am h;have n:=iZ u.2.1;have k:=u.2.2.2.2;unfold iV at k;split at k<;>omega
def QPd:wT x.aC y.aC:=by have u:=Am h;unfold wT;exact⟨u.1,u.2.1,u.2.2.1,u.2.2.2.1,IZ h⟩
def al4:iL (!(x.neg==y.neg)) (cT (nV x.aC/nV y.aC).toNat)=iD ((iV x).tdiv (iV y)):=by have u:=Am h;have p:=IZ h;have n:=iZ u.1;have d:0<=nV x.aC/nV y.aC:=Ad n (wV p);have k:=pd (nV x.aC/nV y.aC).toNat;have e:=ya (b:=(!(x.neg==y.neg))) k.1;rw[C1,k.2.1]at e;rw[e];congr 1;have c:((nV x.aC/nV y.aC).toNat:Int)=nV x.aC/nV y.aC:=O;rw[c];have a:=NF n (b:=nV y.aC);unfold iV;cases x.neg<;>cases y.neg<;>simp[Int.neg_tdiv,Int.tdiv_neg,a]
def al6:iL x.neg (cT (nV x.aC%nV y.aC).toNat)=iD ((iV x).tmod (iV y)):=by have u:=Am h;have p:=IZ h;have n:=iZ u.1;have d:0<=nV x.aC%nV y.aC:=rE _ (sJ p);have k:=pd (nV x.aC%nV y.aC).toNat;have e:=ya (b:=x.neg) k.1;rw[C1,k.2.1]at e;rw[e];congr 1;have c:((nV x.aC%nV y.aC).toNat:Int)=nV x.aC%nV y.aC:=O;rw[c];have a:=yv n (b:=nV y.aC);unfold iV;cases x.neg<;>cases y.neg<;>simp[Int.neg_tmod,Int.tmod_neg,a]
def WK:(cT (nV x.aC/nV y.aC).toNat).length<=1073741824/\(cT (nV x.aC%nV y.aC).toNat).length<=1073741824:=by have u:=Am h;have p:=IZ h;have n:=iZ u.1;have f:=(iH u.1).2;have e:=(iH u.2.1).2;have d:0<=nV x.aC/nV y.aC:=Ad n (wV p);have c:nV x.aC/nV y.aC<=nV x.aC:=Int.ediv_le_self _ n;have b:0<=nV x.aC%nV y.aC:=rE _ (sJ p);have a:=sG (nV x.aC) p;refine⟨dH (ur (k:=x.aC.length) O) u.2.2.1,dH (ur (k:=y.aC.length) O) u.2.2.2.1⟩
def al8:Sm (cT (nV x.aC/nV y.aC).toNat):=by unfold Sm;have:=(WK h).1;omega
def al9:Sm (cT (nV x.aC%nV y.aC).toNat):=by unfold Sm;have:=(WK h).2;omega
def al5:(iL (!(x.neg==y.neg)) (aT (cT (nV x.aC/nV y.aC).toNat)))=iD ((iV x).tdiv (iV y)):=by rw[C1];exact al4 h
def al7:(iL x.neg (aT (cT (nV x.aC%nV y.aC).toNat)))=iD ((iV x).tmod (iV y)):=by rw[C1];exact al6 h
end
def QPz{x y:aY}(h:QP x y)(a:decide (iV y=0)=true):False:=(Am h).2.2.2.2 (dO a)
def aFo(x y:aY)(h:QP x y):bh 168 [wE .cM x,wE .cM y] (tT [Di (iD ((iV x).tdiv (iV y))),Di (iD ((iV x).tmod (iV y))),iE2 0]):=by
 refine vF func168 rfl [Zi,Ze,FY] [] ?_;repeat' first|intro _|apply aQ
 all_goals first|exact bj|with_reducible rfl|((with_reducible show(_&&_)=true);kernel_rfl)|exact(Am h).2.1 _ Y|exfalso;exact QPz h Y| (with_reducible first|exact QPd h|exact al8 h|exact al9 h)|rw[al5 h]|rw[al7 h]
def asw:=eI (.el W.cM) (.el W.cM) aFo
@[irreducible] def GP(x y:aY):=Dg x.aC/\Dg y.aC/\x.aC.length<=1073741824/\y.aC.length<=1073741824
@[irreducible] def GG(x y:aY)(a b:ao):=Dg a/\Dg b/\lj a/\lj b/\a.length<=1073741824/\b.length<=1073741824/\Int.gcd (nV a) (nV b)=Int.gcd (iV x) (iV y)
@[irreducible] def GH(x y:aY)(m n:Int):=0<=m/\m<=18446744073709551615/\0<=n/\n<=18446744073709551615/\Int.gcd m n=Int.gcd (iV x) (iV y)
def VG{x y:aY}(h:GP x y):=(GP.eq_1 ..).mp h
def yr{x y:aY}{a b:ao}(h:GG x y a b):=(GG.eq_1 ..).mp h
def If{x y:aY}{m n:Int}(h:GH x y m n):=(GH.eq_1 ..).mp h
def abQ(c:0<=d)(f:0<=b):Int.gcd b (d%b)=Int.gcd d b:=by
 obtain⟨d,rfl⟩:=Ae c;obtain⟨b,rfl⟩:=Ae f;show Nat.gcd b (((d:Int)%(b:Int)).natAbs)=Nat.gcd d b;have e:((d:Int)%(b:Int)).natAbs=d%b:=by rw[<-Int.natCast_emod];rfl
 rw[e,Nat.gcd_comm b,<-Nat.gcd_rec,Nat.gcd_comm]
def awR{x y:aY}(a:Dg x.aC)(b:Dg y.aC):Int.gcd (nV x.aC) (nV y.aC)=Int.gcd (iV x) (iV y):=by unfold iV;cases x.neg<;>cases y.neg<;>simp[Int.gcd_neg,Int.neg_gcd]
def akP{x y:aY}(h:GP x y):GG x y (aT x.aC) (aT y.aC):=by have u:=VG h;have a:=ml x.aC;have b:=ml y.aC;unfold GG;exact⟨u.1.fe,u.2.1.fe,wg _,wg _,O,O,by rw[i_,i_];exact awR u.1 u.2.1⟩
section
variable {x y:aY}{v:List Int×List Int}(g:GG x y v.1 v.2∧True)
include g
def VF(a:((v.2.length:Int)==0)=false):0<nV v.2:=by have u:=yr g.1;have n:=iZ u.2.1;have a:(v.2.length:Int)≠0:=an a;have k:=GX u.2.1 u.2.2.2.1 O;have:=mf (v.2.length-1);omega
def akQ(a:((v.2.length:Int)==0)=false):wT v.1 v.2:=by have u:=yr g.1;unfold wT;exact⟨u.1,u.2.1,u.2.2.2.2.1,u.2.2.2.2.2.1,VF g a⟩
def VE(a:((v.2.length:Int)==0)=false):GG x y v.2 (cT (nV v.1%nV v.2).toNat)/\(nV (cT (nV v.1%nV v.2).toNat)).toNat<(nV v.2).toNat:=by have u:=yr g.1;have p:=VF g a;have c:0<=nV v.1%nV v.2:=rE _ (sJ p);have b:=sG (nV v.1) p;have k:=pd (nV v.1%nV v.2).toNat;have e:((nV v.1%nV v.2).toNat:Int)=nV v.1%nV v.2:=O;have d:=(iH u.2.1).2;refine⟨?_,by rw[k.2.1];omega⟩;unfold GG;refine⟨u.2.1,k.1,u.2.2.2.1,k.2.2,u.2.2.2.2.2.1,dH (ur (k:=v.2.length) O) u.2.2.2.2.2.1,?_⟩;rw[k.2.1,e,<-u.2.2.2.2.2.2];exact abQ (iZ u.1) (iZ u.2.1)
def akR(a:((v.2.length:Int)==0)=true):iL false (aT v.1)=iD (Int.gcd (iV x) (iV y)):=by have u:=yr g.1;have a:(v.2.length:Int)=0:=an a;have e:v.2=[]:=fR O;have k:=u.2.2.2.2.2.2;rw[e]at k;have n:=iZ u.1;rw[ya u.1,<-k];show iD (nV v.1)=iD ((Int.gcd (nV v.1) 0:Nat):Int);congr 1;rw[Int.gcd_zero_right];omega
def Nw(b:decide (2<(v.1.length:Int))=false)(a:decide (2<(v.2.length:Int))=false):v.1.length<=2/\v.2.length<=2/\GH x y (nV v.1) (nV v.2):=by have u:=yr g.1;simp only[bc]at b a;have d:=iH u.1;have c:=iH u.2.1;have i:=zz (show v.1.length<=2 by omega);have f:=zz (show v.2.length<=2 by omega);have e:pB 2=18446744073709551616:=ae;refine⟨O,O,?_⟩;unfold GH;exact⟨d.1,O,c.1,O,u.2.2.2.2.2.2⟩
end
section
variable {x y:aY}{w:Int×Int}(g:GH x y w.1 w.2∧True)
include g
def Nx(a:(w.2 !=0)=true):GH x y w.2 (w.1.tmod w.2)/\(w.1.tmod w.2).toNat<w.2.toNat/\w.2≠0:=by have u:=If g.1;have a:w.2≠0:=an a;rw[yv u.1];have b:=rE w.1 a;have c:=sG w.1 (show 0<w.2 by omega);refine⟨?_,O,a⟩;unfold GH;refine⟨u.2.2.1,u.2.2.2.1,b,O,?_⟩;rw[<-u.2.2.2.2];exact abQ u.1 u.2.2.1
def akT(a:(w.2 !=0)=false):iL false (aT (cT w.1.toNat))=iD (Int.gcd (iV x) (iV y)):=by have u:=If g.1;have a:w.2=0:=an a;have k:=u.2.2.2.2;rw[a,Int.gcd_zero_right]at k;have d:=pd w.1.toNat;rw[ya d.1,d.2.1,<-k];show iD _=iD _;congr 1;show((w.1.toNat:Nat):Int)=_;omega
def akS:Sm (cT w.1.toNat):=by have u:=If g.1;have e:pB 2=18446744073709551616:=ae;have:=ur (n:=w.1.toNat) (k:=2) O;unfold Sm;omega
end
def awQ(x y:aY)(h:GP x y):bh 167 [wE .cM x,wE .cM y] (eT .cM (iD (Int.gcd (iV x) (iV y)))):=by
 refine vF func167 rfl [JV,Ze,FY,asR,Pu] [(2,⟨List Int×List Int,λv=>⟨[(4,br 2),(5,lT .u32 v.1),(6,lT .u32 v.2)],[(2,.cells [.d (.cK false),.d (.bN (U:=Un) W.u32 [])])],3⟩,λv=>GG x y v.1 v.2/\True,λv=>(nV v.2).toNat⟩),(9,⟨Int×Int,λv=>⟨[(4,br 2),(9,.e (.c (.d (.sc (.int .u64 v.1))))),(11,.e (.c (.d (.sc (.int .u64 v.2)))))],[(2,.cells [.d (.cK false),.d (.bN (U:=Un) W.u32 [])])],3⟩,λv=>GH x y v.1 v.2/\True,λv=>v.2.toNat⟩)] ?_;repeat' first|intro _|apply aQ|refine @aS (List Int×List Int) _ (?_,?_) (aQ ?_ λ(v:List Int×List Int)(a:GG x y v.1 v.2/\True)=>?_)|refine @aS (Int×Int) _ (?_,?_) (aQ ?_ λ(w:Int×Int)(b:GH x y w.1 w.2/\True)=>?_)|refine @aS (List Int×List Int) _ (?_,?_) ?_ |refine @aS (Int×Int) _ (?_,?_) ?_
 all_goals first| (with_reducible first|show Int|show List Int|show Nat)|exact bj|with_reducible rfl|((with_reducible show(_&&_)=true);kernel_rfl)|show Sm _;unfold Sm;have u:=VG h;omega| (with_reducible first|exact akP h|exact akQ a Y|exact(VE a Y).1)|exact(VE a Y).2|show Sm _;unfold Sm;have u:=yr a.1;omega|rw[akR a Y]|exact(Nw a Y Y).2.2|have u:=If b.1;omega|exact(Nx b Y).1|exact(Nx b Y).2.1|rw[akT b Y]|with_reducible exact akS b|exact(yr a.1).1 _ Y|exact(yr a.1).2.1 _ Y|exact(Nw a Y Y).1|exact(Nw a Y Y).2.1|exact(Nx b Y).2.2 Y
def ar0:=eI (.el W.cM) (.el W.cM) awQ
end Go.Proofs.YtfbmhjooliccnaaGreatDoor
