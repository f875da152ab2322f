/- Part of VirtualWitness. No condition. -/
import Derived.Test.YtfbmhjooliccnaaGreatDoorYm
set_option linter.all false
set_option maxRecDepth 100000
set_option maxHeartbeats 60000000
noncomputable section
namespace Go.Proofs.YtfbmhjooliccnaaGreatDoor
open Go Go.Ab Go.Proofs.Tryz
variable {m Z:F}{i:Nat}{l:zJ0}{c:J}
@[irreducible] def oJ(m:F)(i:Nat):List F:=(m.aO.take i).map dy
def e_(m:F):F.mk m.aM m.bW m.aH m.aO=m:=by cases m;rfl
def nt1(h:(kd m==1)=true):dy m=.mk 0 0 zP []:=by have h:kd m=1:=an h;unfold kd at h;rw[K8,aK (by split at h<;>omega)]
def nt2(h:(kd m==2)=true):dy m=.mk 2 (ux (jM m.bW)) (dG m.aH) []:=by have h:kd m=2:=an h;unfold kd at h;rw[K8,g (by split at h<;>omega),aK (by split at h<;>omega)]
def zm(h:(kd m==3)=true\/(kd m==4)=true):KG m:=by have h:kd m=3\/kd m=4:=an h;unfold kd at h;unfold KG;split at h<;>omega
def nt3(h:KG m):dy m=.mk (7-m.aM) 0 zP (m.aO.map dy):=by unfold KG at h;rw[K8,g O,g O,aK h]
def nt0(a:(kd m==1)=false)(b:(kd m==2)=false)(c:(kd m==3)=false)(d:(kd m==4)=false):dy m=.mk 1 0 zP []:=by have a:kd m≠1:=an a;have b:kd m≠2:=an b;have c:kd m≠3:=an c;have d:kd m≠4:=an d;unfold kd at a b c d;rw[K8,g (by split at a<;>omega),g (by split at a<;>omega),g (by split at a<;>omega)]
def aen(m:F):oJ m 0=[]:=by unfold oJ;rfl
def aAb(m:F):(oJ m 0).length=0:=by rw[aen];rfl
def aep(h:m.aO[(i:Int).toNat]?=some Z):oJ m i++[dy Z]=oJ m (i+1):=by rw[bI]at h;unfold oJ;rw[h_,h,gB];rfl
def aAd(h:m.aO[(i:Int).toNat]?=some Z):(oJ m i).length+[dy Z].length=(oJ m (i+1)).length:=by rw[<-aep h];simp
def aeo(m:F)(i:Nat):(oJ m i).length<=m.aO.length:=by unfold oJ;simp;omega
def aAc(h:decide ((i:Int)<m.aO.length)=false)(a:KG m):oJ m i=(dy m).aO:=by simp only[bj]at h;rw[nt3 a];show oJ m i=m.aO.map dy;unfold oJ;rw[eQ O]
def nb1(h:iF m)(i:Nat)(x:F):((oJ m i).length+[x].length)*oP.dT<=140737488355328:=by have b:=aeo m i;have c:=h.len;have e:oP.dT=104:=rfl;have a:[x].length=1:=rfl;rw[e,a];omega
def nb2(h:iF m)(i:Nat)(x:F):(oJ m i).length+[x].length<=140737488355328:=by have b:=aeo m i;have c:=h.len;have a:[x].length=1:=rfl;rw[a];omega
def az0(m:F)(h:iF m):bh 34 [wE .aQ m] (eT .aQ (dy m)):=by
 generalize e:SizeOf.sizeOf m=D
 induction D using Nat.strongRecOn generalizing m
 rename_i D b;subst e;refine vF func34 rfl [Jk,ZJ,ar4,yT,uz Vw 34 (.el W.aQ) (λ(q:F)=>q∈m.aO) (λ(q:F)=>eT .aQ (dy q)) (λq c=>b _ (F.lt c) q (h.bz q c) rfl)] [(10,⟨Nat,λx=>⟨[(1,bQ 0),(2,bQ 1),(3,bQ 2),(29,lT .aQ m.aO),(30,iT m.aO.length),(31,iT x)],[(0,dh .aQ m),(1,dh .aQ zM),(2,.cells [.d (.sc (.int .i64 (7-m.aM))),cw 0,cw 0,iG,fv,fv,.aW 3 W.aQ (oJ m x).length]),(3,.aU (U:=S) W.aQ (oJ m x))],4⟩,λx=>(x<=m.aO.length/\KG m)/\True,λx=>m.aO.length-x⟩)] ?_;repeat' first|intro _|apply aP|refine aX 0 (aP ?_ λ(x:Nat) (a:(x<=m.aO.length/\KG m)/\True)=>?_)|refine aX (x+1) ?_
 all_goals clear b
 all_goals(try simp only[bm,e_]at*)
 all_goals first|exact aZ|omega|((with_reducible show(_&&_)=true);kernel_rfl)|rw[nt1 ak]<;>rfl|rw[nt2 ak]<;>rfl|rw[nt3 a.1.2]<;>rfl|rw[nt0 ak ak ak ak]<;>rfl|with_reducible exact h.np|exact zm (.inl ak)|exact zm (.inr ak)|have k:=zm (.inl ak);unfold KG at k;omega|have k:=zm (.inr ak);unfold KG at k;omega| (with_reducible first|exact aen m|exact aAb m|exact nb1 h _ _|exact nb2 h _ _|exact aep I|exact aAd I|exact aAc I a.1.2)|exact bF I|have:=h.len;have Z:=a.1.1;simp only[be,bj]at*;omega|rfl|exfalso;simp_all;done
def Jm:=dR (.el W.aQ) az0
mutual
def eB:F->List J
 |.mk k r p a=>if k=2 then [dG p]else if k=3\/k=4 then mn a else []
def mn:List F->List J
 |[]=>[]
 |m::r=>eB m++mn r
end
def Sg(m:F):eB m=if m.aM=2 then [dG m.aH]else if m.aM=3\/m.aM=4 then mn m.aO else []:=by cases m;rw[eB];rfl
theorem ae6:∀(a b:zF0),mn (a++b)=mn a++mn b
 |[],b=>by rw[gi,mn];rfl
 |m::a,b=>by rw[ei,mn,mn,ae6 a b,gh]
mutual
theorem ae5:∀m:F,(eB m).length<=bc m
 |.mk k r p a=>by
  have:=Sh a
  rw[eB,bc]
  split
  ·simp
  ·split
   ·omega
   ·simp
theorem Sh:∀l:List F,(mn l).length<=cy l
 |[]=>by rw[mn];simp
 |m::r=>by
  have c:=ae5 m
  have b:=Sh r
  rw[mn,cy,c_];omega
end
def pl2(h:(kd m==2)=true):eB m=[dG m.aH]:=by have h:kd m=2:=an h;unfold kd at h;rw[Sg,aK (by split at h<;>omega)]
def pl3(h:KG m):eB m=mn m.aO:=by unfold KG at h;rw[Sg,g O,aK h]
def pl0(a:(kd m==2)=false)(b:(kd m==3)=false)(c:(kd m==4)=false):eB m=[]:=by have a:kd m≠2:=an a;have b:kd m≠3:=an b;have c:kd m≠4:=an c;unfold kd at a b c;rw[Sg,g (by split at a<;>omega),g (by split at a<;>omega)]
def aoa(l:zF0):bh 239 [wL .aQ l] (eT .aQ (dA l)):=by
 refine vF func239 rfl [] [] ?_;repeat' first|intro _|apply aP
 all_goals first|exact aZ|rfl
def Ax:=dR (.ls W.aQ) λl (_:True)=>aoa l
def aBa(l:zF0):bh 253 [wL .aQ l] (eT .aQ (kY l)):=by
 refine vF func253 rfl [] [] ?_;repeat' first|intro _|apply aP
 all_goals first|exact aZ|rfl
def Fw:=dR (.ls W.aQ) λl (_:True)=>aBa l
def nlE:SE S:=.c (.d (.sc (.slice none 0 0)))
def Xl:ST S:=.e (.agg [.d (.sc (.int .i64 3)),.d (.sc (.int .i64 0)),.d (.sc (.int .i64 0)),.d (.sc (.bool false)),.d (.sc (.slice none 0 0)),.d (.sc (.slice none 0 0)),.d (.sc (.slice none 0 0))])
def an_:cN prog 239 (bJ (bP (U:=S) [])) ([nlE].map SE.den) (bJ (bP (U:=S) [])) (·∈[]) Xl.den:=by
 refine DY (V:=Vw) (reg:=⟨[],[]⟩) (ls:=[]) (aN:=[]) (τ:=⟨[(2,.e (.c (.ptr 0 0)))],[(0,.cells [.d (.sc (.int .i64 3)),.d (.sc (.int .i64 0)),.d (.sc (.int .i64 0)),.d (.sc (.bool false)),.d (.sc (.slice none 0 0)),.d (.sc (.slice none 0 0)),.d (.sc (.slice none 0 0))])],1⟩) mixed func239 rfl af (ic rfl) rfl rfl rfl rfl (λ_ _ h=>by cases h) ?_;repeat' first|intro _|apply aP
 all_goals first|exact aZ|rfl
def aub:fh prog 239:=fH func239 af rfl
def agC(H:List (Nat×aV S))(args:zS0)(K:f_ S->Prop):Prop:=
 match H,args with
 |[],[.c (.d (.sc (.slice none 0 0)))]=>K ⟨Xl,[],[],[]⟩
 |_,_=>False
def aAo:fk prog S where
 f:=239
 fX:=aub
 run:=agC
 ok H args K h:=by
  unfold agC at h;split at h
  ·refine⟨_,?_,λu a b=>?_,h⟩
   ·exact an_.fK λu a=>by simp at a
   ·simp at a
  ·cases h
@[irreducible] def VP(l:zJ0):=(∀c∈l,bO c)/\l.length<=1000000
def NL{l:zJ0}(h:VP l):=(VP.eq_1 ..).to_iff.1 h
@[irreducible] def pM(l:zJ0)(i:Nat):List F:=(l.take i).map λc=>dP c 3
def ajo(l:zJ0):pM l 0=[]:=by unfold pM;rfl
def aG9(l:zJ0):(pM l 0).length=0:=by rw[ajo];rfl
def ajq(h:l[(i:Int).toNat]?=some c):pM l i++[dP c 3]=pM l (i+1):=by rw[bI]at h;unfold pM;rw[h_,h,gB];rfl
def aHb(h:l[(i:Int).toNat]?=some c):(pM l i).length+[dP c 3].length=(pM l (i+1)).length:=by rw[<-ajq h];simp
def aHa(l:zJ0)(i:Nat):(pM l i).length<=l.length:=by unfold pM;simp;omega
def aG_(h:decide ((i:Int)<l.length)=false):pM l i=l.map λc=>dP c 3:=by simp only[bj]at h;unfold pM;rw[eQ O]
def ajp(h:VP l)(i:Nat)(x:F):((pM l i).length+[x].length)*oP.dT<=140737488355328/\(pM l i).length+[x].length<=140737488355328:=by have b:=aHa l i;have c:=(NL h).2;have e:oP.dT=104:=rfl;have a:[x].length=1:=rfl;rw[e,a];omega
def aGQ(l:zJ0)(h:VP l):bh 252 [wL .aH l] (eT .aQ (pJ l)):=by
 refine vG func252 rfl ⟨[Ay],[aAo]⟩ [(3,⟨Nat,λx=>⟨[(2,bQ 0),(3,bQ 1),(7,lT .aH l),(8,iT l.length),(9,iT x)],[(0,dh .aQ zM),(1,.cells [cw 3,cw 0,cw 0,iG,fv,fv,.aW 2 W.aQ (pM l x).length]),(2,.aU (U:=S) W.aQ (pM l x))],3⟩,λx=>x<=l.length/\True,λx=>l.length-x⟩)] ?_;repeat' first|intro _|apply aP|refine aX 0 (aP ?_ λ(x:Nat)(a:x<=l.length/\True)=>?_)|refine aX (x+1) ?_
 all_goals(try simp only[bm,e_]at*)
 all_goals first|exact aZ|omega|((with_reducible show(_&&_)=true);kernel_rfl)| (with_reducible first|exact ajo l|exact aG9 l)|exact(NL h).1 _ (bF I)| (with_reducible first|exact(ajp h _ _).1|exact(ajp h _ _).2|exact ajq I|exact aHb I)|rw[aG_ I]<;>rfl|have:=(NL h).2;have Z:=a.1;simp only[be,bj]at*;omega|rfl
def ZR:=dR (.ls W.aH) aGQ
end Go.Proofs.YtfbmhjooliccnaaGreatDoor
namespace Go.Ab.VS
variable {X B q C:Rat}
def Pt.YT{t:Pt}(h:t.ok){r:Rat}(a:t.dj r=0)(q:Rat):t.dj q=cJ (q-r):=by
 rcases kN q r with h1|h1|h1
 ·rw[xR ah];rcases Pt.YU h q with e|e|e
  ·exact e
  ·have:=Pt.Fh h (q:=q) (r:=r) O h1;omega
  ·have:=Pt.Fh h (q:=q) (r:=r) O h1;omega
 ·subst h1;rw[a,show q-q=0 by grind];exact tP.symm
 ·rw[u5 ah];exact Pt.Fh h O h1
def QH{f0 f1:Rat}(h:f1≠0):Pt.ok ⟨-f0,0,0,f1⟩:=⟨ah,h,.inl ⟨rfl,rfl⟩⟩
def aDk{f0 f1:Rat}(b:f1≠0)(h:b9 f0 f1 0 X=0):Pt.dj ⟨-f0,0,0,f1⟩ X=0:=by have a:Pt.rt ⟨-f0,0,0,f1⟩ 0:=⟨ah,ah⟩;rw[Pt.yQ (QH b) a];unfold b9 at h;show cJ ((X*f1-(-f0+0*0))*f1)=0;rw[show(X*f1-(-f0+0*0))*f1=0 by grind];exact tP
def Sx{f0 f1 f2:Rat}(c:f2≠0)(a:0<=f1*f1-4*f2*f0)(b:B=1\/B=-1):Pt.ok ⟨-f1,B,f1*f1-4*f2*f0,2*f2⟩:=⟨a,ah,.inr b⟩
def aDl{f0 f1 f2:Rat}(c:f2≠0)(h:b9 f0 f1 f2 X=0):0<=f1*f1-4*f2*f0/\∃B:Rat,(B=1\/B=-1)/\Pt.dj ⟨-f1,B,f1*f1-4*f2*f0,2*f2⟩ X=0:=by
 have d:=O7 f0 f1 f2 X;rw[h]at d;have e:f1*f1-4*f2*f0=(2*f2*X+f1)*(2*f2*X+f1):=ah;have b:0<=f1*f1-4*f2*f0:=by rw[e];exact iS _
 refine⟨b,?_⟩;by_cases Y:0<=2*f2*X+f1
 ·refine⟨1,.inl rfl,?_⟩;have a:Pt.rt ⟨-f1,1,f1*f1-4*f2*f0,2*f2⟩ (2*f2*X+f1):=⟨Y,e.symm⟩;rw[Pt.yQ (Sx c b (.inl rfl)) a];show cJ ((X*(2*f2)-(-f1+1*(2*f2*X+f1)))*(2*f2))=0;rw[show(X*(2*f2)-(-f1+1*(2*f2*X+f1)))*(2*f2)=0 by grind];exact tP
 ·refine⟨-1,.inr rfl,?_⟩;have a:Pt.rt ⟨-f1,-1,f1*f1-4*f2*f0,2*f2⟩ (-(2*f2*X+f1)):=⟨ah,ah⟩;rw[Pt.yQ (Sx c b (.inr rfl)) a];show cJ ((X*(2*f2)-(-f1+-1*(-(2*f2*X+f1))))*(2*f2))=0;rw[show(X*(2*f2)-(-f1+-1*(-(2*f2*X+f1))))*(2*f2)=0 by grind];exact tP
def RT(f0 f1 f2:Rat)(t:Pt):Prop:=(f2=0/\f1≠0/\t=⟨-f0,0,0,f1⟩)\/(f2≠0/\0<=f1*f1-4*f2*f0/\∃B:Rat,(B=1\/B=-1)/\t=⟨-f1,B,f1*f1-4*f2*f0,2*f2⟩)
theorem RT.ok{f0 f1 f2:Rat}{t:Pt}(h:RT f0 f1 f2 t):t.ok:=by
 rcases h with⟨_,d,rfl⟩|⟨c,a,B,b,rfl⟩
 ·exact QH d
 ·exact Sx c a b
def ago{f0 f1 f2:Rat}(c:¬(f0=0/\f1=0/\f2=0))(h:b9 f0 f1 f2 X=0):∃t,RT f0 f1 f2 t/\t.dj X=0:=by
 by_cases a:f2=0
 ·subst a;by_cases b:f1=0
  ·subst b;exfalso;unfold b9 at h;exact c ⟨ah,rfl,rfl⟩
  ·exact⟨_,.inl ⟨rfl,b,rfl⟩,aDk b h⟩
 ·obtain⟨d,B,e,f⟩:=aDl a h;exact⟨_,.inr ⟨a,d,B,e,rfl⟩,f⟩
def agp{f0 f1 f2:Rat}(d:¬(f0=0/\f1=0/\f2=0))(c:q<X)(h:b9 f0 f1 f2 q*b9 f0 f1 f2 X<=0):∃t,RT f0 f1 f2 t/\t.dj q<=0/\0<=t.dj X:=by
 by_cases a:f2=0
 ·subst a;by_cases b:f1=0
  ·subst b;exfalso;unfold b9 at h;have:f0≠0:=λe=>d ⟨e,rfl,rfl⟩
   have:=jE this;grind
  ·exact⟨_,.inl ⟨rfl,b,rfl⟩,avh b c h⟩
 ·obtain⟨f,B,i,j⟩:=avi a c h;exact⟨_,.inr ⟨a,f,B,i,rfl⟩,j⟩
def L0(u v C k:Rat)(c:0<k):sg u v (k*k*C)=sg u (v*k) C:=by
 have f:v<0↔v*k<0:=by
  constructor
  ·intro h;have:=fx (a:=-v) (b:=k) ah c;grind
  ·intro h;refine nF.1 λd=>?_
   have:=iO d (j7 c);grind
 have e:-v<0↔-(v*k)<0:=by
  constructor
  ·intro h;have:=fx (a:=v) (b:=k) ah c;grind
  ·intro h;refine nF.1 λd=>?_
   have:=iO (a:=-v) ah (j7 c);grind
 have j:u*u-v*v*(k*k*C)=u*u-v*k*(v*k)*C:=ah;have i:-u*-u- -v*-v*(k*k*C)=-u*-u- -(v*k)*-(v*k)*C:=ah;unfold sg fQ;simp only[j,i,f,e]
def aEu{u v:Rat}(i:0<=C)(j:∀s,0<=s->s*s≠C)(h:sg u v C=0):u=0/\v=0:=by
 rcases qn (u:=u) (v:=v) i with⟨e,_⟩|⟨_,c,d⟩|⟨e,_⟩
 ·rw[e]at h;exact absurd h ae
 ·unfold fQ at c d;by_cases f:v=0
  ·subst f;refine⟨?_,rfl⟩;rcases kN u 0 with hu|hu|hu
   ·exfalso;apply c;left;exact⟨hu,by have:=jE (x:=u) ah;grind⟩
   ·exact hu
   ·exfalso;apply d;left;exact⟨ah,by have:=jE (x:=u) ah;grind⟩
  ·exfalso;rcases kN (u*u-v*v*C) 0 with hw|hw|hw
   ·rcases kN v 0 with a|a|a
    ·exact c (.inr ⟨a,.inr hw⟩)
    ·exact f a
    ·exact d (.inr ⟨ah,.inr ah⟩)
   ·have k:=jE f;have e:C=(u/v)*(u/v):=by have:v*v≠0:=ah;have l:u=(u/v)*v:=ah;generalize u/v=r at*;subst l;have:v*v*(r*r-C)=0:=ah;grind
    by_cases m:0<=u/v
    ·exact j _ m e.symm
    ·exact j (-(u/v)) ah ah
   ·have n:=iO (iS v) i;have hu:u≠0:=by intro e;subst e;grind
    rcases kN u 0 with b|b|b
    ·exact c (.inl ⟨b,hw⟩)
    ·exact hu b
    ·exact d (.inl ⟨ah,ah⟩)
 ·rw[e]at h;exact absurd h ae
def aD0{f0 f1 f2:Rat}{t:Pt}(h:t.ok)(T:¬(f0=0/\f1=0/\f2=0))(Y:sg (uU f0 f1 f2 t) (vV f1 f2 t) t.C=0):∃B,RT f0 f1 f2 B/\∀q,B.dj q=t.dj q:=by
 have j:=h.D;by_cases m:∃s,0<=s/\s*s=t.C
 ·obtain⟨s,n,o⟩:=m;have p:t.rt s:=⟨n,o⟩;rw[DH n o,Up f0 f1 f2 p]at Y;have hz:=Ti Y;have D:∃r,r*t.D=t.A+t.B*s:=⟨(t.A+t.B*s)/t.D,ah⟩;obtain⟨r,D⟩:=D;rw[<-D]at hz;have G:b9 f0 f1 f2 r=0:=by unfold b9;have w:=jE j;have:(f0+f1*r+f2*r*r)*(t.D*t.D)=0:=ah;have H:t.D*t.D≠0:=ah;grind
  obtain⟨B,x,K⟩:=ago T G;refine⟨B,x,λq=>?_⟩;have hc:t.dj r=0:=by rw[Pt.yQ h p,D,show(t.A+t.B*s-(t.A+t.B*s))*t.D=0 by grind];exact tP
  rw[Pt.YT x.ok K,Pt.YT h hc]
 ·have y:∀s,0<=s->s*s≠t.C:=λs h1 i=>m ⟨s,h1,i⟩
  obtain⟨U,hv⟩:=aEu h.C y Y;have L:t.B*t.B=1:=by
   rcases h.B with⟨_,i⟩|h1|h1
   ·exact absurd (show(0:Rat)*0=t.C by rw[i];grind) (y 0 ah)
   ·rw[h1];grind
   ·rw[h1];grind
  unfold vV at hv;unfold uU at U;have z:f1*t.D=-(2*f2*t.A):=by have:t.B*(t.B*(2*f2*t.A+f1*t.D))=0:=ah;have:t.B*t.B*(2*f2*t.A+f1*t.D)=0:=ah;rw[L]at this;grind
  have M:f0*t.D*t.D=f2*(t.A*t.A-t.C):=by
   have e1:f1*t.A*t.D=-(2*f2*t.A)*t.A:=by rw[<-z];grind
   have e2:t.B*t.B*t.C=t.C:=by rw[L];grind
   rw[e1,e2]at U;grind
  have i:f2≠0:=by
   intro e;subst e;have a1:f1*t.D=0:=ah;have N:f1=0:=ah;have a3:f0*(t.D*t.D)=0:=ah;have w:=jE j;have a4:f0=0:=by have:t.D*t.D≠0:=ah;grind
   exact T ⟨a4,N,rfl⟩
  obtain⟨k,E⟩:∃k,k*t.D=2*f2:=⟨2*f2/t.D,ah⟩;have P:k≠0:=by intro e;subst e;grind
  have V:-f1=k*t.A:=by
   have:(-f1-k*t.A)*t.D=0:=by
    have:k*t.A*t.D=2*f2*t.A:=by rw[<-E];grind
    grind
   grind
  have Q:f1*f1-4*f2*f0=k*k*t.C:=by
   have w:=jE j;have a1:f1*t.D*(f1*t.D)=4*f2*f2*t.A*t.A:=by rw[z];grind
   have N:k*t.D*(k*t.D)=4*f2*f2:=by rw[E];grind
   have:(f1*f1-4*f2*f0-k*k*t.C)*(t.D*t.D)=0:=by
    have b1:f1*f1*(t.D*t.D)=4*f2*f2*t.A*t.A:=by rw[<-a1];grind
    have b2:k*k*t.C*(t.D*t.D)=4*f2*f2*t.C:=by rw[<-N];grind
    have b3:4*f2*f0*(t.D*t.D)=4*f2*(f2*(t.A*t.A-t.C)):=by rw[<-M];grind
    grind
   have H:t.D*t.D≠0:=ah;grind
  have X:0<=f1*f1-4*f2*f0:=by rw[Q];exact iO (iS k) h.C
  have A:t.B=1\/t.B=-1:=by
   rcases h.B with⟨h1,_⟩|h1
   ·rw[h1]at L;grind
   ·exact h1
  rcases kN k 0 with d|d|d
  ·have R:(-t.B=1\/-t.B=-1):=by rcases A with e|e<;>rw[e]<;>grind
   refine⟨⟨-f1,-t.B,f1*f1-4*f2*f0,2*f2⟩,.inr ⟨i,X,-t.B,R,rfl⟩,λq=>?_⟩;unfold Pt.dj;simp only;rw[Q,V,<-E];have Z:k*k*t.C=-k*-k*t.C:=ah;rcases kN t.D 0 with c|c|c
   ·have f:0<k*t.D:=by have:=fx (a:=-k) (b:=-t.D) ah ah;grind
    rw[aK f,g ah,Z,L0 _ _ _ _ ah];have:=G6 (u:=t.A-q*t.D) (v:=t.B) (C:=t.C) (l:=-k) ah;rw[<-this];congr 1<;>grind
   ·exact absurd c j
   ·have f:¬0<k*t.D:=by have:=fx (a:=-k) (b:=t.D) ah c;grind
    rw[g f,aK c,Z,L0 _ _ _ _ ah];have:=G6 (u:=q*t.D-t.A) (v:=-t.B) (C:=t.C) (l:=-k) ah;rw[<-this];congr 1<;>grind
  ·exact absurd d P
  ·refine⟨⟨-f1,t.B,f1*f1-4*f2*f0,2*f2⟩,.inr ⟨i,X,t.B,A,rfl⟩,λq=>?_⟩;unfold Pt.dj;simp only;rw[Q,V,<-E];rcases kN t.D 0 with c|c|c
   ·have f:¬0<k*t.D:=by have:=fx (a:=k) (b:=-t.D) d ah;grind
    rw[g f,g ah,L0 _ _ _ _ d];have:=G6 (u:=t.A-q*t.D) (v:=t.B) (C:=t.C) (l:=k) d;rw[<-this];congr 1<;>grind
   ·exact absurd c j
   ·have f:0<k*t.D:=fx d c;rw[aK f,aK c,L0 _ _ _ _ d];have:=G6 (u:=q*t.D-t.A) (v:=-t.B) (C:=t.C) (l:=k) d;rw[<-this];congr 1<;>grind
structure MS where
 r:Int
 f0:Rat
 f1:Rat
 f2:Rat
def MS.z(a:MS):=a.f0=0/\a.f1=0/\a.f2=0
def xU(r:Int):=r=1\/r=4\/r=6
instance (r:Int):Decidable (xU r):=by unfold xU;infer_instance
def aqS(X:Rat)(d:List MS)(hr:∀a∈d,1<=a.r/\a.r<=6)(u:List (Int×Pt))(m:∀p∈u,p.2.ok)(hk:∀p∈u,p.1=2\/p.1=3)
 (l:∀a∈d,∀t,RT a.f0 a.f1 a.f2 t->∃p∈u,(∀q,p.2.dj q=t.dj q)/\p.1=if xU a.r then 3 else 2):
 (∃p∈u,p.1=2/\∀a∈d,rH a.r (cJ (b9 a.f0 a.f1 a.f2 X))=true->rH a.r (sg (uU a.f0 a.f1 a.f2 p.2) (vV a.f1 a.f2 p.2) p.2.C)=true)\/
 (∃p∈u,p.1=3/\∀a∈d,rH a.r (cJ (b9 a.f0 a.f1 a.f2 X))=true->a.z\/(cJ (b9 a.f0 a.f1 a.f2 X)≠0/\lG (sg (uU a.f0 a.f1 a.f2 p.2) (vV a.f1 a.f2 p.2) p.2.C) (sg (uU a.f1 (2*a.f2) 0 p.2) (vV (2*a.f2) 0 p.2) p.2.C) (sg (uU (2*a.f2) 0 0 p.2) (vV 0 0 p.2) p.2.C) (cJ (b9 a.f0 a.f1 a.f2 X))))\/
 (∀a∈d,rH a.r (cJ (b9 a.f0 a.f1 a.f2 X))=true->a.z\/(cJ (b9 a.f0 a.f1 a.f2 X)≠0/\lG (cJ a.f2) (cJ (-a.f1)) (cJ a.f0) (cJ (b9 a.f0 a.f1 a.f2 X)))):=by
 have strict_nz:∀a∈d,xU a.r->rH a.r (cJ (b9 a.f0 a.f1 a.f2 X))=true->b9 a.f0 a.f1 a.f2 X≠0:=λa _ Y b e=>by rw[e,tP]at b;rcases Y with e|e|e<;>rw[e]at b<;>revert b<;>decide
 by_cases Z:∃p∈u,p.1=2/\p.2.dj X=0
 ·obtain⟨p,i,Q,v⟩:=Z;refine .inl ⟨p,i,Q,λa j b=>?_⟩;rw[XM a.f0 a.f1 a.f2 (m p i) v];exact b
 ·have H:∀p∈u,p.1=2->p.2.dj X≠0:=λp i C h0=>Z ⟨p,i,C,h0⟩
  have x:∀a∈d,rH a.r (cJ (b9 a.f0 a.f1 a.f2 X))=true->¬a.z->b9 a.f0 a.f1 a.f2 X≠0:=λa j b f e=>by
   by_cases Y:xU a.r
   ·exact strict_nz a j Y b e
   ·obtain⟨t,M,n⟩:=ago f e;obtain⟨p,i,c,s⟩:=l a j t M;rw[g Y]at s;exact H p i s (by rw[c];exact n)
  by_cases V:∃t∈u.map (·.2),0<=t.dj X
  ·obtain⟨t,b,n,B⟩:=X8 (X:=X) (u.map (·.2)) (λt b=>by obtain⟨p,i,rfl⟩:=cj.1 b;exact m p i) V;obtain⟨p0,k,rfl⟩:=cj.1 b;have clear:∀p∈u,0<=p.2.dj X->(∀q,p0.2.dj q<=0->p.2.dj q<=0)->∀a∈d,rH a.r (cJ (b9 a.f0 a.f1 a.f2 X))=true->¬a.z->∀q,0<p.2.dj q->q<=X->0<b9 a.f0 a.f1 a.f2 q*b9 a.f0 a.f1 a.f2 X:=by
    intro p i v y a j b f q hq N;refine nF.1 λA=>?_
    by_cases e:q=X
    ·subst e;have D:=x a j b f;have:=jE D;grind
    ·obtain⟨E,o,D,C⟩:=agp f (show q<X by grind) A;obtain⟨G,z,c,_⟩:=l a j E o;have h3:=B G.2 (cj.2 ⟨G,z,rfl⟩) (by rw[c];exact C) q (by rw[c];exact D);have:=y q h3;omega
   by_cases U:∃p∈u,p.1=3/\0<=p.2.dj X/\∀q,p0.2.dj q<=0->p.2.dj q<=0
   ·obtain⟨p,i,P,v,y⟩:=U;refine .inr (.inl ⟨p,i,P,λa j b=>?_⟩);by_cases f:a.z
    ·exact .inl f
    ·right;by_cases T:p.2.dj X=0
     ·have D:=x a j b f;have C:cJ (b9 a.f0 a.f1 a.f2 X)≠0:=λe=>D (Ti e)
      exact⟨C,.inl (XM a.f0 a.f1 a.f2 (m p i) T)⟩
     ·exact Xf (m p i) (show 0<p.2.dj X by omega) (clear p i v y a j b f)
   ·
    have K:p0.1=2:=by
     rcases hk p0 k with e|e
     ·exact e
     ·exact absurd ⟨p0,k,e,n,λq h=>h⟩ U
    have R:0<p0.2.dj X:=by have:=H p0 k K;omega
    refine .inl ⟨p0,k,K,λa j b=>?_⟩;by_cases f:a.z
    ·obtain⟨e0,e1,e2⟩:=f;rw[e0,e1,e2]at b⊢;have u0:uU 0 0 0 p0.2=0:=by unfold uU;grind
     have v0:vV 0 0 p0.2=0:=by unfold vV;grind
     have x0:b9 0 0 0 X=0:=by unfold b9;grind
     have s0:sg 0 0 p0.2.C=0:=by
      have n1:¬fQ 0 0 p0.2.C:=by unfold fQ;intro h;rcases h with⟨h,_⟩|⟨h,_⟩<;>exact absurd h ae
      have n2:¬fQ (-0) (-0) p0.2.C:=by unfold fQ;intro h;rcases h with⟨h,_⟩|⟨h,_⟩<;>exact absurd h ae
      unfold sg;rw[g n1,g n2]
     rw[x0,tP]at b;rw[u0,v0,s0];exact b
    ·obtain⟨L,hF⟩:=Xf (m p0 k) R (clear p0 k n (λq h=>h) a j b f);by_cases w:sg (uU a.f0 a.f1 a.f2 p0.2) (vV a.f1 a.f2 p0.2) p0.2.C=0
     ·by_cases Y:xU a.r
      ·exfalso;obtain⟨E,o,r⟩:=aD0 (m p0 k) f w;obtain⟨p,i,c,s⟩:=l a j E o;rw[aK Y]at s;exact U ⟨p,i,s,by rw[c,r];exact n,λq h=>by rw[c,r];exact h⟩
      ·rw[w];have hr6:=hr a j;have hw:a.r=2\/a.r=3\/a.r=5:=by unfold xU at Y;omega
       rcases hw with e|e|e<;>rw[e]at b⊢
       ·decide
       ·exfalso;unfold rH at b;simp at b;exact L b
       ·decide
     ·rcases hF with e|⟨e,_⟩|⟨e,_⟩
      ·rw[e];exact b
      ·exact absurd e w
      ·exact absurd e w
  ·refine .inr (.inr λa j b=>?_);by_cases f:a.z
   ·exact .inl f
   ·right;refine apD λq N=>nF.1 λA=>?_
    by_cases e:q=X
    ·subst e;have:=jE (x a j b f);grind
    ·obtain⟨E,o,D,C⟩:=agp f (show q<X by grind) A;obtain⟨G,z,c,_⟩:=l a j E o;exact V ⟨G.2,cj.2 ⟨G,z,rfl⟩,by rw[c];exact C⟩
end Go.Ab.VS
namespace Go.Proofs.YtfbmhjooliccnaaGreatDoor
open Go Go.Ab Go.Ab.VS Go.Proofs.Tryz
variable {k N d:Nat}{p a b:J}{Z:bi→ByteArray}{t:bi}{m:F}{X:Int→Rat}
def aaw{a b c d e c':Rat}(h:∀y,b9 a b c y=b9 d e c' y):a=d/\b=e/\c=c':=by have f:=h 0;have i:=h 1;have j:=h (-1);unfold b9 at f i j;refine⟨ah,ah,ah⟩
def Ow(b:1<=k)(d:k<=4)(c:Sz 2 N p)(f:N<=50000):(a_ p k=[]↔bM p=true)/\(bM p=false->((a_ p k).length:Int)=cK p k+1):=by
 have a:=vz c O O b d;refine⟨⟨λh=>?_,λh=>a.Dc h⟩,λh=>?_⟩
 ·cases e:bM p with
  |true=>rfl
  |false=>have:=a.len e;have i:=O3 c.bw b;rw[h]at this;simp at this;omega
 ·have:=a.len h;unfold cK;rw[g (by simp[h])];exact this
def AO(d:1<=k)(e:k<=4)(f:Sz 2 N p)(h:N<=50000)(a:az){i:Nat}(j:cK p k<i):fV a p k i=0:=by
 have b:=Ow d e f h;unfold fV bG;have:(a_ p k)[i]?=none:=by
  rw[List.getElem?_eq_none_iff];cases c:bM p with
  |true=>rw[b.1.2 c];simp
  |false=>have:=b.2 c;omega
 rw[this];exact gr a
def CJ{lv:Nat}(m:1<=lv)(o:lv<=4){k:Nat}(w:Sz 2 k p)(V:k<=40000)(P:cK p lv<=2):
 Sz 2 (k+6) (fU p lv)/\cK (fU p lv) lv<=max 0 (cK p lv-1)/\(∀a,fV a (fU p lv) lv 0=fV a p lv 1/\fV a (fU p lv) lv 1=2*fV a p lv 2/\fV a (fU p lv) lv 2=0)/\
 (a_ p lv≠[]->bO (.mk lv false [] ((List.range ((a_ p lv).length-1)).map λ(i:Nat)=>bn (((a_ p lv)[i+1]?).getD zP) (kP ((i:Int)+1))))):=by
 have G:=Ow m o w O;obtain⟨Q,_⟩:=I3 m o w O P;have s:=vz w O O m o;unfold fU;by_cases q:a_ p lv=[]
 ·rw[aK q];refine⟨.zero 2 _,by unfold cK;rw[F6];simp;omega,λa=>?_,λh=>absurd q h⟩;have z:∀i:Nat,fV a zP lv i=0:=λi=>by unfold fV bG a_;rw[F6];exact gr a
  have H:∀i:Nat,fV a p lv i=0:=λi=>by unfold fV bG;rw[q];exact gr a
  rw[z,z,z,H,H];refine⟨rfl,ah,rfl⟩
 ·rw[g q];have x:bM p=false:=by
   cases x:bM p with
   |false=>rfl
   |true=>exact absurd (G.1.2 x) q
  have hlen:=G.2 x;generalize l:(List.range ((a_ p lv).length-1)).map (λ(i:Nat)=>bn (((a_ p lv)[i+1]?).getD zP) (kP ((i:Int)+1)))=r;have u:∀i:Nat,Sz 2 k (((a_ p lv)[i]?).getD zP)/\Fr lv (((a_ p lv)[i]?).getD zP):=λi=>by
   cases e:(a_ p lv)[i]? with
   |none=>exact⟨.zero 2 k,.zero O⟩
   |some c=>exact⟨s.sz c (bF e),s.yY c (bF e)⟩
  have A:∀i:Nat,i<2->(((i:Int)+1).natAbs)<2^2:=λi v=>by omega
  have b:∀c∈r,Sz 2 (k+2) c/\Fr lv c:=λc f=>by rw[<-l]at f;obtain⟨i,v,rfl⟩:=cj.1 f;have v:=ol.1 v;have j:=Sz.const (k:=2) (n:=(i:Int)+1) 0 (A i O);exact⟨(u (i+1)).1.mul j,Fr.mul O (u (i+1)).1.bw j.bw (u (i+1)).2 (.const O _)⟩
  have R:r.length=(a_ p lv).length-1:=by rw[<-l];simp
  obtain⟨j1,j2,X,j4,K⟩:=Ql (d:=2) (k:=k+2) O O m o O (λc f=>(b c f).1) (λc f=>(b c f).2);have L:=ab9 m o j1 (λc f=>(b c f).2);have B:cK (kG r lv) lv<=max 0 (cK p lv-1):=O;refine⟨K,B,λa=>?_,λ_=>j1⟩;have C:∀y,b9 (fV a (kG r lv) lv 0) (fV a (kG r lv) lv 1) (fV a (kG r lv) lv 2) y=b9 (fV a p lv 1) (2*fV a p lv 2) 0 y:=λy=>by
   rw[<-Ov K O O m o O a y,j2];have M:∀i:Nat,i<2->ev a (bn (((a_ p lv)[i+1]?).getD zP) (kP ((i:Int)+1)))=((((i:Int)+1:Int)):Rat)*fV a p lv (i+1):=λi v=>by rw[lS (u (i+1)).1.bw (.const _),l_];unfold fV bG;grind
   have N:=M 0 O;have T:=M 1 O;have t:(a_ p lv).length<=2->fV a p lv 2=0:=λD=>by unfold fV bG;rw[gp O];exact gr a
   have E:(a_ p lv).length<=1->fV a p lv 1=0:=λD=>by unfold fV bG;rw[gp O];exact gr a
   rw[<-l];have U:(a_ p lv).length=1\/(a_ p lv).length=2\/(a_ p lv).length=3:=by
    have:(a_ p lv).length≠0:=λh=>q (fc h)
    omega
   rcases U with e|e|e
   ·rw[e,E O,t O];show cP a y []=_;rw[cP];unfold b9;grind
   ·rw[e,t O];show cP a y [bn (((a_ p lv)[0+1]?).getD zP) (kP ((0:Nat)+1))]=_;rw[cP,cP,N];unfold b9;simp;try grind
   ·rw[e];show cP a y [bn (((a_ p lv)[0+1]?).getD zP) (kP ((0:Nat)+1)),bn (((a_ p lv)[1+1]?).getD zP) (kP ((1:Nat)+1))]=_;rw[cP,cP,cP,N,T];unfold b9;have:((((1:Nat):Int)+1:Int):Rat)=2:=ae;rw[this];simp;try grind
  exact aaw C
def n_(a:az)(b:Int)(t:bi)(p:J):Int:=sg (uU (fV a p b 0) (fV a p b 1) (fV a p b 2) (gU a t)) (vV (fV a p b 1) (fV a p b 2) (gU a t)) (ev a t.c)
structure akx(N:Nat)(lv:Int)(l:zJ0):Prop where
 sz:∀p∈l,Sz 2 N p/\cK p lv<=2
 len:l.length<=3
def atc{lv:Nat}(d:1<=lv)(e:lv<=4)(f:Sz 2 k p)(m:k<=1000)(b:cK p lv<=2):akx (k+12) lv (o8 lv 3 p):=by
 obtain⟨h,n,_⟩:=CJ d e f O b;obtain⟨j,o,_⟩:=CJ d e h O O;have c:=f.up (bu 2) (show k<=k+12 by omega);have i:=h.up (bu 2) (show k+6<=k+12 by omega);have l:¬0<cK (fU (fU p lv) lv) lv:=O;unfold o8;split
 ·unfold o8;split
  ·unfold o8;rw[g l];exact⟨λq a=>by
    rcases dC.1 a with rfl|a
    ·exact⟨c,b⟩
    ·rcases dC.1 a with rfl|a
     ·exact⟨i,O⟩
     ·rw[dZ.1 a];exact⟨j,O⟩,ai⟩
  ·exact⟨λq a=>by
    rcases dC.1 a with rfl|a
    ·exact⟨c,b⟩
    ·rw[dZ.1 a];exact⟨i,O⟩,ai⟩
 ·exact⟨λq a=>by rw[dZ.1 a];exact⟨c,b⟩,ai⟩
theorem Xc{f:Nat}(n:1<=f)(m:f<=4){N:Nat}(k:N<=5000){t:bi}(i:TG N f t)(r:Int):∀{l:zJ0},(∀p∈l,Sz 2 N p/\cK p f<=2)->CM (GA f) (mH r f t l)/\bc (mH r f t l)<=1+20*l.length
 |[],_=>by rw[mH];exact⟨.ff,by rw[bc,gV];omega⟩
 |[d],h=>by rw[mH];have:=ES n m k i (h d (bZ ..)).1 (h d (bZ ..)).2 r;exact⟨this.1,by have:=this.2.1;simp;omega⟩
 |d::e::rest,h=>by
  have j:=h d (bZ ..);have a:=ES n m k i j.1 j.2 (rk r);have b:=ES n m k i j.1 j.2 3;have c:=Xc n m k i r (l:=e::rest) λp o=>h p (cE _ o)
  rw[mH];refine⟨.xG a.1 (.qM b.1 c.1),?_⟩;rw[Ha,rv,fD];have:=a.2.1;have:=b.2.1;have:=c.2;omega
def XC(b:1<=k)(c:k<=4)(d:N<=5000)(e:TG N k t)(a:Sz 2 N p/\cK p k<=2)(r:Int){ρ:az}(f:0<=ev ρ t.c)(h:ev ρ t.d≠0):tr ρ (nK p r k t)=rH r (n_ ρ k t p):=
 (ES b c d e a.1 a.2 r).2.2 ρ f h
def Bs(C:Rat):sg 0 0 C=0:=by rw[ahY];exact tP
def Xd{lv:Nat}(w:1<=lv)(x:lv<=4)(B:Sz 2 k p)(C:k<=1000)(h2:cK p lv<=2)(hN:N<=5000)(V:k+12<=N)(ht:TG N lv t)(r:Int):
 CM (GA lv) (r8 p r lv t)/\bc (r8 p r lv t)<=61/\∀(ρ:az)(z:Int),0<=ev ρ t.c->ev ρ t.d≠0->rH r z=true->
  ((z≠0/\lG (sg (uU (fV ρ p lv 0) (fV ρ p lv 1) (fV ρ p lv 2) (gU ρ t)) (vV (fV ρ p lv 1) (fV ρ p lv 2) (gU ρ t)) (ev ρ t.c)) (sg (uU (fV ρ p lv 1) (2*fV ρ p lv 2) 0 (gU ρ t)) (vV (2*fV ρ p lv 2) 0 (gU ρ t)) (ev ρ t.c)) (sg (uU (2*fV ρ p lv 2) 0 0 (gU ρ t)) (vV 0 0 (gU ρ t)) (ev ρ t.c)) z)\/
   (z=0/\fV ρ p lv 0=0/\fV ρ p lv 1=0/\fV ρ p lv 2=0))->(r=3->z=0)->R6 r->tr ρ (r8 p r lv t)=true:=by
 obtain⟨hl,hc⟩:=I3 w x B O h2;have j:=ajc w x hc;have X:=zk GA.rq j.1.rm;have hd:=atc w x B C h2;have D:∀q∈o8 lv 3 p,Sz 2 N q/\cK q lv<=2:=λq Q=>⟨(hd.sz q Q).1.up (bu 2) V,(hd.sz q Q).2⟩
 have E:=Xc w x hN ht r D;obtain⟨a1,a2,A,_⟩:=CJ w x B O h2;obtain⟨b1,b2,b3,_⟩:=CJ w x a1 O O;unfold r8;by_cases R:nC r
 ·rw[aK R];refine⟨E.1,by have:=E.2;have:=hd.len;omega,λρ z hC hD o h _ _=>?_⟩;have e0:n_ ρ lv t p=sg (uU (fV ρ p lv 0) (fV ρ p lv 1) (fV ρ p lv 2) (gU ρ t)) (vV (fV ρ p lv 1) (fV ρ p lv 2) (gU ρ t)) (ev ρ t.c):=rfl;have e1:n_ ρ lv t (fU p lv)=sg (uU (fV ρ p lv 1) (2*fV ρ p lv 2) 0 (gU ρ t)) (vV (2*fV ρ p lv 2) 0 (gU ρ t)) (ev ρ t.c):=by unfold n_;rw[(A ρ).1,(A ρ).2.1,(A ρ).2.2]
  have T:n_ ρ lv t (fU (fU p lv) lv)=sg (uU (2*fV ρ p lv 2) 0 0 (gU ρ t)) (vV 0 0 (gU ρ t)) (ev ρ t.c):=by unfold n_;rw[(b3 ρ).1,(b3 ρ).2.1,(b3 ρ).2.2,(A ρ).2.1,(A ρ).2.2,show(2:Rat)*0=0 by grind]
  rw[<-e0,<-e1,<-T]at h;have d:=λq Q r=>XC w x hN ht (D q Q) r (ρ:=ρ) hC hD
  have G:uU 0 0 0 (gU ρ t)=0:=by unfold uU;grind
  have H:vV 0 0 (gU ρ t)=0:=by unfold vV;grind
  have z1:¬0<cK p lv->n_ ρ lv t (fU p lv)=0/\n_ ρ lv t (fU (fU p lv) lv)=0:=λu=>by rw[e1,T,AO w x B O ρ (i:=1) O,AO w x B O ρ (i:=2) O,show(2:Rat)*0=0 by grind,G,H];exact⟨Bs _,Bs _⟩
  have z2:¬0<cK (fU p lv) lv->n_ ρ lv t (fU (fU p lv) lv)=0:=λu=>by have:=AO w x a1 O ρ (i:=1) O;rw[(A ρ).2.1]at this;rw[T,this,G,H];exact Bs _
  have hzero:z=0/\fV ρ p lv 0=0/\fV ρ p lv 1=0/\fV ρ p lv 2=0->n_ ρ lv t p=0/\n_ ρ lv t (fU p lv)=0/\n_ ρ lv t (fU (fU p lv) lv)=0:=λ⟨_,K,L,M⟩=>by rw[e0,e1,T,K,L,M,show(2:Rat)*0=0 by grind,G,H];exact⟨Bs _,Bs _,Bs _⟩
  have m:(z≠0/\lG (n_ ρ lv t p) (n_ ρ lv t (fU p lv)) (n_ ρ lv t (fU (fU p lv) lv)) z)\/(z=0/\n_ ρ lv t p=0/\n_ ρ lv t (fU p lv)=0/\n_ ρ lv t (fU (fU p lv) lv)=0):=by
   rcases h with h|h
   ·exact .inl h
   ·exact .inr ⟨h.1,hzero h⟩
  have v:∀{s:Int}{b:Bool},(z≠0/\(s=z\/(s=0/\b=true)))\/(z=0/\s=0/\b=true)->(rH (rk r) s||(rH 3 s&&b))=true:=λ{s b} C=>by
   rcases C with⟨f,C⟩|⟨_,rfl,hb⟩
   ·exact GM R f o C
   ·exact Lx _ hb
  have n2:¬0<cK (fU (fU p lv) lv) lv:=O;unfold lG at m;revert d;unfold o8;split
  ·unfold o8;split
   ·unfold o8;rw[g n2];intro d;rw[mH,BE,tU,d p ai,d p ai,mH,BE,tU,d (fU p lv) ai,d (fU p lv) ai,mH,d (fU (fU p lv) lv) ai];refine v ?_;rcases m with⟨f,e|⟨e,n⟩|⟨e,n,l⟩⟩|⟨f,e,n,l⟩
    ·exact .inl ⟨f,.inl e⟩
    ·exact .inl ⟨f,.inr ⟨e,v (.inl ⟨f,.inl n⟩)⟩⟩
    ·exact .inl ⟨f,.inr ⟨e,v (.inl ⟨f,.inr ⟨n,by rw[l];exact o⟩⟩)⟩⟩
    ·exact .inr ⟨f,e,v (.inr ⟨f,n,by rw[l,<-f];exact o⟩)⟩
   ·rename_i u;have:=z2 u;intro d;rw[mH,BE,tU,d p ai,d p ai,mH,d (fU p lv) ai];refine v ?_;rcases m with⟨f,e|⟨e,n⟩|⟨e,n,l⟩⟩|⟨f,e,n,l⟩
    ·exact .inl ⟨f,.inl e⟩
    ·exact .inl ⟨f,.inr ⟨e,by rw[n];exact o⟩⟩
    ·exact absurd (l.symm.trans this) f
    ·exact .inr ⟨f,e,by rw[n,<-f];exact o⟩
  ·rename_i u;obtain⟨y1,y2⟩:=z1 u;intro d;rw[mH,d p ai];rcases m with⟨f,e|⟨e,n⟩|⟨e,n,l⟩⟩|⟨f,e,n,l⟩
   ·rw[e];exact o
   ·exact absurd (n.symm.trans y1) f
   ·exact absurd (l.symm.trans y2) f
   ·rw[e,<-f];exact o
 ·rw[g R];by_cases Z:r=4
  ·rw[aK Z];refine⟨X.1,by have:=X.2.2;rw[j.2.1]at this;omega,λρ z _ _ o h _ _=>?_⟩;rw[X.2.1,zX,<-Bool.not_eq_true,j.2.2];intro P;have y:z≠0:=by intro e;rw[Z,e]at o;revert o;decide
   have a:∀i:Nat,fV ρ p lv i=0:=λi=>by
    unfold fV bG;cases e:(a_ p lv)[i]? with
    |none=>exact gr ρ
    |some c=>exact P c (bF e)
   rcases h with⟨_,h⟩|⟨h,_⟩
   ·have G:uU 0 0 0 (gU ρ t)=0:=by unfold uU;grind
    have H:vV 0 0 (gU ρ t)=0:=by unfold vV;grind
    rw[a,a,a,show(2:Rat)*0=0 by grind,G,H,Bs]at h;unfold lG at h;omega
   ·exact y h
  ·rw[g Z];refine⟨j.1,by rw[j.2.1];omega,λρ z _ _ o h h3 h6=>?_⟩;have e3:r=3:=by unfold nC at R;unfold R6 at h6;omega
   have y:=h3 e3;rw[j.2.2];rcases h with⟨h,_⟩|⟨_,K,L,M⟩
   ·exact absurd y h
   ·intro c hcm;obtain⟨i,U⟩:=yt hcm;have:=(dM.1 U).1;unfold fV bG at K L M
    match i,this with
    |0,_=>rw[U]at K;exact K
    |1,_=>rw[U]at L;exact L
    |2,_=>rw[U]at M;exact M
    |i+3,h=>omega
def DL.O2:∀{L:Nat}{p:J},br L p->DL d p->fG k p<=d:=by
 intro L p h
 induction h with
 |const n=>intro _;rw[Jr];split;omega;split<;>omega
 |node m b o q s t u j=>
  intro e;rw[yV];split
  ·omega
  ·split
   ·have:=e.len;change b.length<=d+1 at this;omega
   ·have:∀r:List J,(∀c∈r,fG k c<=d)->ia k r<=d:=by
     intro r
     induction r with
     |nil=>intro _;rw[ia];omega
     |cons c r a=>
      intro f;have v:=f c (bZ ..);have w:=a λx l=>f x (cE _ l)
      rw[ia];omega
    exact this b λc i=>j c i (e.bz c i)
def Sz.ub(h:Sz d k p)(a:Nat):cK p a<=d:=by unfold cK;split;omega;exact h.dl.O2 h.bw
def af_{lv:Nat}(m:1<=lv)(n:lv<=4){k:Nat}(t:Sz 2 k p)(A:k<=40000)(q:cK p lv=2):
 Sz 2 (k+4) (oM p lv)/\cK (oM p lv) lv<=1/\(∀i,fV i (oM p lv) lv 1=fV i p lv 1)/\bO (.mk lv false [] (a_ p lv).dropLast)/\a_ p lv≠[]:=by
 have x:=Ow m n t O;have o:=vz t O O m n;have r:bM p=false:=by
  cases r:bM p with
  |false=>rfl
  |true=>unfold cK at q;rw[r]at q;simp at q
 have hlen:=x.2 r;have u:a_ p lv≠[]:=by intro h;rw[h]at hlen;simp at hlen;omega
 have f:∀c∈(a_ p lv).dropLast,Sz 2 k c/\Fr lv c:=λc j=>⟨o.sz c (List.dropLast_subset _ j),o.yY c (List.dropLast_subset _ j)⟩
 have z:(a_ p lv).dropLast.length=2:=by rw[List.length_dropLast];omega
 obtain⟨j1,j2,B,j4,v⟩:=Ql (d:=2) (k:=k) O O m n O (λc j=>(f c j).1) (λc j=>(f c j).2);have w:=ab9 m n j1 (λc j=>(f c j).2);have e:oM p lv=kG (a_ p lv).dropLast lv:=by unfold oM;rw[g u]
 rw[e];refine⟨v,O,λi=>?_,j1,u⟩;have s:∀y,b9 (fV i (kG (a_ p lv).dropLast lv) lv 0) (fV i (kG (a_ p lv).dropLast lv) lv 1) (fV i (kG (a_ p lv).dropLast lv) lv 2) y=b9 (fV i p lv 0) (fV i p lv 1) 0 y:=λy=>by
  rw[<-Ov v O O m n O i y,j2];unfold fV bG b9;have l:(a_ p lv).length=3:=O
  match a_ p lv,l with
  |[a,b,c],_=>simp[cP];try grind
 exact(aaw s).2.1
def GA.GZ{lv:Nat}(a:1<=lv)(b:lv<=4):∀p,GA lv p->bO p/\GA lv (jO p):=λp h=>⟨h.np,h.sn a b⟩
structure rV(N:Nat)(lv:Nat)(t:bi):Prop where
 tg:TG N lv t
 kd:t.aM=1\/t.aM=2\/t.aM=3
 g:CM (GA lv) t.g
 sz:bc t.g<=10
structure An(N:Nat)(lv:Nat)(t:bi):Prop where
 p:rV N lv t
 kd:t.aM=2
 ok:∀ρ,tr ρ t.g=true->(gU ρ t).ok
def Cy(a:1<=k)(b:k<=4)(c:Sz 2 N p)(d:N<=50000)(i:Nat):SF 2 N k (bG p k i):=by have:=arp c O O a b i;exact⟨this.1,this.2⟩
def SP(n:1<=k){c:J}(h:SF 2 N k a)(f:SF 2 N k b)(i:SF 2 N k c):SF 4 (2*N+4) k (k8 a b c)/\∀d,ev d (k8 a b c)=ev d b*ev d b-4*ev d a*ev d c:=by have e:(k:Int)≠0:=O;have j:SF 0 3 k (kP 4):=.const e 0 ae;have l:=SF.mul e f f;have m:=SF.mul e (SF.mul e h i) j;refine⟨(SF.sub e l m).up O O,λd=>?_⟩;unfold k8;rw[aaB l.sz.bw m.sz.bw,lS f.sz.bw f.sz.bw,lS (SF.mul e h i).sz.bw j.sz.bw,lS h.sz.bw i.sz.bw,l_];have:((4:Int):Rat)=4:=ae;rw[this];grind
def avR(h:1<=k)(i:k<=4)(t:N<=2000)(j:SF 2 N k a)(l:SF 2 N k b)(m:SF 2 N k p):
 CM (GA k) (nv a b p)/\bc (nv a b p)<=3/\∀d,tr d (nv a b p)=true↔(ev d a≠0/\0<=ev d b*ev d b-4*ev d a*ev d p):=by
 obtain⟨n,o⟩:=SP h j l m;have e:GA k a:=j.up O O;have f:GA k (k8 a b p):=n.up O O;obtain⟨q,r,s⟩:=sy (GA.GZ h i) (CM.qM (e.at h i 4) (f.at h i 5)).rm;unfold nv;refine⟨q,by rw[rv,nL,nL]at s;omega,λd=>?_⟩;rw[r,tU,dB,e.tr,f.tr,rH4,rH5,o]
def aBR(h:N<=k)(a:TG N d t):TG k d t:=⟨a.a.up O h,a.b.up O h,a.c.up O h,a.d.up O h⟩
def auL(a:az):ev a (kP 0)=0:=by rw[l_];rfl
def ac0(e:1<=k)(f:k<=4)(i:Sz 2 N p)(v:N<=2000)(q:CM (GA k) m)(r:bc m=1):
 An (2*N+4) k (tD p k m)/\∀b,(tr b (tD p k m).g=true↔(tr b m=true/\fV b p k 1≠0))/\gU b (tD p k m)=⟨-fV b p k 0,0,0,fV b p k 1⟩:=by
 have j:(k:Int)≠0:=O;have l:=Cy e f i O 1;have n:=Cy e f i O 0;have c:GA k (bG p k 1):=l.up O O;obtain⟨s,t,u⟩:=sy (GA.GZ e f) (CM.qM q (c.at e f 4)).rm;have k0:SF 0 1 k (kP 0):=.const j 0 ae;have d:∀b,gU b (tD p k m)=⟨-fV b p k 0,0,0,fV b p k 1⟩:=λb=>by unfold gU tD;simp only;rw[tj n.sz.bw,auL];rfl
 have o:∀b,(tr b (tD p k m).g=true↔(tr b m=true/\fV b p k 1≠0)):=λb=>by show tr b (bS (dA [m,dP (bG p k 1) 4]))=true↔_;rw[t,tU,dB,c.tr,rH4];rfl
 refine⟨⟨⟨⟨(SF.neg j n).up O O,k0.up O O,k0.up O O,l.up O O⟩,.inr (.inl rfl),s,?_⟩,rfl,λb h=>?_⟩,λb=>⟨o b,d b⟩⟩
 ·show bc (bS (dA [m,dP (bG p k 1) 4]))<=10;rw[rv,nL]at u;omega
 ·rw[d];exact QH ((o b).1 h).2
def L3(u v:Rat):sg u v 0=sg u 0 0:=by rw[ahZ,ahZ]
def afQ(w:1<=k)(L:k<=4)(M:N<=2000)(r:SF 2 N k a)(s:SF 2 N k b)(x:SF 2 N k p):
 (∀t∈zv a b p,An (2*N+4) k t)/\(zv a b p).length<=2/\∀d B,ev d a≠0->0<=ev d b*ev d b-4*ev d a*ev d p->(B=1\/B=-1)->
   ∃t∈zv a b p,tr d t.g=true/\∀q,(gU d t).dj q=Pt.dj ⟨-ev d b,B,ev d b*ev d b-4*ev d a*ev d p,2*ev d a⟩ q:=by
 have u:(k:Int)≠0:=O;obtain⟨y,z⟩:=SP w r s x;obtain⟨A,T,g3⟩:=avR w L M r s x;have k2:SF 0 2 k (kP 2):=.const u 0 ae;have P:∀n:Int,n.natAbs<2^1->SF 0 1 k (kP n):=λn m=>.const u 0 m
 have C:∀n:Int,n.natAbs<2^1->TG (2*N+4) k ⟨2,jl b,kP n,k8 a b p,bn a (kP 2),nv a b p⟩:=λn m=>⟨(SF.neg u s).up O O,(P n m).up O O,y.up O O,(SF.mul u r k2).up O O⟩
 have h:∀(n:Int) d,gU d ⟨2,jl b,kP n,k8 a b p,bn a (kP 2),nv a b p⟩=⟨-ev d b,(n:Rat),ev d b*ev d b-4*ev d a*ev d p,2*ev d a⟩:=λn d=>by unfold gU;simp only;rw[tj s.sz.bw,l_,z,lS r.sz.bw k2.sz.bw,l_];have:((2:Int):Rat)=2:=ae;rw[this,show ev d a*2=2*ev d a by grind]
 have D:(((1:Int)):Rat)=1:=ae;have E:(((-1:Int)):Rat)=-1:=ae;have Q:(((0:Int)):Rat)=0:=ae;have o:∀n:Int,n=1\/n=-1->An (2*N+4) k ⟨2,jl b,kP n,k8 a b p,bn a (kP 2),nv a b p⟩:=λn m=>⟨⟨C n (by rcases m with rfl|rfl<;>decide),.inr (.inl rfl),A,by show bc (nv a b p)<=10;omega⟩,rfl,λd i=>by obtain⟨R,v⟩:=(g3 d).1 i;rw[h];exact⟨v,ah,.inr (by rcases m with rfl|rfl;exact .inl D;exact .inr E)⟩⟩
 unfold zv;split
 ·rename_i j;refine⟨λt l=>by simp at l,ai,λd B e f _=>?_⟩;exfalso;have:=(g3 d).2 ⟨e,f⟩;rw[Mq d j]at this;cases this
 ·split
  ·rename_i j G;have H:∀d,ev d b*ev d b-4*ev d a*ev d p=0:=λd=>by rw[<-z,qa y.sz.bw G,gr]
   refine⟨λt l=>?_,ai,λd B e f K=>⟨_,dZ.2 rfl,(g3 d).2 ⟨e,f⟩,λq=>?_⟩⟩
   ·rw[dZ.1 l];refine⟨⟨C 0 ae,.inr (.inl rfl),A,by show bc (nv a b p)<=10;omega⟩,rfl,λd i=>?_⟩;obtain⟨R,v⟩:=(g3 d).1 i;rw[h];exact⟨v,ah,.inl ⟨Q,H d⟩⟩
   ·rw[h,H d];unfold Pt.dj;simp only;split
    ·rw[L3 _ (-((0:Int):Rat)),L3 _ (-B)]
    ·rw[L3 _ (((0:Int):Rat)),L3 _ B]
  ·rename_i j G;refine⟨λt l=>?_,ai,λd B e f K=>?_⟩
   ·rcases dC.1 l with rfl|l
    ·exact o (-1) (.inr rfl)
    ·rw[dZ.1 l];exact o 1 (.inl rfl)
   ·rcases K with rfl|rfl
    ·exact⟨_,cE _ (dZ.2 rfl),(g3 d).2 ⟨e,f⟩,λq=>by rw[h,D]⟩
    ·exact⟨_,bZ ..,(g3 d).2 ⟨e,f⟩,λq=>by rw[h,E]⟩
def SO(b:1<=N)(c:N<=4)(f:Sz 2 k p)(y:k<=2000):
 (∀t∈fq p N,An (2*k+4) N t)/\(fq p N).length<=3/\∀a o,RT (fV a p N 0) (fV a p N 1) (fV a p N 2) o->∃t∈fq p N,tr a t.g=true/\∀q,(gU a t).dj q=o.dj q:=by
 have L:=f.ub N;have z:=Cy b c f O 2;have hb:=Cy b c f O 1;have hc:=Cy b c f O 0;have A:CM (GA N) (.mk 1 0 zP []):=.tt;have r:bc (.mk 1 0 zP [])=1:=rfl;unfold fq;split
 ·rename_i l;refine⟨λt d=>by simp at d,ai,λa o s=>?_⟩;have e1:=AO b c f O a (i:=1) O;have C:=AO b c f O a (i:=2) O;rcases s with⟨_,h,_⟩|⟨h,_⟩
  ·exact absurd e1 h
  ·exact absurd C h
 ·split
  ·rename_i _ l;obtain⟨D,u⟩:=ac0 b c f y A r;refine⟨λt d=>by rw[dZ.1 d];exact D,ai,λa o s=>?_⟩;have C:=AO b c f O a (i:=2) O;rcases s with⟨_,h,rfl⟩|⟨h,_⟩
   ·exact⟨_,dZ.2 rfl,(u a).1.2 ⟨Hg a rfl,h⟩,λq=>by rw[(u a).2]⟩
   ·exact absurd C h
  ·rename_i hd1 M;have l:cK p N=2:=O;obtain⟨P,Q,R⟩:=afQ b c y z hb hc;have v:GA N (bG p N 2):=z.up O O;obtain⟨D,u⟩:=ac0 b c f y (v.at b c 3) (nL _ _);obtain⟨T,r2,U,_⟩:=af_ b c f O l;refine⟨λt d=>?_,?_,λa o s=>?_⟩
   ·rcases dd.1 d with d|d
    ·exact P t d
    ·split at d
     ·rw[dZ.1 d];exact D
     ·simp at d
   ·rw[c_];have:(lz p N).length<=2:=Q;split<;>simp<;>omega
   ·rcases s with⟨j,w,rfl⟩|⟨j,E,B,hB,rfl⟩
    ·have m:(bG p N 2).aJ≠0/\cK (oM p N) N=1:=by
      refine⟨λh0=>?_,?_⟩
      ·have G:bM p=false:=by
        cases G:bM p with
        |false=>rfl
        |true=>unfold cK at l;rw[G]at l;simp at l
       have H:fG N p=(2:Nat):=by unfold cK at l;rw[G]at l;simpa using l
       have x:=arn f O O b c (n:=2) O H;have e:=z.sz.bw.oX h0;have:fV a p N 2=((cV (bG p N 2):Int):Rat):=by unfold fV;have:=aY (ev a) e;rw[l_]at this;exact this
       rw[this]at j;have K:cV (bG p N 2)=0:=by
        have:((cV (bG p N 2):Int):Rat)=((0:Int):Rat):=by rw[j];rfl
        exact Rat.intCast_inj.1 this
       rw[e,K,vP]at x;cases x
      ·refine BQ λV=>w ?_
       rw[<-U a];exact AO b c T O a (i:=1) O
     refine⟨tD p N (dP (bG p N 2) 3),dd.2 (.inr ?_),(u a).1.2 ⟨?_,w⟩,λq=>by rw[(u a).2]⟩
     ·rw[aK m];exact dZ.2 rfl
     ·rw[v.tr,SA];exact j
    ·obtain⟨t,d,X,Z⟩:=R a B j E hB;exact⟨t,dd.2 (.inl d),X,Z⟩
mutual
def j9:F->List (Int×J)
 |.mk k r p a=>if k=2 then [(r,p)]else if k=3\/k=4 then ot a else []
def ot:List F->List (Int×J)
 |[]=>[]
 |m::r=>j9 m++ot r
end
mutual
theorem Xm:∀m:F,(j9 m).length<=bc m
 |.mk k r p a=>by
  have:=Xn a
  rw[j9,bc]
  split
  ·simp
  ·split
   ·omega
   ·simp
theorem Xn:∀l:List F,(ot l).length<=cy l
 |[]=>by rw[ot];simp
 |m::r=>by
  have c:=Xm m
  have b:=Xn r
  rw[ot,cy,c_];omega
end
def NZ{Q:J->Prop}(h:CM Q m):∀x∈j9 m,R6 x.1/\Q x.2:=by
 have f:∀l:List F,(∀c∈l,∀x∈j9 c,R6 x.1/\Q x.2)->∀x∈ot l,R6 x.1/\Q x.2:=by
  intro l
  induction l with
  |nil=>intro _ x a;rw[ot]at a;simp at a
  |cons c r b=>
   intro e x a;rw[ot]at a;rcases dd.1 a with a|a
   ·exact e c (bZ ..) x a
   ·exact b (λd i=>e d (cE _ i)) x a
 induction h with
 |tt=>intro x a;rw[j9,g ae,g ae]at a;simp at a
 |ff=>intro x a;rw[j9,g ae,g ae]at a;simp at a
 |j_ r p j k=>intro x a;rw[j9,aK rfl,dZ]at a;subst a;exact⟨j,k⟩
 |node K n o q b=>intro x a;rw[j9,g O,aK o]at a;exact f n b x a
structure PG(N:Nat)(lv:Nat)(t:bi):Prop where
 p:rV N lv t
 one:t.aM=1->t=zd
 ok:t.aM≠1->∀ρ,tr ρ t.g=true->(gU ρ t).ok
def An.pg(h:An N k t)(r:Int):PG N k (ki r t):=by
 unfold ki;split
 ·exact⟨⟨⟨h.p.tg.a,h.p.tg.b,h.p.tg.c,h.p.tg.d⟩,.inr (.inr rfl),h.p.g,h.p.sz⟩,λe=>absurd (show(3:Int)=1 from e) ae,λ_=>h.ok⟩
 ·exact⟨h.p,λe=>by rw[h.kd]at e;exact absurd e ae,λ_=>h.ok⟩
def axV(b:1<=k):PG N k zd:=by have a:(k:Int)≠0:=O;exact⟨⟨⟨.zero a _ _,.zero a _ _,.zero a _ _,.zero a _ _⟩,.inl rfl,.tt,by show bc (.mk 1 0 zP [])<=10;rw[bc,gV];omega⟩,λ_=>rfl,λh=>absurd rfl h⟩
def KI(b:bi->ByteArray)(N c:Nat):=∀t a,PG N c t->PG N c a->(b t).toList=(b a).toList->t=a
structure yB(κ:bi->ByteArray)(N lv:Nat)(s:PS):Prop where
 pg:∀t∈s.eG,PG N lv t
 ks:∀k∈s.nT,∃t∈s.eG,κ t=k
def av2{s:aA}{l:List ByteArray}(h:kh s l=true):∃k∈l,k.toList=s.toList:=by unfold kh at h;obtain⟨k,a,b⟩:=uf.1 h;exact⟨k,a,by simpa using b⟩
def anD(b:KI Z N k){s:PS}(Y:yB Z N k s)(d:PG N k t):
 yB Z N k (pX Z t s)/\t∈(pX Z t s).eG/\(∀u∈s.eG,u∈(pX Z t s).eG)/\(pX Z t s).eG.length<=s.eG.length+1:=by
 unfold pX;split
 ·rename_i h;obtain⟨a,hk,c⟩:=av2 h;obtain⟨u,hu,rfl⟩:=Y.ks a hk;have:=b u t (Y.pg u hu) d c;subst this;exact⟨Y,hu,λ_ h=>h,O⟩
 ·refine⟨⟨λu hu=>?_,λa hk=>?_⟩,dd.2 (.inr (dZ.2 rfl)),λu hu=>dd.2 (.inl hu),ai⟩
  ·rcases dd.1 hu with hu|hu
   ·exact Y.pg u hu
   ·rw[dZ.1 hu];exact d
  ·rcases dd.1 hk with hk|hk
   ·obtain⟨u,hu,c⟩:=Y.ks a hk;exact⟨u,dd.2 (.inl hu),c⟩
   ·rw[dZ.1 hk];exact⟨t,dd.2 (.inr (dZ.2 rfl)),rfl⟩
theorem W9{a:bi->ByteArray}{N c:Nat}(b:KI a N c)(r:Int):∀{l:List bi}{s:PS},yB a N c s->(∀t∈l,An N c t)->
 yB a N c (nG a r l s)/\(∀t∈l,ki r t∈(nG a r l s).eG)/\(∀u∈s.eG,u∈(nG a r l s).eG)/\(nG a r l s).eG.length<=s.eG.length+l.length
 |[],s,Y,_=>by rw[nG];exact⟨Y,λt f=>by simp at f,λ_ h=>h,ai⟩
 |t::l,s,Y,d=>by
  obtain⟨n,m,k,p⟩:=anD b Y ((d t (bZ ..)).pg r);obtain⟨j,i,e,o⟩:=W9 b r (l:=l) n λu hu=>d u (cE _ hu)
  rw[nG];refine⟨j,λu hu=>?_,λu hu=>e u (k u hu),by rw[fD];omega⟩;rcases dC.1 hu with rfl|hu
  ·exact e _ m
  ·exact i u hu
structure WS(κ:bi->ByteArray)(N lv:Nat)(ats:List (Int×J))(s s':PS):Prop where
 i:yB κ N lv s'
 all:∀x∈ats,∀t∈fq x.2 lv,ki x.1 t∈s'.eG
 up:∀u∈s.eG,u∈s'.eG
 len:s'.eG.length<=s.eG.length+3*ats.length
mutual
theorem ajm {i:bi->ByteArray} {d k:Nat} (w:1<=d) (v:d<=4) (q:k<=2000) (f:KI i (2*k+4) d):∀{m:F},(∀x∈j9 m,Sz 2 k x.2)->∀{s:PS},yB i (2*k+4) d s->WS i (2*k+4) d (j9 m) s (oR i d m s)
 |.mk kd r p ks,n,s,Y=>by
  rw[oR]
  by_cases j:kd=3\/kd=4
  ·rw[aK j]
   have e:j9 (.mk kd r p ks)=ot ks:=by rw[j9,g O,aK j]
   rw[e]at n⊢
   exact ajn w v q f n Y
  ·rw[g j]
   by_cases y:kd=2
   ·rw[aK y]
    have e:j9 (.mk kd r p ks)=[(r,p)]:=by rw[j9,aK y]
    rw[e]at n⊢
    have z:Sz 2 k p:=n (r,p) (dZ.2 rfl)
    obtain⟨A,H,G⟩:=SO w v z q
    obtain⟨E,D,C,K⟩:=W9 f r Y A
    exact⟨E,λx c t o=>by rw[dZ.1 c]at o⊢;exact D t o,C,by simp;omega⟩
   ·rw[g y]
    have e:j9 (.mk kd r p ks)=[]:=by rw[j9,g y,g j]
    rw[e]
    exact⟨Y,λx c=>by simp at c,λ_ h=>h,ai⟩
theorem ajn {i:bi->ByteArray} {d k:Nat} (w:1<=d) (v:d<=4) (q:k<=2000) (f:KI i (2*k+4) d):∀{l:zF0},(∀x∈ot l,Sz 2 k x.2)->∀{s:PS},yB i (2*k+4) d s->WS i (2*k+4) d (ot l) s (oe i d l s)
 |[],_,s,Y=>by rw[oe,ot];exact⟨Y,λx c=>by simp at c,λ_ h=>h,ai⟩
 |m::r,n,s,Y=>by
  rw[ot]at n
  have a:=ajm w v q f (m:=m) (λx c=>n x (dd.2 (.inl c))) Y
  have b:=ajn w v q f (l:=r) (λx c=>n x (dd.2 (.inr c))) a.i
  rw[oe,ot]
  refine⟨b.i,λx c t o=>?_,λu B=>b.up u (a.up u B),by rw[c_];have:=a.len;have:=b.len;omega⟩
  rcases dd.1 c with c|c
  ·exact b.up _ (a.all x c t o)
  ·exact b.all x c t o
end
def Ss(d:1<=N)(e:N<=4)(b:k<=2000)(c:KI Z (2*k+4) N)(f:∀x∈j9 m,Sz 2 k x.2):
 (∀t∈kI Z m N,PG (2*k+4) N t)/\zd∈kI Z m N/\(∀x∈j9 m,∀t∈fq x.2 N,ki x.1 t∈kI Z m N)/\(kI Z m N).length<=1+3*bc m:=by
 have h:yB Z (2*k+4) N ⟨[zd],[]⟩:=⟨λt i=>by rw[dZ.1 i];exact axV d,λk b=>by simp at b⟩;have a:=ajm d e b c f h;have:=Xm m;exact⟨a.i.pg,a.up _ (dZ.2 rfl),a.all,by have:=a.len;unfold kI;simp at this;omega⟩
mutual
theorem IA {i:Int} {t:bi} {c:az}:∀{m:F},(∀x∈j9 m,rH x.1 (cJ (ev c x.2))=true->tr c (ob x.2 x.1 i t)=true)->tr c m=true->tr c (gO i t m)=true
 |.mk k r p ks,h,f=>by
  rw[gO]
  by_cases j:k=2
  ·rw[aK j]
   have e:j9 (.mk k r p ks)=[(r,p)]:=by rw[j9,aK j]
   rw[e]at h
   rw[tr,g O,aK j]at f
   exact h (r,p) (dZ.2 rfl) f
  ·rw[g j]
   by_cases d:k=3\/k=4
   ·rw[aK d]
    have e:j9 (.mk k r p ks)=ot ks:=by rw[j9,g j,aK d]
    rw[e]at h
    have:=XH (l:=ks) h
    rw[BD c d]at f⊢
    unfold jY at f⊢
    split at f
    ·rw[aK I];exact this.1 f
    ·rw[g I];exact this.2 f
   ·rw[g d];exact f
theorem XH {i:Int} {t:bi} {c:az}:∀{l:zF0},(∀x∈ot l,rH x.1 (cJ (ev c x.2))=true->tr c (ob x.2 x.1 i t)=true)->(fR c l=true->fR c (r9 i t l)=true)/\(gA c l=true->gA c (r9 i t l)=true)
 |[],_=>by rw[r9];exact⟨λh=>h,λh=>h⟩
 |m::r,h=>by
  rw[ot]at h
  have a:=IA (m:=m) λx n=>h x (dd.2 (.inl n))
  have b:=XH (l:=r) λx n=>h x (dd.2 (.inr n))
  rw[r9,fR,fR,gA,gA,dB,dB,vd,vd]
  exact⟨λh=>⟨a h.1,b.1 h.2⟩,λh=>h.elim (λh=>.inl (a h)) λh=>.inr (b.2 h)⟩
end
def aFC(b:1<=k)(c:k<=4)(h:d<=1000)(a:Sz 2 d p)(f:rV (2*d+20) k t)(r:Int):CM (GA k) (ob p r k t)/\bc (ob p r k t)<=61:=by
 have e:=a.ub k;unfold ob;split
 ·have:=X6 b c a O e r;exact⟨this.1,by have:=this.2.1;omega⟩
 ·split
  ·have:=ES b c O f.tg (a.up (bu 2) O) e r;exact⟨this.1,by have:=this.2.1;omega⟩
  ·have:=Xd b c a O e (N:=2*d+20) O O f.tg r;exact⟨this.1,this.2.1⟩
def rV.up(h:N<=k)(a:rV N d t):rV k d t:=⟨aBR h a.tg,a.kd,a.g,a.sz⟩
mutual
theorem Iz {d:Nat} (n:1<=d) (j:d<=4) {k:Nat} (i:k<=1000) {t:bi} (f:rV (2*k+20) d t):∀{m:F},CM (Sz 2 k) m->CM (GA d) (gO d t m)/\bc (gO d t m)<=61*bc m
 |.mk kd r p o,h=>by
  rw[gO]
  by_cases v:kd=2
  ·rw[aK v]
   cases h with
   |tt=>omega
   |ff=>omega
   |node K o x s=>omega
   |j_ r p w u=>
    have:=aFC n j i u f r
    exact⟨this.1,by rw[bc,gV];have:=this.2;omega⟩
  ·rw[g v]
   by_cases e:kd=3\/kd=4
   ·rw[aK e]
    have q:∀c∈o,CM (Sz 2 k) c:=h.bz
    have b:=XF n j i f q
    exact⟨.node kd _ e b.1,by rw[bc,bc];have:=b.2;omega⟩
   ·rw[g e]
    cases h with
    |tt=>exact⟨.tt,by have:=zF (.mk 1 0 zP []);omega⟩
    |ff=>exact⟨.ff,by have:=zF (.mk 0 0 zP []);omega⟩
    |node K o x s=>omega
    |j_ r p w u=>omega
theorem XF {d:Nat} (n:1<=d) (j:d<=4) {k:Nat} (i:k<=1000) {t:bi} (f:rV (2*k+20) d t):∀{l:zF0},(∀c∈l,CM (Sz 2 k) c)->(∀c∈r9 d t l,CM (GA d) c)/\cy (r9 d t l)<=61*cy l
 |[],_=>by rw[r9];exact⟨λc hc=>by simp at hc,by rw[gV];omega⟩
 |m::r,h=>by
  have a:=Iz n j i f (h m (bZ ..))
  have b:=XF n j i f (l:=r) λc hc=>h c (cE _ hc)
  rw[r9]
  refine⟨λc hc=>?_,by rw[eE,eE];have:=a.2;have:=b.2;omega⟩
  rcases dC.1 hc with rfl|hc
  ·exact a.1
  ·exact b.1 c hc
end
def aEj(D:1<=d)(E:d<=4)(hk:k<=1000)(K:KI Z (2*k+4) d)(hm:CM (Sz 2 k) m)(o:tr X m=true):
 ∃t∈kI Z m d,tr X t.g=true/\tr X (gO d t m)=true:=by
 have l:=NZ hm;obtain⟨G,p2,p3,_⟩:=Ss D E O K λx j=>(l x j).2
 have u:∀x∈j9 m,ev X x.2=b9 (fV X x.2 d 0) (fV X x.2 d 1) (fV X x.2 d 2) (X d):=λx j=>by have Y:=(l x j).2;rw[<-Ov Y O O D E (Y.ub d) X,aGu]
 have L:=aqS (X d) ((j9 m).map λx=>⟨x.1,fV X x.2 d 0,fV X x.2 d 1,fV X x.2 d 2⟩)
  (λa M=>by obtain⟨x,j,rfl⟩:=cj.1 M;exact(l x j).1)
  (((kI Z m d).filter λt=>decide (t.aM≠1)&&tr X t.g).map λt=>(t.aM,gU X t))
  (λp v=>by obtain⟨t,o,rfl⟩:=cj.1 v;obtain⟨i,c⟩:=iZ.1 o;rw[dB,be]at c;exact(G t i).ok c.1 X c.2)
  (λp v=>by
    obtain⟨t,o,rfl⟩:=cj.1 v;obtain⟨i,c⟩:=iZ.1 o;rw[dB,be]at c;rcases(G t i).p.kd with e|e|e
    ·exact absurd e c.1
    ·exact .inl e
    ·exact .inr e)
  (λa M t' hR=>by
    obtain⟨x,j,rfl⟩:=cj.1 M;obtain⟨r1,_,r3⟩:=SO D E (l x j).2 (show k<=2000 by omega);obtain⟨t,o,hg,hq⟩:=r3 X t' hR;have H:=p3 x j t o;have e1:gU X (ki x.1 t)=gU X t:=by unfold ki;split<;>rfl
    have e2:(ki x.1 t).g=t.g:=by unfold ki;split<;>rfl
    have e3:(ki x.1 t).aM=if xU x.1 then 3 else 2:=by
     unfold ki;by_cases Y:xU x.1
     ·rw[aK (show x.1=1\/x.1=4\/x.1=6 from Y),aK Y]
     ·rw[g (show¬(x.1=1\/x.1=4\/x.1=6)from Y),g Y];exact(r1 t o).kd
    refine⟨((ki x.1 t).aM,gU X (ki x.1 t)),cj.2 ⟨_,iZ.2 ⟨H,?_⟩,rfl⟩,λq=>by rw[e1];exact hq q,e3⟩;rw[dB,be,e2];exact⟨by rw[e3];split<;>omega,hg⟩)
 have z3:∀{r z:Int},rH r z=true->r=3->z=0:=λ{r z} h e=>by rw[e]at h;unfold rH at h;simpa using h
 have U:∀t∈kI Z m d,rV (2*k+20) d t:=λt o=>(G t o).p.up O
 rcases L with⟨p,v,P,n⟩|⟨p,v,Q,n⟩|n
 ·obtain⟨t,w,rfl⟩:=cj.1 v;obtain⟨i,c⟩:=iZ.1 w;rw[dB,be]at c;have s:=(G t i).ok c.1 X c.2;refine⟨t,i,c.2,IA (λx j f=>?_) o⟩;rw[u x j]at f;have:=n _ (cj.2 ⟨x,j,rfl⟩) f;have Y:=(l x j).2;have R:t.aM=2:=P;unfold ob;rw[g c.1,aK R,XC D E O (U t i).tg ⟨Y.up (bu 2) O,Y.ub d⟩ x.1 s.C s.D];exact this
 ·obtain⟨t,w,rfl⟩:=cj.1 v;obtain⟨i,c⟩:=iZ.1 w;rw[dB,be]at c;have s:=(G t i).ok c.1 X c.2;refine⟨t,i,c.2,IA (λx j f=>?_) o⟩;have V:=f;rw[u x j]at f;have:=n _ (cj.2 ⟨x,j,rfl⟩) f;have Y:=(l x j).2;have hk3:t.aM=3:=Q;unfold ob;rw[g c.1,g O];refine(Xd D E Y O (Y.ub d) (N:=2*k+20) O O (U t i).tg x.1).2.2 X _ s.C s.D f ?_ (z3 f) (l x j).1;rcases this with y|⟨y,T⟩
  ·right;obtain⟨A,B,C⟩:=y;simp only at A B C;refine⟨?_,A,B,C⟩;rw[A,B,C];unfold b9;rw[show(0:Rat)+0*X d+0*X d*X d=0 by grind];exact tP
  ·exact .inl ⟨y,T⟩
 ·refine⟨zd,p2,Hg X rfl,IA (λx j f=>?_) o⟩;rw[u x j]at f;have:=n _ (cj.2 ⟨x,j,rfl⟩) f;have Y:=(l x j).2;unfold ob;rw[aK (show zd.aM=1 from rfl)];refine(X6 D E Y O (Y.ub d) x.1).2.2 X _ f ?_ (z3 f) (l x j).1;rcases this with y|⟨y,T⟩
  ·right;obtain⟨A,B,C⟩:=y;simp only at A B C;refine⟨?_,A,B,C⟩;rw[A,B,C];unfold b9;rw[show(0:Rat)+0*X d+0*X d*X d=0 by grind];exact tP
  ·exact .inl ⟨y,T⟩
theorem Xq{a k:Nat}(p:1<=a)(o:a<=4)(z:k<=1000){m:F}(y:CM (Sz 2 k) m):∀{l:List bi}{acc:zF0},(∀t∈l,rV (2*k+20) a t)->(∀c∈acc,CM (GA a) c)->
 CM (GA a) (s8 m a l acc)/\bc (s8 m a l acc)<=1+cy acc+l.length*(11+61*bc m)/\∀b,(gA b acc=true\/∃t∈l,tr b t.g=true/\tr b (gO a t m)=true)->tr b (s8 m a l acc)=true
 |[],acc,_,n=>by
  obtain⟨s,r,q⟩:=sy (GA.GZ p o) (CM.node 4 acc (.inr rfl) n).rm;rw[s8];refine⟨s,?_,λb h=>?_⟩
  ·show bc (bS (kY acc))<=_;unfold kY;rw[bc]at q;simp;omega
  ·show tr b (bS (kY acc))=true;unfold kY;rw[r,BD b (.inr rfl)];rcases h with h|⟨t,j,_⟩
   ·exact h
   ·simp at j
 |t::l,acc,v,n=>by
  have x:=Iz p o z (v t (bZ ..)) y;have j:=v t (bZ ..);obtain⟨s,r,q⟩:=sy (GA.GZ p o) (CM.qM j.g x.1).rm;have G:bc (bS (dA [t.g,gO a t m]))<=11+61*bc m:=by rw[rv]at q;have:=j.sz;have:=x.2;omega
  rw[s8];by_cases B:(bS (dA [t.g,gO a t m])).aM=1
  ·rw[aK B];exact⟨.tt,by rw[bc,gV];omega,λb _=>Hg b rfl⟩
  ·rw[g B];have i:∀c∈(if(bS (dA [t.g,gO a t m])).aM≠0 then acc++[bS (dA [t.g,gO a t m])]else acc),CM (GA a) c:=λc hc=>by
    split at hc
    ·rcases dd.1 hc with hc|hc
     ·exact n c hc
     ·rw[dZ.1 hc];exact s
    ·exact n c hc
   obtain⟨E,D,C⟩:=Xq p o z y (l:=l) (λu hu=>v u (cE _ hu)) i;refine⟨E,eZ D ?_,λb h=>C b ?_⟩
   ·have:cy (if(bS (dA [t.g,gO a t m])).aM≠0 then acc++[bS (dA [t.g,gO a t m])]else acc)<=cy acc+(11+61*bc m):=by
     split
     ·rw[zG,eE,gV];omega
     ·omega
    rw[fD,jS];omega
   ·rcases h with h|⟨u,hu,A,f⟩
    ·left;split
     ·rw[T_,h,BO]
     ·exact h
    ·rcases dC.1 hu with rfl|hu
     ·left;have d:tr b (bS (dA [u.g,gO a u m]))=true:=by rw[r,tU,A,f];rfl
      have w:(bS (dA [u.g,gO a u m])).aM≠0:=λe=>by rw[Mq b e]at d;cases d
      rw[aK w,T_,gA,d];simp
     ·exact .inr ⟨u,hu,A,f⟩
def XE(d:1<=N)(e:N<=4)(j:k<=1000)(a:KI Z (2*k+4) N)(f:CM (Sz 2 k) m):
 CM (GA N) (jj Z m N)/\bc (jj Z m N)<=1+(1+3*bc m)*(11+61*bc m)/\∀b,tr b m=true->tr b (jj Z m N)=true:=by
 have h:=NZ f;obtain⟨n,w,y,o⟩:=Ss d e O a λx q=>(h x q).2
 obtain⟨r,s,u⟩:=Xq d e j f (l:=kI Z m N) (acc:=[]) (λt i=>(n t i).p.up O) λc v=>by simp at v
 refine⟨r,eZ s ?_,λb i=>u b (.inr (aEj d e j a f i))⟩;rw[gV];have:=jI (11+61*bc m) o;omega
def QO(p:J):=Sz 12 60000 p
def QO.rq:∀p,QO p->bO p/\QO (jO p):=λp h=>⟨h.np O O,h.sn O O⟩
def QO.rn:∀p,QO p->bO p/\QO (dG p):=λp h=>⟨h.np O O,by rw[h.cH O O];exact h⟩
def GA.qo{a:Int}(h:GA a p):QO p:=h.sz
theorem TK(f:F->Bool):∀l:List F,cy (l.filter f)+cy (l.filter λc=>!f c)=cy l
 |[]=>rfl
 |m::r=>by
  have a:=TK f r;cases h:f m with
  |true=>rw[yp h,Ae (by simp[h]),eE,eE];omega
  |false=>rw[Ae (by simp[h]),yp (by simp[h]),eE,eE];omega
theorem T8(a:az)(f:F->Bool):∀l:List F,fR a l=true->fR a (l.filter f)=true
 |[],h=>h
 |m::r,h=>by
  rw[fR,dB]at h;have b:=T8 a f r h.2;cases hf:f m with
  |true=>rw[yp hf,fR,h.1,b];rfl
  |false=>rw[Ae (by simp[hf])];exact b
structure BW(κ:bi->ByteArray)(lv:Int)(f:Nat)(m:F):Prop where
 cm:CM QO (mc κ lv f m)
 sz:bc (mc κ lv f m)<=20001*bc m
 tr:∀ρ,tr ρ m=true->tr ρ (mc κ lv f m)=true
def XI{s:Nat}(h:s<=10)(Y:1<=s)(a:k<=1+(1+3*s)*(11+61*s)):k<=20000*s:=by have:s=1\/s=2\/s=3\/s=4\/s=5\/s=6\/s=7\/s=8\/s=9\/s=10:=O;rcases this with rfl|rfl|rfl|rfl|rfl|rfl|rfl|rfl|rfl|rfl<;>omega
theorem FG{b:bi->ByteArray}{lv k:Nat}(Z:1<=lv)(X:lv<=4)(V:k<=1000)(u:KI b (2*k+4) lv):∀(f:Nat){m:F},CM (Sz 2 k) m->bc m<=10->BW b lv f m
 |0,m,A,Y=>by
  have e:mc b lv 0 m=m:=by rw[mc]
  exact⟨by rw[e];exact A.imp λp D=>D.up O O,by rw[e];omega,λi h=>by rw[e];exact h⟩
 |f+1,m,A,Y=>by
  have E:CM QO m:=A.imp λp D=>D.up O O
  have hpos:=zF m;have ap:∀{s:F},CM (Sz 2 k) s->bc s<=10->CM QO (jj b s lv)/\bc (jj b s lv)<=20000*bc s/\∀i,tr i s=true->tr i (jj b s lv)=true:=λ{s} h' U=>by obtain⟨M,N,L⟩:=XE Z X V u h';exact⟨M.imp λp D=>D.qo,XI U (zF s) N,L⟩
  have a:mc b lv (f+1) m=if gF m lv=false then m else if m.aM=4 then bS (kY (m.aO.map (mc b lv f)))else if m.aM=3 then
   (match m.aO.filter (λc=>gF c lv)with
   |[c]=>if c.aM=4 then bS (dA (m.aO.filter (λc=>!gF c lv)++[mc b lv f c]))else bS (dA (m.aO.filter (λc=>!gF c lv)++[jj b (dA [c]) lv]))
   |inner=>bS (dA (m.aO.filter (λc=>!gF c lv)++[jj b (dA inner) lv])))
   else jj b m lv:=by rw[mc];rfl
  by_cases hv:gF m lv=false
  ·rw[aK hv]at a;exact⟨by rw[a];exact E,by rw[a];omega,λi h=>by rw[a];exact h⟩
  rw[g hv]at a;by_cases v:m.aM=4
  ·rw[aK v]at a;have j:∀c∈m.aO,BW b lv f c:=λc hc=>FG Z X V u f (A.bz c hc) (by
    have:bc c<=cy m.aO:=by
     clear a;have:∀l:List F,c∈l->bc c<=cy l:=by
      intro l
      induction l with
      |nil=>intro h;simp at h
      |cons d r B=>
       intro h;rw[eE];rcases dC.1 h with rfl|h
       ·omega
       ·have:=B h;omega
     exact this _ hc
    rw[kM]at Y;omega)
   have q:CM QO (kY (m.aO.map (mc b lv f))):=.node 4 _ (.inr rfl) λc hc=>by obtain⟨d,hd,rfl⟩:=cj.1 hc;exact(j d hd).cm
   obtain⟨T,R,Q⟩:=sy QO.rq q.rm;refine⟨by rw[a];exact T,?_,λi h=>?_⟩
   ·rw[a];refine eZ Q ?_;unfold kY;rw[bc,kM m];have:∀l:List F,(∀c∈l,BW b lv f c)->cy (l.map (mc b lv f))<=20001*cy l:=by
     intro l
     induction l with
     |nil=>intro _;rw[gL,gV];omega
     |cons d r B=>
      intro G;rw[dc,eE,eE];have:=(G d (bZ ..)).sz;have:=B λc hc=>G c (cE _ hc)
      omega
    have:=this m.aO j;omega
   ·rw[a,R,aiV];rw[xZ,g O,g O,g O,aK v]at h;have:∀l:List F,(∀c∈l,BW b lv f c)->gA i l=true->gA i (l.map (mc b lv f))=true:=by
     intro l
     induction l with
     |nil=>intro _ h;exact h
     |cons d r B=>
      intro G h;rw[dc,gA,vd];rw[gA,vd]at h;rcases h with h|h
      ·exact .inl ((G d (bZ ..)).tr i h)
      ·exact .inr (B (λc hc=>G c (cE _ hc)) h)
    exact this _ j h
  rw[g v]at a;by_cases w:m.aM=3
  ·rw[aK w]at a;have o:cy (m.aO.filter λc=>gF c lv)+cy (m.aO.filter λc=>!gF c lv)=cy m.aO:=TK _ _;have hsz:=kM m;have z:∀x:F,CM QO x->bc x+1<=20001*(1+cy (m.aO.filter λc=>gF c lv))->(∀i,fR i (m.aO.filter λc=>gF c lv)=true->tr i x=true)->mc b lv (f+1) m=bS (dA (m.aO.filter (λc=>!gF c lv)++[x]))->BW b lv (f+1) m:=λx x1 x2 x3 P=>by
    have q:CM QO (dA (m.aO.filter (λc=>!gF c lv)++[x])):=.node 3 _ (.inl rfl) λc hc=>by
     rcases dd.1 hc with hc|hc
     ·exact E.bz c (iZ.1 hc).1
     ·rw[dZ.1 hc];exact x1
    obtain⟨T,R,Q⟩:=sy QO.rq q.rm;refine⟨by rw[P];exact T,?_,λi h=>?_⟩
    ·rw[P];refine eZ Q ?_;unfold dA;rw[bc,zG,eE,gV];by_cases hr:cy (m.aO.filter λc=>!gF c lv)=0
     ·omega
     ·omega
    ·rw[P,R,Mp,aiQ,fR,fR,Hv,dB];rw[xZ,g O,g O,aK w]at h;exact⟨T8 i _ _ h,x3 i (T8 i _ _ h)⟩
   have t:∀c∈m.aO.filter (λc=>gF c lv),CM (Sz 2 k) c:=λc hc=>A.bz c (iZ.1 hc).1
   have y:∀inner,m.aO.filter (λc=>gF c lv)=inner->mc b lv (f+1) m=bS (dA (m.aO.filter (λc=>!gF c lv)++[jj b (dA inner) lv]))->BW b lv (f+1) m:=λinner n H=>by
    rw[n]at t z o;have q:CM (Sz 2 k) (dA inner):=.node 3 _ (.inl rfl) t;have C:bc (dA inner)=1+cy inner:=by unfold dA;rw[bc]
    obtain⟨M,N,L⟩:=ap q O;exact z _ M (by rw[C]at N;omega) (λi h=>L i (by rw[Mp];exact h)) H
   cases n:m.aO.filter (λc=>gF c lv)with
   |nil=>rw[n]at a;exact y [] n a
   |cons c r=>
    cases r with
    |cons d r=>rw[n]at a;exact y (c::d::r) n a
    |nil=>
     rw[n]at a;simp only at a;by_cases K:c.aM=4
     ·rw[aK K]at a;rw[n]at t o;rw[eE,gV]at o;have H:=FG Z X V u f (t c (dZ.2 rfl)) O;refine z _ H.cm ?_ (λi h=>H.tr i ?_) a
      ·rw[n,eE,gV];have:=H.sz;omega
      ·rw[n,fR,fR,Hv]at h;exact h
     ·rw[g K]at a;exact y [c] n a
  ·rw[g w]at a;obtain⟨M,N,L⟩:=ap A Y;exact⟨by rw[a];exact M,by rw[a];omega,λi h=>by rw[a];exact L i h⟩
end Go.Proofs.YtfbmhjooliccnaaGreatDoor
namespace Go.Proofs.YtfbmhjooliccnaaGreatDoor
open Go Go.Ab Go.Proofs.Tryz
variable {m a:F}{x k:Nat}{r K:Int}{l U:zF0}{p:J}{Z:zJ0}{t:bi}{X:bi→ByteArray}
def Qc{n:Bool}{a:ao}(h:Dg a)(b:a.length<=k):(iV ⟨n,a⟩).natAbs<2^(32*k):=by
 have c:=gS h;have d:=wc b;have e:pB k=((2^(32*k):Nat):Int):=by unfold pB;rw[Nat.pow_mul,HK];rfl
 unfold iV;generalize 2^(32*k)=X at*;show(if n then-nV a else nV a).natAbs<X;split<;>omega
def aA7(h:ja k p):d_ p<=nP p*2^(32*k):=by
 induction h with
 |mk l n a f i j q s m=>
  have b:∀l:List J,(∀c∈l,d_ c<=nP c*2^(32*k))->dQ l<=je l*2^(32*k):=by
   intro l
   induction l with
   |nil=>intro _;rw[dQ,je];omega
   |cons c r d=>
    intro e;have t:=e c (bZ ..);have u:=d λc o=>e c (cE _ o)
    rw[dQ,je,jS];omega
  have v:=b f m;have w:=Qc (n:=n) j i;rw[d_,nP,jS];split
  ·omega
  ·split<;>omega
def RQ(p:J):=bO p/\Sz 2 140 (dG p)/\Sz 2 140 (jO p)
def RF(p:J):=jG p/\sf p 40 4=true
theorem agl:∀(d:Nat)(m:F)(n:Int),0<=jq d m n->mz m->RM RF m
 |0,m,n,h,_=>by rw[jq]at h;omega
 |d+1,m,n,h,s=>by
  rw[jq]at h;split at h
  ·omega
  ·rename_i a;have b:∀(l:zF0)(n:Int),(∀c∈l,mz c)->0<=iQ (jq d) l n->∀c∈l,RM RF c:=by
    intro l
    induction l with
    |nil=>intro n _ _ c a;simp at a
    |cons c r j=>
     intro n i h;rw[iQ]at h;split at h
     ·omega
     ·have t:=agl d c n (PE h) (i c ai);have u:=j (jq d c n) (λc a=>i c (by simp[a])) h;intro x e;rcases dC.1 e with rfl|e
      ·exact t
      ·exact u x e
   cases s with
   |mk k r p f o q=>exact .mk k r p f (λ_=>⟨o,by simpa[F.aH]using a⟩) λ_=>b f (n-1) q h
theorem ac6{d:Nat}:∀p:J,nW d p=true->DL d p
 |.mk l n a f,h=>by
  rw[nW]at h;simp only[dB,zX,bj]at h;refine .mk l n a f O λc e=>ac6 c ?_
  have b:=h.2;rw[QN]at b;exact eM.1 b c e
def br.dgp(h:br x p):jG p:=by
 induction h with
 |const n=>exact .mk _ _ _ _ (fA n) λc a=>by simp at a
 |node d e f i j k l b=>exact .mk _ _ _ _ Dg.nil b
def aCR(h:RF p)(Y:pF (dG p) 2=true):RQ p:=by
 obtain⟨l,hf⟩:=h;have d:=JK (dg:=4) hf l O O;have o:=aaX (dg:=4) hf l;have b:d_ p<2^140:=by have t:=aA7 o.1;have q:nP p<=40:=O;have u:=jI (2^(32*4)) q;have v:40*2^(32*4)<2^140:=ae;omega
 have m:=ur d;obtain⟨z,f⟩:=L7 d;have e:=qh d;have a:br 4 (dG p):=by rw[e];exact m.bw
 have n:nW 2 (dG (dG p))=true:=by unfold pF at Y;rw[dB]at Y;exact Y.2
 have i:sf (dG p) 30 2=true:=by unfold pF at Y;rw[dB]at Y;exact Y.1
 have j:jG (dG p):=a.dgp;have k:=JK (dg:=2) i j O O;have r:dG (dG p)=dG p:=by rw[qh k,vw,aK (IQ a)]
 rw[r]at n;have c:DL 2 (dG p):=ac6 _ n;have s:Sz 2 140 (dG p):=⟨a,c,by rw[e];exact nc m.nm b⟩;exact⟨d,s,⟨f.bw,f.dl 2 (by rw[<-e];exact c),nc f.nm b⟩⟩
mutual
theorem afZ:∀{m:F},RM RF m->(∀p∈fY (cG m),pF p 2=true)->RM RQ m
 |.mk k r p f,h,Y=>by
  cases h with
  |mk _ _ _ _ a j=>
   refine .mk k r p f (λd=>aCR (a d) (Y _ ?_)) λb=>af0 (j b) λq i=>Y q ?_
   ·subst d
    rw[cG,g ae,aK rfl,fY,aK rfl];exact dZ.2 rfl
   ·rw[cG,g O,g O,aK b,fY,g O];exact i
theorem af0:∀{l:zF0},(∀c∈l,RM RF c)->(∀p∈jK (oH l),pF p 2=true)->∀c∈l,RM RQ c
 |[],_,_=>λc hc=>by simp at hc
 |m::r,h,Y=>λc hc=>by
  rw[oH,jK]at Y
  rcases dC.1 hc with e|hc
  ·rw[e];exact afZ (h _ (bZ ..)) λp a=>Y p (List.mem_append_left _ a)
  ·exact af0 (λc hc=>h c (cE _ hc)) (λp a=>Y p (List.mem_append_right _ a)) c hc
end
def aCQ(a:mz m)(Y:rj m 8 2=true):RM RQ m/\bc m<=8:=by
 unfold rj at Y;rw[dB,eM]at Y;have b:=FL O Y.1 a;have c:RM RF m:=by have:=Y.1;unfold qU at this;simp only[be]at this;exact agl _ _ _ this a
 exact⟨afZ c Y.2,by have:=b.2;omega⟩
mutual
theorem Rc (d:az):∀{m:F},RM RQ m->tr d (cG m)=tr d m
 |.mk k r p s,h=>by
  cases h with
  |mk _ _ _ _ n o=>
   rw[cG]
   by_cases f:k=1
   ·rw[aK f,tr,tr,aK rfl,aK f]
   rw[g f]
   by_cases e:k=2
   ·rw[aK e,tr,tr,g ae,aK rfl,g f,aK e,afT,K7 (n e).1]
   rw[g e]
   by_cases i:k=3\/k=4
   ·have j:=ad6 d (o i)
    rw[aK i,tr,tr,j.1,j.2]
    simp only[f,e,mK]
   ·rw[g i]
    unfold zM
    rw[tr,tr,g ae,g ae,g ae,g ae,g f,g e,g O,g O]
theorem ad6 (d:az):∀{l:zF0},(∀c∈l,RM RQ c)->fR d (oH l)=fR d l/\gA d (oH l)=gA d l
 |[],_=>by rw[oH];exact⟨rfl,rfl⟩
 |m::r,h=>by
  have a:=Rc d (h m (bZ ..))
  have b:=ad6 d (l:=r) λc q=>h c (cE _ q)
  rw[oH,fR,fR,gA,gA,a,b.1,b.2];exact⟨rfl,rfl⟩
end
def RQ.s:∀p,RQ p->bO p/\Sz 2 140 (jO p):=λp h=>⟨h.1,h.2.2⟩
def RQ.n:∀p,RQ p->bO p/\Sz 2 140 (dG p):=λp h=>⟨h.1,h.2.1⟩
def SzQ.s:∀p,Sz 2 140 p->bO p/\Sz 2 140 (jO p):=λp h=>⟨h.np O O,h.sn O O⟩
def ail(h:RM RQ m)(Y:bc m<=8):CM (Sz 2 140) (bS m)/\bc (bS m)<=8/\∀d,tr d (bS m)=tr d m:=by obtain⟨a,b,c⟩:=sy RQ.s h;exact⟨a,O,b⟩
def Rk(h:RM RQ m)(Y:bc m<=8):CM (Sz 2 140) (dy m)/\CM (Sz 2 140) (bS (dy m))/\bc (dy m)<=8/\bc (bS (dy m))<=8/\∀i,tr i (bS (dy m))=!tr i m:=by obtain⟨a,b,c⟩:=zk RQ.n h;obtain⟨d,e,f⟩:=sy SzQ.s a.rm;exact⟨a,d,O,O,λi=>by rw[e,b]⟩
def auU{κ:bi->ByteArray}{lv:Nat}(f:1<=lv)(i:lv<=4)(e:KI κ 284 lv)(h:RM RQ m)(Y:bc m<=8):
 CM QO (qv κ m lv)/\bc (qv κ m lv)<=200000/\∀d,tr d (cG m)=true->tr d (qv κ m lv)=true:=by
 obtain⟨a,b,c⟩:=ail h Y;have:=FG f i (k:=140) O e (bc (bS m)) a O;refine⟨this.cm,?_,λd j=>this.tr d (by rw[c,<-Rc d h];exact j)⟩;have l:=this.sz;show bc (mc κ lv (bc (bS m)) (bS m))<=_;omega
def anY{κ:bi->ByteArray}{lv:Nat}(j:1<=lv)(l:lv<=4)(f:KI κ 284 lv)(h:RM RQ m)(Y:bc m<=8):
 CM QO (wx κ m lv)/\∀d,tr d (wx κ m lv)=true->tr d (cG m)=true:=by
 obtain⟨r,a,s,b,c⟩:=Rk h Y;have i:=FG j l (k:=140) O f (bc (bS (dy m))) a O;obtain⟨d1,d2,d3⟩:=zk QO.rn i.cm.rm;obtain⟨n,o,t⟩:=sy QO.rq d1.rm;refine⟨n,λd p=>?_⟩;have e:tr d (bS (dy (mc κ lv (bc (bS (dy m))) (bS (dy m)))))=true:=p;rw[o,d2]at e;rw[Rc d h];cases q:tr d m with
 |true=>rfl
 |false=>have:=i.tr d (by rw[c,q];rfl);rw[this]at e;cases e
theorem xW{c:F}:∀{l:zF0},c∈l->bc c<=cy l
 |a::r,h=>by
  rw[eE];rcases dC.1 h with rfl|h
  ·omega
  ·have:=xW h;omega
@[irreducible] def j6(m:F):=CM CZ m/\bc m<=1000000
def j6.u{m:F}(h:j6 m):=(j6.eq_1 ..).to_iff.1 h
theorem j6.bz{m:F}(h:j6 m):∀c∈m.aO,j6 c:=λc d=>by unfold j6;refine⟨h.u.1.bz c d,?_⟩;have f:=xW d;have e:=h.u.2;rw[kM]at e;omega
def j6.len(h:j6 m):m.aO.length<=1000000:=by have d:=rr m.aO;have c:=h.u.2;rw[kM]at c;omega
def j6.xq(h:j6 m):kd m=m.aM:=by have:=h.u.1.kd;unfold kd;rw[g O]
theorem j6.bW{m:F}(h:j6 m)(c:m.aM=2):jM m.bW=m.bW:=by
 cases h.u.1 with
 |tt=>cases c
 |ff=>cases c
 |j_ r p d f=>unfold jM;unfold R6 at d;rw[g];show¬(r<1\/6<r);omega
 |node k e i j=>have c:k=2:=c;omega
def j6.po(h:j6 m)(c:m.aM=2):CZ m.aH:=by
 cases h.u.1 with
 |tt=>cases c
 |ff=>cases c
 |j_ r p e d=>exact d
 |node k f i j=>have c:k=2:=c;omega
def j6.k0(h:j6 m)(c:m.aM=2):m.aO=[]:=by
 cases h.u.1 with
 |tt=>cases c
 |ff=>cases c
 |j_ r p d e=>rfl
 |node k f i j=>have c:k=2:=c;omega
def j6.r0(h:j6 m)(c:m.aM≠2):m.bW=0/\m.aH=zP:=by
 cases h.u.1 with
 |tt=>exact⟨rfl,rfl⟩
 |ff=>exact⟨rfl,rfl⟩
 |j_ r p d e=>exact absurd rfl c
 |node k f i j=>exact⟨rfl,rfl⟩
def j6.k1(h:j6 m)(e:m.aM≠2)(c:m.aM≠3)(d:m.aM≠4):m.aO=[]:=by
 cases h.u.1 with
 |tt=>rfl
 |ff=>rfl
 |j_ r p f i=>exact absurd rfl e
 |node k j l n=>have c:k≠3:=c;have d:k≠4:=d;omega
@[irreducible] def ve(a b:F):=j6 a/\j6 b
def ve.u{a b:F}(h:ve a b):=(ve.eq_1 ..).to_iff.1 h
def aDX:iq zP zP=true:=by rw[G2];show(decide (_=_)&&wj ⟨false,[]⟩ ⟨false,[]⟩&&jr [] [])=true;rw[jr];simp[wj]
section
variable {a b:F}(h:ve a b)
include h
def sm1(c:(kd a !=kd b)=true):k_ a b=false:=by rw[h.u.1.xq,h.u.2.xq]at c;exact(aDQ c).symm
def G8(c:(kd a !=kd b)=false):a.aM=b.aM:=by rw[h.u.1.xq,h.u.2.xq]at c;simpa using c
def sm2(f:(kd a !=kd b)=false)(c:(kd a==2)=true)(d:(jM a.bW==jM b.bW)=false):k_ a b=false:=by have e:=G8 h f;rw[h.u.1.xq]at c;have c:a.aM=2:=an c;rw[h.u.1.bW c,h.u.2.bW O]at d;refine(aDP ?_).symm;simpa using d
def sm3(f:(kd a !=kd b)=false)(c:(kd a==2)=true)(d:(jM a.bW==jM b.bW)=true):k_ a b=iq a.aH b.aH:=by have e:=G8 h f;rw[h.u.1.xq]at c;have c:a.aM=2:=an c;rw[h.u.1.bW c,h.u.2.bW O]at d;rw[LP,h.u.1.k0 c,h.u.2.k0 O,qP e,qP (an d),hJ];simp
def aER(d:(kd a !=kd b)=false)(c:(kd a==2)=true):Z2 a.aH b.aH:=by have e:=G8 h d;rw[h.u.1.xq]at c;have c:a.aM=2:=an c;exact .of (h.u.1.po c) (h.u.2.po O)
def sm4(i:(kd a !=kd b)=false)(c:(kd a==2)=false):k_ a b=hJ a.aO b.aO:=by have e:=G8 h i;rw[h.u.1.xq]at c;have c:a.aM≠2:=an c;have f:=h.u.1.r0 c;have d:=h.u.2.r0 O;rw[LP,qP e,f.1,d.1,f.2,d.2,aDX];simp
def sm5(i:(kd a !=kd b)=false)(c:(kd a==2)=false)(f:(kd a==3)=false)(d:(kd a==4)=false):k_ a b=true:=by rw[sm4 h i c];have e:=G8 h i;rw[h.u.1.xq]at c f d;have c:a.aM≠2:=an c;have f:a.aM≠3:=an f;have d:a.aM≠4:=an d;rw[h.u.1.k1 c f d,h.u.2.k1 O O O,hJ]
theorem ve.bz:∀x∈a.aO,∀y∈b.aO,ve x y:=λx d y c=>by unfold ve;exact⟨h.u.1.bz x d,h.u.2.bz y c⟩
end
def auv(h:((l.length:Int) !=(U.length:Int))=true):hJ l U=false:=by
 cases e:hJ l U with
 |false=>rfl
 |true=>rw[ahn e]at h;simp at h
def auz{a b:F}(e:hJ (l.take x) (U.take x)=true)(c:l[(x:Int).toNat]?=some a)(d:U[(x:Int).toNat]?=some b)(h:(!k_ a b)=false):hJ (l.take (x+1)) (U.take (x+1))=true:=by rw[bI]at c d;exact aho e c d (an h)
def auy{a b:F}(c:l[(x:Int).toNat]?=some a)(d:U[(x:Int).toNat]?=some b)(h:(!k_ a b)=true):hJ l U=false:=by
 cases e:hJ l U with
 |false=>rfl
 |true=>rw[ahl e c d]at h;cases h
def auw{ps:zF0}(c:((ps.length:Int) !=(l.length:Int))=false)(d:hJ (ps.take x) (l.take x)=true)(f:x<=ps.length)(h:decide ((x:Int)<ps.length)=false):hJ ps l=true:=by simp only[bj]at h;have c:(ps.length:Int)=(l.length:Int):=an c;have e:x=ps.length:=O;subst e;rw[i_,show ps.length=l.length by omega,i_]at d;exact d
def atT:fh prog 163:=fH func163 af rfl
def at4:fh prog 210:=fH func210 af rfl
def ag8(D:F->F->Prop)(H:List (Nat×aV S))(args:zS0)(K:f_ S->Prop):Prop:=
 match H,args with
 |[],[.agg [.d (.sc (.int .i64 k1)),.d (.sc (.int .i64 e)),.d (.sc (.int .i64 m)),.d (.b8 k),.d (.bf W.u32 q),.d (.bf W.aH o),.d (.bf W.aQ i)],.agg [.d (.sc (.int .i64 k2)),.d (.sc (.int .i64 c)),.d (.sc (.int .i64 l)),.d (.b8 j),.d (.bf W.u32 p),.d (.bf W.aH n),.d (.bf W.aQ f)]]=>D (.mk k1 e (.mk m k q o) i) (.mk k2 c (.mk l j p n) f)/\K ⟨bT (k_ (.mk k1 e (.mk m k q o) i) (.mk k2 c (.mk l j p n) f)),[],[],[]⟩
 |_,_=>False
def aAG(D:F->F->Prop)(o:∀a b,D a b->bh 163 [wE .aQ a,wE .aQ b] (bT (k_ a b))):fk prog S where
 f:=163
 fX:=atT
 run:=ag8 D
 ok H args K h:=by
  unfold ag8 at h;split at h
  ·rename_i k1 e n l v s j k2 d m k t r i;obtain⟨q,p⟩:=h;refine⟨_,?_,λu c w=>absurd c (l6 _),p⟩;exact(o (.mk k1 e (.mk n l v s) j) (.mk k2 d (.mk m k t r) i) q).fK λu c=>absurd c.1 (l6 _)
  ·cases h
def auu(d f:zF0)(k:d.length<=1000000)(j:∀a∈d,∀b∈f,bh 163 [wE .aQ a,wE .aQ b] (bT (k_ a b))):li prog 210 ([wL .aQ d,wL .aQ f,.c (.cr 163 [])].map SE.den) (bT (hJ d f)).den:=by
 refine vG func210 rfl ⟨[],[aAG (λa b=>a∈d/\b∈f) (λa b h=>j a h.1 b h.2)]⟩ [(4,⟨Nat,λx=>⟨[(1,lT .aQ f),(2,.e (.c (.cr 163 []))),(15,lT .aQ d),(16,iT d.length),(17,iT x)],[],0⟩,λx=>(x<=d.length/\hJ (d.take x) (f.take x)=true)/\True,λx=>d.length-x⟩)] ?_;repeat' first|intro _|apply aP|refine aX 0 (aP ?_ λ(x:Nat) (i:(x<=d.length/\hJ (d.take x) (f.take x)=true)/\True)=>?_)|refine aX (x+1) ?_
 all_goals(try clear j)
 all_goals(try simp only[bm,e_]at*)
 all_goals first|omega|rw[auv I];done|exact bF I|rw[auy I I I];done|exact auz i.1.2 I I I|rw[auw I i.1.2 i.1.1 I];done|have Z:=i.1.1;simp only[be,bj,E1]at*;omega|rfl
def agQ(D:List F->List F->Prop)(H:List (Nat×aV S))(args:zS0)(K:f_ S->Prop):Prop:=
 match H,args with
 |[],[.c (.d (.bf W.aQ f)),.c (.d (.bf W.aQ e)),.c (.cr 163 [])]=>D f e/\K ⟨bT (hJ f e),[],[],[]⟩
 |_,_=>False
def aAx(D:List F->List F->Prop)(i:∀c d,D c d->c.length<=1000000/\∀a∈c,∀b∈d,bh 163 [wE .aQ a,wE .aQ b] (bT (k_ a b))):fk prog S where
 f:=210
 fX:=at4
 run:=agQ D
 ok H args K h:=by
  unfold agQ at h;split at h
  ·rename_i c d;obtain⟨j,k⟩:=h;refine⟨_,?_,λu e l=>absurd e (l6 _),k⟩;exact(auu c d (i c d j).1 (i c d j).2).fK λu e=>absurd e.1 (l6 _)
  ·cases h
def aDY(a:F):∀b:F,ve a b->bh 163 [wE .aQ a,wE .aQ b] (bT (k_ a b)):=by
 generalize k:SizeOf.sizeOf a=D
 induction D using Nat.strongRecOn generalizing a
 rename_i D e;subst k;intro b h;refine vG func163 rfl ⟨[Jk,ZJ,OK],[aAx (λd c=>d=a.aO/\c=b.aO) (λd c j=>by obtain⟨rfl,rfl⟩:=j;exact⟨h.u.1.len,λx f y i=>e _ (F.lt f) x rfl y (h.bz x f y i)⟩)]⟩ [] ?_
 repeat' first|intro _|apply aP
 all_goals(try clear e)
 all_goals(try simp only[bm,e_]at*)
 all_goals first|((with_reducible show(_&&_)=true);kernel_rfl)|rw[sm1 h I];done|rw[sm2 h I I I];done|rw[sm3 h I I I];done|exact aER h I I|rw[sm4 h I I];done|rw[sm5 h I I I I];done|exact absurd ‹(kd a==3)=true› (by rw[‹(kd a==3)=false›];decide)
def ZK:=eO (.el W.aQ) (.el W.aQ) aDY
def atJ:fh prog 117:=fH func117 af rfl
def atK:fh prog 118:=fH func118 af rfl
def atO:fh prog 119:=fH func119 af rfl
def LM(f:Int->Int->Int×Bool)(H:List (Nat×aV S))(args:zS0)(K:f_ S->Prop):Prop:=
 match H,args with
 |[],[.c (.d (.sc (.int .i64 a))),.c (.d (.sc (.int .i64 b)))]=>K ⟨tT [iE (f a b).1,bE (f a b).2],[],[],[]⟩
 |_,_=>False
def aAA:fk prog S where
 f:=117
 fX:=atJ
 run:=LM tE
 ok H args K h:=by
  unfold LM at h;split at h
  ·rename_i a b;refine⟨⟨tT [iE (tE a b).1,bE (tE a b).2],[],[],[]⟩,?_,λu d e=>absurd d (l6 _),h⟩;exact cN.fK (stay':=λu=>u<0/\¬u∈[]) (ax2 a b) λu d=>absurd d.1 (l6 _)
  ·cases h
def aAz:fk prog S where
 f:=118
 fX:=atK
 run:=LM tx
 ok H args K h:=by
  unfold LM at h;split at h
  ·rename_i a b;refine⟨⟨tT [iE (tx a b).1,bE (tx a b).2],[],[],[]⟩,?_,λu d e=>absurd d (l6 _),h⟩;exact cN.fK (stay':=λu=>u<0/\¬u∈[]) (awx a b) λu d=>absurd d.1 (l6 _)
  ·cases h
@[irreducible] def IN(l:zF0)(p:F):=(∀c∈l,j6 c)/\j6 p/\l.length<=1000000
def z7{l:zF0}{p:F}(h:IN l p):=(IN.eq_1 ..).to_iff.1 h
@[irreducible] def IG(K:Int)(l:zF0)(p:F)(x:Nat):=x<=l.length/\de K p l=(l.take x++(de K p (l.drop x)).1,(de K p (l.drop x)).2)
def Vx(K:Int)(l:zF0)(p:F):IG K l p 0:=by unfold IG;exact⟨dD _,rfl⟩
def VB{K:Int}{l:zF0}{p:F}{x:Nat}(h:IG K l p x):x<=l.length:=by unfold IG at h;exact h.1
section
variable {K:Int}{l:zF0}{p:F}{x:Nat}(h:IG K l p x){c:F}(hc:l[((x:Nat):Int).toNat]?=some c)
include h hc
theorem M8:l.drop x=c::l.drop (x+1)/\x<l.length:=by rw[bI]at hc;have a:=lp hc;refine⟨?_,a⟩;rw[mZ a];rw[ca a]at hc;injection hc with hc;rw[hc]
def M9(h2:de K p (c::l.drop (x+1))=(c::(de K p (l.drop (x+1))).1,(de K p (l.drop (x+1))).2)):IG K l p (x+1):=by have a:=M8 h hc;unfold IG at h⊢;refine⟨a.2,?_⟩;rw[h.2,a.1,h2];rw[bI]at hc;simp only;rw[h_,hc,gh];rfl
def Vy(hk:(c.aM !=p.aM)=true):IG K l p (x+1):=M9 h hc (by rw[de,aK (an hk)])
theorem Vz(hk:(c.aM !=p.aM)=false)(h2:(p.aM !=2)=true)(Y:k_ c p=false):IG K l p (x+1):=M9 h hc (by rw[de,g (an hk),aK (an h2),g (by rw[Y];decide)])
theorem VA(hk:(c.aM !=p.aM)=false)(h2:(p.aM !=2)=false)(Y:iq c.aH p.aH=false):IG K l p (x+1):=M9 h hc (by rw[de,g (an hk),g (an h2),g (by rw[Y];decide)])
theorem VE(hk:(c.aM !=p.aM)=false)(h2:(p.aM !=2)=true)(Y:k_ c p=true):de K p l=(l,true):=by have a:=M8 h hc;unfold IG at h;rw[h.2,a.1,de,g (an hk),aK (an h2),aK Y,<-a.1,om]
theorem M_(hk:(c.aM !=p.aM)=false)(h2:(p.aM !=2)=false)(Y:iq c.aH p.aH=true):de K p l=(l.set x (.mk c.aM (o4 K c.bW p.bW).1 c.aH c.aO),(o4 K c.bW p.bW).2):=by have a:=M8 h hc;unfold IG at h;rw[h.2,a.1,de,g (an hk),g (an h2),aK Y];simp only;rw[No,aK a.2]
end
section
variable {K:Int}{l:zF0}{p:F}{x:Nat}(h:IG K l p x){c:F}(Y:iq c.aH p.aH=true)(hc:l[((x:Nat):Int).toNat]?=some c)(hk:(c.aM !=p.aM)=false)(h2:(p.aM !=2)=false)
include h Y hc hk h2
theorem VI:(o4 K c.bW p.bW).2=(de K p l).2:=by rw[M_ h hc hk h2 Y]
theorem VG:l.length=(de K p l).1.length:=by rw[M_ h hc hk h2 Y,oV]
theorem VF(a:l[(x:Int).toNat]?=some m):l.set (x:Int).toNat (.mk m.aM (o4 K c.bW p.bW).1 m.aH m.aO)=(de K p l).1:=by
 have e:m=c:=by rw[hc]at a;injection a with a;exact a.symm
 rw[M_ h hc hk h2 Y,e,bI]
end
def VJ{K:Int}{l:zF0}{p:F}{x:Nat}(h:IG K l p x)(a:decide ((x:Int)<l.length)=false):de K p l=(l++[p],true):=by unfold IG at h;simp only[bj]at a;have e:x=l.length:=O;subst e;rw[h.2,i_,List.drop_length,de]
def HH{l:zF0}{p:F}(h:IN l p)(q:F):(l.length+[q].length)*oP.dT<=140737488355328/\l.length+[q].length<=140737488355328:=by have h2:=(z7 h).2.2;have e:oP.dT=104:=rfl;have a:[q].length=1:=rfl;rw[e,a];omega
def VC{l:zF0}{p:F}(h:IN l p){c:F}(hc:l[k]?=some c):ve c p:=by unfold ve;exact⟨(z7 h).1 c (bF hc),(z7 h).2.1⟩
def VD{l:zF0}{p:F}(h:IN l p){c:F}(hc:l[k]?=some c)(hk:(c.aM !=p.aM)=false)(h2:(p.aM !=2)=false):Z2 c.aH p.aH:=by have h2:p.aM=2:=an h2;have hk:c.aM=p.aM:=an hk;exact .of (((z7 h).1 c (bF hc)).po O) ((z7 h).2.1.po h2)
def YE(a b:Int):tE a b=o4 3 a b:=rfl
def YD(a b:Int):tx a b=o4 4 a b:=rfl
def awa(l:zF0)(p:F)(h:IN l p):cN prog 119 (bJ (bP (U:=S) [(0,.aU W.aQ l)])) ([.c (.aW 0 W.aQ l.length),wE .aQ p,.c (.cr 117 [])].map SE.den) (bJ (bP (U:=S) [(1,.aU W.aQ (de 3 p l).1)])) (·∈[]) (ST.den (U:=S) (tT [.c (.aW 1 W.aQ (de 3 p l).1.length),bE (de 3 p l).2])):=by
 refine vO func119 rfl ⟨[ZK,OK],[aAA]⟩ [(2,⟨Nat,λx=>⟨[(0,.e (.c (.aW 0 W.aQ l.length))),(2,.e (.c (.cr 117 []))),(4,bQ 1),(12,.e (.c (.aW 0 W.aQ l.length))),(13,iT l.length),(14,iT x)],[(0,.aU W.aQ l),(1,dh .aQ p)],2⟩,λx=>IG 3 l p x/\True,λx=>l.length-x⟩)] [] ⟨[(6,.e (.c (.aW 1 W.aQ (de 3 p l).1.length))),(7,bT (de 3 p l).2)],[(1,.aU W.aQ (de 3 p l).1)],2⟩ ?_;repeat' first|intro _|apply aP|refine aX 0 (aP ?_ λ(x:Nat)(a:IG 3 l p x/\True)=>?_)|refine aX (x+1) ?_
 all_goals(try simp only[bm,e_,YE,YD]at*)
 all_goals first|exact aZ|omega| (with_reducible first|exact Vx _ _ _|exact VC h I)|exact VD h I I I| (with_reducible first|exact(HH h _).1|exact(HH h _).2)|exact Vy a.1 I I|exact Vz a.1 I I I I|exact VA a.1 I I I I|exact VG a.1 ‹iq _ _=true› I I I|exact VI a.1 ‹iq _ _=true› I I I|exact VF a.1 ‹iq _ _=true› I I I I|rw[VE a.1 I I I I];done|(rw[VJ a.1 I];first|done|rfl|simp;done)|have Z:=VB a.1;have b:=(z7 h).2.2;simp only[be,bj]at*;omega|rfl
def awb(l:zF0)(p:F)(h:IN l p):cN prog 119 (bJ (bP (U:=S) [(0,.aU W.aQ l)])) ([.c (.aW 0 W.aQ l.length),wE .aQ p,.c (.cr 118 [])].map SE.den) (bJ (bP (U:=S) [(1,.aU W.aQ (de 4 p l).1)])) (·∈[]) (ST.den (U:=S) (tT [.c (.aW 1 W.aQ (de 4 p l).1.length),bE (de 4 p l).2])):=by
 refine vO func119 rfl ⟨[ZK,OK],[aAz]⟩ [(2,⟨Nat,λx=>⟨[(0,.e (.c (.aW 0 W.aQ l.length))),(2,.e (.c (.cr 118 []))),(4,bQ 1),(12,.e (.c (.aW 0 W.aQ l.length))),(13,iT l.length),(14,iT x)],[(0,.aU W.aQ l),(1,dh .aQ p)],2⟩,λx=>IG 4 l p x/\True,λx=>l.length-x⟩)] [] ⟨[(6,.e (.c (.aW 1 W.aQ (de 4 p l).1.length))),(7,bT (de 4 p l).2)],[(1,.aU W.aQ (de 4 p l).1)],2⟩ ?_;repeat' first|intro _|apply aP|refine aX 0 (aP ?_ λ(x:Nat)(a:IG 4 l p x/\True)=>?_)|refine aX (x+1) ?_
 all_goals(try simp only[bm,e_,YE,YD]at*)
 all_goals first|exact aZ|omega| (with_reducible first|exact Vx _ _ _|exact VC h I)|exact VD h I I I| (with_reducible first|exact(HH h _).1|exact(HH h _).2)|exact Vy a.1 I I|exact Vz a.1 I I I I|exact VA a.1 I I I I|exact VG a.1 ‹iq _ _=true› I I I|exact VI a.1 ‹iq _ _=true› I I I|exact VF a.1 ‹iq _ _=true› I I I I|rw[VE a.1 I I I I];done|(rw[VJ a.1 I];first|done|rfl|simp;done)|have Z:=VB a.1;have b:=(z7 h).2.2;simp only[be,bj]at*;omega|rfl
def agW(H:List (Nat×aV S))(args:zS0)(K:f_ S->Prop):Prop:=
 match H,args with
 |[(0,.aU W.aQ l)],[.c (.aW 0 W.aQ n),.agg [.d (.sc (.int .i64 k1)),.d (.sc (.int .i64 a)),.d (.sc (.int .i64 f)),.d (.b8 e),.d (.bf W.u32 j),.d (.bf W.aH i),.d (.bf W.aQ b)],.c (.cr Z [])]=>(n=l.length/\IN l (.mk k1 a (.mk f e j i) b))/\
  (match Nat.beq Z 117,Nat.beq Z 118 with
   |true,_=>K ⟨tT [.c (.aW 1 W.aQ (de 3 (.mk k1 a (.mk f e j i) b) l).1.length),bE (de 3 (.mk k1 a (.mk f e j i) b) l).2],[(1,.aU W.aQ (de 3 (.mk k1 a (.mk f e j i) b) l).1)],[0],[0]⟩
   |_,true=>K ⟨tT [.c (.aW 1 W.aQ (de 4 (.mk k1 a (.mk f e j i) b) l).1.length),bE (de 4 (.mk k1 a (.mk f e j i) b) l).2],[(1,.aU W.aQ (de 4 (.mk k1 a (.mk f e j i) b) l).1)],[0],[0]⟩
   |_,_=>False)
 |_,_=>False
def aet:fk prog S where
 f:=119
 fX:=atO
 run:=agW
 ok H args K h:=by
  unfold agW at h;split at h
  ·rename_i l n k1 d k j q o i Z;obtain⟨⟨r,m⟩,h2⟩:=h;subst r;split at h2
   ·rename_i e;have e:=cO e;subst e;refine⟨_,?_,λu a b=>?_,h2⟩
    ·exact(awa l (.mk k1 d (.mk k j q o) i) m).fK λu a=>by have:u<1:=a.1;have:u∉[0]:=a.2;simp at this;omega
    ·have:u<1:=a;simp at b;omega
   ·rename_i e s;have e:=cO e;subst e;refine⟨_,?_,λu a b=>?_,h2⟩
    ·exact(awb l (.mk k1 d (.mk k j q o) i) m).fK λu a=>by have:u<1:=a.1;have:u∉[0]:=a.2;simp at this;omega
    ·have:u<1:=a;simp at b;omega
   ·cases h2
  ·cases h
@[irreducible] def OF(m:F):Prop:=RM (λp=>bO p/\CZ (jO p)) m/\bc m<=1000000
def Ev{m:F}(h:OF m):=(OF.eq_1 ..).to_iff.1 h
def OF.bz{m:F}(h:OF m)(hk:m.aM=3\/m.aM=4):∀c∈m.aO,OF c:=λc hc=>by
 have b:=Ev h;unfold OF;refine⟨?_,?_⟩
 ·cases b.1 with
  |mk k r p e hp a=>exact a hk c hc
 ·have f:=xW hc;have d:=b.2;rw[kM]at d;omega
def OF.np{m:F}(h:OF m)(hk:m.aM=2):bO m.aH:=by
 cases(Ev h).1 with
 |mk k r p b hp a=>exact(hp hk).1
def OF.cm{m:F}(h:OF m):CM CZ (bS m)/\bc (bS m)<=bc m:=by have:=sy (Q:=CZ) (λp hp=>hp) (Ev h).1;exact⟨this.1,this.2.2⟩
def zt(K:Int)(s:F):List F:=if s.aM=K then s.aO else [s]
def afp(K:Int)(s:F):cy (zt K s)<=bc s:=by
 unfold zt;split
 ·rw[kM];omega
 ·rw[eE,gV];omega
def aBQ{K:Int}(h:CM CZ a):∀c∈zt K a,CM CZ c:=by
 unfold zt;split
 ·exact h.bz
 ·intro c hc;rw[dZ.1 hc];exact h
@[irreducible] def JO(K:Int)(m:F)(x:Nat)(acc:zF0):Prop:=
  x<=m.aO.length/\iJ K m.aO []=iJ K (m.aO.drop x) acc/\(∀c∈acc,CM CZ c)/\cy acc+cy (m.aO.drop x)<=1000000
@[irreducible] def JI(K:Int)(m:F)(x:Nat)(ps:zF0)(y:Nat)(acc:zF0):Prop:=
  x<m.aO.length/\iJ K m.aO []=(match vM K (ps.drop y) acc with|some a=>iJ K (m.aO.drop (x+1)) a|none=>.mk (qK K) 0 zP [])/\y<=ps.length/\(∀c∈acc,CM CZ c)/\(∀c∈ps,CM CZ c)/\cy acc+cy (ps.drop y)+cy (m.aO.drop (x+1))<=1000000/\ps.length<=1000000
def Ef{K:Int}{m:F}{x:Nat}{acc:zF0}(h:JO K m x acc):=(JO.eq_1 ..).to_iff.1 h
def Ac{K:Int}{m:F}{x:Nat}{ps:zF0}{y:Nat}{acc:zF0}(h:JI K m x ps y acc):=(JI.eq_1 ..).to_iff.1 h
def VU{m:F}(h:OF m)(K:Int):JO K m 0 []:=by have:=(Ev h).2;rw[kM]at this;unfold JO;exact⟨dD _,rfl,λc hc=>by simp at hc,by rw[rK,gV];omega⟩
def CQ{x:Nat}{c:F}(hc:l[(x:Int).toNat]?=some c):l.drop x=c::l.drop (x+1)/\x<l.length:=by rw[bI]at hc;have hx:=lp hc;refine⟨?_,hx⟩;rw[mZ hx];rw[ca hx]at hc;injection hc with hc;rw[hc]
section
variable {K:Int}{m:F}(hm:OF m)(hk:m.aM=K)(hK:K=3∨K=4){x:Nat}{acc:zF0}(h:JO K m x acc){c:F}(hc:m.aO[((x:Nat):Int).toNat]?=some c)
include hm hk hK h hc
theorem Nc:OF c:=hm.bz (by rw[hk];exact hK) c (bF hc)
theorem ala(ha:(bS c).aM=qK K):iJ K m.aO []=.mk (qK K) 0 zP []:=by rw[(Ef h).2.1,(CQ hc).1,iJ,aK ha]
theorem alb(ha:(bS c).aM≠qK K)(a:(bS c).aM=zh K):JO K m (x+1) acc:=by
 have u:=Ef h;have d:=CQ hc;unfold JO;refine⟨d.2,?_,u.2.2.1,?_⟩
 ·rw[u.2.1,d.1,iJ,g ha,aK a]
 ·have:=u.2.2.2;rw[d.1,eE]at this;omega
def V3(ha:(bS c).aM≠qK K)(e:(bS c).aM≠zh K):JI K m x (zt K (bS c)) 0 acc:=by
 have u:=Ef h;have d:=CQ hc;have a:=(Nc hm hk hK h hc).cm;unfold JI;refine⟨d.2,?_,dD _,u.2.2.1,aBQ a.1,?_,?_⟩
 ·rw[u.2.1,d.1,iJ,g ha,g e];rfl
 ·have b:=u.2.2.2;have f:=afp K (bS c);rw[d.1,eE]at b;rw[rK];have:=a.2;omega
 ·have b:=u.2.2.2;have f:=afp K (bS c);have i:=rr (zt K (bS c));rw[d.1,eE]at b;have:=a.2;omega
end
section
variable {K:Int}{m:F}{x:Nat}{ps:zF0}{y:Nat}{acc:zF0}(h:JI K m x ps y acc)
include h
def VO(b:decide ((y:Int)<ps.length)=false):JO K m (x+1) acc:=by have u:=Ac h;simp only[bj]at b;have e:y=ps.length:=O;subst e;unfold JO;have a:=u.2.1;rw[List.drop_length,vM]at a;exact⟨u.1,a,u.2.2.2.1,by have:=u.2.2.2.2.2.1;omega⟩
variable {p:F}(hp:ps[((y:Nat):Int).toNat]?=some p)
include hp
def VR:IN acc p:=by
 have u:=Ac h;have d:=CQ hp;have s:=u.2.2.2.2.2.1;rw[d.1,eE]at s;unfold IN j6;refine⟨λc hc=>⟨u.2.2.2.1 c hc,?_⟩,⟨u.2.2.2.2.1 p (bF hp),O⟩,?_⟩
 ·have:=xW hc;omega
 ·have:=rr acc;omega
def ak9(a:(de K p acc).2=false):iJ K m.aO []=.mk (qK K) 0 zP []:=by rw[(Ac h).2.1,(CQ hp).1,vM,g (by rw[a];decide)]
def ak_(hK:K=3\/K=4)(a:(de K p acc).2=true):JI K m x ps (y+1) (de K p acc).1:=by have u:=Ac h;have d:=CQ hp;have i:=Qe (λ_=>0) hK (u.2.2.2.2.1 p (bF hp)) u.2.2.2.1;have s:=u.2.2.2.2.2.1;rw[d.1,eE]at s;unfold JI;refine⟨u.1,?_,d.2,(i.1 a).1,u.2.2.2.2.1,by have:=i.2.2.1;omega,u.2.2.2.2.2.2⟩;rw[u.2.1,d.1,vM,aK a]
end
section
variable {K:Int}{m:F}{x:Nat}{acc:zF0}(h:JO K m x acc)(hx:decide ((x:Int)<(m.aO.length:Int))=false)
include h hx
def Nb:iJ K m.aO []=AQ K acc:=by have u:=Ef h;simp only[bj]at hx;rw[u.2.1,pR O,iJ]
def V0(a:((acc.length:Int)==0)=true):iJ K m.aO []=.mk (zh K) 0 zP []:=by rw[Nb h hx];have a:(acc.length:Int)=0:=an a;have e:acc=[]:=fc O;rw[e];rfl
def V1(d:((acc.length:Int)==1)=true)(ha:acc[(0:Int).toNat]?=some a):iJ K m.aO []=a:=by
 rw[Nb h hx];have d:(acc.length:Int)=1:=an d
 match acc,d,ha with
 |[b],_,ha=>exact vo ha
 |[],d,_=>simp at d
 |_::_::_,d,_=>simp at d;omega
def V2(d:((acc.length:Int)==0)=false)(a:((acc.length:Int)==1)=false):iJ K m.aO []=.mk K 0 zP acc:=by
 rw[Nb h hx];have d:(acc.length:Int)≠0:=an d;have a:(acc.length:Int)≠1:=an a
 match acc,d,a with
 |[],d,_=>exact absurd rfl d
 |[b],_,a=>exact absurd rfl a
 |_::_::_,_,_=>rfl
end
def jk3{m:F}(h:m.aM=3)(a:(m.aM==4)=true):False:=by have a:m.aM=4:=an a;omega
def jk4{m:F}(h:m.aM=4)(a:(m.aM==4)=false):False:=by have a:m.aM≠4:=an a;omega
section
variable {K:Int}{m:F}(hm:OF m)(hk:m.aM=K)(hK:K=3∨K=4){x:Nat}{acc:zF0}(h:JO K m x acc){c:F}(hc:m.aO[((x:Nat):Int).toNat]?=some c){ab ne:Int}(eab:qK K=ab)(ene:zh K=ne)
include hm hk hK h hc eab
def VV(ha:((bS c).aM==ab)=true):iJ K m.aO []=.mk ab 0 zP []:=by rw[<-eab]at ha⊢;exact ala hm hk hK h hc (an ha)
variable (ha:((bS c).aM==ab)=false)
include ene ha
def VW(a:((bS c).aM==ne)=true):JO K m (x+1) acc:=by rw[<-eab]at ha;rw[<-ene]at a;exact alb hm hk hK h hc (an ha) (an a)
def VY(a:((bS c).aM==ne)=false)(hp:((bS c).aM==m.aM)=true):JI K m x (bS c).aO 0 acc:=by rw[<-eab]at ha;rw[<-ene]at a;have:=V3 hm hk hK h hc (an ha) (an a);unfold zt at this;rwa [aK (by rw[<-hk];simpa using hp)]at this
def VZ(a:((bS c).aM==ne)=false)(hp:((bS c).aM==m.aM)=false):JI K m x [bS c] 0 acc:=by rw[<-eab]at ha;rw[<-ene]at a;have:=V3 hm hk hK h hc (an ha) (an a);unfold zt at this;rwa [g (by rw[<-hk];simpa using hp)]at this
end
def VM{K:Int}{m:F}{x:Nat}{ps:zF0}{y:Nat}{acc:zF0}(h:JI K m x ps y acc){p:F}(hp:ps[(y:Int).toNat]?=some p){ab:Int}(eab:qK K=ab)(a:(!(de K p acc).2)=true):iJ K m.aO []=.mk ab 0 zP []:=by rw[<-eab];exact ak9 h hp (an a)
def VN{K:Int}{m:F}{x:Nat}{ps:zF0}{y:Nat}{acc:zF0}(h:JI K m x ps y acc){p:F}(hp:ps[(y:Int).toNat]?=some p)(hK:K=3\/K=4)(a:(!(de K p acc).2)=false):JI K m x ps (y+1) (de K p acc).1:=ak_ h hp hK (an a)
def V4{K:Int}{m:F}{x:Nat}{acc:zF0}(h:JO K m x acc):acc.length<=1000000/\x<=m.aO.length:=by have u:=Ef h;have:=rr acc;exact⟨O,u.1⟩
def VT{K:Int}{m:F}{x:Nat}{ps:zF0}{y:Nat}{acc:zF0}(h:JI K m x ps y acc):y<=ps.length/\x<m.aO.length:=⟨(Ac h).2.2.1,(Ac h).1⟩
def H9{m:F}(h:OF m):m.aO.length<=1000000:=by have:=(Ev h).2;have a:=rr m.aO;rw[kM]at this;omega
def afo{K:Int}{m:F}{x:Nat}{ps:zF0}{y:Nat}{acc:zF0}(h:JI K m x ps y acc):ps.length<=1000000:=(Ac h).2.2.2.2.2.2
def awt(m:F)(h:OF m)(hk:m.aM=3)(d:∀c∈m.aO,OF c->bh 33 [wE .aQ c] (eT .aQ (bS c))):bh 67 [wE .aQ m] (eT .aQ (iJ 3 m.aO [])):=by
 refine vG func67 rfl ⟨[uz Vw 33 (.el W.aQ) (λ(c:F)=>c∈m.aO/\OF c) (λ(c:F)=>eT .aQ (bS c)) (λc hc=>d c hc.1 hc.2)],[aet]⟩ [(6,⟨Nat×List F,λx=>⟨[(1,bQ 0),(2,bQ 1),(3,iT 1),(4,iT 0),(5,.e (.c (.cr 117 []))),(18,lT .aQ m.aO),(19,iT m.aO.length),(6,.e (.c (.aW 2 W.aQ x.2.length))),(20,iT x.1)],[(0,dh .aQ m),(1,dh .aQ zM),(2,.aU (U:=S) W.aQ x.2)],3⟩,λx=>JO 3 m x.1 x.2/\True,λx=>m.aO.length-x.1⟩),(1000017,⟨Nat×List F×Nat×List F,λx=>⟨[(1,bQ 0),(2,bQ 1),(3,iT 1),(4,iT 0),(5,.e (.c (.cr 117 []))),(18,lT .aQ m.aO),(19,iT m.aO.length),(6,.e (.c (.aW 2 W.aQ x.2.2.2.length))),(20,iT x.1),(44,lT .aQ x.2.1),(45,iT x.2.1.length),(46,iT x.2.2.1)],[(0,dh .aQ m),(1,dh .aQ zM),(2,.aU (U:=S) W.aQ x.2.2.2)],3⟩,λx=>JI 3 m x.1 x.2.1 x.2.2.1 x.2.2.2/\True,λx=>x.2.1.length-x.2.2.1⟩)] ?_;repeat' (first
  |exact(jk3 hk ‹(m.aM==4)=true›).elim
  |((with_reducible show mt _ _ _ _ _);(conv=>whnf);(fail_if_success with_reducible show mt _ _ _ _ _))
  |intro _|apply aP
  |refine @aX (Nat×List F) _ (0,[]) (aP ?_ λ(x:Nat×List F)(hx:JO 3 m x.1 x.2/\True)=>?_)
  |refine @aX (Nat×List F×Nat×List F->Prop) _ (λb=>b.1=x.1) (@aX (Nat×List F×Nat×List F) _ (x.1,?_,0,x.2) (aP ?_ λ(y:Nat×List F×Nat×List F)(a:JI 3 m y.1 y.2.1 y.2.2.1 y.2.2.2/\True)(f:y.1=x.1)=>?_))
  |refine @aX (Nat×List F×Nat×List F) _ (y.1,y.2.1,y.2.2.1+1,?_) ?_
  |refine @aX (Nat×List F) _ (y.1+1,y.2.2.2) ?_
  |refine @aX (Nat×List F) _ (x.1+1,x.2) ?_
  |fail)
 all_goals(try clear d)
 all_goals(try simp only[bm,e_]at*)
 all_goals first| (with_reducible first|show Int|show List J|show List F|show Nat)|exact aZ|with_reducible rfl|omega|with_reducible exact VU h _|exact bF I|exact Nc h hk (.inl rfl) hx.1 I|rw[VV h hk (.inl rfl) hx.1 I rfl I]<;>rfl|exact VW h hk (.inl rfl) hx.1 I rfl rfl I I|simp only[bm,e_]at*;exact VY h hk (.inl rfl) hx.1 I rfl rfl I I I|simp only[bm,e_]at*;exact VZ h hk (.inl rfl) hx.1 I rfl rfl I I I|exact VR a.1 I|rw[VM a.1 I rfl I]<;>rfl|simp only[bm,e_]at*;exact VN a.1 I (.inl rfl) I|exact VO a.1 I|rw[V0 hx.1 I I]<;>rfl|rw[V1 hx.1 I I I]|(rw[V2 hx.1 I I I];first|done|rfl|exact hk)|have Z:=V4 hx.1;have i:=H9 h;simp only[be,bj,jw,lN,jC]at*;omega|have Z:=VT a.1;have i:=H9 h;have g3:=afo a.1;simp only[be,bj]at*;omega|rfl
def awu(m:F)(h:OF m)(hk:m.aM=4)(d:∀c∈m.aO,OF c->bh 33 [wE .aQ c] (eT .aQ (bS c))):bh 67 [wE .aQ m] (eT .aQ (iJ 4 m.aO [])):=by
 refine vG func67 rfl ⟨[uz Vw 33 (.el W.aQ) (λ(c:F)=>c∈m.aO/\OF c) (λ(c:F)=>eT .aQ (bS c)) (λc hc=>d c hc.1 hc.2)],[aet]⟩ [(6,⟨Nat×List F,λx=>⟨[(1,bQ 0),(2,bQ 1),(3,iT 0),(4,iT 1),(5,.e (.c (.cr 118 []))),(18,lT .aQ m.aO),(19,iT m.aO.length),(6,.e (.c (.aW 2 W.aQ x.2.length))),(20,iT x.1)],[(0,dh .aQ m),(1,dh .aQ zM),(2,.aU (U:=S) W.aQ x.2)],3⟩,λx=>JO 4 m x.1 x.2/\True,λx=>m.aO.length-x.1⟩),(1000017,⟨Nat×List F×Nat×List F,λx=>⟨[(1,bQ 0),(2,bQ 1),(3,iT 0),(4,iT 1),(5,.e (.c (.cr 118 []))),(18,lT .aQ m.aO),(19,iT m.aO.length),(6,.e (.c (.aW 2 W.aQ x.2.2.2.length))),(20,iT x.1),(44,lT .aQ x.2.1),(45,iT x.2.1.length),(46,iT x.2.2.1)],[(0,dh .aQ m),(1,dh .aQ zM),(2,.aU (U:=S) W.aQ x.2.2.2)],3⟩,λx=>JI 4 m x.1 x.2.1 x.2.2.1 x.2.2.2/\True,λx=>x.2.1.length-x.2.2.1⟩)] ?_;repeat' (first
  |exact(jk4 hk ‹(m.aM==4)=false›).elim
  |((with_reducible show mt _ _ _ _ _);(conv=>whnf);(fail_if_success with_reducible show mt _ _ _ _ _))
  |intro _|apply aP
  |refine @aX (Nat×List F) _ (0,[]) (aP ?_ λ(x:Nat×List F)(hx:JO 4 m x.1 x.2/\True)=>?_)
  |refine @aX (Nat×List F×Nat×List F->Prop) _ (λb=>b.1=x.1) (@aX (Nat×List F×Nat×List F) _ (x.1,?_,0,x.2) (aP ?_ λ(y:Nat×List F×Nat×List F)(a:JI 4 m y.1 y.2.1 y.2.2.1 y.2.2.2/\True)(f:y.1=x.1)=>?_))
  |refine @aX (Nat×List F×Nat×List F) _ (y.1,y.2.1,y.2.2.1+1,?_) ?_
  |refine @aX (Nat×List F) _ (y.1+1,y.2.2.2) ?_
  |refine @aX (Nat×List F) _ (x.1+1,x.2) ?_
  |fail)
 all_goals(try clear d)
 all_goals(try simp only[bm,e_]at*)
 all_goals first| (with_reducible first|show Int|show List J|show List F|show Nat)|exact aZ|with_reducible rfl|omega|with_reducible exact VU h _|exact bF I|exact Nc h hk (.inr rfl) hx.1 I|rw[VV h hk (.inr rfl) hx.1 I rfl I]<;>rfl|exact VW h hk (.inr rfl) hx.1 I rfl rfl I I|simp only[bm,e_]at*;exact VY h hk (.inr rfl) hx.1 I rfl rfl I I I|simp only[bm,e_]at*;exact VZ h hk (.inr rfl) hx.1 I rfl rfl I I I|exact VR a.1 I|rw[VM a.1 I rfl I]<;>rfl|simp only[bm,e_]at*;exact VN a.1 I (.inr rfl) I|exact VO a.1 I|rw[V0 hx.1 I I]<;>rfl|rw[V1 hx.1 I I I]|(rw[V2 hx.1 I I I];first|done|rfl|exact hk)|have Z:=V4 hx.1;have i:=H9 h;simp only[be,bj,jw,lN,jC]at*;omega|have Z:=VT a.1;have i:=H9 h;have g3:=afo a.1;simp only[be,bj]at*;omega|rfl
def of1{m:F}(h:(m.aM==1)=true):bS m=tM true:=by rw[Lc,aK (an h)]
def of2{m:F}(a:(m.aM==1)=false)(h:(m.aM==2)=true):bS m=dP m.aH m.bW:=by rw[Lc,g (an a),aK (an h)]
def of3{m:F}(h:m.aM=3\/m.aM=4):bS m=iJ m.aM m.aO []:=by
 rw[Lc];rcases h with e|e<;>rw[e,g ae,g ae]
 ·rw[aK rfl]
 ·rw[g ae,aK rfl]
def of0{m:F}(a:(m.aM==1)=false)(b:(m.aM==2)=false)(d:(m.aM==3)=false)(e:(m.aM==4)=false):bS m=tM false:=by rw[Lc,g (an a),g (an b),g (an d),g (an e)]
def ab_{m:F}(h:(m.aM==3)=true):m.aM=3\/m.aM=4:=.inl (an h)
def aca{m:F}(h:(m.aM==4)=true):m.aM=3\/m.aM=4:=.inr (an h)
def awv(m:F)(h:OF m)(hk:m.aM=3\/m.aM=4)(a:∀c∈m.aO,OF c->bh 33 [wE .aQ c] (eT .aQ (bS c))):bh 67 [wE .aQ m] (eT .aQ (iJ m.aM m.aO [])):=by
 rcases hk with e|e
 ·rw[e];exact awt m h e a
 ·rw[e];exact awu m h e a
def aA0(m:F):OF m->bh 33 [wE .aQ m] (eT .aQ (bS m)):=by
 generalize e:SizeOf.sizeOf m=D
 induction D using Nat.strongRecOn generalizing m
 rename_i D b;subst e;intro h;have a:∀n:F,n=m/\(m.aM=3\/m.aM=4)->bh 67 [wE .aQ n] (eT .aQ (iJ n.aM n.aO [])):=λn d=>by obtain⟨rfl,hk⟩:=d;exact awv n h hk λc hc=>b _ (F.lt hc) c rfl
 clear b;refine vF func33 rfl [ZQ,Ay,uz Vw 67 (.el W.aQ) (λ(n:F)=>n=m/\(m.aM=3\/m.aM=4)) (λ(n:F)=>eT .aQ (iJ n.aM n.aO [])) a] [] ?_;repeat' first|intro _|apply aP
 all_goals(try clear a)
 all_goals(try simp only[bm,e_]at*)
 all_goals first|exact aZ|with_reducible exact h.np (by simpa using‹(m.aM==2)=true›)|exact ab_ I|exact aca I|exact absurd ‹(m.aM==3)=true› (by rw[‹(m.aM==3)=false›];decide)|rw[of1 I];done|rw[of2 I I];done|rw[of3 (ab_ I)];done|rw[of3 (aca I)];done|rw[of0 I I I I];done
def CI:=dR (.el W.aQ) aA0
@[irreducible] def PQ(p:J)(lv:Int):=Sz 2 300 p/\1<=lv/\lv<=4
section
variable {p:J}{lv:Int}(h:PQ p lv)
include h
def yA:=(PQ.eq_1 ..).to_iff.1 h
def Cc:∃v:Nat,lv=(v:Int)/\1<=v/\v<=4:=by have u:=yA h;exact⟨lv.toNat,O,O,O⟩
def EC:cK p lv<=2:=by obtain⟨v,rfl,_,_⟩:=Cc h;exact(yA h).1.ub v
def Nz:ZL p lv:=by have u:=yA h;refine .of (u.1.cz O O) ?_;unfold lh;exact u.2
def EA:jt p lv:=.of (Nz h) (EC h)
def lH:(a_ p lv).length<=3/\∀c∈a_ p lv,GA lv c:=by obtain⟨v,rfl,b,a⟩:=Cc h;exact I3 b a (yA h).1 O (EC h)
def Wy:VP (a_ p lv):=by have Z:=lH h;unfold VP;exact⟨λc a=>(Z.2 c a).np,O⟩
def Ny{c:J}(a:(a_ p lv)[x]?=some c):GA lv c:=(lH h).2 c (bF a)
end
theorem GA.cz{lv:Int}{p:J}(h:GA lv p):CZ p:=h.sz.cz O O
def GA.mm{lv:Int}{p:J}(h:GA lv p):dF p (kP (-1)):=h.sz.mu (Sz.const (k:=1) 0 ae) O O
def GA.ng{lv:Int}{p:J}(h:GA lv p):bO (jl p):=by have:=h.sz.neg;exact this.np O O
def MD:bO zP:=(Sz.zero 0 1).np O O
def Nr{c:J}(h:bO (jO c))(r:Int):iF (dP c r):=by
 unfold dP;split
 ·unfold tM;split<;>exact .mk _ _ _ _ MD ai λc a=>by simp at a
 ·exact .mk _ _ _ _ h ai λc a=>by simp at a
def GA.sp{lv:Int}{p:J}(h:GA lv p):bO (jO p):=(h.sz.sn O O).np O O
def alB{lv:Int}(h:∀c∈Z,GA lv c)(a:Z.length<=1000000):iF (pJ Z):=by
 unfold pJ dA;refine .mk _ _ _ _ MD (an a) λc b=>?_
 obtain⟨d,e,rfl⟩:=cj.1 b;exact Nr (h d e).sp 3
def Wz{p:J}{lv:Int}(h:PQ p lv):iF (pJ (a_ p lv)):=alB (lH h).2 (by have:=(lH h).1;omega)
def RK(h:(r==1)=true):nC r:=.inl (an h)
def xG(h:(r==2)=true):nC r:=.inr (.inl (an h))
def RL(h:(r==5)=true):nC r:=.inr (.inr (.inl (an h)))
def RN(h:(r==6)=true):nC r:=.inr (.inr (.inr (an h)))
def K4(a:(r==1)=false)(b:(r==2)=false)(c:(r==5)=false)(d:(r==6)=false):¬nC r:=by have a:r≠1:=an a;have b:r≠2:=an b;have c:r≠5:=an c;have d:r≠6:=an d;unfold nC;omega
def bm4{p:J}{lv:Int}(a:(r==1)=false)(b:(r==2)=false)(c:(r==5)=false)(d:(r==6)=false)(e:(r==4)=true):pZ p r lv=dy (pJ (a_ p lv)):=by unfold pZ;rw[g (K4 a b c d),aK (an e)]
def bm3{p:J}{lv:Int}(a:(r==1)=false)(b:(r==2)=false)(c:(r==5)=false)(d:(r==6)=false)(e:(r==4)=false):pZ p r lv=pJ (a_ p lv):=by unfold pZ;rw[g (K4 a b c d),g (an e)]
def bm0{p:J}{lv:Int}(h:nC r)(a:(((a_ p lv).length:Int)==0)=true):pZ p r lv=dP zP r:=by have a:((a_ p lv).length:Int)=0:=an a;unfold pZ;rw[aK h,aK (fc O)]
def bm1{p:J}{lv:Int}(h:nC r)(a:(((a_ p lv).length:Int)==0)=false)(c:x+1<=(a_ p lv).length)(b:decide (((x+1:Nat):Int)<((a_ p lv).length:Int))=false):kD (a_ p lv) r x=pZ p r lv:=by have a:((a_ p lv).length:Int)≠0:=an a;simp only[bj]at b;unfold pZ;rw[aK h,g (λe=>a (by rw[e];rfl))];congr 1;omega
def apI{c:J}(a:Z[(0:Int).toNat]?=some c):dP c r=kD Z r 0:=by have a:Z[0]?=some c:=a;rw[kD,a];rfl
def apH{c:J}(a:Z[((x+1:Nat):Int).toNat]?=some c)(h:((((x+1:Nat):Int)).tmod 2==1)=true):qN Z (x+1)=jl c:=by rw[bI]at a;have h:(((x+1:Nat):Int)).tmod 2=1:=an h;rw[wJ O]at h;unfold qN;rw[aK O,a];rfl
def apG{c:J}(a:Z[((x+1:Nat):Int).toNat]?=some c)(h:((((x+1:Nat):Int)).tmod 2==1)=false):qN Z (x+1)=c:=by rw[bI]at a;have h:(((x+1:Nat):Int)).tmod 2≠1:=an h;rw[wJ O]at h;unfold qN;rw[g O,a];rfl
def X9(a:zJ0)(r:Int)(x:Nat):kD a r (x+1)=kY [dP (qN a (x+1)) (rk r),dA [dP (qN a (x+1)) 3,kD a r x]]:=by rw[kD]
def apC(p:J)(r lv:Int)(h:PQ p lv):bh 207 [wE .aH p,wI .i64 r,wI .i64 lv] (eT .aQ (pZ p r lv)):=by
 refine vF func207 rfl [Fs,ZR,Jm,Ay,Fu,ZN,Ax,Fw] [(14,⟨Nat,λx=>⟨[(1,iT r),(6,bQ 1),(7,lT .aH (a_ p lv)),(8,bQ 2),(9,iT ((x+1:Nat):Int))],[(1,dh .aQ zM),(2,.cells ((cQ .aQ (kD (a_ p lv) r x)).map .d))],3⟩,λx=>x+1<=(a_ p lv).length/\True,λx=>(a_ p lv).length-x⟩)] ?_;repeat' first|intro _|apply aP|refine aX 0 (aP ?_ λ(x:Nat) (a:x+1<=(a_ p lv).length/\True)=>?_)|refine aX (x+1) ?_
 all_goals(try simp only[bm,e_]at*)
 all_goals first|exact aZ|omega|((with_reducible show(_&&_)=true);kernel_rfl)| (with_reducible first|exact EA h|exact Wy h|exact Wz h)|rw[bm4 I I I I I]|rw[bm3 I I I I I]|exact MD|rw[bm0 (by first|exact RK I|exact xG I|exact RL I|exact RN I) I]<;>rfl|exact(Ny h I).np|rw[apI I]|exact(Ny h I).mm|exact(Ny h I).ng|rw[X9,apH I I]|rw[X9,apG I I]|simp only[lN,jC]at*;omega|have Z:=a.1;have b:=(lH h).1;simp only[be,bj,lN,jC]at*;omega|rw[bm1 (by first|exact RK I|exact xG I|exact RL I|exact RN I) I a.1 I]|rfl|exfalso;simp_all;done
def arZ:=vb (.el W.aH) (.int .i64) (.int .i64) apC
@[irreducible] def VQ(p:J)(lv:Int)(t:bi):=PQ p lv/\TG 300 lv t
section
variable {p:J}{lv:Int}{t:bi}(h:VQ p lv t)
include h
def nj:PQ p lv:=by unfold VQ at h;exact h.1
def j8:TG 300 lv t:=by unfold VQ at h;exact h.2
def WR:lv≠0:=by have:=yA (nj h);omega
def EM:∀c∈a_ p lv,SF 2 300 lv c:=by obtain⟨v,rfl,b,a⟩:=Cc (nj h);have co:=vz (yA (nj h)).1 O O b a;exact λc hc=>⟨co.sz c hc,co.yY c hc⟩
def oq{k:Nat}(hk:k<=2):qJ lv 4 700 2 700 4 700 (cq t (a_ p lv) k):=by
 have n:=WR h;have a:=j8 h;have s:=EM h;have:k=0\/k=1\/k=2:=O;rcases this with rfl|rfl|rfl
 ·exact(Hl n t _).up O O O O O O
 ·exact(Hm n a s).up O O O O O O
 ·exact(Hn n a s).up O O O O O O
def WQ{k:Nat}(hk:k<=3):qJ lv 6 1300 4 1300 6 1300 (cq t (a_ p lv) k):=by
 have n:=WR h;have a:=j8 h;have s:=EM h;by_cases b:k=3
 ·subst b;exact(Ux n a s).up O O O O O O
 ·exact(oq h (show k<=2 by omega)).up O O O O O O
section
variable {k:Nat}(hk:k≤2)
include hk
def ayq:dF (cq t (a_ p lv) k).u t.a:=(oq h hk).u.sz.mu (j8 h).a.sz O O
def ays:dF (cq t (a_ p lv) k).v t.a:=(oq h hk).v.sz.mu (j8 h).a.sz O O
def ayt:dF (cq t (a_ p lv) k).v t.b:=(oq h hk).v.sz.mu (j8 h).b.sz O O
def ayu:dF (bn (cq t (a_ p lv) k).v t.b) t.c:=((oq h hk).v.sz.mul (j8 h).b.sz).mu (j8 h).c.sz O O
def ayr:dF (cq t (a_ p lv) k).u t.b:=(oq h hk).u.sz.mu (j8 h).b.sz O O
def ayp:dF (cq t (a_ p lv) k).pw t.d:=(oq h hk).p.sz.mu (j8 h).d.sz O O
def aym{c:J}(hc:c∈a_ p lv):dF c (cq t (a_ p lv) k).pw:=(EM h c hc).sz.mu (oq h hk).p.sz O O
def am9:jh (bn (cq t (a_ p lv) k).u t.a) (bn (bn (cq t (a_ p lv) k).v t.b) t.c):=by have a:=(oq h hk).u.sz.mul (j8 h).a.sz;have b:=((oq h hk).v.sz.mul (j8 h).b.sz).mul (j8 h).c.sz;unfold jh;exact⟨_,_,_,_,a,b,O,O,O,O⟩
def am_:jh (bn (cq t (a_ p lv) k).v t.a) (bn (cq t (a_ p lv) k).u t.b):=by have a:=(oq h hk).v.sz.mul (j8 h).a.sz;have b:=(oq h hk).u.sz.mul (j8 h).b.sz;unfold jh;exact⟨_,_,_,_,a,b,O,O,O,O⟩
def ana{c:J}(hc:c∈a_ p lv):jh (bn (cq t (a_ p lv) k).u t.a) (bn c (cq t (a_ p lv) k).pw):=by have a:=(oq h hk).u.sz.mul (j8 h).a.sz;have b:=(EM h c hc).sz.mul (oq h hk).p.sz;unfold jh;exact⟨_,_,_,_,a,b,O,O,O,O⟩
def anb{c:J}(hc:c∈a_ p lv):jh (lK (bn (cq t (a_ p lv) k).u t.a) (bn (bn (cq t (a_ p lv) k).v t.b) t.c)) (bn c (cq t (a_ p lv) k).pw):=by have a:=((oq h hk).u.sz.mul (j8 h).a.sz).add (((oq h hk).v.sz.mul (j8 h).b.sz).mul (j8 h).c.sz);have b:=(EM h c hc).sz.mul (oq h hk).p.sz;unfold jh;exact⟨_,_,_,_,a,b,O,O,O,O⟩
end
def ayn{k:Nat}(hk:k<=3):dF (cq t (a_ p lv) k).u t.d:=(WQ h hk).u.sz.mu (j8 h).d.sz O O
def ayo{k:Nat}(hk:k<=3):dF (cq t (a_ p lv) k).v t.d:=(WQ h hk).v.sz.mu (j8 h).d.sz O O
def arS:CS t.b:=((j8 h).b.sz.cz O O).cs
end
def aG1{t:bi}{cs:zJ0}{k:Nat}{c:J}(hk:k<cs.length)(hc:cs[((cs.length:Int)-1-(k:Int)).toNat]?=some c):cq t cs (k+1)=kw t c (decide (cs.length-1-k=0)) (cq t cs k):=by have e:((cs.length:Int)-1-(k:Int)).toNat=cs.length-1-k:=O;rw[e]at hc;rw[cq,hc];rfl
section
variable {t:bi}{cs:zJ0}{k:Nat}{c:J}(hi:decide (0≤(cs.length:Int)-1-(k:Int))=true)(hc:cs[((cs.length:Int)-1-(k:Int)).toNat]?=some c)
include hi hc
def DZ:cq t cs (k+1)=kw t c (decide (cs.length-1-k=0)) (cq t cs k):=aG1 (by simp only[be]at hi;omega) hc
def aG5(a:(!bM t.b)=true):(cq t cs (k+1)).u=lK (lK (bn (cq t cs k).u t.a) (bn (bn (cq t cs k).v t.b) t.c)) (bn c (cq t cs k).pw):=by rw[DZ hi hc];unfold kw;rw[g (an a)]
def aG4(a:(!bM t.b)=false):(cq t cs (k+1)).u=lK (bn (cq t cs k).u t.a) (bn c (cq t cs k).pw):=by rw[DZ hi hc];unfold kw;rw[aK (an a)]
def aG7(a:(!bM t.b)=true):(cq t cs (k+1)).v=lK (bn (cq t cs k).v t.a) (bn (cq t cs k).u t.b):=by rw[DZ hi hc];unfold kw;show(if bM t.b=true then _ else _)=_;rw[g (an a)]
def aG6(a:(!bM t.b)=false):(cq t cs (k+1)).v=bn (cq t cs k).v t.a:=by rw[DZ hi hc];unfold kw;show(if bM t.b=true then _ else _)=_;rw[aK (an a)]
def aG3(a:decide (0<(cs.length:Int)-1-(k:Int))=true):(cq t cs (k+1)).pw=bn (cq t cs k).pw t.d:=by simp only[be]at a;rw[DZ hi hc];unfold kw;rw[s_ O];rfl
def aG2(a:decide (0<(cs.length:Int)-1-(k:Int))=false):(cq t cs (k+1)).pw=(cq t cs k).pw:=by have b:=eD hi;simp only[bj]at a;rw[DZ hi hc];unfold kw;rw[qP O];rfl
end
def Qb{n:Int}(h:n.natAbs<=4):Sm (iD n).aF:=by have e:pB 1=4294967296:=ae;have:=qV (n:=n) (k:=1) O;unfold Sm;omega
def F7(n:Int):kP (iV ⟨(iD n).neg,(iD n).aF⟩)=kP n:=aY kP (il n)
def aja(t:bi)(cs:zJ0):(kP (iV ⟨(iD 1).neg,(iD 1).aF⟩)).neg=(cq t cs 0).pw.neg/\(kP (iV ⟨(iD 1).neg,(iD 1).aF⟩)).aF=(cq t cs 0).pw.aF:=by rw[F7];exact⟨rfl,rfl⟩
def Uy{cs:zJ0}{k:Nat}(hk:k<=cs.length)(h:decide (0<=(cs.length:Int)-1-(k:Int))=false):k=cs.length:=by simp only[bj]at h;omega
def aGK{p:J}{lv:Int}{t:bi}(a:decide (0<((a_ p lv).length:Int))=true)(b:((((a_ p lv).length:Int).tmod 2)==0)=true):dW p lv t=(bn (cq t (a_ p lv) (a_ p lv).length).u t.d,bn (cq t (a_ p lv) (a_ p lv).length).v t.d):=by have a:=eD a;have b:((a_ p lv).length:Int).tmod 2=0:=an b;rw[wJ O]at b;unfold dW;rw[aK ⟨λe=>by rw[e]at a;exact absurd a ae,O⟩]
def aGL{p:J}{lv:Int}{t:bi}(a:((((a_ p lv).length:Int).tmod 2)==0)=false):dW p lv t=((cq t (a_ p lv) (a_ p lv).length).u,(cq t (a_ p lv) (a_ p lv).length).v):=by have a:((a_ p lv).length:Int).tmod 2≠0:=an a;rw[wJ O]at a;unfold dW;rw[g (λe=>a O)]
def aGM{p:J}{lv:Int}{t:bi}(a:decide (0<((a_ p lv).length:Int))=false):dW p lv t=((cq t (a_ p lv) (a_ p lv).length).u,(cq t (a_ p lv) (a_ p lv).length).v):=by have a:=fg a;unfold dW;rw[g (λe=>e.1 (fc O))]
def aGP(p:J)(lv:Int)(t:bi)(h:VQ p lv t):bh 255 [wE .aH p,wI .i64 lv,wE .ee t] (tT [.agg ((cQ .aH (dW p lv t).1).map .d),.agg ((cQ .aH (dW p lv t).2).map .d)]):=by
 refine vF func255 rfl [Fs,uA,OM,Aw,arU,CE] [(4,⟨Nat,λx=>⟨[(5,bQ 1),(6,bQ 2),(7,bQ 3),(8,lT .aH (a_ p lv)),(9,bQ 4),(10,iT (((a_ p lv).length:Int)-1-(x:Int)))],[(1,dh .ee t),(2,.cells ((cQ .aH (cq t (a_ p lv) x).u).map .d)),(3,.cells ((cQ .aH (cq t (a_ p lv) x).v).map .d)),(4,.cells ((cQ .aH (cq t (a_ p lv) x).pw).map .d))],5⟩,λx=>x<=(a_ p lv).length/\True,λx=>(a_ p lv).length-x⟩)] ?_;repeat' first|intro _|apply aP|refine aX 0 (aP ?_ λ(x:Nat) (a:x<=(a_ p lv).length/\True)=>?_)|refine aX (x+1) ?_
 all_goals(try simp only[bm,e_]at*)
 all_goals first|exact aZ|omega|((with_reducible show(_&&_)=true);kernel_rfl)| (with_reducible first|exact EA (nj h)|exact arS h)|with_reducible exact ayq h (by have Z:=(lH (nj h)).1;have b:=a.1;simp only[be]at*;omega)|with_reducible exact ays h (by have Z:=(lH (nj h)).1;have b:=a.1;simp only[be]at*;omega)|with_reducible exact ayt h (by have Z:=(lH (nj h)).1;have b:=a.1;simp only[be]at*;omega)|with_reducible exact ayu h (by have Z:=(lH (nj h)).1;have b:=a.1;simp only[be]at*;omega)|with_reducible exact ayr h (by have Z:=(lH (nj h)).1;have b:=a.1;simp only[be]at*;omega)|with_reducible exact ayp h (by have Z:=(lH (nj h)).1;have b:=a.1;simp only[be]at*;omega)|with_reducible exact am9 h (by have Z:=(lH (nj h)).1;have b:=a.1;simp only[be]at*;omega)|with_reducible exact am_ h (by have Z:=(lH (nj h)).1;have b:=a.1;simp only[be]at*;omega)|with_reducible exact aym h (by have Z:=(lH (nj h)).1;have b:=a.1;simp only[be]at*;omega) (bF I)|with_reducible exact ana h (by have Z:=(lH (nj h)).1;have b:=a.1;simp only[be]at*;omega) (bF I)|with_reducible exact anb h (by have Z:=(lH (nj h)).1;have b:=a.1;simp only[be]at*;omega) (bF I)|with_reducible exact ayn h (by have Z:=(lH (nj h)).1;have b:=a.1;omega)|with_reducible exact ayo h (by have Z:=(lH (nj h)).1;have b:=a.1;omega)|exact Qb ae|exact fA _ _ I|exact(aja _ _).1|exact(aja _ _).2|rw[aG5 I I I]|rw[aG4 I I I]|rw[aG7 I I I]|rw[aG6 I I I]|rw[aG3 I I I]|rw[aG2 I I I]|have e:=Uy a.1 I;subst e;rw[aGK I I]|have e:=Uy a.1 I;subst e;rw[aGL I]|have e:=Uy a.1 I;subst e;rw[aGM I]|have Z:=(lH (nj h)).1;have b:=a.1;simp only[be,bj]at*;omega|rfl
def asU:=vb (.el W.aH) (.int .i64) (.el W.ee) aGP
def auq:fh prog 66:=fH func66 af rfl
def aug:fh prog 256:=fH func256 af rfl
def auh:fh prog 257:=fH func257 af rfl
def aui:fh prog 258:=fH func258 af rfl
def JX{l r:List (Nat×aV S)}{b:aV S}(h:bX l x=some b):bX (l++r) x=some b:=by
 induction l with
 |nil=>cases h
 |cons p l a=>
  obtain⟨t,c⟩:=p;rw[ei];unfold bX at h⊢;split at h
  ·exact h
  ·exact a h
def Me(l r:List (Nat×aV S)):Md l (l++r):=λs b h=>JX h
def agI(H:List (Nat×aV S))(args:zS0)(K:f_ S->Prop):Prop:=
 match H,args with
 |[],[.agg [.d (.sc (.int .i64 l)),.d (.b8 n),.d (.bf W.u32 a),.d (.bf W.aH b)],.c (.d (.sc (.int .i64 r)))]=>bO (.mk l n a b)/\K ⟨eT .aQ (dP (.mk l n a b) r),[],[],[]⟩
 |_,_=>False
def Rm:fk prog S where
 f:=66
 fX:=auq
 run:=agI
 ok H args K h:=by
  unfold agI at h;split at h
  ·rename_i l n a e r;obtain⟨d,c⟩:=h;refine⟨_,?_,λu b i=>?_,c⟩
   ·have:=XS (.mk l n a e) r d;exact this.fK λu b=>absurd b.1 (l6 _)
   ·exact absurd b (l6 _)
  ·cases h
def aou(u v w:J)(h:bO w/\dF u v/\bO (bn u v)):cN prog 256 (bJ (bP (U:=S) [(0,.cells [.cr 66 []]),(1,.cells ((cQ .aH w).map .d)),(2,.cells ((cQ .aH u).map .d)),(3,.cells ((cQ .aH v).map .d))])) (([.c (.ptr 0 0),.c (.ptr 1 0),.c (.ptr 2 0),.c (.ptr 3 0)]:zS0).map SE.den) (bJ (bP (U:=S) [(0,.cells [.cr 66 []]),(1,.cells ((cQ .aH w).map .d)),(2,.cells ((cQ .aH u).map .d)),(3,.cells ((cQ .aH v).map .d))])) (·∈[0,1,2,3]) (eT .aQ (qT u v w)).den:=by
 refine DY (V:=Vw) (reg:=⟨[Ax,Fw,Aw],[Rm]⟩) (ls:=[]) (aN:=[0,1,2,3]) (τ:=⟨[(4,.e (.c (.ptr 4 0)))],[(0,.cells [.cr 66 []]),(1,.cells ((cQ .aH w).map .d)),(2,.cells ((cQ .aH u).map .d)),(3,.cells ((cQ .aH v).map .d))]++[(4,.cells ((cQ .aQ (qT u v w)).map .d))],5⟩) mixed func256 rfl af (ic rfl) rfl rfl rfl rfl (Me _ _) ?_;repeat' first|intro _|apply aP
 all_goals(try simp only[bm,e_]at*)
 all_goals first|exact aZ|((with_reducible show(_&&_)=true);kernel_rfl)|exact h.1|exact h.2.1|exact h.2.2|rfl
def aov(u v w:J)(h:bO w/\bO u/\bO v):cN prog 257 (bJ (bP (U:=S) [(0,.cells [.cr 66 []]),(1,.cells ((cQ .aH w).map .d))])) (([.agg ((cQ .aH u).map .d),.agg ((cQ .aH v).map .d),.c (.ptr 0 0),.c (.ptr 1 0)]:zS0).map SE.den) (bJ (bP (U:=S) [(0,.cells [.cr 66 []]),(1,.cells ((cQ .aH w).map .d))])) (·∈[0,1]) (eT .aQ (tC u v w)).den:=by
 refine DY (V:=Vw) (reg:=⟨[Ax,Fw,Aw],[Rm]⟩) (ls:=[]) (aN:=[0,1]) (τ:=⟨[(6,.e (.c (.ptr 4 0)))],[(0,.cells [.cr 66 []]),(1,.cells ((cQ .aH w).map .d))]++[(4,.cells ((cQ .aQ (tC u v w)).map .d))],5⟩) mixed func257 rfl af (ic rfl) rfl rfl rfl rfl (Me _ _) ?_;repeat' first|intro _|apply aP
 all_goals(try simp only[bm,e_]at*)
 all_goals first|exact aZ|((with_reducible show(_&&_)=true);kernel_rfl)|exact h.1|exact h.2.1|exact h.2.2|rfl
def aow(u v w:J)(h:bO w/\bO u/\bO v):cN prog 258 (bJ (bP (U:=S) [(0,.cells [.cr 66 []]),(1,.cells ((cQ .aH w).map .d))])) (([.agg ((cQ .aH u).map .d),.agg ((cQ .aH v).map .d),.c (.ptr 0 0),.c (.ptr 1 0)]:zS0).map SE.den) (bJ (bP (U:=S) [(0,.cells [.cr 66 []]),(1,.cells ((cQ .aH w).map .d))])) (·∈[0,1]) (eT .aQ (tB u v w)).den:=by
 refine DY (V:=Vw) (reg:=⟨[Ax,Fw,Aw],[Rm]⟩) (ls:=[]) (aN:=[0,1]) (τ:=⟨[(6,.e (.c (.ptr 4 0)))],[(0,.cells [.cr 66 []]),(1,.cells ((cQ .aH w).map .d))]++[(4,.cells ((cQ .aQ (tB u v w)).map .d))],5⟩) mixed func258 rfl af (ic rfl) rfl rfl rfl rfl (Me _ _) ?_;repeat' first|intro _|apply aP
 all_goals(try simp only[bm,e_]at*)
 all_goals first|exact aZ|((with_reducible show(_&&_)=true);kernel_rfl)|exact h.1|exact h.2.1|exact h.2.2|rfl
