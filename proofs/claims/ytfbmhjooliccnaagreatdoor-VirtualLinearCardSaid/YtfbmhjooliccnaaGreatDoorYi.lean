/- A part of the proof of VirtualLinear: Nm to Xa. No condition. -/
import Derived.Test.YtfbmhjooliccnaaGreatDoorYg
import Derived.Lib.BitFns
set_option linter.all false
set_option maxRecDepth 100000
set_option maxHeartbeats 60000000
noncomputable section
namespace Go.Proofs.YtfbmhjooliccnaaGreatDoor
open Go Go.Ab Go.Proofs.Tryz
variable {l a:ao}{n L:Nat}{d r:Int}{x y:aY}{X:List aY}{U:List J}{p:J}
def nV:List Int->Int
 |[]=>0
 |d::l=>d+4294967296*nV l
def pB(n:Nat):Int:=4294967296^n
def DK:pB 0=1:=rfl
def lr(n:Nat):pB (n+1)=4294967296*pB n:=by unfold pB;rw[Int.pow_succ,iy]
theorem mf:∀n,0<pB n
 |0=>by decide
 |n+1=>by rw[lr];have:=mf n;omega
theorem G6(m:Nat):∀n,pB (m+n)=pB m*pB n
 |0=>by rw[DK,Int.mul_one];rfl
 |n+1=>by rw[<-xd,lr,lr,G6 m n,vh]
theorem uJ(b:ao):∀a:List Int,nV (a++b)=nV a+pB a.length*nV b
 |[]=>by simp[nV,DK]
 |d::a=>by rw[eB,nV,nV,uJ b a,fZ,lr,qM,kU];omega
def Dg.cons(h:Dg (d::l)):b5 d/\Dg l:=⟨h d (b6 ..),λx a=>h x (cv _ a)⟩
def Dg.nil:Dg []:=λ_ h=>by cases h
def Dg.mk(h:b5 d)(b:Dg l):Dg (d::l):=λx a=>by rcases da.1 a with rfl|a;exact h;exact b x a
def Dg.Jb(h:Dg a)(c:Dg l):Dg (a++l):=λx d=>(cq.1 d).elim (h x) (c x)
theorem Dg.take{a:ao}(h:Dg a)(n:Nat):Dg (a.take n):=λx b=>h x (nE b)
theorem Dg.drop{a:ao}(h:Dg a)(n:Nat):Dg (a.drop n):=λx b=>h x (ID b)
def Dg.Ep(n:Nat):Dg (List.replicate n 0):=λx a=>by rw[rI a];exact Gw
theorem Dg.set{a:ao}(h:Dg a)(n:Nat){x:Int}(c:b5 x):Dg (a.set n x):=λy b=>by
 rcases EO b with d|rfl
 ·exact h y d
 ·exact c
theorem iH:∀{l:ao},Dg l->0<=nV l/\nV l<pB l.length
 |[],_=>by decide
 |d::l,h=>by have b:=iH h.cons.2;have a:=h.cons.1;rw[cD]at a;rw[nV,fZ,lr];omega
def iZ(h:Dg l):0<=nV l:=(iH h).1
theorem zt:∀n,nV (List.replicate n 0)=0
 |0=>rfl
 |n+1=>by rw[vp,nV,zt n];rfl
def zr(l:ao)(n:Nat):nV l=nV (l.take n)+pB (l.take n).length*nV (l.drop n):=by have:=uJ (l.drop n) (l.take n);rw[o0]at this;exact this
theorem tz:∀{l:ao}{n:Nat}{x y:Int},l[n]?=some y->nV (l.set n x)=nV l+(x-y)*pB n
 |[],n,x,y,h=>by simp at h
 |d::l,0,x,y,h=>by simp only[kg,cS]at h;subst h;rw[xc,nV,nV,DK];omega
 |d::l,n+1,x,y,h=>by rw[B5]at h;rw[IF,nV,nV,tz h,lr,qM,vh 4294967296];omega
def lj(l:ao):=l.getLast?≠some 0
theorem Um(l:ao):∀k,k<=l.length->(∀j,jP l k<=j->j<k->l[j]?=some 0)/\(jP l k=0\/l[jP l k-1]? ≠some 0)
 |0,_=>⟨λj _ h=>O,.inl rfl⟩
 |k+1,d=>by
  rw[jP];by_cases h:l[k]?=some 0
  ·rw[aM h];have a:=Um l k O;refine⟨λj b c=>?_,a.2⟩;by_cases e:j=k
   ·rw[e];exact h
   ·exact a.1 j b O
  ·rw[Z h];exact⟨λj b c=>O,.inr h⟩
def Uy(l:ao):l=aT l++List.replicate (l.length-(aT l).length) 0:=by
 have h:=(Um l l.length (bK _)).1;have b:=MS l l.length;have hlen:(aT l).length=jP l l.length:=by simp[aT];omega
 rw[hlen];have e:l.drop (jP l l.length)=List.replicate (l.length-jP l l.length) 0:=by
  apply vj;intro j;rw[nD,yA];by_cases a:j<l.length-jP l l.length
  ·rw[aM a];exact h _ O O
  ·rw[Z a,iM O]
 rw[<-e,aT,o0]
def i_(l:ao):nV (aT l)=nV l:=by have:=bi nV (Uy l);rw[uJ,zt,Af,BX]at this;exact this.symm
def wg(l:ao):lj (aT l):=by
 unfold lj;have h:=(Um l l.length (bK _)).2;have a:=MS l l.length;rw[aT,rJ];rcases h with h|h
 ·rw[h];simp
 ·rw[gw,kC a,sO];split
  ·exact h
  ·simp
def RS:lj []:=by simp[lj]
def Lx(h:lj (d::l)):lj l:=by
 unfold lj at*;cases l with
 |nil=>simp
 |cons e l=>simpa[List.getLast?_cons_cons]using h
def Ux(h:lj l):aT l=l:=by
 have e:=Uy l;by_cases a:l.length-(aT l).length=0
 ·have:=ml l;rw[a,NP,lB]at e;exact e.symm
 ·exfalso;obtain⟨k,a⟩:∃k,l.length-(aT l).length=k+1:=⟨l.length-(aT l).length-1,O⟩;rw[a]at e;apply h;rw[e,List.replicate_succ',<-gM,List.getLast?_append];simp
theorem Lr:∀{a b:ao},Dg a->Dg b->lj a->lj b->nV a=nV b->a=b
 |[],[],_,_,_,_,_=>rfl
 |[],e::b,k,j,i,g,h=>by
  exfalso;have c:=j.cons;have f:=iZ c.2;rw[cD]at c;rw[nV,nV]at h;have:=Lr (a:=[]) (b:=b) Dg.nil c.2 RS (Lx g) (by rw[nV];omega);subst this;have:e=0:=by rw[nV]at h;omega
  subst this;exact g rfl
 |d::a,[],k,j,i,g,h=>by
  exfalso;have c:=k.cons;have f:=iZ c.2;rw[cD]at c;rw[nV,nV]at h;have:=Lr (a:=a) (b:=[]) c.2 Dg.nil (Lx i) RS (by rw[nV];omega);subst this;have:d=0:=by rw[nV]at h;omega
  subst this;exact i rfl
 |d::a,e::b,k,j,i,g,h=>by have c:=k.cons;have f:=j.cons;have n:=iZ c.2;have m:=iZ f.2;rw[cD]at c f;rw[nV,nV]at h;have l:d=e:=O;have:=Lr (a:=a) (b:=b) c.2 f.2 (Lx i) (Lx g) O;rw[l,this]
def cT(n:Nat):List Int:=if h:n=0 then []else((n%4294967296:Nat):Int)::cT (n/4294967296)
termination_by n
decreasing_by omega
def uu:cT 0=[]:=by rw[cT];rfl
def JY(h:n≠0):cT n=((n%4294967296:Nat):Int)::cT (n/4294967296):=by rw[cT,dif_neg h]
def pd(n:Nat):Dg (cT n)/\nV (cT n)=n/\lj (cT n):=by
 induction n using Nat.strongRecOn with
 |_ n d=>
  by_cases h:n=0
  ·subst h;rw[uu];exact⟨Dg.nil,rfl,RS⟩
  ·rw[JY h];obtain⟨f,e,c⟩:=d (n/4294967296) O;refine⟨Dg.mk (cD.2 ⟨O,O⟩) f,by rw[nV,e];omega,?_⟩;unfold lj;by_cases b:n/4294967296=0
   ·rw[b,uu,List.getLast?_singleton];intro a;injection a with a;omega
   ·rw[JY b]at c⊢;rw[List.getLast?_cons_cons];exact c
def s9(h:Dg l):aT l=cT (nV l).toNat:=by have a:=pd (nV l).toNat;have:=iZ h;exact Lr h.fe a.1 (wg l) a.2.2 (by rw[i_,a.2.1];omega)
def atg(h:Dg l)(a:lj l):l=cT (nV l).toNat:=by rw[<-s9 h,Ux a]
def ur{n k:Nat}(h:(n:Int)<pB k):(cT n).length<=k:=by
 induction k generalizing n with
 |zero=>rw[DK]at h;have:n=0:=by omega
        subst this;rw[uu];exact bK _
 |succ k b=>
  by_cases a:n=0
  ·subst a;rw[uu];exact dz _
  ·rw[JY a,fZ];have:=b (n:=n/4294967296) (by rw[lr]at h;omega);omega
def C1(n:Nat):aT (cT n)=cT n:=Ux (pd n).2.2
def iV(x:aY):Int:=if x.neg then-nV x.aC else nV x.aC
def iD(n:Int):aY:=⟨decide (n<0),cT n.natAbs⟩
def fU(n:Int):iV (iD n)=n:=by
 unfold iV iD;rw[(pd _).2.1];by_cases h:n<0
 ·rw[aM (an h)];omega
 ·rw[Z (an h)];omega
def iv(n:Int):Dg (iD n).aC:=(pd _).1
def adW(h:Dg l)(a:lj l)(b:nV l=0):l=[]:=by have:=atg h a;rw[b]at this;rw[this];exact uu
def ya{b:Bool}(h:Dg l):iL b (aT l)=iD (if b then-nV l else nV l):=by
 unfold iL iD;have g:=iZ h;have e:(if b=true then-nV l else nV l).natAbs=(nV l).toNat:=by split<;>omega
 rw[e,<-s9 h];congr 1;by_cases a:nV l=0
 ·have:aT l=[]:=adW h.fe (wg l) (by rw[i_];exact a);rw[this,a];simp
 ·have d:0<(aT l).length:=by apply IQ;intro f;have:aT l=[]:=fR f;have c:=i_ l;rw[this]at c;exact a c.symm
  cases b
  ·simp;omega
  ·simp[d];omega
def wi(h:Dg x.aC):jE x=iD (iV x):=by unfold jE iV;exact ya h
theorem adT{A B:ao}(i:Dg A)(g:Dg B):∀k,nV ((List.range k).map (pc A B))+pB k*lL A B k=nV (A.take k)+nV (B.take k)
 |0=>by simp[nV,Yb]
 |k+1=>by
  have n:=adT i g k;have d:∀(l:ao),nV (l.take (k+1))=nV (l.take k)+pB k*(l[k]?).getD 0:=λl=>by
   rw[fy,uJ];by_cases h:k<l.length
   ·rw[gw,kC O];congr 1;rw[cN h];simp[nV]
   ·rw[iM O];simp[nV]
  rw[d,d,sP,ia,uJ,eh,oY,Jq,lr];have e:nV ([k].map (pc A B))=((A[k]?).getD 0+(B[k]?).getD 0+lL A B k)%4294967296:=by simp[nV,pc]
  rw[e];generalize(A[k]?).getD 0=a at*;generalize(B[k]?).getD 0=b at*;generalize lL A B k=c at*;have m:a+b+c=(a+b+c)%4294967296+4294967296*((a+b+c)/4294967296):=O;generalize(a+b+c)%4294967296=r at*;generalize(a+b+c)/4294967296=q at*;generalize pB k=p at*;generalize nV ((List.range k).map (pc A B))=z at*;have f:p*(a+b+c)=p*(r+4294967296*q):=by rw[m]
  rw[qM,qM,qM]at f;have j:p*(4294967296*q)=4294967296*p*q:=by rw[<-kU,iy p]
  rw[j]at f;omega
def aBb{B:ao}(a:Dg l)(b:Dg B)(c:B.length<=l.length):nV (qV l B)=nV l+nV B:=by have h:=adT a b l.length;rw[im,eL c]at h;unfold qV;rw[uJ,eh,oY];simp only[nV,Af,BX];exact h
theorem Dg.qV{A B:ao}(c:Dg A)(b:Dg B):Dg (qV A B):=by
 refine Dg.Jb (λx a=>?_) (Dg.mk ?_ Dg.nil)
 ·obtain⟨k,_,rfl⟩:=b_.1 a;unfold pc;rw[cD];omega
 ·have:=Jp c b A.length;rw[cD];omega
def ana{b:ao}(c:Dg a)(d:Dg b):vt a b=cT (nV a+nV b).toNat:=by
 have e:=Re c.fe d.fe;have f:=TK c.fe d.fe;unfold vt;rw[s9 (Dg.qV e f),aBb e f (ade _ _)];have:nV (qk (aT a) (aT b))+nV (u5 (aT a) (aT b))=nV a+nV b:=by unfold qk u5;split<;>rw[i_,i_]<;>omega
 rw[this]
theorem adU{A B:ao}(g:Dg A)(f:Dg B):∀k,nV ((List.range k).map (pe A B))-pB k*lJ A B k=nV (A.take k)-nV (B.take k)
 |0=>by simp[nV,XF]
 |k+1=>by
  have s:=adU g f k;have d:∀(l:ao),nV (l.take (k+1))=nV (l.take k)+pB k*(l[k]?).getD 0:=λl=>by
   rw[fy,uJ];by_cases h:k<l.length
   ·rw[gw,kC O];congr 1;rw[cN h];simp[nV]
   ·rw[iM O];simp[nV]
  have o:=rY g k;have n:=rY f k;have t:=OD A B k;rw[cD]at o n;rw[d,d,sP,ia,uJ,eh,oY,Jg,lr];have e:nV ([k].map (pe A B))=((A[k]?).getD 0-(B[k]?).getD 0-lJ A B k)%4294967296:=by simp[nV,pe]
  rw[e];generalize(A[k]?).getD 0=a at*;generalize(B[k]?).getD 0=b at*;generalize lJ A B k=c at*;have m:a-b-c=(a-b-c)%4294967296-4294967296*(if a<b+c then 1 else 0):=by split<;>omega
  generalize(a-b-c)%4294967296=r at*;generalize(if a<b+c then(1:Int)else 0)=q at*;generalize pB k=p at*;generalize nV ((List.range k).map (pe A B))=z at*;have i:p*(a-b-c)=p*(r-4294967296*q):=by rw[m]
  rw[EC,EC,EC]at i;have j:p*(4294967296*q)=4294967296*p*q:=by rw[<-kU,iy p]
  rw[j]at i;omega
theorem YB{A B:ao}(e:Dg A)(d:Dg B):∀k,k<=A.length->k<=B.length->o_ A B k=if nV (A.take k)<nV (B.take k)then-1 else if nV (B.take k)<nV (A.take k)then 1 else 0
 |0,_,_=>by simp[o_]
 |k+1,m,j=>by
  have i:=YB e d k O O;have c:∀(l:ao),k<l.length->nV (l.take (k+1))=nV (l.take k)+pB k*(l[k]?).getD 0:=λl h=>by rw[fy,uJ,gw,kC O];congr 1;rw[cN h];simp[nV]
  rw[o_,i,c A m,c B j];have o:=iH (e.take k);have n:=iH (d.take k);rw[gw,kC O]at o n;have p:=mf k;generalize nV (A.take k)=x at*;generalize nV (B.take k)=y at*;generalize(A[k]?).getD 0=a at*;generalize(B[k]?).getD 0=b at*;rcases Int.lt_trichotomy a b with h|h|h
  ·have:pB k*(a+1)<=pB k*b:=sH O O;rw[qM]at this;rw[aM h,aM O]
  ·subst h;rw[Z (show¬a<a by omega),Z (show¬a<a by omega)];by_cases g:x<y
   ·rw[aM g,aM O]
   ·rw[Z g,Z (show¬x+pB k*a<y+pB k*a by omega)];by_cases f:y<x
    ·rw[aM f,aM O]
    ·rw[Z f,Z O]
  ·have:pB k*(b+1)<=pB k*a:=sH O O;rw[qM]at this;rw[Z O,aM h,Z O,aM O]
def GX(h:Dg l)(d:lj l)(i:0<l.length):pB (l.length-1)<=nV l:=by
 obtain⟨n,c⟩:∃n,l.length=n+1:=⟨l.length-1,O⟩;have e:=zr l n;rw[gw,kC O]at e;have j:=iH (h.take n);have f:l.drop n=[l[n]' O]:=by rw[kB O,mU O]
 have a:l[n]' O≠0:=by intro g;apply d;rw[rJ,c,yE,cN O,g]
 have b:=h (l[n]' O) (tZ _);rw[cD]at b;rw[f]at e;simp only[nV,Af,BX]at e;rw[c,yE];have:pB n*1<=pB n*l[n]:=sH O (by have:=mf n;omega);omega
def zz(h:L<=n):pB L<=pB n:=by obtain⟨k,rfl⟩:∃k,n=L+k:=⟨n-L,O⟩;rw[G6];have a:=mf L;have b:=mf k;have:pB L*1<=pB L*pB k:=sH O O;omega
def Az(j:Dg a)(k:Dg l):ir a l=if nV a<nV l then-1 else if nV l<nV a then 1 else 0:=by
 unfold ir;have g:=i_ a;have h:=i_ l;have m:=wg a;have n:=wg l;have c:=j.fe;have d:=k.fe;have o:=iH c;have p:=iH d;rw[<-g,<-h];clear g h;generalize aT a=A at*;generalize aT l=B at*;by_cases f:A.length<B.length
 ·have:=GX d n O;have:=zz (show A.length<=B.length-1 by omega);rw[aM f,aM O]
 ·by_cases i:B.length<A.length
  ·have:=GX c m O;have:=zz (show B.length<=A.length-1 by omega);rw[Z f,aM i,Z O,aM O]
  ·have e:A.length=B.length:=by omega
   rw[Z f,Z i,YB c d _ (bK _) O,im,eL O]
theorem Dg.oO{A B:ao}:Dg (oO A B):=by intro x a;obtain⟨k,_,rfl⟩:=b_.1 a;unfold pe;rw[cD];omega
def aif{b:ao}(f:Dg a)(g:Dg b)(h:nV b<=nV a):qD a b=cT (nV a-nV b).toNat:=by
 have j:=Az f g;have i:¬ir a b<0:=by rw[j,Z O];split<;>omega
 unfold qD;rw[Z i,s9 Dg.oO];have hlen:=YC i;have c:=adU f.fe g.fe (aT a).length;rw[im,eL hlen,i_,i_]at c;have e:nV (oO (aT a) (aT b))=nV a-nV b:=by
  have d:=iH (l:=oO (aT a) (aT b)) Dg.oO;have k:=OD (aT a) (aT b) (aT a).length;have m:(oO (aT a) (aT b)).length=(aT a).length:=by simp[oO]
  rw[m]at d;change nV (oO (aT a) (aT b))-_=_ at c;have:lJ (aT a) (aT b) (aT a).length=0\/lJ (aT a) (aT b) (aT a).length=1:=O;rcases this with e|e
  ·rw[e]at c;omega
  ·rw[e]at c;omega
 rw[e]
def Cm(c:Dg x.aC)(d:Dg y.aC):eX x y=iD (iV x+iV y):=by
 have tr:∀n,aT (cT n)=cT n:=C1;have m:=iZ c;have o:=iZ d;have a:∀(b:Bool)(n:Int),0<=n->iL b (cT n.toNat)=iD (if b then-n else n):=λb n p=>by rw[<-tr,ya (pd _).1,(pd _).2.1];have:((n.toNat:Nat):Int)=n:=O;rw[this]
 have j:=Az c d;have k:=Az d c;unfold eX iV;by_cases h:x.neg=y.neg
 ·rw[aM h,ana c d,a _ _ O,h];congr 1;split<;>omega
 ·rw[Z h];by_cases f:0<=ir x.aC y.aC
  ·rw[aM f];have g:nV y.aC<=nV x.aC:=by
    refine B1.1 λi=>?_
    rw[j,aM i]at f;omega
   rw[aif c d g,a _ _ O];congr 1;cases e:x.neg<;>cases l:y.neg<;>simp_all<;>omega
  ·rw[Z f];have g:nV x.aC<=nV y.aC:=by
    refine B1.1 λi=>f ?_
    rw[j,Z O,aM i];omega
   rw[aif d c g,a _ _ O];congr 1;cases e:x.neg<;>cases l:y.neg<;>simp_all<;>omega
def qz(h:Dg x.aC):bm x=if iV x<0 then-1 else if 0<iV x then 1 else 0:=by
 unfold bm iV;have d:=iZ h;by_cases a:(aT x.aC).length=0
 ·have e:=fR a;have b:=i_ x.aC;rw[e]at b;rw[aM a,<-b];cases x.neg<;>rfl
 ·have:nV x.aC≠0:=λc=>a (by rw[adW h.fe (wg _) (by rw[i_];exact c)];rfl)
  rw[Z a];cases x.neg
  ·simp;rw[Z O,aM O]
  ·simp;omega
def kP(n:Int):J:=.mk 0 (iD n).neg (iD n).aC []
def cV(p:J):Int:=iV ⟨p.neg,p.aC⟩
def yY(n:Int):cV (kP n)=n:=fU n
def QJ:iD 0=⟨false,[]⟩:=by unfold iD;rw[show(0:Int).natAbs=0 from rfl,uu];rfl
def pC:kP 0=zP:=by unfold kP;rw[QJ];rfl
def PP(h:n≠0):cT n≠[]:=by rw[JY h];simp
def xG(n:Int):cP (kP n)=decide (n=0):=by
 by_cases h:n=0
 ·subst h;rw[pC];rfl
 ·have:cT n.natAbs≠[]:=PP O;have a:(cT n.natAbs).length≠0:=λh=>this (fR h)
  unfold cP kP iD;simp[J.aK,J.aC,a,h]
inductive bQ:Nat->J->Prop where
 |const {L:Nat} (n:Int):bQ L (kP n)
 |node {L:Nat} (lv:Nat) (cs:List J) (h1:1<=lv) (h2:lv<=L) (h3:2<=cs.length) (h4:∀c∈cs,bQ (lv-1) c) (h5:∀c,cs.getLast?=some c->cP c=false):bQ L (.mk lv false [] cs)
def bQ.mono(h:bQ L p)(i:L<=n):bQ n p:=by
 cases h with
 |const a=>exact .const a
 |node b c d j e f g=>exact .node b c d O e f g
def bQ.zero(L:Nat):bQ L zP:=by rw[<-pC];exact .const 0
mutual
def ev (b:ay):J->Rat
 |.mk l n a d=>if l<=0 then((iV ⟨n,a⟩:Int):Rat)else if 4<l then 0 else dy b (b l) d
def dy (b:ay) (x:Rat):List J->Rat
 |[]=>0
 |c::r=>ev b c+x*dy b x r
end
def jw(a:ay)(n:Int):ev a (kP n)=(n:Rat):=by unfold kP;rw[ev,aM ae];congr 1;exact fU n
def jW(a:ay):ev a zP=0:=by rw[<-pC,jw];rfl
def ph(c:ay)(cs:List J)(d:1<=n)(e:n<=4)(b:Bool)(a:ao):ev c (.mk n b a cs)=dy c (c n) cs:=by rw[ev,Z O,Z O]
def y7(h:bQ L p)(a:cP p=true):p=zP:=by
 cases h with
 |const n=>rw[xG]at a;rw[dO a,pC]
 |node b c d e f g i=>unfold cP at a;simp[J.aK]at a;omega
def pw(x:Rat):Nat->Rat
 |0=>1
 |n+1=>x*pw x n
theorem Ga(d:ay)(x:Rat)(b:List J):∀a,dy d x (a++b)=dy d x a+pw x a.length*dy d x b
 |[]=>by rw[gf,dy,mW,pw];grind
 |c::a=>by rw[eB,dy,dy,Ga d x b a,fZ,pw];grind
theorem C_(a:ay)(x:Rat):∀l:List J,(∀c∈l,ev a c=0)->dy a x l=0
 |[],_=>by rw[dy]
 |c::r,h=>by rw[dy,h c (b6 ..),C_ a x r (λc b=>h c (cv _ b))];grind
def jB(a:List J):Nat->Nat
 |0=>0
 |k+1=>if((a[k]?).map cP).getD false then jB a k else k+1
theorem ai4(a:List J):∀k,jB a k<=k
 |0=>bK 0
 |k+1=>by rw[jB];have:=ai4 a k;split<;>omega
def mO(b:Int)(a:List J):J:=
 if jB a a.length=0 then zP else if jB a a.length=1 then a.headD zP else .mk b false [] (a.take (jB a a.length))
theorem UH(a:List J):∀k,k<=a.length->(∀j,jB a k<=j->j<k->((a[j]?).map cP).getD false=true)/\(jB a k=0\/((a[jB a k-1]?).map cP).getD false=false)
 |0,_=>⟨λj _ h=>O,.inl rfl⟩
 |k+1,f=>by
  rw[jB];by_cases h:((a[k]?).map cP).getD false=true
  ·rw[aM h];have b:=UH a k O;refine⟨λj c d=>?_,b.2⟩;by_cases e:j=k
   ·rw[e];exact h
   ·exact b.1 j c O
  ·rw[Z h];exact⟨λj c d=>O,.inr (by rw[yE];simpa using h)⟩
def au0(a:ay)(x:Rat){cs:List J}(h:∀c∈cs,bQ L c):dy a x (cs.take (jB cs cs.length))=dy a x cs:=by
 have I:=(UH cs cs.length (bK _)).1;have e:=Ga a x (cs.drop (jB cs cs.length)) (cs.take (jB cs cs.length));rw[o0]at e;rw[e,C_ a x (cs.drop _)]
 ·grind
 ·intro c f;obtain⟨j,g,rfl⟩:=List.mem_iff_getElem.1 f;rw[xa]at g;have b:jB cs cs.length+j<cs.length:=O;have d:=I (jB cs cs.length+j) O b;rw[cN b]at d;have i:=y7 (h _ (tZ b)) (an d);rw[List.getElem_drop,i,jW]
def aIU(a:ay)(d:1<=n)(f:n<=4){cs:List J}(h:∀c∈cs,bQ L c):ev a (mO n cs)=dy a (a n) cs:=by
 have e:=au0 a (a n) h;unfold mO;split
 ·rename_i b;rw[b]at e;rw[jW,<-e,gx,dy]
 ·split
  ·rename_i b;rw[b]at e;rw[<-e];cases cs with
   |nil=>simp[jB]at b
   |cons c r=>rw[o4,gx,dy,dy,List.headD_cons];grind
  ·rw[ph a _ d f,e]
def aIS(d:1<=n)(h:∀c∈U,bQ (n-1) c):bQ n (mO n U):=by
 have I:=(UH U U.length (bK _)).2;have b:=ai4 U U.length;unfold mO;split
 ·exact .zero _
 ·split
  ·cases U with
   |nil=>exact .zero _
   |cons c r=>exact(h c (b6 ..)).mono O
  ·rename_i e f;refine .node n _ d (bK _) (by rw[gw];omega) (λc a=>h c (nE a)) (λc a=>?_);rcases I with I|I
   ·exact absurd I e
   ·rw[rJ,gw,kC b,sO,aM O]at a;rw[a]at I;simpa using I
def c_:List J->Int
 |[]=>0
 |p::r=>max p.aK (c_ r)
theorem ql:∀l,0<=c_ l
 |[]=>tY 0
 |p::r=>by rw[c_];have:=ql r;omega
theorem zp:∀{l:List J}{p:J},p∈l->p.aK<=c_ l
 |q::r,p,h=>by
  rw[c_];rcases da.1 h with rfl|h
  ·omega
  ·have:=zp h;omega
theorem A7{L:Int}(a:0<=L):∀{l:List J},(∀p∈l,p.aK<=L)->c_ l<=L
 |[],_=>a
 |p::r,h=>by
  rw[c_];have:=h p (b6 ..);have:=A7 a (l:=r) λq b=>h q (cv _ b)
  omega
def jo(a:Int):List J->Nat
 |[]=>0
 |p::r=>if p.aK=a then max p.aL.length (jo a r)else jo a r
def tH:List J->Int
 |[]=>0
 |p::r=>cV p+tH r
def dU(a:Int)(i:Nat)(p:J):Option J:=if p.aK=a then p.aL[i]? else if p.aK<a/\i=0 then some p else none
def lH:Nat->List J->J
 |0,l=>kP (tH l)
 |f+1,l=>if c_ l=0 then kP (tH l)else mO (c_ l) ((List.range (jo (c_ l) l)).map λi=>lH f (l.filterMap (dU (c_ l) i)))
def lX(l:List J):J:=lH (c_ l).toNat l
def bQ.lv{L:Nat}{p:J}(h:bQ L p):0<=p.aK/\p.aK<=L:=by
 cases h with
 |const n=>exact⟨tY 0,by show(0:Int)<=L;omega⟩
 |node a g f e d c b=>exact⟨by show(0:Int)<=a;omega,by show(a:Int)<=L;omega⟩
def bQ.bu(h:bQ L p){c:J}(a:c∈p.aL):bQ (p.aK.toNat-1) c:=by
 cases h with
 |const n=>cases a
 |node d e f g i b j=>exact b c a
def bQ.sX(h:bQ L p)(a:p.aK=0):p=kP (cV p):=by
 cases h with
 |const n=>rw[yY]
 |node b c d e f g i=>have:(b:Int)=0:=a;omega
def bQ.Cq(h:bQ L p)(b:p.aK≠0):∃a:Nat,1<=a/\a<=L/\p.aK=a/\p=.mk a false [] p.aL/\2<=p.aL.length:=by
 cases h with
 |const n=>exact absurd rfl b
 |node a f c d e g i=>exact⟨a,c,d,rfl,rfl,e⟩
def G9{lv:Nat}(h:∀p∈U,bQ L p)(j:1<=lv)(i:Nat):∀c∈U.filterMap (dU lv i),bQ (lv-1) c:=by
 intro c k;obtain⟨p,o,a⟩:=IC.1 k;have b:=h p o;unfold dU at a;split at a
 ·rename_i e;have:=b.bu (bM a);rw[e]at this;exact this
 ·split at a
  ·rename_i e;injection a with a;subst a
   obtain⟨e,_⟩:=e;by_cases d:p.aK=0
   ·rw[b.sX d];exact .const _
   ·obtain⟨m,v,w,f,x,y⟩:=b.Cq d;rw[f]at e;cases b with
    |const n=>exact absurd rfl d
    |node g q r z s t u=>have:(g:Int)=m:=f;exact .node g q r O s t u
  ·cases a
def j7(a:ay):List J->Rat
 |[]=>0
 |p::r=>ev a p+j7 a r
theorem Ua(b:ay){L:Nat}:∀{l:List J},(∀p∈l,bQ L p)->(∀p∈l,p.aK=0)->j7 b l=((tH l:Int):Rat)
 |[],_,_=>by rw[j7,tH];rfl
 |p::r,h,c=>by rw[j7,tH,Ua b (λq a=>h q (cv _ a)) (λq a=>c q (cv _ a)),N1];congr 1;rw[(h p (b6 ..)).sX (c p (b6 ..)),jw,yY]
def P0(a:ay)(x:Rat)(f:Nat->J):∀n,dy a x ((List.range (n+1)).map f)=dy a x ((List.range n).map f)+pw x n*ev a (f n):=by intro n;rw[sP,ia,Ga];simp only[de,gW,dy,eh,oY];grind
def aaH(d:ay)(x:Rat):∀(a:List J)(n:Nat),a.length<=n->dy d x a=dy d x ((List.range n).map λi=>(a[i]?).getD zP):=by
 intro a n h;have e:(List.range n).map (λi=>(a[i]?).getD zP)=a++List.replicate (n-a.length) zP:=by
  apply vj;intro j;rw[eC,B3];by_cases f:j<n
  ·rw[vl f];by_cases b:j<a.length
   ·rw[aM b];simp[cN b]
   ·rw[Z b,yA,aM O];simp[iM (show a.length<=j by omega)]
  ·rw[iM (by simp;omega)];rw[Z O,yA,Z O];rfl
 rw[e,Ga,C_ d x (List.replicate _ zP) (λc g=>by rw[rI g,jW])];grind
def aD_(b:ay){lv:Nat}(A:1<=lv)(B:lv<=4)(n:Nat):∀{l:List J},(∀p∈l,bQ L p)->(∀p∈l,p.aK<=lv)->(∀p∈l,p.aK=lv->p.aL.length<=n)->1<=n->
 j7 b l=((List.range n).map λi=>pw (b lv) i*j7 b (l.filterMap (dU lv i))).foldr (·+ ·) 0:=by
 have h:∀(g:Nat->Rat)(m:Nat),((List.range (m+1)).map g).foldr (·+ ·) 0=((List.range m).map g).foldr (·+ ·) 0+g m:=by
  intro g m;rw[sP,ia,List.foldr_append];simp only[de,gW,EK,Ai];have:∀(l:List Rat)(z:Rat),l.foldr (·+ ·) z=l.foldr (·+ ·) 0+z:=by
   intro l z
   induction l with
   |nil=>simp only[Ai];grind
   |cons a r o=>simp only[EK,o];grind
  rw[this];grind
 have C:∀m,((List.range m).map λi=>pw (b lv) i*j7 b ([].filterMap (dU lv i))).foldr (·+ ·) 0=0:=by
  intro m
  induction m with
  |zero=>rfl
  |succ m o=>rw[h,o,List.filterMap_nil,j7];grind
 intro l
 induction l with
 |nil=>intro _ _ _ _;rw[C,j7]
 |cons p r o=>
  intro w x y s;have t:=o (λq f=>w q (cv _ f)) (λq f=>x q (cv _ f)) (λq f=>y q (cv _ f)) s;have D:=w p (b6 ..);have u:ev b p=((List.range n).map λi=>pw (b lv) i*((dU lv i p).map (ev b)).getD 0).foldr (·+ ·) 0:=by
   by_cases e:p.aK=lv
   ·obtain⟨m,K,M,N,E,P⟩:=D.Cq O;have G:m=lv:=O;subst G;have hlen:=y p (b6 ..) e;rw[E,ph b _ A B,aaH b _ p.aL n hlen];have:∀k,dy b (b m) ((List.range k).map λi=>(p.aL[i]?).getD zP)=((List.range k).map λi=>pw (b m) i*((dU m i (.mk m false [] p.aL)).map (ev b)).getD 0).foldr (·+ ·) 0:=by
     intro k
     induction k with
     |zero=>rw[IE,gW,dy];rfl
     |succ k d=>
      rw[P0,h,d];congr 2;unfold dU;rw[aM (show(J.mk (m:Int) false [] p.aL).aK=(m:Int)from rfl)];show ev b ((p.aL[k]?).getD zP)=((p.aL[k]?).map (ev b)).getD 0;cases p.aL[k]? with
      |none=>exact jW b
      |some c=>rfl
    exact this n
   ·have v:p.aK<lv:=by have:=x p (b6 ..);omega
    have:∀k,1<=k->((List.range k).map λi=>pw (b lv) i*((dU lv i p).map (ev b)).getD 0).foldr (·+ ·) 0=ev b p:=by
     intro k H;obtain⟨k,rfl⟩:∃j,k=j+1:=⟨k-1,O⟩;clear H
     induction k with
     |zero=>rw[h];unfold dU;rw[Z e,aM ⟨v,rfl⟩];simp only[IE,gW,Ai,dP,ib,pw];grind
     |succ k d=>rw[h,d];unfold dU;rw[Z e,Z O];simp only[IW,Option.getD_none];grind
    exact(this n s).symm
  rw[j7,t,u];have:∀k,((List.range k).map λi=>pw (b lv) i*((dU lv i p).map (ev b)).getD 0).foldr (·+ ·) 0+((List.range k).map λi=>pw (b lv) i*j7 b (r.filterMap (dU lv i))).foldr (·+ ·) 0=((List.range k).map λi=>pw (b lv) i*j7 b ((p::r).filterMap (dU lv i))).foldr (·+ ·) 0:=by
   intro k
   induction k with
   |zero=>simp only[IE,gW,Ai];grind
   |succ k d=>
    rw[h,h,h,<-d];cases f:dU lv k p with
    |none=>rw[Wt f];simp only[IW,Option.getD_none];grind
    |some q=>rw[Wu f,j7];simp only[dP,ib];grind
  exact this n
theorem Ud{a:Int}:∀{l:List J}{p:J},p∈l->p.aK=a->p.aL.length<=jo a l
 |q::r,p,h,e=>by
  rw[jo];rcases da.1 h with rfl|h
  ·rw[aM e];omega
  ·have:=Ud h e;split<;>omega
theorem Dw:∀{l:List J},c_ l≠0->∃p∈l,p.aK=c_ l
 |[],h=>absurd rfl h
 |p::r,h=>by
  rw[c_]at h⊢;by_cases c:c_ r<=p.aK
  ·exact⟨p,b6 ..,O⟩
  ·have e:max p.aK (c_ r)=c_ r:=by omega
   rw[e]at h⊢;obtain⟨q,a,b⟩:=Dw h;exact⟨q,cv _ a,b⟩
theorem Od(b:ay):∀(f:Nat)(l:List J),(∀p∈l,bQ 4 p)->c_ l<=f->ev b (lH f l)=j7 b l/\bQ (c_ l).toNat (lH f l)
 |0,l,h,E=>by
  have t:∀p∈l,p.aK=0:=λp j=>by have:=zp j;have:=(h p j).lv;omega
  rw[lH];exact⟨by rw[jw,Ua b h t],.const _⟩
 |f+1,l,h,E=>by
  rw[lH];by_cases t:c_ l=0
  ·rw[aM t];have q:∀p∈l,p.aK=0:=λp j=>by have:=zp j;have:=(h p j).lv;omega
   exact⟨by rw[jw,Ua b h q],.const _⟩
  ·rw[Z t];have H:=ql l;obtain⟨lv,w⟩:∃lv:Nat,c_ l=lv:=⟨(c_ l).toNat,O⟩;obtain⟨x,o,A⟩:=Dw t;have B:=(h x o).lv;have q:1<=lv:=O;have y:lv<=4:=O;rw[w]at A⊢;have n:=λi=>G9 (lv:=lv) h q i
   have u:∀i,ev b (lH f (l.filterMap (dU lv i)))=j7 b (l.filterMap (dU lv i))/\bQ (lv-1) (lH f (l.filterMap (dU lv i))):=λi=>by
    have D:c_ (l.filterMap (dU lv i))<=((lv-1:Nat):Int):=A7 O λc s=>(n i c s).lv.2
    have:=Od b f (l.filterMap (dU lv i)) (λc s=>(n i c s).mono O) O;exact⟨this.1,this.2.mono O⟩
   have d:∀c∈(List.range (jo lv l)).map (λi=>lH f (l.filterMap (dU lv i))),bQ (lv-1) c:=λc s=>by obtain⟨i,_,rfl⟩:=b_.1 s;exact(u i).2
   refine⟨?_,(aIS q d).mono O⟩;rw[aIU b q y d];have C:1<=jo lv l:=by have:=Ud o A;obtain⟨m,P,N,M,L,K⟩:=(h x o).Cq O;omega
   rw[aD_ b q y (jo lv l) h (λp j=>by have:=zp j;omega) (λp j e=>Ud j e) C];have:∀k,dy b (b lv) ((List.range k).map λi=>lH f (l.filterMap (dU lv i)))=((List.range k).map λi=>pw (b lv) i*j7 b (l.filterMap (dU lv i))).foldr (·+ ·) 0:=by
    intro k
    induction k with
    |zero=>rw[IE,gW,dy];rfl
    |succ k v=>
     have G:∀(g:Nat->Rat)(m:Nat),((List.range (m+1)).map g).foldr (·+ ·) 0=((List.range m).map g).foldr (·+ ·) 0+g m:=by
      intro g m;rw[sP,ia,List.foldr_append];simp only[de,gW,EK,Ai];have:∀(l:List Rat)(z:Rat),l.foldr (·+ ·) z=l.foldr (·+ ·) 0+z:=by
       intro l z
       induction l with
       |nil=>simp only[Ai];grind
       |cons a r u=>simp only[EK,u];grind
      rw[this];grind
     rw[P0,G,v,(u k).1]
   exact this _
def anf(a:ay){l:List J}(h:∀p∈l,bQ 4 p):ev a (lX l)=j7 a l:=(Od a _ l h (by have:=ql l;omega)).1
def ane{L:Nat}(b:L<=4)(h:∀p∈U,bQ L p):bQ L (lX U):=by
 have c:∀p∈U,bQ 4 p:=λp a=>(h p a).mono b
 have:=(Od (λ_=>0) _ U c (show c_ U<=((c_ U).toNat:Int)by have:=ql U;omega)).2;exact this.mono (by have:=A7 (L:=L) O λp a=>(h p a).lv.2;omega)
theorem W0:∀(f g:Nat)(l:List J),(∀p∈l,bQ 4 p)->c_ l<=f->f<=g->lH g l=lH f l
 |0,0,l,_,_,_=>rfl
 |0,g+1,l,_,q,_=>by rw[lH,lH,aM (by have:=ql l;omega)]
 |f+1,0,l,_,_,o=>by omega
 |f+1,g+1,l,h,q,o=>by
  rw[lH,lH];by_cases b:c_ l=0
  ·rw[aM b,aM b]
  ·rw[Z b,Z b];congr 1;refine mw λi t=>?_
   have s:=ql l;obtain⟨lv,e⟩:∃lv:Nat,c_ l=lv:=⟨(c_ l).toNat,O⟩;obtain⟨k,d,r⟩:=Dw b;have m:=(h k d).lv;rw[e]at r⊢;have a:=G9 (lv:=lv) h O i;have n:c_ (l.filterMap (dU lv i))<=((lv-1:Nat):Int):=A7 O λc j=>(a c j).lv.2
   exact W0 f g _ (λc j=>(a c j).mono O) O O
def ani(h:c_ U=0):lX U=kP (tH U):=by unfold lX;rw[h];rfl
def ang(h:∀p∈U,bQ 4 p)(g:c_ U≠0):lX U=mO (c_ U) ((List.range (jo (c_ U) U)).map λi=>lX (U.filterMap (dU (c_ U) i))):=by
 have r:=ql U;unfold lX;obtain⟨f,j⟩:∃f,(c_ U).toNat=f+1:=⟨(c_ U).toNat-1,O⟩;rw[j,lH,Z g];congr 1;refine mw λi s=>?_
 obtain⟨lv,b⟩:∃lv:Nat,c_ U=lv:=⟨(c_ U).toNat,O⟩;obtain⟨k,d,m⟩:=Dw g;have n:=(h k d).lv;rw[b]at m⊢;have a:=G9 (lv:=lv) h O i;have o:c_ (U.filterMap (dU lv i))<=((lv-1:Nat):Int):=A7 O λc e=>(a c e).lv.2
 have q:=ql (U.filterMap (dU lv i));exact W0 _ f _ (λc e=>(a c e).mono O) O O
section
def az2(x y:Int)(h:b5 x/\b5 y):bh 283 [wI .u32 x,wI .u32 y] (tT [uE (x*y/4294967296),uE (x*y%4294967296)]):=by
 refine vF func283 rfl [] [] ?_;obtain⟨hx,c⟩:=h;rw[cD]at hx c;have k:0<=x*y/\x*y<=18446744065119617025:=by refine⟨pU hx.1 c.1,?_⟩;exact yu (wW (show x<=4294967295 by omega) c.1) O
 have f:IntKind.u64.wrap x=x:=IntWalk.u64_in _ O;have e:IntKind.u64.wrap y=y:=IntWalk.u64_in _ O;have d:IntKind.u64.wrap (x*y)=x*y:=IntWalk.u64_in _ O;have j:IntKind.u32.wrap (x*y)=(x*y)%4294967296:=by rw[IntKind.wrap_u32]
 have i:(x*y).fdiv (2^min (Int.toNat 32) IntKind.u64.bits)=(x*y)/4294967296:=by show(x*y).fdiv 4294967296=_;rw[yt _ O]
 have g:IntKind.u32.wrap ((x*y)/4294967296)=(x*y)/4294967296:=IntWalk.u32_in _ O;repeat' first|intro _|apply aQ
 all_goals first|exact bj|omega|rw[f,e,d,j];done|rw[f,e,d,i,g];done
def Pq:=eI (.int .u32) (.int .u32) az2
def zf(m:Nat)(z:ao):=∀k,m<=k->∀y,z[k]?=some y->y=0
@[irreducible] def sV(a b:ao)(i:Nat)(z:ao):=i<=a.length/\z.length=a.length+b.length/\Dg z/\nV z=nV (a.take i)*nV b/\zf (i+b.length) z
@[irreducible] def xg(a b:ao)(i:Nat)(x:Int)(j:Nat)(c:Int)(z:ao):=i<a.length/\a[i]?=some x/\j<=b.length/\z.length=a.length+b.length/\Dg z/\b5 c/\nV z+c*pB (i+j)=nV (a.take i)*nV b+x*nV (b.take j)*pB i/\zf (i+b.length) z
def kG(n k:Nat):List Int:=cT n++List.replicate (k-(cT n).length) 0
def Z4{z:ao}(h:Dg z):z=kG (nV z).toNat z.length:=by unfold kG;rw[<-s9 h];exact Uy z
def PO{k:Nat}(h:(n:Int)<pB k):(kG n k).length=k:=by have:=ur h;unfold kG;rw[cX,xb];omega
def F8(n k:Nat):Dg (kG n k):=(pd n).1.Jb (Dg.Ep _)
def F9(n k:Nat):nV (kG n k)=n:=by unfold kG;rw[uJ,zt,(pd n).2.1];omega
def amm(a b:ao):sV a b 0 (List.replicate (a.length+b.length) 0):=by
 unfold sV;refine⟨dz _,ai,Dg.Ep _,by rw[zt,gx,nV,Il],λk _ y c=>?_⟩;rw[yA]at c;split at c
 ·injection c with c;exact c.symm
 ·cases c
def yc{a:ao}{i:Nat}{x:Int}(h:a[i]?=some x):nV (a.take (i+1))=nV (a.take i)+x*pB i:=by
 have d:i<a.length:=by
  refine E0 λc=>?_
  rw[iM c]at h;cases h
 rw[fy,uJ,gw,kC O,h];simp[nV,iy]
def awT(h:l[(n:Int).toNat]?=some d):d=(l[n]?).getD 0:=(r5 h).symm
variable {a b:ao}
section
variable {x:Nat×List Int}(hx:sV a b x.1 x.2∧True)
include hx
def amq:x.1<=a.length/\x.2.length=a.length+b.length:=by have h:=hx.1;unfold sV at h;exact⟨h.1,h.2.1⟩
def amp(c:a[((x.1:Nat):Int).toNat]?=some d)(e:(d==0)=true):sV a b (x.1+1) x.2:=by
 rw[bt]at c;have e:d=0:=an e;subst e;have f:x.1<a.length:=by
  refine E0 λg=>?_
  rw[iM g]at c;cases c
 have h:=hx.1;unfold sV at h⊢;refine⟨f,h.2.1,h.2.2.1,?_,λk j y i=>h.2.2.2.2 k O y i⟩;rw[yc c,Il,BX];exact h.2.2.2.1
def amr(g:Dg a)(c:a[((x.1:Nat):Int).toNat]?=some d):xg a b x.1 ((a[x.1]?).getD 0) 0 0 x.2:=by
 rw[bt]at c;have e:x.1<a.length:=by
  refine E0 λf=>?_
  rw[iM f]at c;cases c
 have h:=hx.1;unfold sV at h;unfold xg;rw[c,ib];refine⟨e,rfl,dz _,h.2.1,h.2.2.1,Gw,?_,h.2.2.2.2⟩;rw[h.2.2.2.1];simp[nV]
def amn(d:decide (((x.1:Nat):Int)<(a.length:Int))=false):x.2=kG (nV a*nV b).toNat (a.length+b.length):=by
 have h:=hx.1;unfold sV at h;have e:x.1=a.length:=by simp only[bc]at d;omega
 have c:=Z4 h.2.2.1;rw[h.2.1,h.2.2.2.1,e,im]at c;exact c
end
section
variable {v:Nat×Int×Nat×Int×List Int}(hv:xg a b v.1 v.2.1 v.2.2.1 v.2.2.2.1 v.2.2.2.2∧True)
include hv
def Fa:v.1<a.length/\v.2.2.1<=b.length/\v.2.2.2.2.length=a.length+b.length/\b5 v.2.2.2.1/\a[v.1]?=some v.2.1/\Dg v.2.2.2.2:=by have h:=hv.1;unfold xg at h;exact⟨h.1,h.2.2.1,h.2.2.2.1,h.2.2.2.2.2.1,h.2.1,h.2.2.2.2.1⟩
def WQ(c:Dg a):b5 v.2.1:=c.at (Fa hv).2.2.2.2.1
def WO(c:v.2.2.2.2[v.1+((v.2.2.1:Nat):Int).toNat]?=some r):b5 r:=(Fa hv).2.2.2.2.2.at c
def N8(g:Dg a)(h:Dg b)(c:b[((v.2.2.1:Nat):Int).toNat]?=some d)(e:v.2.2.2.2[v.1+((v.2.2.1:Nat):Int).toNat]?=some r):
 IntKind.u32.wrap (IntKind.u32.wrap (v.2.1*d/4294967296+(v.2.1*d%4294967296+r+0)/4294967296)+((v.2.1*d%4294967296+r+0)%4294967296+v.2.2.2.1+0)/4294967296)=(v.2.1*(b[v.2.2.1]?).getD 0+(v.2.2.2.2[v.1+v.2.2.1]?).getD 0+v.2.2.2.1)/4294967296/\
 ((v.2.1*d%4294967296+r+0)%4294967296+v.2.2.2.1+0)%4294967296=(v.2.1*(b[v.2.2.1]?).getD 0+(v.2.2.2.2[v.1+v.2.2.1]?).getD 0+v.2.2.2.1)%4294967296/\
 0<=(v.2.1*(b[v.2.2.1]?).getD 0+(v.2.2.2.2[v.1+v.2.2.1]?).getD 0+v.2.2.2.1)/4294967296/\(v.2.1*(b[v.2.2.1]?).getD 0+(v.2.2.2.2[v.1+v.2.2.1]?).getD 0+v.2.2.2.1)/4294967296<4294967296:=by
 have i:=WQ hv g;have f:=Dg.Cr h c;have l:=WO hv e;have m:=(Fa hv).2.2.2.1;rw[bt]at c e;rw[c,e,ib,ib];rw[cD]at*;have n:0<=v.2.1*d/\v.2.1*d<=18446744065119617025:=by refine⟨pU i.1 f.1,?_⟩;exact yu (wW (show v.2.1<=4294967295 by omega) f.1) O
 generalize v.2.1*d=p at*;have j:IntKind.u32.wrap (p/4294967296+(p%4294967296+r+0)/4294967296)=p/4294967296+(p%4294967296+r+0)/4294967296:=IntWalk.u32_in _ O;rw[j];have k:IntKind.u32.wrap (p/4294967296+(p%4294967296+r+0)/4294967296+((p%4294967296+r+0)%4294967296+v.2.2.2.1+0)/4294967296)=p/4294967296+(p%4294967296+r+0)/4294967296+((p%4294967296+r+0)%4294967296+v.2.2.2.1+0)/4294967296:=IntWalk.u32_in _ O;rw[k];omega
def ams(j:Dg a)(l:Dg b)(e:b[((v.2.2.1:Nat):Int).toNat]?=some d)(f:v.2.2.2.2[v.1+((v.2.2.1:Nat):Int).toNat]?=some r):
 xg a b v.1 v.2.1 (v.2.2.1+1) ((v.2.1*(b[v.2.2.1]?).getD 0+(v.2.2.2.2[v.1+v.2.2.1]?).getD 0+v.2.2.2.1)/4294967296) (v.2.2.2.2.set (v.1+v.2.2.1) ((v.2.1*(b[v.2.2.1]?).getD 0+(v.2.2.2.2[v.1+v.2.2.1]?).getD 0+v.2.2.2.1)%4294967296)):=by
 have g:=N8 hv j l e f;rw[bt]at e f;have n:v.2.2.1<b.length:=by
  refine E0 λo=>?_
  rw[iM o]at e;cases e
 have h:=hv.1;rw[e,f,ib,ib]at g⊢;unfold xg at h⊢;obtain⟨p,q,H,s,t,K,u,z⟩:=h;refine⟨p,q,n,by rw[rK];exact s,t.set _ (cD.2 O),cD.2 ⟨g.2.2.1,g.2.2.2⟩,?_,λk A w c=>?_⟩
 ·rw[tz f,yc e];have B:pB (v.1+(v.2.2.1+1))=4294967296*pB (v.1+v.2.2.1):=by rw[<-xd,lr]
  rw[B,qM,kT,<-Int.add_assoc,<-u];have C:v.2.1*(d*pB v.2.2.1)*pB v.1=v.2.1*d*pB (v.1+v.2.2.1):=by rw[G6];simp only[kU,iy,vh]
  rw[C];generalize pB (v.1+v.2.2.1)=P;generalize v.2.1*d=m;have D:m+r+v.2.2.2.1=(m+r+v.2.2.2.1)%4294967296+4294967296*((m+r+v.2.2.2.1)/4294967296):=O;generalize(m+r+v.2.2.2.1)%4294967296=L at*;generalize(m+r+v.2.2.2.1)/4294967296=i at*;have E:=bi (· *P) D;simp only[kT,sL]at E⊢;have G:i*(4294967296*P)=4294967296*i*P:=by rw[vh,kU]
  rw[G];omega
 ·rw[Iu]at c;split at c
  ·omega
  ·exact z k A w c
def amo(p:decide (((v.2.2.1:Nat):Int)<(b.length:Int))=false):sV a b (v.1+1) (v.2.2.2.2.set (v.1+b.length) v.2.2.2.1):=by
 have h:=hv.1;unfold xg at h;obtain⟨o,n,q,m,l,j,g,f⟩:=h;have e:v.2.2.1=b.length:=by simp only[bc]at p;omega
 rw[e]at g;obtain⟨r,i⟩:∃r,v.2.2.2.2[v.1+b.length]?=some r:=⟨v.2.2.2.2[v.1+b.length]' O,ai⟩;have d:=f _ (bK _) _ i;subst d;unfold sV;refine⟨o,by rw[rK];exact m,l.set _ j,?_,λk s w c=>?_⟩
 ·rw[tz i,yc n,Ik,g,im,kT];congr 1;rw[kU,kU,iy (nV b)]
 ·rw[Iu]at c;split at c
  ·omega
  ·exact f k O w c
end
def aGH(a b:ao)(h:a.length+b.length<=1099511627776/\Dg a/\Dg b):bh 266 [wL .u32 a,wL .u32 b] (lT .u32 (kG (nV a*nV b).toNat (a.length+b.length))):=by
 refine vF func266 rfl [FW,Pq] [(3,⟨Nat×List Int,λx=>⟨[(0,lT .u32 a),(1,lT .u32 b),(5,.e (.c (.aX 0 (U:=Un) W.u32 (a.length+b.length)))),(21,lT .u32 a),(22,iT a.length),(23,iT x.1)],[(0,.aW (U:=Un) W.u32 x.2)],1⟩,λx=>sV a b x.1 x.2/\True,λx=>a.length-x.1⟩),(1000009,⟨Nat×Int×Nat×Int×List Int,λv=>⟨[(0,lT .u32 a),(1,lT .u32 b),(5,.e (.c (.aX 0 (U:=Un) W.u32 (a.length+b.length)))),(21,lT .u32 a),(22,iT a.length),(23,iT v.1),(7,uT v.2.1),(8,.e (.c (.sub 0 (U:=Un) W.u32 v.1 (a.length+b.length-v.1)))),(9,uT v.2.2.2.1),(33,lT .u32 b),(34,iT b.length),(35,iT v.2.2.1)],[(0,.aW (U:=Un) W.u32 v.2.2.2.2)],1⟩,λv=>xg a b v.1 v.2.1 v.2.2.1 v.2.2.2.1 v.2.2.2.2/\True,λv=>b.length-v.2.2.1⟩)] ?_;obtain⟨j,d,f⟩:=h;repeat' (first
  |intro _|apply aQ
  |refine aS ((0,List.replicate (a.length+b.length) 0):Nat×List Int) (aQ ?_ λ(x:Nat×List Int)(hx:sV a b x.1 x.2/\True)=>?_)
  |refine aS (λv=>v.1=x.1) (aS (x.1,(a[x.1]?).getD 0,0,0,x.2) (aQ ?_ λ(v:Nat×Int×Nat×Int×List Int)(hv:xg a b v.1 v.2.1 v.2.2.1 v.2.2.2.1 v.2.2.2.2/\True)(g:v.1=x.1)=>?_))
  |refine aS (v.1,v.2.1,v.2.2.1+1,(v.2.1*(b[v.2.2.1]?).getD 0+(v.2.2.2.2[v.1+v.2.2.1]?).getD 0+v.2.2.2.1)/4294967296,v.2.2.2.2.set (v.1+v.2.2.1) ((v.2.1*(b[v.2.2.1]?).getD 0+(v.2.2.2.2[v.1+v.2.2.1]?).getD 0+v.2.2.2.1)%4294967296)) ?_
  |refine aS (v.1+1,v.2.2.2.2.set (v.1+b.length) v.2.2.2.1) ?_
  |refine aS (x.1+1,x.2) ?_)
 all_goals first|exact bj|with_reducible rfl|exact amm a b|exact WQ hv d|exact WO hv Y|exact Dg.Cr f Y|exact(Fa hv).2.2.2.1|rw[cD];omega|exact g|exact amr hx d Y|exact amp hx Y Y|exact amn hx Y|exact amo hv Y|omega|with_reducible exact awT Y|have i:=Fa hv;simp only[be,bc]at*;omega|have i:=amq hx;simp only[be,bc]at*;omega|simp only[BC];omega|rw[show((a.length:Int)+(b.length:Int)).toNat=a.length+b.length by omega]|exact(N8 hv d f Y Y).1|rw[bt];exact bi _ (N8 hv d f Y Y).2.1|exact ams hv d f Y Y|rw[bt];done
end
@[irreducible] def uQ(a b:ao):List Int:=kG (nV a*nV b).toNat (a.length+b.length)
def aGG(a b:ao)(h:a.length+b.length<=1099511627776/\Dg a/\Dg b):bh 266 [wL .u32 a,wL .u32 b] (lT .u32 (uQ a b)):=by unfold uQ;exact aGH a b h
def asD:=eI (.ls W.u32) (.ls W.u32) aGG
def aEK(a b:ao):Dg (uQ a b):=by unfold uQ;exact F8 _ _
def aEM{b:ao}(d:Dg a)(e:Dg b):0<=nV a*nV b/\nV a*nV b<pB (a.length+b.length):=by have c:=iH d;have f:=iH e;refine⟨pU c.1 f.1,?_⟩;rw[G6];have g:nV a*nV b<=nV a*pB b.length:=sH O c.1;have h:nV a*pB b.length<pB a.length*pB b.length:=V1 c.2 (mf _);omega
def aEL{b:ao}(c:Dg a)(d:Dg b):nV (uQ a b)=nV a*nV b:=by have:=aEM c d;unfold uQ;rw[F9];omega
def aEJ(a b:ao):uQ a b=uQ b a:=by unfold uQ;rw[iy,B8]
def Dg.mem(h:Dg l)(a:d∈l):b5 d:=h d a
def aEF(h:a.length<=47\/l.length<=47)(c:decide ((a.length:Int)<(l.length:Int))=true)(d:decide ((a.length:Int)<48)=false):False:=by have c:=dO c;have d:=cQ d;omega
def aEG(h:a.length<=47\/l.length<=47)(c:decide ((a.length:Int)<(l.length:Int))=false)(d:decide ((l.length:Int)<48)=false):False:=by have c:=cQ c;have d:=cQ d;omega
def aEO(a b:ao)(h:(a.length<=47\/b.length<=47)/\a.length+b.length<=1099511627776/\Dg a/\Dg b):bh 219 [wL .u32 a,wL .u32 b] (lT .u32 (uQ a b)):=by
 refine vF func219 rfl [asD] [] ?_;repeat' first|exact(aEF h.1 Y Y).elim|exact(aEG h.1 Y Y).elim|intro _|apply aQ
 all_goals first|exact bj|with_reducible rfl|omega|((with_reducible show b5 _);first|exact h.2.2.1 _ Y|exact h.2.2.2 _ Y)|with_reducible exact aEJ _ _
def asv:=eI (.ls W.u32) (.ls W.u32) aEO
def rO(x:aY):=Sm x.aC/\Dg x.aC
def ofN{n:Int}(b:0<=n)(c:n<=18446744073709551615):aT [n%4294967296,n/4294967296]=cT n.toNat:=by have a:Dg [n%4294967296,n/4294967296]:=Dg.mk (cD.2 ⟨O,O⟩) (Dg.mk (cD.2 ⟨O,O⟩) Dg.nil);rw[s9 a];congr 2;simp only[nV];omega
def aDC(n:Int)(h:0<=n/\n<=18446744073709551615):bh 106 [wI .u64 n] (lT .u32 (cT n.toNat)):=by
 refine vF func106 rfl [JV] [] ?_;have d:IntKind.u32.wrap n=n%4294967296:=by rw[IntKind.wrap_u32]
 have c:n.fdiv (2^min (Int.toNat 32) IntKind.u64.bits)=n/4294967296:=by show n.fdiv 4294967296=_;rw[yt _ O]
 have b:IntKind.u32.wrap (n/4294967296)=n/4294967296:=IntWalk.u32_in _ O;have a:=ofN h.1 h.2;repeat' first|intro _|apply aQ
 all_goals first|exact bj|omega|rw[d,c,b];exact a|show 2<=_;omega
def Pu:=dj (.int .u64) aDC
def ab5(h:d<0):iD d=⟨true,cT d.natAbs⟩:=by unfold iD;rw[qd h]
def ab6(h:¬d<0):iD d=⟨false,cT d.natAbs⟩:=by unfold iD;rw[rX h]
def ajs{n:Int}(h:-9223372036854775808<=n/\n<=9223372036854775807)(a:n<0):IntKind.u64.wrap (0-IntKind.u64.wrap n)=-n:=by rw[IntKind.wrap_u64,IntKind.wrap_u64];omega
def ajt{n:Int}(h:-9223372036854775808<=n/\n<=9223372036854775807)(a:¬n<0):IntKind.u64.wrap n=n:=by rw[IntKind.wrap_u64];omega
def aBm(h:rO x):iL (!x.neg) (aT x.aC)=iD (-iV x):=by rw[ya h.2];unfold iV;cases x.neg<;>simp
def amL(h:rO x):iL false (aT x.aC)=iD (iV x).natAbs:=by have:=iZ h.2;rw[ya h.2];unfold iV;cases x.neg<;>simp<;>congr 1<;>omega
def aG7(a:Dg x.aC)(b:Dg y.aC)(h:decide (bm ⟨x.neg,x.aC⟩<bm ⟨y.neg,y.aC⟩)=true):-1=if iV x<iV y then(-1:Int)else if iV y<iV x then 1 else 0:=by have h:=dO h;have c:bm ⟨x.neg,x.aC⟩=(if iV x<0 then-1 else if 0<iV x then 1 else 0):=qz a;have d:bm ⟨y.neg,y.aC⟩=(if iV y<0 then-1 else if 0<iV y then 1 else 0):=qz b;rw[c,d]at h;rw[aM];omega
def aG6(a:Dg x.aC)(b:Dg y.aC)(h:decide (bm ⟨y.neg,y.aC⟩<bm ⟨x.neg,x.aC⟩)=true):1=if iV x<iV y then(-1:Int)else if iV y<iV x then 1 else 0:=by have h:=dO h;have c:bm ⟨x.neg,x.aC⟩=(if iV x<0 then-1 else if 0<iV x then 1 else 0):=qz a;have d:bm ⟨y.neg,y.aC⟩=(if iV y<0 then-1 else if 0<iV y then 1 else 0):=qz b;rw[c,d]at h;rw[Z O,aM];omega
def aG4(d:Dg x.aC)(f:Dg y.aC)(b:decide (bm ⟨x.neg,x.aC⟩<bm ⟨y.neg,y.aC⟩)=false)(c:decide (bm ⟨y.neg,y.aC⟩<bm ⟨x.neg,x.aC⟩)=false)(a:decide (bm ⟨x.neg,x.aC⟩<0)=true):ir y.aC x.aC=if iV x<iV y then(-1:Int)else if iV y<iV x then 1 else 0:=by
 have b:=cQ b;have c:=cQ c;have a:=dO a;have g:bm ⟨x.neg,x.aC⟩=(if iV x<0 then-1 else if 0<iV x then 1 else 0):=qz d;have i:bm ⟨y.neg,y.aC⟩=(if iV y<0 then-1 else if 0<iV y then 1 else 0):=qz f;have l:=iZ d;have m:=iZ f;rw[g]at a;rw[g,i]at b c;rw[Az f d];have h:x.neg=true:=by
  cases e:x.neg;·simp[iV,e]at a;omega
  ·rfl
 have j:y.neg=true:=by
  cases e:y.neg;·simp[iV,e,h]at b c a;omega
  ·rfl
 unfold iV;rw[h,j];simp only[gT];by_cases k:nV y.aC<nV x.aC
 ·rw[aM k,aM O]
 ·rw[Z k,Z (show¬ -nV x.aC< -nV y.aC by omega)];by_cases k2:nV x.aC<nV y.aC
  ·rw[aM k2,aM O]
  ·rw[Z k2,Z O]
def aG5(d:Dg x.aC)(f:Dg y.aC)(a:decide (bm ⟨x.neg,x.aC⟩<bm ⟨y.neg,y.aC⟩)=false)(b:decide (bm ⟨y.neg,y.aC⟩<bm ⟨x.neg,x.aC⟩)=false)(c:decide (bm ⟨x.neg,x.aC⟩<0)=false):ir x.aC y.aC=if iV x<iV y then(-1:Int)else if iV y<iV x then 1 else 0:=by
 have a:=cQ a;have b:=cQ b;have c:=cQ c;have g:bm ⟨x.neg,x.aC⟩=(if iV x<0 then-1 else if 0<iV x then 1 else 0):=qz d;have i:bm ⟨y.neg,y.aC⟩=(if iV y<0 then-1 else if 0<iV y then 1 else 0):=qz f;have k:=iZ d;have l:=iZ f;rw[g]at c;rw[g,i]at a b;rw[Az d f];have h:iV x=nV x.aC:=by
  unfold iV at c⊢;cases e:x.neg
  ·simp
  ·simp[e]at c⊢;omega
 have j:iV y=nV y.aC:=by
  rw[h]at a b;unfold iV at a b⊢;cases e:y.neg
  ·simp
  ·simp[e]at a b⊢;omega
 rw[h,j]
def aGx:((if d<r then(-1:Int)else if r<d then 1 else 0)==0)=decide (d=r):=by
 by_cases h:d<r
 ·rw[aM h,rX O];rfl
 ·rw[Z h];by_cases c:r<d
  ·rw[aM c,rX O];rfl
  ·rw[Z c,qd O];rfl
def aDz(n:Int)(h:-9223372036854775808<=n/\n<=9223372036854775807):bh 58 [wI .i64 n] (eT .cM (iD n)):=by
 refine vF func58 rfl [Pu] [] ?_;repeat' first|intro _|apply aQ
 all_goals first|exact bj|(rename_i b;have a:n<0:=(an b);first|rw[ajs h a];omega|rw[ab5 a,ajs h a];show cT (-n).toNat=cT n.natAbs;congr 1;omega|rw[ab5 a])|(rename_i b;have a:¬n<0:=(an b);first|rw[ajt h a];omega|rw[ab6 a,ajt h a];show cT n.toNat=cT n.natAbs;congr 1;omega|rw[ab6 a])
def CN:=dj (.int .i64) aDz
def aBl(x:aY)(h:rO x):bh 136 [wE .cM x] (eT .cM (iD (-iV x))):=by
 refine vF func136 rfl [FY] [] ?_;repeat' first|intro _|apply aQ
 all_goals first|exact bj|exact h.1|rw[aBm h]
def F0:=dj (.el W.cM) aBl
def amK(x:aY)(h:rO x):bh 138 [wE .cM x] (eT .cM (iD (iV x).natAbs)):=by
 refine vF func138 rfl [FY] [] ?_;repeat' first|intro _|apply aQ
 all_goals first|exact bj|exact h.1|rw[amL h]
def Pk:=dj (.el W.cM) amK
def aqw(x y:aY)(h:Dg x.aC/\Dg y.aC):bh 196 [wE .cM x,wE .cM y] (iT (if iV x<iV y then-1 else if iV y<iV x then 1 else 0)):=by
 refine vF func196 rfl [vC,JR] [] ?_;repeat' first|intro _|apply aQ
 all_goals first|exact bj|((with_reducible show(_&&_)=true);kernel_rfl)|rename_i k;exact aG7 h.1 h.2 k|rename_i k;exact aG6 h.1 h.2 k|rename_i k1 k2 a;exact aG4 h.1 h.2 k1 k2 a|rename_i k1 k2 a;exact aG5 h.1 h.2 k1 k2 a
def arE:=eI (.el W.cM) (.el W.cM) aqw
def aGl(x y:aY)(h:Dg x.aC/\Dg y.aC):bh 230 [wE .cM x,wE .cM y] (bT (decide (iV x=iV y))):=by
 refine vF func230 rfl [arE] [] ?_;repeat' first|intro _|apply aQ
 all_goals first|exact bj|exact h.1 _ Y|exact h.2 _ Y|exact aGx
def asB:=eI (.el W.cM) (.el W.cM) aGl
def aEN(c:Dg a)(d:Dg l):aT (uQ (aT a) (aT l))=cT (nV a*nV l).toNat:=by rw[s9 (aEK _ _),aEL c.fe d.fe,i_,i_]
def adI(c:Dg x.aC)(d:Dg y.aC):iL (!(x.neg==y.neg)) (cT (nV x.aC*nV y.aC).toNat)=iD (iV x*iV y):=by
 have e:=pU (iZ c) (iZ d);have a:∀(b:Bool)(n:Int),0<=n->iL b (cT n.toNat)=iD (if b then-n else n):=λb n f=>by rw[<-C1,ya (pd _).1,(pd _).2.1];have:((n.toNat:Nat):Int)=n:=O;rw[this]
 rw[a _ _ e];congr 1;unfold iV;cases x.neg<;>cases y.neg<;>simp[Int.mul_neg,Int.neg_mul]
def az3(a:Dg x.aC)(b:Dg y.aC):(iL (!(x.neg==y.neg)) (cT (nV x.aC*nV y.aC).toNat)).neg=(iD (iV x*iV y)).neg:=by rw[adI a b]
def az4(a:Dg x.aC)(b:Dg y.aC):(iL (!(x.neg==y.neg)) (cT (nV x.aC*nV y.aC).toNat)).aC=(iD (iV x*iV y)).aC:=by rw[adI a b]
def az6(a b:ao)(h:(a.length<=47\/b.length<=47)/\a.length+b.length<=1099511627776/\Dg a/\Dg b):bh 173 [wL .u32 a,wL .u32 b] (lT .u32 (cT (nV a*nV b).toNat)):=by
 refine vF func173 rfl [vE,asv] [] ?_;obtain⟨f,g,e,d⟩:=h;have j:=ml a;have i:=ml b;repeat' first|intro _|apply aQ
 all_goals first|exact bj|omega|rename_i c;refine Dg.mem ?_ c;with_reducible exact e.fe|rename_i c;refine Dg.mem ?_ c;with_reducible exact d.fe|with_reducible exact aEN e d
def asi:=eI (.ls W.u32) (.ls W.u32) az6
def az5(x y:aY)(h:(x.aC.length<=47\/y.aC.length<=47)/\x.aC.length+y.aC.length<=1099511627776/\Dg x.aC/\Dg y.aC):bh 125 [wE .cM x,wE .cM y] (eT .cM (iD (iV x*iV y))):=by
 refine vF func125 rfl [asi,Py] [] ?_;obtain⟨d,e,b,a⟩:=h;repeat' first|intro _|apply aQ
 all_goals first|exact bj|((with_reducible show(_&&_)=true);kernel_rfl)|omega|rename_i c;refine Dg.mem ?_ c;with_reducible assumption| (with_reducible first|exact az3 b a|exact az4 b a)
def Zj:=eI (.el W.cM) (.el W.cM) az5
def gr:List aY->Int
 |[]=>0
 |x::r=>iV x+gr r
def aId(h:X[n]?=some x):gr (X.take (n+1))=gr (X.take n)+iV x:=by
 have e:∀(a b:List aY),gr (a++b)=gr a+gr b:=by
  intro a b
  induction a with
  |nil=>simp[gr]
  |cons c r d=>rw[eB,gr,gr,d];omega
 rw[fy,e,h];simp[gr]
@[irreducible] def vr(n:Nat)(l:List aY):=(∀x∈l,x.aC.length<=n/\Dg x.aC)/\n<=1000000000/\l.length<=1000000000
def ab9(h:Dg x.aC)(a:x.aC.length<=n):-pB n<iV x/\iV x<pB n:=by have b:=iH h;have c:=zz a;unfold iV;cases x.neg<;>simp<;>omega
theorem aik{n:Nat}:∀{l:List aY},(∀x∈l,x.aC.length<=n/\Dg x.aC)->-(pB n*l.length)<=gr l/\gr l<=pB n*l.length
 |[],_=>by simp[gr]
 |x::r,h=>by
  have c:=ab9 (h x (b6 ..)).2 (h x (b6 ..)).1;have b:=aik (l:=r) λy a=>h y (cv _ a)
  rw[gr,fZ,Int.natCast_add,qM];omega
def xF{n:Int}{k:Nat}(h:-pB k<n/\n<pB k):(iD n).aC.length<=k:=by unfold iD;apply ur;omega
def aD5(k:Nat):pB k=((2^(32*k):Nat):Int):=by unfold pB;rw[Nat.pow_mul,B0];rfl
def Q4(h:d.natAbs<2^1504):(iD d).aC.length<=47:=by refine xF (k:=47) ?_;have e:=aD5 47;rw[show 32*47=1504 from rfl]at e;rw[e];generalize 2^1504=X at*;omega
def ame{n:Nat}{l:List aY}(h:vr n l)(i:Nat):Sm (iD (gr (l.take i))).aC:=by
 unfold vr at h;obtain⟨b,j,g⟩:=h;have f:=aik (n:=n) (l:=l.take i) λx a=>b x (nE a)
 have e:(l.take i).length<=l.length:=by rw[gw];omega
 have c:=mf n;have d:pB n*((l.take i).length:Int)<pB (n+1):=by rw[lr];have:pB n*((l.take i).length:Int)<=pB n*1000000000:=sH O O;omega
 have:=xF (n:=gr (l.take i)) (k:=n+1) O;unfold Sm;omega
def N7(h:vr n X)(a:X[(L:Int).toNat]?=some x):Sm x.aC/\Dg x.aC:=by unfold vr at h;have:=h.1 x (bM a);exact⟨by unfold Sm;omega,this.2⟩
def aip(h:vr L X)(a:X[(n:Int).toNat]?=some x):eX ⟨(iD (gr (X.take n))).neg,(iD (gr (X.take n))).aC⟩ ⟨x.neg,x.aC⟩=iD (gr (X.take (n+1))):=by have e:eX (iD (gr (X.take n))) x=iD (iV (iD (gr (X.take n)))+iV x):=Cm (iv _) (N7 h a).2;rw[fU]at e;rw[bt]at a;rw[aId a];exact e
def aIh(h:vr L X)(a:X[(n:Int).toNat]?=some x):(eX ⟨(iD (gr (X.take n))).neg,(iD (gr (X.take n))).aC⟩ ⟨x.neg,x.aC⟩).neg=(iD (gr (X.take (n+1)))).neg:=by rw[aip h a]
def aIi(h:vr L X)(a:X[(n:Int).toNat]?=some x):(eX ⟨(iD (gr (X.take n))).neg,(iD (gr (X.take n))).aC⟩ ⟨x.neg,x.aC⟩).aC=(iD (gr (X.take (n+1)))).aC:=by rw[aip h a]
def aio{l:List aY}(h:decide ((n:Int)<l.length)=false)(a:n<=l.length):gr (l.take n)=gr l:=by simp only[bc]at h;rw[eL O]
def aIf(h:decide ((n:Int)<X.length)=false)(a:n<=X.length/\True):(iD (gr (X.take n))).neg=(iD (gr X)).neg:=by rw[aio h a.1]
def aIg(h:decide ((n:Int)<X.length)=false)(a:n<=X.length/\True):(iD (gr (X.take n))).aC=(iD (gr X)).aC:=by rw[aio h a.1]
def axt:false=(iD 0).neg:=rfl
def axs:(iD 0).aC=[]:=by unfold iD;exact uu
def aIe:false=(iD (gr (X.take 0))).neg:=rfl
def ain:[]=(iD (gr (X.take 0))).aC:=by show []=(iD 0).aC;unfold iD;exact uu.symm
def aIb(l:List aY)(n:Nat)(h:vr n l):bh 274 [wL .cM l] (eT .cM (iD (gr l))):=by
 refine vF func274 rfl [JQ] [(3,⟨Nat,λx=>⟨[(2,br 0),(3,br 1),(7,lT .cM l),(8,iT l.length),(9,iT x)],[(0,cj .cM (iD 0)),(1,.cells ((eF .cM (iD (gr (l.take x)))).map .d))],2⟩,λx=>x<=l.length/\True,λx=>l.length-x⟩)] ?_;repeat' first|intro _|apply aQ|refine aS 0 (aQ ?_ λ(x:Nat)(a:x<=l.length/\True)=>?_)|refine aS (x+1) ?_
 all_goals first|exact bj| (with_reducible first|rfl|exact axt|exact axs|exact aIe|exact ain|exact ain.symm|exact ame h _)|(rename_i a;with_reducible first|exact aIh h a|exact aIi h a|exact(N7 h a).1)|(rename_i a d c;first|refine Dg.mem ?_ c;with_reducible exact(N7 h a).2|refine Dg.mem ?_ c;with_reducible exact iv _)|(rename_i b;with_reducible first|exact aIf b a|exact aIg b a)|omega|simp only[be,bc]at*;omega
@[irreducible] def Ci(l:List aY):Prop:=∃n,vr n l
def aIc(l:List aY)(h:Ci l):bh 274 [wL .cM l] (eT .cM (iD (gr l))):=by unfold Ci at h;obtain⟨n,h⟩:=h;exact aIb l n h
def asL:=dj (.ls W.cM) aIc
end Go.Proofs.YtfbmhjooliccnaaGreatDoor
namespace Go.Proofs.YtfbmhjooliccnaaGreatDoor
variable {B d U P r q X R:Int}
def auO{T W V':Int}(i:U=T*P+d)(b:B=W*P+V')(c:d<P)(a:0<=V')(j:0<P)(e:0<=q)(h:q*B<=U):q*W<=T:=by
 refine B1.1 λf=>?_
 have g:(T+1)*P<=(q*W)*P:=wW O O;have k:q*B=q*W*P+q*V':=by rw[b,qM,kU]
 have l:0<=q*V':=pU e a;rw[kT,Int.one_mul]at g;omega
def auN{T W V':Int}(i:U=T*P+q)(b:r=W*P+V')(c:0<=q)(a:0<=V')(e:V'<P)(j:0<P)(k:0<=d)(f:d<B)(l:B<=W)(h:d*W<=T):(d-1)*r<=U:=by
 have m:(d*W)*P<=T*P:=wW h O;have n:(d-1)*r=d*W*P-W*P+(d-1)*V':=by rw[b,qM,<-kU,sL d 1 W,sL (d*W) (1*W) P,Int.one_mul]
 have o:(d-1)*V'<=W*P:=by
  by_cases g:d=0
  ·subst g;have:0<=W*P:=pU O O;omega
  ·have p:(d-1)*V'<=W*V':=wW O a;have s:W*V'<=W*P:=sH O O;omega
 omega
def auQ{v1 v2 u2 u1 u0:Int}(h:d*v1+r=u2*B+u1)(a:r*B+u0<d*v2):u2*B*B+u1*B+u0<d*(v1*B+v2):=by
 have b:(d*v1+r)*B=(u2*B+u1)*B:=by rw[h]
 rw[kT,kT]at b;rw[qM,<-kU];omega
def auR{v1 v2 u2 u1 u0:Int}(h:d*v1+r=u2*B+u1)(a:d*v2<=r*B+u0):d*(v1*B+v2)<=u2*B*B+u1*B+u0:=by
 have b:(d*v1+r)*B=(u2*B+u1)*B:=by rw[h]
 rw[kT,kT]at b;rw[qM,<-kU];omega
end Go.Proofs.YtfbmhjooliccnaaGreatDoor
namespace Go.Proofs.YtfbmhjooliccnaaGreatDoor
open Go Go.Ab Go.Proofs.Tryz
variable {x n j:Nat}{d r p t c m:Int}{a v w:ao}{f g:a_}{b y X U:aY}{s:az}
def dG(X:ao)(o n:Nat):List Int:=(X.drop o).take n
def ob(X:ao)(o n:Nat)(w:ao):List Int:=X.take o++(w++X.drop (o+n))
def uX(z X:ao)(o n:Nat):=z.length=X.length/\z.take o=X.take o/\z.drop (o+n)=X.drop (o+n)
def uX.refl(X:ao)(o n:Nat):uX X X o n:=⟨rfl,rfl,rfl⟩
def Bi(h:x+n<=a.length):(dG a x n).length=n:=by unfold dG;rw[gw,xa];omega
def Bh{o:Nat}(h:Dg a):Dg (dG a o n):=(h.drop o).take n
def Bg(b:j<n):(dG a x n)[j]?=a[x+j]? :=by unfold dG;rw[sO,aM b,nD]
def L7{i:Nat}{x:Int}(b:i<n):dG (a.set (j+i) x) j n=(dG a j n).set i x:=by unfold dG;rw[List.drop_set,Z O,List.take_set];congr 1;omega
def Mo(b:j<n)(h:uX a v x n):uX (a.set (x+j) d) v x n:=by
 refine⟨by rw[rK];exact h.1,?_,?_⟩
 ·rw[List.take_set_of_le O];exact h.2.1
 ·rw[List.drop_set_of_lt O];exact h.2.2
def aGp(h:uX a v x n):a=ob v x n (dG a x n):=by unfold ob dG;rw[<-h.2.1,<-h.2.2,<-List.drop_drop,o0,o0]
def TG{Z:ao}(h:x+n<=Z.length)(a:w.length=n):(ob Z x n w).length=Z.length:=by unfold ob;rw[cX,cX,gw,xa];omega
def ahs{Z:ao}{o:Nat}(h:o+n<=Z.length)(a:w.length=n):dG (ob Z o n w) o n=w:=by unfold ob dG;rw[Wr (by rw[gw];omega),Iq (by rw[gw];omega),gf,ET O,eL O]
def aht{Z:ao}{o:Nat}(h:o+n<=Z.length)(a:w.length=n):uX (ob Z o n w) Z o n:=by
 refine⟨TG h a,?_,?_⟩
 ·unfold ob;rw[ET (by rw[gw];omega),List.take_take,Nat.min_self]
 ·unfold ob;rw[<-gM,Ip,Iq (by rw[cX,gw];omega),gf];have e:o+n-(List.take o Z++w).length=0:=by rw[cX,gw];omega
  rw[e];rfl
def ahq(h:Dg a)(b:Dg w):Dg (ob a x n w):=(h.take x).Jb (b.Jb (h.drop _))
def atf(h:Dg a)(b:a.length=n)(c:nV a=m):a=kG m.toNat n:=by rw[<-c,<-b];exact Z4 h
def ahr(h:uX a v x n)(b:Dg a)(c:x+n<=v.length)(d:nV (dG a x n)=m):a=ob v x n (kG m.toNat n):=by have e:=atf (Bh b) (Bi (by rw[h.1];exact c)) d;rw[<-e];exact aGp h
def jV(c d e b a:Int):Int:=min 4294967295 ((c*18446744073709551616+d*4294967296+e)/(b*4294967296+a))
@[irreducible] def EG(c e g b f d r a:Int):=b5 d/\b5 r/\0<=a/\a<=1/\d*b+r+a*4294967296=c*4294967296+e/\jV c e g b f<=d
@[irreducible] def EP(b d e a c:Int):=b5 b/\b5 d/\b5 e/\b5 a/\b5 c/\0<a/\b<=a
def PZ{v2:Int}(h:EP d r p t v2):jV d r p t v2<=c↔(4294967295<=c\/d*18446744073709551616+r*4294967296+p<(c+1)*(t*4294967296+v2)):=by unfold EP at h;simp only[cD]at h;unfold jV;have e:0<t*4294967296+v2:=O;rw[<-Int.lt_add_one_iff,<-Int.lt_add_one_iff (b:=c) (a:=4294967295),<-BY e];omega
def akx(h:EP d r p t c)(b:t<=d):EG d r p t c 4294967295 ((r+t+0)%4294967296) ((r+t+0)/4294967296):=by have a:=h;unfold EP at a;unfold EG;simp only[cD]at a⊢;refine⟨O,O,O,O,O,(PZ h).2 (.inl O)⟩
def aky{v1 v2:Int}(h:EP d r p v1 v2)(c:d<v1):EG d r p v1 v2 ((d*4294967296+r)/v1) ((d*4294967296+r)%v1) 0:=by
 have a:=h;unfold EP at a;unfold EG;simp only[cD]at a⊢;have b:0<v1:=a.2.2.2.2.2.1;have e:=rE (d*4294967296+r) (sJ b);have f:=sG (d*4294967296+r) b;have g:=EA (d*4294967296+r) v1;have i:0<=(d*4294967296+r)/v1:=Ad O O;have j:(d*4294967296+r)/v1<4294967296:=by rw[BY b];omega
 refine⟨O,O,O,O,?_,(PZ h).2 (.inr ?_)⟩
 ·rw[iy];omega
 ·have k:d*4294967296+r<((d*4294967296+r)/v1+1)*v1:=by have:=kT ((d*4294967296+r)/v1) 1 v1;rw[this,iy _ v1];omega
  generalize(d*4294967296+r)/v1=q at*;have l:(q+1)*(v1*4294967296+v2)=(q+1)*v1*4294967296+(q+1)*v2:=by rw[qM,kU]
  have m:0<=(q+1)*v2:=pU O O;omega
def Vv{u2 u1 u0 v1 v2 d r:Int}(h:EP u2 u1 u0 v1 v2)(g:EG u2 u1 u0 v1 v2 d r p)(I:p=1\/d*v2<=r*4294967296+u0):d=jV u2 u1 u0 v1 v2:=by
 have a:=h;unfold EP at a;unfold EG at g;simp only[cD]at a g;obtain⟨c,e,g3,f,i,j⟩:=g;have b:0<v1*4294967296+v2:=O;have k1:d*v2<=(r+p*4294967296)*4294967296+u0:=by
  rcases I with rfl|h1
  ·have:d*v2<=4294967295*4294967295:=Int.mul_le_mul O O O O;omega
  ·omega
 have k2:=auR (B:=4294967296) (d:=d) (v1:=v1) (v2:=v2) (r:=r+p*4294967296) (u2:=u2) (u1:=u1) (u0:=u0) O k1;have k:d<=(u2*18446744073709551616+u1*4294967296+u0)/(v1*4294967296+v2):=by rw[Ii b];omega
 unfold jV at*;omega
def akB{u2 u1 u0 v1 v2 d r:Int}(h:EP u2 u1 u0 v1 v2)(g:EG u2 u1 u0 v1 v2 d r 0)(I:r*4294967296+u0<d*v2):EG u2 u1 u0 v1 v2 (d-1) ((r+v1+0)%4294967296) ((r+v1+0)/4294967296)/\0<d:=by
 have c:=h;unfold EP at c;have a:=g;unfold EG at a⊢;simp only[cD]at c a⊢;obtain⟨l,k,g3,j,i,f⟩:=a;have b:0<d:=by
  refine Int.lt_of_not_ge λb=>?_
  have:d=0:=O;subst this;omega
 refine⟨⟨O,O,O,O,?_,(PZ h).2 (.inr ?_)⟩,b⟩
 ·rw[sL];omega
 ·have:=auQ (B:=4294967296) (d:=d) (v1:=v1) (v2:=v2) (r:=r) (u2:=u2) (u1:=u1) (u0:=u0) O I;have e:d-1+1=d:=O;rw[e];omega
def F_(h:EP d r p t c):b5 (jV d r p t c):=by unfold EP at h;unfold jV;simp only[cD]at h⊢;have:0<=(d*18446744073709551616+r*4294967296+p)/(t*4294967296+c):=Ad O O;omega
def adV(h:Dg a)(b:a.length=n+2):nV a=((a[n+1]?).getD 0*4294967296+(a[n]?).getD 0)*pB n+nV (a.take n):=by
 rw[zr a n,gw,kC O];have e:a.drop n=[(a[n]?).getD 0,(a[n+1]?).getD 0]:=by
  apply vj;intro i;rw[nD]
  match i with
  |0=>show a[n]?=some ((a[n]?).getD 0);rw[cN O];rfl
  |1=>rw[cN O];rfl
  |i+2=>rw[iM O];rfl
 rw[e];simp only[nV];rw[iy (pB n)];simp only[kT,Af,BX];rw[iy 4294967296];omega
def aBc(h:Dg a)(c:a.length=n+3):nV a=((a[n+2]?).getD 0*18446744073709551616+(a[n+1]?).getD 0*4294967296+(a[n]?).getD 0)*pB n+nV (a.take n):=by
 rw[zr a n,gw,kC O];have e:a.drop n=[(a[n]?).getD 0,(a[n+1]?).getD 0,(a[n+2]?).getD 0]:=by
  apply vj;intro i;rw[nD]
  match i with
  |0=>show a[n]?=some ((a[n]?).getD 0);rw[cN O];rfl
  |1=>rw[cN O];rfl
  |2=>rw[cN O];rfl
  |i+3=>rw[iM O];rfl
 rw[e];simp only[nV];rw[iy (pB n)];have b:(a[n]?).getD 0+4294967296*((a[n+1]?).getD 0+4294967296*((a[n+2]?).getD 0+4294967296*0))=(a[n+2]?).getD 0*18446744073709551616+(a[n+1]?).getD 0*4294967296+(a[n]?).getD 0:=O;rw[b];omega
def auP{p:ao}(c:Dg p)(d:Dg v)(t:p.length=n+3)(h:v.length=n+2)(i:nV p<4294967296*nV v)(x:0<(v[n+1]?).getD 0):
 EP ((p[n+2]?).getD 0) ((p[n+1]?).getD 0) ((p[n]?).getD 0) ((v[n+1]?).getD 0) ((v[n]?).getD 0)/\
 nV p/nV v<=jV ((p[n+2]?).getD 0) ((p[n+1]?).getD 0) ((p[n]?).getD 0) ((v[n+1]?).getD 0) ((v[n]?).getD 0)/\
 jV ((p[n+2]?).getD 0) ((p[n+1]?).getD 0) ((p[n]?).getD 0) ((v[n+1]?).getD 0) ((v[n]?).getD 0)<=nV p/nV v+1:=by
 have r:=aBc c t;have ev:=adV d h;have y:=rY c (n+2);have z:=rY c (n+1);have A:=rY c n;have C:=rY d (n+1);have D:=rY d n;have j:=iH (c.take n);have e:=iH (d.take n);rw[gw,kC O]at j e;rw[cD]at*;generalize(p[n+2]?).getD 0=a at*;generalize(p[n+1]?).getD 0=b at*;generalize(p[n]?).getD 0=u0 at*;generalize(v[n+1]?).getD 0=v1 at*;generalize(v[n]?).getD 0=v2 at*;have f:=mf n;have g:0<nV v:=by rw[ev];have:0<(v1*4294967296+v2)*pB n:=Int.mul_pos O f;omega
 have E:a<=v1:=by
  refine B1.1 λu=>?_
  have k1:(a*18446744073709551616+b*4294967296+u0)*pB n<(4294967296*(v1*4294967296+v2)+4294967296)*pB n:=by
   have:(4294967296*(v1*4294967296+v2)+4294967296)*pB n=4294967296*((v1*4294967296+v2)*pB n)+4294967296*pB n:=by rw[kT,kU]
   omega
  have k2:=Int.lt_of_mul_lt_mul_right k1 (wV f);omega
 have s:EP a b u0 v1 v2:=by unfold EP;simp only[cD];omega
 refine⟨s,?_,?_⟩
 ·have k:0<=nV p/nV v:=Ad (iZ c) (wV g);have l:nV p/nV v*nV v<=nV p:=Int.ediv_mul_le _ (sJ g);have m:=auO (T:=a*18446744073709551616+b*4294967296+u0) (W:=v1*4294967296+v2) (P:=pB n) r ev j.2 e.1 f k l;have G:nV p/nV v<4294967296:=by rw[BY g];exact i
  unfold jV;have:nV p/nV v<=(a*18446744073709551616+b*4294967296+u0)/(v1*4294967296+v2):=by rw[Ii O];exact m
  omega
 ·have o:=F_ s;rw[cD]at o;have w:jV a b u0 v1 v2*(v1*4294967296+v2)<=a*18446744073709551616+b*4294967296+u0:=by rw[<-Ii O];unfold jV;omega
  have q:=auN (B:=4294967296) (T:=a*18446744073709551616+b*4294967296+u0) (W:=v1*4294967296+v2) (P:=pB n) r ev j.1 e.1 e.2 f o.1 o.2 O w;have:=(Ii g).2 q;omega
def ME{l:ao}(h:l[x]?=some d):x<l.length:=by
 refine E0 λa=>?_
 rw[iM a]at h;cases h
@[irreducible] def rQ(X:ao)(o n:Nat)(v:ao)(d:Int):=n=v.length+1/\o+n<=X.length/\X.length<=1099511627776/\Dg X/\Dg v/\b5 d
@[irreducible] def sU(X:ao)(o n:Nat)(v:ao)(d:Int)(i:Nat)(c b:Int)(z:ao):=i<=v.length/\uX z X o n/\Dg z/\b5 c/\0<=b/\b<=1/\nV (dG z o n)=nV (dG X o n)-d*nV (v.take i)+(c+b)*pB i
def qA(X:ao)(o n:Nat)(v:ao)(d:Int):List Int:=ob X o n (kG ((nV (dG X o n)-d*nV v)%pB n).toNat n)
def sw(X:ao)(o n:Nat)(v:ao)(d:Int):Bool:=decide (nV (dG X o n)<d*nV v)
def amf{Z v:ao}(h:rQ Z x n v d):sU Z x n v d 0 0 0 Z:=by unfold rQ at h;unfold sU;refine⟨dz _,.refl ..,h.2.2.2.1,Gw,ae,ae,?_⟩;rw[gx,nV,Af];omega
def amh{v:ao}{i:Nat}{y:Int}(h:rQ a x n v d)(g:sU a x n v d i c p w)(s:w[x+i]?=some r)(f:v[i]?=some y):
 sU a x n v d (i+1) ((y*d+c)/4294967296) (if r<(y*d+c)%4294967296+p then 1 else 0) (w.set (x+i) ((r-(y*d+c)%4294967296-p)%4294967296)):=by
 unfold rQ at h;unfold sU at g⊢;obtain⟨T,U,V,X,C,t⟩:=h;obtain⟨g1,D,g3,g4,g5,g6,E⟩:=g;have e:=ME f;have k:b5 y:=C.at f;have G:b5 r:=g3.at s;simp only[cD]at*;have hm:0<=y*d/\y*d<=18446744065119617025:=by refine⟨pU k.1 t.1,?_⟩;exact yu (wW (show y<=4294967295 by omega) t.1) O
 refine⟨O,Mo O D,g3.set _ (cD.2 O),O,by split<;>omega,by split<;>omega,?_⟩;rw[L7 O,tz (y:=r) (by rw[Bg O];exact s),E,yc f,lr,qM];have H:d*(y*pB i)=y*d*pB i:=by rw[<-kU,iy d y]
 rw[H];generalize pB i=P at*;generalize y*d=m at*;have e2:m+c=(m+c)%4294967296+4294967296*((m+c)/4294967296):=O;have K:(r-(m+c)%4294967296-p)%4294967296=r-(m+c)%4294967296-p+4294967296*(if r<(m+c)%4294967296+p then 1 else 0):=by split<;>omega
 rw[K];generalize(if r<(m+c)%4294967296+p then(1:Int)else 0)=l at*;generalize(m+c)%4294967296=M at*;generalize(m+c)/4294967296=e at*;have N:m=M+4294967296*e-c:=O;rw[N];simp only[kT,sL];have Q:e*(4294967296*P)=4294967296*e*P:=by rw[vh,kU]
 have R:l*(4294967296*P)=4294967296*l*P:=by rw[vh,kU]
 rw[Q,R];generalize 4294967296*e*P=A;generalize 4294967296*l*P=B;omega
def Lg{q:Int}(e:0<m)(b:0<=d+q*m)(c:d+q*m<m):d%m=d+q*m:=by rw[<-Int.add_mul_emod_self_right d q m,Ih b c]
def amg{o n:Nat}{v:ao}(h:rQ a o n v d)(g:sU a o n v d v.length c p w)(m:w[o+v.length]?=some r):
 w.set (o+v.length) ((r-c-p)%4294967296)=qA a o n v d/\(decide (r<c+p))=sw a o n v d:=by
 unfold rQ at h;unfold sU at g;obtain⟨B,k,P,C,D,E⟩:=h;obtain⟨Q,G,g3,R,T,U,s⟩:=g;have H:b5 r:=g3.at m;simp only[cD]at*;rw[im]at s;have I:uX (w.set (o+v.length) ((r-c-p)%4294967296)) a o n:=Mo O G;have t:Dg (w.set (o+v.length) ((r-c-p)%4294967296)):=g3.set _ (cD.2 O);have i:nV (dG (w.set (o+v.length) ((r-c-p)%4294967296)) o n)=nV (dG a o n)-d*nV v+(if r<c+p then 1 else 0)*pB n:=by
  rw[L7 O,tz (y:=r) (by rw[Bg O];exact m),s,B,lr];have K:(r-c-p)%4294967296=r-c-p+4294967296*(if r<c+p then 1 else 0):=by split<;>omega
  rw[K];generalize(if r<c+p then(1:Int)else 0)=x at*;have M:x*(4294967296*pB v.length)=4294967296*x*pB v.length:=by rw[vh,kU]
  rw[M];simp only[kT,sL];omega
 have f:=iH (Bh (o:=o) (n:=n) t);have l:=iH (Bh (o:=o) (n:=n) C);rw[Bi (by rw[I.1];exact k)]at f;rw[Bi k]at l;have N:=mf n;have V:0<=d*nV v:=pU E.1 (iZ D);refine⟨?_,?_⟩
 ·refine ahr I t k ?_;rw[Lg N (q:=if r<c+p then 1 else 0) (by rw[<-i];exact f.1) (by rw[<-i];exact f.2)];exact i
 ·unfold sw;rw[i]at f;split at f
  ·rename_i e;rw[qd e,qd];omega
  ·rename_i e;rw[rX e,rX];omega
@[irreducible] def rz(X:ao)(o n:Nat)(v:ao):=n=v.length+1/\o+n<=X.length/\X.length<=1099511627776/\Dg X/\Dg v
@[irreducible] def sy(X:ao)(o n:Nat)(v:ao)(i:Nat)(c:Int)(z:ao):=i<=v.length/\uX z X o n/\Dg z/\0<=c/\c<=1/\nV (dG z o n)+c*pB i=nV (dG X o n)+nV (v.take i)
def xj(X:ao)(o n:Nat)(v:ao):List Int:=ob X o n (kG ((nV (dG X o n)+nV v)%pB n).toNat n)
def ajO{Z v:ao}(h:rz Z x n v):sy Z x n v 0 0 Z:=by unfold rz at h;unfold sy;refine⟨dz _,.refl ..,h.2.2.2.1,ae,ae,?_⟩;rw[gx,nV];omega
def ajQ{v:ao}{i:Nat}{y:Int}(h:rz a x n v)(g:sy a x n v i c w)(e:w[x+i]?=some r)(b:v[i]?=some y):
 sy a x n v (i+1) ((r+y+c)/4294967296) (w.set (x+i) ((r+y+c)%4294967296)):=by
 unfold rz at h;unfold sy at g⊢;obtain⟨B,C,D,E,f⟩:=h;obtain⟨G,k,g3,H,K,M⟩:=g;have d:=ME b;have l:b5 y:=f.at b;have m:b5 r:=g3.at e;simp only[cD]at*;refine⟨O,Mo O k,g3.set _ (cD.2 O),O,O,?_⟩;rw[L7 O,tz (y:=r) (by rw[Bg O];exact e),yc b,lr];generalize pB i=P at*;have p:r+y+c=(r+y+c)%4294967296+4294967296*((r+y+c)/4294967296):=O;generalize(r+y+c)%4294967296=N at*;generalize(r+y+c)/4294967296=d at*;have s:=bi (· *P) p;simp only[kT,sL]at s⊢;have t:d*(4294967296*P)=4294967296*d*P:=by rw[vh,kU]
 rw[t];omega
def ajP{o n:Nat}{v:ao}(h:rz a o n v)(g:sy a o n v v.length c w)(e:w[o+v.length]?=some r):
 w.set (o+v.length) ((r+c)%4294967296)=xj a o n v:=by
 unfold rz at h;unfold sy at g;obtain⟨f,i,B,C,D⟩:=h;obtain⟨E,m,g3,G,H,p⟩:=g;have s:b5 r:=g3.at e;simp only[cD]at*;rw[im]at p;have I:uX (w.set (o+v.length) ((r+c)%4294967296)) a o n:=Mo O m;have k:Dg (w.set (o+v.length) ((r+c)%4294967296)):=g3.set _ (cD.2 O);have b:nV (dG (w.set (o+v.length) ((r+c)%4294967296)) o n)=nV (dG a o n)+nV v+(-((r+c)/4294967296))*pB n:=by
  rw[L7 O,tz (y:=r) (by rw[Bg O];exact e),f,lr,<-f];have t:(r+c)%4294967296=r+c-4294967296*((r+c)/4294967296):=O;rw[t];generalize(r+c)/4294967296=l at*;have x:-l*(4294967296*pB v.length)=-(4294967296*l*pB v.length):=by rw[Int.neg_mul,vh,kU]
  rw[x];simp only[kT,sL];omega
 have d:=iH (Bh (o:=o) (n:=n) k);rw[Bi (by rw[I.1];exact i)]at d;refine ahr I k i ?_;rw[Lg (mf n) (q:=-((r+c)/4294967296)) (by rw[<-b];exact d.1) (by rw[<-b];exact d.2)];exact b
@[irreducible] def sF(A:Int)(L:Nat)(v:ao):Prop:=∃n,v.length=n+2/\Dg v/\0<(v[n+1]?).getD 0/\L<=1099511627776/\v.length<=L/\0<=A/\A<pB L/\A<pB (L-v.length)*nV v
@[irreducible] def lV(A:Int)(L:Nat)(v:ao)(X:Nat)(u q:ao):=X<=L-v.length/\u.length=L/\q.length=L-v.length/\Dg u/\Dg q/\(∀k,k<X->∀y,q[k]?=some y->y=0)/\A=nV q*nV v+nV u/\nV (u.drop X)<nV v
def H7{A:Int}{L:Nat}{v:ao}(h:sF A L v):0<nV v:=by unfold sF at h;obtain⟨n,c,a,e,f,i⟩:=h;rw[adV a c];have d:=rY a n;have b:=(iH (a.take n)).1;rw[cD]at d;have:0<((v[n+1]?).getD 0*4294967296+(v[n]?).getD 0)*pB n:=Int.mul_pos O (mf n);omega
def akk{A:Int}{L:Nat}{v:ao}(h:sF A L v):lV A L v (L-v.length) (kG A.toNat L) (List.replicate (L-v.length) 0):=by
 have d:=H7 h;unfold sF at h;unfold lV;obtain⟨n,f,i,l,m,o,p,c,r⟩:=h;have e:((A.toNat:Nat):Int)=A:=O;have a:(kG A.toNat L).length=L:=PO (by rw[e];exact c);refine⟨bK _,a,xb,F8 _ _,Dg.Ep _,λk _ y b=>?_,by rw[zt,F9,e];omega,?_⟩
 ·rw[yA]at b;split at b<;>simp_all
 ·have I:=zr (kG A.toNat L) (L-v.length);rw[F9,e,gw,a,kC O]at I;have s:=(iH ((F8 A.toNat L).take (L-v.length))).1;have:pB (L-v.length)*nV ((kG A.toNat L).drop (L-v.length))<pB (L-v.length)*nV v:=O;exact Int.lt_of_mul_lt_mul_left this (wV (mf _))
section
variable {A:Int}{L:Nat}{v:ao}{j:Nat}{u q:ao}(h:sF A L v)(g:lV A L v (j+1) u q)
include h g
def z8:j<L-v.length/\u.length=L/\q.length=L-v.length/\j+(v.length+1)<=u.length/\Dg u/\Dg q/\Dg v/\L<=1099511627776/\2<=v.length:=by unfold sF at h;unfold lV at g;obtain⟨n,o,b,m,a,l,k,i,f⟩:=h;obtain⟨t,e,g3,d,c,s,r,p⟩:=g;refine⟨O,e,g3,O,d,c,b,a,O⟩
def Vn:nV (dG u j (v.length+1))=nV (u.drop j)/\nV (u.drop j)<4294967296*nV v/\nV (u.drop (j+(v.length+1)))=0:=by
 have c:=z8 h g;unfold lV at g;obtain⟨r,p,g3,a,o,n,m,l⟩:=g;have e:u.drop j=(u[j]?).getD 0::u.drop (j+1):=by rw[kB O,cN O];rfl
 have f:=rY a j;rw[cD]at f;have i:nV (u.drop j)<4294967296*nV v:=by rw[e,nV];omega
 have I:=zr (u.drop j) (v.length+1);rw[gw,xa,kC O,List.drop_drop]at I;have w:=iZ ((a.drop j).take (v.length+1));have k:=iZ (a.drop (j+(v.length+1)));have t:=(iH c.2.2.2.2.2.2.1).2;have b:nV (u.drop (j+(v.length+1)))=0:=by refine Int.le_antisymm (B1.1 λd=>?_) k;have:pB (v.length+1)*1<=pB (v.length+1)*nV (u.drop (j+(v.length+1))):=sH O (wV (mf _));have s:=lr v.length;omega
 rw[b]at I;exact⟨by unfold dG;omega,i,b⟩
def DVe{n:Nat}(k:v.length=n+2):EP ((u[j+(n+2)]?).getD 0) ((u[j+(n+1)]?).getD 0) ((u[j+n]?).getD 0) ((v[n+1]?).getD 0) ((v[n]?).getD 0)/\
 nV (dG u j (v.length+1))/nV v<=jV ((u[j+(n+2)]?).getD 0) ((u[j+(n+1)]?).getD 0) ((u[j+n]?).getD 0) ((v[n+1]?).getD 0) ((v[n]?).getD 0)/\
 jV ((u[j+(n+2)]?).getD 0) ((u[j+(n+1)]?).getD 0) ((u[j+n]?).getD 0) ((v[n+1]?).getD 0) ((v[n]?).getD 0)<=nV (dG u j (v.length+1))/nV v+1:=by
 have c:=z8 h g;have b:=Vn h g;unfold sF at h;obtain⟨a,f,e,d,s,r,o,m,l⟩:=h;have i:a=n:=O;subst i;have:=auP (p:=dG u j (v.length+1)) (v:=v) (n:=a) (Bh c.2.2.2.2.1) e (by rw[Bi c.2.2.2.1];omega) f (by rw[b.1];exact b.2.1) d;rw[Bg O,Bg O,Bg O]at this;exact this
def Vm(C:b5 d)(e:d=nV (dG u j (v.length+1))/nV v):lV A L v j (ob u j (v.length+1) (kG (nV (dG u j (v.length+1))-d*nV v).toNat (v.length+1))) (q.set j d):=by
 have p:=H7 h;have c:=z8 h g;have r:=Vn h g;unfold lV at g⊢;obtain⟨U,D,g3,s,E,t,G,V⟩:=g;have H:=iH (Bh (o:=j) (n:=v.length+1) s);rw[Bi c.2.2.2.1]at H;have em:=rE (nV (dG u j (v.length+1))) (sJ p);have K:=sG (nV (dG u j (v.length+1))) p;have f:=EA (nV (dG u j (v.length+1))) (nV v);rw[<-e,iy]at f;have M:0<=nV (dG u j (v.length+1))-d*nV v:=O;have i:nV (dG u j (v.length+1))-d*nV v<nV v:=O;have N:=(iH c.2.2.2.2.2.2.1).2;have P:=lr v.length;have Q:=mf v.length;have x:(((nV (dG u j (v.length+1))-d*nV v).toNat:Nat):Int)=nV (dG u j (v.length+1))-d*nV v:=O;have z:(kG (nV (dG u j (v.length+1))-d*nV v).toNat (v.length+1)).length=v.length+1:=PO (by rw[x];omega);have I:=aht (Z:=u) (o:=j) c.2.2.2.1 z;have l:=ahs (Z:=u) (o:=j) c.2.2.2.1 z;have m:Dg (ob u j (v.length+1) (kG (nV (dG u j (v.length+1))-d*nV v).toNat (v.length+1))):=ahq s (F8 _ _);generalize R:ob u j (v.length+1) (kG (nV (dG u j (v.length+1))-d*nV v).toNat (v.length+1))=w at*;have a:nV (w.drop j)=nV (dG u j (v.length+1))-d*nV v:=by have k:=zr (w.drop j) (v.length+1);rw[List.drop_drop,I.2.2,r.2.2,Af,BX]at k;rw[k];show nV (dG w j (v.length+1))=_;rw[l,F9,x]
 refine⟨O,by rw[I.1];exact D,by rw[rK];exact g3,m,E.set _ C,λk X y B=>?_,?_,by rw[a];exact i⟩
 ·rw[B7 O]at B;exact t k O y B
 ·have T:q[j]?=some 0:=by have b:j<q.length:=O;have:=t j O q[j] (cN b);rw[cN b,this]
  have k1:=zr w j;have k2:=zr u j;rw[gw,kC (by rw[I.1];omega),I.2.1,a]at k1;rw[gw,kC O,<-r.1]at k2;rw[tz T,G,k1,k2];simp only[kT,EC,Ik];have e5:pB j*(d*nV v)=d*pB j*nV v:=by rw[vh,kU]
  omega
end
def akl{A:Int}{L:Nat}{v u q:ao}(h:sF A L v)(g:lV A L v 0 u q):nV q=A/nV v/\nV u=A%nV v:=by
 have c:=H7 h;unfold lV at g;obtain⟨f,i,g3,d,k,l,e,a⟩:=g;rw[rG]at a;have b:=iZ d;have:A/nV v=nV q/\A%nV v=nV u:=by rw[Int.ediv_emod_unique c];refine⟨by rw[e,iy];omega,b,a⟩
 exact⟨this.1.symm,this.2.symm⟩
@[irreducible] def mR(a:ao)(d:Int):=Dg a/\b5 d/\0<d/\a.length<=1099511627776
@[irreducible] def qI(a:ao)(d:Int)(X:Nat)(r:Int)(z:ao):=X<=a.length/\z.length=a.length/\Dg z/\0<=r/\r<d/\(∀k,k<X->∀y,z[k]?=some y->y=0)/\nV a=nV z*d+r*pB X+nV (a.take X)
def akg(h:mR a d):qI a d a.length 0 (List.replicate a.length 0):=by unfold mR at h;unfold qI;refine⟨bK _,xb,Dg.Ep _,ae,h.2.2.1,λk _ y b=>?_,by rw[zt,im];omega⟩;rw[yA]at b;split at b<;>simp_all
def Z_(c:0<=r)(e:r<d)(a:b5 p)(b:b5 d):0<=(r*4294967296+p)/d/\(r*4294967296+p)/d<4294967296:=by rw[cD]at a b;refine⟨Ad O O,?_⟩;rw[BY O];omega
def aki{i:Nat}{z:ao}(h:mR a d)(g:qI a d (i+1) r z)(e:a[i]?=some p):
 qI a d i ((r*4294967296+p)%d) (z.set i ((r*4294967296+p)/d)):=by
 unfold mR at h;unfold qI at g⊢;obtain⟨m,n,o,E⟩:=h;obtain⟨G,t,g3,u,v,f,j⟩:=g;have c:=m.at e;have w:=Z_ u v c n;have A:z[i]?=some 0:=by have b:i<z.length:=O;have:=f i O z[i] (cN b);rw[cN b,this]
 refine⟨O,by rw[rK];exact t,g3.set _ (cD.2 w),rE _ O,sG _ o,λk H y l=>?_,?_⟩
 ·rw[B7 O]at l;exact f k O y l
 ·rw[yc e,lr]at j;rw[tz A,j];have K:=EA (r*4294967296+p) d;generalize(r*4294967296+p)/d=q at*;generalize(r*4294967296+p)%d=s at*;have B:s=r*4294967296+p-q*d:=by rw[iy q d];omega
  rw[B];simp only[kT,sL,Ik];have C:r*(4294967296*pB i)=r*4294967296*pB i:=by rw[kU]
  have D:q*pB i*d=q*d*pB i:=by rw[BZ]
  rw[C,D];omega
def akh{z:ao}(h:mR a d)(g:qI a d 0 r z):nV z=nV a/d/\r=nV a%d/\Dg z:=by
 unfold mR at h;unfold qI at g;obtain⟨i,j,c,k⟩:=h;obtain⟨l,m,g3,e,f,n,b⟩:=g;rw[gx,nV,DK]at b;have:nV a/d=nV z/\nV a%d=r:=by rw[Int.ediv_emod_unique c];exact⟨by rw[b,iy];omega,e,f⟩
 exact⟨this.1.symm,this.2.symm,g3⟩
@[irreducible] def Pw(p:Int):Prop:=∃a,0<p/\0<a/\p*a=4294967296/\2<=a
@[irreducible] def tX(a:ao)(p:Int):=Dg a/\Pw p/\a.length<=1099511627776
@[irreducible] def qL(a:ao)(p:Int)(i:Nat)(z:ao):=i<=a.length/\z.length=a.length+1/\Dg z/\nV z=nV (a.take i)*p/\(∀k,i<k->∀y,z[k]?=some y->y=0)/\(∀y,z[i]?=some y->y<p)
def akZ(h:tX a p):qL a p 0 (List.replicate (a.length+1) 0):=by
 unfold tX Pw at h;unfold qL;obtain⟨c,⟨d,e,f,g,i⟩,j⟩:=h;refine⟨dz _,xb,Dg.Ep _,by rw[zt,gx,nV,Il],λk _ y b=>?_,λy b=>?_⟩
 ·rw[yA]at b;split at b<;>simp_all
 ·rw[yA]at b;split at b
  ·injection b with b;omega
  ·cases b
def afQ(h:Pw p)(e:b5 d):∃lo b,(d*p)%4294967296=lo/\(d*p)/4294967296=b/\0<=b/\b<p/\0<=lo/\lo+p<=4294967296/\d*p=lo+4294967296*b/\p∣lo:=by
 unfold Pw at h;obtain⟨a,f,g,c,m⟩:=h;rw[cD]at e;refine⟨p*(d%a),d/a,?_,?_,Ad e.1 O,?_,?_,?_,?_,Int.dvd_mul_right ..⟩
 ·rw[<-c,iy d p,V0 _ _ f]
 ·rw[<-c,iy d p,Int.mul_ediv_mul_of_pos _ _ f]
 ·rw[BY g,c];exact e.2
 ·exact pU O (rE _ O)
 ·have n:=sG d g;have i:p*(d%a)<=p*(a-1):=sH O O;rw[EC]at i;omega
 ·have j:=EA d a;have k:d*p=(a*(d/a)+d%a)*p:=by rw[j]
  rw[k,<-c,kT];have l:a*(d/a)*p=p*a*(d/a):=by rw[BZ,iy a p]
  rw[l,iy (d%a) p];omega
def VI(g:qL a p x v)(b:v[x]?=some t):b5 t/\t<p:=by unfold qL at g;exact⟨g.2.2.1.at b,g.2.2.2.2.2 t b⟩
def ak1{i:Nat}{z:ao}(h:tX a p)(g:qL a p i z)(e:a[i]?=some d)(m:z[i]?=some t):
 qL a p (i+1) ((z.set i (t+(d*p)%4294967296)).set (i+1) ((d*p)/4294967296)):=by
 have⟨f,q⟩:=VI g m;unfold tX at h;unfold qL at g⊢;obtain⟨r,s,G⟩:=h;obtain⟨H,u,g3,v,n,K⟩:=g;have j:=r.at e;have L:=ME e;obtain⟨M,o,w,A,N,P,Q,R,B,T⟩:=afQ s j;have C:p<=4294967296:=O;rw[w,A];rw[cD]at f;have D:z[i+1]?=some 0:=by have c:i+1<z.length:=O;have:=n (i+1) O z[i+1] (cN c);rw[cN c,this]
 refine⟨O,by rw[rK,rK];exact u,(g3.set _ (cD.2 O)).set _ (cD.2 O),?_,λk U y b=>?_,λy b=>?_⟩
 ·rw[tz (y:=0) (by rw[B7 O];exact D),tz m,v,yc e,lr,kT];have E:d*pB i*p=d*p*pB i:=BZ ..;rw[E,B];simp only[kT,sL,Ik];have l:o*(4294967296*pB i)=4294967296*o*pB i:=by rw[vh,kU]
  rw[l];omega
 ·rw[B7 O,B7 O]at b;exact n k O y b
 ·rw[Ww (by rw[rK];omega)]at b;injection b with b;omega
def ak0{z:ao}(g:qL a p a.length z):nV z=nV a*p/\Dg z:=by unfold qL at g;rw[im]at g;exact⟨g.2.2.2.1,g.2.2.1⟩
def SA{lo:Int}{s:Nat}(a:0<=t)(e:t<((2^s:Nat):Int))(b:0<=lo)(d:(((2^s:Nat):Int))∣lo):((t.toNat ||| lo.toNat:Nat):Int)=t+lo:=by obtain⟨t,rfl⟩:=Ae a;obtain⟨lo,rfl⟩:=Ae b;have c:2^s∣lo:=Int.ofNat_dvd.1 d;obtain⟨m,rfl⟩:=c;rw[bt,bt,Nat.or_comm,<-Nat.two_pow_add_eq_or_of_lt O];omega
@[irreducible] def rD(a:ao)(p:Int)(i:Nat)(z:ao):=i<=a.length/\z.length=a.length/\Dg z/\(∀k,i<=k->∀y,z[k]?=some y->y=0)/\nV z*p+(a[0]?).getD 0%p=nV (a.take i)+pB i*((a[i]?).getD 0%p)
def ak4(h:tX a p):rD a p 0 (List.replicate a.length 0):=by unfold rD;refine⟨dz _,xb,Dg.Ep _,λk _ y b=>?_,by rw[zt,gx,nV,Il,DK,Int.one_mul]⟩;rw[yA]at b;split at b<;>simp_all
def VJ{a:ao}{i:Nat}{z:ao}{y:Int}(h:tX a p)(g:rD a p i z)(f:a[i]?=some d)(o:y=(a[i+1]?).getD 0):
 rD a p (i+1) (z.set i ((d+4294967296*y)/p%4294967296)):=by
 unfold tX Pw at h;unfold rD at g⊢;obtain⟨q,⟨p',j,t,c,N⟩,P⟩:=h;obtain⟨Q,u,g3,r,v⟩:=g;have b:=q.at f;have l:b5 y:=by rw[o];exact rY q _
 have R:=ME f;have A:z[i]?=some 0:=by have e:i<z.length:=O;have:=r i O z[i] (cN e);rw[cN e,this]
 rw[cD]at b l;refine⟨O,by rw[rK];exact u,g3.set _ (cD.2 O),λk T w s=>?_,?_⟩
 ·rw[B7 O]at s;exact r k O w s
 ·rw[tz A,<-o,yc f,lr];rw[f,ib]at v;have B:(d+4294967296*y)/p=d/p+p'*y:=by rw[<-c,kU,Int.add_mul_ediv_left _ _ (sJ j)]
  have e2:d/p<p':=by rw[BY j,iy,c];exact b.2
  have C:0<=d/p:=Ad b.1 O;have D:p'*y%4294967296=p'*(y%p):=by rw[<-c,iy p p',V0 _ _ t]
  have E:=rE y (sJ j);have U:=sG y j;have V:p'*(y%p)<=p'*(p-1):=sH O O;have X:0<=p'*(y%p):=pU O E;have e8:p'*(p-1)=4294967296-p':=by rw[EC,iy p' p,c,Int.mul_one]
  have G:(d/p+p'*y)%4294967296=d/p+p'*(y%p):=by rw[Int.add_emod,D,Ih (a:=d/p) C O,Ih O O]
  rw[B,G];have H:=EA d p;have m:(d/p+p'*(y%p)-0)*pB i*p=(p*(d/p))*pB i+4294967296*(y%p)*pB i:=by
   have K:(d/p+p'*(y%p)-0)*pB i*p=(d/p+p'*(y%p))*p*pB i:=by rw[Ik,BZ]
   rw[K,kT,kT,iy (d/p) p];congr 2;rw[<-c,BZ,iy p' p]
  rw[kT,m];have n:p*(d/p)=d-d%p:=O;rw[n];simp only[sL];have L:4294967296*pB i*(y%p)=4294967296*(y%p)*pB i:=BZ ..;have M:pB i*(d%p)=d%p*pB i:=iy ..;omega
def ak5{z:ao}(h:tX a p)(g:rD a p a.length z):nV z=nV a/p/\Dg z:=by
 unfold tX Pw at h;unfold rD at g;obtain⟨f,⟨i,b,j,k,l⟩,m⟩:=h;obtain⟨n,o,g3,q,c⟩:=g;rw[im,iM (bK _),Option.getD_none,Int.zero_emod,Af]at c;have d:=rE ((a[0]?).getD 0) (sJ b);have e:=sG ((a[0]?).getD 0) b;have:nV a/p=nV z/\nV a%p=(a[0]?).getD 0%p:=by rw[Int.ediv_emod_unique b];exact⟨by rw[iy];omega,d,e⟩
 exact⟨this.1.symm,g3⟩
def qE(n:Int):SE Un:=.c (.d (.sc (.int .u64 n)))
def ahR(h:b5 d):IntKind.u64.wrap (d*2^min (Int.toNat 32) IntKind.u64.bits)=d*4294967296:=by rw[cD]at h;show IntKind.u64.wrap (d*4294967296)=_;rw[IntKind.wrap_u64];omega
def ae6{a b:Int}(c:0<=a)(d:a<18446744073709551616)(e:0<=b)(f:b<18446744073709551616):IntKind.u64.wrap (((BitVec.ofInt IntKind.u64.bits a) ||| (BitVec.ofInt IntKind.u64.bits b)).toNat:Int)=((a.toNat ||| b.toNat:Nat):Int):=by
 obtain⟨a,rfl⟩:=Ae c;obtain⟨b,rfl⟩:=Ae e;have g:(BitVec.ofInt IntKind.u64.bits (a:Int)).toNat=a:=by rw[H0];show((a:Int)%(18446744073709551616:Int)).toNat=a;omega
 have h:(BitVec.ofInt IntKind.u64.bits (b:Int)).toNat=b:=by rw[H0];show((b:Int)%(18446744073709551616:Int)).toNat=b;omega
 rw[BitVec.toNat_or,g,h,bt,bt];have i:a ||| b<2^64:=Nat.or_lt_two_pow O O
 rw[IntKind.wrap_u64];have:(2:Nat)^64=18446744073709551616:=ae;omega
def aD1{a b:Int}(c:0<=a)(d:a<4294967296)(e:0<=b)(f:b<4294967296):IntKind.u32.wrap (((BitVec.ofInt IntKind.u32.bits a) ||| (BitVec.ofInt IntKind.u32.bits b)).toNat:Int)=((a.toNat ||| b.toNat:Nat):Int):=by
 obtain⟨a,rfl⟩:=Ae c;obtain⟨b,rfl⟩:=Ae e;have g:(BitVec.ofInt IntKind.u32.bits (a:Int)).toNat=a:=by rw[H0];show((a:Int)%(4294967296:Int)).toNat=a;omega
 have h:(BitVec.ofInt IntKind.u32.bits (b:Int)).toNat=b:=by rw[H0];show((b:Int)%(4294967296:Int)).toNat=b;omega
 rw[BitVec.toNat_or,g,h,bt,bt];have i:a ||| b<2^32:=Nat.or_lt_two_pow O O
 rw[IntKind.wrap_u32];have:(2:Nat)^32=4294967296:=ae;omega
def wide{x y:Int}(a:b5 x)(b:b5 y):IntKind.u64.wrap (((BitVec.ofInt IntKind.u64.bits (IntKind.u64.wrap (IntKind.u64.wrap x*2^min (Int.toNat 32) IntKind.u64.bits))) ||| (BitVec.ofInt IntKind.u64.bits (IntKind.u64.wrap y))).toNat:Int)=x*4294967296+y:=by
 have c:=cD.1 a;have d:=cD.1 b;have e:IntKind.u64.wrap x=x:=by rw[IntKind.wrap_u64];omega
 have f:IntKind.u64.wrap y=y:=by rw[IntKind.wrap_u64];omega
 rw[e,f,ahR a,ae6 O O O O,Nat.or_comm];have:=SA (t:=y) (lo:=x*4294967296) (s:=32) O (by show y<4294967296;omega) O ⟨x,by show x*4294967296=4294967296*x;omega⟩;rw[this];omega
def adS(h:aT a=[])(b:Dg a):nV a=0:=by rw[<-i_,h];rfl
def ai5(h:(((aT a).length:Int)==0)=true):0=nV a:=by have h:((aT a).length:Int)=0:=an h;have:aT a=[]:=fR O;rw[<-i_,this];rfl
def aI6(c:Dg a)(h:(((aT a).length:Int)==1)=true)(b:(aT a)[(0:Int).toNat]?=some d):IntKind.u64.wrap d=nV a:=by
 have h:((aT a).length:Int)=1:=an h;have e:=cD.1 (c.fe.at b);rw[<-i_,IntKind.wrap_u64]
 match f:aT a,h with
 |[y],_=>rw[f]at b;have:d=y:=an b.symm;subst this;simp only[nV];omega
def aI7(i:Dg a)(h:(((aT a).length:Int)==2)=true)(b:(aT a)[(1:Int).toNat]?=some d)(c:(aT a)[(0:Int).toNat]?=some r):d*4294967296+r=nV a:=by
 have h:((aT a).length:Int)=2:=an h;rw[<-i_]
 match e:aT a,h with
 |[u,v],_=>rw[e]at b c;have f:d=v:=an b.symm;have g:r=u:=an c.symm;subst f g;simp only[nV];omega
def aI8(a:ao)(h:Dg a/\a.length<=2):bh 213 [wL .u32 a] (tT [qE (nV a),bE true]):=by
 refine vF func213 rfl [vE] [] ?_;repeat' first|intro _|apply aQ
 all_goals first|exact bj|with_reducible rfl|omega|((with_reducible show(_&&_)=true);kernel_rfl)| (with_reducible first|exact ai5 Y|exact aI6 h.1 Y Y)|rw[wide (h.1.fe.at Y) (h.1.fe.at Y)];exact aI7 h.1 Y Y Y|have g:=ml a;have b:=h.2;simp only[gQ,jJ,iI,jq]at*;omega
def asR:=dj (.ls W.u32) aI8
def BI(h:b5 d):IntKind.u64.wrap d=d:=by rw[cD]at h;rw[IntKind.wrap_u64];omega
def as4(a:b5 r)(b:b5 d)(c:r<d)(e:IntKind.u64.wrap d=0):False:=by rw[BI b]at e;rw[cD]at a;omega
def Zy(c:b5 r)(e:b5 p)(b:b5 d)(a:r<d):0<=(r*4294967296+p)/d/\(r*4294967296+p)/d<4294967296/\0<=(r*4294967296+p)%d/\(r*4294967296+p)%d<4294967296:=by have f:=cD.1 c;have g:=cD.1 b;have:=Z_ f.1 a e b;exact⟨this.1,this.2,rE _ O,by have:=sG (r*4294967296+p) (show 0<d by omega);omega⟩
def as2(a:b5 r)(b:b5 p)(e:b5 d)(c:r<d):IntKind.u32.wrap (IntKind.u64.wrap ((IntKind.u64.wrap (((BitVec.ofInt IntKind.u64.bits (IntKind.u64.wrap (IntKind.u64.wrap r*2^min (Int.toNat 32) IntKind.u64.bits))) ||| (BitVec.ofInt IntKind.u64.bits (IntKind.u64.wrap p))).toNat:Int)).tdiv (IntKind.u64.wrap d)))=(r*4294967296+p)/d:=by have f:=cD.1 a;have g:=cD.1 b;have h:=Zy a b e c;rw[wide a b,BI e,NF O,IntKind.wrap_u64,IntKind.wrap_u32];omega
def as3(a:b5 r)(b:b5 p)(e:b5 d)(c:r<d):IntKind.u32.wrap ((IntKind.u64.wrap (((BitVec.ofInt IntKind.u64.bits (IntKind.u64.wrap (IntKind.u64.wrap r*2^min (Int.toNat 32) IntKind.u64.bits))) ||| (BitVec.ofInt IntKind.u64.bits (IntKind.u64.wrap p))).toNat:Int)).tmod (IntKind.u64.wrap d))=(r*4294967296+p)%d:=by have f:=cD.1 a;have g:=cD.1 b;have h:=Zy a b e c;rw[wide a b,BI e,yv O,IntKind.wrap_u32];omega
def atj(x y d:Int)(h:b5 x/\b5 y/\b5 d/\x<d):bh 281 [wI .u32 x,wI .u32 y,wI .u32 d] (tT [uE ((x*4294967296+y)/d),uE ((x*4294967296+y)%d)]):=by
 refine vF func281 rfl [] [] ?_;repeat' first|intro _|apply aQ
 all_goals first|exact bj|omega|((with_reducible show(_&&_)=true);kernel_rfl)|with_reducible exact as4 h.1 h.2.2.1 h.2.2.2 Y|exfalso;rename_i g;have g:=dO g;have a:=h.2.2.2;omega|exact as2 h.1 h.2.1 h.2.2.1 h.2.2.2|exact as3 h.1 h.2.1 h.2.2.1 h.2.2.2
def Zd:=wK (.int .u32) (.int .u32) (.int .u32) atj
def dsz(h:0<d):¬(d==0)=true:=by simp;omega
def ym{a:ao}{d:Int}(h:mR a d):=(mR.eq_1 ..).mp h
def Vl{z:ao}(h:mR a d)(g:qI a d x r z):x<=a.length/\z.length=a.length/\0<=r/\r<d/\b5 r/\Dg z:=by unfold mR at h;unfold qI at g;have:=cD.1 h.2.1;exact⟨g.1,g.2.1,g.2.2.2.1,g.2.2.2.2.1,cD.2 ⟨O,O⟩,g.2.2.1⟩
def akj(h:mR a d)(g:qI a d x r v)(c:decide (0<=(x:Int)-1)=true)(b:a[((x:Int)-1).toNat]?=some p):
 qI a d (x-1) ((r*4294967296+p)%d) (v.set ((x:Int)-1).toNat ((r*4294967296+p)/d)):=by
 simp only[be]at c;have e:((x:Int)-1).toNat=x-1:=O;rw[e]at b⊢;refine aki h ?_ b;have:x-1+1=x:=O;rw[this];exact g
def Vk(h:mR a d)(g:qI a d x r v)(b:decide (0<=(x:Int)-1)=false):aT v=cT (nV a/d).toNat/\r=nV a%d:=by simp only[bc]at b;have e:x=0:=O;rw[e]at g;have:=akh h g;exact⟨by rw[s9 this.2.2,this.1],this.2.1⟩
def tJ(h:mR a d):mR (aT a) d/\nV (aT a)=nV a:=by have g:=ym h;refine⟨by unfold mR;exact⟨g.1.fe,g.2.1,g.2.2.1,dH (ml a) g.2.2.2⟩,i_ a⟩
def atk(a:ao)(d:Int)(h:mR a d):bh 260 [wL .u32 a,wI .u32 d] (tT [lE .u32 (cT (nV a/d).toNat),uE (nV a%d),bE true]):=by
 refine vF func260 rfl [vE,Zd] [(7,⟨Nat×Int×List Int,λv=>⟨[(0,lT .u32 (aT a)),(1,uT d),(7,.e (.c (.aX 0 (U:=Un) W.u32 (aT a).length))),(8,uT v.2.1),(9,iT ((v.1:Int)-1))],[(0,.aW (U:=Un) W.u32 v.2.2)],1⟩,λv=>qI (aT a) d v.1 v.2.1 v.2.2/\True,λv=>v.1⟩)] ?_;repeat' first|intro _|apply aQ|refine aS ((aT a).length,0,List.replicate (aT a).length 0) (aQ ?_ λ(x:Nat×Int×List Int) (b:qI (aT a) d x.1 x.2.1 x.2.2/\True)=>?_)|refine aS (x.1-1,?c,?z) ?_
 all_goals first| (with_reducible first|show Int|show List Int)|exact bj|with_reducible rfl|omega|exfalso;rename_i g;exact dsz (ym h).2.2.1 g|simp only[bt];done|have k:=ym (tJ h).1;show 4*_<=_;omega|have k:=ym (tJ h).1;omega|have g:=Vl (tJ h).1 b.1;have k:=ym (tJ h).1;simp only[be,bc]at*;omega|with_reducible exact(Vl (tJ h).1 b.1).2.2.2.2.1|exact(ym (tJ h).1).1.at Y|with_reducible exact(ym h).2.1|exact akg (tJ h).1|exact akj (tJ h).1 b.1 Y Y|rw[(Vk (tJ h).1 b.1 Y).1,(tJ h).2]|rw[(Vk (tJ h).1 b.1 Y).2,(tJ h).2]
def arK:=eI (.ls W.u32) (.int .u32) atk
def BT{u2 u1 u0 v1 v2:Int}(h:EP u2 u1 u0 v1 v2):=(EP.eq_1 ..).mp h
theorem H9{u2 u1 u0 v1 v2 d:Int}(g:EG u2 u1 u0 v1 v2 d r p):b5 d/\b5 r/\0<=p/\p<=1:=by unfold EG at g;exact⟨g.1,g.2.1,g.2.2.1,g.2.2.2.1⟩
section
variable {u2 u1 u0 v1 v2:Int}(h:EP u2 u1 u0 v1 v2){x:Int×Int×Int}(hx:EG u2 u1 u0 v1 v2 x.1 x.2.1 x.2.2∧True)
include h
theorem akz(a:decide (v1<=u2)=true):EG u2 u1 u0 v1 v2 4294967295 ((u1+v1+0)%4294967296) ((u1+v1+0)/4294967296):=akx h (dO a)
theorem akA(a:decide (v1<=u2)=false):EG u2 u1 u0 v1 v2 ((u2*4294967296+u1)/v1) ((u2*4294967296+u1)%v1) 0:=aky h (Int.not_le.1 (cQ a))
include hx
theorem akC{b:Bool}(a:(x.2.2==0)=b)(c:b=false):x.1=jV u2 u1 u0 v1 v2:=by
 rw[c]at a;have k:=H9 hx.1;have:x.2.2=1:=by have:x.2.2≠0:=an a;omega
 exact Vv h hx.1 (.inl this)
theorem Vy(I:x.1*v2<=x.2.1*4294967296+u0):x.1=jV u2 u1 u0 v1 v2:=Vv h hx.1 (.inr I)
theorem akD(I:decide (x.1*v2/4294967296<x.2.1)=true):x.1=jV u2 u1 u0 v1 v2:=by have I:=dO I;have k:=cD.1 (BT h).2.2.1;exact Vy h hx O
theorem akE(b:(x.1*v2/4294967296==x.2.1)=true)(a:decide (x.1*v2%4294967296<=u0)=true):x.1=jV u2 u1 u0 v1 v2:=by have b:x.1*v2/4294967296=x.2.1:=an b;have a:=dO a;exact Vy h hx O
theorem akF(a:(x.2.2==0)=true)(I:x.2.1*4294967296+u0<x.1*v2):EG u2 u1 u0 v1 v2 (x.1-1) ((x.2.1+v1+0)%4294967296) ((x.2.1+v1+0)/4294967296)/\0<x.1:=by have a:x.2.2=0:=an a;have g:=hx.1;rw[a]at g;exact akB h g I
theorem Vt(b:decide (x.1*v2/4294967296<x.2.1)=false)(a:(x.1*v2/4294967296==x.2.1)=false):x.2.1*4294967296+u0<x.1*v2:=by have b:=cQ b;have a:x.1*v2/4294967296≠x.2.1:=an a;have k:=cD.1 (BT h).2.2.1;omega
theorem Vu(b:(x.1*v2/4294967296==x.2.1)=true)(a:decide (x.1*v2%4294967296<=u0)=false):x.2.1*4294967296+u0<x.1*v2:=by have b:x.1*v2/4294967296=x.2.1:=an b;have a:=cQ a;omega
theorem Vz(a:(x.2.2==0)=true)(I:x.2.1*4294967296+u0<x.1*v2):EG u2 u1 u0 v1 v2 (IntKind.u32.wrap (x.1-1)) ((x.2.1+v1+0)%4294967296) ((x.2.1+v1+0)/4294967296)/\(IntKind.u32.wrap (x.1-1)).toNat<x.1.toNat:=by
 have g:=akF h hx a I;have k:=cD.1 (H9 hx.1).1;have e:IntKind.u32.wrap (x.1-1)=x.1-1:=by rw[IntKind.wrap_u32];omega
 rw[e];exact⟨g.1,O⟩
end
theorem auS(u2 u1 u0 v1 v2:Int)(h:EP u2 u1 u0 v1 v2):bh 262 [wI .u32 u2,wI .u32 u1,wI .u32 u0,wI .u32 v1,wI .u32 v2] (uT (jV u2 u1 u0 v1 v2)):=by
 refine vF func262 rfl [FW,Zd,Pq] [(6,⟨Int×Int×Int,λv=>⟨[(0,uT u2),(1,uT u1),(2,uT u0),(3,uT v1),(4,uT v2),(11,uT v.1),(12,uT v.2.1),(13,uT v.2.2)],[],0⟩,λx=>EG u2 u1 u0 v1 v2 x.1 x.2.1 x.2.2/\True,λv=>v.1.toNat⟩)] ?_;repeat' first|intro _|apply aQ|refine aS (?_,?_,?_) (aQ ?_ λ(x:Int×Int×Int)(hx:EG u2 u1 u0 v1 v2 x.1 x.2.1 x.2.2/\True)=>?_)|refine aS (?_,?_,?_) ?_
 all_goals first| (with_reducible first|show Int|show List Int|show Nat)|exact bj|with_reducible rfl|omega| (with_reducible first|exact(BT h).1|exact(BT h).2.1|exact(BT h).2.2.2.1|exact(BT h).2.2.2.2.1|exact(H9 hx.1).1|exact(H9 hx.1).2.1)|simp only[bc]at*;omega|exact akz h Y|exact akA h Y| (with_reducible first|exact akC h hx Y rfl|exact akE h hx Y Y)|exact(Vz h hx Y (by first|exact Vt h hx Y Y|exact Vu h hx Y Y)).1|exact(Vz h hx Y (by first|exact Vt h hx Y Y|exact Vu h hx Y Y)).2|rename_i g;exact akD h hx g
def ct5{P:ax}{U:gD}(V:bY P U)(f:FuncId)(l k j i g:qQ U)(Pre:l.T->k.T->j.T->i.T->g.T->Prop)(R:l.T->k.T->j.T->i.T->g.T->ST U)(h:∀x y z u v,Pre x y z u v->lW P f [(iU V l x).aI,(iU V k y).aI,(iU V j z).aI,(iU V i u).aI,(iU V g v).aI] (R x y z u v).aI):Ct P U where
 f:=f
 run args K:=match args with|[a,b,c,d,e]=>oK V l a λx=>oK V k b λy=>oK V j c λz=>oK V i d λu=>oK V g e λv=>Pre x y z u v/\K (R x y z u v)|_=>False
 ok args K hr:=by
  split at hr
  ·obtain⟨x,e,hr⟩:=qq hr;obtain⟨y,t,hr⟩:=qq hr;obtain⟨z,s,hr⟩:=qq hr;obtain⟨u,r,hr⟩:=qq hr;obtain⟨v,q,p,m⟩:=qq hr;exact⟨_,by simp only[de,gW,e,t,s,r,q];exact h x y z u v p,m⟩
  ·cases hr
def arP:Ct prog Un:=ct5 Vw 262 (.int .u32) (.int .u32) (.int .u32) (.int .u32) (.int .u32) (λ(a:Int)(b:Int)(c:Int)(d:Int)(e:Int)=>EP a b c d e) (λ(a:Int)(b:Int)(c:Int)(d:Int)(e:Int)=>uT (jV a b c d e)) (λa b c d e h=>auS a b c d e h)
def auo:gv prog 263:=gY func263 af rfl
def aup:gv prog 264:=gY func264 af rfl
section
variable {Z:ao}{o n:Nat}{v:ao}{d:Int}(h:rQ Z o n v d)
include h
def E_:=(rQ.eq_1 ..).mp h
variable {x:Nat×Int×Int×List Int}(hx:sU Z o n v d x.1 x.2.1 x.2.2.1 x.2.2.2∧True)
include hx
theorem yL:x.1<=v.length/\x.2.2.2.length=Z.length/\b5 x.2.1/\0<=x.2.2.1/\x.2.2.1<=1/\Dg x.2.2.2:=by have g:=hx.1;unfold sU at g;exact⟨g.1,g.2.1.1,g.2.2.2.1,g.2.2.2.2.1,g.2.2.2.2.2.1,g.2.2.1⟩
theorem ami(a:b5 r):0<=r*d/\r*d<=18446744065119617025:=by have b:=cD.1 (E_ h).2.2.2.2.2;rw[cD]at a;refine⟨pU a.1 b.1,?_⟩;exact yu (wW (show r<=4294967295 by omega) b.1) O
def SMn(b:v[((x.1:Nat):Int).toNat]?=some p)(c:x.2.2.2[o+((x.1:Nat):Int).toNat]?=some r):
 sU Z o n v d (x.1+1) (IntKind.u32.wrap (p*d/4294967296+(p*d%4294967296+x.2.1+0)/4294967296)) (if r<(p*d%4294967296+x.2.1+0)%4294967296+x.2.2.1 then 1 else 0) (x.2.2.2.set (o+((x.1:Nat):Int).toNat) ((r-(p*d%4294967296+x.2.1+0)%4294967296-x.2.2.1)%4294967296)):=by
 have l:=yL h hx;have g:=ami h hx ((E_ h).2.2.2.2.1.at b);have i:=cD.1 l.2.2.1;rw[bt]at b c⊢;have e:IntKind.u32.wrap (p*d/4294967296+(p*d%4294967296+x.2.1+0)/4294967296)=(p*d+x.2.1)/4294967296:=by generalize p*d=a at*;rw[IntKind.wrap_u32];omega
 have f:(p*d%4294967296+x.2.1+0)%4294967296=(p*d+x.2.1)%4294967296:=by generalize p*d=a at*;omega
 rw[e,f];exact amh h hx.1 c b
def WN(c:decide (((x.1:Nat):Int)<(v.length:Int))=false)(b:x.2.2.2[o+((v.length:Nat):Int).toNat]?=some r):
 x.2.2.2.set (o+((v.length:Nat):Int).toNat) ((r-x.2.1-x.2.2.1)%4294967296)=qA Z o n v d/\((if r<x.2.1+x.2.2.1 then(1:Int)else 0) !=0)=sw Z o n v d:=by
 have l:=yL h hx;simp only[bc]at c;have e:x.1=v.length:=O;rw[bt]at b⊢;have g:=hx.1;rw[e]at g;have k:=amg h g b;refine⟨k.1,?_⟩;rw[<-k.2];split
 ·rename_i a;rw[qd a];rfl
 ·rename_i a;rw[rX a];rfl
end
section
variable {Z:ao}{o n:Nat}{v:ao}(h:rz Z o n v)
include h
def U7:=(rz.eq_1 ..).mp h
variable {x:Nat×Int×List Int}(hx:sy Z o n v x.1 x.2.1 x.2.2∧True)
include hx
theorem Er:x.1<=v.length/\x.2.2.length=Z.length/\0<=x.2.1/\x.2.1<=1/\Dg x.2.2:=by have g:=hx.1;unfold sy at g;exact⟨g.1,g.2.1.1,g.2.2.2.1,g.2.2.2.2.1,g.2.2.1⟩
def ABn(a:v[((x.1:Nat):Int).toNat]?=some p)(b:x.2.2[o+((x.1:Nat):Int).toNat]?=some r):
 sy Z o n v (x.1+1) ((r+p+x.2.1)/4294967296) (x.2.2.set (o+((x.1:Nat):Int).toNat) ((r+p+x.2.1)%4294967296)):=by
 rw[bt]at a b⊢;exact ajQ h hx.1 b a
def ABe(b:decide (((x.1:Nat):Int)<(v.length:Int))=false)(a:x.2.2[o+((v.length:Nat):Int).toNat]?=some r):
 x.2.2.set (o+((v.length:Nat):Int).toNat) (IntKind.u32.wrap (r+x.2.1))=xj Z o n v:=by
 have l:=Er h hx;simp only[bc]at b;have e:x.1=v.length:=O;rw[bt]at a⊢;have g:=hx.1;rw[e]at g;rw[IntKind.wrap_u32];exact ajP h g a
end
def aH6(Z:ao)(o n:Nat)(v:ao)(d:Int)(h:rQ Z o n v d):dA prog 263 (bX (cy [(0,aZ.aW (U:=Un) W.u32 Z)])) ([.c (.sub 0 (U:=Un) W.u32 o n),lE .u32 v,uE d].map SE.aI) (bX (cy [(0,aZ.aW (U:=Un) W.u32 (qA Z o n v d))])) (·∈[0]) (bT (sw Z o n v d)).aI:=by
 refine vO func263 rfl ⟨[FW,Zu,Pq],[]⟩ [(3,⟨Nat×Int×Int×List Int,λw=>⟨[(0,.e (.c (.sub 0 (U:=Un) W.u32 o n))),(1,lT .u32 v),(2,uT d),(7,uT w.2.1),(8,uT w.2.2.1),(15,lT .u32 v),(16,iT v.length),(17,iT w.1)],[(0,.aW (U:=Un) W.u32 w.2.2.2)],1⟩,λx=>sU Z o n v d x.1 x.2.1 x.2.2.1 x.2.2.2/\True,λw=>v.length-w.1⟩)] [0] ⟨[(6,bT (sw Z o n v d))],[(0,.aW (U:=Un) W.u32 (qA Z o n v d))],1⟩ ?_;repeat' first|intro _|apply aQ|refine aS (0,0,0,Z) (aQ ?_ λ(x:Nat×Int×Int×List Int)(hx:sU Z o n v d x.1 x.2.1 x.2.2.1 x.2.2.2/\True)=>?_)|refine aS (x.1+1,?_,?_,?_) ?_
 all_goals first| (with_reducible first|show Int|show List Int|show Nat)|exact bj|with_reducible rfl|omega| (with_reducible first|exact(yL h hx).2.2.1|exact(E_ h).2.2.2.2.2)|exact(E_ h).2.2.2.2.1.at Y|exact(yL h hx).2.2.2.2.2.at Y| (with_reducible first|exact(yL h hx).2.2.2.1|exact(yL h hx).2.2.2.2.1|exact amf h)|exact SMn h hx Y Y|exact(WN h hx Y Y).1|exact(WN h hx Y Y).2|have l:=yL h hx;have u:=E_ h;simp only[be,bc]at*;omega|have k:=cD.1 (yL h hx).2.2.1;rw[cD];omega
def amU(Z:ao)(o n:Nat)(v:ao)(h:rz Z o n v):dA prog 264 (bX (cy [(0,aZ.aW (U:=Un) W.u32 Z)])) ([.c (.sub 0 (U:=Un) W.u32 o n),lE .u32 v].map SE.aI) (bX (cy [(0,aZ.aW (U:=Un) W.u32 (xj Z o n v))])) (·∈[0]) (ST.cE (U:=Un) []).aI:=by
 refine vO func264 rfl ⟨[FW],[]⟩ [(2,⟨Nat×Int×List Int,λw=>⟨[(0,.e (.c (.sub 0 (U:=Un) W.u32 o n))),(1,lT .u32 v),(4,uT w.2.1),(7,lT .u32 v),(8,iT v.length),(9,iT w.1)],[(0,.aW (U:=Un) W.u32 w.2.2)],1⟩,λx=>sy Z o n v x.1 x.2.1 x.2.2/\True,λw=>v.length-w.1⟩)] [0] ⟨[],[(0,.aW (U:=Un) W.u32 (xj Z o n v))],1⟩ ?_;repeat' first|intro _|apply aQ|refine aS (0,0,Z) (aQ ?_ λ(x:Nat×Int×List Int)(hx:sy Z o n v x.1 x.2.1 x.2.2/\True)=>?_)|refine aS (x.1+1,?_,?_) ?_
 all_goals first| (with_reducible first|show Int|show List Int|show Nat)|exact bj|with_reducible rfl|omega|exact(U7 h).2.2.2.2.at Y|exact(Er h hx).2.2.2.2.at Y| (with_reducible first|exact(Er h hx).2.2.1|exact(Er h hx).2.2.2.1|exact ajO h)|exact ABn h hx Y Y|exact ABe h hx Y Y|have l:=Er h hx;have u:=U7 h;simp only[be,bc]at*;omega
def agW(H:List (Nat×aZ Un))(args:List (SE Un))(K:iA Un->Prop):Prop:=
 match H,args with
 |[(0,.aW W.u32 Z)],[.c (.sub 0 W.u32 o n),.c (.d (.bN W.u32 v)),.c (.d (.sc (.int .u32 d)))]=>rQ Z o n v d/\K ⟨bT (sw Z o n v d),[(0,.aW (U:=Un) W.u32 (qA Z o n v d))],[],[0]⟩
 |_,_=>False
def aDt:gy prog Un where
 f:=263
 iu:=auo
 run:=agW
 ok H args K h:=by
  unfold agW at h;split at h
  ·rename_i Z o n v d;obtain⟨e,c⟩:=h;refine⟨_,?_,λu a b=>?_,c⟩
   ·exact(aH6 Z o n v d e).gL λu a=>by have:u<1:=a.1;simp;omega
   ·have:u<1:=a;simp at b;omega
  ·cases h
def agu(H:List (Nat×aZ Un))(args:List (SE Un))(K:iA Un->Prop):Prop:=
 match H,args with
 |[(0,.aW W.u32 Z)],[.c (.sub 0 W.u32 o n),.c (.d (.bN W.u32 v))]=>rz Z o n v/\K ⟨.cE [],[(0,.aW (U:=Un) W.u32 (xj Z o n v))],[],[0]⟩
 |_,_=>False
def aDd:gy prog Un where
 f:=264
 iu:=aup
 run:=agu
 ok H args K h:=by
  unfold agu at h;split at h
  ·rename_i Z o n v;obtain⟨e,c⟩:=h;refine⟨_,?_,λu a b=>?_,c⟩
   ·exact(amU Z o n v e).gL λu a=>by have:u<1:=a.1;simp;omega
   ·have:u<1:=a;simp at b;omega
  ·cases h
def bL(x:Int):Nat:=Go.Lib.bitLen x.toNat
def l8:List UInt8:=[0,1]++List.replicate 2 2++List.replicate 4 3++List.replicate 8 4++List.replicate 16 5++List.replicate 32 6++List.replicate 64 7++List.replicate 128 8
def ayK:∀n:Fin 256,(l8.getD n.val 0).toNat=Go.Lib.bitLen n.val:=by decide+kernel
theorem t8{s:az}(I:s.data.toList=l8){y:Int}(a:0<=y)(b:y<256):IntKind.i64.wrap ((s.data.toList.getD (IntKind.u8.wrap y).toNat 0).toNat:Int)=(bL y:Int)/\bL y<=8:=by
 have e:IntKind.u8.wrap y=y:=by rw[IntKind.wrap_u8];omega
 have k:(l8.getD y.toNat 0).toNat=Go.Lib.bitLen y.toNat:=ayK ⟨y.toNat,O⟩;have k2:Go.Lib.bitLen y.toNat<=8:=Go.Lib.bitLen_le8 ⟨y.toNat,O⟩;rw[I,e];unfold bL;rw[k,IntKind.wrap_i64];refine⟨O,k2⟩
theorem MP{s:az}(I:s.data.toList=l8)(a:0<=d)(b:d<256):0<=IntKind.u8.wrap d/\IntKind.u8.wrap d<(s.size:Int):=by
 have e:s.size=256:=by show s.data.size=256;rw[<-BK,I];kernel_rfl
 rw[e,IntKind.wrap_u8];omega
def aa3{x:Int}(h:b5 x):x.fdiv (2^min (Int.toNat 16) IntKind.u32.bits)=x/65536:=by rw[cD]at h;show x.fdiv 65536=_;rw[yt _ O]
def fd8(x:Int):x.fdiv (2^min (Int.toNat 8) IntKind.u32.bits)=x/256:=by show x.fdiv 256=_;rw[yt _ O]
def XM{x:Int}(h:b5 x)(a:65536<=x):bL x=16+bL (x/65536):=by rw[cD]at h;unfold bL;have e:(x/65536).toNat=x.toNat/65536:=O;rw[e];exact Go.Lib.bitLen_shift16 _ O O
def XN{x:Int}(h:b5 x)(a:256<=x):bL x=8+bL (x/256):=by rw[cD]at h;unfold bL;have e:(x/256).toNat=x.toNat/256:=O;rw[e];exact Go.Lib.bitLen_shift8 _ O O
def apk:∀x:Nat,x<2^64->x<2^Go.Lib.bitLen x:=by
 intro x
 induction x using Nat.strongRecOn with
 |_ x b=>
  intro h;by_cases a:x=0
  ·subst a;exact IR _
  ·rw[Go.Lib.bitLen_half x a h,B_];have:=b (x/2) O O;omega
def XO{x:Int}(h:b5 x)(b:0<x):1<=bL x/\bL x<=32/\x<2^bL x:=by
 rw[cD]at h;have a:=Go.Lib.bitLen_le x.toNat 32 ae O;have c:=apk x.toNat O;have d:=Go.Lib.bitLen_half x.toNat O O;refine⟨by unfold bL;omega,a,?_⟩;unfold bL;have e:((2^Go.Lib.bitLen x.toNat:Nat):Int)=(2:Int)^Go.Lib.bitLen x.toNat:=by rw[B0];rfl
 rw[<-e];omega
section
variable {s:az}(I:s.data.toList=l8){x:Int}(h:b5 x)
include I h
theorem KT(b:decide (65536<=x)=true)(a:decide (256<=x.fdiv (2^min (Int.toNat 16) IntKind.u32.bits))=true):
 (16+8+IntKind.i64.wrap ((s.data.toList.getD (IntKind.u8.wrap ((x.fdiv (2^min (Int.toNat 16) IntKind.u32.bits)).fdiv (2^min (Int.toNat 8) IntKind.u32.bits))).toNat 0).toNat:Int)=(bL x:Int)/\bL x<=32)/\0<=IntKind.u8.wrap ((x.fdiv (2^min (Int.toNat 16) IntKind.u32.bits)).fdiv (2^min (Int.toNat 8) IntKind.u32.bits))/\IntKind.u8.wrap ((x.fdiv (2^min (Int.toNat 16) IntKind.u32.bits)).fdiv (2^min (Int.toNat 8) IntKind.u32.bits))<(s.size:Int):=by
 rw[aa3 h]at a⊢;rw[fd8];have b:=dO b;have a:=dO a;have d:=cD.1 h;have c:b5 (x/65536):=cD.2 ⟨O,O⟩;have k:=t8 I (y:=x/65536/256) O O;have f:=XM h b;have e:=XN c a;exact⟨O,MP I O O⟩
theorem KU(b:decide (65536<=x)=true)(a:decide (256<=x.fdiv (2^min (Int.toNat 16) IntKind.u32.bits))=false):
 (16+IntKind.i64.wrap ((s.data.toList.getD (IntKind.u8.wrap (x.fdiv (2^min (Int.toNat 16) IntKind.u32.bits))).toNat 0).toNat:Int)=(bL x:Int)/\bL x<=32)/\0<=IntKind.u8.wrap (x.fdiv (2^min (Int.toNat 16) IntKind.u32.bits))/\IntKind.u8.wrap (x.fdiv (2^min (Int.toNat 16) IntKind.u32.bits))<(s.size:Int):=by
 rw[aa3 h]at a⊢;have b:=dO b;have a:=cQ a;have c:=cD.1 h;have k:=t8 I (y:=x/65536) O O;have d:=XM h b;exact⟨O,MP I O O⟩
theorem KV(b:decide (65536<=x)=false)(a:decide (256<=x)=true):
 (0+8+IntKind.i64.wrap ((s.data.toList.getD (IntKind.u8.wrap (x.fdiv (2^min (Int.toNat 8) IntKind.u32.bits))).toNat 0).toNat:Int)=(bL x:Int)/\bL x<=32)/\0<=IntKind.u8.wrap (x.fdiv (2^min (Int.toNat 8) IntKind.u32.bits))/\IntKind.u8.wrap (x.fdiv (2^min (Int.toNat 8) IntKind.u32.bits))<(s.size:Int):=by
 rw[fd8];have b:=cQ b;have a:=dO a;have c:=cD.1 h;have k:=t8 I (y:=x/256) O O;have d:=XN h a;exact⟨O,MP I O O⟩
theorem KW(b:decide (65536<=x)=false)(a:decide (256<=x)=false):
 (0+IntKind.i64.wrap ((s.data.toList.getD (IntKind.u8.wrap x).toNat 0).toNat:Int)=(bL x:Int)/\bL x<=32)/\0<=IntKind.u8.wrap x/\IntKind.u8.wrap x<(s.size:Int):=by
 have b:=cQ b;have a:=cQ a;have c:=cD.1 h;have k:=t8 I (y:=x) O O;exact⟨O,MP I O O⟩
end
def Fk{x:Int}(h:b5 x):bL x<=32:=by rw[cD]at h;exact Go.Lib.bitLen_le x.toNat 32 ae O
def ay1(x:Int)(h:b5 x):bh 282 [wI .u32 x] (iT (bL x)):=by
 refine vF func282 rfl [] [] ?_;repeat' first|intro _|apply aQ
 all_goals first|exact bj|omega|rw[IntKind.wrap_u8];omega|exact(KT af h Y Y).1.1|exact(KT af h Y Y).2.2|rw[(KT af h Y Y).1.1];omega|rw[(KT af h Y Y).1.1];have k:=Fk h;omega|exact(KU af h Y Y).1.1|exact(KU af h Y Y).2.2|rw[(KU af h Y Y).1.1];omega|rw[(KU af h Y Y).1.1];have k:=Fk h;omega|exact(KV af h Y Y).1.1|exact(KV af h Y Y).2.2|rw[(KV af h Y Y).1.1];omega|rw[(KV af h Y Y).1.1];have k:=Fk h;omega|exact(KW af h Y Y).1.1|exact(KW af h Y Y).2.2|rw[(KW af h Y Y).1.1];omega|rw[(KW af h Y Y).1.1];have k:=Fk h;omega
def asd:=dj (.int .u32) ay1
def ayY(x:Int)(h:b5 x):bh 261 [wI .u32 x] (iT (32-bL x)):=by
 refine vF func261 rfl [asd] [] ?_;repeat' first|intro _|apply aQ
 all_goals first|exact bj|with_reducible rfl|omega|have k:=Fk h;omega
def asb:=dj (.int .u32) ayY
def wH{n:Nat}(h:n<=31):Pw (2^n)/\(2:Int)^n<=2147483648/\0<(2:Int)^n:=by
 have e:(2:Int)^n=((2^n:Nat):Int):=by rw[B0];rfl
 have d:(2:Nat)^n<=2^31:=Ca O h;have c:(2:Nat)^(32-n)*2^n=2^32:=by rw[<-B_];congr 1;omega
 have f:(2:Nat)^1<=2^(32-n):=Ca O O;have g:=IR n;refine⟨?_,by rw[e];omega,by rw[e];omega⟩;unfold Pw;refine⟨((2^(32-n):Nat):Int),by rw[e];omega,O,?_,O⟩;have b:((2^(32-n)*2^n:Nat):Int)=((2^32:Nat):Int):=by rw[c]
 rw[Ij]at b;rw[e,iy];exact b
@[irreducible] def rP(a:ao)(n:Int):=Dg a/\a.length<=1099511627776/\0<=n/\n<=31
section
variable {a:ao}{n:Int}(h:rP a n)
include h
def qR:=(rP.eq_1 ..).mp h
def Ch:tX (aT a) (2^n.toNat):=by have u:=qR h;unfold tX;exact⟨u.1.fe,(wH O).1,dH (ml a) u.2.1⟩
def WM:((min (max n 0) 16777216).tdiv 32)=0/\(min (max n 0) 16777216)=n/\IntKind.u64.wrap ((min (max n 0) 16777216).tmod 32)=n:=by have u:=qR h;have e:min (max n 0) 16777216=n:=O;rw[e,NF u.2.2.1,yv u.2.2.1,IntKind.wrap_u64];omega
def N6:((max n 0).tdiv 32)=0/\IntKind.u64.wrap ((max n 0).tmod 32)=n:=by have u:=qR h;have e:max n 0=n:=O;rw[e,NF u.2.2.1,yv u.2.2.1,IntKind.wrap_u64];omega
def shW{x:Int}(hx:b5 x):IntKind.u64.wrap (IntKind.u64.wrap x*2^min n.toNat IntKind.u64.bits)=x*2^n.toNat/\0<=x*2^n.toNat/\x*2^n.toNat<9223372036854775808:=by have u:=qR h;have t:=wH (n:=n.toNat) O;rw[cD]at hx;have e:min n.toNat IntKind.u64.bits=n.toNat:=kC (by show n.toNat<=64;omega);have b:0<=x*2^n.toNat:=pU hx.1 O;have c:x*2^n.toNat<=4294967295*2147483648:=Int.mul_le_mul O t.2.1 O O;rw[BI (cD.2 hx),e,IntKind.wrap_u64];omega
end
section
variable {a:ao}{n:Int}(h:rP a n){x:Nat×List Int}(hx:qL (aT a) (2^n.toNat) x.1 x.2∧True)
include h hx
theorem Ny:x.1<=(aT a).length/\x.2.length=(aT a).length+1/\Dg x.2:=by have g:=hx.1;unfold qL at g;exact⟨g.1,g.2.1,g.2.2.1⟩
def ak3{y:Int}(d:(aT a)[((x.1:Nat):Int).toNat]?=some y)(e:x.2[0+((x.1:Nat):Int).toNat]?=some t):
 qL (aT a) (2^n.toNat) (x.1+1) ((x.2.set (0+((x.1:Nat):Int).toNat) (IntKind.u32.wrap (((BitVec.ofInt IntKind.u32.bits t) ||| (BitVec.ofInt IntKind.u32.bits (IntKind.u32.wrap (IntKind.u64.wrap (IntKind.u64.wrap y*2^min n.toNat IntKind.u64.bits))))).toNat:Int))).set (0+(((x.1:Nat):Int)+1).toNat) (IntKind.u32.wrap ((IntKind.u64.wrap (IntKind.u64.wrap y*2^min n.toNat IntKind.u64.bits)).fdiv (2^min (Int.toNat 32) IntKind.u64.bits)))):=by
 have o:=Ch h;have u:=qR h;have p:0+(((x.1:Nat):Int)+1).toNat=x.1+1:=O;rw[bt]at d;rw[bt,ol]at e⊢;rw[p];have c:b5 y:=u.1.fe.at d;obtain⟨q,r⟩:=VI hx.1 e;have w:=shW h c;rw[w.1];have g:=ak1 o hx.1 d e;obtain⟨lo,hi,j,k,A,B,l,C,D,v⟩:=afQ (wH (n:=n.toNat) O).1 c;have z:IntKind.u32.wrap (y*2^n.toNat)=lo:=by rw[IntKind.wrap_u32,j]
 have f:(y*2^n.toNat).fdiv (2^min (Int.toNat 32) IntKind.u64.bits)=hi:=by show(y*2^n.toNat).fdiv 4294967296=hi;rw[yt _ O,k]
 have E:=(wH (n:=n.toNat) O).2;have b:=cD.1 q;have i:IntKind.u32.wrap hi=hi:=by rw[IntKind.wrap_u32];omega
 have m:(2:Int)^n.toNat=((2^n.toNat:Nat):Int):=by rw[B0];rfl
 rw[z,f,i,aD1 b.1 b.2 l O,SA (s:=n.toNat) b.1 (by rw[<-m];exact r) l (by rw[<-m];exact v)];rw[j,k]at g;exact g
def ak2(b:decide (((x.1:Nat):Int)<((aT a).length:Int))=false):aT x.2=cT (nV a*2^n.toNat).toNat:=by have l:=Ny h hx;simp only[bc]at b;have e:x.1=(aT a).length:=O;have g:=hx.1;rw[e]at g;have k:=ak0 g;rw[s9 k.2,k.1,i_]
end
def aHa{a:ao}{n:Nat}(b:Dg a)(h:(((aT a).length:Int)==0)=true):[]=cT (nV a*2^n).toNat:=by rw[<-ai5 h,Il];exact uu.symm
def aG_(a:ao)(n:Int)(h:rP a n):bh 197 [wL .u32 a,wI .i64 n] (lT .u32 (cT (nV a*2^n.toNat).toNat)):=by
 refine vF func197 rfl [vE] [(9,⟨Nat×List Int,λv=>⟨[(6,.e (.c (.d (.sc (.int .u64 n))))),(7,.e (.c (.aX 0 (U:=Un) W.u32 ((aT a).length+1)))),(8,.e (.c (.sub 0 (U:=Un) W.u32 0 ((aT a).length+1)))),(34,lT .u32 (aT a)),(35,iT (aT a).length),(36,iT v.1)],[(0,.aW (U:=Un) W.u32 v.2)],1⟩,λx=>qL (aT a) (2^n.toNat) x.1 x.2/\True,λv=>(aT a).length-v.1⟩)] ?_;repeat' first|intro _|apply aQ|refine aS (0,?_) (aQ ?_ λ(x:Nat×List Int) (hx:qL (aT a) (2^n.toNat) x.1 x.2/\True)=>?_)|refine aS (x.1+1,?_) ?_
 all_goals first
  | (with_reducible first|show Int|show List Int|show Nat)
  |exact bj
  |with_reducible rfl
  |omega
  |with_reducible exact(aHa (qR h).1 Y).symm
  |rw[rK];have l:=Ny h hx;simp only[be]at*;omega
  |(have u:=qR h;have q:=WM h;have l:=ml a;first|omega|rw[q.1];omega|show 4*_<=_;rw[q.1];omega)
  |exact ak3 h hx Y Y
  |exact ak2 h hx Y
  |have l:=Ny h hx;simp only[be]at*;omega
  |(rw[(WM h).1];have e:(0+((aT a).length:Int)+1).toNat=(aT a).length+1:=by omega
    rw[e];first|rfl|exact akZ (Ch h))
def asE:=eI (.ls W.u32) (.int .i64) aG_
section
variable {a:ao}{n:Int}(h:rP a n){x:Nat×List Int}(hx:rD (aT a) (2^n.toNat) x.1 x.2∧True)
include h hx
theorem VK:x.1<=(aT a).length/\x.2.length=(aT a).length/\Dg x.2:=by have g:=hx.1;unfold rD at g;exact⟨g.1,g.2.1,g.2.2.1⟩
theorem HRv{t:Int}(c:b5 d)(b:b5 t):IntKind.u32.wrap ((IntKind.u64.wrap (((BitVec.ofInt IntKind.u64.bits (IntKind.u64.wrap d)) ||| (BitVec.ofInt IntKind.u64.bits (IntKind.u64.wrap (IntKind.u64.wrap t*2^min (Int.toNat 32) IntKind.u64.bits)))).toNat:Int)).fdiv (2^min n.toNat IntKind.u64.bits))=(d+4294967296*t)/2^n.toNat%4294967296:=by have u:=qR h;have f:=cD.1 c;have g:=cD.1 b;have e:min n.toNat IntKind.u64.bits=n.toNat:=kC (by show n.toNat<=64;omega);have p:=(wH (n:=n.toNat) O).2.2;have:=SA (t:=d) (lo:=t*4294967296) (s:=32) O (by show d<4294967296;omega) O ⟨t,by show t*4294967296=4294967296*t;omega⟩;rw[BI c,BI b,ahR b,ae6 O O O O,this,e,yt _ O,IntKind.wrap_u32,iy t]
theorem ak_(b:b5 d):IntKind.u32.wrap ((IntKind.u64.wrap d).fdiv (2^min n.toNat IntKind.u64.bits))=(d+4294967296*0)/2^n.toNat%4294967296:=by have u:=qR h;have e:min n.toNat IntKind.u64.bits=n.toNat:=kC (by show n.toNat<=64;omega);have p:=(wH (n:=n.toNat) O).2.2;rw[BI b,e,yt _ O,IntKind.wrap_u32,Af,BX]
def ak8(b:(aT a)[((x.1:Nat):Int).toNat]?=some d)(c:(aT a)[(((x.1:Nat):Int)+1).toNat]?=some t):
 rD (aT a) (2^n.toNat) (x.1+1) (x.2.set ((x.1:Nat):Int).toNat (IntKind.u32.wrap ((IntKind.u64.wrap (((BitVec.ofInt IntKind.u64.bits (IntKind.u64.wrap d)) ||| (BitVec.ofInt IntKind.u64.bits (IntKind.u64.wrap (IntKind.u64.wrap t*2^min (Int.toNat 32) IntKind.u64.bits)))).toNat:Int)).fdiv (2^min n.toNat IntKind.u64.bits)))):=by
 have u:=qR h;have e:(((x.1:Nat):Int)+1).toNat=x.1+1:=O;rw[e]at c;rw[bt]at b⊢;rw[HRv h hx (u.1.fe.at b) (u.1.fe.at c)];exact VJ (Ch h) hx.1 b (by rw[c];rfl)
def ak7(b:(aT a)[((x.1:Nat):Int).toNat]?=some d)(c:decide (((x.1:Nat):Int)+1<((aT a).length:Int))=false):
 rD (aT a) (2^n.toNat) (x.1+1) (x.2.set ((x.1:Nat):Int).toNat (IntKind.u32.wrap ((IntKind.u64.wrap d).fdiv (2^min n.toNat IntKind.u64.bits)))):=by
 have u:=qR h;simp only[bc]at c;rw[bt]at b⊢;rw[ak_ h hx (u.1.fe.at b)];refine VJ (Ch h) hx.1 b ?_;rw[iM O];rfl
def ak6(b:decide (((x.1:Nat):Int)<((aT a).length:Int))=false):aT x.2=cT (nV a/2^n.toNat).toNat:=by have l:=VK h hx;simp only[bc]at b;have e:x.1=(aT a).length:=O;have g:=hx.1;rw[e]at g;have k:=ak5 (Ch h) g;rw[s9 k.2,k.1,i_]
end
def aHc{a:ao}{n:Int}(h:rP a n)(b:decide (((aT a).length:Int)<=(max n 0).tdiv 32)=true):[]=cT (nV a/2^n.toNat).toNat:=by rw[(N6 h).1]at b;have b:=dO b;have:nV a=0:=adS (fR O) (qR h).1;rw[this,Int.zero_ediv];exact uu.symm
def atn{a:ao}{n:Int}(h:rP a n):(aT a).drop ((max n 0).tdiv 32).toNat=aT a:=by rw[(N6 h).1];rfl
def aHb(a:ao)(n:Int)(h:rP a n):bh 265 [wL .u32 a,wI .i64 n] (lT .u32 (cT (nV a/2^n.toNat).toNat)):=by
 refine vF func265 rfl [vE] [(9,⟨Nat×List Int,λv=>⟨[(6,.e (.c (.d (.sc (.int .u64 n))))),(7,lT .u32 (aT a)),(8,.e (.c (.aX 0 (U:=Un) W.u32 ((aT a).length)))),(31,lT .u32 (aT a)),(32,iT (aT a).length),(33,iT v.1)],[(0,.aW (U:=Un) W.u32 v.2)],1⟩,λx=>rD (aT a) (2^n.toNat) x.1 x.2/\True,λv=>(aT a).length-v.1⟩)] ?_;repeat' first|intro _|apply aQ|refine aS (0,?_) (aQ ?_ λ(x:Nat×List Int) (hx:rD (aT a) (2^n.toNat) x.1 x.2/\True)=>?_)|refine aS (x.1+1,?_) ?_
 all_goals(try rw[atn h])
 all_goals first| (with_reducible first|show Int|show List Int|show Nat)|exact bj|with_reducible rfl|omega|with_reducible exact(aHc h Y).symm|(have u:=qR h;have q:=N6 h;have l:=ml a;first|omega|rw[q.1];omega|show 4*_<=_;rw[q.1];omega)|have u:=qR h;have l:=ml a;show 4*_<=_;omega|exact ak8 h hx Y Y|exact ak7 h hx Y Y|exact ak6 h hx Y|have l:=VK h hx;simp only[be]at*;omega|simp only[bt];exact ak4 (Ch h)
def asF:=eI (.ls W.u32) (.int .i64) aHb
namespace a_
def get(f:a_)(k:Int):aY:=if k=0 then f.a0 else if k=1 then f.a1 else if k=2 then f.a2 else if k=3 then f.a3 else f.a4
def set(f:a_)(k:Int)(x:aY):a_:=if k=0 then { f with a0:=x}else if k=1 then { f with a1:=x}else if k=2 then { f with a2:=x}else if k=3 then { f with a3:=x}else { f with a4:=x}
def neg(f:a_):a_:=⟨iD (-iV f.a0),iD (-iV f.a1),iD (-iV f.a2),iD (-iV f.a3),iD (-iV f.a4)⟩
def r_(a x b y:aY):aY:=iD (iV a*iV x+iV b*iV y)
def fC(a:aY)(f:a_)(b:aY)(g:a_):a_:=⟨r_ a f.a0 b g.a0,r_ a f.a1 b g.a1,r_ a f.a2 b g.a2,r_ a f.a3 b g.a3,r_ a f.a4 b g.a4⟩
def z:a_:=⟨⟨false,[]⟩,⟨false,[]⟩,⟨false,[]⟩,⟨false,[]⟩,⟨false,[]⟩⟩
end a_
def iK(a b:bO):bO:=⟨a.l++b.l,a.dw||b.dw||decide (300<(a.l++b.l).length)⟩
def n_(a b:List (List aR)):List (List aR):=a.flatMap λx=>b.map λy=>x++y
def jt(a b:bO):bO:=if a.dw||b.dw||decide (300<a.l.length*b.l.length)then⟨[],true⟩else⟨n_ a.l b.l,false⟩
def gC(k:Int)(f:a_):bO:=⟨[[⟨k,f⟩]],false⟩
def kL(r:aR):bO:=if r.aJ=0 then iK (gC 1 r.f) (gC 1 r.f.neg)else if r.aJ=1 then gC 2 r.f.neg else gC 1 r.f.neg
def sa(c:List aR):bO:=c.foldl (λs r=>iK s (kL r)) ⟨[],false⟩
def RI(l:List (List aR))(b:Bool):bO:=l.foldl (λs c=>jt s (sa c)) ⟨[[]],b⟩
def lR(s:bO):bO:=RI s.l s.dw
def iC(k:Int)(r:aR):Bool:=decide (r.aJ=0)&&decide (bm (r.f.get k)≠0)
def qc(c d:aY):aY:=if 0<bm c then iD (-iV d)else d
def zo(k:Int)(r t:aR):aR:=⟨t.aJ,.fC (iD (iV (r.f.get k)).natAbs) t.f (qc (r.f.get k) (t.f.get k)) r.f⟩
def vK(k:Int)(l:List aR)(i n:Nat):List aR:=(List.range n).flatMap λj=>if j=i then []else match l[i]?,l[j]? with|some r,some t=>[zo k r t]|_,_=>[]
def sk(k:Int)(r t:aR):List aR:=if 0<bm (r.f.get k)/\bm (t.f.get k)<0 then [⟨if r.aJ=1\/t.aJ=1 then 1 else 2,.fC (iD (-iV (t.f.get k))) r.f (r.f.get k) t.f⟩]else []
def s_(k:Int)(l:List aR)(r:aR)(n:Nat):List aR:=(if bm (r.f.get k)=0 then [r]else [])++(l.take n).flatMap (sk k r)
def vL(k:Int)(l:List aR)(n:Nat):List aR:=(l.take n).flatMap λr=>s_ k l r l.length
def ki(k:Int)(l:List aR):List aR:=match l.findIdx? (iC k)with|some i=>vK k l i l.length|none=>vL k l l.length
def qf(k:Int)(b:Bool):List (List aR)->List (List aR)->bO
 |[],a=>⟨a,b⟩
 |c::r,a=>if 60<(ki k c).length then⟨[],true⟩else qf k b r (a++[ki k c])
def k8(s:bO)(k:Int):bO:=qf k s.dw s.l []
def py(r:aR):Bool:=!(decide (r.aJ=0)&&decide (bm r.f.a4≠0)||decide (r.aJ=1)&&decide (0<=bm r.f.a4)||decide (r.aJ=2)&&decide (0<bm r.f.a4))
structure IB(n:Nat)(x:aY):Prop where
 c:x=iD (iV x)
 b:(iV x).natAbs<2^n
def IB.up{x:aY}(h:IB n x)(a:n<=j):IB j x:=⟨h.c,mz h.b (Ca O a)⟩
def IB.of(h:d.natAbs<2^n):IB n (iD d):=⟨by rw[fU],by rw[fU];exact h⟩
def IB.neg(h:IB n y):IB n (iD (-iV y)):=.of (by rw[Int.natAbs_neg];exact h.b)
def IB.aC(h:IB n y):IB n (iD ((iV y).natAbs:Int)):=.of (by have:=h.b;omega)
def IB.fC(d:IB n X)(e:IB x U)(f:IB n b)(g:IB x y):IB (n+x+1) (a_.r_ X U b y):=.of (by have h:=IP d.b e.b;have i:=IP f.b g.b;rw[<-Int.natAbs_mul,<-B_]at h i;have:=Int.natAbs_add_le (iV X*iV U) (iV b*iV y);rw[Nat.pow_succ];omega)
def aEz(n:Nat):(2^n:Nat)<=(4294967296:Nat)^n:=Nat.pow_le_pow_left O n
def IB.len(h:IB n y):y.aC.length<=n:=by
 rw[h.c];refine xF ?_;have a:=h.b;have d:=aEz n;unfold pB;have:((4294967296:Nat)^n:Nat)=((4294967296:Int)^n):=by rw[B0];rfl
 omega
def IB.dg{x:aY}(h:IB n x):Dg x.aC:=by rw[h.c];exact iv _
def IB.sd{x:aY}(h:IB n x)(a:n<=1000000):rO x:=⟨by have:=h.len;unfold Sm;omega,h.dg⟩
structure FB(n:Nat)(f:a_):Prop where
 c0:IB n f.a0
 c1:IB n f.a1
 c2:IB n f.a2
 c3:IB n f.a3
 c4:IB n f.a4
theorem FB.up{n m:Nat}{f:a_}(h:FB n f)(a:n<=m):FB m f:=⟨h.c0.up a,h.c1.up a,h.c2.up a,h.c3.up a,h.c4.up a⟩
theorem FB.get{n:Nat}{f:a_}(h:FB n f)(k:Int):IB n (f.get k):=by unfold a_.get;split;exact h.c0;split;exact h.c1;split;exact h.c2;split;exact h.c3;exact h.c4
theorem FB.neg{n:Nat}{f:a_}(h:FB n f):FB n f.neg:=⟨h.c0.neg,h.c1.neg,h.c2.neg,h.c3.neg,h.c4.neg⟩
theorem FB.fC{n m:Nat}{a b:aY}{f g:a_}(h:IB n a)(d:FB m f)(e:IB n b)(c:FB m g):FB (n+m+1) (.fC a f b g):=⟨h.fC d.c0 e c.c0,h.fC d.c1 e c.c1,h.fC d.c2 e c.c2,h.fC d.c3 e c.c3,h.fC d.c4 e c.c4⟩
def RB(n:Nat)(c:List aR):=∀r∈c,FB n r.f
def F3(d:Nat):Ct prog Un where
 f:=1000000+d
 run:=λ_ _=>False
 ok:=λ_ _ h=>h.elim
def nx{P:Prop}(h:(x:Int)=(n:Int))(a:n≠j):(x:Int)=(j:Int)->P:=λb=>absurd (show n=j by omega) a
def uv(x:aY):aY.mk x.neg x.aC=x:=rfl
@[irreducible] def dq(f:a_)(x:Nat):a_:=⟨if 0<x then iD (-iV f.a0)else⟨false,[]⟩,if 1<x then iD (-iV f.a1)else⟨false,[]⟩,if 2<x then iD (-iV f.a2)else⟨false,[]⟩,if 3<x then iD (-iV f.a3)else⟨false,[]⟩,if 4<x then iD (-iV f.a4)else⟨false,[]⟩⟩
@[irreducible] def dp(a:aY)(f:a_)(b:aY)(g:a_)(x:Nat):a_:=⟨if 0<x then a_.r_ a f.a0 b g.a0 else⟨false,[]⟩,if 1<x then a_.r_ a f.a1 b g.a1 else⟨false,[]⟩,if 2<x then a_.r_ a f.a2 b g.a2 else⟨false,[]⟩,if 3<x then a_.r_ a f.a3 b g.a3 else⟨false,[]⟩,if 4<x then a_.r_ a f.a4 b g.a4 else⟨false,[]⟩⟩
def aBq(f:a_):dq f 0=.z:=by unfold dq;rfl
def az_(a:aY)(f:a_)(b:aY)(g:a_):dp a f b g 0=.z:=by unfold dp;rfl
@[irreducible] def FN(f:a_):=FB 3000 f
def Ey{f:a_}(h:FN f):=(FN.eq_1 ..).mp h
@[irreducible] def FI(x:aY):=IB 1000 x
@[irreducible] def FK(x:aY):=IB 3000 x
def Nv{x:aY}(h:FK x):=(FK.eq_1 ..).mp h
theorem FK.sd{x:aY}(h:FK x):rO x:=(Nv h).sd O
def Ib{x:aY}(h:FI x):=(FI.eq_1 ..).mp h
theorem FI.sd{x:aY}(h:FI x):rO x:=(Ib h).sd O
def we:eX (iD (iV X*iV U)) (iD (iV b*iV y))=a_.r_ X U b y:=by rw[Cm (iv _) (iv _),fU,fU];rfl
def wb(a:FI b)(c:FK y):b.aC.length+y.aC.length<=1099511627776:=by have:=(Ib a).len;have:=(Nv c).len;omega
def FI.l47(h:FI b):b.aC.length<=47:=by have g:=Ib h;rw[g.c];exact Q4 (IB.up (j:=1504) g O).b
theorem IB.ml{n m:Nat}{x y:aY}(h:IB n x)(g:IB m y):IB (n+m) (iD (iV x*iV y)):=.of (by have h:=IP h.b g.b;rw[<-Int.natAbs_mul,<-B_]at h;exact h)
def wc(c:FI b)(d:FK y):Sm (iD (iV b*iV y)).aC:=by have:=(IB.ml (Ib c) (Nv d)).len;unfold Sm;omega
def FN.i0(h:FN f):FK f.a0:=by unfold FK;exact(Ey h).c0
def aBC(h:(x:Int)=((0:Nat):Int)):(iD (-iV f.a0)).neg=(dq f (x+1)).a0.neg:=by obtain rfl:x=0:=O;unfold dq;rfl
def aBM(h:(x:Int)=(j:Int))(a:j≠0):(dq f x).a0.neg=(dq f (x+1)).a0.neg:=by have e:(0<x)=(0<x+1):=propext ⟨λ_=>O,λ_=>O⟩;unfold dq;simp only[e]
def aBs(h:decide ((x:Int)<5)=false):(dq f x).a0.neg=(f.neg).a0.neg:=by have h:=cQ h;have e:0<x:=O;unfold dq;simp only[e,gT];rfl
def aBB(h:(x:Int)=((0:Nat):Int)):(iD (-iV f.a0)).aC=(dq f (x+1)).a0.aC:=by obtain rfl:x=0:=O;unfold dq;rfl
def aBL(h:(x:Int)=(j:Int))(a:j≠0):(dq f x).a0.aC=(dq f (x+1)).a0.aC:=by have e:(0<x)=(0<x+1):=propext ⟨λ_=>O,λ_=>O⟩;unfold dq;simp only[e]
def aBr(h:decide ((x:Int)<5)=false):(dq f x).a0.aC=(f.neg).a0.aC:=by have h:=cQ h;have e:0<x:=O;unfold dq;simp only[e,gT];rfl
def aAl(h:(x:Int)=((0:Nat):Int)):(eX (iD (iV y*iV f.a0)) (iD (iV b*iV g.a0))).neg=(dp y f b g (x+1)).a0.neg:=by obtain rfl:x=0:=O;rw[we];unfold dp;rfl
def aAv(h:(x:Int)=(j:Int))(c:j≠0):(dp y f b g x).a0.neg=(dp y f b g (x+1)).a0.neg:=by have e:(0<x)=(0<x+1):=propext ⟨λ_=>O,λ_=>O⟩;unfold dp;simp only[e]
def aAb(h:decide ((x:Int)<5)=false):(dp y f b g x).a0.neg=(a_.fC y f b g).a0.neg:=by have h:=cQ h;have e:0<x:=O;unfold dp;simp only[e,gT];rfl
def aAk(h:(x:Int)=((0:Nat):Int)):(eX (iD (iV y*iV f.a0)) (iD (iV b*iV g.a0))).aC=(dp y f b g (x+1)).a0.aC:=by obtain rfl:x=0:=O;rw[we];unfold dp;rfl
def aAu(h:(x:Int)=(j:Int))(c:j≠0):(dp y f b g x).a0.aC=(dp y f b g (x+1)).a0.aC:=by have e:(0<x)=(0<x+1):=propext ⟨λ_=>O,λ_=>O⟩;unfold dp;simp only[e]
def aAa(h:decide ((x:Int)<5)=false):(dp y f b g x).a0.aC=(a_.fC y f b g).a0.aC:=by have h:=cQ h;have e:0<x:=O;unfold dp;simp only[e,gT];rfl
def FN.i1(h:FN f):FK f.a1:=by unfold FK;exact(Ey h).c1
def aBE(h:(x:Int)=((1:Nat):Int)):(iD (-iV f.a1)).neg=(dq f (x+1)).a1.neg:=by obtain rfl:x=1:=O;unfold dq;rfl
def aBO(h:(x:Int)=(j:Int))(a:j≠1):(dq f x).a1.neg=(dq f (x+1)).a1.neg:=by have e:(1<x)=(1<x+1):=propext ⟨λ_=>O,λ_=>O⟩;unfold dq;simp only[e]
def aBu(h:decide ((x:Int)<5)=false):(dq f x).a1.neg=(f.neg).a1.neg:=by have h:=cQ h;have e:1<x:=O;unfold dq;simp only[e,gT];rfl
def aBD(h:(x:Int)=((1:Nat):Int)):(iD (-iV f.a1)).aC=(dq f (x+1)).a1.aC:=by obtain rfl:x=1:=O;unfold dq;rfl
def aBN(h:(x:Int)=(j:Int))(a:j≠1):(dq f x).a1.aC=(dq f (x+1)).a1.aC:=by have e:(1<x)=(1<x+1):=propext ⟨λ_=>O,λ_=>O⟩;unfold dq;simp only[e]
def aBt(h:decide ((x:Int)<5)=false):(dq f x).a1.aC=(f.neg).a1.aC:=by have h:=cQ h;have e:1<x:=O;unfold dq;simp only[e,gT];rfl
def aAn(h:(x:Int)=((1:Nat):Int)):(eX (iD (iV y*iV f.a1)) (iD (iV b*iV g.a1))).neg=(dp y f b g (x+1)).a1.neg:=by obtain rfl:x=1:=O;rw[we];unfold dp;rfl
def aAx(h:(x:Int)=(j:Int))(c:j≠1):(dp y f b g x).a1.neg=(dp y f b g (x+1)).a1.neg:=by have e:(1<x)=(1<x+1):=propext ⟨λ_=>O,λ_=>O⟩;unfold dp;simp only[e]
def aAd(h:decide ((x:Int)<5)=false):(dp y f b g x).a1.neg=(a_.fC y f b g).a1.neg:=by have h:=cQ h;have e:1<x:=O;unfold dp;simp only[e,gT];rfl
def aAm(h:(x:Int)=((1:Nat):Int)):(eX (iD (iV y*iV f.a1)) (iD (iV b*iV g.a1))).aC=(dp y f b g (x+1)).a1.aC:=by obtain rfl:x=1:=O;rw[we];unfold dp;rfl
def aAw(h:(x:Int)=(j:Int))(c:j≠1):(dp y f b g x).a1.aC=(dp y f b g (x+1)).a1.aC:=by have e:(1<x)=(1<x+1):=propext ⟨λ_=>O,λ_=>O⟩;unfold dp;simp only[e]
def aAc(h:decide ((x:Int)<5)=false):(dp y f b g x).a1.aC=(a_.fC y f b g).a1.aC:=by have h:=cQ h;have e:1<x:=O;unfold dp;simp only[e,gT];rfl
def FN.i2(h:FN f):FK f.a2:=by unfold FK;exact(Ey h).c2
def aBG(h:(x:Int)=((2:Nat):Int)):(iD (-iV f.a2)).neg=(dq f (x+1)).a2.neg:=by obtain rfl:x=2:=O;unfold dq;rfl
def aBQ(h:(x:Int)=(j:Int))(a:j≠2):(dq f x).a2.neg=(dq f (x+1)).a2.neg:=by have e:(2<x)=(2<x+1):=propext ⟨λ_=>O,λ_=>O⟩;unfold dq;simp only[e]
def aBw(h:decide ((x:Int)<5)=false):(dq f x).a2.neg=(f.neg).a2.neg:=by have h:=cQ h;have e:2<x:=O;unfold dq;simp only[e,gT];rfl
def aBF(h:(x:Int)=((2:Nat):Int)):(iD (-iV f.a2)).aC=(dq f (x+1)).a2.aC:=by obtain rfl:x=2:=O;unfold dq;rfl
def aBP(h:(x:Int)=(j:Int))(a:j≠2):(dq f x).a2.aC=(dq f (x+1)).a2.aC:=by have e:(2<x)=(2<x+1):=propext ⟨λ_=>O,λ_=>O⟩;unfold dq;simp only[e]
def aBv(h:decide ((x:Int)<5)=false):(dq f x).a2.aC=(f.neg).a2.aC:=by have h:=cQ h;have e:2<x:=O;unfold dq;simp only[e,gT];rfl
def aAp(h:(x:Int)=((2:Nat):Int)):(eX (iD (iV y*iV f.a2)) (iD (iV b*iV g.a2))).neg=(dp y f b g (x+1)).a2.neg:=by obtain rfl:x=2:=O;rw[we];unfold dp;rfl
def aAz(h:(x:Int)=(j:Int))(c:j≠2):(dp y f b g x).a2.neg=(dp y f b g (x+1)).a2.neg:=by have e:(2<x)=(2<x+1):=propext ⟨λ_=>O,λ_=>O⟩;unfold dp;simp only[e]
def aAf(h:decide ((x:Int)<5)=false):(dp y f b g x).a2.neg=(a_.fC y f b g).a2.neg:=by have h:=cQ h;have e:2<x:=O;unfold dp;simp only[e,gT];rfl
def aAo(h:(x:Int)=((2:Nat):Int)):(eX (iD (iV y*iV f.a2)) (iD (iV b*iV g.a2))).aC=(dp y f b g (x+1)).a2.aC:=by obtain rfl:x=2:=O;rw[we];unfold dp;rfl
def aAy(h:(x:Int)=(j:Int))(c:j≠2):(dp y f b g x).a2.aC=(dp y f b g (x+1)).a2.aC:=by have e:(2<x)=(2<x+1):=propext ⟨λ_=>O,λ_=>O⟩;unfold dp;simp only[e]
def aAe(h:decide ((x:Int)<5)=false):(dp y f b g x).a2.aC=(a_.fC y f b g).a2.aC:=by have h:=cQ h;have e:2<x:=O;unfold dp;simp only[e,gT];rfl
def FN.i3(h:FN f):FK f.a3:=by unfold FK;exact(Ey h).c3
def aBI(h:(x:Int)=((3:Nat):Int)):(iD (-iV f.a3)).neg=(dq f (x+1)).a3.neg:=by obtain rfl:x=3:=O;unfold dq;rfl
def aBS(h:(x:Int)=(j:Int))(a:j≠3):(dq f x).a3.neg=(dq f (x+1)).a3.neg:=by have e:(3<x)=(3<x+1):=propext ⟨λ_=>O,λ_=>O⟩;unfold dq;simp only[e]
def aBy(h:decide ((x:Int)<5)=false):(dq f x).a3.neg=(f.neg).a3.neg:=by have h:=cQ h;have e:3<x:=O;unfold dq;simp only[e,gT];rfl
def aBH(h:(x:Int)=((3:Nat):Int)):(iD (-iV f.a3)).aC=(dq f (x+1)).a3.aC:=by obtain rfl:x=3:=O;unfold dq;rfl
def aBR(h:(x:Int)=(j:Int))(a:j≠3):(dq f x).a3.aC=(dq f (x+1)).a3.aC:=by have e:(3<x)=(3<x+1):=propext ⟨λ_=>O,λ_=>O⟩;unfold dq;simp only[e]
def aBx(h:decide ((x:Int)<5)=false):(dq f x).a3.aC=(f.neg).a3.aC:=by have h:=cQ h;have e:3<x:=O;unfold dq;simp only[e,gT];rfl
def aAr(h:(x:Int)=((3:Nat):Int)):(eX (iD (iV y*iV f.a3)) (iD (iV b*iV g.a3))).neg=(dp y f b g (x+1)).a3.neg:=by obtain rfl:x=3:=O;rw[we];unfold dp;rfl
def aAB(h:(x:Int)=(j:Int))(c:j≠3):(dp y f b g x).a3.neg=(dp y f b g (x+1)).a3.neg:=by have e:(3<x)=(3<x+1):=propext ⟨λ_=>O,λ_=>O⟩;unfold dp;simp only[e]
def aAh(h:decide ((x:Int)<5)=false):(dp y f b g x).a3.neg=(a_.fC y f b g).a3.neg:=by have h:=cQ h;have e:3<x:=O;unfold dp;simp only[e,gT];rfl
def aAq(h:(x:Int)=((3:Nat):Int)):(eX (iD (iV y*iV f.a3)) (iD (iV b*iV g.a3))).aC=(dp y f b g (x+1)).a3.aC:=by obtain rfl:x=3:=O;rw[we];unfold dp;rfl
def aAA(h:(x:Int)=(j:Int))(c:j≠3):(dp y f b g x).a3.aC=(dp y f b g (x+1)).a3.aC:=by have e:(3<x)=(3<x+1):=propext ⟨λ_=>O,λ_=>O⟩;unfold dp;simp only[e]
def aAg(h:decide ((x:Int)<5)=false):(dp y f b g x).a3.aC=(a_.fC y f b g).a3.aC:=by have h:=cQ h;have e:3<x:=O;unfold dp;simp only[e,gT];rfl
def FN.i4(h:FN f):FK f.a4:=by unfold FK;exact(Ey h).c4
def aBK(h:(x:Int)=((4:Nat):Int)):(iD (-iV f.a4)).neg=(dq f (x+1)).a4.neg:=by obtain rfl:x=4:=O;unfold dq;rfl
def aBU(h:(x:Int)=(j:Int))(a:j≠4):(dq f x).a4.neg=(dq f (x+1)).a4.neg:=by have e:(4<x)=(4<x+1):=propext ⟨λ_=>O,λ_=>O⟩;unfold dq;simp only[e]
def aBA(h:decide ((x:Int)<5)=false):(dq f x).a4.neg=(f.neg).a4.neg:=by have h:=cQ h;have e:4<x:=O;unfold dq;simp only[e,gT];rfl
def aBJ(h:(x:Int)=((4:Nat):Int)):(iD (-iV f.a4)).aC=(dq f (x+1)).a4.aC:=by obtain rfl:x=4:=O;unfold dq;rfl
def aBT(h:(x:Int)=(j:Int))(a:j≠4):(dq f x).a4.aC=(dq f (x+1)).a4.aC:=by have e:(4<x)=(4<x+1):=propext ⟨λ_=>O,λ_=>O⟩;unfold dq;simp only[e]
def aBz(h:decide ((x:Int)<5)=false):(dq f x).a4.aC=(f.neg).a4.aC:=by have h:=cQ h;have e:4<x:=O;unfold dq;simp only[e,gT];rfl
def aAt(h:(x:Int)=((4:Nat):Int)):(eX (iD (iV y*iV f.a4)) (iD (iV b*iV g.a4))).neg=(dp y f b g (x+1)).a4.neg:=by obtain rfl:x=4:=O;rw[we];unfold dp;rfl
def aAD(h:(x:Int)=(j:Int))(c:j≠4):(dp y f b g x).a4.neg=(dp y f b g (x+1)).a4.neg:=by have e:(4<x)=(4<x+1):=propext ⟨λ_=>O,λ_=>O⟩;unfold dp;simp only[e]
def aAj(h:decide ((x:Int)<5)=false):(dp y f b g x).a4.neg=(a_.fC y f b g).a4.neg:=by have h:=cQ h;have e:4<x:=O;unfold dp;simp only[e,gT];rfl
def aAs(h:(x:Int)=((4:Nat):Int)):(eX (iD (iV y*iV f.a4)) (iD (iV b*iV g.a4))).aC=(dp y f b g (x+1)).a4.aC:=by obtain rfl:x=4:=O;rw[we];unfold dp;rfl
def aAC(h:(x:Int)=(j:Int))(c:j≠4):(dp y f b g x).a4.aC=(dp y f b g (x+1)).a4.aC:=by have e:(4<x)=(4<x+1):=propext ⟨λ_=>O,λ_=>O⟩;unfold dp;simp only[e]
def aAi(h:decide ((x:Int)<5)=false):(dp y f b g x).a4.aC=(a_.fC y f b g).a4.aC:=by have h:=cQ h;have e:4<x:=O;unfold dp;simp only[e,gT];rfl
def aFW(k:Int)(f:a_):bh 88 [wI .i64 k,wE .iY f] (eT .fD (gC k f)):=by
 refine vF func88 rfl [] [] ?_;repeat' first|intro _|apply aQ
 all_goals first|exact bj|rfl
def Zr:=eI (.int .i64) (.el W.iY) λk f (_:True)=>aFW k f
def aBk(f:a_)(h:FN f):bh 90 [wE .iY f] (eT .iY f.neg):=by
 refine vF func90 rfl [F0] [(3,⟨Nat,λx=>⟨[(1,br 0),(2,br 1),(3,br 2),(5,iT x)],[(0,cj .iY f),(1,.cells ((eF .iY a_.z).map .d)),(2,cj .iY (dq f x))],3⟩,λx=>x<=5/\True,λx=>5-x⟩)] ?_;repeat' (first
  |((with_reducible show mt _ _ _ _ _);(conv=>whnf);(fail_if_success with_reducible show mt _ _ _ _ _))
  |exact nx ‹(x:Int)=_› ae
  |intro _|apply aQ
  |refine aS 0 (aQ ?_ λ(x:Nat)(a:x<=5/\True)=>?_)
  |refine aS (x+1) ?_
  |fail)
 all_goals(try simp only[uv]at*)
 all_goals first|exact bj|omega|exact h.i0.sd.1|exact h.i0.sd.2 _ Y|exact h.i1.sd.1|exact h.i1.sd.2 _ Y|exact h.i2.sd.1|exact h.i2.sd.2 _ Y|exact h.i3.sd.1|exact h.i3.sd.2 _ Y|exact h.i4.sd.1|exact h.i4.sd.2 _ Y| (with_reducible first|exact aBC Y|exact aBM ‹(x:Int)=_› ae|exact aBs Y|exact aBB Y|exact aBL ‹(x:Int)=_› ae|exact aBr Y|exact aBE Y|exact aBO ‹(x:Int)=_› ae|exact aBu Y|exact aBD Y|exact aBN ‹(x:Int)=_› ae|exact aBt Y|exact aBG Y|exact aBQ ‹(x:Int)=_› ae|exact aBw Y|exact aBF Y|exact aBP ‹(x:Int)=_› ae|exact aBv Y|exact aBI Y|exact aBS ‹(x:Int)=_› ae|exact aBy Y|exact aBH Y|exact aBR ‹(x:Int)=_› ae|exact aBx Y|exact aBK Y|exact aBU ‹(x:Int)=_› ae|exact aBA Y|exact aBJ Y|exact aBT ‹(x:Int)=_› ae|exact aBz Y)|simp only[be,bc]at*;omega|rfl|rw[aBq];rfl
def Zl:=dj (.el W.iY) aBk
end Go.Proofs.YtfbmhjooliccnaaGreatDoor
