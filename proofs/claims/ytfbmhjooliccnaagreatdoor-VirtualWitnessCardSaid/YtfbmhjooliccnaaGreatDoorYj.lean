/- Part of VirtualWitness. No condition. -/
import Derived.Test.YtfbmhjooliccnaaGreatDoorYi
set_option linter.all false
set_option maxRecDepth 100000
set_option maxHeartbeats 60000000
noncomputable section
namespace Go.Proofs.YtfbmhjooliccnaaGreatDoor
open Go Go.Ab Go.Proofs.Tryz
variable {k f i:Nat}{l:List aL}{A B a b:ao}{p:J}{n v:Int}{t u:aL}{q m:ba}{x y:bk}{Z:List bk}{X:List J}{d:Bool}
@[irreducible] def cu(a b:ao):List Int:=kE (nV a*nV b).toNat (a.length+b.length)
def aD8(a b:ao)(h:a.length+b.length<=1099511627776/\Dg a/\Dg b):bh 266 [wL .u32 a,wL .u32 b] (lT .u32 (cu a b)):=by unfold cu;exact aD9 a b h
def asH:=eO (.ls W.u32) (.ls W.u32) aD8
def sC(a b:ao):Dg (cu a b):=by unfold cu;exact CL _ _
def Sq{a b:ao}(d:Dg a)(e:Dg b):0<=nV a*nV b/\nV a*nV b<pB (a.length+b.length):=by have c:=gS d;have f:=gS e;refine⟨og c.1 f.1,?_⟩;rw[zp];have h:nV a*nV b<=nV a*pB b.length:=qx O c.1;have i:nV a*pB b.length<pB a.length*pB b.length:=VL c.2 (kn _);omega
def Ds{a b:ao}(c:Dg a)(d:Dg b):nV (cu a b)=nV a*nV b:=by have:=Sq c d;unfold cu;rw[CO];omega
def Bh{a b:ao}(c:Dg a)(d:Dg b):(cu a b).length=a.length+b.length:=by have:=Sq c d;unfold cu;exact CN O
def afl{a b z:ao}(c:Dg z)(d:z.length=a.length+b.length)(e:nV z=nV a*nV b):z=cu a b:=by unfold cu;rw[<-d,<-e];exact Js c
def afk(a b:ao):cu a b=cu b a:=by unfold cu;rw[iB,Aj]
@[irreducible] def hf(a:ao):Nat:=(a.length+1)/2
def abQ(a:ao):((a.length:Int)+1).tdiv 2=(hf a:Int):=by unfold hf;rw[Ed O];omega
def abR(a:ao)(h:1<=a.length):1<=hf a/\hf a<=a.length/\2*hf a<=a.length+1/\a.length<=2*hf a:=by unfold hf;omega
def Cj{a b:ao}(c:Dg a)(d:Dg b):Dg (ig a b):=by rw[Is c d];exact(lR _).1
def NP{a b:ao}(c:Dg a)(d:Dg b):(ig a b).length<=max a.length b.length+1:=by rw[Is c d];apply qR;have e:=gS c;have f:=gS d;have h:=wc (show a.length<=max a.length b.length by omega);have i:=wc (show b.length<=max a.length b.length by omega);rw[ko];omega
def NQ{a b:ao}(c:Dg a)(d:Dg b):nV (ig a b)=nV a+nV b:=by have e:=gf c;have f:=gf d;rw[Is c d,(lR _).2.1];omega
def aDI{a b:ao}:Dg (lB a b):=by
 unfold lB;split
 ·exact Dg.nil
 ·exact Dg.oa.eW
def aDJ{a b:ao}(c:Dg a)(d:Dg b)(h:nV b<=nV a):nV (lB a b)=nV a-nV b:=by rw[TF c d h,(lR _).2.1];omega
def azb{l:ao}(h:Dg l)(c:kj l){k:Nat}(d:nV l<pB k):l.length<=k:=by rw[Z1 h c];apply qR;have:=gf h;omega
def aa6{A B Z x:ao}{o:Nat}(l:Dg A)(m:Dg B)(d:Dg Z)(hx:Dg x)(f:o<=Z.length)(n:Z.length=A.length+B.length)(Y:Z.length<=1099511627776)(i:kj x)
 (q:nV Z+pB o*nV x=nV A*nV B):AP Z o (Z.length-o) x/\nl Z o x=cu A B:=by
 have r:=Sq l m;have e:=tH Z o;rw[ez,ju f]at e;have s:=gS (d.take o);have t:=gf (d.drop o);have u:=gf hx;have v:=kn o;have w:pB o*(nV (Z.drop o)+nV x)<=nV A*nV B:=by rw[mB];omega
 have z:pB (A.length+B.length)=pB o*pB (Z.length-o):=by rw[<-zp,<-n];congr 1;omega
 have j:nV (Z.drop o)+nV x<pB (Z.length-o):=by
  refine Int.not_le.1 λh=>?_
  have:=qx h (show 0<=pB o by omega);omega
 refine⟨?_,?_⟩
 ·unfold AP;exact⟨rfl,f,azb hx i O,Y,d,hx,j⟩
 ·have c:((nV (Z.drop o)+nV x).toNat:Int)<pB (Z.length-o):=by omega
  refine afl ?_ ?_ ?_
  ·unfold nl;exact(d.take o).uo (CL _ _)
  ·unfold nl;rw[c_,ez,CN c];omega
  ·unfold nl;rw[q8,CO,ez,ju f];have p:(((nV (Z.drop o)+nV x).toNat:Nat):Int)=nV (Z.drop o)+nV x:=O;rw[p,mB];omega
@[irreducible] def PR(a b A B:ao):=cu A B=cu a b/\B.length<=A.length/\A.length+B.length=a.length+b.length/\Dg A/\Dg B/\A.length+B.length<=1099511627776
@[irreducible] def PH(A B:ao)(k:Nat):=k=hf A/\48<=B.length/\B.length<=A.length/\Dg A/\Dg B/\A.length+B.length<=1099511627776
@[irreducible] def PY(A B:ao)(k:Nat)(m Z:ao):=PH A B k/\k<B.length/\m=lB (cu (ig (A.take k) (A.drop k)) (ig (B.take k) (B.drop k))) (ig (cu (A.take k) (B.take k)) (cu (A.drop k) (B.drop k)))/\Z=cu (A.take k) (B.take k)++cu (A.drop k) (B.drop k)
def al2{a b:ao}(h:a.length+b.length<=1099511627776/\Dg a/\Dg b)(c:decide ((a.length:Int)<(b.length:Int))=false):PR a b a b:=by simp only[bj]at c;unfold PR;exact⟨rfl,O,rfl,h.2.1,h.2.2,h.1⟩
def al3{a b:ao}(h:a.length+b.length<=1099511627776/\Dg a/\Dg b)(c:decide ((a.length:Int)<(b.length:Int))=true):PR a b b a:=by simp only[be]at c;unfold PR;exact⟨afk _ _,O,O,h.2.2,h.2.1,O⟩
section
variable {a b:ao}{x:List Int×List Int}(hx:PR a b x.1 x.2∧True)
include hx
def Ig:x.2.length<=x.1.length/\x.1.length+x.2.length=a.length+b.length/\x.1.length+x.2.length<=1099511627776:=by have h:=hx.1;unfold PR at h;exact⟨h.2.1,h.2.2.1,h.2.2.2.2.2⟩
def PRa:Dg x.1:=by have h:=hx.1;unfold PR at h;exact h.2.2.2.1
def PRb:Dg x.2:=by have h:=hx.1;unfold PR at h;exact h.2.2.2.2.1
def If:cu x.1 x.2=cu a b:=by have h:=hx.1;unfold PR at h;exact h.1
def PRs:cu x.2 x.1=cu a b:=by rw[afk];exact If hx
def WA(h:nV x.1=0\/nV x.2=0):List.replicate ((x.1.length:Int)+(x.2.length:Int)).toNat 0=cu a b:=by rw[<-If hx];refine afl (Dg.zU _) (by rw[na];omega) ?_;rw[vZ];rcases h with h|h<;>rw[h]<;>simp
def WB(h:decide ((aR x.1).length=0)=true):List.replicate ((x.1.length:Int)+(x.2.length:Int)).toNat 0=cu a b:=by have h:=eD h;refine WA hx (.inl ?_);rw[<-gZ,fc h];rfl
def al7(h:decide ((aR x.2).length=0)=true):List.replicate ((x.1.length:Int)+(x.2.length:Int)).toNat 0=cu a b:=by have h:=eD h;refine WA hx (.inr ?_);rw[<-gZ,fc h];rfl
def Wt(h:decide (((x.2.length:Nat):Int)<48)=false):PH x.1 x.2 (hf x.1):=by have h:=fg h;have c:=hx.1;unfold PR at c;unfold PH;exact⟨rfl,O,c.2.1,c.2.2.2.1,c.2.2.2.2.1,c.2.2.2.2.2⟩
end
section
variable {A B:ao}{k:Nat}(hy:PH A B k)
include hy
def qF:48<=B.length/\B.length<=A.length/\A.length+B.length<=1099511627776/\1<=k/\k<=A.length/\2*k<=A.length+1/\A.length<=2*k:=by unfold PH at hy;have:=abR A O;rw[hy.1];omega
def wQ:Dg A:=by unfold PH at hy;exact hy.2.2.2.1
def wR:Dg B:=by unfold PH at hy;exact hy.2.2.2.2.1
def Ic:Sm (A.take k)/\Sm (A.drop k)/\Sm (B.take k)/\Sm (B.drop k):=by have h:=qF hy;unfold Sm;simp only[ez,qC];omega
def Nv:(cu (A.take k) (B.take k)).length=min k A.length+min k B.length/\(cu (A.drop k) (B.drop k)).length=(A.length-k)+(B.length-k):=by have d:=wQ hy;have c:=wR hy;rw[Bh (d.take _) (c.take _),Bh (d.drop _) (c.drop _)];simp only[ez,qC,true_and]
def Ws:(ig (A.take k) (A.drop k)).length+(ig (B.take k) (B.drop k)).length<A.length+B.length\/B.length<=k:=by have d:=wQ hy;have c:=wR hy;have h:=qF hy;have f:=NP (d.take k) (d.drop k);have e:=NP (c.take k) (c.drop k);simp only[ez,qC]at f e;omega
def Ib(e:k<B.length):Sm (cu (A.take k) (B.take k))/\Sm (cu (A.drop k) (B.drop k))/\Sm (cu (ig (A.take k) (A.drop k)) (ig (B.take k) (B.drop k)))/\Sm (ig (cu (A.take k) (B.take k)) (cu (A.drop k) (B.drop k))):=by have d:=wQ hy;have c:=wR hy;have h:=qF hy;have l:=Nv hy;have j:=Ws hy;have i:=NP (sC (A.take k) (B.take k)) (sC (A.drop k) (B.drop k));have f:=Bh (Cj (d.take k) (d.drop k)) (Cj (c.take k) (c.drop k));unfold Sm;omega
def Wr(l:B.length<=k){Z:ao}(f:Z=cu (A.take k) B++List.replicate (A.length+B.length-(cu (A.take k) B).length) 0):
 AP Z k (A.length+B.length-k) (aR (cu (A.drop k) B))/\nl Z k (aR (cu (A.drop k) B))=cu A B:=by
 have d:=wQ hy;have c:=wR hy;have h:=qF hy;have i:=Bh (d.take k) c;rw[ez]at i;have hlen:Z.length=A.length+B.length:=by rw[f,c_,na];omega
 have j:Dg Z:=by rw[f];exact(sC _ _).uo (Dg.zU _)
 have:=aa6 (A:=A) (B:=B) (Z:=Z) (x:=aR (cu (A.drop k) B)) (o:=k) d c j (sC _ _).eW O hlen O (sx _) ?_
 ·rw[hlen]at this;exact this
 ·rw[f,q8,vZ,gZ,Ds (d.take k) c,Ds (d.drop k) c];have e:=tH A k;rw[ez,ju O]at e;rw[e,jR,kA];omega
def Nu(K:k<B.length){m Z:ao}(f:m=lB (cu (ig (A.take k) (A.drop k)) (ig (B.take k) (B.drop k))) (ig (cu (A.take k) (B.take k)) (cu (A.drop k) (B.drop k))))(i:Z=cu (A.take k) (B.take k)++cu (A.drop k) (B.drop k)):
 Z.length=A.length+B.length/\AP Z k (A.length+B.length-k) m/\nl Z k m=cu A B:=by
 have c:=wQ hy;have d:=wR hy;have h:=qF hy;have L:=Nv hy;have hlen:Z.length=A.length+B.length:=by rw[i,c_];omega
 have z:Dg Z:=by rw[i];exact(sC _ _).uo (sC _ _)
 have t:=tH A k;have u:=tH B k;rw[ez,ju O]at t u;have v:=Ds (c.take k) (d.take k);have w:=Ds (c.drop k) (d.drop k);have j:=Ds (Cj (c.take k) (c.drop k)) (Cj (d.take k) (d.drop k));rw[NQ (c.take k) (c.drop k),NQ (d.take k) (d.drop k)]at j;have l:=NQ (sC (A.take k) (B.take k)) (sC (A.drop k) (B.drop k));rw[v,w]at l;have C:=gf (c.take k);have D:=gf (c.drop k);have E:=gf (d.take k);have G:=gf (d.drop k);have M:=og C G;have N:=og D E;have H:nV m=nV (A.take k)*nV (B.drop k)+nV (A.drop k)*nV (B.take k):=by
  rw[f,aDJ (sC _ _) (Cj (sC _ _) (sC _ _)) ?_,j,l]
  ·rw[jR,mB,mB];omega
  ·rw[j,l,jR,mB,mB];omega
 have n:kj m:=by
  rw[f];unfold lB;split
  ·exact K1
  ·exact sx _
 have:=aa6 (A:=A) (B:=B) (Z:=Z) (x:=m) (o:=k) c d z (by rw[f];exact aDI) O hlen O n ?_
 ·rw[hlen]at this;exact⟨hlen,this⟩
 ·have e:(cu (A.take k) (B.take k)).length=k+k:=by omega
  rw[i,q8,v,w,H,t,u,e,zp];generalize nV (A.take k)=p;generalize nV (A.drop k)=q;generalize nV (B.take k)=r;generalize nV (B.drop k)=s;generalize pB k=P;grind
end
def Dg.mem{l:ao}(h:Dg l){d:Int}(c:d∈l):bY d:=h d c
def aC8(m n:Nat):List.replicate ((m:Int)+(n:Int)).toNat (0:Int)=List.replicate (m+n) 0:=by rw[show((m:Int)+(n:Int)).toNat=m+n by omega]
def Jc{l:ao}(h:l.length<=f):l.take (List.replicate f (0:Int)).length++(List.replicate f (0:Int)).drop l.length=l++List.replicate (f-l.length) 0:=by rw[na,eQ h,List.drop_replicate]
def arR{l h:ao}(c:i=l.length)(d:l.length+h.length=f):(l++List.replicate (f-l.length) (0:Int)).take i++h.take (f-i)++(l++List.replicate (f-l.length) (0:Int)).drop (i+min h.length (f-i))=l++h:=by subst c;rw[Np rfl,eQ O,ju O,pR (by rw[c_,na];omega),l4]
section
variable {a b:ao}{x:List Int×List Int}{y:List Int×List Int×Nat}
def A4{m:Nat}(h:decide ((m:Int)<=(f:Int))=false):f<m:=by simp only[bj]at h;omega
def alT{A B:ao}{k:Nat}(hy:PH A B k)(c:decide ((B.length:Int)<=(k:Int))=false):Sm (cu (A.take k) (B.take k)):=(Ib hy (A4 c)).1
def alU{A B:ao}{k:Nat}(hy:PH A B k)(c:decide ((B.length:Int)<=(k:Int))=false):Sm (cu (A.drop k) (B.drop k)):=(Ib hy (A4 c)).2.1
def alV{A B:ao}{k:Nat}(hy:PH A B k)(c:decide ((B.length:Int)<=(k:Int))=false):Sm (cu (ig (A.take k) (A.drop k)) (ig (B.take k) (B.drop k))):=(Ib hy (A4 c)).2.2.1
def alW{A B:ao}{k:Nat}(hy:PH A B k)(c:decide ((B.length:Int)<=(k:Int))=false):Sm (ig (cu (A.take k) (B.take k)) (cu (A.drop k) (B.drop k))):=(Ib hy (A4 c)).2.2.2
def alX{A B:ao}{k:Nat}(hy:PH A B k)(d:decide ((B.length:Int)<=(k:Int))=false)(c:A=x.1/\B=x.2)(hx:PR a b x.1 x.2/\True):(ig (A.take k) (A.drop k)).length+(ig (B.take k) (B.drop k)).length<a.length+b.length:=by have f:=Ws hy;have h:=A4 d;have e:=Ig hx;rw[<-c.1,<-c.2]at e;omega
def Wl{A B:ao}{k:Nat}(hy:PH A B k)(c:decide ((B.length:Int)<=(k:Int))=true):AP ((cu (A.take k) B).take (List.replicate (A.length+B.length) (0:Int)).length++(List.replicate (A.length+B.length) (0:Int)).drop (cu (A.take k) B).length) k (A.length+B.length-k) (aR (cu (A.drop k) B)):=by have h:=qF hy;have d:=Bh ((wQ hy).take k) (wR hy);rw[ez]at d;rw[Jc O];exact(Wr hy (by simp only[be]at c;omega) rfl).1
def P12{A B:ao}{k:Nat}(hy:PH A B k)(d:decide ((B.length:Int)<=(k:Int))=true)(c:A=x.1/\B=x.2)(hx:PR a b x.1 x.2/\True):nl ((cu (A.take k) B).take (List.replicate (A.length+B.length) (0:Int)).length++(List.replicate (A.length+B.length) (0:Int)).drop (cu (A.take k) B).length) k (aR (cu (A.drop k) B))=cu a b:=by have h:=qF hy;have e:=Bh ((wQ hy).take k) (wR hy);rw[ez]at e;rw[Jc O,(Wr hy (by simp only[be]at d;omega) rfl).2,c.1,c.2];exact If hx
def P20{A B:ao}{k:Nat}(hy:PH A B k)(c:decide ((B.length:Int)<=(k:Int))=false):PY A B k (lB (cu (ig (A.take k) (A.drop k)) (ig (B.take k) (B.drop k))) (ig (cu (A.take k) (B.take k)) (cu (A.drop k) (B.drop k)))) (cu (A.take k) (B.take k)++cu (A.drop k) (B.drop k)):=by unfold PY;exact⟨hy,A4 c,rfl,rfl⟩
def P21{A B:ao}{k:Nat}(hy:PH A B k)(c:decide ((B.length:Int)<=(k:Int))=false):
 ((cu (A.take k) (B.take k)).take (List.replicate (A.length+B.length) (0:Int)).length++(List.replicate (A.length+B.length) (0:Int)).drop (cu (A.take k) (B.take k)).length).take (2*(k:Int)).toNat++(cu (A.drop k) (B.drop k)).take (A.length+B.length-(2*(k:Int)).toNat)++((cu (A.take k) (B.take k)).take (List.replicate (A.length+B.length) (0:Int)).length++(List.replicate (A.length+B.length) (0:Int)).drop (cu (A.take k) (B.take k)).length).drop ((2*(k:Int)).toNat+min (cu (A.drop k) (B.drop k)).length (A.length+B.length-(2*(k:Int)).toNat))=cu (A.take k) (B.take k)++cu (A.drop k) (B.drop k):=by
 have h:=qF hy;have d:=A4 c;have e:=Nv hy;rw[Jc O];exact arR O O
def Wn{A B:ao}{k:Nat}{m Z:ao}(c:PY A B k m Z):AP Z k (A.length+B.length-k) m:=by unfold PY at c;exact(Nu c.1 c.2.1 c.2.2.1 c.2.2.2).2.1
def Wo{A B:ao}{k:Nat}{m Z:ao}(c:PY A B k m Z):A.length+B.length=Z.length:=by unfold PY at c;exact(Nu c.1 c.2.1 c.2.2.1 c.2.2.2).1.symm
def P32{A B:ao}{k:Nat}{m Z:ao}(c:PY A B k m Z)(d:A=y.1/\B=y.2.1)(e:y.1=x.1/\y.2.1=x.2)(hx:PR a b x.1 x.2/\True):nl Z k m=cu a b:=by unfold PY at c;rw[(Nu c.1 c.2.1 c.2.2.1 c.2.2.2).2.2,d.1,d.2,e.1,e.2];exact If hx
def W_{Z x:ao}{k:Nat}(h:AP Z k f x):(nl Z k x).length=Z.length:=by have j:=AP.n1 h;unfold AP at h;obtain⟨c,l,m,o,d,e,i⟩:=h;unfold nl;have p:=gf (d.drop k);have q:=gf e;rw[c_,ez,CN (by rw[c]at i;omega)];omega
def Wm{A B:ao}{k:Nat}(hy:PH A B k)(c:decide ((B.length:Int)<=(k:Int))=true):A.length+B.length=(nl ((cu (A.take k) B).take (List.replicate (A.length+B.length) (0:Int)).length++(List.replicate (A.length+B.length) (0:Int)).drop (cu (A.take k) B).length) k (aR (cu (A.drop k) B))).length:=by have h:=qF hy;have d:=Bh ((wQ hy).take k) (wR hy);rw[ez]at d;rw[W_ (Wl hy c),Jc O,c_,na];omega
def P14{A B:ao}{k:Nat}(hy:PH A B k)(c:decide ((B.length:Int)<=(k:Int))=true):k+(A.length+B.length-k)<=(nl ((cu (A.take k) B).take (List.replicate (A.length+B.length) (0:Int)).length++(List.replicate (A.length+B.length) (0:Int)).drop (cu (A.take k) B).length) k (aR (cu (A.drop k) B))).length:=by rw[<-Wm hy c];have h:=qF hy;omega
def Wp{A B:ao}{k:Nat}{m Z:ao}(c:PY A B k m Z):A.length+B.length=(nl Z k m).length:=by rw[W_ (Wn c)];exact Wo c
def P35{A B:ao}{k:Nat}{m Z:ao}(c:PY A B k m Z):k+(A.length+B.length-k)<=(nl Z k m).length:=by rw[<-Wp c];unfold PY at c;have h:=qF c.1;omega
def Wq{A B:ao}{k:Nat}{m Z:ao}(c:PY A B k m Z):(k:Int)<=((A.length+B.length:Nat):Int):=by unfold PY at c;have h:=qF c.1;omega
def al8{a b:ao}{x:List Int×List Int}(hx:PR a b x.1 x.2/\True)(h:decide ((aR x.1).length=0)=!false):List.replicate ((x.1.length:Int)+(x.2.length:Int)).toNat 0=cu a b:=WB hx h
end
def afn(a b:ao)(r:∀(p q:ao),(p.length+q.length<a.length+b.length/\Dg p/\Dg q)->bh 219 [wL .u32 p,wL .u32 q] (lT .u32 (cu p q)))(h:a.length+b.length<=1099511627776/\Dg a/\Dg b):bh 219 [wL .u32 a,wL .u32 b] (lT .u32 (cu a b)):=by
 refine vG func219 rfl ⟨[ON,uB,Zp,ZP,asH,qO Vw 219 (.ls W.u32) (.ls W.u32) (λ(p:ao)(q:ao)=>p.length+q.length<a.length+b.length/\Dg p/\Dg q) (λp q=>lT .u32 (cu p q)) r],[aAm]⟩ [(4000003,⟨List Int×List Int,λx=>⟨[(0,lT .u32 x.1),(1,lT .u32 x.2)],[],0⟩,λx=>PR a b x.1 x.2/\True,λ_=>0⟩),(4000009,⟨List Int×List Int×Nat,λx=>⟨[(0,lT .u32 x.1),(1,lT .u32 x.2.1),(5,.e (.c (.aW 0 (U:=S) W.u32 (x.1.length+x.2.1.length)))),(6,iT x.2.2)],[(0,.aU (U:=S) W.u32 (List.replicate (x.1.length+x.2.1.length) 0))],1⟩,λx=>PH x.1 x.2.1 x.2.2/\True,λ_=>0⟩),(4000019,⟨List Int×List Int×Nat×List Int×List Int,λz=>⟨[(5,.e (.c (.aW 0 (U:=S) W.u32 (z.1.length+z.2.1.length)))),(6,iT z.2.2.1),(9,lT .u32 z.2.2.2.1)],[(0,.aU (U:=S) W.u32 z.2.2.2.2)],1⟩,λz=>PY z.1 z.2.1 z.2.2.1 z.2.2.2.1 z.2.2.2.2/\True,λ_=>0⟩)] ?_;intro w v;refine aP (λm=>?_) (λn=>?_);refine aX (λx=>True) (aX (b,a) (aP ?_ λ(x:List Int×List Int)(hx:PR a b x.1 x.2/\True)(_:True)=>?_));repeat' apply aP
 all_goals try first| (with_reducible first|exact aZ|rfl|exact al3 h m)
 all_goals repeat' (first
  |intro _|apply aP
  |refine aX (λx=>True) (aX (a,b) (aP ?_ λ(x:List Int×List Int)(hx:PR a b x.1 x.2/\True)(_:True)=>?_))
  |refine aX (λy=>y.1=x.1/\y.2.1=x.2) (aX (x.1,x.2,hf x.1) (aP ?_ λ(y:List Int×List Int×Nat)(hy:PH y.1 y.2.1 y.2.2/\True)(j:y.1=x.1/\y.2.1=x.2)=>?_))
  |refine aX (λz=>z.1=y.1/\z.2.1=y.2.1) (aX (y.1,y.2.1,y.2.2,lB (cu (ig (y.1.take y.2.2) (y.1.drop y.2.2)) (ig (y.2.1.take y.2.2) (y.2.1.drop y.2.2))) (ig (cu (y.1.take y.2.2) (y.2.1.take y.2.2)) (cu (y.1.drop y.2.2) (y.2.1.drop y.2.2))),cu (y.1.take y.2.2) (y.2.1.take y.2.2)++cu (y.1.drop y.2.2) (y.2.1.drop y.2.2)) (aP ?_ λ(z:List Int×List Int×Nat×List Int×List Int)(i:PY z.1 z.2.1 z.2.2.1 z.2.2.2.1 z.2.2.2.2/\True)(l:z.1=y.1/\z.2.1=y.2.1)=>?_)))
 all_goals clear r
 all_goals first
  |exact aZ
  |with_reducible rfl
  |((with_reducible show(_&&_)=true);kernel_rfl)
  | (with_reducible first|exact al2 h n|exact PRs hx)
  |((with_reducible show bY _);rename_i s;refine Dg.mem ?_ s;clear s
    first|(have u:=wQ hy.1;have t:=wR hy.1;repeat' (with_reducible first|assumption|apply sC|apply Cj|apply Dg.take|apply Dg.drop))|have u:=PRa hx;have t:=PRb hx;with_reducible assumption)
  | (with_reducible first|exact abQ _|exact na.symm)
  |(rename_i f;with_reducible first|exact WB hx f|exact al7 hx f|exact Wt hx f)
  |rename_i f _ _ _ _ _;with_reducible exact Wt hx f
  |omega
  |with_reducible exact aC8 _ _
  |rename_i f;with_reducible exact al8 hx f
  |simp only[bI];done
  |(simp only[bI];first
   |with_reducible exact(Ic hy.1).1
   |with_reducible exact(Ic hy.1).2.1
   |with_reducible exact(Ic hy.1).2.2.1
   |with_reducible exact(Ic hy.1).2.2.2
   |(rename_i f;first
    | (with_reducible first|exact alT hy.1 f|exact alU hy.1 f|exact alV hy.1 f|exact alW hy.1 f|exact alX hy.1 f j hx|exact Wl hy.1 f|exact P12 hy.1 f j hx|exact Wm hy.1 f|exact P14 hy.1 f|exact P20 hy.1 f|exact P21 hy.1 f))
   | (with_reducible first|exact Wn i.1|exact P32 i.1 l j hx|exact Wo i.1|exact Wp i.1|exact P35 i.1|exact Wq i.1))
  |with_reducible exact Wq i.1
  |have o:=qF hy.1;omega
  |have o:=Ig hx;simp only[zI,be,bj,na]at*;omega
  |have o:=qF hy.1;have C:=Ig hx;have E:=aY List.length j.1;have D:=aY List.length j.2;simp only[bI,ez,qC,c_,na];omega
  |have o:=Ig hx;rw[abQ];have C:=abR x.1;simp only[be,bj]at*;omega
def wX(x:bk):=Sm x.aF/\Dg x.aF
def ofN(b:0<=n)(c:n<=18446744073709551615):aR [n%4294967296,n/4294967296]=cM n.toNat:=by have a:Dg [n%4294967296,n/4294967296]:=Dg.mk (cg.2 ⟨O,O⟩) (Dg.mk (cg.2 ⟨O,O⟩) Dg.nil);rw[tc a];congr 2;simp only[nV];omega
def aAQ(n:Int)(h:0<=n/\n<=18446744073709551615):bh 106 [wI .u64 n] (lT .u32 (cM n.toNat)):=by
 refine vF func106 rfl [Jl] [] ?_;have d:IntKind.u32.wrap n=n%4294967296:=by rw[IntKind.wrap_u32]
 have c:n.fdiv (2^min (Int.toNat 32) IntKind.u64.bits)=n/4294967296:=by show n.fdiv 4294967296=_;rw[yj _ O]
 have b:IntKind.u32.wrap (n/4294967296)=n/4294967296:=IntWalk.u32_in _ O;have a:=ofN h.1 h.2;repeat' first|intro _|apply aP
 all_goals first|exact aZ|omega|rw[d,c,b];exact a|show 2<=_;omega
def Jn:=dR (.int .u64) aAQ
def abT(h:n<0):iD n=⟨true,cM n.natAbs⟩:=by unfold iD;rw[qP h]
def abU(h:¬n<0):iD n=⟨false,cM n.natAbs⟩:=by unfold iD;rw[s_ h]
def ajr(h:-9223372036854775808<=n/\n<=9223372036854775807)(a:n<0):IntKind.u64.wrap (0-IntKind.u64.wrap n)=-n:=by rw[IntKind.wrap_u64,IntKind.wrap_u64];omega
def ajs(h:-9223372036854775808<=n/\n<=9223372036854775807)(a:¬n<0):IntKind.u64.wrap n=n:=by rw[IntKind.wrap_u64];omega
def azl(h:wX x):iL (!x.neg) (aR x.aF)=iD (-iV x):=by rw[zC h.2];unfold iV;cases x.neg<;>simp
def aEy(a:Dg x.aF)(b:Dg y.aF)(h:decide (gu ⟨x.neg,x.aF⟩<gu ⟨y.neg,y.aF⟩)=true):-1=if iV x<iV y then(-1:Int)else if iV y<iV x then 1 else 0:=by have h:=eD h;have c:gu ⟨x.neg,x.aF⟩=(if iV x<0 then-1 else if 0<iV x then 1 else 0):=qp a;have d:gu ⟨y.neg,y.aF⟩=(if iV y<0 then-1 else if 0<iV y then 1 else 0):=qp b;rw[c,d]at h;rw[aK];omega
def aEx(a:Dg x.aF)(b:Dg y.aF)(h:decide (gu ⟨y.neg,y.aF⟩<gu ⟨x.neg,x.aF⟩)=true):1=if iV x<iV y then(-1:Int)else if iV y<iV x then 1 else 0:=by have h:=eD h;have c:gu ⟨x.neg,x.aF⟩=(if iV x<0 then-1 else if 0<iV x then 1 else 0):=qp a;have d:gu ⟨y.neg,y.aF⟩=(if iV y<0 then-1 else if 0<iV y then 1 else 0):=qp b;rw[c,d]at h;rw[g O,aK];omega
def aEv(d:Dg x.aF)(f:Dg y.aF)(b:decide (gu ⟨x.neg,x.aF⟩<gu ⟨y.neg,y.aF⟩)=false)(c:decide (gu ⟨y.neg,y.aF⟩<gu ⟨x.neg,x.aF⟩)=false)(a:decide (gu ⟨x.neg,x.aF⟩<0)=true):ij y.aF x.aF=if iV x<iV y then(-1:Int)else if iV y<iV x then 1 else 0:=by
 have b:=fg b;have c:=fg c;have a:=eD a;have h:gu ⟨x.neg,x.aF⟩=(if iV x<0 then-1 else if 0<iV x then 1 else 0):=qp d;have j:gu ⟨y.neg,y.aF⟩=(if iV y<0 then-1 else if 0<iV y then 1 else 0):=qp f;have m:=gf d;have n:=gf f;rw[h]at a;rw[h,j]at b c;rw[Av f d];have i:x.neg=true:=by
  cases e:x.neg;·simp[iV,e]at a;omega
  ·rfl
 have l:y.neg=true:=by
  cases e:y.neg;·simp[iV,e,i]at b c a;omega
  ·rfl
 unfold iV;rw[i,l];simp only[oC];by_cases k:nV y.aF<nV x.aF
 ·rw[aK k,aK O]
 ·rw[g k,g (show¬ -nV x.aF< -nV y.aF by omega)];by_cases k2:nV x.aF<nV y.aF
  ·rw[aK k2,aK O]
  ·rw[g k2,g O]
def aEw(d:Dg x.aF)(f:Dg y.aF)(a:decide (gu ⟨x.neg,x.aF⟩<gu ⟨y.neg,y.aF⟩)=false)(b:decide (gu ⟨y.neg,y.aF⟩<gu ⟨x.neg,x.aF⟩)=false)(c:decide (gu ⟨x.neg,x.aF⟩<0)=false):ij x.aF y.aF=if iV x<iV y then(-1:Int)else if iV y<iV x then 1 else 0:=by
 have a:=fg a;have b:=fg b;have c:=fg c;have h:gu ⟨x.neg,x.aF⟩=(if iV x<0 then-1 else if 0<iV x then 1 else 0):=qp d;have j:gu ⟨y.neg,y.aF⟩=(if iV y<0 then-1 else if 0<iV y then 1 else 0):=qp f;have l:=gf d;have m:=gf f;rw[h]at c;rw[h,j]at a b;rw[Av d f];have i:iV x=nV x.aF:=by
  unfold iV at c⊢;cases e:x.neg
  ·simp
  ·simp[e]at c⊢;omega
 have k:iV y=nV y.aF:=by
  rw[i]at a b;unfold iV at a b⊢;cases e:y.neg
  ·simp
  ·simp[e]at a b⊢;omega
 rw[i,k]
def aDZ:((if n<v then(-1:Int)else if v<n then 1 else 0)==0)=decide (n=v):=by
 by_cases h:n<v
 ·rw[aK h,s_ O];rfl
 ·rw[g h];by_cases c:v<n
  ·rw[aK c,s_ O];rfl
  ·rw[g c,qP O];rfl
def aAO(n:Int)(h:-9223372036854775808<=n/\n<=9223372036854775807):bh 58 [wI .i64 n] (eT .cR (iD n)):=by
 refine vF func58 rfl [Jn] [] ?_;repeat' first|intro _|apply aP
 all_goals first|exact aZ|(rename_i b;have a:n<0:=(an b);first|rw[ajr h a];omega|rw[abT a,ajr h a];show cM (-n).toNat=cM n.natAbs;congr 1;omega|rw[abT a])|(rename_i b;have a:¬n<0:=(an b);first|rw[ajs h a];omega|rw[abU a,ajs h a];show cM n.toNat=cM n.natAbs;congr 1;omega|rw[abU a])
def uA:=dR (.int .i64) aAO
def azk(x:bk)(h:wX x):bh 136 [wE .cR x] (eT .cR (iD (-iV x))):=by
 refine vF func136 rfl [Ji] [] ?_;repeat' first|intro _|apply aP
 all_goals first|exact aZ|exact h.1|rw[azl h]
def asq:=dR (.el W.cR) azk
def aqZ(x y:bk)(h:Dg x.aF/\Dg y.aF):bh 196 [wE .cR x,wE .cR y] (iT (if iV x<iV y then-1 else if iV y<iV x then 1 else 0)):=by
 refine vF func196 rfl [AB,Jg] [] ?_;repeat' first|intro _|apply aP
 all_goals first|exact aZ|((with_reducible show(_&&_)=true);kernel_rfl)|rename_i k;exact aEy h.1 h.2 k|rename_i k;exact aEx h.1 h.2 k|rename_i k1 k2 a;exact aEv h.1 h.2 k1 k2 a|rename_i k1 k2 a;exact aEw h.1 h.2 k1 k2 a
def ar2:=eO (.el W.cR) (.el W.cR) aqZ
def aDN(x y:bk)(h:Dg x.aF/\Dg y.aF):bh 230 [wE .cR x,wE .cR y] (bT (decide (iV x=iV y))):=by
 refine vF func230 rfl [ar2] [] ?_;repeat' first|intro _|apply aP
 all_goals first|exact aZ|exact h.1 _ I|exact h.2 _ I|exact aDZ
def asG:=eO (.el W.cR) (.el W.cR) aDN
def aBN:∀(n:Nat)(a b:ao),a.length+b.length<=n->(a.length+b.length<=1099511627776/\Dg a/\Dg b)->bh 219 [wL .u32 a,wL .u32 b] (lT .u32 (cu a b)):=by
 intro n
 induction n with
 |zero=>intro a b e h;exact afn a b (λp q c=>O) h
 |succ n d=>intro a b e h;exact afn a b (λp q c=>d p q O ⟨O,c.2⟩) h
def asw:Ct prog S:=qO Vw 219 (.ls W.u32) (.ls W.u32) (λ(a:ao)(b:ao)=>a.length+b.length<=1099511627776/\Dg a/\Dg b) (λ(a:ao)(b:ao)=>lT .u32 (cu a b)) (λa b h=>aBN _ a b (bu _) h)
def aBJ(c:Dg a)(d:Dg b):aR (cu (aR a) (aR b))=cM (nV a*nV b).toNat:=by rw[tc (sC _ _),Ds c.eW d.eW,gZ,gZ]
def adF(c:Dg x.aF)(d:Dg y.aF):iL (!(x.neg==y.neg)) (cM (nV x.aF*nV y.aF).toNat)=iD (iV x*iV y):=by
 have e:=og (gf c) (gf d);have a:∀(b:Bool)(n:Int),0<=n->iL b (cM n.toNat)=iD (if b then-n else n):=λb n f=>by rw[<-CP,zC (lR _).1,(lR _).2.1];have:((n.toNat:Nat):Int)=n:=O;rw[this]
 rw[a _ _ e];congr 1;unfold iV;cases x.neg<;>cases y.neg<;>simp[Int.mul_neg,Int.neg_mul]
def ayw(a:Dg x.aF)(b:Dg y.aF):(iL (!(x.neg==y.neg)) (cM (nV x.aF*nV y.aF).toNat)).neg=(iD (iV x*iV y)).neg:=by rw[adF a b]
def ayx(a:Dg x.aF)(b:Dg y.aF):(iL (!(x.neg==y.neg)) (cM (nV x.aF*nV y.aF).toNat)).aF=(iD (iV x*iV y)).aF:=by rw[adF a b]
def ayz(a b:ao)(h:a.length+b.length<=1099511627776/\Dg a/\Dg b):bh 173 [wL .u32 a,wL .u32 b] (lT .u32 (cM (nV a*nV b).toNat)):=by
 refine vF func173 rfl [uB,asw] [] ?_;obtain⟨f,e,d⟩:=h;have j:=mw a;have i:=mw b;repeat' first|intro _|apply aP
 all_goals first|exact aZ|omega|rename_i c;refine Dg.mem ?_ c;with_reducible exact e.eW|rename_i c;refine Dg.mem ?_ c;with_reducible exact d.eW|with_reducible exact aBJ e d
def asp:=eO (.ls W.u32) (.ls W.u32) ayz
def ayy(x y:bk)(h:x.aF.length+y.aF.length<=1099511627776/\Dg x.aF/\Dg y.aF):bh 125 [wE .cR x,wE .cR y] (eT .cR (iD (iV x*iV y))):=by
 refine vF func125 rfl [asp,OY] [] ?_;obtain⟨d,b,a⟩:=h;repeat' first|intro _|apply aP
 all_goals first|exact aZ|((with_reducible show(_&&_)=true);kernel_rfl)|omega|rename_i c;refine Dg.mem ?_ c;with_reducible assumption| (with_reducible first|exact ayw b a|exact ayx b a)
def OR:=eO (.el W.cR) (.el W.cR) ayy
def gv:List bk->Int
 |[]=>0
 |x::r=>iV x+gv r
def aFG(h:Z[i]?=some x):gv (Z.take (i+1))=gv (Z.take i)+iV x:=by
 have e:∀(a b:List bk),gv (a++b)=gv a+gv b:=by
  intro a b
  induction a with
  |nil=>simp[gv]
  |cons c r d=>rw[ei,gv,gv,d];omega
 rw[h_,e,h];simp[gv]
@[irreducible] def vr(n:Nat)(l:List bk):=(∀x∈l,x.aF.length<=n/\Dg x.aF)/\n<=1000000000/\l.length<=1000000000
def y4(h:Dg x.aF){n:Nat}(a:x.aF.length<=n):-pB n<iV x/\iV x<pB n:=by have b:=gS h;have c:=wc a;unfold iV;cases x.neg<;>simp<;>omega
theorem ait{n:Nat}:∀{l:List bk},(∀x∈l,x.aF.length<=n/\Dg x.aF)->-(pB n*l.length)<=gv l/\gv l<=pB n*l.length
 |[],_=>by simp[gv]
 |x::r,h=>by
  have b:=y4 (h x (bZ ..)).2 (h x (bZ ..)).1;have c:=ait (l:=r) λy a=>h y (cE _ a)
  rw[gv,fD,Int.natCast_add,mB];omega
def qV(h:-pB k<n/\n<pB k):(iD n).aF.length<=k:=by unfold iD;apply qR;omega
def amv{n:Nat}{l:List bk}(h:vr n l)(i:Nat):Sm (iD (gv (l.take i))).aF:=by
 unfold vr at h;obtain⟨b,m,j⟩:=h;have f:=ait (n:=n) (l:=l.take i) λx a=>b x (oi a)
 have e:(l.take i).length<=l.length:=by rw[ez];omega
 have c:=kn n;have d:pB n*((l.take i).length:Int)<pB (n+1):=by rw[ko];have:pB n*((l.take i).length:Int)<=pB n*1000000000:=qx O O;omega
 have:=qV (n:=gv (l.take i)) (k:=n+1) O;unfold Sm;omega
def NJ(h:vr k Z)(a:Z[(i:Int).toNat]?=some x):Sm x.aF/\Dg x.aF:=by unfold vr at h;have:=h.1 x (bF a);exact⟨by unfold Sm;omega,this.2⟩
def aix(h:vr k Z)(a:Z[(i:Int).toNat]?=some x):ji ⟨(iD (gv (Z.take i))).neg,(iD (gv (Z.take i))).aF⟩ ⟨x.neg,x.aF⟩=iD (gv (Z.take (i+1))):=by have e:ji (iD (gv (Z.take i))) x=iD (iV (iD (gv (Z.take i)))+iV x):=Ir (fA _) (NJ h a).2;rw[il]at e;rw[bI]at a;rw[aFG a];exact e
def aFK(h:vr k Z)(a:Z[(i:Int).toNat]?=some x):(ji ⟨(iD (gv (Z.take i))).neg,(iD (gv (Z.take i))).aF⟩ ⟨x.neg,x.aF⟩).neg=(iD (gv (Z.take (i+1)))).neg:=by rw[aix h a]
def aFL(h:vr k Z)(a:Z[(i:Int).toNat]?=some x):(ji ⟨(iD (gv (Z.take i))).neg,(iD (gv (Z.take i))).aF⟩ ⟨x.neg,x.aF⟩).aF=(iD (gv (Z.take (i+1)))).aF:=by rw[aix h a]
def aiw{l:List bk}(h:decide ((i:Int)<l.length)=false)(a:i<=l.length):gv (l.take i)=gv l:=by simp only[bj]at h;rw[eQ O]
def aFI(h:decide ((i:Int)<Z.length)=false)(a:i<=Z.length/\True):(iD (gv (Z.take i))).neg=(iD (gv Z)).neg:=by rw[aiw h a.1]
def aFJ(h:decide ((i:Int)<Z.length)=false)(a:i<=Z.length/\True):(iD (gv (Z.take i))).aF=(iD (gv Z)).aF:=by rw[aiw h a.1]
def av_:false=(iD 0).neg:=rfl
def av9:(iD 0).aF=[]:=by unfold iD;exact uC
def aFH:false=(iD (gv (Z.take 0))).neg:=rfl
def aiv:[]=(iD (gv (Z.take 0))).aF:=by show []=(iD 0).aF;unfold iD;exact uC.symm
def aFE(l:List bk)(n:Nat)(h:vr n l):bh 274 [wL .cR l] (eT .cR (iD (gv l))):=by
 refine vF func274 rfl [Je] [(3,⟨Nat,λx=>⟨[(2,bQ 0),(3,bQ 1),(7,lT .cR l),(8,iT l.length),(9,iT x)],[(0,dh .cR (iD 0)),(1,.cells ((cQ .cR (iD (gv (l.take x)))).map .d))],2⟩,λx=>x<=l.length/\True,λx=>l.length-x⟩)] ?_;repeat' first|intro _|apply aP|refine aX 0 (aP ?_ λ(x:Nat)(a:x<=l.length/\True)=>?_)|refine aX (x+1) ?_
 all_goals first|exact aZ| (with_reducible first|rfl|exact av_|exact av9|exact aFH|exact aiv|exact aiv.symm|exact amv h _)|(rename_i a;with_reducible first|exact aFK h a|exact aFL h a|exact(NJ h a).1)|(rename_i a d c;first|refine Dg.mem ?_ c;with_reducible exact(NJ h a).2|refine Dg.mem ?_ c;with_reducible exact fA _)|(rename_i b;with_reducible first|exact aFI b a|exact aFJ b a)|omega|simp only[be,bj]at*;omega
@[irreducible] def Ch(l:List bk):Prop:=∃n,vr n l
def aFF(l:List bk)(h:Ch l):bh 274 [wL .cR l] (eT .cR (iD (gv l))):=by unfold Ch at h;obtain⟨n,h⟩:=h;exact aFE l n h
def asR:=dR (.ls W.cR) aFF
def arD(p:J):∀(l:List aL)(q:ba),CB l p q->U2 l p q:=by
 generalize r:SizeOf.sizeOf p=D
 induction D using Nat.strongRecOn generalizing p
 rename_i D o;subst r;intro l q m;refine vO func129 rfl ⟨[],[aeq (λc=>SizeOf.sizeOf c<SizeOf.sizeOf p) (λl c q f=>o _ f c rfl l q)]⟩ [(7,⟨Nat×ba,λx=>⟨[(0,.e (.c (.aW 0 W.bt (l++ga p q x.1).length))),(4,bQ 1),(5,bQ 2),(7,iT (b7 q p.aJ)),(32,lT .aH p.aG),(33,iT p.aG.length),(34,iT x.1)],[(0,.aU W.bt (l++ga p q x.1)),(1,.cells [cw p.aJ,.d (.b8 p.neg),.d (.bf W.u32 p.aF),.d (.bf W.aH p.aG)]),(2,.cells [cw x.2.e1,cw x.2.e2,cw x.2.e3,cw x.2.e4])],3⟩,λx=>x.1<=p.aG.length/\SG q p.aJ x.2,λx=>p.aG.length-x.1⟩)] [] ⟨[(6,.e (.c (.aW 1 W.bt (l++cv p q).length)))],[(1,.aU W.bt (l++cv p q))],2⟩ ?_;repeat' first|intro _|apply aP
 case ind.right.right.right.right.right.left.left.left.right=>
  rename_i k j a n;refine aX (0,q) (aP ?_ λ(x:Nat×ba)(b:x.1<=p.aG.length/\SG q p.aJ x.2)=>?_);repeat' (first|rename_i e;exact absurd (a.symm.trans e) ae|intro _|apply aP|refine aX (x.1+1,eV q p.aJ (b7 q p.aJ+x.1)) ?_)
  all_goals first|exact aZ| (with_reducible first|rfl|exact Fm|exact zT|exact dD _|exact I8|exact yE q p.aJ|exact yF q p.aJ _|exact abG a|exact ahH b.2 a|exact ahI b.2 a|exact ahJ b.2 a|exact ahK b.2 a)|(rename_i f _;with_reducible first|exact OA b.2 a f|exact Zc b.2 a f|exact Yz m b.2 a f|exact zH f)|(rename_i h;with_reducible first|exact Fl k j h|exact I7 k j h)|simp only[be,bj]at*;have:=b.1;(first|omega|(have:=m.inr (i:=x.1) O;unfold pP at this;omega))
 case ind.right.right.right.right.right.left.left.right=>
  rename_i k j a n;refine aX (0,q) (aP ?_ λ(x:Nat×ba)(b:x.1<=p.aG.length/\SG q p.aJ x.2)=>?_);repeat' (first|rename_i e;exact absurd (a.symm.trans e) ae|intro _|apply aP|refine aX (x.1+1,eV q p.aJ (b7 q p.aJ+x.1)) ?_)
  all_goals first|exact aZ| (with_reducible first|rfl|exact Fm|exact zT|exact dD _|exact I8|exact yE q p.aJ|exact yF q p.aJ _|exact abH a|exact ahL b.2 a|exact ahM b.2 a|exact ahN b.2 a|exact ahO b.2 a)|(rename_i f _;with_reducible first|exact OB b.2 a f|exact Zd b.2 a f|exact YA m b.2 a f|exact zH f)|(rename_i h;with_reducible first|exact Fl k j h|exact I7 k j h)|simp only[be,bj]at*;have:=b.1;(first|omega|(have:=m.inr (i:=x.1) O;unfold pP at this;omega))
 case ind.right.right.right.right.right.left.right=>
  rename_i k j a n;refine aX (0,q) (aP ?_ λ(x:Nat×ba)(b:x.1<=p.aG.length/\SG q p.aJ x.2)=>?_);repeat' (first|rename_i e;exact absurd (a.symm.trans e) ae|intro _|apply aP|refine aX (x.1+1,eV q p.aJ (b7 q p.aJ+x.1)) ?_)
  all_goals first|exact aZ| (with_reducible first|rfl|exact Fm|exact zT|exact dD _|exact I8|exact yE q p.aJ|exact yF q p.aJ _|exact abI a|exact ahP b.2 a|exact ahQ b.2 a|exact ahR b.2 a|exact ahS b.2 a)|(rename_i f _;with_reducible first|exact OC b.2 a f|exact Ze b.2 a f|exact YB m b.2 a f|exact zH f)|(rename_i h;with_reducible first|exact Fl k j h|exact I7 k j h)|simp only[be,bj]at*;have:=b.1;(first|omega|(have:=m.inr (i:=x.1) O;unfold pP at this;omega))
 case ind.right.right.right.right.right.right=>
  rename_i k j a n;refine aX (0,q) (aP ?_ λ(x:Nat×ba)(b:x.1<=p.aG.length/\SG q p.aJ x.2)=>?_);repeat' (first|rename_i e;exact absurd (a.symm.trans e) ae|intro _|apply aP|refine aX (x.1+1,eV q p.aJ (b7 q p.aJ+x.1)) ?_)
  all_goals first|exact aZ| (with_reducible first|rfl|exact Fm|exact zT|exact dD _|exact I8|exact yE q p.aJ|exact yF q p.aJ _|exact abJ a|exact ahT b.2 a|exact ahU b.2 a|exact ahV b.2 a|exact ahW b.2 a)|(rename_i f _;with_reducible first|exact OD b.2 a f|exact Zf b.2 a f|exact YC m b.2 a f|exact zH f)|(rename_i h;with_reducible first|exact Fl k j h|exact I7 k j h)|simp only[be,bj]at*;have:=b.1;(first|omega|(have:=m.inr (i:=x.1) O;unfold pP at this;omega))
 all_goals first|exact aZ| (with_reducible first|rfl|exact m.b1 _|exact m.b2 _)|(rename_i h;with_reducible first|exact Y2 h|exact arE h)|(rename_i k j;with_reducible first|exact OE k j|exact Y1 k j|exact(Dd k j).1|exact(Dd k j).2.1|exact(ade k j)|exact(adf k j))
def E4:([]:List aL)++ga p q 0=[]:=by rw[I5];rfl
def E5:(([]:List aL)++ga p q 0).length=0:=by rw[I5];rfl
def E6:0=(([]:List aL)++ga p q 0).length:=by rw[I5];rfl
def E_(h:[t]=[]):False:=by cases h
def E7(x:aL):[x]≠[]:=ai
def E8(x:aL):[x].length*xY.dT<=140737488355328:=by have e:xY.dT=64:=rfl;rw[e];simp
def E9(x:aL):[x].length<=140737488355328:=ai
def Yk(h:decide (p.aJ<=0)=true):[⟨p.neg,p.aF,q.e1,q.e2,q.e3,q.e4⟩]=cv p q:=by rw[Fo,aK (an h)]
def aqb(h:decide (p.aJ<=0)=true):[(⟨p.neg,p.aF,q.e1,q.e2,q.e3,q.e4⟩:aL)].length=(cv p q).length:=by rw[<-Yk h]
def Yj(h:decide (p.aJ<=0)=false)(a:decide (4<p.aJ)=true):cv p q=[]:=by simp only[be,bj]at h a;rw[Fo,g h,aK a]
def aqa(h:decide (p.aJ<=0)=false)(a:decide (4<p.aJ)=true):(cv p q).length=0:=by rw[Yj h a];rfl
def Fa(a:decide (p.aJ<=0)=false)(b:decide (4<p.aJ)=false)(h:decide ((i:Int)<p.aG.length)=false):([]:List aL)++ga p q i=cv p q:=by simp only[bj]at h;rw[Y0 a b O];rfl
def IJ(a:decide (p.aJ<=0)=false)(b:decide (4<p.aJ)=false)(h:decide ((i:Int)<p.aG.length)=false):(([]:List aL)++ga p q i).length=(cv p q).length:=by rw[Fa a b h]
def arA(p:J)(q:ba)(m:CB [] p q):cN prog 129 (bJ (bP (U:=S) [])) ([.c (.d (.sc (.slice none 0 0))),wE .aH p,wE .mono q].map SE.den) (bJ (bP [(0,aV.aU (U:=S) W.bt (cv p q))])) (·∈[]) (ST.e (U:=S) (.c (.aW 0 W.bt (cv p q).length))).den:=by
 refine vO func129 rfl ⟨[],[aeq (λ_=>True) (λl c q _ h=>arD c l q h)]⟩ [(7,⟨Nat×ba,λx=>⟨[(0,.e (.c (.aW 0 W.bt (([]:List aL)++ga p q x.1).length))),(4,bQ 1),(5,bQ 2),(7,iT (b7 q p.aJ)),(32,lT .aH p.aG),(33,iT p.aG.length),(34,iT x.1)],[(0,.aU W.bt (([]:List aL)++ga p q x.1)),(1,.cells [cw p.aJ,.d (.b8 p.neg),.d (.bf W.u32 p.aF),.d (.bf W.aH p.aG)]),(2,.cells [cw x.2.e1,cw x.2.e2,cw x.2.e3,cw x.2.e4])],3⟩,λx=>x.1<=p.aG.length/\SG q p.aJ x.2,λx=>p.aG.length-x.1⟩)] [] ⟨[(6,.e (.c (.aW 0 W.bt (cv p q).length)))],[(0,.aU W.bt (cv p q))],1⟩ ?_;repeat' first|intro _|apply aP
 case right.right.right.right.right.left.left.left.right=>
  rename_i j f a n;refine aX (0,q) (aP ?_ λ(x:Nat×ba)(b:x.1<=p.aG.length/\SG q p.aJ x.2)=>?_);repeat' (first|rename_i e;exact absurd (a.symm.trans e) ae|intro _|apply aP|refine aX (x.1+1,eV q p.aJ (b7 q p.aJ+x.1)) ?_)
  all_goals first|exact aZ| (with_reducible first|rfl|exact E4|exact E5|exact E6|exact E7 _|exact E8 _|exact E9 _)|rename_i h;with_reducible exact E_ h|(rename_i h;with_reducible first|exact Fa j f h|exact IJ j f h)| (with_reducible first|exact zT|exact dD _|exact yE q p.aJ|exact yF q p.aJ _|exact abG a|exact ahH b.2 a|exact ahI b.2 a|exact ahJ b.2 a|exact ahK b.2 a)|(rename_i k _;with_reducible first|exact OA b.2 a k|exact Zc b.2 a k|exact Yz m b.2 a k|exact zH k)|simp only[be,bj]at*;have:=b.1;(first|omega|(have:=m.inr (i:=x.1) O;unfold pP at this;omega))
 case right.right.right.right.right.left.left.right=>
  rename_i j f a n;refine aX (0,q) (aP ?_ λ(x:Nat×ba)(b:x.1<=p.aG.length/\SG q p.aJ x.2)=>?_);repeat' (first|rename_i e;exact absurd (a.symm.trans e) ae|intro _|apply aP|refine aX (x.1+1,eV q p.aJ (b7 q p.aJ+x.1)) ?_)
  all_goals first|exact aZ| (with_reducible first|rfl|exact E4|exact E5|exact E6|exact E7 _|exact E8 _|exact E9 _)|rename_i h;with_reducible exact E_ h|(rename_i h;with_reducible first|exact Fa j f h|exact IJ j f h)| (with_reducible first|exact zT|exact dD _|exact yE q p.aJ|exact yF q p.aJ _|exact abH a|exact ahL b.2 a|exact ahM b.2 a|exact ahN b.2 a|exact ahO b.2 a)|(rename_i k _;with_reducible first|exact OB b.2 a k|exact Zd b.2 a k|exact YA m b.2 a k|exact zH k)|simp only[be,bj]at*;have:=b.1;(first|omega|(have:=m.inr (i:=x.1) O;unfold pP at this;omega))
 case right.right.right.right.right.left.right=>
  rename_i j f a n;refine aX (0,q) (aP ?_ λ(x:Nat×ba)(b:x.1<=p.aG.length/\SG q p.aJ x.2)=>?_);repeat' (first|rename_i e;exact absurd (a.symm.trans e) ae|intro _|apply aP|refine aX (x.1+1,eV q p.aJ (b7 q p.aJ+x.1)) ?_)
  all_goals first|exact aZ| (with_reducible first|rfl|exact E4|exact E5|exact E6|exact E7 _|exact E8 _|exact E9 _)|rename_i h;with_reducible exact E_ h|(rename_i h;with_reducible first|exact Fa j f h|exact IJ j f h)| (with_reducible first|exact zT|exact dD _|exact yE q p.aJ|exact yF q p.aJ _|exact abI a|exact ahP b.2 a|exact ahQ b.2 a|exact ahR b.2 a|exact ahS b.2 a)|(rename_i k _;with_reducible first|exact OC b.2 a k|exact Ze b.2 a k|exact YB m b.2 a k|exact zH k)|simp only[be,bj]at*;have:=b.1;(first|omega|(have:=m.inr (i:=x.1) O;unfold pP at this;omega))
 case right.right.right.right.right.right=>
  rename_i j f a n;refine aX (0,q) (aP ?_ λ(x:Nat×ba)(b:x.1<=p.aG.length/\SG q p.aJ x.2)=>?_);repeat' (first|rename_i e;exact absurd (a.symm.trans e) ae|intro _|apply aP|refine aX (x.1+1,eV q p.aJ (b7 q p.aJ+x.1)) ?_)
  all_goals first|exact aZ| (with_reducible first|rfl|exact E4|exact E5|exact E6|exact E7 _|exact E8 _|exact E9 _)|rename_i h;with_reducible exact E_ h|(rename_i h;with_reducible first|exact Fa j f h|exact IJ j f h)| (with_reducible first|exact zT|exact dD _|exact yE q p.aJ|exact yF q p.aJ _|exact abJ a|exact ahT b.2 a|exact ahU b.2 a|exact ahV b.2 a|exact ahW b.2 a)|(rename_i k _;with_reducible first|exact OD b.2 a k|exact Zf b.2 a k|exact YC m b.2 a k|exact zH k)|simp only[be,bj]at*;have:=b.1;(first|omega|(have:=m.inr (i:=x.1) O;unfold pP at this;omega))
 all_goals first|exact aZ| (with_reducible first|exact E4|exact E5|exact E6|exact E7 _|exact E8 _|exact E9 _)|rename_i h;with_reducible exact E_ h|(rename_i h;with_reducible first|exact Yk h|exact aqb h)|(rename_i j f;with_reducible first|exact Yj j f|exact aqa j f)|(rename_i j f;with_reducible first|exact OE j f|exact Y1 j f|exact(Dd j f).1|exact(Dd j f).2.1|exact(ade j f)|exact(adf j f))
def agM(H:List (Nat×aV S))(args:List (SE S))(K:f_ S->Prop):Prop:=
 match H,args with
 |[],[.c (.d (.sc (.slice none 0 0))),.agg [.d (.sc (.int .i64 b)),.d (.b8 a),.d (.bf W.u32 l),.d (.bf W.aH k)],.agg [.d (.sc (.int .i64 j)),.d (.sc (.int .i64 i)),.d (.sc (.int .i64 h)),.d (.sc (.int .i64 f))]]=>CB [] (.mk b a l k) ⟨j,i,h,f⟩/\K ⟨.e (.c (.aW 0 W.bt (cv (.mk b a l k) ⟨j,i,h,f⟩).length)),[(0,.aU W.bt (cv (.mk b a l k) ⟨j,i,h,f⟩))],[],[]⟩
 |_,_=>False
def aer:fk prog S where
 f:=129
 fX:=aap
 run:=agM
 ok H args K h:=by
  unfold agM at h;split at h
  ·rename_i c b n m l k j i;obtain⟨e,d⟩:=h;refine⟨_,?_,λu a o=>?_,d⟩
   ·exact(arA (.mk c b n m) ⟨l,k,j,i⟩ e).fK λu a=>by simp at a
   ·simp at a
  ·cases h
@[irreducible] def LG(l:List aL)(k x:Nat):=x<=k/\BP l x/\∀t,l[0]?=some t->fI t k=fI t x
@[irreducible] def jz(l:List aL)(y s:Nat):Int:=((l[s]?).map (ex y)).getD 0
@[irreducible] def BG(l:List aL)(k y n s:Nat):=LG l k y/\1<=y/\n=(jz l y 0+1).toNat/\jz l y 0≠0/\jz l y 0<=1073741824/\s<=l.length/\cut l y s
@[irreducible] def ef(l:List aL)(k y n s e:Nat):=BG l k y n s/\s<l.length/\s<=e/\e<=l.length/\tL l y s e (jz l y s)
@[irreducible] def yH(f:Nat)(l:List aL)(k:Int):=0<=k/\BP l k.toNat/\l.length+k.toNat<=f
def AH{l:List aL}{y s:Nat}{t:aL}(h:l[s]?=some t):jz l y s=ex y t:=by unfold jz;rw[h];rfl
def AZ{t:aL}{y:Nat}(a:1<=y)(b:y<=4):[t.e1,t.e2,t.e3,t.e4].getD ((y:Int)-1).toNat 0=ex y t:=by
 match y,a,b with
 |1,_,_=>rfl
 |2,_,_=>rfl
 |3,_,_=>rfl
 |4,_,_=>rfl
abbrev gd(t:aL)(y:Nat):Int:=[t.e1,t.e2,t.e3,t.e4].getD ((y:Int)-1).toNat 0
def LG.bp{l:List aL}{k x:Nat}(h:LG l k x/\True):BP l x:=by have:=h.1;unfold LG at this;exact this.2.1
theorem LG.k4{l:List aL}{k x:Nat}(h:LG l k x/\True):x<=4:=(LG.bp h).k4
def A6{l:List aL}{k x:Nat}(h:LG l k x/\True)(a:decide (0<(x:Int))=true):1<=x:=by simp only[be]at a;omega
def axH{l:List aL}{k x:Nat}(h:LG l k x/\True):-9223372036854775808<=(x:Int)-1:=O
def axI{l:List aL}{k x:Nat}(h:LG l k x/\True):(x:Int)-1<=9223372036854775807:=by have:=LG.k4 h;omega
def De{l:List aL}{k x:Nat}(h:LG l k x/\True)(a:decide (0<(x:Int))=true):0<=(x:Int)-1:=by have:=A6 h a;omega
def axJ{l:List aL}{k x:Nat}(h:LG l k x/\True):(x:Int)-1<((4:Nat):Int):=by have:=LG.k4 h;omega
def Kr{l:List aL}(h:((l.length:Int)==0)=false):Int.toNat 0<l.length:=by have:(l.length:Int)≠0:=an h;show 0<l.length;omega
def axK{l:List aL}(h:((l.length:Int)==0)=false):1<=(l.length:Int):=by have:=Kr h;have e:Int.toNat 0=0:=rfl;omega
def alp{l:List aL}{k:Nat}(h:BP l k):LG l k k:=by unfold LG;exact⟨bu _,h,λ_ _=>rfl⟩
def alr{l:List aL}{k x:Nat}(h:LG l k x/\True)(p:decide (0<(x:Int))=true){t:aL}(j:l[Int.toNat 0]?=some t)(d:(gd t x==0)=true):LG l k (x-1):=by
 have q:=A6 h p;have r:=LG.k4 h;have j:l[0]?=some t:=j;have d:gd t x=0:=an d;unfold gd at d;rw[AZ q r]at d;have o:=h.1;unfold LG at o⊢;obtain⟨a,b,c⟩:=o;obtain⟨m,rfl⟩:∃m,x=m+1:=⟨x-1,O⟩;refine⟨O,b.zero j d,λu i=>?_⟩;rw[c u i];rw[j]at i;injection i with i;subst i
 show fI t (m+1)=fI t m;rw[fI,aK d]
def alq{l:List aL}{k x:Nat}(h:LG l k x/\True)(a:decide (0<(x:Int))=true):(x:Int)-1=((x-1:Nat):Int):=by have:=A6 h a;omega
def bA{f:Nat}{l:List aL}{k:Nat}(h:((l.length:Int)==0)=true):cC (f+1) l k=zP:=by
 have:l.length=0:=by have:(l.length:Int)=0:=an h;omega
 rw[fc this,E3]
def bA1{f:Nat}{l:List aL}{k:Nat}(h:((l.length:Int)==0)=true):0=(cC (f+1) l k).aJ:=by rw[bA h];rfl
def bA2{f:Nat}{l:List aL}{k:Nat}(h:((l.length:Int)==0)=true):false=(cC (f+1) l k).neg:=by rw[bA h];rfl
def bA3{f:Nat}{l:List aL}{k:Nat}(h:((l.length:Int)==0)=true):(cC (f+1) l k).aF=[]:=by rw[bA h];rfl
def bA4{f:Nat}{l:List aL}{k:Nat}(h:((l.length:Int)==0)=true):(cC (f+1) l k).aG=[]:=by rw[bA h];rfl
def Uo{f:Nat}{l:List aL}{k x:Nat}(h:LG l k x/\True){t:aL}(b:l[Int.toNat 0]?=some t):∃r,l=t::r/\fI t k=fI t x:=by
 have b:l[0]?=some t:=b;have c:=h.1;unfold LG at c;cases l with
 |nil=>simp at b
 |cons a r=>have:=c.2.2 t b;simp only[jH,cY]at b;subst b;exact⟨r,rfl,this⟩
def bB{f:Nat}{l:List aL}{k x:Nat}(h:LG l k x/\True)(a:((x:Int)==0)=true){t:aL}(b:l[Int.toNat 0]?=some t):cC (f+1) l k=.mk 0 t.neg t.aF []:=by
 obtain⟨r,rfl,e⟩:=Uo (f:=f) h b;have:x=0:=by have:(x:Int)=0:=an a;omega
 subst this;rw[xf,e,fI,aK rfl]
def bB1{f:Nat}{l:List aL}{k x:Nat}(h:LG l k x/\True)(a:((x:Int)==0)=true){t:aL}(b:l[Int.toNat 0]?=some t):0=(cC (f+1) l k).aJ:=by rw[bB h a b];rfl
def bB2{f:Nat}{l:List aL}{k x:Nat}(h:LG l k x/\True)(a:((x:Int)==0)=true){t:aL}(b:l[Int.toNat 0]?=some t):t.neg=(cC (f+1) l k).neg:=by rw[bB h a b];rfl
def bB3{f:Nat}{l:List aL}{k x:Nat}(h:LG l k x/\True)(a:((x:Int)==0)=true){t:aL}(b:l[Int.toNat 0]?=some t):t.aF=(cC (f+1) l k).aF:=by rw[bB h a b];rfl
def bB4{f:Nat}{l:List aL}{k x:Nat}(h:LG l k x/\True)(a:((x:Int)==0)=true){t:aL}(b:l[Int.toNat 0]?=some t):(cC (f+1) l k).aG=[]:=by rw[bB h a b];rfl
def one{l:List aL}{t:aL}(b:l[Int.toNat 0]?=some t)(a:l[Int.toNat 0]?=some u):u=t:=by rw[b]at a;injection a with a;exact a.symm
def aaO{l:List aL}{k x:Nat}(h:LG l k x/\True)(b:decide (0<(x:Int))=true){t:aL}(a:(gd t x==0)=false):ex x t≠0:=by have:gd t x≠0:=an a;unfold gd at this;rwa [AZ (A6 h b) (LG.k4 h)]at this
def bC{f:Nat}{l:List aL}{k x:Nat}(h:LG l k x/\True)(d:decide (0<(x:Int))=true){t0 t:aL}(b:l[Int.toNat 0]?=some t0)(c:(gd t0 x==0)=false)(i:l[Int.toNat 0]?=some t)(a:decide (1073741824<gd t x)=true):
 cC f (l.drop (Int.toNat 1)) ((x:Int)).toNat=cC (f+1) l k:=by
 have e:=one b i;subst e;have m:=aaO h d c;obtain⟨r,rfl,e⟩:=Uo (f:=f) h i;have j:=A6 h d;rw[ac5 m j]at e;simp only[be,gd]at a;rw[AZ j (LG.k4 h)]at a;rw[xf,e,g O,aK a,bI];rfl
def bC1{f:Nat}{l:List aL}{k x:Nat}(h:LG l k x/\True)(d:decide (0<(x:Int))=true){t0 t:aL}(b:l[Int.toNat 0]?=some t0)(c:(gd t0 x==0)=false)(i:l[Int.toNat 0]?=some t)(a:decide (1073741824<gd t x)=true):(cC f (l.drop (Int.toNat 1)) ((x:Int)).toNat).aJ=(cC (f+1) l k).aJ:=by rw[bC h d b c i a]
def bC2{f:Nat}{l:List aL}{k x:Nat}(h:LG l k x/\True)(d:decide (0<(x:Int))=true){t0 t:aL}(b:l[Int.toNat 0]?=some t0)(c:(gd t0 x==0)=false)(i:l[Int.toNat 0]?=some t)(a:decide (1073741824<gd t x)=true):(cC f (l.drop (Int.toNat 1)) ((x:Int)).toNat).neg=(cC (f+1) l k).neg:=by rw[bC h d b c i a]
def bC3{f:Nat}{l:List aL}{k x:Nat}(h:LG l k x/\True)(d:decide (0<(x:Int))=true){t0 t:aL}(b:l[Int.toNat 0]?=some t0)(c:(gd t0 x==0)=false)(i:l[Int.toNat 0]?=some t)(a:decide (1073741824<gd t x)=true):(cC f (l.drop (Int.toNat 1)) ((x:Int)).toNat).aF=(cC (f+1) l k).aF:=by rw[bC h d b c i a]
def bC4{f:Nat}{l:List aL}{k x:Nat}(h:LG l k x/\True)(d:decide (0<(x:Int))=true){t0 t:aL}(b:l[Int.toNat 0]?=some t0)(c:(gd t0 x==0)=false)(i:l[Int.toNat 0]?=some t)(a:decide (1073741824<gd t x)=true):(cC f (l.drop (Int.toNat 1)) ((x:Int)).toNat).aG=(cC (f+1) l k).aG:=by rw[bC h d b c i a]
def aEh{f:Nat}{l:List aL}{k x:Nat}(h:LG l k x/\True)(i:l.length+k<=f+1)(a:((l.length:Int)==0)=false):yH f (l.drop (Int.toNat 1)) (x:Int):=by
 have b:=LG.bp h;have j:=Kr a;have e:Int.toNat 0=0:=rfl;have c:Int.toNat 1=1:=rfl;have d:x<=k:=by have:=h.1;unfold LG at this;exact this.1
 unfold yH;rw[bI,c];exact⟨O,b.sub (List.drop_sublist _ _),by rw[qC];omega⟩
section
variable {f:Nat}{l:List aL}{k x:Nat}{t0 t t1:aL}
def bD(h:LG l k x/\True)(j:decide (0<(x:Int))=true)(c:l[Int.toNat 0]?=some t0)(d:(gd t0 x==0)=false)(i:l[Int.toNat 0]?=some t)(a:decide (1073741824<gd t x)=false)(b:l[Int.toNat 0]?=some t1):
 gd t1 x=jz l x 0/\jz l x 0≠0/\0<=jz l x 0/\jz l x 0<=1073741824:=by
 have e:=one c i;subst e;have e:=one i b;subst e;have p:=A6 h j;have o:=LG.k4 h;have q:=aaO h j d;have m:l[0]?=some t1:=b;have r:=(LG.bp h).yW (bF m) p o;simp only[bj,gd]at a⊢;rw[AZ p o]at a⊢;rw[AH m];exact⟨rfl,q,r.1,O⟩
def bD1(h:LG l k x/\True)(j:decide (0<(x:Int))=true)(c:l[Int.toNat 0]?=some t0)(d:(gd t0 x==0)=false)(i:l[Int.toNat 0]?=some t)(a:decide (1073741824<gd t x)=false)(b:l[Int.toNat 0]?=some t1):0<=gd t1 x+1:=by have:=bD h j c d i a b;omega
def bD2(h:LG l k x/\True)(j:decide (0<(x:Int))=true)(c:l[Int.toNat 0]?=some t0)(d:(gd t0 x==0)=false)(i:l[Int.toNat 0]?=some t)(a:decide (1073741824<gd t x)=false)(b:l[Int.toNat 0]?=some t1):gd t1 x+1<=281474976710656:=by have:=bD h j c d i a b;omega
def bD3(h:LG l k x/\True)(j:decide (0<(x:Int))=true)(c:l[Int.toNat 0]?=some t0)(d:(gd t0 x==0)=false)(i:l[Int.toNat 0]?=some t)(a:decide (1073741824<gd t x)=false)(b:l[Int.toNat 0]?=some t1):gd t1 x+1<=9223372036854775807:=by have:=bD h j c d i a b;omega
def bD4(h:LG l k x/\True)(j:decide (0<(x:Int))=true)(c:l[Int.toNat 0]?=some t0)(d:(gd t0 x==0)=false)(i:l[Int.toNat 0]?=some t)(a:decide (1073741824<gd t x)=false)(b:l[Int.toNat 0]?=some t1):-9223372036854775808<=gd t1 x+1:=by have:=bD h j c d i a b;omega
def bD5(h:LG l k x/\True)(j:decide (0<(x:Int))=true)(c:l[Int.toNat 0]?=some t0)(d:(gd t0 x==0)=false)(i:l[Int.toNat 0]?=some t)(a:decide (1073741824<gd t x)=false)(b:l[Int.toNat 0]?=some t1):lC.dT*(gd t1 x+1).toNat<=281474976710656:=by have:=bD h j c d i a b;have e:lC.dT=64:=rfl;rw[e];omega
def XW(h:LG l k x/\True)(j:decide (0<(x:Int))=true)(c:l[Int.toNat 0]?=some t0)(d:(gd t0 x==0)=false)(i:l[Int.toNat 0]?=some t)(a:decide (1073741824<gd t x)=false)(b:l[Int.toNat 0]?=some t1):(gd t1 x+1).toNat=(jz l x 0+1).toNat:=by rw[(bD h j c d i a b).1]
def bD7(h:LG l k x/\True)(j:decide (0<(x:Int))=true)(c:l[Int.toNat 0]?=some t0)(d:(gd t0 x==0)=false)(i:l[Int.toNat 0]?=some t)(a:decide (1073741824<gd t x)=false)(b:l[Int.toNat 0]?=some t1):List.replicate (gd t1 x+1).toNat (J.mk 0 false [] [])=oz f l x (jz l x 0+1).toNat 0:=by rw[XW h j c d i a b];exact arq f l x _
def bD8(h:LG l k x/\True)(i:decide (0<(x:Int))=true)(c:l[Int.toNat 0]?=some t0)(d:(gd t0 x==0)=false)(j:l[Int.toNat 0]?=some t)(a:decide (1073741824<gd t x)=false)(b:l[Int.toNat 0]?=some t1):BG l k x (jz l x 0+1).toNat 0:=by have:=bD h i c d j a b;unfold BG;exact⟨h.1,A6 h i,rfl,this.2.1,this.2.2.2,dD _,asX l x⟩
end
section
variable {f:Nat}{l:List aL}{k y n s e:Nat}{t:aL}
def BG.lg(h:BG l k y n s/\True):LG l k y/\True:=by have:=h.1;unfold BG at this;exact⟨this.1,trivial⟩
def BG.one(h:BG l k y n s/\True):1<=y/\y<=4:=by have a:=LG.k4 (BG.lg h);have:=h.1;unfold BG at this;exact⟨this.2.1,a⟩
def XX(h:BG l k y n s/\True):-9223372036854775808<=(y:Int)-1:=O
def XY(h:BG l k y n s/\True):(y:Int)-1<=9223372036854775807:=by have:=BG.one h;omega
def XZ(h:BG l k y n s/\True):0<=(y:Int)-1:=by have:=BG.one h;omega
def X1(h:BG l k y n s/\True):(y:Int)-1<((4:Nat):Int):=by have:=BG.one h;omega
def bE5(h:decide ((s:Int)<l.length)=true):((s:Int)).toNat<l.length:=by simp only[be]at h;omega
def bE6(h:BG l k y n s/\True)(a:l[(s:Int).toNat]?=some t):gd t y=jz l y s:=by rw[bI]at a;have:=BG.one h;unfold gd;rw[AZ this.1 this.2,AH a]
def bE7(h:BG l k y n s/\True)(Y:decide ((s:Int)<l.length)=true):ef l k y n s s:=by simp only[be]at Y;unfold ef;exact⟨h.1,O,bu _,O,aDG _ _ _ _⟩
def ef.bg(h:ef l k y n s e/\True):BG l k y n s/\True:=by have:=h.1;unfold ef at this;exact⟨this.1,trivial⟩
def ef.le(h:ef l k y n s e/\True):s<l.length/\s<=e/\e<=l.length:=by have:=h.1;unfold ef at this;exact⟨this.2.1,this.2.2.1,this.2.2.2.1⟩
theorem ef.len(h:ef l k y n s e/\True):l.length<=1000000000:=(LG.bp (BG.lg (ef.bg h))).len
def bF1(h:ef l k y n s e/\True):-9223372036854775808<=(e:Int)+1:=O
def bF2(h:ef l k y n s e/\True):(e:Int)+1<=9223372036854775807:=by have:=ef.le h;have:=ef.len h;omega
def bF3(h:ef l k y n s e/\True)(p:decide ((e:Int)<l.length)=true)(j:l[(e:Int).toNat]?=some t)(i:(gd t y==jz l y s)=true):ef l k y n s (e+1):=by rw[bI]at j;simp only[be]at p;have o:=BG.one (ef.bg h);have i:gd t y=jz l y s:=an i;unfold gd at i;rw[AZ o.1 o.2]at i;have m:=h.1;unfold ef at m⊢;obtain⟨a,b,c,d,r⟩:=m;exact⟨a,b,O,O,aDH r j i⟩
def bF4(h:ef l k y n s e/\True)(i:l.length+k<=f+1):yH f ((l.drop ((s:Int)).toNat).take (((e:Int)).toNat-((s:Int)).toNat)) ((y:Int)-1):=by
 have o:=BG.one (ef.bg h);have a:=(BG.lg (ef.bg h));have j:y<=k:=by have:=a.1;unfold LG at this;exact this.1
 have c:=ef.le h;have b:=h.1;unfold ef at b;obtain⟨m,rfl⟩:∃m,y=m+1:=⟨y-1,O⟩;have d:(((m+1:Nat):Int)-1).toNat=m:=O;unfold yH;rw[d,bI,bI];refine⟨O,?_,by rw[ez,qC];omega⟩;exact((LG.bp a).sub (aBj l s (e-s))).down (SX b.2.2.2.2)
def IE(h:ef l k y n s e/\True):0<=jz l y s:=by have d:=BG.one (ef.bg h);have b:=ef.le h;obtain⟨a,c⟩:∃a,l[s]?=some a:=⟨l[s]'b.1,ai⟩;rw[AH c];exact((LG.bp (BG.lg (ef.bg h))).yW (bF c) d.1 d.2).1
def auZ(h:ef l k y n s e/\True):jz l y s<=jz l y 0:=by have j:=BG.one (ef.bg h);have c:=ef.le h;obtain⟨a,i⟩:∃a,l[s]?=some a:=⟨l[s]'c.1,ai⟩;obtain⟨b,d⟩:∃b,l[0]?=some b:=⟨l[0]' O,ai⟩;rw[AH i,AH d];exact(LG.bp (BG.lg (ef.bg h))).head j.1 d a (bF i)
def nn(h:ef l k y n s e/\True):n=(jz l y 0+1).toNat:=by have:=(ef.bg h).1;unfold BG at this;exact this.2.2.1
def N6(h:ef l k y n s e/\True):jz l y s<(n:Int):=by have:=auZ h;have:=nn h;have:=IE h;omega
def bF7(h:ef l k y n s e/\True):(jz l y s).toNat<(oz f l y n s).length:=by rw[YW];have:=N6 h;have:=IE h;omega
def BV(l:List aL)(y s e:Nat):Prop:=decide ((e:Int)<l.length)=!true\/∃t,l[(e:Int).toNat]?=some t/\(gd t y==jz l y s)=false
def Pe(h:ef l k y n s e/\True)(i:BV l y s e):s<e/\∀t,l[e]?=some t->ex y t≠jz l y s:=by
 have m:=BG.one (ef.bg h);have d:=ef.le h;rcases i with i|⟨t,b,a⟩
 ·simp only[Hw,bj]at i;refine⟨O,λt b=>?_⟩;rw[gp O]at b;cases b
 ·rw[bI]at b;have a:gd t y≠jz l y s:=an a;unfold gd at a;rw[AZ m.1 m.2]at a;refine⟨?_,λu c=>by rw[b]at c;injection c with c;subst c;exact a⟩;rcases Nat.lt_or_eq_of_le d.2.1 with j|j
  ·exact j
  ·subst j;exact absurd (AH b).symm a
def N7(h:ef l k y n s e/\True)(r:BV l y s e):BG l k y n e:=by have o:=Pe h r;have v:=BG.one (ef.bg h);have q:=ef.le h;have u:=LG.bp (BG.lg (ef.bg h));have m:=h.1;unfold ef at m;obtain⟨j,_,_,_,p⟩:=m;unfold BG at j⊢;obtain⟨a,b,c,d,w,Z,i⟩:=j;exact⟨a,b,c,d,w,O,asY u v.1 i p O o.2 o.1⟩
def N8(h:ef l k y n s e/\True)(q:BV l y s e):(oz f l y n s).set (jz l y s).toNat (J.mk (cC f ((l.drop ((s:Int)).toNat).take (((e:Int)).toNat-((s:Int)).toNat)) ((y:Int)-1).toNat).aJ (cC f ((l.drop ((s:Int)).toNat).take (((e:Int)).toNat-((s:Int)).toNat)) ((y:Int)-1).toNat).neg (cC f ((l.drop ((s:Int)).toNat).take (((e:Int)).toNat-((s:Int)).toNat)) ((y:Int)-1).toNat).aF (cC f ((l.drop ((s:Int)).toNat).take (((e:Int)).toNat-((s:Int)).toNat)) ((y:Int)-1).toNat).aG)=oz f l y n e:=by have u:=Pe h q;have z:=BG.one (ef.bg h);have m:=ef.le h;have r:=IE h;have w:=N6 h;have o:=h.1;unfold ef at o;obtain⟨j,_,_,_,p⟩:=o;unfold BG at j;obtain⟨a,b,c,d,A,Z,i⟩:=j;have v:((y:Int)-1).toNat=y-1:=O;rw[bm,v,bI,bI];exact ars i p u.1 m.2.2 r O
def bG3(h:ef l k y n s e/\True):(e:Int)<=(l.length:Int):=by have:=ef.le h;omega
def bG4(h:ef l k y n s e/\True):(s:Int)<=(e:Int):=by have:=ef.le h;omega
def bH{hz:decide ((s:Int)<l.length)=false}(h:BG l k y n s/\True)(q:((l.length:Int)==0)=false):cC (f+1) l k=.mk (y:Int) false [] (oz f l y n s):=by have v:=Kr q;have z:Int.toNat 0=0:=rfl;simp only[bj]at hz;obtain⟨t,m⟩:∃t,l[Int.toNat 0]?=some t:=⟨l[Int.toNat 0]'v,ai⟩;obtain⟨r,p,e⟩:=Uo (f:=f) (BG.lg h) m;have j:l[0]?=some t:=m;have u:=BG.one h;have o:=h.1;unfold BG at o;obtain⟨a,b,c,d,w,Z,i⟩:=o;rw[AH j]at c d w;rw[ac5 d u.1]at e;have Y:s=l.length:=O;rw[Y];unfold oz;rw[i_,c];subst p;rw[xf,e,g O,g O]
def bH1(h:BG l k y n s/\True)(hz:decide ((s:Int)<l.length)=false)(a:((l.length:Int)==0)=false):(y:Int)=(cC (f+1) l k).aJ:=by rw[bH (hz:=hz) h a];rfl
def bH2(h:BG l k y n s/\True)(hz:decide ((s:Int)<l.length)=false)(a:((l.length:Int)==0)=false):false=(cC (f+1) l k).neg:=by rw[bH (hz:=hz) h a];rfl
def bH3(h:BG l k y n s/\True)(hz:decide ((s:Int)<l.length)=false)(a:((l.length:Int)==0)=false):(cC (f+1) l k).aF=[]:=by rw[bH (hz:=hz) h a];rfl
def bH4(h:BG l k y n s/\True)(hz:decide ((s:Int)<l.length)=false)(a:((l.length:Int)==0)=false):oz f l y n s=(cC (f+1) l k).aG:=by rw[bH (hz:=hz) h a];rfl
def cl1(h:BG l k y n s/\True):n=(oz f l y n s).length:=(YW f l y n s).symm
end
def IT(n:Nat):(n:Int)+1=((n+1:Nat):Int):=O
def Q2{l:List aL}{k y n s e s':Nat}(h:ef l k y n s e/\True)(a:BV l y s e)(b:s=s'):l.length-e<l.length-s':=by have:=Pe h a;have:=ef.le h;omega
def z3{b:Nat}:(0:Int)=(((i,b,0):Nat×Nat×Nat).2.2:Int):=rfl
def Pf{l:List aL}{y s e:Nat}(h:decide ((e:Int)<l.length)=!true):BV l y s e:=.inl h
def CU{l:List aL}{y s e:Nat}{t:aL}(a:l[(e:Int).toNat]?=some t)(b:(gd t y==jz l y s)=false):BV l y s e:=.inr ⟨t,a,b⟩
def azL{x:Nat}(a:decide (0<(x:Int))=false)(b:((x:Int)==0)=false):False:=by simp only[bj]at a;have:(x:Int)≠0:=an b;omega
def azM{x:Nat}(a:decide (0<(x:Int))=true)(b:((x:Int)==0)=true):False:=by simp only[be]at a;have:(x:Int)=0:=an b;omega
def ap4(f:Nat)(C:∀(l:List aL)(k:Nat),BP l k->l.length+k<=f->bh 127 [wL .bt l,wI .i64 (k:Int)] (eT .aH (cC f l k)))
 (w:∀(l:List aL)(k:Int),yH f l k->bh 127 [wL .bt l,wI .i64 k] (eT .aH (cC f l k.toNat)))
 (l:List aL)(k:Nat)(E:BP l k)(D:l.length+k<=f+1):bh 127 [wL .bt l,wI .i64 (k:Int)] (eT .aH (cC (f+1) l k)):=by
 refine vF func127 rfl [qO Vw 127 (.ls W.bt) (.int .i64) (λl k=>yH f l k) (λl k=>eT .aH (cC f l k.toNat)) w] [(3,⟨Nat,λx=>⟨[(0,lT .bt l),(1,iT x),(4,bQ 0)],[(0,dh .aH zP)],1⟩,λx=>LG l k x/\True,λx=>x⟩),(11,⟨Nat×Nat×Nat,λx=>⟨[(0,lT .bt l),(1,iT x.1),(4,bQ 0),(5,.e (.c (.aW 1 (U:=S) W.aH x.2.1))),(6,iT x.2.2)],[(0,dh .aH zP),(1,.aU (U:=S) W.aH (oz f l x.1 x.2.1 x.2.2))],2⟩,λx=>BG l k x.1 x.2.1 x.2.2/\True,λx=>l.length-x.2.2⟩),(1000014,⟨Nat×Nat×Nat×Nat,λx=>⟨[(0,lT .bt l),(1,iT x.1),(4,bQ 0),(5,.e (.c (.aW 1 (U:=S) W.aH x.2.1))),(6,iT x.2.2.1),(7,iT (jz l x.1 x.2.2.1)),(8,iT x.2.2.2)],[(0,dh .aH zP),(1,.aU (U:=S) W.aH (oz f l x.1 x.2.1 x.2.2.1))],2⟩,λx=>ef l k x.1 x.2.1 x.2.2.1 x.2.2.2/\True,λx=>l.length-x.2.2.2⟩)] ?_;repeat' first|intro _|apply aP
 case right=>
  rename_i hlen z;repeat' (first
   |rename_i a b;exact(azL a b).elim
   |rename_i a _ _ _ b;exact(azM a b).elim
   |intro _|apply aP
   |refine aX k (aP ?_ λ(x:Nat)(m:LG l k x/\True)=>?_)
   |refine aX (x,(jz l x 0+1).toNat,0) (aP ?_ λ(y:Nat×Nat×Nat)(s:BG l k y.1 y.2.1 y.2.2/\True)=>?_)
   |refine aX (λv=>v.1=y.1/\v.2.2.1=y.2.2) (aX (y.1,y.2.1,y.2.2,y.2.2) (aP ?_ λ(v:Nat×Nat×Nat×Nat)(p:ef l k v.1 v.2.1 v.2.2.1 v.2.2.2/\True)(B:v.1=y.1/\v.2.2.1=y.2.2)=>?_))
   |refine aX (v.1,v.2.1,v.2.2.1,v.2.2.2+1) ?_
   |refine aX (v.1,v.2.1,v.2.2.2) ?_
   |refine aX (x-1) ?_)
  all_goals clear C w
  all_goals first|exact aZ| (with_reducible first|rfl|exact z3|exact alp E|exact Kr z|exact axK z|exact Int.natCast_nonneg _|exact IT _|exact cl1 s|exact XX s|exact XY s|exact XZ s|exact X1 s|exact XX (ef.bg p)|exact XY (ef.bg p)|exact XZ (ef.bg p)|exact X1 (ef.bg p)|exact bF1 p|exact bF2 p|exact bF4 p D|exact IE p|exact N6 p|exact bF7 p|exact bG3 p|exact bG4 p|exact B.1|exact B.2|exact axH m|exact axI m|exact axJ m|exact aEh m D z)|rename_i n;with_reducible exact De m n|rename_i n _ _;with_reducible exact De m n|rename_i n _ _ _ _;with_reducible exact De m n|rename_i n _ _ _ _ _ _;with_reducible exact De m n|rename_i n _ _ _ _ _ _ _;with_reducible exact De m n|rename_i n _ _ _ _ _ _ _ _ _;with_reducible exact De m n|(rename_i n t0 i u;with_reducible first|exact alr m n i u|exact alq m n)|(rename_i r t j;with_reducible first|exact bB1 m r j|exact bB2 m r j|exact bB3 m r j|exact bB4 m r j)|(rename_i n t0 i o r t j d;with_reducible first|exact bC1 m n i o j d|exact bC2 m n i o j d|exact bC3 m n i o j d|exact bC4 m n i o j d)|(rename_i n t0 i o r t j d t1 q;with_reducible first|exact bD1 m n i o j d q|exact bD2 m n i o j d q|exact bD3 m n i o j d q|exact bD4 m n i o j d q|exact bD5 m n i o j d q|exact XW m n i o j d q|exact bD7 m n i o j d q|exact bD8 m n i o j d q)|(rename_i Y;with_reducible first|exact bE5 Y|exact bH1 s Y z|exact bH2 s Y z|exact bH3 s Y z|exact bH4 s Y z)|(rename_i Y t j;with_reducible first|exact bE6 s j|exact bE7 s Y)|(rename_i A t j u;first|with_reducible exact bF3 p A j u|with_reducible exact N7 p (CU j u)|with_reducible exact N8 p (CU j u)|exact Q2 p (CU j u) B.2)|(rename_i A t j u _ _;first|with_reducible exact N7 p (CU j u)|with_reducible exact N8 p (CU j u)|exact Q2 p (CU j u) B.2)|(rename_i A _ _;first|with_reducible exact N7 p (Pf A)|with_reducible exact N8 p (Pf A)|exact Q2 p (Pf A) B.2)|decide|show x-1<x;simp only[be,bj]at*;omega|show l.length-(v.2.2.2+1)<l.length-v.2.2.2;simp only[be,bj]at*;omega
 all_goals clear C w
 all_goals first|exact aZ|(rename_i h;with_reducible first|exact bA1 h|exact bA2 h|exact bA3 h|exact bA4 h)
def aEi(a:∀(l:List aL)(k:Nat),BP l k->l.length+k<=f->bh 127 [wL .bt l,wI .i64 (k:Int)] (eT .aH (cC f l k)))(l:List aL)(k:Int)(h:yH f l k):bh 127 [wL .bt l,wI .i64 k] (eT .aH (cC f l k.toNat)):=by unfold yH at h;have e:k=((k.toNat:Nat):Int):=O;have:=a l k.toNat h.2.1 h.2.2;rw[<-e]at this;exact this
def ap1(k:Int):bh 127 [wL .bt ([]:List aL),wI .i64 k] (eT .aH zP):=by
 refine vF func127 rfl [] [] ?_;repeat' (first|rename_i h;exact absurd h ae|intro _|apply aP)
 all_goals first|exact aZ|rfl
theorem Oe:∀(f:Nat)(l:List aL)(k:Nat),BP l k->l.length+k<=f->bh 127 [wL .bt l,wI .i64 (k:Int)] (eT .aH (cC f l k))
 |0,l,k,_,hf=>by have:l=[]:=fc O;subst this;rw[cC];exact ap1 k
 |f+1,l,k,a,hf=>ap4 f (Oe f) (aEi (Oe f)) l k a hf
@[irreducible] def BM(l:List aL)(k:Int):=k=4/\BP l 4
def apY(l:List aL)(k:Int)(h:BM l k):bh 127 [wL .bt l,wI .i64 k] (eT .aH (cC (l.length+4) l 4)):=by unfold BM at h;obtain⟨rfl,h⟩:=h;exact Oe (l.length+4) l 4 h (bu _)
def Zr:=eO (.ls W.bt) (.int .i64) apY
def I1(h:gC p=true):p=da p:=by unfold da;rw[aK h]
def I2(h:gC p=false):cC ((di (cv p ⟨0,0,0,0⟩)).length+4) (di (cv p ⟨0,0,0,0⟩)) 4=da p:=by unfold da;rw[g (by simp[h])]
def arc(h:gC (.mk p.aJ p.neg p.aF p.aG)=true):p.aJ=(da p).aJ:=by rw[bm]at h;rw[<-I1 h]
def arh(h:gC (.mk p.aJ p.neg p.aF p.aG)=false):(cC ((di (cv (.mk p.aJ p.neg p.aF p.aG) ⟨0,0,0,0⟩)).length+4) (di (cv (.mk p.aJ p.neg p.aF p.aG) ⟨0,0,0,0⟩)) 4).aJ=(da p).aJ:=by rw[bm]at h⊢;rw[I2 h]
def ard(h:gC (.mk p.aJ p.neg p.aF p.aG)=true):p.neg=(da p).neg:=by rw[bm]at h;rw[<-I1 h]
def ari(h:gC (.mk p.aJ p.neg p.aF p.aG)=false):(cC ((di (cv (.mk p.aJ p.neg p.aF p.aG) ⟨0,0,0,0⟩)).length+4) (di (cv (.mk p.aJ p.neg p.aF p.aG) ⟨0,0,0,0⟩)) 4).neg=(da p).neg:=by rw[bm]at h⊢;rw[I2 h]
def are(h:gC (.mk p.aJ p.neg p.aF p.aG)=true):p.aF=(da p).aF:=by rw[bm]at h;rw[<-I1 h]
def arj(h:gC (.mk p.aJ p.neg p.aF p.aG)=false):(cC ((di (cv (.mk p.aJ p.neg p.aF p.aG) ⟨0,0,0,0⟩)).length+4) (di (cv (.mk p.aJ p.neg p.aF p.aG) ⟨0,0,0,0⟩)) 4).aF=(da p).aF:=by rw[bm]at h⊢;rw[I2 h]
def arf(h:gC (.mk p.aJ p.neg p.aF p.aG)=true):p.aG=(da p).aG:=by rw[bm]at h;rw[<-I1 h]
def ark(h:gC (.mk p.aJ p.neg p.aF p.aG)=false):(cC ((di (cv (.mk p.aJ p.neg p.aF p.aG) ⟨0,0,0,0⟩)).length+4) (di (cv (.mk p.aJ p.neg p.aF p.aG) ⟨0,0,0,0⟩)) 4).aG=(da p).aG:=by rw[bm]at h⊢;rw[I2 h]
def np1(h:bO p):CB [] (.mk p.aJ p.neg p.aF p.aG) ⟨0,0,0,0⟩:=by rw[bm];exact h.cb
def np2(h:bO p):Es (cv (.mk p.aJ p.neg p.aF p.aG) ⟨0,0,0,0⟩):=by rw[bm];exact h.nb.e
def np3(h:bO p):BM (di (cv (.mk p.aJ p.neg p.aF p.aG) ⟨0,0,0,0⟩)) 4:=by rw[bm];unfold BM;exact⟨rfl,azT h.nb h.eb O⟩
def np4(h:bO p):kQ (da p):=h.Yx.sm O
def aqy(p:J)(a:bO p):bh 81 [wE .aH p] (eT .aH (da p)):=by
 refine vG func81 rfl ⟨[ZB,OT,Zr],[aer]⟩ [] ?_;repeat' first|intro _|apply aP
 all_goals first|exact aZ| (with_reducible first|rfl|exact np1 a|exact np2 a|exact np3 a)|(rename_i h;with_reducible first|exact arc h|exact arh h|exact ard h|exact ari h|exact are h|exact arj h|exact arf h|exact ark h)
def Zs:=dR (.el W.aH) aqy
def azE:(lQ (.mk (da (.mk p.aJ p.neg p.aF p.aG)).aJ (da (.mk p.aJ p.neg p.aF p.aG)).neg (da (.mk p.aJ p.neg p.aF p.aG)).aF (da (.mk p.aJ p.neg p.aF p.aG)).aG)).aJ=(dG p).aJ:=by rw[bm,bm];unfold dG;rfl
def azF:(lQ (.mk (da (.mk p.aJ p.neg p.aF p.aG)).aJ (da (.mk p.aJ p.neg p.aF p.aG)).neg (da (.mk p.aJ p.neg p.aF p.aG)).aF (da (.mk p.aJ p.neg p.aF p.aG)).aG)).neg=(dG p).neg:=by rw[bm,bm];unfold dG;rfl
def azG:(lQ (.mk (da (.mk p.aJ p.neg p.aF p.aG)).aJ (da (.mk p.aJ p.neg p.aF p.aG)).neg (da (.mk p.aJ p.neg p.aF p.aG)).aF (da (.mk p.aJ p.neg p.aF p.aG)).aG)).aF=(dG p).aF:=by rw[bm,bm];unfold dG;rfl
def azH:(lQ (.mk (da (.mk p.aJ p.neg p.aF p.aG)).aJ (da (.mk p.aJ p.neg p.aF p.aG)).neg (da (.mk p.aJ p.neg p.aF p.aG)).aF (da (.mk p.aJ p.neg p.aF p.aG)).aG)).aG=(dG p).aG:=by rw[bm,bm];unfold dG;rfl
def np5(h:bO p):bO (.mk p.aJ p.neg p.aF p.aG):=by rw[bm];exact h
def np6(h:bO p):kQ (.mk (da (.mk p.aJ p.neg p.aF p.aG)).aJ (da (.mk p.aJ p.neg p.aF p.aG)).neg (da (.mk p.aJ p.neg p.aF p.aG)).aF (da (.mk p.aJ p.neg p.aF p.aG)).aG):=by rw[bm,bm];exact np4 h
def azS(p:J)(a:bO p):bh 39 [wE .aH p] (eT .aH (dG p)):=by
 refine vF func39 rfl [Zs,AA] [] ?_;repeat' first|intro _|apply aP
 all_goals first|exact aZ| (with_reducible first|exact np5 a|exact np6 a|exact azE|exact azF|exact azG|exact azH)
def yT:=dR (.el W.aH) azS
def axc(h:0<(cM k).length):xv (cM k)≠0:=by have a:=(lR k).2.2;unfold kj at a;rw[pS]at a;unfold xv;obtain⟨x,b⟩:∃x,(cM k)[(cM k).length-1]?=some x:=⟨(cM k)[(cM k).length-1]' O,ca _⟩;rw[b]at a⊢;simpa using a
def aqt(n:Int):gC (kP n)=true:=by
 unfold kP;rw[gC,aK rfl];by_cases c:n=0
 ·subst c;rw[abV];rfl
 ·have a:0<(iD n).aF.length:=H4 λh=>Z3 (n:=n.natAbs) O (fc h)
  have b:xv (iD n).aF≠0:=axc a;rw[qP a,qP b];simp
theorem Yv:∀(L:Nat){p:J},L<=4->br L p->gC p=true
 |L,p,r,h=>by
  cases h with
  |const n=>exact aqt n
  |node lv e t s j i f=>
   rw[gC,IR,g O];have l:e.all (λc=>!decide ((lv:Int)<=c.aJ)&&gC c)=true:=by rw[eM];intro c b;have d:=i c b;have q:=d.lv;have a:=Yv (lv-1) O d;rw[a,Hv];have:¬(lv:Int)<=c.aJ:=O;simp[this]
   have k:vQ e=false:=by
    unfold vQ;split
    ·rename_i c b;exact f c (by rw[pS];exact b)
    ·rfl
   rw[l,k];have o:(1:Int)<=lv:=O;have m:(lv:Int)<=4:=O;simp[o,m,j]
termination_by L=>L
def IQ(h:br 4 p):gC p=true:=Yv 4 (bu _) h
theorem Fp:∀(L:Nat){p:J},br L p->lQ p=p
 |L,p,h=>by
  cases h with
  |const n=>
   unfold kP;rw[lQ,aK rfl];have e:jm ⟨(iD n).neg,(iD n).aF⟩=iD n:=by have:jm (iD n)=iD (iV (iD n)):=tJ (fA n);rw[il]at this;exact this
   rw[e]
  |node b a l k j f i=>
   rw[lQ,OJ,g O];congr 1;have:a.map lQ=a.map id:=lc λc d=>Fp (b-1) (f c d)
   rw[this,En]
termination_by L=>L
@[irreducible] def CS(p:J):=br 4 p/\kQ p
def CS.bw(h:CS p):br 4 p:=by unfold CS at h;exact h.1
def CS.sm(h:CS p):kQ p:=by unfold CS at h;exact h.2
def CS.e(h:CS p):CS (.mk p.aJ p.neg p.aF p.aG):=by rw[bm];exact h
def aqs(h:CS p)(a:gC (.mk p.aJ p.neg p.aF p.aG)=false):False:=by rw[bm,IQ h.bw]at a;cases a
def aqx(p:J)(h:CS p):bh 81 [wE .aH p] (eT .aH p):=by
 refine vF func81 rfl [ZB] [] ?_;repeat' (first|rename_i a;exact(aqs h a).elim|intro _|apply aP)
 all_goals first|exact aZ|with_reducible rfl
def Az:=dR (.el W.aH) aqx
def awi(p:J)(h:CS p):bh 71 [wE .aH p] (bT (bM p)):=by
 refine vF func71 rfl [Az,Fv] [] ?_;repeat' first|intro _|apply aP
 all_goals first|exact aZ|with_reducible exact h.e|rw[bm,bm];rfl
def CE:=dR (.el W.aH) awi
def azQ(p:J)(h:CS p):bh 39 [wE .aH p] (eT .aH p):=by
 refine vF func39 rfl [Az,AA] [] ?_;have e:=Fp 4 h.bw;repeat' first|intro _|apply aP
 all_goals first|exact aZ|with_reducible exact h.e|show kQ _;rw[bm,bm];exact h.sm|rw[bm,bm,e]
def OS:=dR (.el W.aH) azQ
def arJ(x:bk)(h:wX x):bh 273 [wE .cR x] (eT .aH (kP (iV x))):=by
 refine vF func273 rfl [CH] [] ?_;have e:jm ⟨x.neg,x.aF⟩=iD (iV x):=tJ h.2;repeat' first|intro _|apply aP
 all_goals first|exact aZ|exact h.1|rw[e];rfl|unfold kP;rfl
def OM:=dR (.el W.cR) arJ
def aGn{x T:Nat}(h:(x<=X.length/\iW X x=T)/\True)(b:decide (0<(x:Int))=true)(d:X[((x:Int)-1).toNat]?=some p)(e:decide ((J.mk p.aJ p.neg p.aF p.aG).aJ=0/\(J.mk p.aJ p.neg p.aF p.aG).aF.length=0)=true):iW X (x-1)=T:=by have b:0<x:=an b;obtain⟨m,rfl⟩:∃m,x=m+1:=⟨x-1,O⟩;have f:(((m+1:Nat):Int)-1).toNat=m:=O;rw[f]at d;rw[bm]at e;have:=h.1.2;rw[iW,d]at this;have a:bM p=true:=e;simp only[dH,ie,a,oC]at this;exact this
def Ul{x:Nat}(h:(x<=X.length/\iW X x=k)/\True)(b:decide (0<(x:Int))=true)(d:X[((x:Int)-1).toNat]?=some p)(e:decide ((J.mk p.aJ p.neg p.aF p.aG).aJ=0/\(J.mk p.aJ p.neg p.aF p.aG).aF.length=0)=false):k=x:=by have b:0<x:=an b;obtain⟨m,rfl⟩:∃m,x=m+1:=⟨x-1,O⟩;have f:(((m+1:Nat):Int)-1).toNat=m:=O;rw[f]at d;rw[bm]at e;have:=h.1.2;rw[iW,d]at this;have a:bM p=false:=e;simp only[dH,ie,a]at this;exact this.symm
def Uk{x:Nat}(h:(x<=X.length/\iW X x=k)/\True)(a:decide (0<(x:Int))=false):k=x:=by
 have a:x=0:=by simp at a;omega
 subst a;exact h.1.2.symm
def aiR(h:iW X X.length=k)(a:((k:Int)==0)=true):kO n X=zP:=by
 have:k=0:=by have:(k:Int)=0:=an a;omega
 unfold kO;rw[h,aK this]
def aiS{c:J}(h:iW X X.length=k)(f:((k:Int)==0)=false)(d:((k:Int)==1)=true)(b:X[Int.toNat 0]?=some c):kO n X=c:=by
 have e:k=1:=by have:(k:Int)=1:=an d;omega
 unfold kO;rw[h,g O,aK e];cases X with
 |nil=>simp at b
 |cons a r=>simp at b;simpa using b
def aiT(h:iW X X.length=k)(a:((k:Int)==0)=false)(b:((k:Int)==1)=false):kO n X=.mk n false [] (X.take k):=by have c:(k:Int)≠0:=an a;have d:(k:Int)≠1:=an b;unfold kO;rw[h,g O,g O]
def aGm(h:decide (0<(k:Int))=false)(b:((k:Int)==1)=true):False:=by have a:(k:Int)=1:=an b;simp only[bj]at h;omega
def aGb(k:Int)(b:List J):bh 226 [wI .i64 k,wL .aH b] (eT .aH (kO k b)):=by
 refine vF func226 rfl [Fv] [(2,⟨Nat,λx=>⟨[(0,iT k),(1,lT .aH b),(4,bQ 0),(5,iT x)],[(0,dh .aH zP)],1⟩,λx=>(x<=b.length/\iW b x=iW b b.length)/\True,λx=>x⟩)] ?_;repeat' first|intro _|apply aP|refine aX b.length (aP ?_ λ(x:Nat) (h:(x<=b.length/\iW b x=iW b b.length)/\True)=>?_)|refine aX (x-1) ?_
 all_goals first|exact aZ|with_reducible rfl|exact(rfl:(0:Int)=zP.aJ)|exact(rfl:false=zP.neg)|exact(rfl:zP.aF=[])|exact(rfl:zP.aG=[])|omega|simp only[be,bj]at*;omega|rename_i a c j f;exact aGn h a j f|rename_i a c j f d;have e:=Ul h a j f;rw[aiR e d];rfl|rename_i a c j f d0 d1 l i;have e:=Ul h a j f;rw[aiS e d0 d1 i]|(rename_i a c j f d0 d1;have e:=Ul h a j f;rw[aiT e d0 d1];first|rfl|rw[bI];rfl)|rename_i a d;have e:=Uk h a;rw[aiR e d];rfl|rename_i a d0 d1 l i;have e:=Uk h a;rw[aiS e d0 d1 i]|rename_i a d0 d1;exact(aGm a d1).elim|(rename_i a d0 d1;have e:=Uk h a;rw[aiT e d0 d1];first|rfl|rw[bI];rfl)
def O0:=eO (.int .i64) (.ls W.aH) λa b (_:True)=>aGb a b
def U0:∀{p:J},jG p->gC p=true->br 4 p/\0<=p.aJ:=by
 intro p h
 induction h with
 |mk l n a k v K t=>
  intro d;rw[gC]at d;by_cases q:l=0
  ·subst q;rw[aK rfl]at d;have i:k=[]:=by
    cases k with
    |nil=>rfl
    |cons c r=>simp at d
   subst i;have e:J.mk 0 n a []=kP (iV ⟨n,a⟩):=by
    have u:kj a:=by
     unfold kj;intro f;rw[pS]at f;have B:xv a=0:=by unfold xv;rw[f];rfl
     cases a with
     |nil=>simp at f
     |cons x y=>simp[B]at d
    have A:=Uc u;have j:=tJ (x:=⟨n,a⟩) v;unfold jm iL at j;simp only[A]at j;unfold kP;rw[<-j];simp only;have:(n&&decide (0<a.length))=n:=by
     cases a with
     |nil=>simp at d;simp[d]
     |cons x y=>simp
    rw[this]
   rw[e];exact⟨.const _,B0 _⟩
  ·rw[g q]at d;simp only[dB,be,zX,IR,eM,bj]at d;obtain⟨⟨⟨⟨⟨⟨M,L⟩,c3⟩,c4⟩,E⟩,D⟩,o⟩:=d;have w:a=[]:=fc c3;subst w c4;obtain⟨lv,rfl⟩:∃lv:Nat,l=lv:=⟨l.toNat,O⟩;refine⟨.node lv k O O E (λc b=>?_) (λc b=>?_),by show(0:Int)<=lv;omega⟩
   ·obtain⟨H,G⟩:=D c b;obtain⟨s,N⟩:=t c b G;by_cases e:c.aJ=0
    ·rw[s.oX e];exact .const _
    ·cases s with
     |const z=>exact absurd rfl e
     |node m C d1 d2 d3 d4 d5=>
      have:(m:Int)<(lv:Nat):=by have:¬(lv:Int)<=(m:Nat):=H;omega
      exact .node m C d1 O d3 d4 d5
   ·unfold vQ at o;rw[pS]at b;rw[b]at o;exact o
def fy(m:ba):List aL->Int
 |[]=>0
 |t::r=>(if ql t.mono m then iV t.cZ else 0)+fy m r
theorem Cw(m:ba)(b:List aL):∀a,fy m (a++b)=fy m a+fy m b
 |[]=>by rw[gi,fy];omega
 |t::a=>by rw[ei,fy,fy,Cw m b a];omega
def aqJ(m:ba){b:List aL}(h:l.Perm b):fy m l=fy m b:=by
 induction h with
 |nil=>rfl
 |cons x _ d=>rw[fy,fy,d]
 |swap x y c=>rw[fy,fy,fy,fy];omega
 |trans _ _ e f=>rw[e,f]
theorem Cx:∀{l:List aL},(∀t∈l,t.mono≠m)->fy m l=0
 |[],_=>rfl
 |t::r,h=>by
  have:ql t.mono m=false:=by
   cases e:ql t.mono m with
   |false=>rfl
   |true=>exact absurd (DA.1 e) (h t (bZ ..))
  rw[fy,Cx λu a=>h u (cE _ a),this];rfl
def ahk(m:ba):ql m m=true:=DA.2 rfl
theorem YJ:∀{l:List aL}{t:aL},l.Pairwise (λs t=>s.mono≠t.mono)->t∈l->t.mono=m->fy m l=iV t.cZ
 |u::r,t,d,a,b=>by
  obtain⟨c,f⟩:=Eo.1 d;rcases dC.1 a with rfl|a
  ·rw[fy,b,ahk,aK rfl,Cx λv h=>by rw[<-b];exact(c v h).symm];omega
  ·have:ql u.mono m=false:=by
    cases e:ql u.mono m with
    |false=>rfl
    |true=>exact absurd ((DA.1 e).trans b.symm) (c t a)
   rw[fy,this,YJ f a b];simp
theorem YK(m:ba):∀{l:List aL}{i:Nat}{t:aL}(c:bk),l[i]?=some t->fy m (l.set i (xA c t.mono))=fy m l+(if ql t.mono m then iV c-iV t.cZ else 0)
 |[],i,t,c,h=>by simp at h
 |a::r,0,t,c,h=>by simp only[jH,cY]at h;subst h;rw[vm,fy,fy,A8,ze];split<;>omega
 |a::r,i+1,t,c,h=>by rw[HV,fy,fy,YK m (l:=r) (i:=i) c (an h)];omega
def aqI(m:ba)(h:GT l)(d:Dg x.aF)(e:jf q=false):fy m (gW l q x)=fy m l+(if ql q m then iV x else 0):=by
 cases a:mh q l with
 |none=>rw[C4 e a,Cw,fy,fy,ze,A8,tJ d,il];omega
 |some i=>obtain⟨t,b,f⟩:=F0 a;have j:=h.dg t (bF b);rw[JT e a b,YK m _ b,Ir j d,il,f];split<;>omega
theorem YI{p:List aL}(m:ba)(b:∀t∈p,Dg t.cZ.aF)(c:∀t∈p,jf t.mono=false):∀i,i<=p.length->fy m (gQ p i)=fy m (p.take i)
 |0,_=>by rw[xo,iC]
 |i+1,j=>by
  have e:=JS b c i O;obtain⟨t,a⟩:∃t,p[(i:Int).toNat]?=some t:=by rw[bI];exact⟨p[i]' O,ai⟩
  have d:t∈p:=bF a;have f:p.take (i+1)=p.take i++[t]:=by rw[bI]at a;rw[h_,a];rfl
  have h:gQ p (i+1)=gW (gQ p i) t.mono t.cZ:=(uI a).symm;rw[h,f,aqI m e.1 (b t d) (c t d),YI m b c i O,Cw,fy,fy];omega
theorem YH(m:ba)(f:aL->Bool):∀{l:List aL},(∀t∈l,f t=false->iV t.cZ=0)->fy m (l.filter f)=fy m l
 |[],_=>rfl
 |t::r,h=>by
  have a:=YH m f (l:=r) λu b=>h u (cE _ b)
  cases hf:f t with
  |true=>rw[yp hf,fy,fy,a]
  |false=>rw[Ae (by simp[hf]),fy,a,h t (bZ ..) hf];split<;>omega
def aee(p:List aL):(di p).Perm ((gQ p p.length).filter v8):=by unfold di oK tR;exact Bw _ _
def Rg{p:List aL}(m:ba)(a:∀t∈p,Dg t.cZ.aF)(b:∀t∈p,jf t.mono=false):fy m (di p)=fy m p:=by have c:=JS a b p.length (bu _);rw[aqJ m (aee p),YH,YI m a b _ (bu _),i_];intro t d hf;rw[La (c.1.dg t d)]at hf;simpa using hf
def avM(h:t∈gW l q x):(∃u∈l,u.mono=t.mono)\/t.mono=q:=by
 by_cases a:jf q=true
 ·rw[FW a]at h;exact .inl ⟨t,h,rfl⟩
 ·have a:jf q=false:=by simpa using a
  cases b:mh q l with
  |none=>
   rw[C4 a b]at h;rcases dd.1 h with h|h
   ·exact .inl ⟨t,h,rfl⟩
   ·rw[dZ.1 h];exact .inr rfl
  |some i=>
   obtain⟨u,d,e⟩:=F0 b;rw[JT a b d]at h;rcases B4 h with h|rfl
   ·exact .inl ⟨t,h,rfl⟩
   ·exact .inl ⟨u,bF d,rfl⟩
theorem abA{t:aL}:∀i,i<=l.length->t∈gQ l i->∃u∈l,u.mono=t.mono
 |0,_,h=>by rw[xo]at h;simp at h
 |i+1,e,h=>by
  obtain⟨u,a⟩:∃t,l[(i:Int).toNat]?=some t:=by rw[bI];exact⟨l[i]' O,ai⟩
  rw[<-uI a]at h;rcases avM h with⟨v,b,he⟩|he
  ·obtain⟨w,c,d⟩:=abA i O b;exact⟨w,c,d.trans he⟩
  ·exact⟨u,bF a,he.symm⟩
def Gv(h:t∈di l):∃u∈l,u.mono=t.mono:=abA _ (bu _) (Ri h)
def A5:Nat->ba->ba->Prop
 |0,_,_=>False
 |k+1,p,q=>b7 p (k+1:Nat)<b7 q (k+1:Nat)\/(b7 p (k+1:Nat)=b7 q (k+1:Nat)/\A5 k p q)
def axt(p q:ba):A5 4 p q↔lU p q:=by simp only[A5,lU,b7];simp
theorem acZ:∀(k:Nat)(p:ba),¬A5 k p p
 |0,_,h=>h
 |k+1,p,h=>by rcases h with h|h;omega;exact acZ k p h.2
theorem QG:∀{k:Nat},f<=k->(∀v,f<v->v<=k->b7 m (v:Nat)=b7 q (v:Nat))->¬A5 f m q->¬A5 k m q
 |0,h,_,a=>by rw[show f=0 by omega]at a;exact a
 |k+1,h,c,a=>by
  by_cases e:f=k+1
  ·rw[e]at a;exact a
  ·intro b;rcases b with b|b
   ·have:=c (k+1) O (bu _);omega
   ·exact QG O (λv d i=>c v d O) a b.2
def gk:Nat->J->Int
 |0,p=>cV p
 |f+1,p=>match p.aG.getLast? with|some c=>gk f c|none=>cV p
def pc{v:Nat}(d:1<=v)(a:v<=4)(e:1<=n)(f:n<=4)(x:Int):b7 (eV q n x) v=if(v:Int)=n then x else b7 q v:=by have b:n=1\/n=2\/n=3\/n=4:=O;have c:v=1\/v=2\/v=3\/v=4:=O;rcases b with rfl|rfl|rfl|rfl<;>rcases c with rfl|rfl|rfl|rfl<;>simp[b7,eV]
mutual
theorem uw (v:Nat) (f:1<=v) (b:v<=4):∀(p:J)(q:ba),Fr v p->∀t∈cv p q,b7 t.mono v=b7 q v
 |.mk d u w o,q,h,t,a=>by
  rw[cv]at a
  split at a
  ·rw[dZ]at a;subst a;rfl
  ·split at a
   ·simp at a
   ·exact Y_ v f b d O O h.lv o q _ 0 h.bz t a
theorem Y_ (v:Nat) (f:1<=v) (b:v<=4) (d:Int) (m:1<=d) (k:d<=4) (j:d≠v):∀(l:List J)(q:ba)(s:Int)(i:Nat),(∀c∈l,Fr v c)->∀t∈gD d l q s i,b7 t.mono v=b7 q v
 |[],q,s,i,_,t,a=>by rw[gD]at a;simp at a
 |c::r,q,s,i,h,t,a=>by
  rw[gD]at a
  rcases dd.1 a with a|a
  ·rw[uw v f b c _ (h c (bZ ..)) t a,pc f b m k,g (λe=>j e.symm)]
  ·exact Y_ v f b d m k j r q s (i+1) (λx n=>h x (cE _ n)) t a
end
def br.fr(h:br k p)(d:k<f):Fr f p:=by
 induction h with
 |const n=>exact .const O n
 |node e i j l m o q a=>exact .mk _ _ _ _ O λc b=>a c b O
theorem yR:∀{l:List J}{i:Nat},t∈gD n l q v i->∃j c,l[j]?=some c/\t∈cv c (eV q n (v+(i+j:Nat)))
 |[],i,h=>by rw[gD]at h;simp at h
 |c::r,i,h=>by
  rw[gD]at h;rcases dd.1 h with h|h
  ·exact⟨0,c,rfl,by simpa using h⟩
  ·obtain⟨j,d,a,b⟩:=yR h;exact⟨j+1,d,by simpa using a,by rw[show i+(j+1)=i+1+j by omega];exact b⟩
def Y7{d:Nat}:∀{L:Nat}{p:J},br L p->L<=4->DL d p->∀(q:ba)(t),t∈cv p q->∀v:Nat,1<=v->v<=4->b7 t.mono v<=b7 q v+d:=by
 intro L p h
 induction h with
 |const n=>intro _ _ q t b v _ _;unfold kP at b;rw[cv,aK ae,dZ]at b;subst b;show b7 q v<=_;omega
 | @node L o r w x y s z u=>
   intro A k q t b v f a;rw[cv,g O,g O]at b;obtain⟨j,c,l,m⟩:=yR b;have i:=bF l;by_cases e:v=o
   ·subst e;have:=uw v f a c _ ((s c i).fr O) t m;rw[this,pc f a O O,aK rfl];have:=(dM.1 l).1;have:=k.len;change r.length<=d+1 at this;omega
   ·have:=u c i O (k.bz c i) _ t m v f a;rw[pc f a O O,g O]at this;exact this
def FR(f:Nat)(n:Int):gk f (kP n)=n:=by cases f<;>exact IP n
def JR:∀{L:Nat}{p:J}(f:Nat),br L p->L<=f->gk f p=gk L p:=by
 intro L p f h
 induction h generalizing f with
 |const n=>intro _;rw[FR,FR]
 | @node L i a o m l k j b=>
   intro hf;obtain⟨f,rfl⟩:∃Z,f=Z+1:=⟨f-1,O⟩;obtain⟨L,rfl⟩:∃Z,L=Z+1:=⟨L-1,O⟩;rw[gk,gk];show(match a.getLast? with|some c=>gk f c|none=>_)=(match a.getLast? with|some c=>gk L c|none=>_);cases e:a.getLast? with
   |none=>rfl
   |some c=>have d:=List.mem_of_getLast? e;show gk f c=gk L c;rw[b c d f O,b c d L O]
def OI:∀{L:Nat}{p:J},br L p->L<=4->bM p=false->∀q:ba,∃m:ba,(∀t∈cv p q,¬A5 L m t.mono)/\fy m (cv p q)=gk 4 p/\(∀v:Nat,1<=v->v<=4->L<v->b7 m v=b7 q v)/\gk 4 p≠0:=by
 intro L p h
 induction h with
 | @const L n=>
   intro U C q;have Q:n≠0:=by rw[F5]at C;simpa using C
   refine⟨q,λt f=>?_,?_,λv _ _ _=>rfl,by rw[FR];exact Q⟩
   ·unfold kP at f;rw[cv,aK ae,dZ]at f;subst f;exact acZ L q
   ·rw[FR];unfold kP;rw[cv,aK ae,fy,fy];show(if ql q q then iV (iD n)else 0)+0=n;rw[ahk,aK rfl,il];omega
 | @node L b cs B Z X x V P=>
   intro U C q;obtain⟨c,A⟩:∃c,cs.getLast?=some c:=by
    cases e:cs.getLast? with
    |none=>rw[List.getLast?_eq_none_iff]at e;subst e;simp at X
    |some c=>exact⟨c,rfl⟩
   have l:=List.mem_of_getLast? A;have E:cs=cs.dropLast++[c]:=by obtain⟨ds,e⟩:=List.getLast?_eq_some_iff.1 A;rw[e];simp
   obtain⟨m,a1,a2,H,a4⟩:=P c l O (V c A) (eV q b (b7 q b+(cs.dropLast.length:Nat)));have z:gk 4 (.mk b false [] cs)=gk 4 c:=by show(match cs.getLast? with|some c=>gk 3 c|none=>_)=_;rw[A];show gk 3 c=gk 4 c;rw[JR 3 (x c l) O,JR 4 (x c l) O]
   have r:cv (.mk b false [] cs) q=gD b cs.dropLast q (b7 q b) 0++cv c (eV q b (b7 q b+(cs.dropLast.length:Nat))):=by rw[cv,g O,g O];have:=I_ b q (b7 q b) cs.dropLast [c] 0;rw[<-E]at this;rw[this,gD,gD,l4,oo]
   have y:b7 m b=b7 q b+(cs.dropLast.length:Nat):=by have:=H b B O O;rw[pc B O O O,aK rfl]at this;exact this
   have o:∀t∈gD b cs.dropLast q (b7 q b) 0,b7 t.mono b<b7 m b/\∀v:Nat,1<=v->v<=4->b<v->b7 t.mono v=b7 q v:=λt f=>by
    obtain⟨j,d,K,M⟩:=yR f;have R:=(dM.1 K).1;have u:d∈cs:=List.dropLast_subset cs (bF K);refine⟨?_,λv i a s=>?_⟩
    ·rw[uw b B O d _ ((x d u).fr O) t M,pc B O O O,aK rfl,y];omega
    ·rw[uw v i a d _ ((x d u).fr O) t M,pc i a O O,g O]
   have w:∀v:Nat,1<=v->v<=4->b<v->b7 m v=b7 q v:=λv i a s=>by rw[H v i a O,pc i a O O,g O]
   refine⟨m,λt f=>?_,?_,λv i a s=>w v i a O,by rw[z];exact a4⟩
   ·rw[r]at f;rcases dd.1 f with f|f
    ·obtain⟨N,G⟩:=o t f;refine QG Z (λv i a=>by rw[w v O O i,G v O O i]) λD=>?_
     obtain⟨k,rfl⟩:∃k,b=k+1:=⟨b-1,O⟩;rcases D with D|D
     ·omega
     ·omega
    ·have N:=a1 t f;have G:∀v:Nat,1<=v->v<=4->b<=v->b7 t.mono v=b7 m v:=λv i a s=>by rw[uw v i a c _ ((x c l).fr O) t f,H v i a O]
     exact QG (show b-1<=L by omega) (λv i a=>(G v O O O).symm) N
   ·rw[r,Cw,a2,z,Cx λt f T=>?_]
    ·omega
    ·have:=(o t f).1;rw[T]at this;omega
def acY{p:ba}(f:¬lU p q)(e:p≠q):lU q p:=by
 have:¬(p.e1=q.e1/\p.e2=q.e2/\p.e3=q.e3/\p.e4=q.e4):=λ⟨a,b,c,d⟩=>e (by cases p;cases q;simp_all)
 unfold lU at*;omega
theorem aeV:∀{a b:List aL},a.Perm b->a.Pairwise (λs t=>lU t.mono s.mono)->b.Pairwise (λs t=>lU t.mono s.mono)->a=b
 |[],b,h,_,_=>by rw[List.nil_perm.1 h]
 |x::a,[],h,_,_=>by simp at h
 |x::a,y::b,h,j,i=>by
  obtain⟨p,o⟩:=Eo.1 j;obtain⟨n,m⟩:=Eo.1 i;have d:x=y:=by
   have f:x∈y::b:=h.mem_iff.1 (bZ ..);have c:y∈x::a:=h.mem_iff.2 (bZ ..);rcases dC.1 f with e|f
   ·exact e
   ·rcases dC.1 c with e|c
    ·exact e.symm
    ·have l:=n x f;have k:=p y c;exfalso;unfold lU at l k;omega
  subst d;rw[aeV (List.perm_cons x |>.1 h) o m]
def DS(l:List aL):Prop:=l.Pairwise λs t=>¬lU s.mono t.mono
def DS.kx(h:DS l)(a:CT l):l.Pairwise λs t=>lU t.mono s.mono:=by have:=h.and a.nd;exact this.imp λh=>acY h.1 h.2
def aec(p:List aL):DS (di p):=by unfold di oK tR DS;rw[B5];intro i j c b a;exact aic _ _ i j _ _ a (ca c) (ca b)
theorem abz(b:CT l)(k:∀t∈l,jf t.mono=false):∀i,i<=l.length->gQ l i=l.take i
 |0,_=>by rw[xo,iC]
 |i+1,r=>by
  obtain⟨t,c⟩:∃t,l[(i:Int).toNat]?=some t:=by rw[bI];exact⟨l[i]' O,ai⟩
  have m:t∈l:=bF c;have a:=c;rw[bI]at a;have o:l.take (i+1)=l.take i++[t]:=by rw[h_,a];rfl
  have p:gQ l (i+1)=gW (gQ l i) t.mono t.cZ:=(uI c).symm;rw[p,abz b k i O,o];have d:mh t.mono (l.take i)=none:=by
   cases e:mh t.mono (l.take i)with
   |none=>rfl
   |some j=>obtain⟨u,f,h⟩:=F0 e;have q:j<(l.take i).length:=(dM.1 f).1;rw[ez]at q;rw[Nk O]at f;have:=B5.1 b.nd j i O O O;rw[(dM.1 f).2,(dM.1 a).2]at this;exact absurd h this
  rw[C4 (k t m) d];obtain⟨z,_,n⟩:=b.co t m;have:jm t.cZ=t.cZ:=by rw[tJ (by rw[n];exact fA z),n,il]
  rw[this];rfl
def CT.dg(h:CT l):∀t∈l,Dg t.cZ.aF:=λt a=>by obtain⟨z,_,b⟩:=h.co t a;rw[b];exact fA z
def azW(a:CT l)(Y:DS l)(c:∀t∈l,jf t.mono=false):di l=l:=by
 have f:(di l).Perm l:=by
  have:=aee l;rw[abz a c _ (bu _),i_]at this;have e:l.filter v8=l:=by rw[List.filter_eq_self];intro t d;obtain⟨z,b,h⟩:=a.co t d;rw[La (a.dg t d),h,il];simpa using b
  rw[e]at this;exact this
 have i:=K5 a.dg c;exact aeV f ((aec l).kx i.1) (Y.kx a)
@[irreducible] def eI(p:J):List aL:=di (cv p ⟨0,0,0,0⟩)
def EB.neg(h:EB n l):∀t∈l,jf t.mono=false:=λt a=>by have:=h t a;unfold MB at this;unfold jf;simp;omega
def EB.eu(h:EB n l):EU n l:=λt a v _ _=>aaL (h t a) v
structure TT(l:List aL):Prop where
 ct:CT l
 ds:DS l
 eb:EB 1000000 l
 len:l.length<=1000000000
def TT.bp(h:TT l):BP l 4:=by
 have c:=h.eb;unfold BP;refine⟨bu _,h.len,λt d v b a=>?_,h.ds,λs _ t _ v b a=>O⟩;have:=c t d;unfold MB at this;simp only[aL.mono]at this
 match v,b,a with
 |1,_,_=>rw[JB];omega
 |2,_,_=>rw[CW];omega
 |3,_,_=>rw[CY];omega
 |4,_,_=>rw[C0];omega
def TT.Ob(h:TT l):MT (l.length+4) l 4:=Yh _ l 4 h.ct h.bp (λt a v b c=>by have:=h.eb.eu t a v b c;omega) (bu _)
def TT.id(h:TT l):di l=l:=azW h.ct h.ds h.eb.neg
def bO.CK(h:bO p):∀t∈cv p ⟨0,0,0,0⟩,Dg t.cZ.aF:=λt a=>by have:=h.nb;unfold NB at this;exact(this.1 t a).2
def bO.tt(h:bO p):TT (eI p):=by have a:=K5 h.CK h.eb.neg;unfold eI;refine⟨a.1,aec _,K6 h.eb,?_⟩;have:=Rh h.nb;have b:=h.nb;unfold NB at b;omega
def T5(h:bO p)(a:az):dJ a 4 (eI p)=ev a p:=by
 unfold eI;rw[(K5 h.CK h.eb.neg).2.2 a 4,Y8 a p _ 0 ajB];have:mV a 4 ⟨0,0,0,0⟩=1:=by simp[mV,b7,pw];try grind
 rw[this];grind
def Mo(h:bO p):eL (eI p)<=d_ p:=by unfold eI;rw[<-Za p ⟨0,0,0,0⟩];exact(K5 h.CK h.eb.neg).2.1
def aiP(b:1<=k)(a:k<=4)(c:Fr k p):∀t∈eI p,ex k t=0:=by unfold eI;intro t d;obtain⟨u,f,e⟩:=Gv d;have:=uw k b a p _ c u f;unfold ex;rw[<-e,this];have:k=1\/k=2\/k=3\/k=4:=O;rcases this with rfl|rfl|rfl|rfl<;>rfl
def vw:da p=if gC p then p else cC ((eI p).length+4) (eI p) 4:=by unfold da eI;rfl
theorem Yg:∀(f:Nat)(t:aL)(r:List aL)(k:Nat),BP (t::r) k->EU 1073741824 (t::r)->(t::r).length+k<=f->gk k (cC f (t::r) k)=iV t.cZ
 |0,t,r,k,_,_,hf=>by simp at hf
 |f+1,t,r,k,B,w,hf=>by
  obtain⟨i,D⟩:=QQ B;have E:=B.k4;have q:=Km t k;by_cases x:fI t k=0
  ·rw[xf,aK x];cases k with
   |zero=>rfl
   |succ k=>rfl
  ·obtain⟨lv,m⟩:∃lv,fI t k=lv+1:=⟨fI t k-1,O⟩;have p:=QM x;rw[m]at i D q p;have A:=w t (bZ ..) (lv+1) O O;have y:=i.yW (bZ ..) (v:=lv+1) O O;rw[xf,g x,m,g O];obtain⟨k,rfl⟩:∃j,k=j+1:=⟨k-1,O⟩;show(match((List.range (ex (lv+1) t+1).toNat).map λ(e:Nat)=>cC f ((t::r).filter λu=>ex (lv+1) u==(e:Int)) lv).getLast? with|some c=>gk k c|none=>_)=_;rw[pS,dS,oh,dU,qB O];simp only[dH];have e:(((ex (lv+1) t+1).toNat-1:Nat):Int)=ex (lv+1) t:=O;rw[yp (by simp;omega)];have n:BP (t::r.filter λu=>ex (lv+1) u==(((ex (lv+1) t+1).toNat-1:Nat):Int)) lv:=by
    refine BP.down (z:=ex (lv+1) t) (i.sub (List.Sublist.cons_cons t Eh)) λu hu=>?_
    rcases dC.1 hu with rfl|hu
    ·rfl
    ·have:=(iZ.1 hu).2;rw[e]at this;simpa using this
   have hlen:(t::r.filter λu=>ex (lv+1) u==(((ex (lv+1) t+1).toNat-1:Nat):Int)).length+lv<=f:=by have:=Em (λu=>ex (lv+1) u==(((ex (lv+1) t+1).toNat-1:Nat):Int)) r;simp only[fD]at hf⊢;omega
   have C:=Yg f t _ lv n (λu hu=>w u (by
    rcases dC.1 hu with rfl|hu
    ·exact bZ ..
    ·exact cE _ (iZ.1 hu).1)) hlen
   have h:∀(a b:Nat)(l:List aL),a<=b->BP l a->EU 1073741824 l->gk b (cC f l a)=gk a (cC f l a):=by
    intro a b l o G _;have:∀(Z a:Nat)(l:List aL)(b:Nat),a<=b->gk b (cC Z l a)=gk a (cC Z l a):=by
     intro Z
     induction Z with
     |zero=>intro a l b _;rw[cC];cases a<;>cases b<;>rfl
     |succ Z d=>
      intro a l b o;cases l with
      |nil=>rw[cC];cases a<;>cases b<;>rfl
      |cons u s=>
       rw[xf];split
       ·cases a<;>cases b<;>rfl
       ·rename_i H;have K:=Km u a;split
        ·rw[d _ s b O,d _ s a O]
        ·obtain⟨b,rfl⟩:∃j,b=j+1:=⟨b-1,O⟩;obtain⟨a,rfl⟩:∃j,a=j+1:=⟨a-1,O⟩;show(match(List.map _ _).getLast? with|some c=>gk b c|none=>_)=(match(List.map _ _).getLast? with|some c=>gk a c|none=>_);rw[List.getLast?_map];cases(List.range (ex (fI u (a+1)) u+1).toNat).getLast? with
         |none=>rfl
         |some e=>simp only[dH];rw[d _ _ b O,d _ _ a O]
    exact this f a l b o
   rw[h lv k _ O n (λu hu=>w u (by
    rcases dC.1 hu with rfl|hu
    ·exact bZ ..
    ·exact cE _ (iZ.1 hu).1)),C]
def bO.dg(h:bO p):jG p:=by unfold bO at h;exact h.1.O5
structure aj2(p:J):Prop where
 ev:∀ρ,ev ρ (da p)=ev ρ p
 bw:br 4 (da p)
 nm:d_ (da p)<=d_ p
 fr:∀v:Nat,1<=v->v<=4->Fr v p->Fr v (da p)
 eu:∀d:Nat,DL d (da p)->EU d (eI p)
 nil:bM (da p)=true->eI p=[]
 fs:∀t r,eI p=t::r->iV t.cZ=gk 4 (da p)
def ur(h:bO p):aj2 p:=by
 have k:=h.tt;by_cases D:gC p=true
 ·have e:da p=p:=by rw[vw,aK D]
  have a:=(U0 h.dg D).1;refine⟨λP=>by rw[e],by rw[e];exact a,by rw[e];exact bu _,λv _ _ hf=>by rw[e];exact hf,λd x t b v o f=>?_,λi=>?_,λt r c=>?_⟩
  ·rw[e]at x;unfold eI at b;obtain⟨u,hu,q⟩:=Gv b;have:=Y7 a (bu _) x _ u hu v o f;rw[q]at this;unfold ex;have i:b7 ⟨0,0,0,0⟩ (v:Int)=0:=by have:v=1\/v=2\/v=3\/v=4:=O;rcases this with rfl|rfl|rfl|rfl<;>rfl
   omega
  ·rw[e]at i;have:=Mo h;rw[qa a i,q9]at this;have l:=k.ct;rw[qa a i]at l;cases q:eI zP with
   |nil=>rw[qa a i,q]
   |cons t r=>exfalso;rw[q]at l this;obtain⟨z,E,n⟩:=l.co t (bZ ..);rw[eL,n,il]at this;omega
  ·rw[e];have G:bM p=false:=by
    cases i:bM p with
    |false=>rfl
    |true=>exfalso;have:=Mo h;rw[c,qa a i,q9,eL]at this;obtain⟨z,E,n⟩:=k.ct.co t (by rw[c];exact bZ ..);rw[n,il]at this;omega
   obtain⟨m,Q,R,a3,T⟩:=OI a (bu _) G ⟨0,0,0,0⟩;have N:fy m (eI p)=gk 4 p:=by unfold eI;rw[Rg m h.CK h.eb.neg];exact R
   have H:∃u∈eI p,u.mono=m:=by
    refine BQ λK=>T ?_
    rw[<-N];exact Cx λu hu U=>K ⟨u,hu,U⟩
   obtain⟨u,hu,y⟩:=H;have b:t∈eI p:=by rw[c];exact bZ ..
   have L:t.mono=m:=by
    refine BQ λj=>?_
    have M:¬lU m t.mono:=by unfold eI at b;obtain⟨w,V,q⟩:=Gv b;have:=Q w V;rw[axt,q]at this;exact this
    have X:lU t.mono m:=acY M λe=>j e.symm
    have A:=k.ds;rw[c]at A hu;rcases dC.1 hu with rfl|hu
    ·exact j y
    ·have:=(Eo.1 A).1 u hu;rw[y]at this;exact this X
   rw[<-N,YJ k.ct.nd b L]
 ·have e:da p=cC ((eI p).length+4) (eI p) 4:=by rw[vw,g D]
  have s:=k.Ob;refine⟨λP=>by rw[e,s.ev,T5 h],by rw[e];exact s.bw,by rw[e];exact eZ s.nm (Mo h),λv o f hf=>by rw[e];exact s.fr v o f (aiP o f hf),λd x t b v o f=>?_,λi=>?_,λt r c=>?_⟩
  ·rw[e]at x;exact s.ld d x t b v o f
  ·refine BQ λj=>?_
   rw[e,s.nz j]at i;cases i
  ·rw[e,c];have B:=k.bp;have C:=k.eb;rw[c]at B C;exact(Yg _ t r 4 B (λu hu v M Z=>by have:=C.eu u hu v M Z;omega) (bu _)).symm
def qh(h:bO p):dG p=da p:=by unfold dG;exact Fp 4 (ur h).bw
def kF(l:List aL):Nat:=l.foldl (λZ t=>Nat.gcd Z (iV t.cZ).natAbs) 0
@[irreducible] def Zh(l:List aL):Nat:=kF (di l)
def qm(l:List aL)(Z:Nat):Int:=match l with|[]=>1|t::_=>if iV t.cZ<0 then-(Z:Int)else Z
def p_(d:Int)(t:aL):aL:=xA (iD (iV t.cZ/d)) t.mono
@[irreducible] def tQ(l:List aL):List aL:=(di l).map (p_ (qm (di l) (Zh (di l))))
@[irreducible] def jO(p:J):J:=lQ (cC ((di (tQ (eI p))).length+4) (di (tQ (eI p))) 4)
theorem JU:∀(l:List aL)(Z:Nat),(l.foldl (λZ t=>Nat.gcd Z (iV t.cZ).natAbs) Z∣Z)/\∀t∈l,l.foldl (λZ t=>Nat.gcd Z (iV t.cZ).natAbs) Z∣(iV t.cZ).natAbs
 |[],Z=>⟨Nat.dvd_refl _,λt a=>by simp at a⟩
 |u::r,Z=>by
  obtain⟨b,c⟩:=JU r (Nat.gcd Z (iV u.cZ).natAbs);rw[Ni];refine⟨Nat.dvd_trans b (Ns _ _),λt a=>?_⟩;rcases dC.1 a with rfl|a
  ·exact Nat.dvd_trans b (Nat.gcd_dvd_right _ _)
  ·exact c t a
def abB(h:t∈l):kF l∣(iV t.cZ).natAbs:=(JU l 0).2 t h
def Th{l:List aL}(h:CT l):qm l (kF l)≠0/\∀t∈l,qm l (kF l)∣iV t.cZ:=by
 cases l with
 |nil=>exact⟨ae,λt e=>by simp at e⟩
 |cons t r=>
  have i:kF (t::r)≠0:=by intro f;have:=abB (l:=t::r) (bZ ..);rw[f]at this;obtain⟨z,c,d⟩:=h.co t (bZ ..);have:=Nat.eq_zero_of_zero_dvd this;rw[d,il]at this;omega
  have b:∀u∈t::r,((kF (t::r):Nat):Int)∣iV u.cZ:=λu a=>Na.1 (by rw[Int.natAbs_natCast];exact abB a)
  unfold qm;simp only;split
  ·exact⟨O,λu a=>Int.neg_dvd.2 (b u a)⟩
  ·exact⟨O,b⟩
def G9(h:TT l):tQ l=l.map (p_ (qm l (kF l))):=by unfold tQ Zh;rw[h.id,h.id]
theorem Z6(b:n≠0)(a:az)(k:Nat):∀{l:List aL},(∀t∈l,n∣iV t.cZ)->(n:Rat)*dJ a k (l.map (p_ n))=dJ a k l
 |[],_=>by rw[gL,dJ];grind
 |t::r,h=>by
  have c:=Z6 b a k (l:=r) λu f=>h u (cE _ f)
  rw[dc,dJ,dJ,<-c,tV,tV];unfold p_;rw[ze,A8,il];have e:n*(iV t.cZ/n)=iV t.cZ:=Int.mul_ediv_cancel' (h t (bZ ..));have i:(n:Rat)*((iV t.cZ/n:Int):Rat)=((iV t.cZ:Int):Rat):=by rw[<-NH,e]
  rw[<-i];grind
theorem Z7(a:n≠0):∀{l:List aL},eL (l.map (p_ n))<=eL l
 |[]=>bu _
 |t::r=>by
  have b:=Z7 a (l:=r);rw[dc,eL,eL];have:(iV (p_ n t).cZ).natAbs<=(iV t.cZ).natAbs:=by unfold p_;rw[ze,il];exact Int.natAbs_ediv_le_natAbs _ _
  omega
def Z5(j:n≠0)(h:TT l)(b:∀t∈l,n∣iV t.cZ):TT (l.map (p_ n)):=by
 refine⟨⟨λt c=>?_,?_⟩,?_,λt c=>?_,by rw[dS];exact h.len⟩
 ·obtain⟨u,a,rfl⟩:=cj.1 c;refine⟨iV u.cZ/n,λe=>?_,rfl⟩;obtain⟨z,f,i⟩:=h.ct.co u a;have:=Int.mul_ediv_cancel' (b u a);rw[e,i,il]at this;omega
 ·rw[List.pairwise_map];exact h.ct.nd
 ·unfold DS;rw[List.pairwise_map];exact h.ds
 ·obtain⟨u,a,rfl⟩:=cj.1 c;exact h.eb u a
structure amO(p:J)(d:Int):Prop where
 nz:d≠0
 sg:bM (da p)=false->(d<0↔gk 4 (da p)<0)
 ev:∀ρ,(d:Rat)*ev ρ (jO p)=ev ρ p
 bw:br 4 (jO p)
 nm:d_ (jO p)<=d_ p
 fr:∀v:Nat,1<=v->v<=4->Fr v p->Fr v (jO p)
 dl:∀d:Nat,DL d (da p)->DL d (jO p)
def L7(h:bO p):∃d,amO p d:=by
 have q:=h.tt;have y:=ur h;obtain⟨d1,d2⟩:=Th q.ct;have z:=Z5 d1 q d2;have e:di (tQ (eI p))=(eI p).map (p_ (qm (eI p) (kF (eI p)))):=by rw[G9 q,z.id]
 have f:=z.Ob;have j:jO p=cC (((eI p).map (p_ (qm (eI p) (kF (eI p))))).length+4) ((eI p).map (p_ (qm (eI p) (kF (eI p))))) 4:=by unfold jO;rw[e,Fp 4 f.bw]
 refine⟨qm (eI p) (kF (eI p)),d1,λl=>?_,λn=>?_,by rw[j];exact f.bw,?_,λv o a hf=>?_,λd A=>?_⟩
 ·cases i:eI p with
  |nil=>
   exfalso;have:∀n,ev n p=0:=λn=>by rw[<-T5 h,i,dJ]
   by_cases b:gC p=true
   ·have s:da p=p:=by rw[vw,aK b]
    have k:=(U0 h.dg b).1;rw[s]at l;obtain⟨m,E,B,G,C⟩:=OI k (bu _) l ⟨0,0,0,0⟩;apply C;rw[<-B,<-Rg m h.CK h.eb.neg];have:di (cv p ⟨0,0,0,0⟩)=[]:=by unfold eI at i;exact i
    rw[this];rfl
   ·have s:da p=cC ((eI p).length+4) (eI p) 4:=by rw[vw,g b]
    rw[s,i,E3]at l;cases l
  |cons t r=>
   have w:=y.fs t r i;have H:kF (t::r)≠0:=by intro D;rw[i]at d1;unfold qm at d1;rw[D]at d1;simp at d1
   rw[<-w];unfold qm;simp only;split<;>omega
 ·rw[j,f.ev,Z6 d1 n 4 d2,T5 h]
 ·rw[j];exact eZ f.nm (eZ (Z7 d1) (Mo h))
 ·rw[j];refine f.fr v o a λt c=>?_
  obtain⟨u,x,rfl⟩:=cj.1 c;exact aiP o a hf u x
 ·rw[j];refine f.dl d λt c v o a=>?_
  obtain⟨u,x,rfl⟩:=cj.1 c;exact y.eu d A u x v o a
def up(a:az)(v:Int)(y:Rat):Int->Rat:=λi=>if i=v then y else a i
def ai9(a:az)(v:Int)(y:Rat):up a v y v=y:=by unfold up;rw[aK rfl]
def ai8(a:az){w:Int}(y:Rat)(h:w≠v):up a v y w=a w:=by unfold up;rw[g h]
def aGu(ρ:az)(v:Int):up ρ v (ρ v)=ρ:=by
 funext i;unfold up;split
 ·rename_i h;rw[h]
 ·rfl
theorem Jz{a σ:az}{x:Rat}:∀{l:List J},(∀c∈l,ev a c=ev σ c)->cP a x l=cP σ x l
 |[],_=>by rw[cP,cP]
 |c::r,h=>by rw[cP,cP,h c (bZ ..),Jz λd b=>h d (cE _ b)]
theorem Fr.ev(h:Fr v p)(b:az)(y:Rat):Go.Proofs.YtfbmhjooliccnaaGreatDoor.ev (up b v y) p=Go.Proofs.YtfbmhjooliccnaaGreatDoor.ev b p:=by
 induction h with
 |mk l n a d h e c=>
  rw[Go.Proofs.YtfbmhjooliccnaaGreatDoor.ev,Go.Proofs.YtfbmhjooliccnaaGreatDoor.ev];split
  ·rfl
  ·split
   ·rfl
   ·rw[ai8 b y h,Jz c]
mutual
def fG (a:Int):J->Int
 |.mk l _ _ b=>if l<a then 0 else if l=a then(b.length:Int)-1 else ia a b
def ia (a:Int):List J->Int
 |[]=>0
 |c::r=>max (fG a c) (ia a r)
end
def Jq(a:Int)(p:J):fG a p=if p.aJ<a then 0 else if p.aJ=a then(p.aG.length:Int)-1 else ia a p.aG:=by cases p;rw[fG];rfl
theorem ZY(a:Int):∀l,0<=ia a l
 |[]=>by rw[ia];omega
 |c::r=>by rw[ia];have:=ZY a r;omega
theorem ZX{lv:Int}:∀{l:List J}{c:J},c∈l->fG lv c<=ia lv l
 |d::r,c,h=>by
  rw[ia];rcases dC.1 h with rfl|h
  ·omega
  ·have:=ZX (lv:=lv) h;omega
theorem ZW{lv:Int}:∀{l:List J},ia lv l≠0->∃c∈l,fG lv c=ia lv l
 |[],h=>absurd rfl h
 |c::r,h=>by
  rw[ia]at h⊢;by_cases e:ia lv r<=fG lv c
  ·exact⟨c,bZ ..,O⟩
  ·have a:max (fG lv c) (ia lv r)=ia lv r:=by omega
   rw[a]at h⊢;obtain⟨d,b,f⟩:=ZW h;exact⟨d,cE _ b,f⟩
mutual
def ck (b:Int) (n:Nat):J->List J
 |.mk l Z a d=>if l<b then .mk l Z a d::List.replicate n zP
  else if l=b then d.take (n+1)++List.replicate (n+1-d.length) zP
  else(List.range (n+1)).map λi=>.mk l false [] ((Fk b n d).map λr=>(r[i]?).getD zP)
def Fk (b:Int) (n:Nat):List J->List (List J)
 |[]=>[]
 |c::r=>ck b n c::Fk b n r
end
theorem YX(a:Int)(n:Nat):∀l,Fk a n l=l.map (ck a n)
 |[]=>by rw[Fk,gL]
 |c::r=>by rw[Fk,dc,YX a n r]
def Cz(a:Int)(n:Nat)(p:J):ck a n p=if p.aJ<a then p::List.replicate n zP
 else if p.aJ=a then p.aG.take (n+1)++List.replicate (n+1-p.aG.length) zP
 else(List.range (n+1)).map λi=>.mk p.aJ false [] (p.aG.map λc=>((ck a n c)[i]?).getD zP):=by
 cases p;rw[ck,YX];simp only[ir];rfl
def xj(b:Int)(n:Nat)(l:Int)(Z:Bool)(a:ao)(d:List J):ck b n (.mk l Z a d)=if l<b then .mk l Z a d::List.replicate n zP
 else if l=b then d.take (n+1)++List.replicate (n+1-d.length) zP
 else(List.range (n+1)).map λi=>.mk l false [] (d.map λc=>((ck b n c)[i]?).getD zP):=Cz b n _
def Fj(a:Int)(n:Nat)(z:Int):ck a n (kP z)=if 0<a then kP z::List.replicate n zP
 else if 0=a then([]:List J).take (n+1)++List.replicate (n+1-([]:List J).length) zP
 else(List.range (n+1)).map λi=>.mk 0 false [] (([]:List J).map λc=>((ck a n c)[i]?).getD zP):=Cz a n _
def yV(b l:Int)(Z:Bool)(a:ao)(cs:List J):fG b (.mk l Z a cs)=if l<b then 0 else if l=b then(cs.length:Int)-1 else ia b cs:=by rw[fG]
def Jr(a z:Int):fG a (kP z)=if 0<a then 0 else if 0=a then-1 else 0:=by unfold kP;rw[fG];rfl
def kS(a:Int)(n:Nat)(p:J):(ck a n p).length=n+1:=by
 rw[Cz];split
 ·simp
 ·split
  ·simp;omega
  ·simp
theorem aaG(a:az)(x y:Rat)(Z:J->Nat->J)(h:J->Rat)(n:Nat):∀{l:List J},(∀c∈l,h c=fa (λi=>pw y i*ev a (Z c i)) n)->
 ∀H:J->Rat,(∀c∈l,H c=h c)->fa (λi=>pw y i*cP a x (l.map λc=>Z c i)) n=l.foldr (λc s=>H c+x*s) 0
 |[],_,H,_=>by
  rw[Ag];have:∀m,fa (λi=>pw y i*cP a x (([]:List J).map λc=>Z c i)) m=0:=by
   intro m
   induction m with
   |zero=>rfl
   |succ m b=>rw[fa,b,gL,cP];grind
  exact this n
 |c::r,f,H,j=>by
  have b:=aaG a x y Z h n (l:=r) (λd e=>f d (cE _ e)) H λd e=>j d (cE _ e)
  rw[Ei,<-b,j c (bZ ..),f c (bZ ..),<-TJ,<-Mf];refine xV n λi _=>?_
  rw[dc,cP];grind
theorem aaC(a:az)(x:Rat):∀l:List J,cP a x l=l.foldr (λc s=>ev a c+x*s) 0
 |[]=>by rw[cP,Ag]
 |c::r=>by rw[cP,Ei,aaC a x r]
def auN(a:az)(x:Rat)(l:List J)(n:Nat)(h:l.length=n):cP a x l=fa (λi=>pw x i*ev a ((l[i]?).getD zP)) n:=by
 rw[Pk a x l,h];refine xV n λi b=>?_
 rw[ca O];rfl
structure aj3(lv:Nat)(p:J)(n:Nat):Prop where
 ev:∀ρ y,ev (up ρ lv y) p=cP ρ y (ck lv n p)
 fr:∀c∈ck lv n p,Fr lv c
def ary{lv:Nat}(B:1<=lv)(C:lv<=4){n:Nat}:∀{L:Nat}{p:J},br L p->L<=4->fG lv p<=n->aj3 lv p n:=by
 intro L p h
 induction h with
 | @const L z=>
   intro D j;have e:ck lv n (kP z)=kP z::List.replicate n zP:=by rw[Fj,aK (show(0:Int)<lv by omega)]
   refine⟨λb y=>?_,λc hc=>?_⟩
   ·rw[e,cP,CV b y _ (λc hc=>by rw[rL hc,gr]),l_,l_];grind
   ·rw[e]at hc;rcases dC.1 hc with rfl|hc
    ·exact .const O z
    ·rw[rL hc];exact .zero O
 | @node L m a o H w q x E=>
   intro D j;have A:br 4 (.mk m false [] a):=.node m a o O w q x;by_cases r:m<lv
   ·have e:ck lv n (.mk m false [] a)=.mk m false [] a::List.replicate n zP:=by rw[xj,aK (show(m:Int)<lv by omega)]
    have f:Fr lv (.mk m false [] a):=(br.node (L:=m) m a o (bu _) w q x).fr r;refine⟨λb y=>?_,λc hc=>?_⟩
    ·rw[e,cP,CV b y _ (λc hc=>by rw[rL hc,gr]),f.ev];grind
    ·rw[e]at hc;rcases dC.1 hc with rfl|hc
     ·exact f
     ·rw[rL hc];exact .zero O
   ·by_cases s:m=lv
    ·subst s;have t:a.length<=n+1:=by rw[yV,g (show¬(m:Int)<m by omega),aK (show(m:Int)=m from rfl)]at j;change (a.length:Int)-1<=n at j;omega
     have e:ck m n (.mk m false [] a)=a++List.replicate (n+1-a.length) zP:=by rw[xj,g (show¬(m:Int)<m by omega),aK (show(m:Int)=m from rfl)];show a.take (n+1)++_=_;rw[eQ t]
     have f:∀c∈a,Fr m c:=λc hc=>(q c hc).fr O
     refine⟨λb y=>?_,λc hc=>?_⟩
     ·rw[e,uD _ _ B C,ai9,FE,CV b y (List.replicate _ _) (λc hc=>by rw[rL hc,gr]),Jz (σ:=b) λc hc=>(f c hc).ev b y];grind
     ·rw[e]at hc;rcases dd.1 hc with hc|hc
      ·exact f c hc
      ·rw[rL hc];exact .zero O
    ·have e:ck lv n (.mk m false [] a)=(List.range (n+1)).map λi=>.mk m false [] (a.map λc=>((ck lv n c)[i]?).getD zP):=by rw[xj,g (show¬(m:Int)<lv by omega),g (show¬(m:Int)=lv by omega)]
     have u:∀c∈a,fG lv c<=n:=λc hc=>by have:=ZX (lv:=lv) hc;rw[yV,g (show¬(m:Int)<lv by omega),g (show¬(m:Int)=lv by omega)]at j;change ia lv a<=n at j;omega
     have k:=λc hc=>E c hc O (u c hc)
     refine⟨λb y=>?_,λc hc=>?_⟩
     ·rw[e,uD _ _ o O,ai8 b y (show(m:Int)≠lv by omega),FF,aaC];have:=aaG b (b m) y (λc i=>((ck lv n c)[i]?).getD zP) (λc=>cP b y (ck lv n c)) (n+1) (l:=a) (λc hc=>auN b y _ _ (kS lv n c)) (λc=>Go.Proofs.YtfbmhjooliccnaaGreatDoor.ev (up b lv y) c) λc hc=>(k c hc).ev b y
      rw[<-this];refine xV _ λi _=>?_
      rw[uD _ _ o O]
     ·rw[e]at hc;obtain⟨i,G,rfl⟩:=cj.1 hc;refine .mk _ _ _ _ O λc hc=>?_
      obtain⟨d,v,rfl⟩:=cj.1 hc;have hlen:=kS lv n d;rw[ca (by have:=ol.1 G;omega)];exact(k d v).fr _ (rO _)
structure aj6(lv:Int)(p:J)(n:Nat):Prop where
 nm:∀c∈ck lv n p,d_ c<=d_ p
 dl:∀d,DL d p->∀c∈ck lv n p,DL d c
 ok:∀m,ja m p->∀c∈ck lv n p,ja m c
 np:∀c∈ck lv n p,nP c<=nP p
 fr:∀v:Int,v≠0->Fr v p->∀c∈ck lv n p,Fr v c
def Gr:nP zP=1:=rfl
theorem adI:∀{l:List J},p∈l->nP p<=je l
 |d::r,h=>by
  rw[je];rcases dC.1 h with rfl|h
  ·omega
  ·have:=adI h;omega
def Ox{lv:Int}{n:Nat}:∀{L:Nat}{p:J},br L p->L<=4->aj6 lv p n:=by
 intro L p h;have E:∀(p:J)(q:J)(k:Nat),(∀c∈q::List.replicate k zP,c=q\/c=zP):=λp q k c hc=>by
  rcases dC.1 hc with rfl|hc
  ·exact .inl rfl
  ·exact .inr (rL hc)
 induction h with
 | @const L z=>
   intro K;by_cases a:0<lv
   ·have e:∀c∈ck lv n (kP z),c=kP z\/c=zP:=by rw[Fj,aK (show(0:Int)<lv from a)];exact E (kP z) _ _
    refine⟨λc hc=>?_,λd b c hc=>?_,λm u c hc=>?_,λc hc=>?_,λv j hf c hc=>?_⟩;all_goals rcases e c hc with rfl|rfl
    ·exact bu _
    ·rw[q9];omega
    ·exact b
    ·exact .zero d
    ·exact u
    ·exact .zero m
    ·exact bu _
    ·rw[Gr];exact A_ _
    ·exact hf
    ·exact .zero j
   ·by_cases G:(0:Int)=lv
    ·have e:∀c∈ck lv n (kP z),c=zP:=by
      rw[Fj,g (show¬(0:Int)<lv from a),aK (show(0:Int)=lv from G)];intro c hc;rcases dd.1 hc with hc|hc
      ·simp at hc
      ·exact rL hc
     refine⟨λc hc=>?_,λd b c hc=>?_,λm u c hc=>?_,λc hc=>?_,λv j hf c hc=>?_⟩;all_goals rw[e c hc]
     ·rw[q9];omega
     ·exact .zero d
     ·exact .zero m
     ·rw[Gr];exact A_ _
     ·exact .zero j
    ·have e:∀c∈ck lv n (kP z),c=zP:=by rw[Fj,g (show¬(0:Int)<lv from a),g (show¬(0:Int)=lv from G)];intro c hc;obtain⟨i,_,rfl⟩:=cj.1 hc;rfl
     refine⟨λc hc=>?_,λd b c hc=>?_,λm u c hc=>?_,λc hc=>?_,λv j hf c hc=>?_⟩;all_goals rw[e c hc]
     ·rw[q9];omega
     ·exact .zero d
     ·exact .zero m
     ·rw[Gr];exact A_ _
     ·exact .zero j
 | @node L m cs H a2 T U V M=>
   intro K;have A:m<=4:=O;have B:d_ (.mk m false [] cs)=dQ cs:=oI cs H A false [];by_cases a:(m:Int)<lv
   ·have e:∀c∈ck lv n (.mk m false [] cs),c=.mk m false [] cs\/c=zP:=by rw[xj,aK (show(m:Int)<lv from a)];exact E (.mk m false [] cs) _ _
    refine⟨λc hc=>?_,λd b c hc=>?_,λm u c hc=>?_,λc hc=>?_,λv j hf c hc=>?_⟩;all_goals rcases e c hc with rfl|rfl
    ·exact bu _
    ·rw[q9];omega
    ·exact b
    ·exact .zero d
    ·exact u
    ·exact .zero _
    ·exact bu _
    ·rw[Gr];exact A_ _
    ·exact hf
    ·exact .zero j
   ·by_cases C:(m:Int)=lv
    ·have e:∀c∈ck lv n (.mk m false [] cs),c∈cs\/c=zP:=by
      rw[xj,g (show¬(m:Int)<lv from a),aK (show(m:Int)=lv from C)];intro c hc;rcases dd.1 hc with hc|hc
      ·exact .inl (oi hc)
      ·exact .inr (rL hc)
     refine⟨λc hc=>?_,λd b c hc=>?_,λm u c hc=>?_,λc hc=>?_,λv j hf c hc=>?_⟩;all_goals rcases e c hc with o|rfl
     ·rw[B];exact v7 o
     ·rw[q9];omega
     ·exact b.bz c o
     ·exact .zero d
     ·cases u with|mk _ _ _ _ _ _ _ N=>exact N c o
     ·exact .zero _
     ·rw[nP];have:=adI o;omega
     ·rw[Gr];exact A_ _
     ·exact hf.bz c o
     ·exact .zero j
    ·have s:=λc hc=>M c hc O
     have e:∀c∈ck lv n (.mk m false [] cs),∃i,i<n+1/\c=.mk m false [] (cs.map λc=>((ck lv n c)[i]?).getD zP):=by rw[xj,g (show¬(m:Int)<lv from a),g (show¬(m:Int)=lv from C)];intro c hc;obtain⟨i,w,rfl⟩:=cj.1 hc;exact⟨i,ol.1 w,rfl⟩
     have t:∀i,i<n+1->∀d,((ck lv n d)[i]?).getD zP∈ck lv n d:=λi w d=>by have hlen:=kS lv n d;rw[ca O];exact rO _
     refine⟨λc hc=>?_,λd b c hc=>?_,λP u c hc=>?_,λc hc=>?_,λv j hf c hc=>?_⟩;all_goals obtain⟨i,w,rfl⟩:=e c hc
     ·rw[B,oI _ H A];have:∀l:List J,(∀c∈l,c∈cs)->dQ (l.map λc=>((ck lv n c)[i]?).getD zP)<=dQ l:=by
       intro l
       induction l with
       |nil=>intro _;exact bu _
       |cons c r y=>
        intro D;rw[dc,dQ,dQ];have:=(s c (D c (bZ ..))).nm _ (t i w c);have:=y λx f=>D x (cE _ f)
        omega
      exact this cs λ_ h=>h
     ·refine .mk _ _ _ _ (by rw[dS];exact b.len) λc hc=>?_
      obtain⟨x,f,rfl⟩:=cj.1 hc;exact(s x f).dl d (b.bz x f) _ (t i w x)
     ·cases u with
      |mk _ _ _ _ X Z Q R=>
       refine .mk _ _ _ _ (dD _) (λd b=>by simp at b) (by rw[dS];exact Q) λc hc=>?_
       obtain⟨x,f,rfl⟩:=cj.1 hc;exact(s x f).ok P (R x f) _ (t i w x)
     ·rw[nP,nP];have:∀l:List J,(∀c∈l,c∈cs)->je (l.map λc=>((ck lv n c)[i]?).getD zP)<=je l:=by
       intro l
       induction l with
       |nil=>intro _;exact bu _
       |cons c r y=>
        intro D;rw[dc,je,je];have:=(s c (D c (bZ ..))).np _ (t i w c);have:=y λx f=>D x (cE _ f)
        omega
      have:=this cs λ_ h=>h
      omega
     ·refine .mk _ _ _ _ hf.lv λc hc=>?_
      obtain⟨x,f,rfl⟩:=cj.1 hc;exact(s x f).fr v j (hf.bz x f) _ (t i w x)
def art{lv:Nat}(h1:1<=lv)(h4:lv<=4){n:Nat}(hn:1<=n):∀{L:Nat}{p:J},br L p->L<=4->fG lv p=n->∃c,(ck lv n p)[n]?=some c/\∀q:ba,∃m:ba,fy m (cv c q)≠0/\∀v:Nat,1<=v->v<=4->L<v->b7 m v=b7 q v:=by
 intro L p h
 induction h with
 | @const L z=>intro hL a;rw[Jr,aK (show(0:Int)<lv by omega)]at a;omega
 | @node L m cs A a2 a3 R a5 U=>
   intro hL a;rw[yV]at a;by_cases b:(m:Int)<lv
   ·rw[aK (show(m:Int)<lv from b)]at a;omega
   ·rw[g (show¬(m:Int)<lv from b)]at a;by_cases r:(m:Int)=lv
    ·rw[aK (show(m:Int)=lv from r)]at a;change (cs.length:Int)-1=n at a;have e:ck lv n (.mk m false [] cs)=cs:=by rw[xj,g (show¬(m:Int)<lv from b),aK (show(m:Int)=lv from r)];show cs.take (n+1)++List.replicate (n+1-cs.length) zP=cs;rw[eQ O,show n+1-cs.length=0 by omega,HU,l4]
     rw[e];have y:cs[n]?=some (cs[n]' O):=ca _;refine⟨_,y,λq=>?_⟩;have V:=a5 _ (by rw[pS,show cs.length-1=n by omega];exact y);obtain⟨C,b1,E,b3,b4⟩:=OI (R _ (bF y)) O V q;exact⟨C,by rw[E];exact b4,λv D o b=>b3 v D o O⟩
    ·rw[g (show¬(m:Int)=lv from r)]at a;change ia lv cs=n at a;obtain⟨c,y,Z⟩:=ZW (lv:=lv) (l:=cs) O;obtain⟨k,T⟩:=yt y;obtain⟨x,H,G⟩:=U c y O O;have e:ck lv n (.mk m false [] cs)=(List.range (n+1)).map λi=>.mk m false [] (cs.map λc=>((ck lv n c)[i]?).getD zP):=by rw[xj,g (show¬(m:Int)<lv from b),g (show¬(m:Int)=lv from r)]
     refine⟨.mk m false [] (cs.map λc=>((ck lv n c)[n]?).getD zP),by rw[e,dU,qB O];rfl,λq=>?_⟩;obtain⟨C,b1,E⟩:=G (eV q m (b7 q m+(k:Nat)));refine⟨C,?_,λv D o X=>?_⟩
     ·rw[cv,g O,g O];have B:b7 C m=b7 q m+(k:Nat):=by have:=E m A O O;rw[pc A O O O,aK rfl]at this;exact this
      have M:=(dM.1 T).1;have Q:cs.map (λc=>((ck lv n c)[n]?).getD zP)=(cs.take k).map (λc=>((ck lv n c)[n]?).getD zP)++(x::(cs.drop (k+1)).map (λc=>((ck lv n c)[n]?).getD zP)):=by
       have e1:cs=cs.take k++(c::cs.drop (k+1)):=by have:=om k cs;rw[mZ M,(dM.1 T).2]at this;exact this.symm
       conv=>lhs;rw[e1]
       rw[gB,dc,H];rfl
      have s:∀d∈cs,Fr m (((ck lv n d)[n]?).getD zP):=λd a=>by have hlen:=kS lv n d;rw[ca O];exact(Ox (lv:=lv) (n:=n) (R d a) O).fr m O ((R d a).fr O) _ (rO _)
      rw[Q,I_,Ja,Cw,Cw];rw[Cx (l:=gD _ _ _ _ 0),Cx (l:=gD _ _ _ _ (_+1))]
      ·rw[oo,dS,ez,ju O];omega
      ·intro t K P;obtain⟨j,d,f,w⟩:=yR K;rw[dU,gM]at f;obtain⟨d0,f,rfl⟩:=f;have u:d0∈cs:=B3 (bF f);have:=uw m A O _ _ (s d0 u) t w;rw[pc A O O O,aK rfl,P,B,dS,ez,ju O]at this;omega
      ·intro t K P;obtain⟨j,d,f,w⟩:=yR K;have N:=(dM.1 f).1;rw[dS,ez]at N;rw[dU,gM]at f;obtain⟨d0,f,rfl⟩:=f;have u:d0∈cs:=oi (bF f);have:=uw m A O _ _ (s d0 u) t w;rw[pc A O O O,aK rfl,P,B]at this;omega
     ·rw[E v D o O,pc D o O O,g O]
def arF(h:bO p)(b:fy m (cv p ⟨0,0,0,0⟩)≠0):bM (dG p)=false:=by
 rw[qh h];cases d:bM (da p)with
 |false=>rfl
 |true=>
  exfalso;have a:=(ur h).nil d;apply b;rw[<-Rg m h.CK h.eb.neg];have:di (cv p ⟨0,0,0,0⟩)=[]:=by unfold eI at a;exact a
  rw[this];rfl
