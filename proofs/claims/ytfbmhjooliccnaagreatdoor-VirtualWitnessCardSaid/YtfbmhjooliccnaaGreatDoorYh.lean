/- Part of VirtualWitness. No condition. -/
import Derived.Test.YtfbmhjooliccnaaGreatDoorYg
set_option linter.all false
set_option maxRecDepth 100000
set_option maxHeartbeats 60000000
noncomputable section
namespace Go.Proofs.YtfbmhjooliccnaaGreatDoor
open Go Go.Ab Go.Proofs.Tryz
variable {k n:Nat}{x y v d:Int}{A B:ao}{c X:bk}{q p:ba}{Z Q:Type}{R U:Bool}
def iT(n:Int):ST S:=.e (.c (.d (.sc (.int .i64 n))))
def uT(n:Int):ST S:=.e (.c (.d (.sc (.int .u32 n))))
def bT(b:Bool):ST S:=.e (.c (.d (.b8 b)))
def lT(k:W)(l:List (mD k)):ST S:=.e (.c (.d (.bf (U:=S) k l)))
def eT(k:W)(x:mD k):ST S:=.e (.agg ((cQ k x).map .d))
def Sm{a:Type}(l:List a):=l.length<=1099511627776
def jX(l:ao):Nat->Nat
 |0=>0
 |k+1=>if l[k]?=some 0 then jX l k else k+1
def aR(l:ao):List Int:=l.take (jX l l.length)
def aF3(c:0<k)(a:A[k-1]?=some d)(b:d=0):jX A k=jX A (k-1):=by obtain⟨m,rfl⟩:∃m,k=m+1:=⟨k-1,O⟩;simp only[yu]at a⊢;rw[jX,a,b,aK rfl]
def aF4(c:0<k)(a:A[k-1]?=some d)(b:d≠0):jX A k=k:=by obtain⟨m,rfl⟩:∃m,k=m+1:=⟨k-1,O⟩;simp only[yu]at a;rw[jX,a,g (an b)]
theorem Ml(l:ao):∀k,jX l k<=k
 |0=>bu 0
 |k+1=>by rw[jX];have:=Ml l k;split<;>omega
def mw(l:ao):(aR l).length<=l.length:=by simp[aR];omega
def Mr(h:Sm A):Sm (aR A):=eZ (mw A) h
def iL(neg:Bool)(l:ao):bk:=⟨neg&&decide (0<l.length),l⟩
def jm(x:bk):bk:=iL x.neg (aR x.aF)
def gu(x:bk):Int:=if(aR x.aF).length=0 then 0 else if x.neg then-1 else 1
def aGd(l:ao):bh 165 [wL .u32 l] (lT .u32 (aR l)):=by
 refine vF func165 rfl [] [(2,⟨Nat,λk=>⟨[(0,lT .u32 l),(3,iT k)],[],0⟩,λk=>k<=l.length/\jX l k=jX l l.length,λk=>k⟩)] ?_;intro i;refine aX l.length (aP ⟨rfl,rfl,bu _,rfl⟩ λ(k:Nat)(h:k<=l.length/\jX l k=jX l l.length)=>?_);obtain⟨h,e⟩:=h;apply aP
 ·intro a;have a:0<k:=an a;have c:(k:Int)-1=((k-1:Nat):Int):=O;refine aP (by constructor<;>omega) (aP O (aP O λ(d:Int) f=>?_));rw[c,bI]at f;apply aP
  ·intro b;refine aP (by constructor<;>omega) (aX (k-1) ⟨rfl,c,⟨O,?_⟩,by show k-1<k;omega⟩);rw[<-e,aF3 a f (an b)]
  ·intro b;refine⟨O,O,?_,trivial⟩;rw[bI,aR,<-e,aF4 a f (an b)]
 ·intro a;have a:k=0:=by have:¬0<k:=an a;omega
  subst a;refine⟨O,O,?_,trivial⟩;rw[aR,<-e];rfl
def uB:=dR (.ls W.u32) λl (_:True)=>aGd l
def azZ(l:ao)(h:Sm l):bh 158 [wL .u32 l] (lT .u32 (aR l)):=by
 refine vF func158 rfl [uB] [] ?_;have a:=Mr h;repeat' first|intro _|apply aP
 all_goals first|exact aZ|rfl|omega|simp[zI,Sm,eQ];done|simp_all[zI,Sm,eQ];omega
def Jl:=dR (.ls W.u32) azZ
def awk(l:ao):bh 121 [wL .u32 l] (bT (decide ((aR l).length=0))):=by
 refine vF func121 rfl [uB] [] ?_;repeat' first|intro _|apply aP
 all_goals first|exact aZ|rw[sO];simp_all;done
def ON:=dR (.ls W.u32) λl (_:True)=>awk l
def aEK(b:Bool)(l:ao):bh 169 [wB b,wL .u32 l] (eT .cR (iL b l)):=by
 refine vF func169 rfl [] [] ?_;repeat' first|intro _|apply aP
 all_goals first|exact aZ|rfl|simp_all[iL];done
def OY:=eO (.bool) (.ls W.u32) λb l (_:True)=>aEK b l
def avu(b:Bool)(l:ao)(h:Sm l):bh 166 [wB b,wL .u32 l] (eT .cR (iL b (aR l))):=by
 refine vF func166 rfl [Jl,OY] [] ?_;repeat' first|intro _|apply aP
 all_goals first|exact aZ|rfl|assumption
def Ji:=eO (.bool) (.ls W.u32) avu
def azY(x:bk)(h:Sm x.aF):bh 122 [wE .cR x] (eT .cR (jm x)):=by
 refine vF func122 rfl [Ji] [] ?_;repeat' first|intro _|apply aP
 all_goals first|exact aZ|rfl|assumption
def CH:=dR (.el W.cR) azY
def aEJ(x:bk):bh 75 [wE .cR x] (iT (gu x)):=by
 refine vF func75 rfl [ON] [] ?_;repeat' first|intro _|apply aP
 all_goals first|exact aZ|simp_all[gu];done
def AB:=dR (.el W.cR) λx (_:True)=>aEJ x
def awg(n:Int):bh 57 [wI .i64 n] (bT (decide (1<=n/\n<=4))):=by
 refine vF func57 rfl [] [] ?_;repeat' first|intro _|apply aP
 all_goals first|exact aZ|simp at*;omega
def ZC:=dR (.int .i64) λn (_:True)=>awg n
def awl(p:J):bh 120 [wE .aH p] (bT (decide (p.aJ=0/\p.aF.length=0))):=by
 refine vF func120 rfl [] [] ?_;repeat' first|intro _|apply aP
 all_goals first|exact aZ|simp at*;omega|rw[sO];simp_all;done
def Fv:=dR (.el W.aH) λp (_:True)=>awl p
def iQ{a:Type}(f:a->Int->Int):List a->Int->Int
 |[],n=>n
 |c::r,n=>if n<0 then-1 else iQ f r (f c n)
def abp(f:Z->Int->Int){l:List Z}{c:Z}(h:l[k]?=some c)(n:Int):iQ f (l.drop k) n=if n<0 then-1 else iQ f (l.drop (k+1)) (f c n):=by obtain⟨a,rfl⟩:=dM.1 h;rw[mZ a,iQ]
theorem PD(f:Z->Int->Int)(a:∀c n,0<=n->-1<=f c n/\f c n<=n):∀(l:List Z)(n:Int),-1<=n->-1<=iQ f l n/\iQ f l n<=n
 |[],n,h=>⟨h,B0 _⟩
 |c::r,n,h=>by
  rw[iQ];split
  ·omega
  ·have b:=a c n O;have d:=PD f a r (f c n) b.1;omega
def kK(dg:Int):Nat->J->Int->Int
 |0,_,_=>-1
 |d+1,p,n=>if dg<p.aF.length\/12<p.aG.length then-1 else iQ (kK dg d) p.aG (n-1)
theorem SN(dg:Int):∀(d:Nat)(p:J)(n:Int),0<=n->-1<=kK dg d p n/\kK dg d p n<=n
 |0,p,n,h=>by rw[kK];omega
 |d+1,p,n,h=>by
  rw[kK];split
  ·omega
  ·have:=PD (kK dg d) (λc n h=>SN dg d c n h) p.aG (n-1) O;omega
def sf(p:J)(n dg:Int):Bool:=decide (0<=kK dg 6 p n)
def jq:Nat->F->Int->Int
 |0,_,_=>-1
 |d+1,p,n=>if sf p.aH 40 4=false then-1 else iQ (jq d) p.aO (n-1)
theorem SM:∀(d:Nat)(p:F)(n:Int),0<=n->-1<=jq d p n/\jq d p n<=n
 |0,p,n,h=>by rw[jq];omega
 |d+1,p,n,h=>by
  rw[jq];split
  ·omega
  ·have:=PD (jq d) (λc n h=>SM d c n h) p.aO (n-1) O;omega
def qU(m:F)(n:Int):Bool:=decide (0<=jq 12 m n)
def abn{f:Z->Int->Int}{l:List Z}{R:Int}(h:iQ f (l.drop k) x=R)(a:decide ((k:Int)<l.length)=true)(b:decide (x<0)=true):-1=R:=by have a:k<l.length:=an a;rw[abp f (ca a),aK (an b)]at h;exact h
def abm{f:Z->Int->Int}{l:List Z}{R:Int}(h:iQ f (l.drop k) x=R)(a:decide ((k:Int)<l.length)=false):x=R:=by have a:¬k<l.length:=an a;rw[pR O]at h;exact h
def abo{f:Z->Int->Int}{l:List Z}{R:Int}{c:Z}(h:iQ f (l.drop k) x=R)(a:l[(k:Int).toNat]?=some c)(b:decide (x<0)=false):iQ f (l.drop (k+1)) (f c x)=R:=by rw[bI]at a;rw[abp f a,g (an b)]at h;exact h
def J.nO(p:J):J.mk p.aJ p.neg p.aF p.aG=p:=by cases p;rfl
theorem F.nO(p:F):F.mk p.aM p.bW (J.mk p.aH.aJ p.aH.neg p.aH.aF p.aH.aG) p.aO=p:=by cases p;rw[J.nO];rfl
def F.auH(p:F):F.mk p.aM p.bW p.aH p.aO=p:=by cases p;rfl
def aiO(h:0<d):d.toNat=(d-1).toNat+1:=O
def aDj(p:J)(n d dg:Int)(h:0<=d/\d<=100/\0<=n/\n<=1000000):bh 107 [wE .aH p,wI .i64 n,wI .i64 d,wI .i64 dg] (iT (kK dg d.toNat p n)):=by
 generalize j:d.toNat=D
 induction D using Nat.strongRecOn generalizing p n d
 rename_i D c;subst j;refine vF func107 rfl [Zk Vw 107 (.el W.aH) (.int .i64) (.int .i64) (.int .i64) (λ(q:J)(x:Int)(y:Int)(z:Int)=>y=d-1/\z=dg/\0<d/\0<=x/\x<=1000000) (λ(q:J)(x:Int)(y:Int)(z:Int)=>iT (kK dg (d-1).toNat q x)) (by rintro q x _ _ ⟨rfl,rfl,b,l,k⟩;exact c _ O q x _ ⟨O,O,l,k⟩ rfl)] [(5,⟨Nat×Int,λx=>⟨[(4,bQ 0),(1,iT x.2),(2,iT d),(3,iT dg),(30,iT p.aG.length),(31,iT x.1)],[(0,dh .aH p)],1⟩,λx=>x.1<=p.aG.length/\p.aG.length<=12/\0<d/\-1<=x.2/\x.2<=1000000/\iQ (kK dg (d-1).toNat) (p.aG.drop x.1) x.2=kK dg d.toNat p n,λx=>p.aG.length-x.1⟩)] ?_;have o:=h.2.2;have m:d=0->kK dg d.toNat p n=-1:=by rintro rfl;rfl
 have f:0<d->kK dg d.toNat p n=if dg<p.aF.length\/12<p.aG.length then-1 else iQ (kK dg (d-1).toNat) p.aG (n-1):=by intro h;rw[aiO h,kK]
 have i:(d==0)=false->0<d:=by intro e;simp at e;omega
 repeat' first|intro _|apply aP|refine aX (0,n-1) (aP ?_ λ(x:Nat×Int) (a:x.1<=p.aG.length/\p.aG.length<=12/\0<d/\-1<=x.2/\x.2<=1000000/\iQ (kK dg (d-1).toNat) (p.aG.drop x.1) x.2=kK dg d.toNat p n)=>?_)|refine aX (x.1+1,kK dg (d-1).toNat (by assumption) x.2) ?_
 all_goals first|exact aZ|rfl|omega|exact abn a.2.2.2.2.2 I I|exact abm a.2.2.2.2.2 I|exact abo a.2.2.2.2.2 I I|have b:=i I;rw[f b];simp_all;done|have:=SN dg (d-1).toNat ‹S.El W.aH› x.2 (by simp_all);simp_all;omega|have:=SN dg (d-1).toNat ‹S.El W.aH› x.2 (by simp_all);omega|simp[J.nO];done|simp at*;omega
def asD:=MA (.el W.aH) (.int .i64) (.int .i64) (.int .i64) aDj
def au4(p:J)(n dg:Int)(h:0<=n/\n<=1000000):bh 60 [wE .aH p,wI .i64 n,wI .i64 dg] (bT (sf p n dg)):=by
 refine vF func60 rfl [asD] [] ?_;repeat' first|intro _|apply aP
 all_goals first|exact aZ|rfl|omega
def Zz:=vb (.el W.aH) (.int .i64) (.int .i64) au4
def aDi(p:F)(n d:Int)(h:0<=d/\d<=100/\0<=n/\n<=1000000):bh 59 [wE .aQ p,wI .i64 n,wI .i64 d] (iT (jq d.toNat p n)):=by
 generalize j:d.toNat=D
 induction D using Nat.strongRecOn generalizing p n d
 rename_i D c;subst j;refine vF func59 rfl [Zz,CA Vw 59 (.el W.aQ) (.int .i64) (.int .i64) (λ(q:F)(x:Int)(y:Int)=>y=d-1/\0<d/\0<=x/\x<=1000000) (λ(q:F)(x:Int)(y:Int)=>iT (jq (d-1).toNat q x)) (by rintro q x _ ⟨rfl,b,l,k⟩;exact c _ O q x _ ⟨O,O,l,k⟩ rfl)] [(5,⟨Nat×Int,λx=>⟨[(3,bQ 0),(1,iT x.2),(2,iT d),(20,iT p.aO.length),(21,iT x.1)],[(0,dh .aQ p)],1⟩,λx=>x.1<=p.aO.length/\p.aO.length<=9223372036854775807/\0<d/\-1<=x.2/\x.2<=1000000/\iQ (jq (d-1).toNat) (p.aO.drop x.1) x.2=jq d.toNat p n,λx=>p.aO.length-x.1⟩)] ?_;have o:=h.2.2;have m:d=0->jq d.toNat p n=-1:=by rintro rfl;rfl
 have f:0<d->jq d.toNat p n=if sf p.aH 40 4=false then-1 else iQ (jq (d-1).toNat) p.aO (n-1):=by intro h;rw[aiO h,jq]
 have i:(d==0)=false->0<d:=by intro e;simp at e;omega
 repeat' first|intro _|apply aP|refine aX (0,n-1) (aP ?_ λ(x:Nat×Int) (a:x.1<=p.aO.length/\p.aO.length<=9223372036854775807/\0<d/\-1<=x.2/\x.2<=1000000/\iQ (jq (d-1).toNat) (p.aO.drop x.1) x.2=jq d.toNat p n)=>?_)|refine aX (x.1+1,jq (d-1).toNat (by assumption) x.2) ?_
 all_goals first|exact aZ|rfl|assumption|omega|exact abn a.2.2.2.2.2 I I|exact abm a.2.2.2.2.2 I|exact abo a.2.2.2.2.2 I I|have b:=i I;rw[f b];simp_all[J.nO];done|have:=SM (d-1).toNat ‹S.El W.aQ› x.2 (by simp_all);simp_all;omega|have:=SM (d-1).toNat ‹S.El W.aQ› x.2 (by simp_all);omega|simp[J.nO,F.nO,F.auH];done|simp at*;omega
def asC:=vb (.el W.aQ) (.int .i64) (.int .i64) aDi
def au5(p:F)(n:Int)(h:0<=n/\n<=1000000):bh 28 [wE .aQ p,wI .i64 n] (bT (qU p n)):=by
 refine vF func28 rfl [asC] [] ?_;repeat' first|intro _|apply aP
 all_goals first|exact aZ|rfl|omega
def ar9:=eO (.el W.aQ) (.int .i64) au5
def J.lt{c p:J}(h:c∈p.aG):SizeOf.sizeOf c<SizeOf.sizeOf p:=by
 cases p with
 |mk l n a b=>have:=Wh (show c∈b from h);simp only[J.mk.sizeOf_spec];omega
def F.lt{c p:F}(h:c∈p.aO):SizeOf.sizeOf c<SizeOf.sizeOf p:=by
 cases p with
 |mk l n a b=>have:=Wh (show c∈b from h);simp only[F.mk.sizeOf_spec];omega
def J.at{p c:J}(h:p.aG[(k:Int).toNat]?=some c):J.mk c.aJ c.neg c.aF c.aG∈p.aG:=by rw[J.nO];exact bF h
def F.at{p c:F}(h:p.aO[(k:Int).toNat]?=some c):F.mk c.aM c.bW (J.mk c.aH.aJ c.aH.neg c.aH.aF c.aH.aG) c.aO∈p.aO:=by rw[F.nO];exact bF h
def Iv(f:Z->Bool){l:List Z}{c:Z}(h:l[k]?=some c):(l.drop k).all f=(f c&&(l.drop (k+1)).all f):=by obtain⟨a,rfl⟩:=dM.1 h;rw[mZ a,wN]
def anX{f:Z->Bool}{l:List Z}(h:(l.drop k).all f=R)(a:decide ((k:Int)<l.length)=false):true=R:=by have a:¬k<l.length:=an a;rw[pR O]at h;exact h
def anZ{f:Z->Bool}{l:List Z}{c:Z}(h:(l.drop k).all f=R)(a:l[(k:Int).toNat]?=some c)(b:f c=false):false=R:=by rw[bI]at a;rw[Iv f a,b]at h;exact h
def an0{f:Z->Bool}{l:List Z}{c:Z}(h:(l.drop k).all f=R)(a:l[(k:Int).toNat]?=some c)(b:f c=true):(l.drop (k+1)).all f=R:=by rw[bI]at a;rw[Iv f a,b,BN]at h;exact h
mutual
def nW (d:Int):J->Bool
 |.mk _ _ _ a=>!decide (d+1<a.length)&&Gg d a
def Gg (d:Int):List J->Bool
 |[]=>true
 |p::r=>nW d p&&Gg d r
end
theorem QN(d:Int):∀l,Gg d l=l.all (nW d)
 |[]=>by simp[Gg]
 |p::r=>by rw[Gg,QN d r,wN]
def axy(d:Int)(p:J):nW d p=(!decide (d+1<p.aG.length)&&p.aG.all (nW d)):=by cases p;rw[nW,QN];rfl
inductive kQ:J->Prop where
 |mk (l:Int) (n:Bool) (a:ao) (cs:List J) (h1:Sm a) (h2:cs.length<=1000000000) (h3:∀c∈cs,kQ c):kQ (.mk l n a cs)
theorem kQ.aF{p:J}(h:kQ p):Sm p.aF:=by cases h;assumption
def kQ.len{p:J}(h:kQ p):p.aG.length<=1000000000:=by cases h;assumption
def kQ.bz{p:J}(h:kQ p):∀c∈p.aG,kQ c:=by cases h;assumption
mutual
def lQ:J->J
 |.mk l n a b=>if l=0 then .mk 0 (jm ⟨n,a⟩).neg (jm ⟨n,a⟩).aF []else .mk l false [] (Fq b)
def Fq:List J->List J
 |[]=>[]
 |p::r=>lQ p::Fq r
end
theorem OJ:∀l,Fq l=l.map lQ
 |[]=>by simp[Fq]
 |p::r=>by rw[Fq,OJ r,dc]
def Zj(p:J):lQ p=if p.aJ=0 then .mk 0 (jm ⟨p.neg,p.aF⟩).neg (jm ⟨p.neg,p.aF⟩).aF []else .mk p.aJ false [] (p.aG.map lQ):=by cases p;rw[lQ,OJ];rfl
def Tg{f:Z->Q}{l:List Z}{z:Q}{c:Z}(a:decide ((k:Int)<l.length)=true)(b:l[(k:Int).toNat]?=some c):
 ((l.take k).map f++List.replicate (l.length-k) z).set (k:Int).toNat (f c)=(l.take (k+1)).map f++List.replicate (l.length-(k+1)) z:=by
 rw[bI]at b⊢;have a:k<l.length:=an a;have e:l.length-k=(l.length-(k+1))+1:=O;rw[e,rR,vl _ _ (by simp;omega)];have:k-((l.take k).map f).length=0:=by simp;omega
 rw[this,vm,h_,b];simp
def Py{f:Z->Q}{l:List Z}{z:Q}(a:decide ((k:Int)<l.length)=false)(b:k<=l.length):(l.take k).map f++List.replicate (l.length-k) z=l.map f:=by have a:¬k<l.length:=an a;have:k=l.length:=O;subst this;simp
def zP:J:=.mk 0 false [] []
def axz(p:J)(d:Int)(h:0<=d/\d<=1000):bh 61 [wE .aH p,wI .i64 d] (bT (nW d p)):=by
 generalize c:SizeOf.sizeOf p=D
 induction D using Nat.strongRecOn generalizing p
 rename_i D b;subst c;refine vF func61 rfl [qO Vw 61 (.el W.aH) (.int .i64) (λ(q:J)(x:Int)=>q∈p.aG/\x=d) (λ(q:J)(x:Int)=>bT (nW d q)) (by rintro q _ ⟨e,rfl⟩;exact b _ (J.lt e) q rfl)] [(4,⟨Nat,λx=>⟨[(2,bQ 0),(1,iT d),(14,iT p.aG.length),(15,iT x)],[(0,dh .aH p)],1⟩,λx=>x<=p.aG.length/\p.aG.length<=9223372036854775807/\(p.aG.drop x).all (nW d)=nW d p,λx=>p.aG.length-x⟩)] ?_;have f:=axy d p;repeat' first|intro _|apply aP|refine aX 0 (aP ?_ λ(x:Nat) (a:x<=p.aG.length/\p.aG.length<=9223372036854775807/\(p.aG.drop x).all (nW d)=nW d p)=>?_)|refine aX (x+1) ?_
 all_goals first|exact aZ|rfl|assumption|omega|exact J.at I|exact anX a.2.2 I|exact anZ a.2.2 I (by have:=‹(!nW d _)=true›;simpa[J.nO]using this)|exact an0 a.2.2 I (by have:=‹(!nW d _)=false›;simpa[J.nO]using this)|simp at*;omega|simp_all[J.nO];done
def aso:=eO (.el W.aH) (.int .i64) axz
def arP(p:J)(h:kQ p):bh 80 [wE .aH p] (eT .aH (lQ p)):=by
 generalize i:SizeOf.sizeOf p=D
 induction D using Nat.strongRecOn generalizing p
 rename_i D b;subst i;refine vF func80 rfl [CH,uz Vw 80 (.el W.aH) (λ(q:J)=>q∈p.aG) (λ(q:J)=>eT .aH (lQ q)) (λq a=>b _ (J.lt a) q (h.bz q a) rfl)] [(5,⟨Nat,λx=>⟨[(1,bQ 0),(2,bQ 1),(3,.e (.c (.aW 2 (U:=S) W.aH p.aG.length))),(18,lT .aH p.aG),(19,iT p.aG.length),(20,iT x)],[(0,dh .aH p),(1,dh .aH zP),(2,.aU (U:=S) W.aH ((p.aG.take x).map lQ++List.replicate (p.aG.length-x) zP))],3⟩,λx=>x<=p.aG.length/\True,λx=>p.aG.length-x⟩)] ?_;have f:=Zj p;have j:=h.len;have k:=h.aF;repeat' first|intro _|apply aP|refine aX 0 (aP ?_ λ(x:Nat)(d:x<=p.aG.length/\True)=>?_)|refine aX (x+1) ?_
 all_goals try first|exact aZ|rfl|assumption|omega|exact J.at I|simp only[J.nO];exact Tg I I|simp only[lC];omega|simp at*;omega|rw[Py I d.1,f,g (by simpa using‹(p.aJ==0)=false›)];rfl|simp_all[J.aJ,J.neg,J.aF,J.aG];done
 all_goals trace_state
def AA:=dR (.el W.aH) arP
def xv(a:ao):Int:=(a[a.length-1]?).getD 0
def bM(p:J):Bool:=decide (p.aJ=0/\p.aF.length=0)
def vQ(a:List J):Bool:=match a[a.length-1]? with|some c=>bM c|none=>false
mutual
def gC:J->Bool
 |.mk l n a b=>if l=0 then decide (b.length=0)&&((decide (a.length=0)&& !n)||(decide (0<a.length)&&decide (xv a≠0)))
  else decide (1<=l/\l<=4)&&decide (a.length=0)&& !n&&decide (2<=b.length)&&Ff l b&& !vQ b
def Ff (l:Int):List J->Bool
 |[]=>true
 |c::r=>(!decide (l<=c.aJ)&&gC c)&&Ff l r
end
theorem IR(l:Int):∀a,Ff l a=a.all (λc=>!decide (l<=c.aJ)&&gC c)
 |[]=>by simp[Ff]
 |p::r=>by rw[Ff,IR l r,wN]
def Yu(p:J):gC p=if p.aJ=0 then decide (p.aG.length=0)&&((decide (p.aF.length=0)&& !p.neg)||(decide (0<p.aF.length)&&decide (xv p.aF≠0)))
 else decide (1<=p.aJ/\p.aJ<=4)&&decide (p.aF.length=0)&& !p.neg&&decide (2<=p.aG.length)&&p.aG.all (λc=>!decide (p.aJ<=c.aJ)&&gC c)&& !vQ p.aG:=by
 cases p;rw[gC,IR];rfl
def axd(h:A[((A.length:Int)-1).toNat]?=some x):xv A=x:=by have:((A.length:Int)-1).toNat=A.length-1:=O;rw[this]at h;simp[xv,h]
def Yw{f:J->Bool}{l:List J}{c:J}(h:((l.drop k).all f&&U)=R)(a:l[(k:Int).toNat]?=some c)(b:f c=false):false=R:=by rw[bI]at a;rw[Iv f a,b]at h;exact h
def aqv{f:J->Bool}{l:List J}{c:J}(h:((l.drop k).all f&&U)=R)(a:l[(k:Int).toNat]?=some c)(b:f c=true):((l.drop (k+1)).all f&&U)=R:=by rw[bI]at a;rw[Iv f a,b,BN]at h;exact h
def axe{a:List J}{x:J}(h:a[((a.length:Int)-1).toNat]?=some x):vQ a=bM x:=by have:((a.length:Int)-1).toNat=a.length-1:=O;rw[this]at h;simp[vQ,h]
def aqu{p:J}(a:(p.aJ==0)=true)(b:decide (0<((p.aG.length:Nat):Int))=false)(c:decide (0<((p.aF.length:Nat):Int))=true)(d:p.aF[((p.aF.length:Int)-1).toNat]?=some x):(x !=0)=gC p:=by
 rw[Yu,aK (an a),axd d];simp only[be,bj]at b c;have f:decide (p.aG.length=0)=true:=by simp only[be];omega
 have h:decide (p.aF.length=0)=false:=by simp only[bj];omega
 have i:decide (0<p.aF.length)=true:=by simp only[be];omega
 rw[f,h,i];by_cases e:x=0<;>simp[e]
def aqw{f:J->Bool}{l:List J}{c:J}(h:((l.drop k).all f&& !vQ l)=R)(a:decide ((k:Int)<l.length)=false)(b:l[((l.length:Int)-1).toNat]?=some c):
 (!decide ((J.mk c.aJ c.neg c.aF c.aG).aJ=0/\(J.mk c.aJ c.neg c.aF c.aG).aF.length=0))=R:=by
 have a:¬k<l.length:=an a;rw[pR O,axe b]at h;rw[J.nO];exact h
def awe(p:J):bh 126 [wE .aH p] (bT (gC p)):=by
 generalize i:SizeOf.sizeOf p=D
 induction D using Nat.strongRecOn generalizing p
 rename_i D h;subst i;refine vF func126 rfl [ZC,Fv,uz Vw 126 (.el W.aH) (λ(q:J)=>q∈p.aG) (λ(q:J)=>bT (gC q)) (λq j=>h _ (J.lt j) q rfl)] [(10,⟨Nat,λx=>⟨[(1,bQ 0),(4,iT p.aG.length),(61,lT .aH p.aG),(62,iT p.aG.length),(63,iT x)],[(0,dh .aH p)],1⟩,λx=>x<=p.aG.length/\p.aG.length<=9223372036854775807/\2<=p.aG.length/\((p.aG.drop x).all (λc=>!decide (p.aJ<=c.aJ)&&gC c)&& !vQ p.aG)=gC p,λx=>p.aG.length-x⟩)] ?_;have b:=Yu p;have f:decide (0<((p.aG.length:Nat):Int))=true->decide (p.aG.length=0)=false:=by intro e;simp only[be,bj]at*;omega
 have l:decide (0<((p.aG.length:Nat):Int))=false->decide (p.aG.length=0)=true:=by intro e;simp only[be,bj]at*;omega
 have d:decide (0<((p.aF.length:Nat):Int))=true->decide (p.aF.length=0)=false:=by intro e;simp only[be,bj]at*;omega
 have k:decide (0<((p.aF.length:Nat):Int))=true->decide (0<p.aF.length)=true:=by intro e;simp only[be,bj]at*;omega
 repeat' first|intro _|apply aP|refine aX 0 (aP ?_ λ(x:Nat) (a:x<=p.aG.length/\p.aG.length<=9223372036854775807/\2<=p.aG.length/\((p.aG.drop x).all (λc=>!decide (p.aJ<=c.aJ)&&gC c)&& !vQ p.aG)=gC p)=>?_)|refine aX (x+1) ?_
 all_goals first|exact aZ|rfl|assumption|omega|exact J.at I|exact aqw a.2.2.2 I I|exact Yw a.2.2.2 I (by have:=‹(!gC _)=true›;simp_all[J.nO])|exact Yw a.2.2.2 I (by have:=‹decide (p.aJ<=_)=!false›;simp_all)|exact aqv a.2.2.2 I (by have:=‹(!gC _)=false›;simp_all[J.nO])|rw[b,aK (by simpa using‹(p.aJ==0)=true›),f I];rfl|exact aqu I I I I|rw[b,g (by simpa using‹(p.aJ==0)=false›),d I];simp;done|simp at*;omega|simp_all[J.nO];done|simp_all[J.nO];omega|rw[sO];simp_all[J.nO];omega
def ZB:=dR (.el W.aH) λp (_:True)=>awe p
@[irreducible] def bY(d:Int):=0<=d/\d<4294967296
def cg:bY d↔0<=d/\d<4294967296:=by unfold bY;exact Iff.rfl
def Dg(l:ao):=∀d∈l,bY d
def uE(n:Int):SE S:=.c (.d (.sc (.int .u32 n)))
def tT(l:List (SE S)):ST S:=.cn l
def lE(k:W)(l:List (mD k)):SE S:=.c (.d (.bf (U:=S) k l))
def bE(b:Bool):SE S:=.c (.d (.b8 b))
def lP(A B:ao):Nat->Int
 |0=>0
 |k+1=>((A[k]?).getD 0+(B[k]?).getD 0+lP A B k)/4294967296
def Yn(A B:ao):lP A B 0=0:=rfl
def IM(A B:ao)(k:Nat):lP A B (k+1)=((A[k]?).getD 0+(B[k]?).getD 0+lP A B k)/4294967296:=rfl
def o5(A B:ao)(k:Nat):Int:=((A[k]?).getD 0+(B[k]?).getD 0+lP A B k)%4294967296
def qL(A B:ao):List Int:=(List.range A.length).map (o5 A B)++[lP A B A.length]
def qQ(h:∀d∈A,bY d)(k:Nat):bY ((A[k]?).getD 0):=by
 cases e:A[k]? with
 |none=>exact cg.2 ⟨ae,ae⟩
 |some x=>exact h x (bF e)
theorem IL(a:∀d∈A,bY d)(b:∀d∈B,bY d):∀k,0<=lP A B k/\lP A B k<=1
 |0=>by simp[Yn]
 |k+1=>by have c:=qQ a k;have e:=qQ b k;have f:=IL a b k;rw[cg]at c e;rw[IM];omega
def JM{f:Nat->Int}(b:k<n)(a:v=f k):((List.range k).map f++List.replicate (n-k) 0).set k v=(List.range (k+1)).map f++List.replicate (n-(k+1)) 0:=by have e:n-k=(n-(k+1))+1:=O;rw[e,rR,vl _ _ ai];simp[oW,a]
def Dg.at(h:Dg A)(a:A[k]?=some x):bY x:=h x (bF a)
def Dg.eW(h:Dg A):Dg (aR A):=λd a=>h d (oi a)
def qf(a b:ao):List Int:=if a.length<b.length then b else a
def u6(a b:ao):List Int:=if a.length<b.length then a else b
def ig(a b:ao):List Int:=aR (qL (qf (aR a) (aR b)) (u6 (aR a) (aR b)))
def anh(x y c:Int)(h:bY x/\bY y/\0<=c/\c<=1):bh 216 [wI .u32 x,wI .u32 y,wI .u32 c] (tT [uE ((x+y+c)%4294967296),uE ((x+y+c)/4294967296)]):=by
 refine vF func216 rfl [] [] ?_;obtain⟨j,i,n⟩:=h;rw[cg]at j i;have f:IntKind.u64.wrap x=x:=IntWalk.u64_in _ O;have e:IntKind.u64.wrap y=y:=IntWalk.u64_in _ O;have d:IntKind.u64.wrap c=c:=IntWalk.u64_in _ O;have b:IntKind.u64.wrap (x+y)=x+y:=IntWalk.u64_in _ O;have a:IntKind.u64.wrap (x+y+c)=x+y+c:=IntWalk.u64_in _ O;have m:IntKind.u32.wrap (x+y+c)=(x+y+c)%4294967296:=by rw[IntKind.wrap_u32]
 have l:(x+y+c).fdiv (2^min (Int.toNat 32) IntKind.u64.bits)=(x+y+c)/4294967296:=by show(x+y+c).fdiv 4294967296=_;rw[yj _ O]
 have k:IntKind.u32.wrap ((x+y+c)/4294967296)=(x+y+c)/4294967296:=IntWalk.u32_in _ O;repeat' first|intro _|apply aP
 all_goals first|exact aZ|omega|rw[f,e,d,b,a,m];done|rw[f,e,d,b,a,l,k];done
def CD:=vb (.int .u32) (.int .u32) (.int .u32) anh
def aFD(x y c:Int)(h:bY x/\bY y/\0<=c/\c<=1):cN prog 215 (bJ (bP [(0,aV.cells (U:=S) [.d (.sc (.int .u32 c))])])) ([uE x,uE y,.c (.ptr 0 0)].map SE.den) (bJ (bP [(0,aV.cells (U:=S) [.d (.sc (.int .u32 ((x+y+c)/4294967296)))])])) (·∈[0]) (uT ((x+y+c)%4294967296)).den:=by
 refine vO func215 rfl ⟨[CD],[]⟩ [] [0] ⟨[(5,uT ((x+y+c)%4294967296))],[(0,.cells [.d (.sc (.int .u32 ((x+y+c)/4294967296)))])],1⟩ ?_;repeat' first|exact h|intro _|apply aP
 all_goals first|exact aZ|rfl
def at5:fh prog 215:=fH func215 af rfl
def aha(H:List (Nat×aV S))(args:List (SE S))(K:f_ S->Prop):Prop:=
 match H,args with
 |[(0,.cells [.d (.sc (.int .u32 c))])],[.c (.d (.sc (.int .u32 x))),.c (.d (.sc (.int .u32 y))),.c (.ptr 0 0)]=>(bY x/\bY y/\0<=c/\c<=1)/\K ⟨uT ((x+y+c)%4294967296),[(0,.cells [.d (.sc (.int .u32 ((x+y+c)/4294967296)))])],[],[0]⟩
 |_,_=>False
def aAJ:fk prog S where
 f:=215
 fX:=at5
 run:=aha
 ok H args K h:=by
  unfold aha at h;split at h
  ·rename_i c x y;obtain⟨e,d⟩:=h;refine⟨_,?_,λu a b=>?_,d⟩
   ·exact(aFD x y c e).fK λu a=>by have:u<1:=a.1;simp;omega
   ·have:u<1:=a;simp at b;omega
  ·cases h
def ac2(a b:ao):(u6 a b).length<=(qf a b).length:=by unfold qf u6;split<;>omega
def axx(c:Sm A)(d:Sm B):Sm (qf A B):=by unfold qf;split<;>assumption
def QJ(c:Dg A)(d:Dg B):Dg (qf A B):=by unfold qf;split<;>assumption
def Tj(c:Dg A)(d:Dg B):Dg (u6 A B):=by unfold u6;split<;>assumption
def pa(h:A[(k:Int).toNat]?=some x):(A[k]?).getD 0=x:=by rw[bI]at h;simp[h]
def FX(h:A.length<=k):(A[k]?).getD 0=0:=by rw[gp h];rfl
def Dg.Ap(h:Dg A)(a:A[(k:Int).toNat]?=some x):bY x:=by rw[bI]at a;exact h.at a
def aqg(a:A[(k:Int).toNat]?=some x)(b:B[(k:Int).toNat]?=some y):(x+y+lP A B k)/4294967296=lP A B (k+1):=by rw[IM,pa a,pa b]
def aqh(a:A[(k:Int).toNat]?=some x)(b:B.length<=k):(x+0+lP A B k)/4294967296=lP A B (k+1):=by rw[IM,pa a,FX b]
def ave(a:A[(k:Int).toNat]?=some x)(b:B[(k:Int).toNat]?=some y)(c:k<n):
 ((List.range k).map (o5 A B)++List.replicate (n-k) 0).set (k:Int).toNat ((x+y+lP A B k)%4294967296)=(List.range (k+1)).map (o5 A B)++List.replicate (n-(k+1)) 0:=by
 rw[bI];exact JM c (by rw[o5,pa a,pa b])
def avf(a:A[(k:Int).toNat]?=some x)(b:B.length<=k)(c:k<n):
 ((List.range k).map (o5 A B)++List.replicate (n-k) 0).set (k:Int).toNat ((x+0+lP A B k)%4294967296)=(List.range (k+1)).map (o5 A B)++List.replicate (n-(k+1)) 0:=by
 rw[bI];exact JM c (by rw[o5,pa a,FX b])
def JL(f:Nat->Int)(n k:Nat)(a:k<=n):((List.range k).map f++List.replicate (n-k) 0).length=n:=by simp;omega
def avd(a:k=A.length):((List.range k).map (o5 A B)++List.replicate (A.length+1-k) 0).set ((A.length:Nat):Int).toNat (lP A B k)=qL A B:=by subst a;rw[bI,vl _ _ ai];have:A.length+1-A.length=1:=O;rw[this];simp[qL]
def Jv(h:k<=n)(a:decide ((k:Int)<(n:Int))=false):k=n:=by simp only[bj]at a;omega
def C7:bY 0:=cg.2 ⟨ae,ae⟩
def anw(a b A B:ao)(s:Sm a)(r:Sm b)(q:Dg A)(p:Dg B)(m:A.length<=1099511627776)(hlen:B.length<=A.length)(h:decide (((aR a).length:Int)<((aR b).length:Int))=true->aR b=A/\aR a=B)(f:decide (((aR a).length:Int)<((aR b).length:Int))=false->aR a=A/\aR b=B)(o:∀k,0<=lP A B k/\lP A B k<=1):bh 170 [wL .u32 a,wL .u32 b] (lT .u32 (aR (qL A B))):=by
 refine vG func170 rfl ⟨[uB],[aAJ]⟩ [(8,⟨Nat,λx=>⟨[(0,lT .u32 A),(1,lT .u32 B),(5,bQ 0),(6,.e (.c (.cr 215 [(0,0)]))),(7,.e (.c (.aW 1 (U:=S) W.u32 (A.length+1)))),(27,lT .u32 B),(28,iT B.length),(29,iT x)],[(0,.cells [.d (.sc (.int .u32 (lP A B x)))]),(1,.aU (U:=S) W.u32 ((List.range x).map (o5 A B)++List.replicate (A.length+1-x) 0))],2⟩,λx=>x<=B.length/\True,λx=>B.length-x⟩),(13,⟨Nat,λx=>⟨[(0,lT .u32 A),(5,bQ 0),(6,.e (.c (.cr 215 [(0,0)]))),(7,.e (.c (.aW 1 (U:=S) W.u32 (A.length+1)))),(10,iT x)],[(0,.cells [.d (.sc (.int .u32 (lP A B x)))]),(1,.aU (U:=S) W.u32 ((List.range x).map (o5 A B)++List.replicate (A.length+1-x) 0))],2⟩,λx=>B.length<=x/\x<=A.length/\True,λx=>A.length-x⟩)] ?_;have n:∀y,decide ((y:Int)<A.length)=false->A.length<=y.toNat\/y<0:=by intro y l;simp only[bj]at l;omega
 repeat' first|intro _|apply aP|refine aX 0 (aP ?_ λ(x:Nat)(i:x<=B.length/\True)=>?_)|refine aX B.length (aP ?_ λ(x:Nat)(i:B.length<=x/\x<=A.length/\True)=>?_)|refine aX (x+1) ?_
 all_goals first|exact aZ|rfl|omega|have:=o x;omega|exact Dg.Ap q I|exact Dg.Ap p I|exact C7|exact(h I).1|exact(h I).2|exact(f I).1|exact(f I).2|exact aqg I I|exact aqh I i.1|exact ave I I (by simp only[be,bj]at*;omega)|exact avf I i.1 (by simp only[be,bj]at*;omega)|rw[JL _ _ _ O];simp only[be,bj]at*;omega|simp only[be,bj]at*;omega|have e:=h I;rw[e.1];simp only[zI];omega|have e:=f I;rw[e.1];simp only[zI];omega|have e:=h I;rw[e.2]|have e:=f I;rw[e.2]|have e:=h I;have j:((A.length:Int)+1).toNat=A.length+1:=O;rw[e.1,j];rfl|have e:=f I;have j:((A.length:Int)+1).toNat=A.length+1:=O;rw[e.1,j];rfl|have e:=Jv i.1 I;rw[e]|rw[oV,JL _ _ _ O]|rw[avd (Jv i.2.1 I)]
def anx(a b:ao)(h:Sm a/\Sm b/\Dg a/\Dg b):bh 170 [wL .u32 a,wL .u32 b] (lT .u32 (ig a b)):=by
 obtain⟨i,f,d,c⟩:=h;have k:=QJ d.eW c.eW;have j:=Tj d.eW c.eW;refine anw a b (qf (aR a) (aR b)) (u6 (aR a) (aR b)) i f k j (axx (Mr i) (Mr f)) (ac2 _ _) (λe=>?_) (λe=>?_) (IL k j)
 ·simp only[be]at e;unfold qf u6;rw[aK O,aK O];exact⟨rfl,rfl⟩
 ·simp only[bj]at e;unfold qf u6;rw[g O,g O];exact⟨rfl,rfl⟩
def Zp:=eO (.ls W.u32) (.ls W.u32) anx
def oZ(A B:ao):Nat->Int
 |0=>0
 |k+1=>if(A[k]?).getD 0<(B[k]?).getD 0 then-1 else if(B[k]?).getD 0<(A[k]?).getD 0 then 1 else oZ A B k
def ij(a b:ao):Int:=
 if(aR a).length<(aR b).length then-1 else if(aR b).length<(aR a).length then 1 else oZ (aR a) (aR b) (aR a).length
def aqY{R:Int}(h:oZ A B k=R)(d:0<k)(a:A[((k:Int)-1).toNat]?=some x)(b:B[((k:Int)-1).toNat]?=some y)(c:decide (x<y)=true):-1=R:=by obtain⟨j,rfl⟩:∃j,k=j+1:=⟨k-1,O⟩;have e:(((j+1:Nat):Int)-1).toNat=j:=O;rw[e]at a b;rw[oZ,a,b,ie,ie,aK (an c)]at h;exact h
def aqX{R:Int}(h:oZ A B k=R)(d:0<k)(b:A[((k:Int)-1).toNat]?=some x)(c:B[((k:Int)-1).toNat]?=some y)(a:decide (y<x)=true):1=R:=by obtain⟨j,rfl⟩:∃j,k=j+1:=⟨k-1,O⟩;have e:(((j+1:Nat):Int)-1).toNat=j:=O;rw[e]at b c;have a:y<x:=an a;rw[oZ,b,c,ie,ie,g O,aK a]at h;exact h
def aqW{R:Int}(h:oZ A B k=R)(m:0<k)(c:A[((k:Int)-1).toNat]?=some x)(f:B[((k:Int)-1).toNat]?=some y)(i:decide (x<y)=false)(a:A[((k:Int)-1).toNat]?=some v)(b:B[((k:Int)-1).toNat]?=some d)(l:decide (d<v)=false):oZ A B (k-1)=R:=by rw[c]at a;rw[f]at b;cases a;cases b;obtain⟨j,rfl⟩:∃j,k=j+1:=⟨k-1,O⟩;have e:(((j+1:Nat):Int)-1).toNat=j:=O;rw[e]at c f;have l:¬y<x:=an l;have i:¬x<y:=an i;rw[oZ,c,f,ie,ie,g i,g l]at h;exact h
def aqV{R:Int}(h:oZ A B k=R)(a:decide (0<=(k:Int)-1)=false):0=R:=by
 have:k=0:=by simp only[bj]at a;omega
 subst this;exact h
def arb(a b:ao):bh 171 [wL .u32 a,wL .u32 b] (iT (ij a b)):=by
 refine vF func171 rfl [uB] [(7,⟨Nat,λx=>⟨[(0,lT .u32 (aR a)),(1,lT .u32 (aR b)),(5,iT ((x:Int)-1))],[],0⟩,λx=>x<=(aR a).length/\(aR a).length=(aR b).length/\(aR a).length<=9223372036854775807/\oZ (aR a) (aR b) x=ij a b,λx=>x⟩)] ?_;have o:ij a b=if(aR a).length<(aR b).length then-1 else if(aR b).length<(aR a).length then 1 else oZ (aR a) (aR b) (aR a).length:=rfl;repeat' first|intro _|apply aP|refine aX (aR a).length (aP ?_ λ(x:Nat) (c:x<=(aR a).length/\(aR a).length=(aR b).length/\(aR a).length<=9223372036854775807/\oZ (aR a) (aR b) x=ij a b)=>?_)|refine aX (x-1) ?_
 all_goals first|exact aZ|rfl|omega|simp only[be,bj]at*;omega|exact aqY c.2.2.2 (by(simp only[be,bj]at*;omega)) I I I|exact aqX c.2.2.2 (by(simp only[be,bj]at*;omega)) I I I|exact aqV c.2.2.2 I|rename_i k d l e f m h n i j;exact aqW c.2.2.2 (by(simp only[be,bj]at*;omega)) d e f h i j
def Jg:=eO (.ls W.u32) (.ls W.u32) λa b (_:True)=>arb a b
def ap8(v:BitVec 32):IntKind.u32.wrap (v.toNat:Int)=(v.toNat:Int):=IntWalk.u32_in _ (by have:=v.isLt;omega)
def ap6(v:BitVec 32):BitVec.ofInt 32 (v.toNat:Int)=v:=ai
def ap9(v:BitVec IntKind.u32.bits):IntKind.u32.wrap (v.toNat:Int)=(v.toNat:Int):=ap8 v
def ap7(v:BitVec IntKind.u32.bits):BitVec.ofInt IntKind.u32.bits (v.toNat:Int)=v:=ap6 v
def ap5(v:BitVec 32):(v.toNat:Int).fdiv 2147483648=if v.msb then 1 else 0:=by
 have h:=v.isLt;rw[yj _ O,BitVec.msb_eq_decide];by_cases a:2147483648<=v.toNat
 ·rw[aK (an a)];omega
 ·rw[g (an a)];omega
def Ru(a:0<=x/\x<4294967296):(BitVec.ofInt 32 x).msb=decide (2147483648<=x):=by
 rw[BitVec.msb_eq_decide];have e:((BitVec.ofInt 32 x).toNat:Int)=x:=by rw[Hu];omega
 have:(2^(32-1)<=(BitVec.ofInt 32 x).toNat)↔2147483648<=x:=O;exact decide_eq_decide.2 this
def apW(b:0<=x/\x<4294967296)(f:0<=y/\y<4294967296)(k:0<=v/\v<=1)(l:d=(x-y-v)%4294967296):
 (((((BitVec.ofInt 32 4294967295 ^^^ BitVec.ofInt 32 x) &&& BitVec.ofInt 32 y) ||| ((BitVec.ofInt 32 4294967295 ^^^ (BitVec.ofInt 32 x ^^^ BitVec.ofInt 32 y)) &&& BitVec.ofInt 32 d)).toNat:Int)).fdiv 2147483648=if x<y+v then 1 else 0:=by
 rw[ap5];have e:(BitVec.ofInt 32 4294967295).msb=true:=rfl;have a:0<=d/\d<4294967296:=O;rw[BitVec.msb_or,BitVec.msb_and,BitVec.msb_and,BitVec.msb_xor,BitVec.msb_xor,BitVec.msb_xor,e,Ru b,Ru f,Ru a];by_cases h:2147483648<=x<;>by_cases i:2147483648<=y<;>by_cases j:2147483648<=d<;>simp only[h,i,j,decide_true,decide_false,Bool.xor_true,Bool.xor_false,Hw,Bool.not_false,BN,Bool.false_and,Hv,Bool.and_false,Hx,Bool.or_false,BO,Bool.false_or,oC,iN,mK];all_goals first|rw[aK O];done|rw[g O];done
def aFw(x y c:Int)(h:bY x/\bY y/\0<=c/\c<=1):bh 218 [wI .u32 x,wI .u32 y,wI .u32 c] (tT [uE ((x-y-c)%4294967296),uE (if x<y+c then 1 else 0)]):=by
 refine vF func218 rfl [] [] ?_;obtain⟨b,a,d⟩:=h;rw[cg]at b a;have f:IntKind.u32.wrap (IntKind.u32.wrap (x-y)-c)=(x-y-c)%4294967296:=by rw[IntKind.wrap_u32,IntKind.wrap_u32];omega
 have j:IntKind.u32.bits=32:=rfl;have e:(if IntKind.u32.signed=true then-1 else IntKind.u32.max)=4294967295:=rfl;have i:(2:Int)^min (Int.toNat 31) 32=2147483648:=rfl;repeat' first|intro _|apply aP
 all_goals first|exact aZ|omega|rw[e];simp only[ap9,ap7,f];exact apW b a d rfl
def ZO:=vb (.int .u32) (.int .u32) (.int .u32) aFw
def ati(x y c:Int)(h:bY x/\bY y/\0<=c/\c<=1):cN prog 217 (bJ (bP [(0,aV.cells (U:=S) [.d (.sc (.int .u32 c))])])) ([uE x,uE y,.c (.ptr 0 0)].map SE.den) (bJ (bP [(0,aV.cells (U:=S) [.d (.sc (.int .u32 (if x<y+c then 1 else 0)))])])) (·∈[0]) (uT ((x-y-c)%4294967296)).den:=by
 refine vO func217 rfl ⟨[ZO],[]⟩ [] [0] ⟨[(5,uT ((x-y-c)%4294967296))],[(0,.cells [.d (.sc (.int .u32 (if x<y+c then 1 else 0)))])],1⟩ ?_;repeat' first|exact h|intro _|apply aP
 all_goals first|exact aZ|rfl
def at6:fh prog 217:=fH func217 af rfl
def agP(H:List (Nat×aV S))(args:List (SE S))(K:f_ S->Prop):Prop:=
 match H,args with
 |[(0,.cells [.d (.sc (.int .u32 c))])],[.c (.d (.sc (.int .u32 x))),.c (.d (.sc (.int .u32 y))),.c (.ptr 0 0)]=>(bY x/\bY y/\0<=c/\c<=1)/\K ⟨uT ((x-y-c)%4294967296),[(0,.cells [.d (.sc (.int .u32 (if x<y+c then 1 else 0)))])],[],[0]⟩
 |_,_=>False
def aAw:fk prog S where
 f:=217
 fX:=at6
 run:=agP
 ok H args K h:=by
  unfold agP at h;split at h
  ·rename_i c x y;obtain⟨e,d⟩:=h;refine⟨_,?_,λu a b=>?_,d⟩
   ·exact(ati x y c e).fK λu a=>by have:u<1:=a.1;simp;omega
   ·have:u<1:=a;simp at b;omega
  ·cases h
def lM(A B:ao):Nat->Int
 |0=>0
 |k+1=>if(A[k]?).getD 0<(B[k]?).getD 0+lM A B k then 1 else 0
def XV(A B:ao):lM A B 0=0:=rfl
def ID(A B:ao)(k:Nat):lM A B (k+1)=if(A[k]?).getD 0<(B[k]?).getD 0+lM A B k then 1 else 0:=rfl
def o9(A B:ao)(k:Nat):Int:=((A[k]?).getD 0-(B[k]?).getD 0-lM A B k)%4294967296
def oa(A B:ao):List Int:=(List.range A.length).map (o9 A B)
def lB(a b:ao):List Int:=if ij a b<0 then []else aR (oa (aR a) (aR b))
theorem N5(A B:ao):∀k,0<=lM A B k/\lM A B k<=1
 |0=>by rw[XV];omega
 |k+1=>by rw[ID];split<;>omega
def ao7(a:A[(k:Int).toNat]?=some x)(b:B[(k:Int).toNat]?=some y):(if x<y+lM A B k then 1 else 0)=lM A B (k+1):=by rw[ID,pa a,pa b]
def ao8(a:A[(k:Int).toNat]?=some x)(b:B.length<=k):(if x<0+lM A B k then 1 else 0)=lM A B (k+1):=by rw[ID,pa a,FX b]
def aEo(a:A[(k:Int).toNat]?=some x)(b:B[(k:Int).toNat]?=some y)(c:k<n):
 ((List.range k).map (o9 A B)++List.replicate (n-k) 0).set (k:Int).toNat ((x-y-lM A B k)%4294967296)=(List.range (k+1)).map (o9 A B)++List.replicate (n-(k+1)) 0:=by
 rw[bI];exact JM c (by rw[o9,pa a,pa b])
def aEp(a:A[(k:Int).toNat]?=some x)(b:B.length<=k)(c:k<n):
 ((List.range k).map (o9 A B)++List.replicate (n-k) 0).set (k:Int).toNat ((x-0-lM A B k)%4294967296)=(List.range (k+1)).map (o9 A B)++List.replicate (n-(k+1)) 0:=by
 rw[bI];exact JM c (by rw[o9,pa a,FX b])
def aEn(a:k=A.length):(List.range k).map (o9 A B)++List.replicate (A.length-k) 0=oa A B:=by subst a;rw[rT];simp[oa]
def aFz(a b A B:ao)(p:Sm a)(o:Sm b)(n:Dg A)(m:Dg B)(j:A.length<=1099511627776)(hlen:decide (ij (aR a) (aR b)<0)=false->B.length<=A.length)(h:aR a=A)(i:aR b=B)(l:∀k,0<=lM A B k/\lM A B k<=1):bh 172 [wL .u32 a,wL .u32 b] (tT [lE .u32 (if ij A B<0 then []else aR (oa A B)),bE (decide (0<=ij A B))]):=by
 refine vG func172 rfl ⟨[uB,Jg],[aAw]⟩ [(8,⟨Nat,λx=>⟨[(0,lT .u32 A),(1,lT .u32 B),(6,bQ 0),(7,.e (.c (.cr 217 [(0,0)]))),(8,.e (.c (.aW 1 (U:=S) W.u32 A.length))),(24,lT .u32 B),(25,iT B.length),(26,iT x)],[(0,.cells [.d (.sc (.int .u32 (lM A B x)))]),(1,.aU (U:=S) W.u32 ((List.range x).map (o9 A B)++List.replicate (A.length-x) 0))],2⟩,λx=>x<=B.length/\True,λx=>B.length-x⟩),(13,⟨Nat,λx=>⟨[(0,lT .u32 A),(6,bQ 0),(7,.e (.c (.cr 217 [(0,0)]))),(8,.e (.c (.aW 1 (U:=S) W.u32 A.length))),(11,iT x)],[(0,.cells [.d (.sc (.int .u32 (lM A B x)))]),(1,.aU (U:=S) W.u32 ((List.range x).map (o9 A B)++List.replicate (A.length-x) 0))],2⟩,λx=>B.length<=x/\x<=A.length/\True,λx=>A.length-x⟩)] ?_;repeat' first|intro _|apply aP|refine aX 0 (aP ?_ λ(x:Nat)(f:x<=B.length/\True)=>?_)|refine aX B.length (aP ?_ λ(x:Nat)(f:B.length<=x/\x<=A.length/\True)=>?_)|refine aX (x+1) ?_
 all_goals first|exact aZ|rfl|omega|rw[JL _ _ _ f.2.1];done|(have e:¬ij (aR a) (aR b)<0:=(by simpa using‹decide (ij (aR a) (aR b)<0)=false›);rw[h,i]at e;first|rw[aEn (Jv f.2.1 I),g e];done|rw[qP O];done)|have:=hlen I;simp only[be,bj]at*;omega|have:=hlen I;rw[JL _ _ _ O];simp only[be,bj]at*;omega|rw[i];done|rw[h];rfl|have e:=Jv f.1 I;rw[e];done|(have e:ij (aR a) (aR b)<0:=(by simpa using‹decide (ij (aR a) (aR b)<0)=true›);rw[h,i]at e;first|rw[aK e];done|rw[s_ O];done)|rw[h];simp only[zI];omega|have:=l x;omega|exact Dg.Ap n I|exact Dg.Ap m I|exact C7|exact ao7 I I|exact ao8 I f.1|exact aEo I I (by simp only[be,bj]at*;omega)|exact aEp I f.1 (by simp only[be,bj]at*;omega)
theorem aiJ(l:ao):∀k,jX l k=0\/∃j,jX l k=j+1/\l[j]? ≠some 0
 |0=>Or.inl rfl
 |k+1=>by
  rw[jX];by_cases h:l[k]?=some 0
  ·rw[aK h];exact aiJ l k
  ·rw[g h];exact Or.inr ⟨k,rfl,h⟩
def aiW(l:ao):aR (aR l)=aR l:=by
 have a:=Ml l l.length;have hlen:(aR l).length=jX l l.length:=by simp[aR];omega
 rcases aiJ l l.length with h|⟨j,h,b⟩
 ·have:aR l=[]:=by rw[aR,h];rfl
  rw[this];rfl
 ·have e:jX (aR l) (aR l).length=j+1:=by rw[hlen,h,jX,g];rw[aR,h,rM,aK O];exact b
  have:aR (aR l)=(aR l).take (j+1):=by rw[<-e];rfl
  rw[this,eQ O]
def YS(a b:ao):ij (aR a) (aR b)=ij a b:=by unfold ij;rw[aiW,aiW]
def YR(h:¬ij A B<0):(aR B).length<=(aR A).length:=by
 unfold ij at h;by_cases c:(aR A).length<(aR B).length
 ·rw[aK c]at h;omega
 ·omega
def aFA(a b:ao)(h:Sm a/\Sm b/\Dg a/\Dg b):bh 172 [wL .u32 a,wL .u32 b] (tT [lE .u32 (lB a b),bE (decide (0<=ij a b))]):=by
 obtain⟨f,i,d,c⟩:=h;have:=aFz a b (aR a) (aR b) f i d.eW c.eW (Mr f) (λe=>?_) rfl rfl (N5 _ _)
 ·rw[YS]at this;exact this
 ·rw[YS]at e;exact YR (an e)
def ZP:=eO (.ls W.u32) (.ls W.u32) aFA
@[irreducible] def ji(x y:bk):bk:=
  if x.neg=y.neg then iL x.neg (ig x.aF y.aF)
  else if 0<=ij x.aF y.aF then iL x.neg (lB x.aF y.aF)
  else iL y.neg (lB y.aF x.aF)
def W1{y:bk}(h:(c.neg==y.neg)=true):iL c.neg (ig c.aF y.aF)=ji c y:=by unfold ji;rw[aK (an h)]
def W2{y:bk}(h:(c.neg==y.neg)=false)(a:decide (0<=ij c.aF y.aF)=true):iL c.neg (lB c.aF y.aF)=ji c y:=by unfold ji;rw[g (an h),aK (an a)]
def W3{y:bk}(h:(c.neg==y.neg)=false)(a:decide (0<=ij c.aF y.aF)=false):iL y.neg (lB y.aF c.aF)=ji c y:=by unfold ji;rw[g (an h),g (an a)]
def anl(h:(c.neg==X.neg)=true):(iL c.neg (ig c.aF X.aF)).neg=(ji c X).neg:=by rw[W1 h]
def ank(h:(c.neg==X.neg)=true):(iL c.neg (ig c.aF X.aF)).aF=(ji c X).aF:=by rw[W1 h]
def ann(h:(c.neg==X.neg)=false)(a:decide (0<=ij c.aF X.aF)=true):(iL c.neg (lB c.aF X.aF)).neg=(ji c X).neg:=by rw[W2 h a]
def anm(h:(c.neg==X.neg)=false)(a:decide (0<=ij c.aF X.aF)=true):(iL c.neg (lB c.aF X.aF)).aF=(ji c X).aF:=by rw[W2 h a]
def anp(h:(c.neg==X.neg)=false)(a:decide (0<=ij c.aF X.aF)=false):(iL X.neg (lB X.aF c.aF)).neg=(ji c X).neg:=by rw[W3 h a]
def ano(h:(c.neg==X.neg)=false)(a:decide (0<=ij c.aF X.aF)=false):(iL X.neg (lB X.aF c.aF)).aF=(ji c X).aF:=by rw[W3 h a]
def anq(x y:bk)(h:Sm x.aF/\Sm y.aF/\Dg x.aF/\Dg y.aF):bh 124 [wE .cR x,wE .cR y] (eT .cR (ji x y)):=by
 refine vF func124 rfl [Zp,ZP,Jg,OY] [] ?_;obtain⟨i,f,(e:∀d∈x.aF,bY d),(c:∀d∈y.aF,bY d)⟩:=h;repeat' first|intro _|apply aP
 all_goals first|exact aZ|((with_reducible show(_&&_)=true);kernel_rfl)| (with_reducible first|exact i|exact f)|rename_i a;with_reducible exact e _ a|rename_i a;with_reducible exact c _ a|rename_i a;with_reducible exact anl a|rename_i a;with_reducible exact ank a|(rename_i a b;with_reducible first|exact ann a b|exact anm a b|exact anp a b|exact ano a b)
def Je:=eO (.el W.cR) (.el W.cR) anq
def jf(q:ba):Bool:=decide (q.e1<0\/q.e2<0\/q.e3<0\/q.e4<0)
def abO(q:ba)(x:Nat):=(0<x->0<=q.e1)/\(1<x->0<=q.e2)/\(2<x->0<=q.e3)/\(3<x->0<=q.e4)
def azm(q:ba):bh 220 [wE .mono q] (bT (jf q)):=by
 refine vF func220 rfl [] [(2,⟨Nat,λx=>⟨[(5,.e (.agg [cw q.e1,cw q.e2,cw q.e3,cw q.e4])),(6,iT x)],[],0⟩,λx=>x<=4/\abO q x,λx=>4-x⟩)] ?_;unfold abO;repeat' first|intro _|apply aP|refine aX 0 (aP ?_ λ(x:Nat) (a:x<=4/\((0<x->0<=q.e1)/\(1<x->0<=q.e2)/\(2<x->0<=q.e3)/\(3<x->0<=q.e4)))=>?_)|refine aX (x+1) ?_
 all_goals first|exact aZ|rfl|omega|simp only[be,bj]at*;omega|(symm;unfold jf;simp only[be,bj]at*;omega)
def asr:=dR (.el W.mono) λq (_:True)=>azm q
@[irreducible] def wj(x y:bk):Bool:=decide (x.neg=y.neg/\x.aF=y.aF)
mutual
def iq:J->J->Bool
 |.mk l n a h,.mk f e i b=>decide (l=f)&&wj ⟨n,a⟩ ⟨e,i⟩&&jr h b
def jr:List J->List J->Bool
 |[],[]=>true
 |p::d,q::c=>iq p q&&jr d c
 |[],_::_=>false
 |_::_,[]=>false
end
def G2(p q:J):iq p q=(decide (p.aJ=q.aJ)&&wj ⟨p.neg,p.aF⟩ ⟨q.neg,q.aF⟩&&jr p.aG q.aG):=by cases p;cases q;rw[iq];rfl
theorem ahr:∀{b a:List J},jr b a=true->b.length=a.length
 |[],[],_=>rfl
 |p::b,q::a,h=>by rw[jr,dB]at h;rw[fD,fD,ahr h.2]
 |[],_::_,h=>by rw[jr]at h;cases h
 |_::_,[],h=>by rw[jr]at h;cases h
theorem ahp:∀{b a:List J}{i:Nat}{p q:J},jr b a=true->b[i]?=some p->a[i]?=some q->iq p q=true
 |[],_,_,_,_,_,h,_=>by simp at h
 |_::_,[],_,_,_,h,_,_=>by rw[jr]at h;cases h
 |p::b,q::a,0,_,_,h,d,c=>by rw[jr,dB]at h;simp at d c;subst d;subst c;exact h.1
 |p::b,q::a,i+1,_,_,h,d,c=>by rw[jr,dB]at h;exact ahp h.2 (an d) (an c)
theorem ahs:∀{b a:List J}{i:Nat}{p q:J},jr (b.take i) (a.take i)=true->b[i]?=some p->a[i]?=some q->iq p q=true->jr (b.take (i+1)) (a.take (i+1))=true
 |[],_,_,_,_,_,h,_,_=>by simp at h
 |_::_,[],_,_,_,_,_,h,_=>by simp at h
 |p::b,q::a,0,_,_,_,d,c,e=>by simp at d c;subst d;subst c;rw[pT,pT,jr,e,iC,iC,jr];rfl
 |p::b,q::a,i+1,_,_,h,d,c,e=>by rw[pT,pT,jr,dB]at h;rw[pT,pT,jr,dB];exact⟨h.1,ahs h.2 (an d) (an c) e⟩
def bm(p:J):J.mk p.aJ p.neg p.aF p.aG=p:=by cases p;rfl
def aDT{p q:J}(h:(p.aJ !=q.aJ)=true):false=iq p q:=by rw[G2,s_ (an h)];rfl
def aDU{p q:J}(h:((p.aG.length:Int) !=(q.aG.length:Int))=true):false=iq p q:=by
 cases e:iq p q with
 |false=>rfl
 |true=>rw[G2,dB]at e;rw[ahr e.2]at h;simp at h
def aDV{p q x y:J}(a:p.aG[(k:Int).toNat]?=some x)(b:q.aG[(k:Int).toNat]?=some y)(h:(!iq (.mk x.aJ x.neg x.aF x.aG) (.mk y.aJ y.neg y.aF y.aG))=true):false=iq p q:=by
 rw[bm,bm]at h;cases e:iq p q with
 |false=>rfl
 |true=>rw[G2,dB]at e;rw[ahp e.2 a b]at h;cases h
def aDW{p q x y:J}(c:jr (p.aG.take k) (q.aG.take k)=true)(a:p.aG[(k:Int).toNat]?=some x)(b:q.aG[(k:Int).toNat]?=some y)(h:(!iq (.mk x.aJ x.neg x.aF x.aG) (.mk y.aJ y.neg y.aF y.aG))=false):jr (p.aG.take (k+1)) (q.aG.take (k+1))=true:=by rw[bm,bm]at h;rw[bI]at a b;exact ahs c a b (an h)
def aDS{p q:J}(b:k<=p.aG.length/\p.aJ=q.aJ/\p.aG.length=q.aG.length/\wj ⟨p.neg,p.aF⟩ ⟨q.neg,q.aF⟩=true/\jr (p.aG.take k) (q.aG.take k)=true)(h:decide ((k:Int)<p.aG.length)=false):true=iq p q:=by
 obtain⟨j,c,d,f,a⟩:=b;have e:k=p.aG.length:=by simp only[bj]at h;omega
 subst e;rw[i_,d,i_]at a;rw[G2,f,a,qP c];rfl
mutual
def k_:F->F->Bool
 |.mk k r p h,.mk f b e a=>decide (k=f)&&decide (r=b)&&iq p e&&hJ h a
def hJ:List F->List F->Bool
 |[],[]=>true
 |p::d,q::c=>k_ p q&&hJ d c
 |[],_::_=>false
 |_::_,[]=>false
end
def LP(p q:F):k_ p q=(decide (p.aM=q.aM)&&decide (p.bW=q.bW)&&iq p.aH q.aH&&hJ p.aO q.aO):=by cases p;cases q;rw[k_];rfl
theorem ahn:∀{b a:List F},hJ b a=true->b.length=a.length
 |[],[],_=>rfl
 |p::b,q::a,h=>by rw[hJ,dB]at h;rw[fD,fD,ahn h.2]
 |[],_::_,h=>by rw[hJ]at h;cases h
 |_::_,[],h=>by rw[hJ]at h;cases h
theorem ahl:∀{b a:List F}{i:Nat}{p q:F},hJ b a=true->b[i]?=some p->a[i]?=some q->k_ p q=true
 |[],_,_,_,_,_,h,_=>by simp at h
 |_::_,[],_,_,_,h,_,_=>by rw[hJ]at h;cases h
 |p::b,q::a,0,_,_,h,d,c=>by rw[hJ,dB]at h;simp at d c;subst d;subst c;exact h.1
 |p::b,q::a,i+1,_,_,h,d,c=>by rw[hJ,dB]at h;exact ahl h.2 (an d) (an c)
theorem aho:∀{b a:List F}{i:Nat}{p q:F},hJ (b.take i) (a.take i)=true->b[i]?=some p->a[i]?=some q->k_ p q=true->hJ (b.take (i+1)) (a.take (i+1))=true
 |[],_,_,_,_,_,h,_,_=>by simp at h
 |_::_,[],_,_,_,_,_,h,_=>by simp at h
 |p::b,q::a,0,_,_,_,d,c,e=>by simp at d c;subst d;subst c;rw[pT,pT,hJ,e,iC,iC,hJ];rfl
 |p::b,q::a,i+1,_,_,h,d,c,e=>by rw[pT,pT,hJ,dB]at h;rw[pT,pT,hJ,dB];exact⟨h.1,aho h.2 (an d) (an c) e⟩
def CR(p:F):F.mk p.aM p.bW (J.mk p.aH.aJ p.aH.neg p.aH.aF p.aH.aG) p.aO=p:=by rw[bm];cases p;rfl
def aDQ{p q:F}(h:(p.aM !=q.aM)=true):false=k_ p q:=by rw[LP,s_ (an h)];rfl
def aDP{p q:F}(h:(p.bW !=q.bW)=true):false=k_ p q:=by rw[LP,s_ (p:=p.bW=q.bW) (an h),Bool.and_false];rfl
def anv(A B:ao):(qL A B).length=A.length+1:=by simp[qL]
def anu(b:Dg A)(c:Dg B):Dg (qL A B):=by
 intro d a;simp only[qL,dd,cj,ol,dZ]at a;rcases a with⟨k,_,rfl⟩|rfl
 ·unfold o5;rw[cg];omega
 ·have:=IL b c A.length;rw[cg];omega
def aFx(A B:ao):Dg (oa A B):=by intro d a;simp only[oa,cj,ol]at a;obtain⟨k,_,rfl⟩:=a;unfold o9;rw[cg];omega
def anA(a b:ao):(ig a b).length<=max a.length b.length+1:=by
 have c:=mw (qL (qf (aR a) (aR b)) (u6 (aR a) (aR b)));rw[anv]at c;have f:=mw a;have e:=mw b;unfold ig;have d:(qf (aR a) (aR b)).length<=max a.length b.length:=by unfold qf;split<;>omega
 omega
def anz(c:Dg A)(d:Dg B):Dg (ig A B):=(anu (QJ c.eW d.eW) (Tj c.eW d.eW)).eW
def aiq(a b:ao):(lB a b).length<=a.length:=by
 unfold lB;split
 ·simp
 ·have c:=mw (oa (aR a) (aR b));have d:=mw a;simp only[oa,dS,oh]at c;exact eZ c d
def aip(a b:ao):Dg (lB a b):=by
 unfold lB;split
 ·intro d c;simp at c
 ·exact(aFx _ _).eW
def ans(x y:bk):(ji x y).aF.length<=max x.aF.length y.aF.length+1:=by
 have a:=anA x.aF y.aF;have c:=aiq x.aF y.aF;have b:=aiq y.aF x.aF;unfold ji iL;split
 ·exact a
 ·split<;>simp only<;>omega
def anr{x:bk}(a:Dg x.aF)(b:Dg c.aF):Dg (ji x c).aF:=by
 unfold ji iL;split
 ·exact anz a b
 ·split
  ·exact aip _ _
  ·exact aip _ _
def ad_(x:bk):(jm x).aF.length<=x.aF.length:=mw _
def ad9{x:bk}(a:Dg x.aF):Dg (jm x).aF:=a.eW
def aL.mono(t:aL):ba:=⟨t.e1,t.e2,t.e3,t.e4⟩
def aL.cZ(t:aL):bk:=⟨t.neg,t.aF⟩
def xA(c:bk)(q:ba):aL:=⟨c.neg,c.aF,q.e1,q.e2,q.e3,q.e4⟩
def ql(p q:ba):Bool:=p.e1==q.e1&&(p.e2==q.e2&&(p.e3==q.e3&&(p.e4==q.e4&&true)))
def DA:ql p q=true↔p=q:=by cases p;cases q;simp[ql]
@[reducible] def mi(q:ba):Value:=.agg [.int .i64 q.e1,.int .i64 q.e2,.int .i64 q.e3,.int .i64 q.e4].toArray
def awU(p q:ba):nE (mi p) (mi q)=ql p q:=rfl
def gI:List aL->Nat->List (Value×Value)
 |[],_=>[]
 |t::r,i=>(mi t.mono,.int .i64 i)::gI r (i+1)
def Gi(i:Nat):gI [] i=[]:=rfl
def vT(t:aL)(r:List aL)(i:Nat):gI (t::r) i=(mi t.mono,.int .i64 i)::gI r (i+1):=rfl
theorem adm:∀(l:List aL)(i:Nat),pd (.pY 4 .i64) (gI l i)=true
 |[],i=>by rw[Gi];rfl
 |t::r,i=>by have:=adm r (i+1);rw[vT];unfold pd at this⊢;rw[wN,this];rfl
theorem adl:∀(l:List aL)(i:Nat),(gI l i).all (λp=>nw .i64 p.2)=true
 |[],i=>by rw[Gi];rfl
 |t::r,i=>by rw[vT,wN,adl r (i+1)];rfl
def mh(q:ba):List aL->Option Nat
 |[]=>none
 |t::r=>match ql q t.mono with|true=>some 0|false=>(mh q r).map (·+1)
theorem QU(q:ba):∀(l:List aL)(i:Nat),gX (mi q) (gI l i) i=(mh q l).map λn=>(i+n,.int .i64 ((i+n:Nat):Int))
 |[],i=>by rw[Gi];rfl
 |t::r,i=>by
  have a:=QU q r (i+1);rw[vT];simp only[gX,awU,mh];cases ql q t.mono with
  |true=>rfl
  |false=>
   simp only;rw[a];cases mh q r with
   |none=>rfl
   |some n=>simp only[dH];rw[show i+1+n=i+(n+1)by omega]
def Ky{l:List aL}{i:Nat}(h:gX (mi q) (gI l 0) 0=some (i,.int .i64 v)):v=i/\mh q l=some i:=by
 rw[QU,gM]at h;obtain⟨n,c,b⟩:=h;injection b with b a
 injection a with _ a
 have:n=i:=O;subst this;exact⟨by rw[<-a,oo],c⟩
def adq{l:List aL}(h:gX (mi q) (gI l 0) 0=none):mh q l=none:=by rw[QU]at h;simpa using h
theorem Qd:∀{l:List aL}{i:Nat},mh q l=some i->i<l.length
 |[],_,h=>by cases h
 |t::r,i,h=>by
  simp only[mh]at h;split at h
  ·injection h with h;subst h;simp
  ·rw[gM]at h;obtain⟨n,a,rfl⟩:=h;have:=Qd a;simp;omega
theorem adn:∀(l:List aL)(i j:Nat)(t b:aL),l[i]?=some t->b.mono=t.mono->gI (l.set i b) j=gI l j
 |[],i,j,t,b,h,_=>by simp at h
 |a::r,0,j,t,b,h,c=>by simp only[jH,cY]at h;subst h;rw[vm,vT,vT,c]
 |a::r,i+1,j,t,b,h,c=>by rw[HV,vT,vT,adn r i (j+1) t b (an h) c]
theorem adk:∀(l:List aL)(j:Nat)(t:aL),gI (l++[t]) j=gI l j++[(mi t.mono,.int .i64 ((j+l.length:Nat):Int))]
 |[],j,t=>by rw[gi,vT,Gi,Gi];rfl
 |a::r,j,t=>by rw[ei,vT,vT,adk r (j+1) t,ei];congr 4;simp;omega
@[irreducible] def gW(l:List aL)(q:ba)(c:bk):List aL:=
  if jf q then l else
  match mh q l with
  |some i=>(match l[i]? with|some t=>l.set i (xA (ji t.cZ c) t.mono)|none=>l)
  |none=>l++[xA (jm c) q]
def FW{l:List aL}(h:jf q=true):gW l q c=l:=by unfold gW;rw[aK h]
def JT{l:List aL}(h:jf q=false){t:aL}(a:mh q l=some k)(b:l[k]?=some t):gW l q c=l.set k (xA (ji t.cZ c) t.mono):=by unfold gW;rw[g (by simp[h])];simp only[a,b]
def C4{l:List aL}(h:jf q=false)(a:mh q l=none):gW l q c=l++[xA (jm c) q]:=by unfold gW;rw[g (by simp[h])];simp only[a]
def ayk{l:List aL}(a:jf q=false)(h:gX (mi q) (gI l 0) 0=none):tG (mi q) (.int .i64 (l.length:Int)) (gI l 0)=gI (gW l q c) 0:=by have b:=adq h;rw[C4 a b,adk];simp only[tG,h];congr 4;simp
def LB(n:Nat)(l:List aL):=∀t∈l,t.aF.length<=n/\Dg t.aF
def avL(l:List aL)(q:ba)(c:bk):(gW l q c).length<=l.length+1:=by
 unfold gW;split
 ·omega
 ·split
  ·split
   ·simp
   ·omega
  ·simp
def avJ{l:List aL}(h:LB n l)(e:c.aF.length<=n/\Dg c.aF):LB (n+1) (gW l q c):=by
 have b:LB (n+1) l:=λt d=>⟨by have:=(h t d).1;omega,(h t d).2⟩
 unfold gW;split
 ·exact b
 ·split
  ·split
   ·rename_i i _ t d;intro u a;rcases B4 a with a|rfl
    ·exact b u a
    ·have f:=h t (bF d);have j:=ans t.cZ c;have k:t.cZ.aF.length=t.aF.length:=rfl;exact⟨by show(ji t.cZ c).aF.length<=_;have:=e.1;have:=f.1;omega,anr (x:=t.cZ) f.2 e.2⟩
   ·exact b
  ·intro u a;rw[dd,dZ]at a;rcases a with a|rfl
   ·exact b u a
   ·exact⟨by show(jm c).aF.length<=_;have:=ad_ c;omega,ad9 e.2⟩
def atU:fh prog 174:=fH func174 af rfl
def atV:fh prog 175:=fH func175 af rfl
def gH(a b c:Nat)(l:List aL):List (Nat×aV S):=[(a,.cells [.mp b,.aW c W.bt l.length]),(b,.lr (gI l 0)),(c,.aU W.bt l)]
def azo:cN prog 174 (bJ (bP (U:=S) [])) (([]:List (SE S)).map SE.den) (bJ (bP (gH 0 1 2 []))) (·∈[]) (ST.e (U:=S) (.c (.ptr 0 0))).den:=by
 refine vO func174 rfl ⟨[],[]⟩ [] [] ⟨[(0,bQ 0)],gH 0 1 2 [],3⟩ ?_;repeat' first|intro _|apply aP
 all_goals first|exact aZ|rfl
def avT{l:List aL}(h:jf ⟨q.e1,q.e2,q.e3,q.e4⟩=true):l.length=(gW l q c).length:=by rw[FW h]
def avU{l:List aL}(h:jf ⟨q.e1,q.e2,q.e3,q.e4⟩=true):gI l 0=gI (gW l q c) 0:=by rw[FW h]
def avV{l:List aL}(h:jf ⟨q.e1,q.e2,q.e3,q.e4⟩=true):l=gW l q c:=by rw[FW h]
def awT(q:ba):ib Kz.kf (mi q)=true:=rfl
def axZ(l:List aL):pd Kz.kf (gI l 0)=true:=adm l 0
def abL{l:List aL}(h:gX (mi q) (gI l 0) 0=some (k,.int .i64 v)):0<=v:=by have:=(Ky h).1;omega
def abM{l:List aL}(h:gX (mi q) (gI l 0) 0=some (k,.int .i64 v)):v<l.length:=by have:=Ky h;have:=Qd this.2;omega
def abN{l:List aL}(h:gX (mi q) (gI l 0) 0=some (k,.int .i64 v)):v.toNat<l.length:=by have:=Ky h;have:=Qd this.2;omega
def P_{l:List aL}(d:jf ⟨q.e1,q.e2,q.e3,q.e4⟩=false){i:Nat}(h:gX (mi q) (gI l 0) 0=some (i,.int .i64 v)){x y:aL}(b:l[v.toNat]?=some x)(a:l[v.toNat]?=some y):
 l.set v.toNat ⟨(ji ⟨x.neg,x.aF⟩ ⟨c.neg,c.aF⟩).neg,(ji ⟨x.neg,x.aF⟩ ⟨c.neg,c.aF⟩).aF,y.e1,y.e2,y.e3,y.e4⟩=gW l q c:=by
 rw[b]at a;injection a with a;subst a
 obtain⟨j,f⟩:=Ky h;have e:v.toNat=i:=O;rw[e]at b⊢;rw[JT d f b];rfl
def avY{l:List aL}(b:jf ⟨q.e1,q.e2,q.e3,q.e4⟩=false)(h:gX (mi q) (gI l 0) 0=some (k,.int .i64 v)){x:aL}(a:l[v.toNat]?=some x):l.length=(gW l q c).length:=by rw[<-P_ b h a a,oV]
def avZ{l:List aL}(b:jf ⟨q.e1,q.e2,q.e3,q.e4⟩=false)(h:gX (mi q) (gI l 0) 0=some (k,.int .i64 v)){x:aL}(a:l[v.toNat]?=some x):gI l 0=gI (gW l q c) 0:=by rw[<-P_ b h a a];refine(adn l _ 0 x _ a ?_).symm;rfl
def abK{l:List aL}(a:jf ⟨q.e1,q.e2,q.e3,q.e4⟩=false)(h:gX (mi q) (gI l 0) 0=none):
 l++[⟨(jm ⟨c.neg,c.aF⟩).neg,(jm ⟨c.neg,c.aF⟩).aF,q.e1,q.e2,q.e3,q.e4⟩]=gW l q c:=by rw[C4 a (adq h)];rfl
def avW{l:List aL}(a:jf ⟨q.e1,q.e2,q.e3,q.e4⟩=false)(h:gX (mi q) (gI l 0) 0=none)(x:aL):l.length+[x].length=(gW l q c).length:=by rw[<-abK a h];simp
def avX{l:List aL}(a:jf ⟨q.e1,q.e2,q.e3,q.e4⟩=false)(h:gX (mi q) (gI l 0) 0=none):tG (mi q) (.int .i64 (l.length:Int)) (gI l 0)=gI (gW l q c) 0:=ayk a h
def GB(l:List aL)(c:bk)(n:Nat):=LB n l/\c.aF.length<=n/\Dg c.aF/\n<=1099511627776/\l.length<=1000000000
def GB.x1{l:List aL}(h:GB l c n){x:aL}(a:l[k]?=some x):Sm (bk.mk x.neg x.aF).aF:=by obtain⟨b,_,_,d,_⟩:=h;have:=(b x (bF a)).1;show x.aF.length<=_;omega
def GB.x2{l:List aL}(h:GB l c n){x:aL}(a:l[k]?=some x)(b:d∈(bk.mk x.neg x.aF).aF):bY d:=(h.1 x (bF a)).2 d b
def GB.c1{l:List aL}(h:GB l c n):Sm (bk.mk c.neg c.aF).aF:=by obtain⟨_,a,_,b,_⟩:=h;show c.aF.length<=_;omega
def GB.c2{l:List aL}(h:GB l c n)(a:d∈(bk.mk c.neg c.aF).aF):bY d:=h.2.2.1 d a
def GB.l1{l:List aL}(h:GB l c n)(x:aL):(l.length+[x].length)*xY.dT<=140737488355328:=by have:=h.2.2.2.2;have e:xY.dT=64:=rfl;have a:[x].length=1:=rfl;rw[e,a];omega
def GB.l2{l:List aL}(h:GB l c n)(x:aL):l.length+[x].length<=140737488355328:=by have:=h.2.2.2.2;have a:[x].length=1:=rfl;rw[a];omega
def avK(l:List aL)(q:ba)(c:bk)(n:Nat)(h:GB l c n):cN prog 175 (bJ (bP (gH 0 1 2 l))) ([.c (.ptr 0 0),wE .mono q,wE .cR c].map SE.den) (bJ (bP (gH 0 1 3 (gW l q c)))) (·∈[0,1]) (ST.cn (U:=S) []).den:=by
 refine vO func175 rfl ⟨[asr,Je,CH],[]⟩ [] [0,1] ⟨[],gH 0 1 3 (gW l q c),4⟩ ?_;repeat' first|intro _|apply aP
 all_goals first|exact aZ|((with_reducible show(_&&_)=true);kernel_rfl)| (with_reducible first|rfl|exact axZ l|exact adl l 0|exact awT q|exact h.c1|exact h.l1 _|exact h.l2 _)|(rename_i b;with_reducible first|exact avT b|exact avU b|exact avV b)|(rename_i b;with_reducible first|exact abL b|exact abM b|exact abN b|exact h.x1 b|exact h.c2 b)|(rename_i a x f;with_reducible first|exact abL a|exact abM a|exact abN a)|rename_i f d b;with_reducible exact h.x2 f b|(rename_i e i v a x f y j;with_reducible first|exact avY e a f|exact avZ e a f|exact P_ e a f j)|(rename_i e a;with_reducible first|exact avW e a _|exact avX e a|exact abK e a)
def agZ(H:List (Nat×aV S))(args:List (SE S))(K:f_ S->Prop):Prop:=
 match H,args with
 |[],[]=>K ⟨.e (.c (.ptr 0 0)),gH 0 1 2 [],[],[]⟩
 |_,_=>False
def Rp:fk prog S where
 f:=174
 fX:=atU
 run:=agZ
 ok H args K h:=by
  unfold agZ at h;split at h
  ·refine⟨_,?_,λu a b=>?_,h⟩
   ·exact azo.fK λu a=>by simp at a
   ·simp at a
  ·cases h
@[irreducible] def D_(l:List aL)(c:bk):Prop:=∃n,GB l c n
def GB.e{l:List aL}(h:GB l c n):D_ l c:=by unfold D_;exact⟨n,h⟩
def agU(H:List (Nat×aV S))(args:List (SE S))(K:f_ S->Prop):Prop:=
 match H,args with
 |[(0,.cells [.mp 1,.aW 2 W.bt m]),(1,.lr e),(2,.aU W.bt l)],[.c (.ptr 0 0),.agg [.d (.sc (.int .i64 j)),.d (.sc (.int .i64 i)),.d (.sc (.int .i64 h)),.d (.sc (.int .i64 f))],.agg [.d (.b8 a),.d (.bf W.u32 b)]]=>m=l.length/\e=gI l 0/\D_ l ⟨a,b⟩/\K ⟨.cn [],gH 0 1 3 (gW l ⟨j,i,h,f⟩ ⟨a,b⟩),[2],[0,1,2]⟩
 |_,_=>False
def Ro:fk prog S where
 f:=175
 fX:=atV
 run:=agU
 ok H args K h:=by
  unfold agU at h;split at h
  ·obtain⟨rfl,rfl,b,i⟩:=h;unfold D_ at b;obtain⟨n,b⟩:=b;refine⟨_,?_,λu a d=>?_,i⟩
   ·rename_i l o m k j c p;exact(avK l ⟨o,m,k,j⟩ ⟨c,p⟩ n b).fK λu a=>by have q:u<3:=a.1;have e:=a.2;simp at e⊢;omega
   ·have:u<3:=a;simp at d;omega
  ·cases h
def gj(x y:Int):Int:=if x<y then-1 else if y<x then 1 else 0
@[irreducible] def o0(p q:ba):Int:=
  if gj p.e4 q.e4≠0 then gj p.e4 q.e4 else if gj p.e3 q.e3≠0 then gj p.e3 q.e3 else if gj p.e2 q.e2≠0 then gj p.e2 q.e2 else gj p.e1 q.e1
def aq0(h:decide (x<y)=true):-1=gj x y:=by unfold gj;rw[aK (an h)]
def aq1(h:decide (x<y)=false)(a:decide (y<x)=true):1=gj x y:=by unfold gj;rw[g (an h),aK (an a)]
def aq2(h:decide (x<y)=false)(a:decide (y<x)=false):0=gj x y:=by unfold gj;rw[g (an h),g (an a)]
def adR(h:(x !=x)=true):False:=by simp at h
@[irreducible] def CG(p q:ba)(i:Int):=-1<=i/\i<=3/\(i<3->gj p.e4 q.e4=0)/\(i<2->gj p.e3 q.e3=0)/\(i<1->gj p.e2 q.e2=0)/\(i<0->gj p.e1 q.e1=0)
def ajX(p q:ba):CG p q 3:=by unfold CG;omega
def CG.lt(h:CG p q x/\True):x<((4:Nat):Int):=by have:=h.1;unfold CG at this;omega
def aq9(a:CG p q x/\True)(e:x=((3:Nat):Int))(h:(gj p.e4 q.e4 !=0)=true):gj p.e4 q.e4=o0 p q:=by have a:=a.1;have h:gj p.e4 q.e4≠0:=an h;unfold CG at a;unfold o0;obtain⟨b,c,d,g3,f,i⟩:=a;rw[aK h]
def aj1(a:CG p q x/\True)(e:x=((3:Nat):Int))(h:(gj p.e4 q.e4 !=0)=false):CG p q (x-1):=by have a:=a.1;have h:gj p.e4 q.e4=0:=an h;unfold CG at*;omega
def aq8(a:CG p q x/\True)(e:x=((2:Nat):Int))(h:(gj p.e3 q.e3 !=0)=true):gj p.e3 q.e3=o0 p q:=by have a:=a.1;have h:gj p.e3 q.e3≠0:=an h;unfold CG at a;unfold o0;obtain⟨c,d,b,g3,f,i⟩:=a;rw[g (by have:=b O;omega),aK h]
def aj0(a:CG p q x/\True)(e:x=((2:Nat):Int))(h:(gj p.e3 q.e3 !=0)=false):CG p q (x-1):=by have a:=a.1;have h:gj p.e3 q.e3=0:=an h;unfold CG at*;omega
def aq7(a:CG p q x/\True)(e:x=((1:Nat):Int))(h:(gj p.e2 q.e2 !=0)=true):gj p.e2 q.e2=o0 p q:=by have a:=a.1;have h:gj p.e2 q.e2≠0:=an h;unfold CG at a;unfold o0;obtain⟨c,d,b,g3,f,i⟩:=a;rw[g (by have:=b O;omega),g (by have:=g3 O;omega),aK h]
def ajZ(a:CG p q x/\True)(e:x=((1:Nat):Int))(h:(gj p.e2 q.e2 !=0)=false):CG p q (x-1):=by have a:=a.1;have h:gj p.e2 q.e2=0:=an h;unfold CG at*;omega
def aq6(a:CG p q x/\True)(e:x=((0:Nat):Int))(h:(gj p.e1 q.e1 !=0)=true):gj p.e1 q.e1=o0 p q:=by have a:=a.1;have h:gj p.e1 q.e1≠0:=an h;unfold CG at a;unfold o0;obtain⟨d,f,b,g3,c,i⟩:=a;rw[g (by have:=b O;omega),g (by have:=g3 O;omega),g (by have:=c O;omega)]
def ajY(a:CG p q x/\True)(e:x=((0:Nat):Int))(h:(gj p.e1 q.e1 !=0)=false):CG p q (x-1):=by have a:=a.1;have h:gj p.e1 q.e1=0:=an h;unfold CG at*;omega
def aq5(a:CG p q x/\True)(b:decide (0<=x)=false):0=o0 p q:=by have a:=a.1;simp only[bj]at b;unfold CG at a;obtain⟨f,h,c,g3,d,e⟩:=a;unfold o0;rw[g (by have:=c O;omega),g (by have:=g3 O;omega),g (by have:=d O;omega)];exact(e O).symm
def awh(x:Int):bh 293 [wI .i64 x] (bT (x !=x)):=by
 refine vF func293 rfl [] [] ?_;repeat' first|intro _|apply aP
 all_goals first|exact aZ|rfl
def asf:=dR (.int .i64) λx (_:True)=>awh x
def aq3(x y:Int):bh 270 [wI .i64 x,wI .i64 y] (iT (gj x y)):=by
 refine vF func270 rfl [asf] [] ?_;repeat' first|intro _|apply aP
 all_goals first|exact aZ|exfalso;rename_i h;exact adR h|exfalso;rename_i h _;exact adR h|rename_i h;exact aq0 h|(rename_i h a;first|exact aq1 h a|exact aq2 h a)
def ar1:=eO (.int .i64) (.int .i64) λx y (_:True)=>aq3 x y
def aq_(p q:ba):bh 223 [wE .mono p,wE .mono q] (iT (o0 p q)):=by
 refine vF func223 rfl [ar1] [(2,⟨Int,λx=>⟨[(2,bQ 0),(3,bQ 1),(5,iT x)],[(0,.cells [cw p.e1,cw p.e2,cw p.e3,cw p.e4]),(1,.cells [cw q.e1,cw q.e2,cw q.e3,cw q.e4])],2⟩,λx=>CG p q x/\True,λx=>(x+1).toNat⟩)] ?_;repeat' first|intro _|apply aP|refine aX 3 (aP ?_ λ(x:Int)(a:CG p q x/\True)=>?_)|refine aX (x-1) ?_
 all_goals first|exact aZ|((with_reducible show(_&&_)=true);kernel_rfl)|rfl|omega| (with_reducible first|exact ajX p q|exact CG.lt a)|rename_i h;with_reducible exact aq5 a h|simp only[be,bj]at*;omega|(rename_i h;first| (with_reducible first|exact aq9 a ‹x=((3:Nat):Int)› h|exact aq8 a ‹x=((2:Nat):Int)› h|exact aq7 a ‹x=((1:Nat):Int)› h|exact aq6 a ‹x=((0:Nat):Int)› h|exact aj1 a ‹x=((3:Nat):Int)› h|exact aj0 a ‹x=((2:Nat):Int)› h|exact ajZ a ‹x=((1:Nat):Int)› h|exact ajY a ‹x=((0:Nat):Int)› h))
def ar3:=eO (.el W.mono) (.el W.mono) λp q (_:True)=>aq_ p q
def NX(q:ba):SE S:=.agg [.any,.any,.d (.sc (.int .i64 q.e1)),.d (.sc (.int .i64 q.e2)),.d (.sc (.int .i64 q.e3)),.d (.sc (.int .i64 q.e4))]
def axs(a b:ba):bh 222 [NX a,NX b] (iT (o0 b a)):=by
 refine vF func222 rfl [ar3] [] ?_;repeat' first|intro _|apply aP
 all_goals first|exact aZ|rfl
def I0{x y:Int}:gj x y<0↔x<y:=by unfold gj;split<;>(try split)<;>simp<;>omega
def Ou{x y:Int}:gj x y=0↔x=y:=by unfold gj;split<;>(try split)<;>simp<;>omega
def lU(p q:ba):=p.e4<q.e4\/(p.e4=q.e4/\(p.e3<q.e3\/(p.e3=q.e3/\(p.e2<q.e2\/(p.e2=q.e2/\p.e1<q.e1)))))
def ara:o0 p q<0↔lU p q:=by
 unfold o0 lU;have f:= @I0 p.e1 q.e1;have i:= @I0 p.e2 q.e2;have j:= @I0 p.e3 q.e3;have k:= @I0 p.e4 q.e4;have c:= @Ou p.e2 q.e2;have d:= @Ou p.e3 q.e3;have e:= @Ou p.e4 q.e4;split
 ·rename_i h;rw[jC,e]at h;rw[k];omega
 ·rename_i h;rw[jC,e]at h;split
  ·rename_i a;rw[jC,d]at a;rw[j];omega
  ·rename_i a;rw[jC,d]at a;split
   ·rename_i b;rw[jC,c]at b;rw[i];omega
   ·rename_i b;rw[jC,c]at b;rw[f];omega
def oG(l:List aL)(i:Nat):ba:=match l[i]? with|some t=>t.mono|none=>⟨0,0,0,0⟩
def xi(l:List aL)(i j:Nat):Int:=o0 (oG l j) (oG l i)
def ltT{l:List aL}:Go.Proofs.ltOf (xi l) k n=true↔lU (oG l n) (oG l k):=by unfold Go.Proofs.ltOf xi;rw[be,ara]
def QR{l:List aL}:Go.Proofs.ltOf (xi l) k n=false↔¬lU (oG l n) (oG l k):=by rw[<-ltT];simp
theorem aiy(l:List aL):Go.Sort.SWO (Go.Proofs.ltOf (xi l))where
 irrefl x:=by rw[QR];unfold lU;omega
 trans x y z a h2:=by rw[ltT]at*;unfold lU at*;omega
 ntrans x y z a h2:=by rw[QR]at*;unfold lU at*;omega
def lX(l:List aL)(a:Nat):Array Nat:=Go.Sort.pdq (Go.Proofs.ltOf (xi l)) (List.range l.length).toArray 0 l.length a true true
@[irreducible] def qt(l:List aL)(a:Nat):List aL:=(lX l a).toList.filterMap λi=>l[i]?
def DO(l:List aL)(lim:Nat):(lX l lim).size=l.length/\(lX l lim).toList.Perm (List.range l.length)/\Go.Sort.SortedIn (Go.Proofs.ltOf (xi l)) 0 l.length (lX l lim):=by
 have h:=Go.Sort.pdq_sorts (Go.Proofs.ltOf (xi l)) (aiy l) (List.range l.length).toArray 0 l.length lim true true (dD _) ai (Or.inl rfl);obtain⟨⟨b,_,a⟩,c⟩:=h;have b:(lX l lim).size=l.length:=by simpa[lX]using b
 refine⟨b,?_,c⟩;have a:((lX l lim).extract 0 l.length).toList.Perm ((List.range l.length).toArray.extract 0 l.length).toList:=a;have e:(lX l lim).extract 0 l.length=lX l lim:=by apply Array.extract_eq_self_of_le;omega
 have d:(List.range l.length).toArray.extract 0 l.length=(List.range l.length).toArray:=by apply Array.extract_eq_self_of_le;simp
 rw[e,d]at a;simpa using a
def Tw{l:List aL}{lim i:Nat}(h:i∈(lX l lim).toList):i<l.length:=by have:=(DO l lim).2.1.mem_iff.1 h;simpa using this
def aCI(l:List aL):(List.range l.length).filterMap (λi=>l[i]?)=l:=by
 have h:∀m,m<=l.length->(List.range m).filterMap (λi=>l[i]?)=l.take m:=by
  intro m
  induction m with
  |zero=>intro _;rfl
  |succ m a=>intro c;rw[oW,ym,a O,h_];obtain⟨t,b⟩:∃t,l[m]?=some t:=⟨l[m]' O,ai⟩;simp[b]
 rw[h _ (bu _),i_]
def Bw(l:List aL)(a:Nat):(qt l a).Perm l:=by have h:=(DO l a).2.1.filterMap (λi=>l[i]?);rw[aCI]at h;unfold qt;exact h
def Tx(l:List aL)(lim j:Nat)(k:j<l.length):∃i t,(lX l lim)[j]?=some i/\i<l.length/\l[i]?=some t/\(qt l lim)[j]?=some t:=by
 have Y:=(DO l lim).1;have d:∀(a:au),(∀i∈a,i<l.length)->∀j:Nat,(a.filterMap λi=>l[i]?)[j]?=(a[j]?).bind λi=>l[i]? :=by
  intro a
  induction a with
  |nil=>intro _ j;simp
  |cons x r h=>
   intro f j;obtain⟨t,c⟩:∃t,l[x]?=some t:=⟨l[x]'(f x ai),ai⟩;rw[List.filterMap_cons,c];cases j with
   |zero=>simp[c]
   |succ j=>simpa using h (λi b=>f i (by simp[b])) j
 have m:j<(lX l lim).size:=O;obtain⟨i,b⟩:∃i,(lX l lim)[j]?=some i:=⟨(lX l lim)[j],ai⟩;have e:=Tw (l:=l) (lim:=lim) (i:=i) (by rw[<-yc]at b;exact bF b);obtain⟨t,c⟩:∃t,l[i]?=some t:=⟨l[i],ai⟩;refine⟨i,t,b,e,c,?_⟩;unfold qt;rw[d _ (λi b=>Tw b) j,yc,b];exact c
def aic(l:List aL)(c i j:Nat)(s t:aL)(f:i<j)(Y:(qt l c)[i]?=some s)(h:(qt l c)[j]?=some t):¬lU s.mono t.mono:=by
 have u:=(Bw l c).length_eq;have k:j<l.length:=by have:=(dM.1 h).1;omega
 obtain⟨a,r,n,_,m,e⟩:=Tx l c i O;obtain⟨b,q,k1,_,k2,d⟩:=Tx l c j k;rw[Y]at e;injection e with e;subst e
 rw[h]at d;injection d with d;subst d
 have:=(DO l c).2.2 i j (dD _) f k;have p:(lX l c)[i]! =a:=by simp[getElem!_def,n]
 have o:(lX l c)[j]! =b:=by simp[getElem!_def,k1]
 rw[p,o,QR]at this;simpa[oG,m,k2]using this
end Go.Proofs.YtfbmhjooliccnaaGreatDoor
namespace Go.Proofs.YtfbmhjooliccnaaGreatDoor
open Go Go.Ab Go.RowKit Go.Proofs.Tryz
variable {w L:World}{M:Nat→Prop}{b s:Nat}{Z N:av}{l:List aL}{X:G}{t:TypeId}{U:Array Value}{R:Array Obj}{Q:Type}{P:aL}
def Mem.aEl{M:aq}{γ:G}{H:eh}{w w':World}(m:Mem M γ H w){d:List V}
 (n:γ s=some (some b))(i:w.heap[b]?=some (.cells U t (0,0)))(f:(Z++N).length=U.size)(o:bR w M γ d Z)(a:H s≠none)
 (p:w'.os=w.os)(q:w'.tape=w.tape)(r:w'.output=w.output)(u:w.drawn<=w'.drawn)(v:w.heap.size<=w'.heap.size)
 (y:w'.heap[b]?=some (.cells (Z++N).toArray t (0,0)))(z:∀x,x<w.heap.size->x≠b->w'.heap[x]?=w.heap[x]?):
 Mem M γ (cX H s (some d)) w'/\fL (λb=>∃s,γ s=some (some b)) w w':=by
 let C:dY:=⟨M,λb=>∃s,γ s=some (some b),w,γ,λ_=>False,0⟩
 have R:dz C γ ⟨λ_=>.any,H⟩ { tmps:=#[],defers:=[]} w:=⟨m,λ_=>trivial,fL.refl _ _,λs b h=>.inl ⟨s,h⟩,λ_ h=>h.elim,rfl,rfl⟩;have j:=R.zB n i f o a;have k:fL q_ (w.setRow b (Z++N).toArray) w':=by
  have hold:∀x,x<w.heap.size->w'.heap[x]?=(w.setRow b (Z++N).toArray).heap[x]? :=by
   intro x c;by_cases e:x=b
   ·subst e;rw[y,setRow_heap w x U _ t _ i]
   ·rw[z x c e,setRow_other w b x _ e]
  refine⟨p,q,r,u,by simpa using v,λx c _=>hold x (an c),λx cells A c=>⟨cells,?_,rfl⟩⟩;have:=jA c;rw[hold x (an this)];exact c
 exact⟨j.mem.F_ k,j.aN.trans k (λ_ _ h=>h) (λ_ _ h=>h.elim)⟩
def kZ(vs:av)(n i:Nat):List Value:=if i<n then(vs.drop (i*6)).take 6 else List.replicate 6 (.int .i64 0)
section
variable {w:World}{M:Nat→Prop}{γ:G}{l:List aL}{vs:av}
def Ho(a:bR w M γ ((bx (U:=S) W.bt l).map .d) vs):vs.length=l.length*6:=by rw[<-a.1,dS,mf Vw];rfl
def agr(a:bR w M γ ((bx (U:=S) W.bt l).map .d) vs)(i:Nat):(kZ vs l.length i).length=6:=by
 have:=Ho a;unfold kZ;split
 ·rw[ez,qC];omega
 ·simp
def agq(f:bR w M γ ((bx (U:=S) W.bt l).map .d) vs)(e:b<l.length)(a:s<6):(kZ vs l.length b)[s]?=vs[b*6+s]? :=by unfold kZ;rw[aK e,Nk a,m_]
def aHd(f:bR w M γ ((bx (U:=S) W.bt l).map .d) vs){c:Nat}(h:l[b]?=some P)(m:c<6):∃u x,vs[b*6+c]?=some u/\(Ar P)[c]?=some x/\dE w (cS w M γ) x u:=by
 have n:b<l.length:=(dM.1 h).1;have p:=Ho f;obtain⟨u,j⟩:∃u,vs[b*6+c]?=some u:=⟨vs[b*6+c]' O,ai⟩;obtain⟨x,k⟩:∃x,(Ar P)[c]?=some x:=⟨(Ar P)[c]'(by simp[Ar];omega),ai⟩;obtain⟨A,B,f1,f2,f3,f4,f5⟩:=PC (V:=Vw) W.bt l h;refine⟨u,x,j,k,?_⟩;refine f.2 (b*6+c) (.d x) u ?_ j;rw[dU,f1];have e:b*6+c=A.length+c:=by have:b*S.w W.bt=A.length:=f2.symm;have o:S.w W.bt=6:=rfl;rw[o]at this;omega
 rw[e,gh,yq O,Nat.add_sub_cancel_left];have a:(S.dt W.bt P)[c]?=some x:=k;rw[Ej (by have:=(dM.1 a).1;exact this),a];rfl
def ags(c:bR w M γ ((bx (U:=S) W.bt l).map .d) vs)(i:Nat):∀v∈kZ vs l.length i,v.oneCell'=true:=by
 intro v a;unfold kZ at a;split at a
 ·rename_i h;have a:=B3 (oi a);obtain⟨j,b⟩:=yt a;have k:=c.1;have f:j<vs.length:=(dM.1 b).1;obtain⟨x,e⟩:∃x,((bx (U:=S) W.bt l).map Ab.V.d)[j]?=some x:=⟨_,ca O⟩;exact(c.2 j x v e b).one
 ·rw[List.mem_replicate]at a;rw[a.2];rfl
def agt(o:bR w M γ ((bx (U:=S) W.bt l).map .d) vs)(i:Nat):eP L (λ_=>False) iw (NX (oG l i)).den (.agg (kZ vs l.length i).toArray):=by
 have hlen:=agr o i;have m:=ags o i;refine⟨kZ vs l.length i,rfl,by rw[hlen];rfl,λj x u a b=>?_⟩;have s:j<6:=by have:=(dM.1 b).1;omega
 have r:=m u (bF b);have f:∀(c:Nat)(e:ba->Int),c<6->(∀t,l[i]?=some t->(Ar t)[c]?=some (.sc (.int .i64 (e t.mono))))->e ⟨0,0,0,0⟩=0->(kZ vs l.length i)[c]?=some u->u=.int .i64 (e (oG l i)):=by
  intro c e n v z b;by_cases q:i<l.length
  ·obtain⟨t,h⟩:∃t,l[i]?=some t:=⟨l[i],ai⟩;rw[agq o q n]at b;obtain⟨B,y,k,p,A⟩:=aHd o h n;rw[b]at k;injection k with k;subst k
   rw[v t h]at p;injection p with p;subst p
   have:oG l i=t.mono:=by simp[oG,h]
   rw[this];cases A;rfl
  ·have:oG l i=⟨0,0,0,0⟩:=by simp[oG,gp (Nat.le_of_not_lt q)]
   rw[this,z];unfold kZ at b;rw[g q]at b;have:=bF b;rw[List.mem_replicate]at this;exact this.2
 match j,s with
 |0,_=>injection a with a;subst a;exact r
 |1,_=>injection a with a;subst a;exact r
 |2,_=>injection a with a;subst a;rw[f 2 ba.e1 O (λt _=>rfl) rfl b];exact dE.sc _ rfl
 |3,_=>injection a with a;subst a;rw[f 3 ba.e2 O (λt _=>rfl) rfl b];exact dE.sc _ rfl
 |4,_=>injection a with a;subst a;rw[f 4 ba.e3 O (λt _=>rfl) rfl b];exact dE.sc _ rfl
 |5,_=>injection a with a;subst a;rw[f 5 ba.e4 O (λt _=>rfl) rfl b];exact dE.sc _ rfl
end
theorem azN(a:um L (λ_=>False) iw):Mem (λ_=>False) iw tI L where
 iU:=a
 gG _ h:=h.elim
 inj s t b h _:=by cases h
 nm s b h:=by cases h
 fW s _:=rfl
 fe s c h:=by cases h
def av0{w':World}{mG:aq}(a:fL mG L w')(h:∀b,¬mG b):∃q os',w'=Go.Sort.grow (L.drewN q) os':=by
 refine⟨w'.drawn-L.drawn,w'.heap.extract L.heap.size w'.heap.size,?_⟩;have e:w'.heap=L.heap++w'.heap.extract L.heap.size w'.heap.size:=by
  apply Array.ext
  ·have:=a.size;simp;omega
  ·intro i c f;by_cases d:i<L.heap.size
   ·rw[Array.getElem_append_left d];have:=a.same i d (h i);rw[D5 c,D5 d]at this;exact vo this
   ·rw[Array.getElem_append_right O];simp only[Array.getElem_extract];congr 1;omega
 have c:=a.os;have f:=a.tape;have j:=a.output;have k:=a.drawn;unfold Go.Sort.grow World.drewN;cases w';cases L;simp only[World.mk.injEq]at*;refine⟨e,f,O,c,j⟩
def aFW{w:World}{M:aq}{γ:G}(a:um w M γ)(n:γ s=some (some b))(f:Nat->List Value)(k m:Nat)(c:Array Nat)(i:Array Obj):um (Go.Proofs.sortWorldK f k w b 0 m c i) (λ_=>False) iw:=by
 have d:(1:Nat)≠b:=λe=>a.1.2.2 s (by rw[n,e])
 have Y:1<w.heap.size:=a.1.1;have j:(Go.Sort.putRowK f k (Go.Sort.ahead w m) b 0 c).heap.size=w.heap.size:=by simp[Go.Sort.putRowK,Go.Sort.ahead]
 refine⟨⟨by simp[Go.Proofs.sortWorldK,Go.Sort.grow,j];omega,λh=>h,λs h=>by cases h⟩,?_⟩;have e:(Go.Proofs.sortWorldK f k w b 0 m c i).heap[1]?=w.heap[1]? :=by unfold Go.Proofs.sortWorldK;rw[Go.Sort.heap_grow_old _ _ (by rw[j];exact Y)];simp[Go.Sort.putRowK,Go.Sort.putRow,Go.Sort.mapBlock,Go.Sort.ahead,MM,Ne.symm d]
 rw[e];exact a.2
def aq4{w:World}{M:aq}{γ:G}{l:List aL}{vs:av}(f:bR w M γ ((bx (U:=S) W.bt l).map .d) vs)(j:um w M γ)(k:γ s=some (some b)):
 CmpLays prog 222 #[] (kZ vs l.length) 6 (xi l) b 0 l.length w:=by
 intro m n dk o x y;have h:=(axs (oG l x) (oG l y)).2 (λ_=>False) iw (Go.Proofs.sortWorldK (kZ vs l.length) 6 w b 0 m dk n) [.agg (kZ vs l.length x).toArray,.agg (kZ vs l.length y).toArray] (azN (aFW j k _ _ _ _ _)) ⟨rfl,λi z u a c=>by
  match i with
  |0=>injection a with a;subst a;injection c with c;subst c;exact agt f x
  |1=>injection a with a;subst a;injection c with c;subst c;exact agt f y
  |i+2=>simp at a⟩
 refine h.mono ?_;rintro e t ⟨v,p,rfl,_,q,r,_⟩;refine⟨?_,av0 r (λb ⟨s,Y⟩=>by cases Y)⟩;have:v=.int .i64 (o0 (oG l y) (oG l x)):=by cases q;rfl
 rw[this];rfl
def LV{v u:Value}(h:dE w M (.sc v) u):u=v:=by cases h;rfl
def abg(c:bR w M X ((bx (U:=S) W.bt l).map .d) Z)(d:Array Nat)(f:∀i∈d.toList,i<l.length)(t:Nat)(h:t<d.size*6):
 ∃i,d[t/6]?=some i/\i<l.length/\(Go.Sort.flatK (kZ Z l.length) 6 d)[t]! =(Z[i*6+t%6]?).getD default/\(Z[i*6+t%6]?).isSome:=by
 have k:t/6<d.size:=O;obtain⟨i,b⟩:∃i,d[t/6]?=some i:=⟨d[t/6],ai⟩;have a:=f i (by rw[<-yc]at b;exact bF b);have j:t%6<6:=Nat.mod_lt _ O;have m:=Ho c;refine⟨i,b,a,?_,by rw[ca O];rfl⟩;rw[Go.Sort.get_flatK _ _ _ _ h];have e:d[t/6]! =i:=by simp[getElem!_def,b]
 rw[e,<-agq c a j];simp[getElem!_def];cases(kZ Z l.length i)[t%6]? <;>rfl
def abS(c:bR w M X ((bx (U:=S) W.bt l).map .d) Z)(f:w.heap[b]?=some (.cells (Z++N).toArray t (0,0))):
 Go.Sort.HoldsK (kZ Z l.length) 6 w b 0 (List.range l.length).toArray:=by
 intro j h;simp only[Go.Sort.size_flatK,List.size_toArray,oh]at h;obtain⟨i,a,o,k,p⟩:=abg c (List.range l.length).toArray (λi m=>by simpa using m) j (an h);have e:i=j/6:=by simp only[HR]at a;rw[qB O]at a;exact(vo a).symm
 subst e;have q:=Ho c;refine⟨?_,by simp[World.frozen?,f]⟩;rw[oo,yP f];have n:j/6*6+j%6=j:=O;rw[n]at k;show((Z++N).toArray)[j]?=some (Go.Sort.flatK (kZ Z l.length) 6 (List.range l.length).toArray)[j]!;rw[k];simp only[HR];rw[Ej O,ca O];rfl
def av4{n:Nat}{os:Array Obj}{a:Nat×Nat} [Inhabited Q](dt:Q->List Value)(k:Nat)(d:Array Q)(c:w.heap[b]?=some (.cells U t a)):
 (Go.Proofs.sortWorldK dt k w b 0 n d os).heap[b]?=some (.cells (Go.Sort.putCells id 0 (Go.Sort.flatK dt k d) U) t a):=by
 have f:b<w.heap.size:=(MK.1 c).1;unfold Go.Proofs.sortWorldK Go.Sort.putRowK;rw[Go.Sort.heap_grow_old _ _ (an f)];simp[Go.Sort.putRow,Go.Sort.mapBlock,Go.Sort.ahead,MM,c,Go.Sort.onCells]
def av5{x:Nat} [Inhabited Q](dt:Q->List Value)(k:Nat)(d:Array Q)(c:x<w.heap.size)(a:x≠b):
 (Go.Proofs.sortWorldK dt k w b 0 s d R).heap[x]?=w.heap[x]? :=by
 unfold Go.Proofs.sortWorldK Go.Sort.putRowK;rw[Go.Sort.heap_grow_old _ _ (an c)];simp[Go.Sort.putRow,Go.Sort.mapBlock,Go.Sort.ahead,MM,Ne.symm a]
def abh{c:Nat}(a:l[b]?=some P)(d:c<6):((bx (U:=S) W.bt l).map Ab.V.d)[b*6+c]?=((Ar P)[c]?).map Ab.V.d:=by
 obtain⟨A,B,f1,f2,f3,f4,f5⟩:=PC (V:=Vw) W.bt l a;rw[dU,f1];have e:b*6+c=A.length+c:=by have:b*S.w W.bt=A.length:=f2.symm;have f:S.w W.bt=6:=rfl;rw[f]at this;omega
 rw[e,gh,yq O,Nat.add_sub_cancel_left];have h:(S.dt W.bt P).length=6:=rfl;rw[Ej O];rfl
def aCl(Z:Array Value)(a spare:av)(h:Z.size=a.length):Go.Sort.putCells id 0 Z (a++spare).toArray=(Z.toList++spare).toArray:=by
 apply Array.ext
 ·simp[Go.Sort.putCells];omega
 ·intro i d c;simp only[Go.Sort.putCells,Array.getElem_mapIdx,List.getElem_toArray];by_cases b:i<Z.size
  ·rw[aK ⟨dD _,O⟩,List.getElem_append_left (an b)];simp[getElem!_pos,b]
  ·rw[g O,List.getElem_append_right O,List.getElem_append_right (by simp;omega)];simp[h]
def aFg(k:bR w M X ((bx (U:=S) W.bt l).map .d) Z)(a:Nat):
 bR w M X ((bx (U:=S) W.bt (qt l a)).map .d) (Go.Sort.flatK (kZ Z l.length) 6 (lX l a)).toList:=by
 have Y:=(DO l a).1;have m:=(Bw l a).length_eq;have n:S.w W.bt=6:=rfl;refine⟨by rw[dS,mf Vw,n,BL (xs:=Go.Sort.flatK _ _ _),Go.Sort.size_flatK,Y,m],λj x u o p=>?_⟩;have c:j<l.length*6:=by have:=(dM.1 o).1;rw[dS,mf Vw,n,m]at this;exact this
 obtain⟨i,s,D,f,v⟩:=abg k (lX l a) (λi y=>Tw y) j (by rw[Y];exact c);obtain⟨E,t,k1,k2,A,B⟩:=Tx l a (j/6) O;rw[s]at k1;injection k1 with k1;subst k1
 have q:j%6<6:=Nat.mod_lt _ O;have e:j/6*6+j%6=j:=O;have b:=abh B q;rw[e,o]at b;have r:=abh A q;rw[<-b]at r;refine k.2 _ x u r ?_;have h:(Go.Sort.flatK (kZ Z l.length) 6 (lX l a))[j]! =u:=by rw[yc]at p;simp[getElem!_def,p]
 rw[h]at f;obtain⟨z,C⟩:=Nt.1 v;rw[C]at f⊢;rw[f];rfl
def aaq:fh prog 268:=fH func268 af rfl
def aum:fh prog 269:=fH func269 af rfl
def iE(n:Int):SE S:=.c (.d (.sc (.int .i64 n)))
def aFf(a:Nat):qt [] a=[]:=List.Perm.eq_nil (Bw [] a)
def aFe(l:List aL)(a:Nat):(qt l a).length=l.length:=(Bw l a).length_eq
def aBp(l:List aL)(a:Nat)(hlen:l.length<=1000000000)(hlim:a<=1000):cN prog 268 (bJ (bP [(0,aV.aU (U:=S) W.bt l)])) ([.c (.aW 0 W.bt l.length),iE 0,iE l.length,iE a,.c (.cr 222 [])].map SE.den)
 (bJ (bP [(0,aV.aU (U:=S) W.bt (qt l a))])) (·∈[0]) (ST.cn (U:=S) []).den:=by
 refine⟨aaq,λM A w B N z=>?_⟩;obtain⟨hl5,z⟩:=z
 match B,hl5 with
 |[v0,v1,v2,v3,v4],_=>
  have a0:=z 0 _ v0 rfl rfl;have a1:=LV (z 1 _ v1 rfl rfl);have a2:=LV (z 2 _ v2 rfl rfl);have a3:=LV (z 3 _ v3 rfl rfl);have a4:=z 4 _ v4 rfl rfl;obtain⟨cs,a4,v,_⟩:=a4;have v:cs=[]:=fc v;subst v;subst a1;subst a2;subst a3;subst a4;have q:l=[]->Im M A w (bJ (bP [(0,aV.aU (U:=S) W.bt (qt l a))])) (·∈[0]) (ST.cn (U:=S) []).den (.returned (.tuple #[])) w:=by intro e;subst e;rw[aFf];exact⟨_,A,rfl,N,⟨[],rfl,rfl,λi x u C=>by simp at C⟩,fL.refl _ _,λs b h=>.inl ⟨s,h⟩,λ_ _=>rfl⟩
  have j:l=[]->∀(p:Option Addr)(m:Nat),Calls prog 268 #[.slice p 0 m,.int .i64 0,.int .i64 (l.length:Int),.int .i64 (a:Int),.func (.func 222) #[] #[]] w (Im M A w (bJ (bP [(0,aV.aU (U:=S) W.bt (qt l a))])) (·∈[0]) (ST.cn (U:=S) []).den):=by
   intro e p m;have h:=Go.Proofs.AnyF.pdqsortCmpFunc_none Qy p m (a:Int) (.func (.func 222) #[] #[]) w;have e2:((l.length:Nat):Int)=0:=by rw[e];rfl
   rw[e2];refine h.mono ?_;rintro e' w' ⟨rfl,rfl⟩;exact q e
  rcases a0 with⟨b,m,cells,t,r,rfl,hlc,hmx,hb0,V⟩|⟨r,_,Z,rfl⟩|⟨b,off',r,Z,rfl⟩
  ·have hH:bJ (bP [(0,aV.aU (U:=S) W.bt l)]) 0=some ((bx (U:=S) W.bt l).map .d):=rfl;rcases N.fe 0 _ hH with⟨b',t',vs,spare,f,L,y⟩|⟨Q,_⟩|⟨b',en,clk,f,K,_⟩
   ·rw[r]at f;injection f with f;injection f with f;subst f
    have T:=aiy l;have aE:∀w,(isAgg (GV.t 24)).run prog w=.ok true w:=Tryz.isAgg171;have zE:∀w,(Go.sizeOf (GV.t 24)).run prog w=.ok 6 w:=Tryz.sizeOf171;have D:(List.range l.length).toArray.size=l.length:=ai;have o:=aq4 y N.iU r;rw[<-D]at o
    have hp:=Go.Proofs.AnyQ.pdqsortCmpFunc_all (P:=prog) (ρ:=GV) Qy 6 aE zE (kZ vs l.length) (xi l) 222 #[] T b 0 m (List.range l.length).toArray w (enters_of func222 af rfl) (an o)
     ⟨agr y,ags y,abS y L,jA L⟩ (l.length+1) 0 l.length a (List.range l.length).toArray w O rfl (Go.Proofs.SWK.start (abS y L)) (dD _) ai (by simp;omega) O (Or.inl rfl)
    rw[D]at hp;refine Calls.mono (P:=prog) hp ?_;rintro e w' ⟨rfl,n,os,rfl⟩;have G:(Go.Sort.flatK (kZ vs l.length) 6 (lX l a)).size=vs.length:=by rw[Go.Sort.size_flatK,(DO l a).1,Ho y]
    have k:=av4 (n:=n) (os:=os) (kZ vs l.length) 6 (lX l a) L;rw[aCl _ _ _ G]at k;have E:=Mem.aEl (w':=Go.Proofs.sortWorldK (kZ vs l.length) 6 w b 0 n (lX l a) os) N r L (by simp[G]) (aFg y a) (by rw[hH];simp) rfl rfl rfl (Nat.le_add_right _ _) (by simp[Go.Proofs.sortWorldK,Go.Sort.grow,Go.Sort.putRowK,Go.Sort.putRow,Go.Sort.mapBlock,Go.Sort.ahead]) k (λx C X=>av5 _ _ _ C X);refine⟨_,A,rfl,?_,⟨[],rfl,rfl,λi x u C=>by simp at C⟩,E.2,λs b h=>.inl ⟨s,h⟩,λ_ _=>rfl⟩;refine cast (aY (λH=>Mem M A H _) ?_) E.1;funext u;simp only[cX];by_cases R:u=0
    ·subst R;rfl
    ·rw[g R];simp[bP,bJ,R]
   ·rw[r]at Q;injection Q with Q;cases Q
   ·rw[r]at f;injection f with f;injection f with f;subst f
    rw[hb0]at K;cases K
  ·have e:l=[]:=fc Z;exact j e none 0
  ·have e:l=[]:=fc Z;exact j e _ 0
end Go.Proofs.YtfbmhjooliccnaaGreatDoor
namespace Go.Proofs.YtfbmhjooliccnaaGreatDoor
open Go Go.Ab Go.Proofs.Tryz
variable {l:List aL}{i k n:Nat}{q y:ba}{v B:Int}{p c:J}{t:aL}
def b7(q:ba)(a:Int):Int:=if a=1 then q.e1 else if a=2 then q.e2 else if a=3 then q.e3 else q.e4
def eV(q:ba)(a v:Int):ba:=if a=1 then⟨v,q.e2,q.e3,q.e4⟩else if a=2 then⟨q.e1,v,q.e3,q.e4⟩else if a=3 then⟨q.e1,q.e2,v,q.e4⟩else⟨q.e1,q.e2,q.e3,v⟩
def aEm(q:ba)(a v u:Int):eV (eV q a v) a u=eV q a u:=by unfold eV;split<;>(try rfl);split<;>(try rfl);split<;>rfl
mutual
def nP:J->Nat
 |.mk _ _ _ a=>1+je a
def je:List J->Nat
 |[]=>0
 |p::r=>nP p+je r
end
def KS(p:J):nP p=1+je p.aG:=by cases p;rw[nP];rfl
def KT:je []=0:=by rw[je]
def Ba(p:J)(r:List J):je (p::r)=nP p+je r:=by rw[je]
def A_(p:J):1<=nP p:=by rw[KS];omega
theorem Q8:∀l:List J,l.length<=je l
 |[]=>by simp
 |p::r=>by have:=Q8 r;have:=A_ p;rw[Ba];simp;omega
theorem adJ:∀(l:List J)(i:Nat)(c:J),l[i]?=some c->je (l.take i)+nP c<=je l
 |[],i,c,h=>by simp at h
 |p::r,0,c,h=>by simp only[jH,cY]at h;subst h;rw[iC,KT,Ba];omega
 |p::r,i+1,c,h=>by have:=adJ r i c (an h);rw[pT,Ba,Ba];omega
mutual
def cv:J->ba->List aL
 |.mk a b e d,q=>if a<=0 then [⟨b,e,q.e1,q.e2,q.e3,q.e4⟩]else if 4<a then []else gD a d q (b7 q a) 0
def gD (a:Int):List J->ba->Int->Nat->List aL
 |[],_,_,_=>[]
 |c::r,q,s,i=>cv c (eV q a (s+i))++gD a r q s (i+1)
end
def Fo(p:J)(q:ba):cv p q=if p.aJ<=0 then [⟨p.neg,p.aF,q.e1,q.e2,q.e3,q.e4⟩]else if 4<p.aJ then []else gD p.aJ p.aG q (b7 q p.aJ) 0:=by cases p;rw[cv];rfl
def OH(a:Int)(q:ba)(s:Int)(i:Nat):gD a [] q s i=[]:=by rw[gD]
def Ja(a:Int)(c:J)(r:List J)(q:ba)(s:Int)(i:Nat):gD a (c::r) q s i=cv c (eV q a (s+i))++gD a r q s (i+1):=by rw[gD]
theorem I_(d:Int)(q:ba)(s:Int):∀(a b:List J)(i:Nat),gD d (a++b) q s i=gD d a q s i++gD d b q s (i+a.length)
 |[],b,i=>by rw[gi,OH];rfl
 |c::a,b,i=>by rw[ei,Ja,Ja,I_ d q s a b (i+1),gh];congr 3;simp;omega
mutual
theorem I9:∀(p:J)(q:ba),(cv p q).length<=nP p
 |.mk a d h b,q=>by
  have:=OG a b q (b7 q a) 0
  rw[cv,nP]
  split
  ·simp
  ·split
   ·simp
   ·omega
theorem OG (a:Int):∀(l:List J)(q:ba)(s:Int)(i:Nat),(gD a l q s i).length<=je l
 |[],q,s,i=>by rw[gD];simp
 |c::r,q,s,i=>by
  have f:=I9 c (eV q a (s+i))
  have e:=OG a r q s (i+1)
  rw[gD,je]
  simp;omega
end
@[irreducible] def ga(p:J)(q:ba)(i:Nat):List aL:=gD p.aJ (p.aG.take i) q (b7 q p.aJ) 0
def I5(p:J)(q:ba):ga p q 0=[]:=by unfold ga;rw[iC,OH]
def I6(h:p.aG[i]?=some c):ga p q (i+1)=ga p q i++cv c (eV q p.aJ (b7 q p.aJ+i)):=by
 unfold ga;have a:i<p.aG.length:=(dM.1 h).1;have e:p.aG.take (i+1)=p.aG.take i++[c]:=by rw[h_,h];rfl
 rw[e,I_,Ja,OH,l4];congr 4;simp;omega
def Y0(a:decide (p.aJ<=0)=false)(b:decide (4<p.aJ)=false)(h:p.aG.length<=i):ga p q i=cv p q:=by simp only[bj]at a b;rw[Fo,g a,g b];unfold ga;rw[eQ h]
def arC(p:J)(q:ba)(i:Nat):(ga p q i).length<=je (p.aG.take i):=by unfold ga;exact OG _ _ _ _ _
@[irreducible] def CB(l:List aL)(p:J)(q:ba):=l.length+nP p<=1000000000/\(0<=q.e1/\q.e1+nP p<=1000000000)/\(0<=q.e2/\q.e2+nP p<=1000000000)/\(0<=q.e3/\q.e3+nP p<=1000000000)/\(0<=q.e4/\q.e4+nP p<=1000000000)
def CB.IX(h:CB l p q)(a:p.aG[i]?=some c):CB (l++ga p q i) c (eV q p.aJ (b7 q p.aJ+i)):=by
 unfold CB at*;have d:=adJ _ _ _ a;have b:=Q8 (p.aG.take i);have e:i<p.aG.length:=(dM.1 a).1;have f:=arC p q i;have j:=KS p;rw[ez]at b;refine⟨by simp;omega,?_⟩;unfold eV b7;split
 ·simp only;omega
 ·split
  ·simp only;omega
  ·split
   ·simp only;omega
   ·simp only;omega
def CB.inr(h:CB l p q)(a:i<p.aG.length):pP (b7 q p.aJ+i):=by
 unfold CB at h;have b:=KS p;have c:=Q8 p.aG;unfold pP b7;split
 ·omega
 ·split
  ·omega
  ·split<;>omega
@[irreducible] def SG(q:ba)(a:Int)(y:ba):=∀v,eV y a v=eV q a v
def yE(q:ba)(a:Int):SG q a q:=by unfold SG;intro v;rfl
def yF(q:ba)(a v:Int):SG q a (eV q a v):=by unfold SG;intro u;exact aEm q a v u
def DB(h:SG q B y)(e:B-1=((0:Nat):Int)):(⟨v,y.e2,y.e3,y.e4⟩:ba)=eV q B v:=by have e:B=1:=O;subst e;unfold SG at h;exact h v
def abG{lv:Int}(e:lv-1=((0:Nat):Int)):q.e1=b7 q lv:=by have e:lv=1:=O;subst e;rfl
def ahH(h:SG q B y)(e:B-1=((0:Nat):Int)):v=(eV q B v).e1:=by rw[<-DB h e]
def ahI(h:SG q B y)(e:B-1=((0:Nat):Int)):y.e2=(eV q B v).e2:=by rw[<-DB h e]
def ahJ(h:SG q B y)(e:B-1=((0:Nat):Int)):y.e3=(eV q B v).e3:=by rw[<-DB h e]
def ahK(h:SG q B y)(e:B-1=((0:Nat):Int)):y.e4=(eV q B v).e4:=by rw[<-DB h e]
def OA(h:SG q p.aJ y)(e:p.aJ-1=((0:Nat):Int))(a:p.aG[(i:Int).toNat]?=some c):l++ga p q i++cv (.mk c.aJ c.neg c.aF c.aG) ⟨(b7 q p.aJ+i),y.e2,y.e3,y.e4⟩=l++ga p q (i+1):=by rw[bI]at a;rw[bm,DB h e,gh,I6 a]
def Zc(h:SG q p.aJ y)(e:p.aJ-1=((0:Nat):Int))(a:p.aG[(i:Int).toNat]?=some c):(l++ga p q i++cv (.mk c.aJ c.neg c.aF c.aG) ⟨(b7 q p.aJ+i),y.e2,y.e3,y.e4⟩).length=(l++ga p q (i+1)).length:=by rw[OA h e a]
def Yz(b:CB l p q)(h:SG q p.aJ y)(e:p.aJ-1=((0:Nat):Int))(a:p.aG[(i:Int).toNat]?=some c):CB (l++ga p q i) (.mk c.aJ c.neg c.aF c.aG) ⟨(b7 q p.aJ+i),y.e2,y.e3,y.e4⟩:=by rw[bI]at a;rw[bm,DB h e];exact b.IX a
def DC(h:SG q B y)(e:B-1=((1:Nat):Int)):(⟨y.e1,v,y.e3,y.e4⟩:ba)=eV q B v:=by have e:B=2:=O;subst e;unfold SG at h;exact h v
def abH{lv:Int}(e:lv-1=((1:Nat):Int)):q.e2=b7 q lv:=by have e:lv=2:=O;subst e;rfl
def ahL(h:SG q B y)(e:B-1=((1:Nat):Int)):y.e1=(eV q B v).e1:=by rw[<-DC h e]
def ahM(h:SG q B y)(e:B-1=((1:Nat):Int)):v=(eV q B v).e2:=by rw[<-DC h e]
def ahN(h:SG q B y)(e:B-1=((1:Nat):Int)):y.e3=(eV q B v).e3:=by rw[<-DC h e]
def ahO(h:SG q B y)(e:B-1=((1:Nat):Int)):y.e4=(eV q B v).e4:=by rw[<-DC h e]
def OB(h:SG q p.aJ y)(e:p.aJ-1=((1:Nat):Int))(a:p.aG[(i:Int).toNat]?=some c):l++ga p q i++cv (.mk c.aJ c.neg c.aF c.aG) ⟨y.e1,(b7 q p.aJ+i),y.e3,y.e4⟩=l++ga p q (i+1):=by rw[bI]at a;rw[bm,DC h e,gh,I6 a]
def Zd(h:SG q p.aJ y)(e:p.aJ-1=((1:Nat):Int))(a:p.aG[(i:Int).toNat]?=some c):(l++ga p q i++cv (.mk c.aJ c.neg c.aF c.aG) ⟨y.e1,(b7 q p.aJ+i),y.e3,y.e4⟩).length=(l++ga p q (i+1)).length:=by rw[OB h e a]
def YA(b:CB l p q)(h:SG q p.aJ y)(e:p.aJ-1=((1:Nat):Int))(a:p.aG[(i:Int).toNat]?=some c):CB (l++ga p q i) (.mk c.aJ c.neg c.aF c.aG) ⟨y.e1,(b7 q p.aJ+i),y.e3,y.e4⟩:=by rw[bI]at a;rw[bm,DC h e];exact b.IX a
def DD(h:SG q B y)(e:B-1=((2:Nat):Int)):(⟨y.e1,y.e2,v,y.e4⟩:ba)=eV q B v:=by have e:B=3:=O;subst e;unfold SG at h;exact h v
def abI{lv:Int}(e:lv-1=((2:Nat):Int)):q.e3=b7 q lv:=by have e:lv=3:=O;subst e;rfl
def ahP(h:SG q B y)(e:B-1=((2:Nat):Int)):y.e1=(eV q B v).e1:=by rw[<-DD h e]
def ahQ(h:SG q B y)(e:B-1=((2:Nat):Int)):y.e2=(eV q B v).e2:=by rw[<-DD h e]
def ahR(h:SG q B y)(e:B-1=((2:Nat):Int)):v=(eV q B v).e3:=by rw[<-DD h e]
def ahS(h:SG q B y)(e:B-1=((2:Nat):Int)):y.e4=(eV q B v).e4:=by rw[<-DD h e]
def OC(h:SG q p.aJ y)(e:p.aJ-1=((2:Nat):Int))(a:p.aG[(i:Int).toNat]?=some c):l++ga p q i++cv (.mk c.aJ c.neg c.aF c.aG) ⟨y.e1,y.e2,(b7 q p.aJ+i),y.e4⟩=l++ga p q (i+1):=by rw[bI]at a;rw[bm,DD h e,gh,I6 a]
def Ze(h:SG q p.aJ y)(e:p.aJ-1=((2:Nat):Int))(a:p.aG[(i:Int).toNat]?=some c):(l++ga p q i++cv (.mk c.aJ c.neg c.aF c.aG) ⟨y.e1,y.e2,(b7 q p.aJ+i),y.e4⟩).length=(l++ga p q (i+1)).length:=by rw[OC h e a]
def YB(b:CB l p q)(h:SG q p.aJ y)(e:p.aJ-1=((2:Nat):Int))(a:p.aG[(i:Int).toNat]?=some c):CB (l++ga p q i) (.mk c.aJ c.neg c.aF c.aG) ⟨y.e1,y.e2,(b7 q p.aJ+i),y.e4⟩:=by rw[bI]at a;rw[bm,DD h e];exact b.IX a
def DG(h:SG q B y)(e:B-1=((3:Nat):Int)):(⟨y.e1,y.e2,y.e3,v⟩:ba)=eV q B v:=by have e:B=4:=O;subst e;unfold SG at h;exact h v
def abJ{lv:Int}(e:lv-1=((3:Nat):Int)):q.e4=b7 q lv:=by have e:lv=4:=O;subst e;rfl
def ahT(h:SG q B y)(e:B-1=((3:Nat):Int)):y.e1=(eV q B v).e1:=by rw[<-DG h e]
def ahU(h:SG q B y)(e:B-1=((3:Nat):Int)):y.e2=(eV q B v).e2:=by rw[<-DG h e]
def ahV(h:SG q B y)(e:B-1=((3:Nat):Int)):y.e3=(eV q B v).e3:=by rw[<-DG h e]
def ahW(h:SG q B y)(e:B-1=((3:Nat):Int)):v=(eV q B v).e4:=by rw[<-DG h e]
def OD(h:SG q p.aJ y)(e:p.aJ-1=((3:Nat):Int))(a:p.aG[(i:Int).toNat]?=some c):l++ga p q i++cv (.mk c.aJ c.neg c.aF c.aG) ⟨y.e1,y.e2,y.e3,(b7 q p.aJ+i)⟩=l++ga p q (i+1):=by rw[bI]at a;rw[bm,DG h e,gh,I6 a]
def Zf(h:SG q p.aJ y)(e:p.aJ-1=((3:Nat):Int))(a:p.aG[(i:Int).toNat]?=some c):(l++ga p q i++cv (.mk c.aJ c.neg c.aF c.aG) ⟨y.e1,y.e2,y.e3,(b7 q p.aJ+i)⟩).length=(l++ga p q (i+1)).length:=by rw[OD h e a]
def YC(b:CB l p q)(h:SG q p.aJ y)(e:p.aJ-1=((3:Nat):Int))(a:p.aG[(i:Int).toNat]?=some c):CB (l++ga p q i) (.mk c.aJ c.neg c.aF c.aG) ⟨y.e1,y.e2,y.e3,(b7 q p.aJ+i)⟩:=by rw[bI]at a;rw[bm,DG h e];exact b.IX a
def Y2(h:decide (p.aJ<=0)=true):l++[⟨p.neg,p.aF,q.e1,q.e2,q.e3,q.e4⟩]=l++cv p q:=by rw[Fo,aK (an h)]
def arE(h:decide (p.aJ<=0)=true):l.length+[(⟨p.neg,p.aF,q.e1,q.e2,q.e3,q.e4⟩:aL)].length=(l++cv p q).length:=by rw[<-Y2 h];simp
def OE(h:decide (p.aJ<=0)=false)(a:decide (4<p.aJ)=true):l=l++cv p q:=by simp only[be,bj]at h a;rw[Fo,g h,aK a];simp
def Y1(h:decide (p.aJ<=0)=false)(a:decide (4<p.aJ)=true):l.length=(l++cv p q).length:=by rw[<-OE h a]
def Fm:l=l++ga p q 0:=by rw[I5];simp
def I8:l.length=(l++ga p q 0).length:=by rw[<-Fm]
def Fl(a:decide (p.aJ<=0)=false)(b:decide (4<p.aJ)=false)(h:decide ((i:Int)<p.aG.length)=false):l++ga p q i=l++cv p q:=by simp only[bj]at h;rw[Y0 a b O]
def I7(a:decide (p.aJ<=0)=false)(b:decide (4<p.aJ)=false)(h:decide ((i:Int)<p.aG.length)=false):(l++ga p q i).length=(l++cv p q).length:=by rw[Fl a b h]
def CB.b1(h:CB l p q)(x:aL):(l.length+[x].length)*xY.dT<=140737488355328:=by unfold CB at h;have e:xY.dT=64:=rfl;have a:[x].length=1:=rfl;rw[e,a];omega
def CB.b2(h:CB l p q)(x:aL):l.length+[x].length<=140737488355328:=by unfold CB at h;have a:[x].length=1:=rfl;rw[a];omega
def Dd(a:decide (p.aJ<=0)=false)(b:decide (4<p.aJ)=false):0<=p.aJ-1/\p.aJ-1<((4:Nat):Int)/\pP (p.aJ-1):=by simp only[bj]at a b;unfold pP;omega
def ade(a:decide (p.aJ<=0)=false)(b:decide (4<p.aJ)=false):-9223372036854775808<=p.aJ-1:=by have:=Dd a b;omega
def adf(a:decide (p.aJ<=0)=false)(b:decide (4<p.aJ)=false):p.aJ-1<=9223372036854775807:=by have:=Dd a b;omega
def zT{a:Type}{q:a}:(0:Int)=(((0,q):Nat×a).1:Int):=rfl
def zH(h:p.aG[(i:Int).toNat]?=some c):SizeOf.sizeOf (J.mk c.aJ c.neg c.aF c.aG)<SizeOf.sizeOf p:=by rw[bI]at h;rw[bm];have a:=Wh (bF h);cases p;simp only[J.aG,J.mk.sizeOf_spec]at a⊢;omega
def aap:fh prog 129:=fH func129 af rfl
def U2(l:List aL)(p:J)(q:ba):Prop:=cN prog 129 (bJ (bP [(0,aV.aU (U:=S) W.bt l)])) ([.c (.aW 0 W.bt l.length),wE .aH p,wE .mono q].map SE.den) (bJ (bP [(1,aV.aU (U:=S) W.bt (l++cv p q))])) (·∈[]) (ST.e (U:=S) (.c (.aW 1 W.bt (l++cv p q).length))).den
def agL(Q:J->Prop)(H:List (Nat×aV S))(args:List (SE S))(K:f_ S->Prop):Prop:=
 match H,args with
 |[(0,.aU W.bt l)],[.c (.aW 0 W.bt m),.agg [.d (.sc (.int .i64 b)),.d (.b8 a),.d (.bf W.u32 h),.d (.bf W.aH f)],.agg [.d (.sc (.int .i64 n)),.d (.sc (.int .i64 k)),.d (.sc (.int .i64 j)),.d (.sc (.int .i64 i))]]=>m=l.length/\Q (.mk b a h f)/\CB l (.mk b a h f) ⟨n,k,j,i⟩/\K ⟨.e (.c (.aW 1 W.bt (l++cv (.mk b a h f) ⟨n,k,j,i⟩).length)),[(1,.aU W.bt (l++cv (.mk b a h f) ⟨n,k,j,i⟩))],[0],[0]⟩
 |_,_=>False
def aeq(Q:J->Prop)(b:∀l p q,Q p->CB l p q->U2 l p q):fk prog S where
 f:=129
 fX:=aap
 run:=agL Q
 ok H args K h:=by
  unfold agL at h;split at h
  ·rename_i l _ m k w v t s r o;obtain⟨rfl,j,i,e⟩:=h;refine⟨_,?_,λu a c=>?_,e⟩
   ·exact(b l _ _ j i).fK λu a=>by have n:u<1:=a.1;have d:=a.2;simp at d;omega
   ·have:u<1:=a;simp at c;omega
  ·cases h
def axq(x:Int)(h:0<=x/\x<=18446744073709551615):bh 269 [wI .u64 x] (iT (Go.Lib.bitLen x.toNat:Nat)):=by
 refine⟨aum,λM d w a k c=>?_⟩;obtain⟨i,c⟩:=c
 match a,i with
 |[f],_=>have l:=LV (c 0 _ f rfl rfl);subst l;have j:=Go.Proofs.Any.bits_Len (Go.Proofs.SlLaysF0.n15.bits (P:=prog) (ρ:=GV) { Qy with}) x w h.1 h.2;refine Calls.mono (P:=prog) j ?_;rintro e m ⟨rfl,rfl⟩;exact⟨_,d,rfl,k,dE.sc _ rfl,fL.refl _ _,λs b h=>.inl ⟨s,h⟩,λ_ h=>h.elim⟩
def asl:=dR (.int .u64) axq
def ag2(H:List (Nat×aV S))(args:List (SE S))(K:f_ S->Prop):Prop:=
 match H,args with
 |[(0,.aU W.bt l)],[.c (.aW 0 W.bt m),.c (.d (.sc (.int .i64 z))),.c (.d (.sc (.int .i64 n))),.c (.d (.sc (.int .i64 a))),.c (.cr 222 [])]=>m=l.length/\z=0/\n=l.length/\0<=a/\a<=1000/\l.length<=1000000000/\K ⟨.cn [],[(0,.aU W.bt (qt l a.toNat))],[],[0]⟩
 |_,_=>False
def aAD:fk prog S where
 f:=268
 fX:=aaq
 run:=ag2
 ok H args K h:=by
  unfold ag2 at h;split at h
  ·rename_i l _ _ _ a;obtain⟨rfl,rfl,rfl,k,j,c,i⟩:=h;refine⟨_,?_,λu b d=>?_,i⟩
   ·have e:a=((a.toNat:Nat):Int):=by omega
    have:=aBp l a.toNat c O;rw[<-e]at this;exact this.fK λu b=>by have c:u<1:=b.1;simp;omega
   ·have:u<1:=b;simp at d;omega
  ·cases h
def tR(l:List aL):List aL:=qt l (Go.Lib.bitLen (IntKind.u64.wrap (l.length:Int)).toNat)
def aFd(l:List aL):qt l (((Go.Lib.bitLen (IntKind.u64.wrap (l.length:Int)).toNat:Nat):Int).toNat)=tR l:=by rw[bI];rfl
def ajy(n:Nat):0<=IntKind.u64.wrap (n:Int):=by simp[IntKind.wrap,IntKind.bits,IntKind.signed];omega
def ajz(n:Nat):IntKind.u64.wrap (n:Int)<=18446744073709551615:=by simp[IntKind.wrap,IntKind.bits,IntKind.signed];omega
def apQ(n:Nat):((Go.Lib.bitLen (IntKind.u64.wrap (n:Int)).toNat:Nat):Int)<=1000:=by have h:=ajy n;have a:=ajz n;have:=Go.Lib.bitLen_le (IntKind.u64.wrap (n:Int)).toNat 64 O O;omega
def at7:fh prog 221:=fH func221 af rfl
def aFc(l:List aL)(h:l.length<=1000000000):cN prog 221 (bJ (bP [(0,aV.aU (U:=S) W.bt l)])) (([.c (.aW 0 W.bt l.length),.c (.cr 222 [])]:List (SE S)).map SE.den) (bJ (bP [(0,aV.aU (U:=S) W.bt (tR l))])) (·∈[0]) (ST.cn (U:=S) []).den:=by
 refine vO func221 rfl ⟨[asl],[aAD]⟩ [] [0] ⟨[],[(0,.aU W.bt (tR l))],1⟩ ?_;repeat' first|intro _|apply aP
 all_goals first|exact aZ| (with_reducible first|rfl|exact h|exact ajy _|exact ajz _|exact apQ _|exact Int.natCast_nonneg _|exact aFd l)
def ag9(H:List (Nat×aV S))(args:List (SE S))(K:f_ S->Prop):Prop:=
 match H,args with
 |[(0,.aU W.bt l)],[.c (.aW 0 W.bt m),.c (.cr 222 [])]=>m=l.length/\l.length<=1000000000/\K ⟨.cn [],[(0,.aU W.bt (tR l))],[],[0]⟩
 |_,_=>False
def aAH:fk prog S where
 f:=221
 fX:=at7
 run:=ag9
 ok H args K h:=by
  unfold ag9 at h;split at h
  ·rename_i l _;obtain⟨rfl,b,d⟩:=h;refine⟨_,?_,λu a c=>?_,d⟩
   ·exact(aFc l b).fK λu a=>by have b:u<1:=a.1;simp;omega
   ·have:u<1:=a;simp at c;omega
  ·cases h
def v8(t:aL):Bool:=gu ⟨t.neg,t.aF⟩ !=0
@[irreducible] def kU(l:List aL)(i:Nat):List aL:=(l.take i).filter v8
def oK(l:List aL):List aL:=tR (l.filter v8)
def Pv(l:List aL):[]=kU l 0:=by unfold kU;rfl
def aaY(l:List aL):0=(kU l 0).length:=by rw[<-Pv];rfl
def Px(l:List aL)(i:Nat):(kU l i).length<=l.length:=by unfold kU;exact eZ (Em _ _) (by simp;omega)
def aa1(h:l[(i:Int).toNat]?=some t):kU l (i+1)=kU l i++(if v8 t then [t]else []):=by rw[bI]at h;unfold kU;rw[h_,h,Ad];congr 1;simp[List.filter_cons]
def aa2(h:l[(i:Int).toNat]?=some t)(Y:(gu ⟨t.neg,t.aF⟩ !=0)=true):kU l i++[⟨t.neg,t.aF,t.e1,t.e2,t.e3,t.e4⟩]=kU l (i+1):=by rw[aa1 h,aK (show v8 t=true from Y)]
def au_(h:l[(i:Int).toNat]?=some t)(Y:(gu ⟨t.neg,t.aF⟩ !=0)=true)(x:aL):(kU l i).length+[x].length=(kU l (i+1)).length:=by rw[<-aa2 h Y];simp
def aa0(h:l[(i:Int).toNat]?=some t)(Y:(gu ⟨t.neg,t.aF⟩ !=0)=false):kU l i=kU l (i+1):=by rw[aa1 h,g (by unfold v8;simp[Y])];simp
def au9(h:l[(i:Int).toNat]?=some t)(Y:(gu ⟨t.neg,t.aF⟩ !=0)=false):(kU l i).length=(kU l (i+1)).length:=by rw[<-aa0 h Y]
def aaZ(h:decide ((i:Int)<l.length)=false):tR (kU l i)=oK l:=by simp only[bj]at h;unfold kU oK;rw[eQ O]
def aib(l:List aL):(tR l).length=l.length:=aFe l _
def au8(h:decide ((i:Int)<l.length)=false):(kU l i).length=(oK l).length:=by rw[<-aaZ h,aib]
def ava(h:l.length<=1000000000)(i:Nat)(x:aL):((kU l i).length+[x].length)*xY.dT<=140737488355328:=by have:=Px l i;have e:xY.dT=64:=rfl;have a:[x].length=1:=rfl;rw[e,a];omega
def avb(h:l.length<=1000000000)(i:Nat)(x:aL):(kU l i).length+[x].length<=140737488355328:=by have:=Px l i;have a:[x].length=1:=rfl;rw[a];omega
def avc(h:l.length<=1000000000)(i:Nat):(kU l i).length<=1000000000:=eZ (Px l i) h
def atW:fh prog 176:=fH func176 af rfl
def aBA(l:List aL)(h:l.length<=1000000000):cN prog 176 (bJ (bP (gH 0 1 2 l))) (([.c (.ptr 0 0)]:List (SE S)).map SE.den) (bJ (bP [(3,aV.aU (U:=S) W.bt (oK l))])) (·∈[]) (ST.e (U:=S) (.c (.aW 3 W.bt (oK l).length))).den:=by
 refine vO func176 rfl ⟨[AB],[aAH]⟩ [(3,⟨Nat,λx=>⟨[(3,.e (.c (.aW 0 W.bt (kU l x).length))),(9,.e (.c (.aW 1 W.bt l.length))),(10,iT l.length),(11,iT x)],[(0,.aU W.bt (kU l x)),(1,.aU W.bt l)],2⟩,λx=>x<=l.length/\True,λx=>l.length-x⟩)] [] ⟨[(2,.e (.c (.aW 3 W.bt (oK l).length)))],[(3,.aU W.bt (oK l))],4⟩ ?_;repeat' first|intro _|apply aP|refine aX 0 (aP ?_ λ(x:Nat)(d:x<=l.length/\True)=>?_)|refine aX (x+1) ?_
 all_goals first|exact aZ| (with_reducible first|rfl|exact Pv l|exact aaY l|exact ava h _ _|exact avb h _ _|exact avc h _|exact(Pv l).symm|exact(aaY l).symm)|(rename_i a b;with_reducible first|exact aa2 a b|exact au_ a b _|exact aa0 a b|exact au9 a b)|(rename_i a;with_reducible first|exact aaZ a|exact au8 a)|simp only[be,bj]at*;have:=d.1;omega|omega
def ag6(H:List (Nat×aV S))(args:List (SE S))(K:f_ S->Prop):Prop:=
 match H,args with
 |[(0,.cells [.mp 1,.aW 2 W.bt m]),(1,.lr a),(2,.aU W.bt l)],[.c (.ptr 0 0)]=>m=l.length/\a=gI l 0/\l.length<=1000000000/\K ⟨.e (.c (.aW 3 W.bt (oK l).length)),[(3,.aU W.bt (oK l))],[0,1,2],[0,1,2]⟩
 |_,_=>False
def Rr:fk prog S where
 f:=176
 fX:=atW
 run:=ag6
 ok H args K h:=by
  unfold ag6 at h;split at h
  ·rename_i _ _ l;obtain⟨rfl,rfl,c,b⟩:=h;refine⟨_,?_,λu a d=>?_,b⟩
   ·exact(aBA l c).fK λu a=>by have c:u<3:=a.1;have b:=a.2;simp at b;omega
   ·have:u<3:=a;simp at d;omega
  ·cases h
@[irreducible] def gQ(p:List aL)(i:Nat):List aL:=(p.take i).foldl (λa t=>gW a t.mono t.cZ) []
def xo(p:List aL):gQ p 0=[]:=by unfold gQ;rfl
def uI(h:l[(i:Int).toNat]?=some t):gW (gQ l i) ⟨t.e1,t.e2,t.e3,t.e4⟩ ⟨t.neg,t.aF⟩=gQ l (i+1):=by rw[bI]at h;unfold gQ;rw[h_,h,List.foldl_append];rfl
@[irreducible] def di(p:List aL):List aL:=oK (gQ p p.length)
@[irreducible] def NB(n:Nat)(p:List aL):=LB n p/\n<=1000000000/\p.length<=1000000000
theorem FV(h:NB n l):∀i,i<=l.length->LB (n+i) (gQ l i)/\(gQ l i).length<=i
 |0,_=>by rw[xo];exact⟨λt a=>by simp at a,ai⟩
 |i+1,d=>by
  obtain⟨b,e⟩:=FV h i O;obtain⟨t,a⟩:∃t,l[(i:Int).toNat]?=some t:=by rw[bI];exact⟨l[i]' O,ai⟩
  rw[<-uI a];unfold NB at h;have c:=h.1 t (bF a);have f:=avL (gQ l i) ⟨t.e1,t.e2,t.e3,t.e4⟩ ⟨t.neg,t.aF⟩;refine⟨avJ b ⟨by show t.aF.length<=n+i;omega,c.2⟩,O⟩
def PV{n:Nat}(h:NB n l)(a:i<=l.length)(b:l[(i:Int).toNat]?=some t):D_ (gQ l i) ⟨t.neg,t.aF⟩:=by have c:=FV h i a;unfold NB at h;have d:=h.1 t (bF b);exact GB.e (n:=n+i) ⟨c.1,by show t.aF.length<=n+i;omega,d.2,O,O⟩
def PW(h:NB n l)(a:i<=l.length):(gQ l i).length<=1000000000:=by have b:=FV h i a;unfold NB at h;omega
def FU{p:List aL}(a:i<=p.length)(h:decide ((i:Int)<p.length)=false):oK (gQ p i)=di p:=by simp only[bj]at h;have:i=p.length:=O;subst this;unfold di;rfl
def PP(h:l[(i:Int).toNat]?=some t):(gW (gQ l i) ⟨t.e1,t.e2,t.e3,t.e4⟩ ⟨t.neg,t.aF⟩).length=(gQ l (i+1)).length:=by rw[uI h]
def PU(h:l[(i:Int).toNat]?=some t):gI (gW (gQ l i) ⟨t.e1,t.e2,t.e3,t.e4⟩ ⟨t.neg,t.aF⟩) 0=gI (gQ l (i+1)) 0:=by rw[uI h]
def PI(p:List aL):([]:List aL).length=(gQ p 0).length:=by rw[xo]
def PM(p:List aL):gI [] 0=gI (gQ p 0) 0:=by rw[xo]
def PN(p:List aL):[]=gQ p 0:=by rw[xo]
def azU(p:List aL)(n:Nat)(h:NB n p):bh 128 [wL .bt p] (lT .bt (di p)):=by
 refine vG func128 rfl ⟨[],[Rp,Ro,Rr]⟩ [(3,⟨Nat,λx=>⟨[(3,bQ 0),(7,lT .bt p),(8,iT p.length),(9,iT x)],gH 0 1 2 (gQ p x),3⟩,λx=>x<=p.length/\True,λx=>p.length-x⟩)] ?_;repeat' first|intro _|apply aP|refine aX 0 (aP ?_ λ(x:Nat)(b:x<=p.length/\True)=>?_)|refine aX (x+1) ?_
 all_goals first|exact aZ| (with_reducible first|rfl|exact PI p|exact PM p|exact PN p|exact PW h b.1)|(rename_i a;with_reducible first|exact FU b.1 a|exact PV h b.1 a|exact PP a|exact PU a|exact uI a)|simp only[be,bj]at*;have:=b.1;omega|omega
@[irreducible] def Es(p:List aL):Prop:=∃n,NB n p
def NB.e{p:List aL}(h:NB n p):Es p:=by unfold Es;exact⟨n,h⟩
def azV(p:List aL)(h:Es p):bh 128 [wL .bt p] (lT .bt (di p)):=by unfold Es at h;obtain⟨n,h⟩:=h;exact azU p n h
def OT:=dR (.ls W.bt) azV
def ex(k:Nat)(t:aL):Int:=b7 t.mono (k:Int)
def JB(t:aL):ex 1 t=t.e1:=rfl
def CW(t:aL):ex 2 t=t.e2:=rfl
def CY(t:aL):ex 3 t=t.e3:=rfl
def C0(t:aL):ex 4 t=t.e4:=rfl
def fI(t:aL):Nat->Nat
 |0=>0
 |k+1=>if ex (k+1) t=0 then fI t k else k+1
@[irreducible] def BP(l:List aL)(k:Nat):Prop:=
  k<=4/\l.length<=1000000000/\(∀t∈l,∀v:Nat,1<=v->v<=4->0<=ex v t/\ex v t<=1000000000000)/\l.Pairwise (λs t=>¬lU s.mono t.mono)/\(∀s∈l,∀t∈l,∀v:Nat,k<v->v<=4->ex v s=ex v t)
def BP.k4(h:BP l k):k<=4:=by unfold BP at h;exact h.1
def BP.len(h:BP l k):l.length<=1000000000:=by unfold BP at h;exact h.2.1
def BP.yW(h:BP l k)(a:t∈l){v:Nat}(b:1<=v)(c:v<=4):0<=ex v t/\ex v t<=1000000000000:=by unfold BP at h;exact h.2.2.1 t a v b c
theorem BP.mono(h:BP l k)(i:1<=k):l.Pairwise (λs t=>ex k t<=ex k s):=by
 unfold BP at h;obtain⟨j,_,_,m,b⟩:=h;refine m.imp_of_mem λ{s t} Y c e=>?_
 have f:=b s Y t c 2;have d:=b s Y t c 3;have a:=b s Y t c 4;rw[CW,CW]at f;rw[CY,CY]at d;rw[C0,C0]at a;unfold lU at e;simp only[aL.mono]at e
 match k,i,j with
 |1,_,_=>rw[JB,JB];have:=f O O;have:=d O O;have:=a O O;omega
 |2,_,_=>rw[CW,CW];have:=d O O;have:=a O O;omega
 |3,_,_=>rw[CY,CY];have:=a O O;omega
 |4,_,_=>rw[C0,C0];omega
def BP.sub{f:List aL}(h:BP l k)(Y:List.Sublist f l):BP f k:=by unfold BP at*;obtain⟨a,b,c,d,e⟩:=h;exact⟨a,eZ Y.length_le b,λt i=>c t (Y.subset i),d.sublist Y,λs j t m=>e s (Y.subset j) t (Y.subset m)⟩
def BP.down{z:Int}(h:BP l (k+1))(i:∀t∈l,ex (k+1) t=z):BP l k:=by
 unfold BP at*;obtain⟨a,b,c,d,e⟩:=h;refine⟨O,b,c,d,λs j t m v o f=>?_⟩;by_cases n:v=k+1
 ·subst n;rw[i s j,i t m]
 ·exact e s j t m v O f
def BP.head(h:BP l k)(c:1<=k)(b:l[0]?=some t):∀u∈l,ex k u<=ex k t:=by
 have d:=h.mono c;intro u hu;cases l with
 |nil=>simp at b
 |cons a r=>
  simp only[jH,cY]at b;subst b;rcases dC.1 hu with rfl|hu
  ·exact B0 _
  ·exact(Eo.1 d).1 u hu
def BP.zero(h:BP l (k+1))(b:l[0]?=some t)(c:ex (k+1) t=0):BP l k:=by
 refine h.down (z:=0) λu a=>?_
 have d:=h.head O b u a;have e:=h.yW a (v:=k+1) O h.k4;omega
def cC:Nat->List aL->Nat->J
 |0,_,_=>zP
 |_+1,[],_=>zP
 |f+1,t::r,k=>
  if fI t k=0 then .mk 0 t.neg t.aF []
  else if 1073741824<ex (fI t k) t then cC f r (fI t k)
  else .mk (fI t k:Nat) false [] ((List.range (ex (fI t k) t+1).toNat).map λ(e:Nat)=>cC f ((t::r).filter λu=>ex (fI t k) u==(e:Int)) (fI t k-1))
def E3(f k:Nat):cC f [] k=zP:=by cases f<;>rw[cC]
def xf(f:Nat)(t:aL)(r:List aL)(k:Nat):cC (f+1) (t::r) k=
 if fI t k=0 then .mk 0 t.neg t.aF []
 else if 1073741824<ex (fI t k) t then cC f r (fI t k)
 else .mk (fI t k:Nat) false [] ((List.range (ex (fI t k) t+1).toNat).map λ(e:Nat)=>cC f ((t::r).filter λu=>ex (fI t k) u==(e:Int)) (fI t k-1)):=by rw[cC]
theorem Km(t:aL):∀k,fI t k<=k
 |0=>by rw[fI];omega
 |k+1=>by rw[fI];have:=Km t k;split<;>omega
def ac5{x:Nat}(h:ex x t≠0)(a:1<=x):fI t x=x:=by
 cases x with
 |zero=>omega
 |succ x=>rw[fI,g h]
@[irreducible] def oz(f:Nat)(l:List aL)(k n s:Nat):List J:=(List.range n).map λ(e:Nat)=>cC f ((l.take s).filter λu=>ex k u==(e:Int)) (k-1)
def arq(f:Nat)(l:List aL)(k n:Nat):List.replicate n zP=oz f l k n 0:=by
 unfold oz;simp only[iC,Nh];apply ug;intro i;by_cases a:i<n
 ·simp[a,E3]
 ·simp[a]
def YW(f:Nat)(l:List aL)(k n s:Nat):(oz f l k n s).length=n:=by unfold oz;simp
@[irreducible] def cut(l:List aL)(k s:Nat):=∀t∈l.take s,∀u∈l.drop s,ex k u<ex k t
def asX(l:List aL)(k:Nat):cut l k 0:=by unfold cut;intro t a;simp at a
@[irreducible] def tL(l:List aL)(k s e:Nat)(z:Int):=∀j,s<=j->j<e->∀t,l[j]?=some t->ex k t=z
def aDG(l:List aL)(k s:Nat)(z:Int):tL l k s s z:=by unfold tL;intro j b a;omega
def aDH{z:Int}(h:tL l k i n z)(b:l[n]?=some t)(c:ex k t=z):tL l k i (n+1) z:=by
 unfold tL at*;intro j d m u a;by_cases f:j=n
 ·subst f;rw[b]at a;injection a with a;subst a;exact c
 ·exact h j d O u a
def aBi(h:t∈(l.drop i).take (k-i)):∃j,i<=j/\j<k/\l[j]?=some t:=by obtain⟨a,b⟩:=yt h;have c:=(dM.1 b).1;rw[ez]at c;rw[Nk O,m_]at b;exact⟨i+a,O,O,b⟩
def SX{z:Int}(h:tL l k i n z):∀t∈(l.drop i).take (n-i),ex k t=z:=by intro t a;obtain⟨j,b,c,d⟩:=aBi a;unfold tL at h;exact h j b c t d
def TN(l:List aL)(s e:Nat)(h:s<=e):l.take e=l.take s++(l.drop s).take (e-s):=by have:e=s+(e-s):=O;rw[this,List.take_add];congr 2;omega
def asY{s e:Nat}{z:Int}(A:BP l k)(B:1<=k)(C:cut l k s)(n:tL l k s e z)(o:s<=e)(c:∀t,l[e]?=some t->ex k t≠z)(j:s<e):cut l k e:=by
 have D:=A.mono B;unfold cut at*;intro t h u p;have E:∀v∈l.drop e,ex k v<z:=by
  intro v G;obtain⟨i,d⟩:=yt G;rw[m_]at d;have q:=(dM.1 d).1;obtain⟨a,x⟩:∃a,l[s]?=some a:=⟨l[s]' O,ai⟩;obtain⟨b,f⟩:∃b,l[e]?=some b:=⟨l[e]' O,ai⟩;have M:ex k a=z:=by unfold tL at n;exact n s (bu _) j a x
  have H:=c b f;have m:=B5.1 D;have K:=m s e O O j;have L:l[s]' O=a:=(dM.1 x).2;have y:l[e]' O=b:=(dM.1 f).2;rw[L,y]at K;have N:ex k v<=ex k b:=by
   by_cases r:i=0
   ·subst r;rw[sV,f]at d;injection d with d;subst d;exact B0 _
   ·have:=m e (e+i) O q O;have ev:l[e+i]=v:=(dM.1 d).2;rw[y,ev]at this;exact this
  omega
 rw[TN l s e o,dd]at h;rcases h with h|h
 ·have w:u∈l.drop s:=by
   have:l.drop e=(l.drop s).drop (e-s):=by rw[List.drop_drop];congr 1;omega
   rw[this]at p;exact B3 p
  exact C t h u w
 ·rw[SX n t h];exact E u p
def ars{s e:Nat}{z:Int}(p:cut l k s)(j:tL l k s e z)(m:s<e)(y:e<=l.length)(A:0<=z)(q:z.toNat<n):
 (oz i l k n s).set z.toNat (cC i ((l.drop s).take (e-s)) (k-1))=oz i l k n e:=by
 have r:((z.toNat:Nat):Int)=z:=O;unfold oz;apply ug;intro b;rw[Ek];have c:=SX j;by_cases v:z.toNat=b
 ·subst v;simp only[dS,oh,q,oC];simp only[dU,qB q,dH];congr 2;rw[TN l s e O,Ad];have x:(l.take s).filter (λu=>ex k u==((z.toNat:Nat):Int))=[]:=by
   rw[Wg];intro t d;rw[r];unfold cut at p;obtain⟨a,w⟩:∃a,l[s]?=some a:=⟨l[s]' O,ai⟩;have B:=p t d a (by
    have:(l.drop s)[0]?=some a:=by rw[m_,sV];exact w
    exact bF this)
   have C:ex k a=z:=by unfold tL at j;exact j s (bu _) m a w
   simp;omega
  have o:((l.drop s).take (e-s)).filter (λu=>ex k u==((z.toNat:Nat):Int))=(l.drop s).take (e-s):=by rw[List.filter_eq_self];intro t d;rw[c t d,r];simp
  rw[x,o,gi]
 ·rw[g v];simp only[dU];by_cases h:b<n
  ·simp only[qB h,dH];congr 2;rw[TN l s e O,Ad];have o:((l.drop s).take (e-s)).filter (λu=>ex k u==(b:Int))=[]:=by rw[Wg];intro t d;rw[c t d];simp;omega
   rw[o,l4]
  ·simp[h]
def aBj(l:List aL)(s m:Nat):List.Sublist ((l.drop s).take m) l:=(List.take_sublist _ _).trans (List.drop_sublist _ _)
inductive jG:J->Prop where
 |mk (l:Int) (n:Bool) (a:ao) (cs:List J) (h1:Dg a) (h2:∀c∈cs,jG c):jG (.mk l n a cs)
def jG.dg(h:jG p):Dg p.aF:=by cases h;assumption
def jG.bz(h:jG p):∀c∈p.aG,jG c:=by cases h;assumption
inductive ja(m:Nat):J->Prop where
 |mk (l:Int) (n:Bool) (a:ao) (cs:List J) (h1:a.length<=m) (h2:Dg a) (h3:cs.length<=1000000000) (h4:∀c∈cs,ja m c):ja m (.mk l n a cs)
def ja.sm(h:ja i p)(b:i<=1099511627776):kQ p:=by
 induction h with
 |mk l n a c d j e _ f=>exact .mk l n a c (eZ d b) e f
def ja.O5(h:ja i p):jG p:=by
 induction h with
 |mk l n a b e c f _ d=>exact .mk l n a b c d
def ja.zero(m:Nat):ja m zP:=.mk 0 false [] [] ai (λd a=>by simp at a) ai (λc b=>by simp at b)
def ja.up(h:ja i p)(b:i<=n):ja n p:=by
 induction h with
 |mk l c a d e f j _ k=>exact .mk l c a d (eZ e b) f j k
def ja.copy(h:ja i p):ja i (lQ p):=by
 induction h with
 |mk l n a s f j k _ o=>
  rw[Zj];show ja i (if l=0 then _ else _);split
  ·exact .mk _ _ _ _ (eZ (ad_ ⟨n,a⟩) f) (ad9 (x:=⟨n,a⟩) j) ai (λc b=>by simp at b)
  ·refine .mk _ _ _ _ ai (λd q=>by simp at q) (by simpa[J.aG]using k) (λc b=>?_);rw[cj]at b;obtain⟨r,e,rfl⟩:=b;exact o r e
mutual
theorem Y5 (m:Nat):∀(p:J)(q:ba),ja m p->LB m (cv p q)
 |.mk b o v n,q,h=>by
  cases h with
  |mk _ _ _ _ e d u k=>
   have f:=Y6 m b n q (b7 q b) 0 k
   rw[cv]
   split
   ·intro t a;rw[dZ]at a;subst a;exact⟨e,d⟩
   ·split
    ·intro t a;simp at a
    ·exact f
theorem Y6 (m:Nat) (b:Int):∀(l:List J)(q:ba)(s:Int)(i:Nat),(∀c∈l,ja m c)->LB m (gD b l q s i)
 |[],q,s,i,_=>by rw[gD];intro t a;simp at a
 |c::r,q,s,i,h=>by
  have e:=Y5 m c (eV q b (s+i)) (h c ai)
  have d:=Y6 m b r q s (i+1) (λc j=>h c (by simp[j]))
  rw[gD]
  intro t a
  rw[dd]at a
  rcases a with a|a
  ·exact e t a
  ·exact d t a
end
def MB(B:Int)(q:ba):=(0<=q.e1/\q.e1<=B)/\(0<=q.e2/\q.e2<=B)/\(0<=q.e3/\q.e3<=B)/\(0<=q.e4/\q.e4<=B)
def EB(B:Int)(l:List aL):=∀t∈l,MB B t.mono
def MB.up(h:MB B q)(a:B<=v):MB v q:=by unfold MB at*;omega
def MB.set(h:MB B q):MB (B+i) (eV q v (b7 q v+i)):=by
 unfold MB at*;unfold eV b7;split
 ·simp only;omega
 ·split
  ·simp only;omega
  ·split
   ·simp only;omega
   ·simp only;omega
mutual
theorem Y3:∀(p:J)(q:ba)(B:Int),MB B q->EB (B+nP p) (cv p q)
 |.mk b k n j,q,B,h=>by
  have d:=Y4 b j q B 0 h
  rw[cv,nP]
  split
  ·intro t a;rw[dZ]at a;subst a;exact MB.up (q:=q) h O
  ·split
   ·intro t a;simp at a
   ·intro t a;exact(d t a).up O
theorem Y4 (b:Int):∀(l:List J)(q:ba)(B:Int)(i:Nat),MB B q->EB (B+i+je l) (gD b l q (b7 q b) i)
 |[],q,B,i,_=>by rw[gD];intro t a;simp at a
 |c::r,q,B,i,h=>by
  have f:=Y3 c (eV q b (b7 q b+i)) (B+i) h.set
  have e:=Y4 b r q B (i+1) h
  have m:=A_ c
  rw[gD,je]
  intro t a
  rw[dd]at a
  rcases a with a|a
  ·exact(f t a).up O
  ·exact(e t a).up O
end
def avH{c:bk}(h:EB B l)(b:jf q=false->MB B q):EB B (gW l q c):=by
 unfold gW;split
 ·exact h
 ·rename_i d;split
  ·split
   ·rename_i i _ t e;intro u a;rcases B4 a with a|rfl
    ·exact h u a
    ·exact h t (bF e)
   ·exact h
  ·intro u a;rw[dd,dZ]at a;rcases a with a|rfl
   ·exact h u a
   ·exact b (an d)
theorem aby(h:EB B l):∀i,i<=l.length->EB B (gQ l i)
 |0,_=>by rw[xo];intro t a;simp at a
 |i+1,c=>by
  have b:=aby h i O;obtain⟨t,a⟩:∃t,l[(i:Int).toNat]?=some t:=by rw[bI];exact⟨l[i]' O,ai⟩
  rw[<-uI a];exact avH b (λ_=>h t (bF a))
def Ri{p:List aL}(h:t∈di p):t∈gQ p p.length:=by unfold di oK tR at h;have:=(Bw _ _).mem_iff.1 h;exact(iZ.1 this).1
def Rh{p:List aL}(h:NB n p):(di p).length<=p.length:=by have a:=(FV h p.length (bu _)).2;unfold di oK;rw[aib];exact eZ (Em _ _) a
def aed(h:NB n l):LB (n+l.length) (di l):=λt a=>(FV h l.length (bu _)).1 t (Ri a)
def K6(h:EB B l):EB B (di l):=λt a=>aby h l.length (bu _) t (Ri a)
def azT(h:NB n l)(d:EB B l)(o:B<=1000000000):BP (di l) 4:=by
 have q:=Rh h;have e:=K6 d;unfold NB at h;unfold BP;refine⟨bu _,O,λt f v c a=>?_,?_,λs _ t _ v c a=>O⟩
 ·have:=e t f;unfold MB at this;simp only[aL.mono]at this
  match v,c,a with
  |1,_,_=>rw[JB];omega
  |2,_,_=>rw[CW];omega
  |3,_,_=>rw[CY];omega
  |4,_,_=>rw[C0];omega
 ·unfold di oK tR;rw[B5];intro i j k m b;exact aic _ _ i j _ _ b (ca k) (ca m)
def aaL(h:MB B t.mono)(v:Nat):ex v t<=B:=by
 unfold MB at h;unfold ex b7;split
 ·omega
 ·split
  ·omega
  ·split<;>omega
theorem II{m:Nat}(b:0<=B)(n:B<=100000000):∀(f:Nat)(l:List aL)(k:Nat),LB m l->EB B l->ja m (cC f l k)
 |0,l,k,_,_=>by rw[cC];exact ja.zero m
 |f+1,[],k,_,_=>by rw[cC];exact ja.zero m
 |f+1,t::r,k,h,j=>by
  rw[cC];split
  ·have:=h t ai;exact .mk _ _ _ _ this.1 this.2 ai (λc i=>by simp at i)
  ·split
   ·exact II b n f r _ (λu a=>h u (by simp[a])) (λu a=>j u (by simp[a]))
   ·have p:=aaL (j t ai) (fI t k);refine .mk _ _ _ _ ai (λd o=>by simp at o) (by simp;omega) (λc i=>?_);rw[cj]at i;obtain⟨e,_,rfl⟩:=i;exact II b n f _ _ (λu a=>h u (iZ.1 a).1) (λu a=>j u (iZ.1 a).1)
@[irreducible] def da(p:J):J:=if gC p then p else cC ((di (cv p ⟨0,0,0,0⟩)).length+4) (di (cv p ⟨0,0,0,0⟩)) 4
@[irreducible] def dG(p:J):J:=lQ (da p)
@[irreducible] def bO(p:J):=ja 1000000 p/\nP p<=1000000
def ajB:MB 0 ⟨0,0,0,0⟩:=by unfold MB;simp
def bO.nb(h:bO p):NB 1000000 (cv p ⟨0,0,0,0⟩):=by unfold bO at h;have:=I9 p ⟨0,0,0,0⟩;unfold NB;exact⟨Y5 _ p _ h.1,O,O⟩
def bO.eb(h:bO p):EB 1000000 (cv p ⟨0,0,0,0⟩):=by unfold bO at h;intro t a;exact(Y3 p ⟨0,0,0,0⟩ 0 ajB t a).up O
def bO.Yx(h:bO p):ja 2000000 (da p):=by
 have c:=h.nb;have d:=h.eb;have a:=aed c;have e:=K6 d;have f:=I9 p ⟨0,0,0,0⟩;unfold bO at h;unfold da;split
 ·exact h.1.up O
 ·exact II O O _ _ _ (λt b=>⟨by have:=(a t b).1;omega,(a t b).2⟩) e
def bO.cH(h:bO p):ja 2000000 (dG p):=by unfold dG;exact h.Yx.copy
def bO.cb(h:bO p):CB [] p ⟨0,0,0,0⟩:=by unfold bO at h;unfold CB;simp;omega
