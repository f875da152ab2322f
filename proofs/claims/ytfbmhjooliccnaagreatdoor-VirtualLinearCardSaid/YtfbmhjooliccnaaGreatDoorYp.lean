/- A part of the proof of VirtualLinear: Ij to Kp1. No condition. -/
import Derived.Test.YtfbmhjooliccnaaGreatDoorYm
import Derived.Test.YtfbmhjooliccnaaGreatDoorYo
set_option linter.all false
set_option maxRecDepth 100000
set_option maxHeartbeats 60000000
noncomputable section
namespace Go.Proofs.YtfbmhjooliccnaaGreatDoor
open Go Go.Ab Go.Proofs.Tryz
variable {p q c r:J}{x j y i n:Nat}{l:Int}{X:List J}{U:aY}
def aKi:0=zP.aK:=rfl
def aKj:false=zP.neg:=rfl
def aKk:zP.aC=[]:=rfl
def aKl:zP.aL=[]:=rfl
def vW(h:decide ((J.mk c.aK c.neg c.aC c.aL).aK=0/\(J.mk c.aK c.neg c.aC c.aL).aC.length=0)=false):cP c=false:=by cases c;exact h
def ze(h:decide ((J.mk c.aK c.neg c.aC c.aL).aK=0/\(J.mk c.aK c.neg c.aC c.aL).aC.length=0)=true):cP c=true:=by cases c;exact h
def ajG(h:r=zP):0=r.aK:=by rw[h];rfl
def ajH(h:r=zP):false=r.neg:=by rw[h];rfl
def ajI(h:r=zP):r.aC=[]:=by rw[h];rfl
def ajJ(h:r=zP):r.aL=[]:=by rw[h];rfl
def ayw(h:r=kP l):0=r.aK:=by rw[h];rfl
def ayx{P Q:J}(h:r=kP (cV P*cV Q)):(iD (iV ⟨P.neg,P.aC⟩*iV ⟨Q.neg,Q.aC⟩)).neg=r.neg:=by rw[h];rfl
def ayy{P Q:J}(h:r=kP (cV P*cV Q)):(iD (iV ⟨P.neg,P.aC⟩*iV ⟨Q.neg,Q.aC⟩)).aC=r.aC:=by rw[h];rfl
def ayz(h:r=kP l):r.aL=[]:=by rw[h];rfl
def aB_(h:r=.mk l false [] X):l=r.aK:=by rw[h];rfl
def aCa(h:r=.mk l false [] X):false=r.neg:=by rw[h];rfl
def aCb(h:r=.mk l false [] X):r.aC=[]:=by rw[h];rfl
def aCc(h:r=.mk l false [] X):X=r.aL:=by rw[h];rfl
theorem Sz.bu{d k:Nat}{p c:J}(h:Sz d k p)(a:c∈p.aL):Sz d k c:=by
 refine⟨(h.bR.bu a).mono (by have:=h.bR.lv;omega),h.dl.bu c a,?_⟩;have b:=h.nm;cases e:h.bR with
 |const n=>simp[kP,J.aL]at a
 |node i o g f m l j=>rw[tA _ g f]at b;exact rL (Dy a) b
def bQ.kl{p:J}(h:bQ 4 p)(a:c∈p.aL):c.aK<p.aK:=by
 have k:=(h.bu a).lv;have:1<=p.aK:=by
  cases h with
  |const n=>simp[kP,J.aL]at a
  |node b d e f g i j=>show(1:Int)<=b;omega
 omega
def fw.kl{p q:J}(h:fw p q)(g:q.aK<p.aK)(e:c∈p.aL):fw c q:=by
 unfold fw at*;obtain⟨n,d,k,⟨rfl,h⟩|⟨rfl,h⟩,f⟩:=h
 ·exact⟨n,d,k,.inl ⟨rfl,h.bu e⟩,f⟩
 ·exact absurd e (by show¬c∈[];simp)
@[irreducible] def MG(p q P Q:J):=fw P Q/\ca p q=ca P Q/\Q.aK<=P.aK/\P.aK+Q.aK=p.aK+q.aK
def MG.u{p q P Q:J}(h:MG p q P Q):=(MG.eq_1 ..).mp h
def alF{p q:J}(h:fw p q)(a:decide (p.aK<q.aK)=false):MG p q p q:=by have a:=cQ a;unfold MG;exact⟨h,rfl,O,rfl⟩
def alG{p q:J}(h:fw p q)(a:decide (p.aK<q.aK)=true):MG p q q p:=by
 have a:=dO a;have e:ca p q=ca q p:=by
  have b:=h;unfold fw at b;obtain⟨n,d,k,⟨rfl,g⟩|⟨rfl,g⟩,_⟩:=b
  ·exact(Lk g.bR n).symm
  ·exact Lk g.bR n
 unfold MG;exact⟨h.Bz,e,O,O⟩
@[irreducible] def ue(p q c d:J):=fw c d/\c.aK+d.aK<p.aK+q.aK
def ue.mu{p q d:J}(h:ue p q c d):fw c d:=by unfold ue at h;exact h.1
def ue.lt{p q:J}(h:ue p q c r):c.aK+r.aK<p.aK+q.aK:=by unfold ue at h;exact h.2
section
variable {p q P Q:J}(h:MG p q P Q)
include h
def MG.mu:fw P Q:=h.u.1
def MG.k0:∃n:Int,Q=kP n:=by
 have g:=h.u;have m:=g.1;unfold fw at m;obtain⟨n,d,k,⟨rfl,s⟩|⟨rfl,s⟩,b,_⟩:=m
 ·exact⟨n,rfl⟩
 ·have c:Q.aK<=0:=g.2.2.1;have a:=s.bR.lv;exact⟨_,s.bR.sX O⟩
def MG.sl(b:Q.aK<P.aK)(a:c∈P.aL):ue p q c Q:=by have g:=h.u;unfold ue;exact⟨g.1.kl b a,by have:=g.1.a.bR.kl a;omega⟩
theorem MG.e:ca p q=if cP P||cP Q then zP else if P.aK=0 then kP (cV P*cV Q)else .mk P.aK false [] (P.aL.map λc=>ca c Q):=by
 rw[h.u.2.1];obtain⟨m,rfl⟩:=h.k0;have e:(λc=>ca c (kP m))=lh m:=funext λc=>zn c m
 rw[zn,GQ,xG,yY,e]
def MG.z(a:cP P=true\/cP Q=true):ca p q=zP:=by rw[h.e];rcases a with e|e<;>rw[e]<;>simp
def MG.k(b:cP P=false)(a:cP Q=false)(c:(P.aK==0)=true):ca p q=kP (cV P*cV Q):=by rw[h.e,b,a,Z ai,aM (an c)]
def MG.no(b:(P.aK==0)=false)(a:decide (Q.aK<P.aK)=false):False:=by obtain⟨m,rfl⟩:=h.k0;have b:P.aK≠0:=an b;have a:¬0<P.aK:=cQ a;have:=h.mu.a.bR.lv;omega
theorem MG.dg:Dg P.aC/\Dg Q.aC/\(P.aC.length<=47\/Q.aC.length<=47)/\P.aC.length+Q.aC.length<=1099511627776:=by
 have g:=h.mu;refine⟨g.a.dg,g.b.dg,?_,?_⟩
 ·unfold fw at g;obtain⟨n,d,k,⟨rfl,s⟩|⟨rfl,s⟩,c,_⟩:=g
  ·exact .inr (Q4 c)
  ·exact .inl (Q4 c)
 ·have b:=g.a;have a:=g.b;unfold CZ at b a;obtain⟨d,k,m,i,b⟩:=b;obtain⟨e,l,j,f,a⟩:=a;have r:=(Sz.pb b.bR (bK _) b.dl b.nm O).aC;have o:=(Sz.pb a.bR (bK _) a.dl a.nm O).aC;omega
end
@[irreducible] def tv(p q:J)(x:Nat):List J:=(p.aL.take x).map (λc=>ca c q)++List.replicate (p.aL.length-x) zP
def azK(p q:J):tv p q 0=List.replicate p.aL.length zP:=by unfold tv;simp
def adF{p q:J}(h:x<=p.aL.length):(tv p q x).length=p.aL.length:=by unfold tv;simp;omega
def azM{p q:J}(a:decide ((x:Int)<p.aL.length)=true)(b:p.aL[(x:Int).toNat]?=some c):(tv p q x).set (x:Int).toNat (ca c q)=tv p q (x+1):=by unfold tv;exact TH (f:=λc=>ca c q) a b
def azL{p q:J}(a:decide ((x:Int)<p.aL.length)=false)(h:x<=p.aL.length):tv p q x=p.aL.map λc=>ca c q:=by unfold tv;exact Ql (f:=λc=>ca c q) a h
@[irreducible] def ML(p q P Q:J)(x:Nat):=MG p q P Q/\x<=P.aL.length/\cP P=false/\cP Q=false/\P.aK≠0/\Q.aK<P.aK
def ML.u{p q P Q:J}{x:Nat}(h:ML p q P Q x):=(ML.eq_1 ..).mp h
def alH{p q P Q:J}(h:MG p q P Q)(a:cP P=false)(b:cP Q=false)(c:(P.aK==0)=false)(d:decide (Q.aK<P.aK)=true):ML p q P Q 0:=by unfold ML;exact⟨h,dz _,a,b,by simpa using c,dO d⟩
def alI{p q P Q:J}(h:ML p q P Q x)(a:P.aL[(x:Int).toNat]?=some c):ML p q P Q (x+1):=by have g:=h.u;unfold ML;exact⟨g.1,ns a,g.2.2⟩
def II{p q P Q:J}(h:ML p q P Q x)(a:decide ((x:Int)<P.aL.length)=false):ca p q=.mk P.aK false [] (tv P Q x):=by have g:=h.u;rw[azL a g.2.1,g.1.e,g.2.2.1,g.2.2.2.1,Z ai,Z g.2.2.2.2.1]
theorem ML.len{p q P Q:J}{x:Nat}(h:ML p q P Q x):x<=P.aL.length/\P.aL.length<=13:=⟨h.u.2.1,h.u.1.mu.a.len⟩
abbrev IHm(p q:J):Prop:=∀c d:J,ue p q c d->bh 272 [wE .aF c,wE .aF d] (eT .aF (ca c d))
theorem az9(p q:J)(h:fw p q)(f:IHm p q):bh 272 [wE .aF p,wE .aF q] (eT .aF (ca p q)):=by
 refine vF func272 rfl [JU,Zj,uq Vw 272 (.el W.aF) (.el W.aF) (λ(c:J)(d:J)=>ue p q c d) (λ(c:J)(d:J)=>eT .aF (ca c d)) (λc d g=>f c d g)] [(4000003,⟨J×J,λv=>⟨[(2,br 0),(3,br 1),(4,br 2)],[(0,.cells [cG v.1.aK,.d (.cK v.1.neg),.d (.bN (U:=Un) W.u32 v.1.aC),.d (.bN (U:=Un) W.aF v.1.aL)]),(1,.cells [cG v.2.aK,.d (.cK v.2.neg),.d (.bN (U:=Un) W.u32 v.2.aC),.d (.bN (U:=Un) W.aF v.2.aL)]),(2,cj .aF zP)],3⟩,λv=>MG p q v.1 v.2/\True,λ_=>0⟩),(10,⟨J×Nat×J,λv=>⟨[(2,br 0),(3,br 1),(4,br 2),(5,.e (.c (.aX 3 (U:=Un) W.aF v.1.aL.length))),(53,lT .aF v.1.aL),(54,iT v.1.aL.length),(55,iT v.2.1)],[(0,.cells [cG v.1.aK,.d (.cK v.1.neg),.d (.bN (U:=Un) W.u32 v.1.aC),.d (.bN (U:=Un) W.aF v.1.aL)]),(1,.cells [.d (.sc (.int .i64 v.2.2.aK)),.d (.cK v.2.2.neg),.d (.bN (U:=Un) W.u32 v.2.2.aC),.d (.bN (U:=Un) W.aF v.2.2.aL)]),(2,cj .aF zP),(3,.aW (U:=Un) W.aF (tv v.1 v.2.2 v.2.1))],4⟩,λv=>ML p q v.1 v.2.2 v.2.1/\True,λv=>v.1.aL.length-v.2.1⟩)] ?_;repeat' (first
  |((with_reducible show mt _ _ _ _ _);(conv=>whnf);(fail_if_success with_reducible show mt _ _ _ _ _))
  |with_reducible rfl
  |intro _
  |apply aQ
  |have g:decide (p.aK<q.aK)=true:=(by with_reducible assumption);refine @aS (J×J->Prop) _ (λw=>w.2.aK<w.1.aK) (@aS (J×J) _ (q,p) (aQ ?_ λ(v:J×J)(a:MG p q v.1 v.2/\True)(i:v.2.aK<v.1.aK)=>?_))
  |have g:decide (p.aK<q.aK)=false:=(by with_reducible assumption);refine @aS (J×J->Prop) _ (λ_=>True) (@aS (J×J) _ (p,q) (aQ ?_ λ(v:J×J)(a:MG p q v.1 v.2/\True)(_:True)=>?_))
  |exact(MG.no a.1 ak ak).elim
  |refine @aS (J×Nat×J) _ (v.1,0,v.2) (aQ ?_ λ(w:J×Nat×J)(b:ML p q w.1 w.2.2 w.2.1/\True)=>?_)
  |refine @aS (J×Nat×J) _ (w.1,w.2.1+1,w.2.2) ?_
  |fail)
 all_goals first|exact bj|omega| (with_reducible first|exact alG h g|exact alF h g)|((with_reducible show J.aK _<J.aK _);exact dO g)| (with_reducible first|exact aKi|exact aKj|exact aKk|exact aKl)|((with_reducible show(0:Int)=((_:Nat):Int));rfl)|((with_reducible show _=J.aK _);first|(rename_i g;first|exact ajG (MG.z a.1 (.inl (ze g)))|exact ajG (MG.z a.1 (.inr (ze g))))|rename_i g;exact ayw (MG.k a.1 (vW ak) (vW ak) g)|rename_i g;exact aB_ (II b.1 g))|((with_reducible show _=J.neg _);first|(rename_i g;first|exact ajH (MG.z a.1 (.inl (ze g)))|exact ajH (MG.z a.1 (.inr (ze g))))|rename_i g;exact ayx (MG.k a.1 (vW ak) (vW ak) g)|rename_i g;exact aCa (II b.1 g))|((with_reducible show J.aC _=_);first|(rename_i g;first|exact ajI (MG.z a.1 (.inl (ze g)))|exact ajI (MG.z a.1 (.inr (ze g))))|rename_i g;exact aCb (II b.1 g))|((with_reducible show _=J.aC _);(rename_i g;exact ayy (MG.k a.1 (vW ak) (vW ak) g)))|((with_reducible show J.aL _=_);first|(rename_i g;first|exact ajJ (MG.z a.1 (.inl (ze g)))|exact ajJ (MG.z a.1 (.inr (ze g))))|rename_i g;exact ayz (MG.k a.1 (vW ak) (vW ak) g))|((with_reducible show _=J.aL _);(rename_i g;exact aCc (II b.1 g)))| (with_reducible first|exact a.1.dg.2.2.1|exact a.1.dg.2.2.2)|((with_reducible show b5 _);first|exact a.1.dg.1 _ Y|exact a.1.dg.2.1 _ Y)|with_reducible exact bt _|((with_reducible show List.replicate _ _=tv _ _ _);rw[bt];exact(azK _ _).symm)|with_reducible exact alH a.1 (vW ak) (vW ak) ak ak|((with_reducible show ue p q _ _);simp only[bz];with_reducible exact b.1.u.1.sl b.1.u.2.2.2.2.2 (bM Y))|simp only[bz];with_reducible exact azM Y Y| (with_reducible first|exact alI b.1 Y|exact(adF b.1.u.2.1).symm)|(have k:=a.1.mu.a.len;first|omega|show 64*_<=_;omega|show _<=1000000;omega)|(have k:=b.1.len;have l:=adF (q:=w.2.2) k.1;simp only[be,bc]at*;first|omega|show w.1.aL.length-(w.2.1+1)<w.1.aL.length-w.2.1;omega)
def az7(p q:J)(h:fw p q):bh 272 [wE .aF p,wE .aF q] (eT .aF (ca p q)):=by
 have a:∀(n:Nat)(p q:J),fw p q->p.aK+q.aK<n->bh 272 [wE .aF p,wE .aF q] (eT .aF (ca p q)):=by
  intro n
  induction n with
  |zero=>intro p q h b;have:=h.a.bR.lv;have:=h.b.bR.lv;exact absurd b O
  |succ n e=>intro p q h b;exact az9 p q h λc d g=>e c d g.mu (by have:=g.lt;omega)
 exact a (p.aK+q.aK+1).toNat p q h (by have:=h.a.bR.lv;have:=h.b.bR.lv;omega)
def Zk:=eI (.el W.aF) (.el W.aF) az7
@[irreducible] def pX(p:J)(c:aY):=fw p (kP (iV c))/\rO c
def pX.mu(h:pX p U):fw p (kP (iV U)):=by unfold pX at h;exact h.1
def pX.sd{c:aY}(h:pX p c):rO c:=by unfold pX at h;exact h.2
def pX.of{c:aY}(h:fw p (kP (iV c)))(a:rO c):pX p c:=by unfold pX;exact⟨h,a⟩
def aGO:rO (iD (-1)):=⟨dH (ur (k:=1) ae:(iD (-1)).aC.length<=1) O,iv _⟩
def Ky(n:Int):iV ⟨(iD n).neg,(iD n).aC⟩=n:=fU n
theorem aGD(p:J)(c:aY)(h:pX p c):bh 225 [wE .aF p,wE .cM c] (eT .aF (ca p (kP (iV c)))):=by
 refine vF func225 rfl [Pn,Zk] [] ?_;repeat' first|intro _|apply aQ
 all_goals first|exact bj|((with_reducible show(_&&_)=true);kernel_rfl)|exact h.sd.1|exact h.sd.2 _ Y|show fw _ _;rw[bz,bz];exact h.mu|rw[bz,bz];done
def asC:=eI (.el W.aF) (.el W.cM) aGD
theorem aml(p:J)(c:aY)(h:pX p c):bh 245 [wE .aF p,wE .cM c] (eT .aF (ca p (kP (iV c)))):=by
 refine vF func245 rfl [CJ,asC,CK] [] ?_;repeat' first|intro _|apply aQ
 all_goals first|exact bj|((with_reducible show(_&&_)=true);kernel_rfl)|with_reducible exact h.mu.a.cs.e|show pX _ _;simp only[bz];exact h|show kY _;simp only[bz];exact h.mu.r.sm|simp only[bz];exact bi _ (Pz h.mu.r)
def Y7:=eI (.el W.aF) (.el W.cM) aml
theorem alS(p:J)(h:fw p (kP (-1))):bh 240 [wE .aF p] (eT .aF (li p)):=by
 refine vF func240 rfl [CN,Y7] [] ?_;repeat' first|intro _|apply aQ
 all_goals first|exact bj|((with_reducible show(_&&_)=true);kernel_rfl)|omega|show pX _ _;simp only[bz];exact pX.of (by rw[Ky];exact h) aGO|simp only[bz];rw[Ky];rfl
def Y6:=dj (.el W.aF) alS
theorem ajT(p q:J)(h:sB p q):bh 280 [wE .aF p,wE .aF q] (eT .aF (lG p q)):=by
 refine vF func280 rfl [CJ,arx,CK] [] ?_;repeat' first|intro _|apply aQ
 all_goals first|exact bj|((with_reducible show(_&&_)=true);kernel_rfl)| (with_reducible first|exact h.a.cs.e|exact h.b.cs.e)|show tR [_,_];simp only[bz];exact ad2 h.a h.b|show kY _;simp only[bz];exact h.r.sm|simp only[bz];exact bi _ (Pz h.r)
def aro:=eI (.el W.aF) (.el W.aF) ajT
theorem alQ(p q:J)(h:fw p q):bh 244 [wE .aF p,wE .aF q] (eT .aF (ca p q)):=by
 refine vF func244 rfl [CJ,Zk,CK] [] ?_;repeat' first|intro _|apply aQ
 all_goals first|exact bj|((with_reducible show(_&&_)=true);kernel_rfl)| (with_reducible first|exact h.a.cs.e|exact h.b.cs.e)|show fw _ _;simp only[bz];exact h|show kY _;simp only[bz];exact h.r.sm|simp only[bz];exact bi _ (Pz h.r)
def arv:=eI (.el W.aF) (.el W.aF) alQ
@[irreducible] def C2(p q:J):=bQ 4 p/\bQ 4 q
def C2.a(h:C2 p q):bQ 4 p:=by unfold C2 at h;exact h.1
def C2.b(h:C2 p q):bQ 4 q:=by unfold C2 at h;exact h.2
def C2.of(h:bQ 4 p)(c:bQ 4 q):C2 p q:=by unfold C2;exact⟨h,c⟩
theorem C2.bu{p q x y:J}{i:Nat}(h:C2 p q)(d:p.aL[(i:Int).toNat]?=some x)(c:q.aL[(i:Int).toNat]?=some y):C2 x y:=by have a:=h.a.lv;have b:=h.b.lv;exact .of ((h.a.bu (bM d)).mono O) ((h.b.bu (bM c)).mono O)
def C2.dg(h:C2 p q)(c:(p.aK==0)=true)(d:(p.aK !=q.aK)=false):Dg p.aC/\Dg q.aC/\decide (iV ⟨p.neg,p.aC⟩=iV ⟨q.neg,q.aC⟩)=ij p q:=by
 have c:p.aK=0:=an c;have d:p.aK=q.aK:=an d;have a:=h.a.sX c;have b:=h.b.sX O;refine⟨by rw[a];exact iv _,by rw[b];exact iv _,?_⟩;rw[oV,be,Hs];constructor
 ·intro e;rw[a,b];exact bi kP e
 ·intro e;rw[e]
def C2.sI(h:C2 p q)(c:(p.aK==0)=false)(d:(p.aK !=q.aK)=false):wy ⟨p.neg,p.aC⟩ ⟨q.neg,q.aC⟩=true:=by have c:p.aK≠0:=an c;have d:p.aK=q.aK:=an d;obtain⟨_,_,_,_,a,_⟩:=h.a.Cq c;obtain⟨_,_,_,_,b,_⟩:=h.b.Cq O;rw[a,b];exact ag8.2 ⟨rfl,rfl⟩
@[irreducible] def xh(p q:J)(i:Nat):Prop:=i<=p.aL.length/\p.aK=q.aK/\p.aL.length=q.aL.length/\wy ⟨p.neg,p.aC⟩ ⟨q.neg,q.aC⟩=true/\jk (p.aL.take i) (q.aL.take i)=true
def Cj:xh p q i↔(i<=p.aL.length/\p.aK=q.aK/\p.aL.length=q.aL.length/\wy ⟨p.neg,p.aC⟩ ⟨q.neg,q.aC⟩=true/\jk (p.aL.take i) (q.aL.take i)=true):=by unfold xh;exact Iff.rfl
def amt(h:C2 p q)(b:(p.aK==0)=false)(a:(p.aK !=q.aK)=false)(c:((p.aL.length:Int) !=(q.aL.length:Int))=false):xh p q 0:=by refine Cj.2 ⟨dz _,by simpa using a,?_,h.sI b a,by rw[gx,gx,jk]⟩;have:(p.aL.length:Int)=q.aL.length:=an c;omega
def amv(h:xh p q i/\True):i<=p.aL.length/\p.aL.length=q.aL.length:=⟨(Cj.1 h.1).1,(Cj.1 h.1).2.2.1⟩
def amw(h:xh p q i/\True)(a:p.aL[(i:Int).toNat]?=some c)(b:q.aL[(i:Int).toNat]?=some r)(d:(!ij (.mk c.aK c.neg c.aC c.aL) (.mk r.aK r.neg r.aC r.aL))=false):xh p q (i+1):=by have g:=Cj.1 h.1;exact Cj.2 ⟨ns a,g.2.1,g.2.2.1,g.2.2.2.1,aGu g.2.2.2.2 a b d⟩
def amu(h:xh p q i/\True)(a:decide ((i:Int)<p.aL.length)=false):true=ij p q:=aGq (Cj.1 h.1) a
def adv(a:p.aL[(i:Int).toNat]?=some q):J.mk q.aK q.neg q.aC q.aL∈p.aL:=by rw[bz];exact bM a
theorem aGk(p q:J)(h:C2 p q):bh 211 [wE .aF p,wE .aF q] (bT (ij p q)):=by
 generalize j:SizeOf.sizeOf p=D
 induction D using Nat.strongRecOn generalizing p q
 rename_i D f;subst j;refine vF func211 rfl [asB,uq Vw 211 (.el W.aF) (.el W.aF) (λ(x:J)(y:J)=>x∈p.aL/\C2 x y) (λ(x:J)(y:J)=>bT (ij x y)) (λx y a=>f _ (J.lt a.1) x y a.2 rfl)] [(6,⟨Nat,λi=>⟨[(2,br 0),(3,br 1),(30,iT p.aL.length),(31,iT i)],[(0,.cells [cG p.aK,.d (.cK p.neg),.d (.bN (U:=Un) W.u32 p.aC),.d (.bN (U:=Un) W.aF p.aL)]),(1,.cells [cG q.aK,.d (.cK q.neg),.d (.bN (U:=Un) W.u32 q.aC),.d (.bN (U:=Un) W.aF q.aL)])],2⟩,λx=>xh p q x/\True,λi=>p.aL.length-i⟩)] ?_;repeat' first|intro _|apply aQ|refine aS 0 (aQ ?_ λ(x:Nat)(c:xh p q x/\True)=>?_)|refine aS (x+1) ?_
 all_goals first|exact bj|with_reducible rfl|((with_reducible show(_&&_)=true);kernel_rfl)|omega|rename_i g;exact aGr (g:(p.aK !=q.aK)=!false)|rename_i g;exact aGs (g:((p.aL.length:Int) !=(q.aL.length:Int))=!false)|exact(h.dg Y Y).2.2|exact(h.dg ‹(p.aK==0)=true› Y).1 _ Y|exact(h.dg ‹(p.aK==0)=true› Y).2.1 _ Y|exact amt h Y Y Y|exact amu c Y|have g:=amv c;simp only[be]at*;omega|(rename_i a _ b;first|exact adv a|show C2 _ _;simp only[bz];exact h.bu a b)|(rename_i a _ b e;first|exact aGt a b e|exact amw c a b e)
def asA:=eI (.el W.aF) (.el W.aF) aGk
@[irreducible] def Z2(p q:J):=CZ p/\CZ q
def Z2.a(h:Z2 p q):CZ p:=by unfold Z2 at h;exact h.1
def Z2.b(h:Z2 p q):CZ q:=by unfold Z2 at h;exact h.2
def Z2.of(h:CZ p)(c:CZ q):Z2 p q:=by unfold Z2;exact⟨h,c⟩
theorem amk(p q:J)(h:Z2 p q):bh 164 [wE .aF p,wE .aF q] (bT (ij p q)):=by
 refine vF func164 rfl [CJ,asA] [] ?_;repeat' first|intro _|apply aQ
 all_goals first|exact bj|((with_reducible show(_&&_)=true);kernel_rfl)| (with_reducible first|exact h.a.cs.e|exact h.b.cs.e)|show C2 _ _;simp only[bz];exact .of h.a.bR h.b.bR|simp only[bz];done
def Pj:=eI (.el W.aF) (.el W.aF) amk
theorem axF(n:Int):bh 72 [wI .i64 n] (bT (decide (1<=n/\n<=4))):=by
 refine vF func72 rfl [] [] ?_;repeat' first|intro _|apply aQ
 all_goals first|exact bj|rw[oV];simp only[be,bc,jq,false_iff]at*;omega|simp at*;omega
def JS:=dj (.int .i64) λn (_:True)=>axF n
@[irreducible] def yn(a:Int)(b:List J)(i:Nat):Int:=iW a (b.take i)
theorem Z0(a:Int)(c:J):∀l,iW a (l++[c])=max (iW a l) (gh a c)
 |[]=>by simp only[gf,iW];omega
 |d::l=>by rw[eB,iW,iW,Z0 a c l];omega
def aku(a:Int)(b:List J):yn a b 0=0:=by unfold yn;rw[gx,iW]
def akw(h:X[(x:Int).toNat]?=some c):max (yn l X x) (gh l c)=yn l X (x+1):=by unfold yn;rw[BA h,Z0]
def akv{cs:List J}(h:decide ((x:Int)<cs.length)=false):yn l cs x=iW l cs:=by simp only[bc]at h;unfold yn;rw[eL O]
def dg1(h:decide (p.aK<l)=true):0=gh l p:=by rw[JX,aM (dO h)]
def dg2(h:decide (p.aK<l)=false)(a:(p.aK==l)=true):(p.aL.length:Int)-1=gh l p:=by rw[JX,Z (cQ h),aM (an a)]
def dg3(h:decide (p.aK<l)=false)(a:(p.aK==l)=false):iW l p.aL=gh l p:=by rw[JX,Z (cQ h),Z (an a)]
theorem as_(p:J)(a:Int):bh 73 [wE .aF p,wI .i64 a] (iT (gh a p)):=by
 generalize d:SizeOf.sizeOf p=D
 induction D using Nat.strongRecOn generalizing p a
 rename_i D c;subst d;refine vF func73 rfl [uq Vw 73 (.el W.aF) (.int .i64) (λ(x:J)(_:Int)=>x∈p.aL) (λ(x:J)(a:Int)=>iT (gh a x)) (λx a b=>c _ (J.lt b) x a rfl)] [(7,⟨Nat,λx=>⟨[(1,iT a),(5,iT (yn a p.aL x)),(23,lT .aF p.aL),(24,iT p.aL.length),(25,iT x)],[],0⟩,λx=>x<=p.aL.length/\True,λx=>p.aL.length-x⟩)] ?_;repeat' first|intro _|apply aQ|refine aS 0 (aQ ?_ λ(x:Nat)(e:x<=p.aL.length/\True)=>?_)|refine aS (x+1) ?_
 all_goals first|exact bj|with_reducible rfl|omega|exact(aku a p.aL).symm|exact dg1 Y|exact dg2 Y Y|rw[akv Y];exact dg3 Y Y|rename_i b;exact adv b|rename_i b;rw[bz];exact akw b|simp only[be]at*;omega
def Zc:=eI (.el W.aF) (.int .i64) λp a (_:True)=>as_ p a
@[irreducible] def my(a:Int):=1<=a/\a<=4
def my.u{a:Int}(h:my a):=(my.eq_1 ..).mp h
def my.d(h:my l)(a:(!decide (1<=l/\l<=4))=true):False:=by have:=h.u;simp[this]at a
@[irreducible] def ZL(p:J)(a:Int):=CZ p/\my a
def ZL.a{lv:Int}(h:ZL p lv):CZ p:=by unfold ZL at h;exact h.1
def ZL.b{lv:Int}(h:ZL p lv):my lv:=by unfold ZL at h;exact h.2
def ZL.of{lv:Int}(h:CZ p)(c:my lv):ZL p lv:=by unfold ZL;exact⟨h,c⟩
theorem akt(p:J)(a:Int)(h:ZL p a):bh 35 [wE .aF p,wI .i64 a] (iT (ez p a)):=by
 refine vF func35 rfl [asn,JT,JS,Zc] [] ?_;repeat' first|intro _|apply aQ
 all_goals first|exact bj|with_reducible exact h.a.cs.e|show CS _;simp only[bz];exact h.a.cs|exact(h.b.d Y).elim|simp only[bz]at*;unfold ez;simp only[*];rfl
def CI:=eI (.el W.aF) (.int .i64) akt
@[irreducible] def JP(b:List J)(a:Int):Prop:=my a/\b8 (.mk a false [] b)
def JP.a{lv:Int}(h:JP X lv):my lv:=by unfold JP at h;exact h.1
def JP.b(h:JP X l):b8 (.mk l false [] X):=by unfold JP at h;exact h.2
theorem alf(b:List J)(a:Int)(h:JP b a):bh 247 [wL .aF b,wI .i64 a] (eT .aF (qj b a)):=by
 refine vF func247 rfl [y5,JS] [] ?_;repeat' first|intro _|apply aQ
 all_goals first|exact bj|exact(h.a.d Y).elim|exact h.b|unfold qj;with_reducible rfl
def aru:=eI (.ls W.aF) (.int .i64) alf
def aus:gv prog 276:=gY func276 af rfl
def F2(d:Nat):Ct prog Un where
 f:=1000000+d
 run:=λ_ _=>False
 ok:=λ_ _ h=>h.elim
def ae8(l:List J):(ST.e (U:=Un) (.c (.aX 0 W.aF l.length))).aI.cA 0 (bG (U:=Un) W.aF l)=(lT .aF l).aI:=
 bi (λv=>T.e (E.c v)) (G2 Vw (φ:=True) (show zy (U:=Un) 0 W.aF l (.aX 0 W.aF l.length) True from⟨rfl,trivial⟩)).2.symm
def nU(p:J)(j x:Nat):Int:=if j<x then p.aK else 0
def kJ(p:J)(j x:Nat):List J:=if j<x then List.replicate p.aL.length zP else []
def adm(h:(x:Int)=(i:Int))(a:j≠i):nU p j x=nU p j (x+1):=by have e:(j<x)=(j<x+1):=propext ⟨λ_=>O,λ_=>O⟩;unfold nU;simp only[e]
def Le(h:(x:Int)=(i:Int))(a:j≠i):kJ p j x=kJ p j (x+1):=by have e:(j<x)=(j<x+1):=propext ⟨λ_=>O,λ_=>O⟩;unfold kJ;simp only[e]
def K3(h:j<x):nU p j x=p.aK:=by unfold nU;rw[aM h]
def adl(h:(x:Int)=(i:Int)):p.aK=nU p i (x+1):=(K3 O).symm
def Ld(h:(x:Int)=(i:Int)):List.replicate ((p.aL.length:Nat):Int).toNat (J.mk 0 false [] [])=kJ p i (x+1):=by unfold kJ;rw[aM O,bt];rfl
def Rt(h:(x:Int)=(i:Int)):((p.aL.length:Nat):Int).toNat=(kJ p i (x+1)).length:=by rw[<-Ld h,xb]
@[irreducible] def eE(a:Int)(n:Nat)(p:J)(j y:Nat):List J:=(p.aL.take y).map (λc=>((cC a n c)[j]?).getD zP)++List.replicate (p.aL.length-y) zP
def O9(a:Int)(n:Nat)(p:J)(j:Nat)(h:y<=p.aL.length):(eE a n p j y).length=p.aL.length:=by unfold eE;simp;omega
def JD(a:Int)(n:Nat)(p:J)(h:j<x):kJ p j x=eE a n p j 0:=by unfold kJ eE;rw[aM h];simp
def O8(a:Int)(n:Nat)(p:J)(h:j<x):(kJ p j x).length=(eE a n p j 0).length:=by rw[JD a n p h]
def aq6(a:p.aL[y]?=some c)(d:(cC l n c)[j]?=some q):(eE l n p j y).set y q=eE l n p j (y+1):=by
 have f:=ns a;unfold eE;have b:((p.aL.take y).map λc=>((cC l n c)[j]?).getD zP).length=y:=by simp;omega
 rw[yB _ _ (by rw[b];omega),b,rM,fy,a,ia,gM];have e:p.aL.length-y=(p.aL.length-(y+1))+1:=O;rw[e,vp,xc];simp[d]
@[irreducible] def CF(p:J)(a:Int):=CZ p/\my a
def CFu(h:CF p l):CZ p/\1<=l/\l<=4:=by unfold CF my at h;exact h
theorem CF.bu{p:J}{lv:Int}(h:CF p lv){i:Nat}{c:J}(a:p.aL[i]?=some c):CF c lv:=by unfold CF at*;exact⟨h.1.bu c (bM a),h.2⟩
theorem CF.len{p:J}{a:Int}(h:CF p a):p.aL.length<=13:=(CFu h).1.len
def CF.e{lv:Int}(h:CF p lv):CF (.mk p.aK p.neg p.aC p.aL) lv:=by rw[bz];exact h
def Rp{l:List J}(h:l[i]?=some c):J.mk c.aK c.neg c.aC c.aL∈l:=by rw[bz];exact bM h
@[irreducible] def CX(p:J)(N y z:Nat)(c:J):=p.aL[y]?=some c/\z<=N
def U_{p:J}{N y z:Nat}{c:J}(h:CX p N y z c):=(CX.eq_1 ..).mp h
def Nf(N:Nat)(h:p.aL[(y:Int).toNat]?=some c):CX p N y 0 c:=by unfold CX;rw[bt]at h;exact⟨h,dz _⟩
def Ng(h:CX p x y j c)(a:j<x):CX p x y (j+1) c:=by unfold CX at*;exact⟨h.1,a⟩
def H5(h:CX p x y j c):y<p.aL.length:=ns (U_ h).1
def yz(y z j:Nat):Nat:=if j<z then y+1 else y
def En(y j:Nat):yz y 0 j=y:=by unfold yz;rw[Z O]
def Eo(h:j<x):yz y x j=y+1:=by unfold yz;rw[aM h]
def aKg(h:x≠j):yz y x j=yz y (x+1) j:=by unfold yz;split<;>split<;>omega
def as1(a:CX p x y i c)(f:i=j)(b:(cC l n c)[j]?=some q):(eE l n p j (yz y i j)).set y q=eE l n p j (yz y (i+1) j):=by
 have d:yz y i j=y:=by unfold yz;rw[Z O]
 have e:yz y (i+1) j=y+1:=by unfold yz;rw[aM O]
 rw[d,e];exact aq6 (U_ a).1 b
def U2(h:y<p.aL.length):yz y x j<=p.aL.length:=by unfold yz;split<;>omega
def OU(d:CX p x y i c)(a b:Nat):(eE l n p j (yz y a j)).length=(eE l n p j (yz y b j)).length:=by rw[O9 _ _ _ _ (U2 (H5 d)),O9 _ _ _ _ (U2 (H5 d))]
def Cz{lv:Int}(b:CX p x y i c)(a:Nat):y<(eE lv n p j (yz y a j)).length:=by rw[O9 _ _ _ _ (U2 (H5 b))];exact H5 b
def PA(b:CX p x y i c)(d:(i:Int)=(j:Int))(a:(cC l n c)[(i:Int).toNat]?=some q):(eE l n p j (yz y i j)).set (y:Int).toNat (.mk q.aK q.neg q.aC q.aL)=eE l n p j (yz y (i+1) j):=by have e:i=j:=O;subst e;rw[bt]at a⊢;rw[bz];exact as1 b rfl a
def Zx(h:(x:Int)=(i:Int))(a:j≠i):eE l n p j (yz y x j)=eE l n p j (yz y (x+1) j):=bi (eE l n p j) (aKg O)
def aqj(h:decide (p.aK<l)=true):cC l n p=p::List.replicate n zP:=by rw[CE,aM (dO h)]
def aqk(h:decide (p.aK<l)=false)(a:(p.aK==l)=true):cC l n p=p.aL.take (n+1)++List.replicate (n+1-p.aL.length) zP:=by rw[CE,Z (cQ h),aM (an a)]
def OZ(h:decide (p.aK<l)=true):cC l n p=.mk p.aK p.neg p.aC p.aL::List.replicate n (.mk 0 false [] []):=by rw[aqj h,bz];rfl
def O0(h:decide (p.aK<l)=false)(a:(p.aK==l)=true):List.take (List.replicate (n+1) zP).length p.aL++List.drop p.aL.length (List.replicate (n+1) zP)=cC l n p:=by rw[aqk h a,xb,List.drop_replicate]
def O1(h:decide (p.aK<l)=false)(b:(p.aK==l)=false)(a:decide ((y:Int)<p.aL.length)=false):cC l n p=(List.range (n+1)).map λi=>.mk p.aK false [] (eE l n p i y):=by have a:=cQ a;rw[CE,Z (cQ h),Z (an b)];congr 1;funext i;unfold eE;rw[eL O,show p.aL.length-y=0 by omega,NP,lB]
theorem aqZ(p:J)(lv:Int)(h:CF p lv)(f:∀c∈p.aL,CF c lv->bh 276 [wE .aF c,wI .i64 lv,iE 0] (lT .aF (cC lv 0 c))):dA prog 276 (bX (cy (U:=Un) [])) ([wE .aF p,wI .i64 lv,iE 0].map SE.aI) (bX (cy [(0,aZ.aW (U:=Un) W.aF (cC lv 0 p))])) (·∈[]) (ST.e (U:=Un) (.c (.aX 0 W.aF 1))).aI:=by
 refine vO func276 rfl ⟨[F2 15,CH Vw 276 (.el W.aF) (.int .i64) (.int .i64) (λ(c:J)(l k:Int)=>c∈p.aL/\CF c lv/\l=lv/\k=0) (λ(c:J)(l k:Int)=>lT .aF (cC l 0 c)) (λc l k o=>by obtain⟨s,r,rfl,rfl⟩:=o;exact f c s r)],[]⟩ [(3,⟨Nat,λx=>⟨[(1,iT lv),(2,iT 0),(3,br 0),(7,.e (.c (.aX 1 W.aF 1))),(17,iT 1),(18,iT x)],[(0,cj .aF p),(1,.cells [.d (.sc (.int .i64 (nU p 0 x))),iB,fL,.aX 2 W.aF (kJ p 0 x).length]),(2,.aW (U:=Un) W.aF (kJ p 0 x))],3⟩,λx=>x<=1/\True,λx=>1-x⟩),(8,⟨Nat,λy=>⟨[(1,iT lv),(2,iT 0),(7,.e (.c (.aX 1 W.aF 1))),(33,lT .aF p.aL),(34,iT p.aL.length),(35,iT y)],[(1,.cells [cG p.aK,iB,fL,.aX 2 W.aF (eE lv 0 p 0 y).length]),(2,.aW (U:=Un) W.aF (eE lv 0 p 0 y))],3⟩,λy=>y<=p.aL.length/\True,λy=>p.aL.length-y⟩),(1000011,⟨Nat×Nat×J,λw=>⟨[(1,iT lv),(2,iT 0),(7,.e (.c (.aX 1 W.aF 1))),(9,iT w.1),(33,lT .aF p.aL),(34,iT p.aL.length),(35,iT w.1),(43,lT .aF (cC lv 0 w.2.2)),(44,iT (cC lv 0 w.2.2).length),(45,iT w.2.1)],[(1,.cells [cG p.aK,iB,fL,.aX 2 W.aF (eE lv 0 p 0 (yz w.1 w.2.1 0)).length]),(2,.aW (U:=Un) W.aF (eE lv 0 p 0 (yz w.1 w.2.1 0)))],3⟩,λw=>CX p 1 w.1 w.2.1 w.2.2/\True,λw=>1-w.2.1⟩),(14000019,⟨Unit,λ_=>⟨[(3,br 0),(7,.e (.c (.aX 1 W.aF 1)))],[(0,cj .aF p),(1,.aW (U:=Un) W.aF (List.replicate 1 zP))],2⟩,λ_=>True,λ_=>0⟩),(6000020,⟨Unit,λ_=>⟨[(7,.e (.c (.aX 1 W.aF 1)))],[(1,.aW (U:=Un) W.aF (cC lv 0 p))],2⟩,λ_=>True,λ_=>0⟩)] [] ⟨[(6,.e (.c (.aX 0 W.aF 1)))],[(0,.aW (U:=Un) W.aF (cC lv 0 p))],2⟩ ?_;repeat' (first
  |((with_reducible show mt _ _ _ _ _);(conv=>whnf);(fail_if_success with_reducible show mt _ _ _ _ _))
  |intro _|apply aQ
  |refine @aS (Unit->Prop) _ (λ_=>True) (@aS Unit _ () (aQ ?_ λ_ _ _=>?_))
  |refine @aS (Nat×Nat×J->Prop) _ (λb=>b.1=y) (@aS (Nat×Nat×J) _ (y,0,?_) (aQ ?_ λ(w:Nat×Nat×J)(a:CX p 1 w.1 w.2.1 w.2.2/\True)(m:w.1=y)=>?_))
  |refine @aS (Nat×Nat×J) _ (w.1,w.2.1+1,w.2.2) ?_
  |refine @aS Nat _ (w.1+1) ?_
  |refine @aS Nat _ 0 (aQ ?_ λ(y:Nat)(t:y<=p.aL.length/\True)=>?_)
  |refine @aS Nat _ 0 (aQ ?_ λ(x:Nat)(u:x<=1/\True)=>?_)
  |refine @aS Nat _ (x+1) ?_
  |refine @aS Nat _ 1 ?_
  |fail)
 all_goals(try clear f)
 all_goals(try simp only[bz,fI]at*)
 all_goals first|exact bj|with_reducible rfl|omega|((with_reducible show(_&&_)=true);kernel_rfl)|exact bi (cC lv 0) (bz _)|exact bi (λq=>((cC lv 0 q).length:Int)) (bz _)|have g:=kE lv 0 w.2.2;simp only[be]at*;omega|have g:=Cz (lv:=lv) (n:=0) (j:=0) a.1 w.2.1;omega|exact PA a.1 Y ‹(cC _ _ _)[_]?=_›|exact OU a.1 _ _|exact bi (eE lv 0 p _) (Eo (by have g:=kE lv 0 w.2.2;simp only[bc]at*;omega))|exact bi (λi=>(eE lv 0 p _ i).length) (Eo (by have g:=kE lv 0 w.2.2;simp only[bc]at*;omega))|exact bi (eE lv 0 p _) (En _ _).symm|exact bi (λi=>(eE lv 0 p _ i).length) (En _ _).symm|exact Ng a.1 (by have g:=kE lv 0 w.2.2;simp only[be]at*;omega)|exact Rp Y|exact(h.bu Y).e|exact Nf _ Y|exact(O1 (n:=0) Y Y Y).symm|(with_reducible show _=nU _ _ _;unfold nU;split<;>first|rfl|omega)|have e:mi.dF=64:=rfl;rw[e];omega|have g:=h.len;have e:mi.dF=64:=rfl;rw[e];omega|have g:=h.len;omega|simp only[be,bc,gQ,jJ,iI]at*;omega|exact(OZ (n:=0) Y).symm|exact O0 (n:=0) Y Y|exact Ld Y|exact Rt Y|exact K3 (by simp only[bc]at*;omega)|exact O8 _ _ _ (by simp only[bc]at*;omega)|exact JD _ _ _ (by simp only[bc]at*;omega)|(unfold kJ;split<;>first|rfl|exfalso;omega|simp;done)|rfl
theorem aq0(p:J)(lv:Int)(h:CF p lv)(f:∀c∈p.aL,CF c lv->bh 276 [wE .aF c,wI .i64 lv,iE 1] (lT .aF (cC lv 1 c))):dA prog 276 (bX (cy (U:=Un) [])) ([wE .aF p,wI .i64 lv,iE 1].map SE.aI) (bX (cy [(0,aZ.aW (U:=Un) W.aF (cC lv 1 p))])) (·∈[]) (ST.e (U:=Un) (.c (.aX 0 W.aF 2))).aI:=by
 refine vO func276 rfl ⟨[F2 15,CH Vw 276 (.el W.aF) (.int .i64) (.int .i64) (λ(c:J)(l k:Int)=>c∈p.aL/\CF c lv/\l=lv/\k=1) (λ(c:J)(l k:Int)=>lT .aF (cC l 1 c)) (λc l k o=>by obtain⟨s,r,rfl,rfl⟩:=o;exact f c s r)],[]⟩ [(3,⟨Nat,λx=>⟨[(1,iT lv),(2,iT 1),(3,br 0),(7,.e (.c (.aX 1 W.aF 2))),(17,iT 2),(18,iT x)],[(0,cj .aF p),(1,.cells [.d (.sc (.int .i64 (nU p 0 x))),iB,fL,.aX 2 W.aF (kJ p 0 x).length,.d (.sc (.int .i64 (nU p 1 x))),iB,fL,.aX 3 W.aF (kJ p 1 x).length]),(2,.aW (U:=Un) W.aF (kJ p 0 x)),(3,.aW (U:=Un) W.aF (kJ p 1 x))],4⟩,λx=>x<=2/\True,λx=>2-x⟩),(8,⟨Nat,λy=>⟨[(1,iT lv),(2,iT 1),(7,.e (.c (.aX 1 W.aF 2))),(33,lT .aF p.aL),(34,iT p.aL.length),(35,iT y)],[(1,.cells [cG p.aK,iB,fL,.aX 2 W.aF (eE lv 1 p 0 y).length,cG p.aK,iB,fL,.aX 3 W.aF (eE lv 1 p 1 y).length]),(2,.aW (U:=Un) W.aF (eE lv 1 p 0 y)),(3,.aW (U:=Un) W.aF (eE lv 1 p 1 y))],4⟩,λy=>y<=p.aL.length/\True,λy=>p.aL.length-y⟩),(1000011,⟨Nat×Nat×J,λw=>⟨[(1,iT lv),(2,iT 1),(7,.e (.c (.aX 1 W.aF 2))),(9,iT w.1),(33,lT .aF p.aL),(34,iT p.aL.length),(35,iT w.1),(43,lT .aF (cC lv 1 w.2.2)),(44,iT (cC lv 1 w.2.2).length),(45,iT w.2.1)],[(1,.cells [cG p.aK,iB,fL,.aX 2 W.aF (eE lv 1 p 0 (yz w.1 w.2.1 0)).length,cG p.aK,iB,fL,.aX 3 W.aF (eE lv 1 p 1 (yz w.1 w.2.1 1)).length]),(2,.aW (U:=Un) W.aF (eE lv 1 p 0 (yz w.1 w.2.1 0))),(3,.aW (U:=Un) W.aF (eE lv 1 p 1 (yz w.1 w.2.1 1)))],4⟩,λw=>CX p 2 w.1 w.2.1 w.2.2/\True,λw=>2-w.2.1⟩),(14000019,⟨Unit,λ_=>⟨[(3,br 0),(7,.e (.c (.aX 1 W.aF 2)))],[(0,cj .aF p),(1,.aW (U:=Un) W.aF (List.replicate 2 zP))],2⟩,λ_=>True,λ_=>0⟩),(6000020,⟨Unit,λ_=>⟨[(7,.e (.c (.aX 1 W.aF 2)))],[(1,.aW (U:=Un) W.aF (cC lv 1 p))],2⟩,λ_=>True,λ_=>0⟩)] [] ⟨[(6,.e (.c (.aX 0 W.aF 2)))],[(0,.aW (U:=Un) W.aF (cC lv 1 p))],2⟩ ?_;repeat' (first
  |((with_reducible show mt _ _ _ _ _);(conv=>whnf);(fail_if_success with_reducible show mt _ _ _ _ _))
  |intro _|apply aQ
  |refine @aS (Unit->Prop) _ (λ_=>True) (@aS Unit _ () (aQ ?_ λ_ _ _=>?_))
  |refine @aS (Nat×Nat×J->Prop) _ (λb=>b.1=y) (@aS (Nat×Nat×J) _ (y,0,?_) (aQ ?_ λ(w:Nat×Nat×J)(a:CX p 2 w.1 w.2.1 w.2.2/\True)(m:w.1=y)=>?_))
  |refine @aS (Nat×Nat×J) _ (w.1,w.2.1+1,w.2.2) ?_
  |refine @aS Nat _ (w.1+1) ?_
  |refine @aS Nat _ 0 (aQ ?_ λ(y:Nat)(t:y<=p.aL.length/\True)=>?_)
  |refine @aS Nat _ 0 (aQ ?_ λ(x:Nat)(u:x<=2/\True)=>?_)
  |refine @aS Nat _ (x+1) ?_
  |refine @aS Nat _ 2 ?_
  |fail)
 all_goals(try clear f)
 all_goals(try simp only[bz,fI]at*)
 all_goals first|exact bj|with_reducible rfl|omega|((with_reducible show(_&&_)=true);kernel_rfl)|exact bi (cC lv 1) (bz _)|exact bi (λq=>((cC lv 1 q).length:Int)) (bz _)|have g:=kE lv 1 w.2.2;simp only[be]at*;omega|have g:=Cz (lv:=lv) (n:=1) (j:=0) a.1 w.2.1;omega|have g:=Cz (lv:=lv) (n:=1) (j:=1) a.1 w.2.1;omega|exact PA a.1 Y ‹(cC _ _ _)[_]?=_›|exact OU a.1 _ _|exact Zx ‹((w.2.1:Nat):Int)=_› ae|exact bi (eE lv 1 p _) (Eo (by have g:=kE lv 1 w.2.2;simp only[bc]at*;omega))|exact bi (λi=>(eE lv 1 p _ i).length) (Eo (by have g:=kE lv 1 w.2.2;simp only[bc]at*;omega))|exact bi (eE lv 1 p _) (En _ _).symm|exact bi (λi=>(eE lv 1 p _ i).length) (En _ _).symm|exact Ng a.1 (by have g:=kE lv 1 w.2.2;simp only[be]at*;omega)|exact Rp Y|exact(h.bu Y).e|exact Nf _ Y|exact(O1 (n:=1) Y Y Y).symm|(with_reducible show _=nU _ _ _;unfold nU;split<;>first|rfl|omega)|have e:mi.dF=64:=rfl;rw[e];omega|have g:=h.len;have e:mi.dF=64:=rfl;rw[e];omega|have g:=h.len;omega|simp only[be,bc,gQ,jJ,iI]at*;omega|exact(OZ (n:=1) Y).symm|exact O0 (n:=1) Y Y|exact adm Y ae|exact adl Y|exact Ld Y|exact Rt Y|exact K3 (by simp only[bc]at*;omega)|exact O8 _ _ _ (by simp only[bc]at*;omega)|exact JD _ _ _ (by simp only[bc]at*;omega)|exact Le Y ae|exact bi List.length (Le Y ae)|(unfold kJ;split<;>first|rfl|exfalso;omega|simp;done)|rfl
theorem aq1(p:J)(lv:Int)(h:CF p lv)(f:∀c∈p.aL,CF c lv->bh 276 [wE .aF c,wI .i64 lv,iE 2] (lT .aF (cC lv 2 c))):dA prog 276 (bX (cy (U:=Un) [])) ([wE .aF p,wI .i64 lv,iE 2].map SE.aI) (bX (cy [(0,aZ.aW (U:=Un) W.aF (cC lv 2 p))])) (·∈[]) (ST.e (U:=Un) (.c (.aX 0 W.aF 3))).aI:=by
 refine vO func276 rfl ⟨[F2 15,CH Vw 276 (.el W.aF) (.int .i64) (.int .i64) (λ(c:J)(l k:Int)=>c∈p.aL/\CF c lv/\l=lv/\k=2) (λ(c:J)(l k:Int)=>lT .aF (cC l 2 c)) (λc l k o=>by obtain⟨s,r,rfl,rfl⟩:=o;exact f c s r)],[]⟩ [(3,⟨Nat,λx=>⟨[(1,iT lv),(2,iT 2),(3,br 0),(7,.e (.c (.aX 1 W.aF 3))),(17,iT 3),(18,iT x)],[(0,cj .aF p),(1,.cells [.d (.sc (.int .i64 (nU p 0 x))),iB,fL,.aX 2 W.aF (kJ p 0 x).length,.d (.sc (.int .i64 (nU p 1 x))),iB,fL,.aX 3 W.aF (kJ p 1 x).length,.d (.sc (.int .i64 (nU p 2 x))),iB,fL,.aX 4 W.aF (kJ p 2 x).length]),(2,.aW (U:=Un) W.aF (kJ p 0 x)),(3,.aW (U:=Un) W.aF (kJ p 1 x)),(4,.aW (U:=Un) W.aF (kJ p 2 x))],5⟩,λx=>x<=3/\True,λx=>3-x⟩),(8,⟨Nat,λy=>⟨[(1,iT lv),(2,iT 2),(7,.e (.c (.aX 1 W.aF 3))),(33,lT .aF p.aL),(34,iT p.aL.length),(35,iT y)],[(1,.cells [cG p.aK,iB,fL,.aX 2 W.aF (eE lv 2 p 0 y).length,cG p.aK,iB,fL,.aX 3 W.aF (eE lv 2 p 1 y).length,cG p.aK,iB,fL,.aX 4 W.aF (eE lv 2 p 2 y).length]),(2,.aW (U:=Un) W.aF (eE lv 2 p 0 y)),(3,.aW (U:=Un) W.aF (eE lv 2 p 1 y)),(4,.aW (U:=Un) W.aF (eE lv 2 p 2 y))],5⟩,λy=>y<=p.aL.length/\True,λy=>p.aL.length-y⟩),(1000011,⟨Nat×Nat×J,λw=>⟨[(1,iT lv),(2,iT 2),(7,.e (.c (.aX 1 W.aF 3))),(9,iT w.1),(33,lT .aF p.aL),(34,iT p.aL.length),(35,iT w.1),(43,lT .aF (cC lv 2 w.2.2)),(44,iT (cC lv 2 w.2.2).length),(45,iT w.2.1)],[(1,.cells [cG p.aK,iB,fL,.aX 2 W.aF (eE lv 2 p 0 (yz w.1 w.2.1 0)).length,cG p.aK,iB,fL,.aX 3 W.aF (eE lv 2 p 1 (yz w.1 w.2.1 1)).length,cG p.aK,iB,fL,.aX 4 W.aF (eE lv 2 p 2 (yz w.1 w.2.1 2)).length]),(2,.aW (U:=Un) W.aF (eE lv 2 p 0 (yz w.1 w.2.1 0))),(3,.aW (U:=Un) W.aF (eE lv 2 p 1 (yz w.1 w.2.1 1))),(4,.aW (U:=Un) W.aF (eE lv 2 p 2 (yz w.1 w.2.1 2)))],5⟩,λw=>CX p 3 w.1 w.2.1 w.2.2/\True,λw=>3-w.2.1⟩),(14000019,⟨Unit,λ_=>⟨[(3,br 0),(7,.e (.c (.aX 1 W.aF 3)))],[(0,cj .aF p),(1,.aW (U:=Un) W.aF (List.replicate 3 zP))],2⟩,λ_=>True,λ_=>0⟩),(6000020,⟨Unit,λ_=>⟨[(7,.e (.c (.aX 1 W.aF 3)))],[(1,.aW (U:=Un) W.aF (cC lv 2 p))],2⟩,λ_=>True,λ_=>0⟩)] [] ⟨[(6,.e (.c (.aX 0 W.aF 3)))],[(0,.aW (U:=Un) W.aF (cC lv 2 p))],2⟩ ?_;repeat' (first
  |((with_reducible show mt _ _ _ _ _);(conv=>whnf);(fail_if_success with_reducible show mt _ _ _ _ _))
  |intro _|apply aQ
  |refine @aS (Unit->Prop) _ (λ_=>True) (@aS Unit _ () (aQ ?_ λ_ _ _=>?_))
  |refine @aS (Nat×Nat×J->Prop) _ (λb=>b.1=y) (@aS (Nat×Nat×J) _ (y,0,?_) (aQ ?_ λ(w:Nat×Nat×J)(a:CX p 3 w.1 w.2.1 w.2.2/\True)(m:w.1=y)=>?_))
  |refine @aS (Nat×Nat×J) _ (w.1,w.2.1+1,w.2.2) ?_
  |refine @aS Nat _ (w.1+1) ?_
  |refine @aS Nat _ 0 (aQ ?_ λ(y:Nat)(t:y<=p.aL.length/\True)=>?_)
  |refine @aS Nat _ 0 (aQ ?_ λ(x:Nat)(u:x<=3/\True)=>?_)
  |refine @aS Nat _ (x+1) ?_
  |refine @aS Nat _ 3 ?_
  |fail)
 all_goals(try clear f)
 all_goals(try simp only[bz,fI]at*)
 all_goals first|exact bj|with_reducible rfl|omega|((with_reducible show(_&&_)=true);kernel_rfl)|exact bi (cC lv 2) (bz _)|exact bi (λq=>((cC lv 2 q).length:Int)) (bz _)|have g:=kE lv 2 w.2.2;simp only[be]at*;omega|have g:=Cz (lv:=lv) (n:=2) (j:=0) a.1 w.2.1;omega|have g:=Cz (lv:=lv) (n:=2) (j:=1) a.1 w.2.1;omega|have g:=Cz (lv:=lv) (n:=2) (j:=2) a.1 w.2.1;omega|exact PA a.1 Y ‹(cC _ _ _)[_]?=_›|exact OU a.1 _ _|exact Zx ‹((w.2.1:Nat):Int)=_› ae|exact bi (eE lv 2 p _) (Eo (by have g:=kE lv 2 w.2.2;simp only[bc]at*;omega))|exact bi (λi=>(eE lv 2 p _ i).length) (Eo (by have g:=kE lv 2 w.2.2;simp only[bc]at*;omega))|exact bi (eE lv 2 p _) (En _ _).symm|exact bi (λi=>(eE lv 2 p _ i).length) (En _ _).symm|exact Ng a.1 (by have g:=kE lv 2 w.2.2;simp only[be]at*;omega)|exact Rp Y|exact(h.bu Y).e|exact Nf _ Y|exact(O1 (n:=2) Y Y Y).symm|(with_reducible show _=nU _ _ _;unfold nU;split<;>first|rfl|omega)|have e:mi.dF=64:=rfl;rw[e];omega|have g:=h.len;have e:mi.dF=64:=rfl;rw[e];omega|have g:=h.len;omega|simp only[be,bc,gQ,jJ,iI]at*;omega|exact(OZ (n:=2) Y).symm|exact O0 (n:=2) Y Y|exact adm Y ae|exact adl Y|exact Ld Y|exact Rt Y|exact K3 (by simp only[bc]at*;omega)|exact O8 _ _ _ (by simp only[bc]at*;omega)|exact JD _ _ _ (by simp only[bc]at*;omega)|exact Le Y ae|exact bi List.length (Le Y ae)|(unfold kJ;split<;>first|rfl|exfalso;omega|simp;done)|rfl
def aq2(n:Nat)(e:n=0\/n=1\/n=2)(a:Int)(p:J):CF p a->dA prog 276 (bX (cy (U:=Un) [])) ([wE .aF p,wI .i64 a,iE n].map SE.aI) (bX (cy [(0,aZ.aW (U:=Un) W.aF (cC a n p))])) (·∈[]) (ST.e (U:=Un) (.c (.aX 0 W.aF (n+1)))).aI:=by
 generalize i:SizeOf.sizeOf p=D
 induction D using Nat.strongRecOn generalizing p
 rename_i D d;subst i;intro h;have b:∀c∈p.aL,CF c a->bh 276 [wE .aF c,wI .i64 a,iE n] (lT .aF (cC a n c)):=λc g f=>by have:=d _ (J.lt g) c rfl f;show lW _ _ _ _;rw[<-ae8 (cC a n c),kE];exact lW.aeR this
 clear d;rcases e with rfl|rfl|rfl
 ·exact aqZ p a h b
 ·exact aq0 p a h b
 ·exact aq1 p a h b
end Go.Proofs.YtfbmhjooliccnaaGreatDoor
