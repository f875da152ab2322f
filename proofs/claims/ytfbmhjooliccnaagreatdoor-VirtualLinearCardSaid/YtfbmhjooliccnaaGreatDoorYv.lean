/- A part of the proof of VirtualLinear: Xb to Xg. No condition. -/
import Derived.Test.YtfbmhjooliccnaaGreatDoorYo
set_option linter.all false
set_option maxRecDepth 100000
set_option maxHeartbeats 60000000
noncomputable section
namespace Go.Proofs.YtfbmhjooliccnaaGreatDoor
open Go Go.Ab Go.Proofs.Tryz
variable {x y:Nat}{L:List S}{l N:List aR}{r b c p:aR}{t R:S}{k d:Int}{a s:bO}{X:a_}{P K:Prop}{U M:List (List aR)}{Q H:aY}
def azF(a:aY)(f:a_)(b:aY)(g:a_)(h:FI a/\FN f/\FI b/\FN g):bh 137 [wE .cM a,wE .iY f,wE .cM b,wE .iY g] (eT .iY (.fC a f b g)):=by
 refine vF func137 rfl [Zj,JQ] [(3,⟨Nat,λx=>⟨[(4,br 0),(5,br 1),(6,br 2),(7,br 3),(8,br 4),(9,br 5),(11,iT x)],[(0,cj .cM a),(1,cj .iY f),(2,cj .cM b),(3,cj .iY g),(4,.cells ((eF .iY a_.z).map .d)),(5,cj .iY (dp a f b g x))],6⟩,λx=>x<=5/\True,λx=>5-x⟩)] ?_;repeat' (first
  |((with_reducible show mt _ _ _ _ _);(conv=>whnf);(fail_if_success with_reducible show mt _ _ _ _ _))
  |exact nx ‹(x:Int)=_› ae
  |intro _|apply aQ
  |refine aS 0 (aQ ?_ λ(x:Nat)(c:x<=5/\True)=>?_)
  |refine aS (x+1) ?_
  |fail)
 all_goals(try simp only[uv]at*)
 all_goals first|exact bj|omega|((with_reducible show(_&&_)=true);kernel_rfl)|exact .inl h.1.l47|exact .inl h.2.2.1.l47| (with_reducible first|exact wb h.1 h.2.1.i0|exact wb h.2.2.1 h.2.2.2.i0)|exact h.2.1.i0.sd.2 _ Y|exact h.2.2.2.i0.sd.2 _ Y| (with_reducible first|exact wc h.1 h.2.1.i0|exact wc h.2.2.1 h.2.2.2.i0|exact wb h.1 h.2.1.i1|exact wb h.2.2.1 h.2.2.2.i1)|exact h.2.1.i1.sd.2 _ Y|exact h.2.2.2.i1.sd.2 _ Y| (with_reducible first|exact wc h.1 h.2.1.i1|exact wc h.2.2.1 h.2.2.2.i1|exact wb h.1 h.2.1.i2|exact wb h.2.2.1 h.2.2.2.i2)|exact h.2.1.i2.sd.2 _ Y|exact h.2.2.2.i2.sd.2 _ Y| (with_reducible first|exact wc h.1 h.2.1.i2|exact wc h.2.2.1 h.2.2.2.i2|exact wb h.1 h.2.1.i3|exact wb h.2.2.1 h.2.2.2.i3)|exact h.2.1.i3.sd.2 _ Y|exact h.2.2.2.i3.sd.2 _ Y| (with_reducible first|exact wc h.1 h.2.1.i3|exact wc h.2.2.1 h.2.2.2.i3|exact wb h.1 h.2.1.i4|exact wb h.2.2.1 h.2.2.2.i4)|exact h.2.1.i4.sd.2 _ Y|exact h.2.2.2.i4.sd.2 _ Y| (with_reducible first|exact wc h.1 h.2.1.i4|exact wc h.2.2.1 h.2.2.2.i4)|exact h.1.sd.2 _ Y|exact h.2.2.1.sd.2 _ Y|exact iv _ _ Y| (with_reducible first|exact aAl Y|exact aAv ‹(x:Int)=_› ae|exact aAb Y|exact aAk Y|exact aAu ‹(x:Int)=_› ae|exact aAa Y|exact aAn Y|exact aAx ‹(x:Int)=_› ae|exact aAd Y|exact aAm Y|exact aAw ‹(x:Int)=_› ae|exact aAc Y|exact aAp Y|exact aAz ‹(x:Int)=_› ae|exact aAf Y|exact aAo Y|exact aAy ‹(x:Int)=_› ae|exact aAe Y|exact aAr Y|exact aAB ‹(x:Int)=_› ae|exact aAh Y|exact aAq Y|exact aAA ‹(x:Int)=_› ae|exact aAg Y|exact aAt Y|exact aAD ‹(x:Int)=_› ae|exact aAj Y|exact aAs Y|exact aAC ‹(x:Int)=_› ae|exact aAi Y)|simp only[be,bc]at*;omega|rfl|rw[az_];rfl
def Pp:=HU (.el W.cM) (.el W.iY) (.el W.cM) (.el W.iY) azF
def fo1(h:a.dw=true):true=(iK a s).dw:=by unfold iK;simp[h]
def fo2(h:a.dw=false)(c:s.dw=true):true=(iK a s).dw:=by unfold iK;simp[h,c]
def fo3(h:a.dw=false)(c:s.dw=false):decide (300<((([]++a.l).length+s.l.length:Nat):Int))=(iK a s).dw:=by unfold iK;simp only[h,c,z6,gf,cX];rw[oV,be,be];omega
@[irreducible] def OP(a b:bO):=a.l.length+b.l.length<=10000000000
def WB{a b:bO}(h:OP a b):=(OP.eq_1 ..).mp h
def aDX(a b:bO)(h:OP a b):bh 89 [wE .fD a,wE .fD b] (eT .fD (iK a b)):=by
 refine vF func89 rfl [F3 6] [] ?_;repeat' first|intro _|apply aQ
 all_goals(try simp only[uv]at*)
 all_goals first|exact bj|((with_reducible show(_&&_)=true);kernel_rfl)|have g:=WB h;have e:HF.dF=24:=rfl;rw[e];simp only[cX,mW];omega|have g:=WB h;simp only[cX,mW];omega|simp only[cX];done|exact fo1 Y|exact fo2 Y Y|exact fo3 Y Y|rfl
def Zo:=eI (.el W.fD) (.el W.fD) aDX
@[irreducible] def xE(l:List aR)(x:Nat):=(l.take x).all py=true
def axa(l:List aR):xE l 0:=by unfold xE;rfl
def axd(h:xE l x)(a:l[(x:Int).toNat]?=some r)(b:py r=true):xE l (x+1):=by rw[bt]at a;unfold xE at*;rw[fy,a,List.all_append,h];simp[b]
def axb(h:xE l x)(a:decide ((x:Int)<l.length)=false):true=l.all py:=by simp only[bc]at a;unfold xE at h;rw[eL O]at h;exact h.symm
def axc(b:l[(x:Int).toNat]?=some r)(a:py r=false):false=l.all py:=by
 have c:=bM b;cases e:l.all py with
 |false=>rfl
 |true=>rw[eW]at e;rw[e r c]at a;cases a
@[irreducible] def LL(l:List aR):=l.length<=1000000000
def LLu{l:List aR}(h:LL l):=(LL.eq_1 ..).mp h
def axh(l:List aR)(h:LL l):bh 47 [wL .row l] (bT (l.all py)):=by
 refine vF func47 rfl [vC] [(2,⟨Nat,λx=>⟨[(0,lT .row l),(6,iT l.length),(7,iT x)],[],0⟩,λx=>(x<=l.length/\xE l x)/\True,λx=>l.length-x⟩)] ?_;repeat' (first
  |((with_reducible show mt _ _ _ _ _);(conv=>whnf);(fail_if_success with_reducible show mt _ _ _ _ _))
  |intro _|apply aQ
  |refine aS 0 (aQ ?_ λ(x:Nat) (a:(x<=l.length/\xE l x)/\True)=>?_)
  |refine aS (x+1) ?_
  |fail)
 all_goals(try simp only[uv]at*)
 all_goals first|exact bj|omega| (with_reducible first|exact axa l|exact axb a.1.2 Y)|have g:=LLu h;simp only[be,bc]at*;omega|(refine axd a.1.2 Y ?_;obtain⟨y0,q⟩:∃y,l[(x:Int).toNat]?=some y:=⟨_,Y⟩;simp only[q,cS]at*;subst_vars;unfold py;first|simp_all;done|simp_all;omega)|(refine axc (x:=x) Y ?_;obtain⟨y0,q⟩:∃y,l[(x:Int).toNat]?=some y:=⟨_,Y⟩;simp only[q,cS]at*;subst_vars;unfold py;first|simp_all;done|simp_all;omega)
def ar4:=dj (.ls W.row) axh
@[irreducible] def wu(a b:List (List aR))(x:Nat):List (List aR):=n_ (a.take x) b
@[irreducible] def qp(a b:List (List aR))(x y:Nat):List (List aR):=n_ (a.take x) b++n_ ((a.drop x).take 1) (b.take y)
def aEC(a c b:List (List aR)):n_ (a++c) b=n_ a b++n_ c b:=by unfold n_;rw[It]
theorem L6(b:List (List aR)):∀a,(n_ a b).length=a.length*b.length
 |[]=>by unfold n_;simp
 |c::a=>by have:=L6 b a;unfold n_ at*;rw[EF,cX,this,eh,fZ,iN];omega
def afB(a b:List (List aR)):wu a b 0=[]:=by unfold wu n_;rfl
def afC(a b:List (List aR))(x:Nat):wu a b x=qp a b x 0:=by
 unfold wu qp;rw[gx];have:n_ ((a.drop x).take 1) []=[]:=by unfold n_;simp
 rw[this,lB]
def afD{a b:List (List aR)}{x y:Nat}(f:x<a.length)(h:decide ((y:Int)<b.length)=false):qp a b x y=wu a b (x+1):=by simp only[bc]at h;unfold wu qp;have e:b.take y=b:=eL O;rw[e,<-aEC,<-List.take_add]
def afG{a b:List (List aR)}{x y:Nat}{c d:List aR}(hc:a[(x:Int).toNat]?=some c)(hd:b[(y:Int).toNat]?=some d):qp a b x y++[[]++c++d]=qp a b x (y+1):=by
 rw[bt]at hc hd;have e:(a.drop x).take 1=[c]:=by rw[List.take_one,List.head?_drop,hc];rfl
 unfold qp;rw[e,gM];congr 1;unfold n_;rw[EF,EH,lB,EF,EH,lB,fy,hd,ia];rfl
def aEE{a b:List (List aR)}{x y:Nat}{c d:List aR}(hc:a[(x:Int).toNat]?=some c)(hd:b[(y:Int).toNat]?=some d):(qp a b x y).length+[[]++c++d].length=(qp a b x (y+1)).length:=by rw[<-afG hc hd,cX]
def afE(a b:List (List aR))(x y:Nat)(h:a.length*b.length<=300):(qp a b x y).length<=600:=by
 unfold qp;rw[cX,L6,L6];have f:(a.take x).length*b.length<=a.length*b.length:=jS _ (by simp;omega);have e:((a.drop x).take 1).length*(b.take y).length<=a.length*b.length:=by
  by_cases g:x<a.length
  ·exact yF (by simp;omega) (by simp;omega)
  ·have:((a.drop x).take 1).length=0:=by simp;omega
   rw[this];omega
 omega
@[irreducible] def wM(a b:bO):=a.l.length<=1000000/\b.l.length<=1000000/\(∀c∈a.l,c.length<=1000000000)/\∀c∈b.l,c.length<=1000000000
def HY{a b:bO}(h:wM a b):=(wM.eq_1 ..).mp h
@[irreducible] def tP(a b:bO):=a.dw=false/\b.dw=false/\a.l.length*b.l.length<=300
def M8{a b:bO}(h:tP a b):=(tP.eq_1 ..).mp h
def anM{a b:bO}(h:a.dw=true):jt a b=⟨[],true⟩:=by unfold jt;simp[h]
def Ar{a b:bO}(h:b.dw=true):jt a b=⟨[],true⟩:=by unfold jt;simp[h]
def anN{a b:bO}(h:decide (300<(a.l.length:Int)*(b.l.length:Int))=true):jt a b=⟨[],true⟩:=by
 have h:=dO h;unfold jt;rw[aM];have:300<a.l.length*b.l.length:=by have e:((a.l.length*b.l.length:Nat):Int)=(a.l.length:Int)*(b.l.length:Int):=Ij ..;omega
 simp[this]
def anO{a b:bO}(h:a.dw=false)(g:b.dw=false)(f:decide (300<(a.l.length:Int)*(b.l.length:Int))=false):tP a b:=by have f:=cQ f;unfold tP;have e:((a.l.length*b.l.length:Nat):Int)=(a.l.length:Int)*(b.l.length:Int):=Ij ..;exact⟨h,g,O⟩
def anP{a b:bO}(h:tP a b){x:Nat}(e:decide ((x:Int)<a.l.length)=false):jt a b=⟨wu a.l b.l x,false⟩:=by obtain⟨f,g,i⟩:=M8 h;simp only[bc]at e;unfold jt;rw[Z (by simp[f,g];omega)];unfold wu;rw[eL O]
def Xe{a b:bO}(h:wM a b):-9223372036854775808<=(a.l.length:Int)*(b.l.length:Int)/\(a.l.length:Int)*(b.l.length:Int)<=9223372036854775807:=by obtain⟨f,g,_⟩:=HY h;have e:((a.l.length*b.l.length:Nat):Int)=(a.l.length:Int)*(b.l.length:Int):=Ij ..;have:=yF f g;omega
def OA:zS.dF=168:=rfl
def XE:HF.dF=24:=rfl
section
variable {a b:bO}(h:wM a b){c d:List aR}{x y:Nat}(hc:a.l[((x:Nat):Int).toNat]?=some c)
include h hc
def I9:c.length<=1000000000:=(HY h).2.2.1 c (bM hc)
def anC:(([]:List aR).length+List.length c)*zS.dF<=140737488355328:=by have:=I9 h hc;rw[OA,mW];omega
def anD:([]:List aR).length+List.length c<=140737488355328:=by have:=I9 h hc;rw[mW];omega
variable (hd:b.l[((y:Nat):Int).toNat]?=some d)
include hd
theorem Xd:d.length<=1000000000:=(HY h).2.2.2 d (bM hd)
def anE:(([]++c).length+List.length d)*zS.dF<=140737488355328:=by have:=I9 h hc;have:=Xd h hc hd;rw[OA,gf];omega
def anF:([]++c).length+List.length d<=140737488355328:=by have:=I9 h hc;have:=Xd h hc hd;rw[gf];omega
end
def anG(c d:List aR):([]++c).length+List.length d=([]++c++d).length:=cX.symm
def anH(c:List aR):([]:List aR).length+List.length c=([]++c).length:=by rw[cX]
def anI{a b:bO}(h:tP a b)(x y:Nat)(e:List aR):((qp a.l b.l x y).length+[e].length)*HF.dF<=140737488355328:=by have:=afE a.l b.l x y (M8 h).2.2;rw[XE,Iz];omega
def anJ{a b:bO}(h:tP a b)(x y:Nat)(e:List aR):(qp a.l b.l x y).length+[e].length<=140737488355328:=by have:=afE a.l b.l x y (M8 h).2.2;rw[Iz];omega
def anR(a b:bO)(h:wM a b):bh 91 [wE .fD a,wE .fD b] (eT .fD (jt a b)):=by
 refine vF func91 rfl [F3 39] [(5,⟨Nat,λx=>⟨[(2,br 0),(3,br 1),(4,br 2),(5,br 3),(27,iT a.l.length),(28,iT x)],[(0,cj .fD a),(1,cj .fD b),(2,cj .fD (⟨[],false⟩:bO)),(3,.cells [.aX 4 W.oq (wu a.l b.l x).length,iB]),(4,.aW (U:=Un) W.oq (wu a.l b.l x))],5⟩,λx=>(x<=a.l.length/\tP a b)/\True,λx=>a.l.length-x⟩),(1000008,⟨Nat×Nat,λy=>⟨[(2,br 0),(3,br 1),(4,br 2),(5,br 3),(27,iT a.l.length),(28,iT y.1),(6,iT y.1),(33,iT b.l.length),(34,iT y.2)],[(0,cj .fD a),(1,cj .fD b),(2,cj .fD (⟨[],false⟩:bO)),(3,.cells [.aX 4 W.oq (qp a.l b.l y.1 y.2).length,iB]),(4,.aW (U:=Un) W.oq (qp a.l b.l y.1 y.2))],5⟩,λy=>(y.1<a.l.length/\y.2<=b.l.length/\tP a b)/\True,λy=>b.l.length-y.2⟩)] ?_;repeat' (first
  |((with_reducible show mt _ _ _ _ _);(conv=>whnf);(fail_if_success with_reducible show mt _ _ _ _ _))
  |intro _|apply aQ
  |refine @aS Nat _ 0 (aQ ?_ λ(x:Nat) (i:(x<=a.l.length/\tP a b)/\True)=>?_)
  |refine @aS (Nat×Nat->Prop) _ (λv=>v.1=x) (@aS (Nat×Nat) _ (x,0) (aQ ?_ λ(y:Nat×Nat) (e:(y.1<a.l.length/\y.2<=b.l.length/\tP a b)/\True) (f:y.1=x)=>?_))
  |refine @aS (Nat×Nat) _ (y.1,y.2+1) ?_
  |refine @aS Nat _ (y.1+1) ?_
  |fail)
 all_goals first|exact bj|with_reducible rfl|omega|((with_reducible show(_&&_)=true);kernel_rfl)| (with_reducible first|exact anC h Y|exact anD h Y|exact anE h Y Y|exact anF h Y Y|exact anG _ _|exact anH _|exact anI e.1.2.2 _ _ _|exact anJ e.1.2.2 _ _ _)|rw[anM Y]<;>rfl|rw[Ar Y]<;>rfl|rw[anN Y]<;>rfl|with_reducible exact anO Y Y Y|rw[anP i.1.2 Y]<;>rfl|with_reducible exact afB _ _|rw[afB]<;>rfl|with_reducible exact afC _ _ _|rw[<-afC]| (with_reducible first|exact(Xe h).1|exact(Xe h).2|exact afG Y Y|exact aEE Y Y|exact afD e.1.1 Y)|rw[afD e.1.1 Y]|have g:=HY h;simp only[be,bc]at*;omega|rfl
def Y8:=eI (.el W.fD) (.el W.fD) anR
def AD(f:a_):a_.mk f.a0 f.a1 f.a2 f.a3 f.a4=f:=rfl
def AF(s:bO):bO.mk s.l s.dw=s:=rfl
def C5(r:aR):aR.mk r.aJ r.f=r:=rfl
@[irreducible] def lQ(c:List aR)(y:Nat):bO:=(c.take y).foldl (λs r=>iK s (kL r)) ⟨[],false⟩
@[irreducible] def qm(s:bO)(x:Nat):bO:=(s.l.take x).foldl (λs c=>jt s (sa c)) ⟨[[]],s.dw⟩
def aB1(c:List aR):lQ c 0=⟨[],false⟩:=by unfold lQ;rfl
def aBX(s:bO):qm s 0=⟨[[]],s.dw⟩:=by unfold qm;rfl
def aB3{c:List aR}{y:Nat}{r:aR}(h:c[y]?=some r):iK (lQ c y) (kL r)=lQ c (y+1):=by unfold lQ;rw[fy,h,EJ];rfl
def aB2{c:List aR}{y:Nat}(h:c.length<=y):lQ c y=sa c:=by unfold lQ sa;rw[eL h]
def aB0{s:bO}{x:Nat}{c:List aR}(h:s.l[x]?=some c):jt (qm s x) (sa c)=qm s (x+1):=by unfold qm;rw[fy,h,EJ];rfl
def aBY{s:bO}{x:Nat}(h:decide ((x:Int)<s.l.length)=false):qm s x=lR s:=by simp only[bc]at h;unfold qm lR RI;rw[eL O]
def aBV(r:aR):(kL r).l.length<=2/\∀d∈(kL r).l,d.length=1:=by
 unfold kL gC iK;split
 ·exact⟨ai,λd a=>by simp at a;rcases a with rfl|rfl<;>rfl⟩
 ·split
  ·exact⟨ai,λd a=>by simp at a;rw[a];rfl⟩
  ·exact⟨ai,λd a=>by simp at a;rw[a];rfl⟩
theorem RN:∀(c:List aR)(s:bO),(∀d∈s.l,d.length=1)->(c.foldl (λs r=>iK s (kL r)) s).l.length<=s.l.length+2*c.length/\∀d∈(c.foldl (λs r=>iK s (kL r)) s).l,d.length=1
 |[],s,h=>⟨ai,h⟩
 |r::c,s,h=>by
  have hr:=aBV r;have:=RN c (iK s (kL r)) λd a=>by
   rcases cq.1 a with a|a
   ·exact h d a
   ·exact hr.2 d a
  rw[vk];refine⟨dH this.1 ?_,this.2⟩;show(s.l++(kL r).l).length+_<=_;rw[cX,fZ];omega
def ad_(c:List aR)(y:Nat):(lQ c y).l.length<=2*c.length/\∀d∈(lQ c y).l,d.length=1:=by
 have:=RN (c.take y) ⟨[],false⟩ λd a=>by cases a
 unfold lQ;refine⟨dH this.1 ?_,this.2⟩;have:(c.take y).length<=c.length:=by simp;omega
 simp only[mW];omega
def Xg{b:bO}{n k:Nat}(f:∀d∈a.l,d.length<=n)(i:∀d∈b.l,d.length<=k):(jt a b).l.length<=300/\∀d∈(jt a b).l,d.length<=n+k:=by
 unfold jt;split
 ·exact⟨ai,λd e=>by cases e⟩
 ·rename_i h;refine⟨by rw[L6];simp at h;omega,λd e=>?_⟩;obtain⟨x,j,e⟩:=kV.1 e;obtain⟨y,m,rfl⟩:=b_.1 e;rw[cX];have:=f x j;have:=i y m;omega
theorem RJ:∀(l:List (List aR)) (s:bO) (n:Nat),s.l.length<=300->(∀d∈s.l,d.length<=n)->(l.foldl (λs c=>jt s (sa c)) s).l.length<=300/\∀d∈(l.foldl (λs c=>jt s (sa c)) s).l,d.length<=n+l.length
 |[],s,n,f,h=>⟨f,h⟩
 |c::l,s,n,f,h=>by
  have a:=Xg h (b:=sa c) (k:=1) λd e=>by have:=(RN c ⟨[],false⟩ λd e=>by cases e).2 d e;omega
  have:=RJ l (jt s (sa c)) (n+1) a.1 a.2;rw[vk,fZ];refine⟨this.1,λd e=>?_⟩;have:=this.2 d e;omega
def aBZ(s:bO)(x:Nat):(qm s x).l.length<=300/\∀d∈(qm s x).l,d.length<=s.l.length:=by
 have:=RJ (s.l.take x) ⟨[[]],s.dw⟩ 0 ai λd a=>by simp at a;rw[a];simp
 unfold qm;refine⟨this.1,λd a=>?_⟩;have h:=this.2 d a;have:(s.l.take x).length<=s.l.length:=by simp;omega
 omega
@[irreducible] def yC(s:bO):=s.l.length<=100000/\∀c∈s.l,c.length<=100000/\∀r∈c,FN r.f
def IK{s:bO}(h:yC s):=(yC.eq_1 ..).mp h
@[irreducible] def gk(s:bO)(x y:Nat)(c:List aR):=s.l[x]?=some c/\y<=c.length
def Aj{s:bO}{x y:Nat}{c:List aR}(h:gk s x y c):=(gk.eq_1 ..).mp h
def alR{s:bO}{x:Nat}{c:List aR}(h:s.l[(x:Int).toNat]?=some c):gk s x 0 c:=by unfold gk;rw[bt]at h;exact⟨h,dz _⟩
section
variable {s:bO}(h:yC s){x y:Nat}{c:List aR}(g:gk s x y c)
include g
def gk.lt:x<s.l.length:=by have:=(Aj g).1;rw[du]at this;exact this.1
include h
def gk.m:c.length<=100000/\∀r∈c,FN r.f:=(IK h).2 c (bM (Aj g).1)
def gk.and(i:decide ((y:Int)<c.length)=false):wM (qm s x) (lQ c y):=by have a:=aBZ s x;have b:=ad_ c y;have m:=gk.m h g;have I:=(IK h).1;unfold wM;exact⟨O,O,λd f=>by have:=a.2 d f;omega,λd f=>by have:=b.2 d f;omega⟩
omit h in
theorem gk.e(a:decide ((y:Int)<c.length)=false):jt (qm s x) (lQ c y)=qm s (x+1):=by simp only[bc]at a;rw[aB2 O,aB0 (Aj g).1]
def gk.or(t:bO)(a:t.l.length<=2):OP (lQ c y) t:=by have b:=ad_ c y;have m:=gk.m h g;unfold OP;omega
variable {c':List aR}(hc:s.l[((x:Nat):Int).toNat]?=some c'){r:aR}(hr:c'[((y:Nat):Int).toNat]?=some r)
include hc
omit h in
theorem gk.same:c'=c:=by have:=(Aj g).1;rw[bt]at hc;rw[hc]at this;exact yG this
include hr
def gk.fn:FN r.f:=by rw[gk.same g hc]at hr;exact(gk.m h g).2 r (bM hr)
omit h in
theorem gk.n:iK (lQ c y) (kL r)=lQ c (y+1):=by rw[gk.same g hc,bt]at hr;exact aB3 hr
omit h in
theorem gk.nx:gk s x (y+1) c:=by rw[gk.same g hc,bt,du]at hr;unfold gk;exact⟨(Aj g).1,hr.1⟩
omit h in
theorem gk.k0(a:(r.aJ==0)=true):iK (lQ c y) (iK (gC 1 r.f) (gC 1 r.f.neg))=lQ c (y+1):=by rw[<-gk.n g hc hr];unfold kL;rw[aM (an a)]
omit h in
theorem gk.k1(b:(r.aJ==0)=false)(a:(r.aJ==1)=true):iK (lQ c y) (gC 2 r.f.neg)=lQ c (y+1):=by rw[<-gk.n g hc hr];unfold kL;rw[Z (an b),aM (an a)]
omit h in
theorem gk.k2(b:(r.aJ==0)=false)(a:(r.aJ==1)=false):iK (lQ c y) (gC 1 r.f.neg)=lQ c (y+1):=by rw[<-gk.n g hc hr];unfold kL;rw[Z (an b),Z (an a)]
end
def ae5(k:Int)(f g:a_):OP (gC k f) (gC k g):=by unfold OP gC;simp
def aD0(f g:a_):(iK (gC 1 f) (gC 1 g)).l.length<=2:=by unfold iK gC;simp
def aDZ(k:Int)(f:a_):(gC k f).l.length<=2:=by unfold gC;simp
def aCS(s:bO)(h:yC s):bh 45 [wE .fD s] (eT .fD (lR s)):=by
 refine vF func45 rfl [F3 8,Zr,Zl,Zo,Y8] [(3,⟨Nat,λx=>⟨[(1,br 0),(2,br 1),(3,br 2),(15,iT s.l.length),(16,iT x)],[(0,cj .fD s),(1,cj .fD (⟨[],false⟩:bO)),(2,cj .fD (qm s x))],3⟩,λx=>x<=s.l.length/\True,λx=>s.l.length-x⟩),(1000007,⟨Nat×Nat×List aR,λy=>⟨[(1,br 0),(2,br 1),(3,br 2),(15,iT s.l.length),(16,iT y.1),(4,iT y.1),(5,br 3),(25,iT y.2.2.length),(26,iT y.2.1)],[(0,cj .fD s),(1,cj .fD (⟨[],false⟩:bO)),(2,cj .fD (qm s y.1)),(3,cj .fD (lQ y.2.2 y.2.1))],4⟩,λy=>gk s y.1 y.2.1 y.2.2/\True,λy=>y.2.2.length-y.2.1⟩)] ?_;repeat' (first
  |((with_reducible show mt _ _ _ _ _);(conv=>whnf);(fail_if_success with_reducible show mt _ _ _ _ _))
  |intro _|apply aQ
  |refine @aS Nat _ 0 (aQ ?_ λ(x:Nat)(d:x<=s.l.length/\True)=>?_)
  |refine @aS (Nat×Nat×List aR->Prop) _ (λv=>v.1=x) (@aS (Nat×Nat×List aR) _ (x,0,?_) (aQ ?_ λ(y:Nat×Nat×List aR)(a:gk s y.1 y.2.1 y.2.2/\True)(b:y.1=x)=>?_))
  |refine @aS (Nat×Nat×List aR) _ (y.1,y.2.1+1,y.2.2) ?_
  |refine @aS Nat _ (y.1+1) ?_
  |fail)
 all_goals(try simp only[uv,AD,AF,C5]at*)
 all_goals first|exact bj|with_reducible rfl|omega|((with_reducible show(_&&_)=true);kernel_rfl)| (with_reducible first|exact alR Y|exact gk.and h a.1 Y|exact gk.or h a.1 _ (aD0 _ _)|exact gk.or h a.1 _ (aDZ _ _)|exact ae5 _ _ _|exact gk.fn h a.1 Y Y|exact gk.nx a.1 Y Y)|rw[gk.e a.1 Y]|rw[gk.k0 a.1 Y Y Y]|rw[gk.k1 a.1 Y Y Y Y]|rw[gk.k2 a.1 Y Y Y Y]|rw[aBY Y]<;>rfl|rw[aBX]|rw[aB1]|have g:=(IK h).1;simp only[be,bc]at*;omega|have g:=(IK h).1;have i:=gk.lt a.1;have f:=(gk.m h a.1).1;have g3:=(Aj a.1).2;simp only[be,bc]at*;omega|have e:=gk.same a.1 Y;rw[e];have g3:=(Aj a.1).2;simp only[be,bc]at*;omega|rfl
def aso:=dj (.el W.fD) aCS
@[irreducible] def bV(t:S)(k:Nat):Int:=if 3<k/\0<t.e4 then 3 else if 2<k/\0<t.e3 then 2 else if 1<k/\0<t.e2 then 1 else if 0<k/\0<t.e1 then 0 else 4
@[irreducible] def oH(t:S)(k:Nat):Int:=(if 0<k then t.e1 else 0)+(if 1<k then t.e2 else 0)+(if 2<k then t.e3 else 0)+(if 3<k then t.e4 else 0)
def ux(f:a_)(t:S):a_:=f.set (bV t 4) (eX (f.get (bV t 4)) t.cw)
@[irreducible] def b7(L:List S)(x:Nat):a_:=(L.take x).foldl ux .z
def nM:List S->a_->a_×Bool
 |[],f=>(f,true)
 |t::r,f=>if 1<oH t 4 then(f,false)else nM r (ux f t)
@[irreducible] def l9(p:J):a_×Bool:=nM (dM p) .z
def aC7(t:S):bV t 0=4:=by unfold bV;rw[Z O,Z O,Z O,Z O]
def aC8(t:S):oH t 0=0:=by unfold oH;rfl
def R_(t:S)(k:Nat):0<=bV t k/\bV t k<5:=by unfold bV;split;omega;split;omega;split;omega;split<;>omega
def abu(L:List S):b7 L 0=.z:=by unfold b7;rfl
def abv{L:List S}{x:Nat}{t:S}(h:L[x]?=some t):ux (b7 L x) t=b7 L (x+1):=by unfold b7;rw[fy,h,EJ];rfl
@[irreducible] def rC(L:List S):=L.length<=1000000000/\(∀t∈L,(0<=t.e1/\t.e1<=1073741824)/\(0<=t.e2/\t.e2<=1073741824)/\(0<=t.e3/\t.e3<=1073741824)/\(0<=t.e4/\t.e4<=1073741824))/\(∀t∈L,Sm t.aC/\Dg t.aC)/\∀x,x<=L.length->FN (b7 L x)
def Ie{L:List S}(h:rC L):=(rC.eq_1 ..).mp h
@[irreducible] def qK(L:List S)(x:Nat):Prop:=x<=L.length/\nM L .z=nM (L.drop x) (b7 L x)
def Ic{L:List S}{x:Nat}(h:qK L x):=(qK.eq_1 ..).mp h
def akI(L:List S):qK L 0:=by unfold qK;rw[abu];exact⟨dz _,rfl⟩
@[irreducible] def bP(L:List S)(x k:Nat)(t:S):=L[x]?=some t/\k<=4/\qK L x
def rB{L:List S}{x k:Nat}{t:S}(h:bP L x k t):=(bP.eq_1 ..).mp h
def akJ{L:List S}{x:Nat}{t:S}(g:qK L x)(h:L[x]?=some t):bP L x 0 t:=by unfold bP;exact⟨h,O,g⟩
def aai{l:List S}{x:Nat}(h:l[x]?=some R):l.drop x=R::l.drop (x+1):=by rw[du]at h;obtain⟨a,b⟩:=h;rw[<-b];exact kB a
section
variable {L:List S}{x k:Nat}{t:S}(g:bP L x k t)
include g
def bP.lt:x<L.length:=(du.1 (rB g).1).1
def bP.ex(h:rC L):(0<=t.e1/\t.e1<=1073741824)/\(0<=t.e2/\t.e2<=1073741824)/\(0<=t.e3/\t.e3<=1073741824)/\(0<=t.e4/\t.e4<=1073741824):=(Ie h).2.1 t (bM (rB g).1)
def bP.co(h:rC L):Sm t.aC/\Dg t.aC:=(Ie h).2.2.1 t (bM (rB g).1)
def bP.fn(h:rC L):FN (b7 L x):=(Ie h).2.2.2 x (Ic (rB g).2.2).1
def bP.n(hk:decide ((k:Int)<4)=true):bP L x (k+1) t:=by simp only[be]at hk;obtain⟨b,c,a⟩:=rB g;unfold bP;exact⟨b,O,a⟩
def bP.nb(h:rC L):0<=oH t k/\oH t k<=4294967296:=by have e:=bP.ex g h;unfold oH;split<;>split<;>split<;>split<;>omega
def bP.k4(hk:decide ((k:Int)<4)=false):k=4:=by simp only[bc]at hk;have:=(rB g).2.1;omega
def bP.e1(hk:decide ((k:Int)<4)=false)(h:decide (1<oH t k)=true):nM L .z=(b7 L x,false):=by have e:=bP.k4 g hk;subst e;rw[(Ic (rB g).2.2).2,aai (rB g).1,nM,aM (dO h)]
def bP.e2(hk:decide ((k:Int)<4)=false)(h:decide (1<oH t k)=false):qK L (x+1):=by have e:=bP.k4 g hk;subst e;have a:=bP.lt g;unfold qK;refine⟨a,?_⟩;rw[(Ic (rB g).2.2).2,aai (rB g).1,nM,Z (cQ h),abv (rB g).1]
theorem bP.set(hk:decide ((k:Int)<4)=false):(b7 L x).set (bV t k) (eX ((b7 L x).get (bV t k)) t.cw)=b7 L (x+1):=by have e:=bP.k4 g hk;subst e;exact abv (rB g).1
end
def qK.e{L:List S}{x:Nat}(g:qK L x)(a:decide ((x:Int)<L.length)=false):nM L .z=(b7 L x,true):=by simp only[bc]at a;rw[(Ic g).2,mU O,nM]
def qx{l:List S}{x k:Nat}{t u:S}(g:bP l x k t)(h:l[(x:Int).toNat]?=some u):u=t:=by rw[bt,(rB g).1]at h;exact(yG h).symm
def nx2{j:Nat}(h:d=(y:Int))(b:y≠j):d=(j:Int)->P:=λc=>absurd (show y=j by omega) b
section
variable {L:List S}{x k:Nat}{t u:S}(g:bP L x k t)(hk:decide ((k:Int)<4)=true)(hu:L[((x:Nat):Int).toNat]?=some u)
include g hk hu
def adP:oH t k+[u.e1,u.e2,u.e3,u.e4].getD (k:Int).toNat 0=oH t (k+1):=by
 rw[qx g hu,bt];have:=dO hk;obtain rfl|rfl|rfl|rfl:k=0\/k=1\/k=2\/k=3:=O
 all_goals(unfold oH;simp)
def aA_(h:decide (0<[u.e1,u.e2,u.e3,u.e4].getD (k:Int).toNat 0)=true):(k:Int)=bV t (k+1):=by
 rw[qx g hu,bt]at h;have:=dO hk;have h:=dO h;obtain rfl|rfl|rfl|rfl:k=0\/k=1\/k=2\/k=3:=O
 all_goals(simp at h;unfold bV;simp[h])
def aA9(h:decide (0<[u.e1,u.e2,u.e3,u.e4].getD (k:Int).toNat 0)=false):bV t k=bV t (k+1):=by
 rw[qx g hu,bt]at h;have:=dO hk;have h:=cQ h;obtain rfl|rfl|rfl|rfl:k=0\/k=1\/k=2\/k=3:=O
 all_goals(simp at h;unfold bV;simp[B1.2 h])
def adO(h:rC L):-9223372036854775808<=oH t k+[u.e1,u.e2,u.e3,u.e4].getD (k:Int).toNat 0/\oH t k+[u.e1,u.e2,u.e3,u.e4].getD (k:Int).toNat 0<=9223372036854775807:=by rw[adP g hk hu];have:=(bP.nb (bP.n g hk) h);omega
end
def avV{L:List S}{x k:Nat}{t u:S}(g:bP L x k t)(hk:decide ((k:Int)<4)=false)(a:bV t k=((0:Nat):Int))(hu:L[(x:Int).toNat]?=some u):(eX (b7 L x).a0 ⟨u.neg,u.aC⟩).neg=(b7 L (x+1)).a0.neg:=by rw[qx g hu,<-bP.set g hk,a];rfl
def avU{L:List S}{x k:Nat}{t u:S}(g:bP L x k t)(hk:decide ((k:Int)<4)=false)(a:bV t k=((0:Nat):Int))(hu:L[(x:Int).toNat]?=some u):(eX (b7 L x).a0 ⟨u.neg,u.aC⟩).aC=(b7 L (x+1)).a0.aC:=by rw[qx g hu,<-bP.set g hk,a];rfl
def avg{L:List S}{x k:Nat}{t:S}(g:bP L x k t)(hk:decide ((k:Int)<4)=false)(a:bV t k=((0:Nat):Int)):(b7 L x).a1.neg=(b7 L (x+1)).a1.neg:=by rw[<-bP.set g hk,a];rfl
def avf{L:List S}{x k:Nat}{t:S}(g:bP L x k t)(hk:decide ((k:Int)<4)=false)(a:bV t k=((0:Nat):Int)):(b7 L x).a1.aC=(b7 L (x+1)).a1.aC:=by rw[<-bP.set g hk,a];rfl
def avi{L:List S}{x k:Nat}{t:S}(g:bP L x k t)(hk:decide ((k:Int)<4)=false)(a:bV t k=((0:Nat):Int)):(b7 L x).a2.neg=(b7 L (x+1)).a2.neg:=by rw[<-bP.set g hk,a];rfl
def avh{L:List S}{x k:Nat}{t:S}(g:bP L x k t)(hk:decide ((k:Int)<4)=false)(a:bV t k=((0:Nat):Int)):(b7 L x).a2.aC=(b7 L (x+1)).a2.aC:=by rw[<-bP.set g hk,a];rfl
def avk{L:List S}{x k:Nat}{t:S}(g:bP L x k t)(hk:decide ((k:Int)<4)=false)(a:bV t k=((0:Nat):Int)):(b7 L x).a3.neg=(b7 L (x+1)).a3.neg:=by rw[<-bP.set g hk,a];rfl
def avj{L:List S}{x k:Nat}{t:S}(g:bP L x k t)(hk:decide ((k:Int)<4)=false)(a:bV t k=((0:Nat):Int)):(b7 L x).a3.aC=(b7 L (x+1)).a3.aC:=by rw[<-bP.set g hk,a];rfl
def avm{L:List S}{x k:Nat}{t:S}(g:bP L x k t)(hk:decide ((k:Int)<4)=false)(a:bV t k=((0:Nat):Int)):(b7 L x).a4.neg=(b7 L (x+1)).a4.neg:=by rw[<-bP.set g hk,a];rfl
def avl{L:List S}{x k:Nat}{t:S}(g:bP L x k t)(hk:decide ((k:Int)<4)=false)(a:bV t k=((0:Nat):Int)):(b7 L x).a4.aC=(b7 L (x+1)).a4.aC:=by rw[<-bP.set g hk,a];rfl
def avo{L:List S}{x k:Nat}{t:S}(g:bP L x k t)(hk:decide ((k:Int)<4)=false)(a:bV t k=((1:Nat):Int)):(b7 L x).a0.neg=(b7 L (x+1)).a0.neg:=by rw[<-bP.set g hk,a];rfl
def avn{L:List S}{x k:Nat}{t:S}(g:bP L x k t)(hk:decide ((k:Int)<4)=false)(a:bV t k=((1:Nat):Int)):(b7 L x).a0.aC=(b7 L (x+1)).a0.aC:=by rw[<-bP.set g hk,a];rfl
def avX{L:List S}{x k:Nat}{t u:S}(g:bP L x k t)(hk:decide ((k:Int)<4)=false)(a:bV t k=((1:Nat):Int))(hu:L[(x:Int).toNat]?=some u):(eX (b7 L x).a1 ⟨u.neg,u.aC⟩).neg=(b7 L (x+1)).a1.neg:=by rw[qx g hu,<-bP.set g hk,a];rfl
def avW{L:List S}{x k:Nat}{t u:S}(g:bP L x k t)(hk:decide ((k:Int)<4)=false)(a:bV t k=((1:Nat):Int))(hu:L[(x:Int).toNat]?=some u):(eX (b7 L x).a1 ⟨u.neg,u.aC⟩).aC=(b7 L (x+1)).a1.aC:=by rw[qx g hu,<-bP.set g hk,a];rfl
def avq{L:List S}{x k:Nat}{t:S}(g:bP L x k t)(hk:decide ((k:Int)<4)=false)(a:bV t k=((1:Nat):Int)):(b7 L x).a2.neg=(b7 L (x+1)).a2.neg:=by rw[<-bP.set g hk,a];rfl
def avp{L:List S}{x k:Nat}{t:S}(g:bP L x k t)(hk:decide ((k:Int)<4)=false)(a:bV t k=((1:Nat):Int)):(b7 L x).a2.aC=(b7 L (x+1)).a2.aC:=by rw[<-bP.set g hk,a];rfl
def avs{L:List S}{x k:Nat}{t:S}(g:bP L x k t)(hk:decide ((k:Int)<4)=false)(a:bV t k=((1:Nat):Int)):(b7 L x).a3.neg=(b7 L (x+1)).a3.neg:=by rw[<-bP.set g hk,a];rfl
def avr{L:List S}{x k:Nat}{t:S}(g:bP L x k t)(hk:decide ((k:Int)<4)=false)(a:bV t k=((1:Nat):Int)):(b7 L x).a3.aC=(b7 L (x+1)).a3.aC:=by rw[<-bP.set g hk,a];rfl
def avu{L:List S}{x k:Nat}{t:S}(g:bP L x k t)(hk:decide ((k:Int)<4)=false)(a:bV t k=((1:Nat):Int)):(b7 L x).a4.neg=(b7 L (x+1)).a4.neg:=by rw[<-bP.set g hk,a];rfl
def avt{L:List S}{x k:Nat}{t:S}(g:bP L x k t)(hk:decide ((k:Int)<4)=false)(a:bV t k=((1:Nat):Int)):(b7 L x).a4.aC=(b7 L (x+1)).a4.aC:=by rw[<-bP.set g hk,a];rfl
def avw{L:List S}{x k:Nat}{t:S}(g:bP L x k t)(hk:decide ((k:Int)<4)=false)(a:bV t k=((2:Nat):Int)):(b7 L x).a0.neg=(b7 L (x+1)).a0.neg:=by rw[<-bP.set g hk,a];rfl
def avv{L:List S}{x k:Nat}{t:S}(g:bP L x k t)(hk:decide ((k:Int)<4)=false)(a:bV t k=((2:Nat):Int)):(b7 L x).a0.aC=(b7 L (x+1)).a0.aC:=by rw[<-bP.set g hk,a];rfl
def avy{L:List S}{x k:Nat}{t:S}(g:bP L x k t)(hk:decide ((k:Int)<4)=false)(a:bV t k=((2:Nat):Int)):(b7 L x).a1.neg=(b7 L (x+1)).a1.neg:=by rw[<-bP.set g hk,a];rfl
def avx{L:List S}{x k:Nat}{t:S}(g:bP L x k t)(hk:decide ((k:Int)<4)=false)(a:bV t k=((2:Nat):Int)):(b7 L x).a1.aC=(b7 L (x+1)).a1.aC:=by rw[<-bP.set g hk,a];rfl
def avZ{L:List S}{x k:Nat}{t u:S}(g:bP L x k t)(hk:decide ((k:Int)<4)=false)(a:bV t k=((2:Nat):Int))(hu:L[(x:Int).toNat]?=some u):(eX (b7 L x).a2 ⟨u.neg,u.aC⟩).neg=(b7 L (x+1)).a2.neg:=by rw[qx g hu,<-bP.set g hk,a];rfl
def avY{L:List S}{x k:Nat}{t u:S}(g:bP L x k t)(hk:decide ((k:Int)<4)=false)(a:bV t k=((2:Nat):Int))(hu:L[(x:Int).toNat]?=some u):(eX (b7 L x).a2 ⟨u.neg,u.aC⟩).aC=(b7 L (x+1)).a2.aC:=by rw[qx g hu,<-bP.set g hk,a];rfl
def avA{L:List S}{x k:Nat}{t:S}(g:bP L x k t)(hk:decide ((k:Int)<4)=false)(a:bV t k=((2:Nat):Int)):(b7 L x).a3.neg=(b7 L (x+1)).a3.neg:=by rw[<-bP.set g hk,a];rfl
def avz{L:List S}{x k:Nat}{t:S}(g:bP L x k t)(hk:decide ((k:Int)<4)=false)(a:bV t k=((2:Nat):Int)):(b7 L x).a3.aC=(b7 L (x+1)).a3.aC:=by rw[<-bP.set g hk,a];rfl
def avC{L:List S}{x k:Nat}{t:S}(g:bP L x k t)(hk:decide ((k:Int)<4)=false)(a:bV t k=((2:Nat):Int)):(b7 L x).a4.neg=(b7 L (x+1)).a4.neg:=by rw[<-bP.set g hk,a];rfl
def avB{L:List S}{x k:Nat}{t:S}(g:bP L x k t)(hk:decide ((k:Int)<4)=false)(a:bV t k=((2:Nat):Int)):(b7 L x).a4.aC=(b7 L (x+1)).a4.aC:=by rw[<-bP.set g hk,a];rfl
def avE{L:List S}{x k:Nat}{t:S}(g:bP L x k t)(hk:decide ((k:Int)<4)=false)(a:bV t k=((3:Nat):Int)):(b7 L x).a0.neg=(b7 L (x+1)).a0.neg:=by rw[<-bP.set g hk,a];rfl
def avD{L:List S}{x k:Nat}{t:S}(g:bP L x k t)(hk:decide ((k:Int)<4)=false)(a:bV t k=((3:Nat):Int)):(b7 L x).a0.aC=(b7 L (x+1)).a0.aC:=by rw[<-bP.set g hk,a];rfl
def avG{L:List S}{x k:Nat}{t:S}(g:bP L x k t)(hk:decide ((k:Int)<4)=false)(a:bV t k=((3:Nat):Int)):(b7 L x).a1.neg=(b7 L (x+1)).a1.neg:=by rw[<-bP.set g hk,a];rfl
def avF{L:List S}{x k:Nat}{t:S}(g:bP L x k t)(hk:decide ((k:Int)<4)=false)(a:bV t k=((3:Nat):Int)):(b7 L x).a1.aC=(b7 L (x+1)).a1.aC:=by rw[<-bP.set g hk,a];rfl
def avI{L:List S}{x k:Nat}{t:S}(g:bP L x k t)(hk:decide ((k:Int)<4)=false)(a:bV t k=((3:Nat):Int)):(b7 L x).a2.neg=(b7 L (x+1)).a2.neg:=by rw[<-bP.set g hk,a];rfl
def avH{L:List S}{x k:Nat}{t:S}(g:bP L x k t)(hk:decide ((k:Int)<4)=false)(a:bV t k=((3:Nat):Int)):(b7 L x).a2.aC=(b7 L (x+1)).a2.aC:=by rw[<-bP.set g hk,a];rfl
def av1{L:List S}{x k:Nat}{t u:S}(g:bP L x k t)(hk:decide ((k:Int)<4)=false)(a:bV t k=((3:Nat):Int))(hu:L[(x:Int).toNat]?=some u):(eX (b7 L x).a3 ⟨u.neg,u.aC⟩).neg=(b7 L (x+1)).a3.neg:=by rw[qx g hu,<-bP.set g hk,a];rfl
def av0{L:List S}{x k:Nat}{t u:S}(g:bP L x k t)(hk:decide ((k:Int)<4)=false)(a:bV t k=((3:Nat):Int))(hu:L[(x:Int).toNat]?=some u):(eX (b7 L x).a3 ⟨u.neg,u.aC⟩).aC=(b7 L (x+1)).a3.aC:=by rw[qx g hu,<-bP.set g hk,a];rfl
def avK{L:List S}{x k:Nat}{t:S}(g:bP L x k t)(hk:decide ((k:Int)<4)=false)(a:bV t k=((3:Nat):Int)):(b7 L x).a4.neg=(b7 L (x+1)).a4.neg:=by rw[<-bP.set g hk,a];rfl
def avJ{L:List S}{x k:Nat}{t:S}(g:bP L x k t)(hk:decide ((k:Int)<4)=false)(a:bV t k=((3:Nat):Int)):(b7 L x).a4.aC=(b7 L (x+1)).a4.aC:=by rw[<-bP.set g hk,a];rfl
def avM{L:List S}{x k:Nat}{t:S}(g:bP L x k t)(hk:decide ((k:Int)<4)=false)(a:bV t k=((4:Nat):Int)):(b7 L x).a0.neg=(b7 L (x+1)).a0.neg:=by rw[<-bP.set g hk,a];rfl
def avL{L:List S}{x k:Nat}{t:S}(g:bP L x k t)(hk:decide ((k:Int)<4)=false)(a:bV t k=((4:Nat):Int)):(b7 L x).a0.aC=(b7 L (x+1)).a0.aC:=by rw[<-bP.set g hk,a];rfl
def avO{L:List S}{x k:Nat}{t:S}(g:bP L x k t)(hk:decide ((k:Int)<4)=false)(a:bV t k=((4:Nat):Int)):(b7 L x).a1.neg=(b7 L (x+1)).a1.neg:=by rw[<-bP.set g hk,a];rfl
def avN{L:List S}{x k:Nat}{t:S}(g:bP L x k t)(hk:decide ((k:Int)<4)=false)(a:bV t k=((4:Nat):Int)):(b7 L x).a1.aC=(b7 L (x+1)).a1.aC:=by rw[<-bP.set g hk,a];rfl
def avQ{L:List S}{x k:Nat}{t:S}(g:bP L x k t)(hk:decide ((k:Int)<4)=false)(a:bV t k=((4:Nat):Int)):(b7 L x).a2.neg=(b7 L (x+1)).a2.neg:=by rw[<-bP.set g hk,a];rfl
def avP{L:List S}{x k:Nat}{t:S}(g:bP L x k t)(hk:decide ((k:Int)<4)=false)(a:bV t k=((4:Nat):Int)):(b7 L x).a2.aC=(b7 L (x+1)).a2.aC:=by rw[<-bP.set g hk,a];rfl
def avS{L:List S}{x k:Nat}{t:S}(g:bP L x k t)(hk:decide ((k:Int)<4)=false)(a:bV t k=((4:Nat):Int)):(b7 L x).a3.neg=(b7 L (x+1)).a3.neg:=by rw[<-bP.set g hk,a];rfl
def avR{L:List S}{x k:Nat}{t:S}(g:bP L x k t)(hk:decide ((k:Int)<4)=false)(a:bV t k=((4:Nat):Int)):(b7 L x).a3.aC=(b7 L (x+1)).a3.aC:=by rw[<-bP.set g hk,a];rfl
def av3{L:List S}{x k:Nat}{t u:S}(g:bP L x k t)(hk:decide ((k:Int)<4)=false)(a:bV t k=((4:Nat):Int))(hu:L[(x:Int).toNat]?=some u):(eX (b7 L x).a4 ⟨u.neg,u.aC⟩).neg=(b7 L (x+1)).a4.neg:=by rw[qx g hu,<-bP.set g hk,a];rfl
def av2{L:List S}{x k:Nat}{t u:S}(g:bP L x k t)(hk:decide ((k:Int)<4)=false)(a:bV t k=((4:Nat):Int))(hu:L[(x:Int).toNat]?=some u):(eX (b7 L x).a4 ⟨u.neg,u.aC⟩).aC=(b7 L (x+1)).a4.aC:=by rw[qx g hu,<-bP.set g hk,a];rfl
def FMx{L:List S}{x:Nat}(h:decide ((x:Int)<L.length)=true):x<L.length:=by have:=dO h;omega
def akK{L:List S}{x:Nat}(g:qK L x)(h:x<L.length):bP L x 0 L[x]:=akJ g (cN h)
def awx(p:J)(i:b8 p)(L:List S)(j:dM p=L)(h:rC L):bh 87 [wE .aF p] (tT [.agg ((eF .iY (nM L .z).1).map .d),bE (nM L .z).2]):=by
 refine vF func87 rfl [ot Vw 135 (.el W.aF) (λ(q:J)=>q=p) (λ(q:J)=>lT .bn L) (λq f=>by subst f;rw[<-j];exact aiJ q i),JQ] [(4,⟨Nat,λx=>⟨[(1,br 0),(2,br 1),(4,br 2),(5,lT .bn L),(13,iT L.length),(14,iT x)],[(0,cj .aF p),(1,.cells ((eF .iY a_.z).map .d)),(2,cj .iY (b7 L x))],3⟩,λx=>qK L x/\True,λx=>L.length-x⟩),(1000008,⟨Nat×Nat×S,λy=>⟨[(1,br 0),(2,br 1),(4,br 2),(5,lT .bn L),(13,iT L.length),(6,iT y.1),(7,iT (bV y.2.2 y.2.1)),(8,iT (oH y.2.2 y.2.1)),(14,iT y.1),(17,iT y.2.1)],[(0,cj .aF p),(1,.cells ((eF .iY a_.z).map .d)),(2,cj .iY (b7 L y.1))],3⟩,λy=>bP L y.1 y.2.1 y.2.2/\True,λy=>4-y.2.1⟩)] ?_;repeat' (first
  |((with_reducible show mt _ _ _ _ _);(conv=>whnf);(fail_if_success with_reducible show mt _ _ _ _ _))
  |exact nx2 ‹bV y.2.2 y.2.1=((_:Nat):Int)› ae
  |intro _|apply aQ
  |refine @aS (Nat×Nat×S) _ (y.1,y.2.1+1,y.2.2) ?_
  |refine @aS Nat _ (y.1+1) ?_
  |refine @aS (Nat×Nat×S->Prop) _ (λv=>v.1=x) (@aS (Nat×Nat×S) _ (x,0,L[x]'(FMx ‹_›)) (aQ ?_ λ(y:Nat×Nat×S)(a:bP L y.1 y.2.1 y.2.2/\True)(c:y.1=x)=>?_))
  |refine @aS Nat _ 0 (aQ ?_ λ(x:Nat)(b:qK L x/\True)=>?_)
  |fail)
 all_goals(try simp only[uv,AD,bz]at*)
 all_goals first|exact bj|omega|((with_reducible show(_&&_)=true);kernel_rfl)| (with_reducible first|exact akI L|exact bP.n a.1 Y|exact bP.e2 a.1 Y Y|exact adP a.1 Y Y|exact aA_ a.1 Y Y Y|exact aA9 a.1 Y Y Y|exact(adO a.1 Y Y h).1|exact(adO a.1 Y Y h).2)|exact akK b.1 _| (with_reducible first|exact avV a.1 Y ‹bV _ _=_› Y|exact avg a.1 Y ‹bV _ _=_›|exact avi a.1 Y ‹bV _ _=_›|exact avk a.1 Y ‹bV _ _=_›|exact avm a.1 Y ‹bV _ _=_›|exact avU a.1 Y ‹bV _ _=_› Y|exact avf a.1 Y ‹bV _ _=_›|exact avh a.1 Y ‹bV _ _=_›|exact avj a.1 Y ‹bV _ _=_›|exact avl a.1 Y ‹bV _ _=_›|exact avo a.1 Y ‹bV _ _=_›|exact avX a.1 Y ‹bV _ _=_› Y|exact avq a.1 Y ‹bV _ _=_›|exact avs a.1 Y ‹bV _ _=_›|exact avu a.1 Y ‹bV _ _=_›|exact avn a.1 Y ‹bV _ _=_›|exact avW a.1 Y ‹bV _ _=_› Y|exact avp a.1 Y ‹bV _ _=_›|exact avr a.1 Y ‹bV _ _=_›|exact avt a.1 Y ‹bV _ _=_›|exact avw a.1 Y ‹bV _ _=_›|exact avy a.1 Y ‹bV _ _=_›|exact avZ a.1 Y ‹bV _ _=_› Y|exact avA a.1 Y ‹bV _ _=_›|exact avC a.1 Y ‹bV _ _=_›|exact avv a.1 Y ‹bV _ _=_›|exact avx a.1 Y ‹bV _ _=_›|exact avY a.1 Y ‹bV _ _=_› Y|exact avz a.1 Y ‹bV _ _=_›|exact avB a.1 Y ‹bV _ _=_›|exact avE a.1 Y ‹bV _ _=_›|exact avG a.1 Y ‹bV _ _=_›|exact avI a.1 Y ‹bV _ _=_›|exact av1 a.1 Y ‹bV _ _=_› Y|exact avK a.1 Y ‹bV _ _=_›|exact avD a.1 Y ‹bV _ _=_›|exact avF a.1 Y ‹bV _ _=_›|exact avH a.1 Y ‹bV _ _=_›|exact av0 a.1 Y ‹bV _ _=_› Y|exact avJ a.1 Y ‹bV _ _=_›|exact avM a.1 Y ‹bV _ _=_›|exact avO a.1 Y ‹bV _ _=_›|exact avQ a.1 Y ‹bV _ _=_›|exact avS a.1 Y ‹bV _ _=_›|exact av3 a.1 Y ‹bV _ _=_› Y|exact avL a.1 Y ‹bV _ _=_›|exact avN a.1 Y ‹bV _ _=_›|exact avP a.1 Y ‹bV _ _=_›|exact avR a.1 Y ‹bV _ _=_›|exact av2 a.1 Y ‹bV _ _=_› Y)|exact(bP.fn a.1 h).i0.sd.1|exact(bP.fn a.1 h).i0.sd.2 _ Y|exact(bP.fn a.1 h).i1.sd.1|exact(bP.fn a.1 h).i1.sd.2 _ Y|exact(bP.fn a.1 h).i2.sd.1|exact(bP.fn a.1 h).i2.sd.2 _ Y|exact(bP.fn a.1 h).i3.sd.1|exact(bP.fn a.1 h).i3.sd.2 _ Y|exact(bP.fn a.1 h).i4.sd.1|exact(bP.fn a.1 h).i4.sd.2 _ Y|have e:=qx a.1 Y;rw[e];exact(bP.co a.1 h).1|exact((bP.co a.1 h).2) _ (by rw[<-qx a.1 Y];assumption)|rw[aC7]|rw[aC8]|rw[abu]<;>rfl|rw[bP.e1 a.1 Y Y]<;>rfl|rw[qK.e b.1 Y]<;>rfl|have g:=R_ y.2.2 y.2.1;omega|have g:=bP.lt a.1;have l:=(Ie h).1;simp only[be,bc]at*;omega|rfl
def aww(p:J)(h:b8 p/\rC (dM p)):bh 87 [wE .aF p] (tT [.agg ((eF .iY (l9 p).1).map .d),bE (l9 p).2]):=by unfold l9;exact awx p h.1 _ rfl h.2
def arX:=dj (.el W.aF) aww
@[irreducible] def gj(l:List aR)(k:Int):=l.length<=100000/\(∀r∈l,FB 1000 r.f)/\0<=k/\k<=2
def yk{l:List aR}{k:Int}(h:gj l k):=(gj.eq_1 ..).mp h
@[irreducible] def DN(l:List aR)(k:Int)(x:Nat):Prop:=x<=l.length/\l.findIdx? (iC k)=((l.drop x).findIdx? (iC k)).map (x+ ·)
def Nq{l:List aR}{k:Int}{x:Nat}(h:DN l k x):=(DN.eq_1 ..).mp h
def Nn(l:List aR)(k:Int):DN l k 0:=by unfold DN;refine⟨dz _,?_⟩;rw[rG];cases l.findIdx? (iC k)<;>simp
@[irreducible] def dE(l:List aR)(k:Int)(x y:Nat):List aR:=vK k l x y
@[irreducible] def dI(l:List aR)(k:Int)(x:Nat):List aR:=vL k l x
@[irreducible] def dJ(l:List aR)(k:Int)(x y:Nat):List aR:=vL k l x++(match l[x]? with|some r=>s_ k l r y|none=>[])
@[irreducible] def DQ(l:List aR)(k:Int)(x y:Nat)(r:aR):=l[x]?=some r/\l.findIdx? (iC k)=some x/\y<=l.length/\iC k r=true
def sD{l:List aR}{k:Int}{x y:Nat}{r:aR}(h:DQ l k x y r):=(DQ.eq_1 ..).mp h
@[irreducible] def DJ(l:List aR)(k:Int)(x y:Nat)(r:aR):=l[x]?=some r/\y<=l.length/\l.findIdx? (iC k)=none
def lA{l:List aR}{k:Int}{x y:Nat}{r:aR}(h:DJ l k x y r):=(DJ.eq_1 ..).mp h
def aag(h:l[x]?=some r):l.drop x=r::l.drop (x+1):=by rw[du]at h;obtain⟨a,b⟩:=h;rw[<-b];exact kB a
def BO(h:DN l k x)(a:l[(x:Int).toNat]?=some r)(b:iC k r=false):DN l k (x+1):=by
 rw[bt]at a;obtain⟨e,c⟩:=Nq h;unfold DN;have d:=(du.1 a).1;refine⟨d,?_⟩;rw[c,aag a,List.findIdx?_cons,b];cases(l.drop (x+1)).findIdx? (iC k)with
 |none=>rfl
 |some i=>simp;omega
def Np(h:DN l k x)(a:l[(x:Int).toNat]?=some r)(b:iC k r=true):DQ l k x 0 r:=by rw[bt]at a;obtain⟨d,c⟩:=Nq h;unfold DQ;refine⟨a,?_,dz _,b⟩;rw[c,aag a,List.findIdx?_cons,b];rfl
def No(h:DN l k x)(a:decide ((x:Int)<l.length)=false):l.findIdx? (iC k)=none:=by simp only[bc]at a;obtain⟨c,b⟩:=Nq h;rw[b,mU O];rfl
def CO(l:List aR)(k:Int)(x:Nat):dE l k x 0=[]:=by unfold dE vK;rfl
def CR(l:List aR)(k:Int):dI l k 0=[]:=by unfold dI vL;rfl
def PC(h:DQ l k x y r)(a:decide ((y:Int)<l.length)=false):dE l k x y=ki k l:=by obtain⟨c,b,d,f⟩:=sD h;simp only[bc]at a;have e:y=l.length:=O;unfold dE ki;rw[b,e]
def PD(h:l.findIdx? (iC k)=none)(a:decide ((x:Int)<l.length)=false)(b:x<=l.length):dI l k x=ki k l:=by simp only[bc]at a;have e:x=l.length:=O;unfold dI ki;rw[h,e]
def CQ(h:x=y):dE l k x y=dE l k x (y+1):=by unfold dE vK;rw[sP,It,EF,EH,aM h.symm,lB,lB]
def CP(h:DQ l k x y r)(a:l[(y:Int).toNat]?=some b)(c:x≠y):dE l k x y++[zo k r b]=dE l k x (y+1):=by rw[bt]at a;unfold dE vK;rw[sP,It,EF,EH,Z (λe=>c e.symm),(sD h).1,a];rfl
def Nr(h:DQ l k x y r)(a:decide ((y:Int)<l.length)=true):DQ l k x (y+1) r:=by simp only[be]at a;obtain⟨b,c,e,d⟩:=sD h;unfold DQ;exact⟨b,c,O,d⟩
def Nl(h:DJ l k x y r)(a:decide ((y:Int)<l.length)=true):DJ l k x (y+1) r:=by simp only[be]at a;obtain⟨b,d,c⟩:=lA h;unfold DJ;exact⟨b,O,c⟩
def Nk(h:l.findIdx? (iC k)=none)(a:l[(x:Int).toNat]?=some r):DJ l k x 0 r:=by rw[bt]at a;unfold DJ;exact⟨a,dz _,h⟩
def DJ.lt(h:DJ l k x y r):x<l.length:=(du.1 (lA h).1).1
def DQ.lt(h:DQ l k x y r):x<l.length:=(du.1 (sD h).1).1
def PG(a:l[(x:Int).toNat]?=some r)(I:(bm (r.f.get k)==0)=true):dI l k x++[r]=dJ l k x 0:=by rw[bt]at a;unfold dI dJ s_;rw[a];simp only[gx,EH,lB];rw[aM (an I)]
def PF(a:l[(x:Int).toNat]?=some r)(I:(bm (r.f.get k)==0)=false):dI l k x=dJ l k x 0:=by rw[bt]at a;unfold dI dJ s_;rw[a];simp only[gx,EH,lB];rw[Z (an I),lB]
def xy(h:DJ l k x y r)(b:decide ((y:Int)<l.length)=false):dJ l k x y=dI l k (x+1):=by obtain⟨a,c,d⟩:=lA h;simp only[bc]at b;have e:y=l.length:=O;unfold dI dJ vL;rw[a,e,fy,a,It];simp
def ZU(h:DJ l k x y r)(a:l[(y:Int).toNat]?=some b):dJ l k x y++sk k r b=dJ l k x (y+1):=by rw[bt]at a;unfold dJ s_;simp only[(lA h).1,fy,a,It,gM];simp
def CY(h:DJ l k x y r)(a:l[(y:Int).toNat]?=some b)(c:¬(0<bm (r.f.get k)/\bm (b.f.get k)<0)):dJ l k x y=dJ l k x (y+1):=by rw[<-ZU h a];unfold sk;rw[Z c,lB]
def PE(h:DJ l k x y r)(a:l[(y:Int).toNat]?=some b)(c:0<bm (r.f.get k))(e:bm (b.f.get k)<0)(f:(if r.aJ=1\/b.aJ=1 then 1 else 2)=d):dJ l k x y++[⟨d,.fC (iD (-iV (b.f.get k))) r.f (r.f.get k) b.f⟩]=dJ l k x (y+1):=by rw[<-ZU h a];unfold sk;rw[aM ⟨c,e⟩,f]
theorem Ki{c d:Type}(g:c->List d)(n:Nat):∀l:List c,(∀a∈l,(g a).length<=n)->(l.flatMap g).length<=l.length*n
 |[],_=>by simp
 |a::l,h=>by
  have:=Ki g n l λb e=>h b (cv _ e)
  have:=h a (b6 ..);rw[EF,cX,fZ,iN];omega
def as5(x y:Nat)(a:y<=100000):(dE l k x y).length<=100000:=by
 unfold dE vK;refine dH (Ki _ 1 _ λj _=>?_) (by rw[oY];omega);split
 ·simp
 ·split<;>simp
def aEB(k:Int)(r t:aR):(sk k r t).length<=1:=by unfold sk;split<;>simp
def ZF(k:Int)(l:List aR)(r:aR)(n:Nat):(s_ k l r n).length<=1+l.length:=by
 unfold s_;have c:=Ki (sk k r) 1 (l.take n) λa _=>aEB k r a
 have b:(l.take n).length<=l.length:=by simp;omega
 rw[cX];split<;>simp only[Iz,mW]<;>omega
def ZG(b:l.length<=100000)(k:Int)(x:Nat):(vL k l x).length<=10000100000:=by
 unfold vL;have c:=Ki (λr=>s_ k l r l.length) (1+l.length) (l.take x) λa _=>ZF k l a l.length
 have d:(l.take x).length<=l.length:=by simp;omega
 have e:(l.take x).length*(1+l.length)<=100000*100001:=yF O O;omega
def as6(a:l.length<=100000)(k:Int)(x y:Nat):(dJ l k x y).length<=10001000000:=by
 have b:=ZG a k x;unfold dJ;rw[cX];split
 ·rename_i r _;have:=ZF k l r y;omega
 ·simp only[mW];omega
def nL(h:x<=10001000000)(r:aR):(x+[r].length)*zS.dF<=140737488355328/\x+[r].length<=140737488355328:=by rw[OA,Iz];omega
def FB.fn{f:a_}(h:FB 1000 f):FN f:=by unfold FN;exact h.up O
def FB.fi(h:FB 1000 X)(k:Int):FI (X.get k):=by unfold FI;exact(h.get k).up O
def FB.k_(h:FB 1000 X)(k:Int):FI (iD (-iV (X.get k))):=by unfold FI;exact(h.get k).neg.up O
def FB.Qi(h:FB 1000 X)(k:Int):FI (iD ((iV (X.get k)).natAbs:Int)):=by unfold FI;exact(h.get k).aC.up O
def PH{d:aY}(h:decide (0<bm Q)=true):iD (-iV d)=qc Q d:=by unfold qc;rw[aM (dO h)]
def PI{d:aY}(h:decide (0<bm Q)=false):d=qc Q d:=by unfold qc;rw[Z (cQ h)]
def gj.fb(h:gj l k)(a:l[(x:Int).toNat]?=some r):FB 1000 r.f:=(yk h).2.1 r (bM a)
def FB.i0{f:a_}(h:FB 1000 f):FI f.a0:=h.fi 0
def FB.i1{f:a_}(h:FB 1000 f):FI f.a1:=h.fi 1
def FB.i2{f:a_}(h:FB 1000 f):FI f.a2:=h.fi 2
def FB.n0(h:FB 1000 X):FI (iD (-iV X.a0)):=h.k_ 0
def FB.n1(h:FB 1000 X):FI (iD (-iV X.a1)):=h.k_ 1
def FB.n2(h:FB 1000 X):FI (iD (-iV X.a2)):=h.k_ 2
def FB.b0(h:FB 1000 X):FI (iD ((iV X.a0).natAbs:Int)):=h.Qi 0
def FB.b1(h:FB 1000 X):FI (iD ((iV X.a1).natAbs:Int)):=h.Qi 1
def FB.b2(h:FB 1000 X):FI (iD ((iV X.a2).natAbs:Int)):=h.Qi 2
def lit{j:Nat}(h:k≠(j:Int)):k=(j:Int)->P:=λe=>absurd e h
@[irreducible] def Kp(l:List aR)(i:Nat)(t:aR):=l[i]?=some t
def Kp.u{l:List aR}{i:Nat}{t:aR}(h:Kp l i t):=(Kp.eq_1 ..).mp h
theorem Kp.f{l:List aR}{k:Int}(h:gj l k){x:Nat}{r:aR}(a:Kp l x r):FB 1000 r.f:=(yk h).2.1 r (bM a.u)
def DQ.kp{l:List aR}{x y:Nat}{r:aR}(h:DQ l k x y r):Kp l x r:=by unfold Kp;exact(sD h).1
def Oz{b:Prop} [Decidable P] [Decidable b](h:P):(if P\/b then(1:Int)else 2)=1:=aM (.inl h)
def OB{b:Prop} [Decidable P] [Decidable b](h:b):(if P\/b then(1:Int)else 2)=1:=aM (.inr h)
def OC{b:Prop} [Decidable P] [Decidable b](h:¬P)(d:¬b):(if P\/b then(1:Int)else 2)=2:=Z (λe=>e.elim h d)
def Cy(h:(k==1)=true):k=1:=an h
def Cx(h:(k==1)=false):¬k=1:=an h
def ub{l:List aR}{v:Nat}(h:gj l k)(a:decide ((v:Int)<l.length)=true):(v:Int)+1<=9223372036854775807:=by have g:=(yk h).1;simp only[be]at a;omega
def Eh{l:List aR}{v:Nat}(h:gj l k)(a:v<l.length):(v:Int)+1<=9223372036854775807:=by have g:=(yk h).1;omega
def Rj{l:List aR}{v:Nat}(a:decide ((v:Int)<l.length)=true):(v:Int).toNat<l.length:=by simp only[be]at a;omega
def Dr{l:List aR}{v:Nat}(a:v<l.length):(v:Int).toNat<l.length:=O
def Rk{l:List aR}{v:Nat}(a:decide ((v:Int)<l.length)=true):l.length-(v+1)<l.length-v:=by simp only[be]at a;omega
def Rm{l:List aR}{a b z:Nat}{r:aR}(h:DJ l k a b r)(e:a=z):l.length-(a+1)<l.length-z:=by have g:=DJ.lt h;omega
def Q5{b:List aR}{r:aR}(h:N++[r]=b):N.length+[r].length=b.length:=by rw[<-h,cX]
def Q7{b:List aR}(h:N=b):N.length=b.length:=by rw[h]
def Dp(h:N=[]):N.length=0:=by rw[h];rfl
def bJ{l:List aR}(h:gj l k){x y:Nat}:(dJ l d x y).length<=10001000000:=as6 (yk h).1 _ _ _
def Cu{l:List aR}{x y:Nat}{r:aR}(h:gj l k)(a:DQ l d x y r):(dE l d x y).length<=10001000000:=by have g:=(yk h).1;have f:=(sD a).2.2.1;exact dH (as5 _ _ O) O
def bI{l:List aR}(h:gj l k){x:Nat}:(dI l d x).length<=10001000000:=by unfold dI;exact dH (ZG (yk h).1 _ _) O
def sR{l:List aR}{i:Nat}{a b:aR}(h:l[(i:Int).toNat]?=some a)(d:l[(i:Int).toNat]?=some b):a=b:=yG (h.symm.trans d)
def kN{l:List aR}{i:Nat}{a b:aR}(h:l[i]?=some a)(d:l[(i:Int).toNat]?=some b):a=b:=by rw[bt]at d;exact yG (h.symm.trans d)
def Dx{x y:Nat}(h:((y:Int)==(x:Int))=true):x=y:=by simp at h;omega
def auB{r:aR}(h:(r.aJ !=0)=false)(a:(bm r.f.a0==0)=false):iC 0 r=true:=by show(decide (r.aJ=0)&&decide (bm r.f.a0≠0))=true;simp at h a;simp[h,a]
def auz{r:aR}(h:(r.aJ !=0)=true):iC 0 r=false:=by show(decide (r.aJ=0)&&decide (bm r.f.a0≠0))=false;simp at h;simp[h]
def auA{r:aR}(a:(bm r.f.a0==0)=true):iC 0 r=false:=by show(decide (r.aJ=0)&&decide (bm r.f.a0≠0))=false;simp at a;simp[a]
section
variable {l:List aR}{x y:Nat}{r t:aR}
def sN0{i:Nat}{a b:aR}(h:l[(i:Int).toNat]?=some a)(d:l[(i:Int).toNat]?=some b):a.f.a0.neg=b.f.a0.neg:=by rw[sR h d]
def sA0{i:Nat}{a b:aR}(h:l[(i:Int).toNat]?=some a)(d:l[(i:Int).toNat]?=some b):a.f.a0.aC=b.f.a0.aC:=by rw[sR h d]
def iS0(h:gj l k){i:Nat}{a:aR}(f:d∈a.f.a0.aC)(j:l[(i:Int).toNat]?=some a):b5 d:=(FI.sd (FB.i0 (gj.fb h j))).2 _ f
def iQ0(h:gj l k)(a:DQ l 0 x y r)(f:d∈r.f.a0.aC):b5 d:=(FI.sd (FB.i0 (Kp.f h (DQ.kp a)))).2 _ f
def ZA(h:DQ l 0 x y r){a b c d:aR}(f:l[(y:Int).toNat]?=some a)(i:l[(y:Int).toNat]?=some b)(j:l[(y:Int).toNat]?=some c)(k:l[(x:Int).toNat]?=some d)(m:((y:Int)==(x:Int))=false)(I:decide (0<bm r.f.a0)=true):dE l 0 x y++[⟨a.aJ,.fC (iD ((iV r.f.a0).natAbs:Int)) b.f (iD (-iV c.f.a0)) d.f⟩]=dE l 0 x (y+1):=by have n:=sR f i;have o:=sR f j;have q:=kN (sD h).1 k;subst n o q;rw[<-CP h f (by simp at m;omega)];show _=_++[aR.mk a.aJ (.fC (iD ((iV r.f.a0).natAbs:Int)) a.f (qc r.f.a0 a.f.a0) r.f)];rw[PH I]
def Zz(h:DQ l 0 x y r){a b c d:aR}(f:l[(y:Int).toNat]?=some a)(i:l[(y:Int).toNat]?=some b)(j:l[(y:Int).toNat]?=some c)(k:l[(x:Int).toNat]?=some d)(m:((y:Int)==(x:Int))=false)(I:decide (0<bm r.f.a0)=false):dE l 0 x y++[⟨a.aJ,.fC (iD ((iV r.f.a0).natAbs:Int)) b.f c.f.a0 d.f⟩]=dE l 0 x (y+1):=by have n:=sR f i;have o:=sR f j;have q:=kN (sD h).1 k;subst n o q;rw[<-CP h f (by simp at m;omega)];show _=_++[aR.mk a.aJ (.fC (iD ((iV r.f.a0).natAbs:Int)) a.f (qc r.f.a0 a.f.a0) r.f)];rw[<-PI I]
def ZK(d:l[(x:Int).toNat]?=some r)(I:(bm t.f.a0==0)=true)(a:l[(x:Int).toNat]?=some t):dI l 0 x++[r]=dJ l 0 x 0:=by have f:=sR d a;subst f;exact PG d I
def ZJ(I:(bm r.f.a0==0)=false)(a:l[(x:Int).toNat]?=some r):dI l 0 x=dJ l 0 x 0:=PF a I
def ZH(h:DJ l 0 x y r)(I:decide (0<bm t.f.a0)=false)(d:l[(x:Int).toNat]?=some t)(a:decide ((y:Int)<l.length)=true):dJ l 0 x y=dJ l 0 x (y+1):=by
 have e:=kN (lA h).1 d;subst e;have a:=dO a;have f:l[(y:Int).toNat]?=some (l[y]' O):=by rw[bt];exact cN O
 exact CY h f λi=>(cQ I) i.1
def ZI(h:DJ l 0 x y r)(I:decide (bm t.f.a0<0)=false)(a:l[(y:Int).toNat]?=some t):dJ l 0 x y=dJ l 0 x (y+1):=CY h a λd=>(cQ I) d.2
section
variable {b c e g u v p s:aR}
def CU(h:DJ l 0 x y r)(a:l[(y:Int).toNat]?=some b)(d:l[(x:Int).toNat]?=some c)(f:l[(x:Int).toNat]?=some e)(i:l[(y:Int).toNat]?=some g)(j:decide (0<bm u.f.a0)=true)(m:l[(x:Int).toNat]?=some u)(n:decide (bm v.f.a0<0)=true)(o:l[(y:Int).toNat]?=some v)(w:(if r.aJ=1\/b.aJ=1 then 1 else 2)=k):dJ l 0 x y++[⟨k,.fC (iD (-iV b.f.a0)) c.f e.f.a0 g.f⟩]=dJ l 0 x (y+1):=by have z:=kN (lA h).1 d;have A:=kN (lA h).1 f;have B:=kN (lA h).1 m;have C:=sR a i;have D:=sR a o;subst z A B C D;exact PE h a (dO j) (dO n) w
end
def qA0(h:DJ l 0 x y r){b p:aR}(a:l[(x:Int).toNat]?=some p)(d:(p.aJ==1)=true):(if r.aJ=1\/b.aJ=1 then(1:Int)else 2)=1:=by have f:=kN (lA h).1 a;subst f;exact Oz (Cy d)
def qB0{b p:aR}(a:l[(y:Int).toNat]?=some b)(d:l[(y:Int).toNat]?=some p)(f:(p.aJ==1)=true):(if r.aJ=1\/b.aJ=1 then(1:Int)else 2)=1:=by have h:=sR a d;subst h;exact OB (Cy f)
def qC0(h:DJ l 0 x y r){b p s:aR}(a:l[(y:Int).toNat]?=some b)(d:l[(x:Int).toNat]?=some p)(f:(p.aJ==1)=false)(i:l[(y:Int).toNat]?=some s)(I:(s.aJ==1)=false):(if r.aJ=1\/b.aJ=1 then(1:Int)else 2)=2:=by have j:=kN (lA h).1 d;have k:=sR a i;subst j k;exact OC (Cx f) (Cx I)
def aJg(h:DN l 0 x)(d:l[(x:Int).toNat]?=some r)(a:(r.aJ !=0)=true):DN l 0 (x+1):=BO h d (auz a)
def aJh(h:DN l 0 x)(a:(bm r.f.a0==0)=true)(d:l[(x:Int).toNat]?=some r):DN l 0 (x+1):=BO h d (auA a)
def vQ0(h:DN l 0 x){a b c:aR}(d:l[(x:Int).toNat]?=some c)(f:l[(x:Int).toNat]?=some a)(i:(a.aJ !=0)=false)(j:(bm b.f.a0==0)=false)(k:l[(x:Int).toNat]?=some b):DQ l 0 x 0 c:=by have m:=sR d f;have n:=sR d k;subst m n;exact Np h d (auB i j)
end
attribute [local irreducible] ki iC Sm bm iV iD in
def ato(l:List aR)(h:gj l 0):bh 92 [wL .row l,iE 0] (lT .row (ki 0 l)):=by
 refine vF func92 rfl [vC,F0,Pk,Pp] [(2,⟨Nat,λx=>⟨[(0,lT .row l),(1,iT 0),(16,iT l.length),(17,iT x)],[],0⟩,λx=>DN l 0 x/\True,λx=>l.length-x⟩),(1000008,⟨Nat×Nat×aR,λy=>⟨[(0,lT .row l),(1,iT 0),(5,iT y.1),(6,br 0),(7,.e (.c (.aX 1 W.row (dE l 0 y.1 y.2.1).length))),(39,iT l.length),(40,iT y.2.1)],[(0,.cells ((eF .cM y.2.2.f.a0).map .d)),(1,.aW (U:=Un) W.row (dE l 0 y.1 y.2.1))],2⟩,λy=>DQ l 0 y.1 y.2.1 y.2.2/\True,λy=>l.length-y.2.1⟩),(20,⟨Nat,λx=>⟨[(0,lT .row l),(1,iT 0),(10,.e (.c (.aX 0 W.row (dI l 0 x).length))),(85,iT l.length),(86,iT x)],[(0,.aW (U:=Un) W.row (dI l 0 x))],1⟩,λx=>(x<=l.length/\l.findIdx? (iC 0)=none)/\True,λx=>l.length-x⟩),(1000025,⟨Nat×Nat×aR,λy=>⟨[(0,lT .row l),(1,iT 0),(10,.e (.c (.aX 0 W.row (dJ l 0 y.1 y.2.1).length))),(11,iT y.1),(85,iT l.length),(86,iT y.1),(106,iT l.length),(107,iT y.2.1)],[(0,.aW (U:=Un) W.row (dJ l 0 y.1 y.2.1))],1⟩,λy=>DJ l 0 y.1 y.2.1 y.2.2/\True,λy=>l.length-y.2.1⟩)] ?_;repeat' (first
  |((with_reducible show mt _ _ _ _ _);(conv=>whnf);(fail_if_success with_reducible show mt _ _ _ _ _))
  |exact lit ae
  |intro _|apply aQ
  |refine @aS (Nat×Nat×aR) _ (w.1,w.2.1+1,w.2.2) ?_
  |refine @aS Nat _ (w.1+1) ?_
  |refine @aS (Nat×Nat×aR->Prop) _ (λv=>v.1=z) (@aS (Nat×Nat×aR) _ (z,0,?_) (aQ ?_ λ(w:Nat×Nat×aR)(a:DJ l 0 w.1 w.2.1 w.2.2/\True)(k:w.1=z)=>?_))
  |refine @aS (Nat×Nat×aR) _ (y.1,y.2.1+1,y.2.2) ?_
  |refine @aS Nat _ 0 (aQ ?_ λ(z:Nat) (i:(z<=l.length/\l.findIdx? (iC 0)=none)/\True)=>?_)
  |refine @aS (Nat×Nat×aR->Prop) _ (λv=>v.1=x) (@aS (Nat×Nat×aR) _ (x,0,?_) (aQ ?_ λ(y:Nat×Nat×aR)(f:DQ l 0 y.1 y.2.1 y.2.2/\True)(m:y.1=x)=>?_))
  |refine @aS Nat _ 0 (aQ ?_ λ(x:Nat)(j:DN l 0 x/\True)=>?_)
  |refine @aS Nat _ (x+1) ?_
  |fail)
 all_goals(try simp only[uv,AD,AF,C5]at*)
 all_goals first|exact bj|omega|((with_reducible show(_&&_)=true);kernel_rfl)|(with_reducible show FN _;first|exact FB.fn (gj.fb h Y)|exact FB.fn (Kp.f h (DQ.kp f.1)))|(with_reducible show FI _;first|exact FB.i0 (gj.fb h Y)|exact FB.n0 (gj.fb h Y)|exact FB.b0 (gj.fb h Y)|exact FB.b0 (Kp.f h (DQ.kp f.1)))|((with_reducible show Sm _);first|exact(FI.sd (FB.i0 (gj.fb h Y))).1|exact(FI.sd (FB.i0 (Kp.f h (DQ.kp f.1)))).1)|((with_reducible show b5 _);first|exact iS0 h Y Y|exact iQ0 h f.1 Y)|(with_reducible show(Int.toNat _)<l.length;first|exact Rj Y|exact Dr (DJ.lt a.1)|exact Dr (DQ.lt f.1))|(with_reducible show((_:Int))+1<=9223372036854775807;first|exact ub h Y|exact Eh h (DJ.lt a.1)|exact Eh h (DQ.lt f.1))|(with_reducible show l.length-(_+1)<l.length-_;first|exact Rk Y|exact Rm a.1 k)|((with_reducible show _+1<=l.length);first|exact DJ.lt a.1)|(with_reducible show(_+List.length _)*zS.dF<=140737488355328;first|exact(nL (bJ h) _).1|exact(nL (Cu h f.1) _).1|exact(nL (bI h) _).1)|(with_reducible show _+List.length _<=140737488355328;first|exact(nL (bJ h) _).2|exact(nL (Cu h f.1) _).2|exact(nL (bI h) _).2)| (with_reducible first|exact Nn l 0|exact i.1.2|exact No j.1 Y|exact Nl a.1 Y|exact Nr f.1 Y|exact xy a.1 Y|exact PC f.1 Y|exact CO _ _ _|exact CR _ _|exact Nk i.1.2 Y)|((with_reducible show DN l _ (_+1));first|exact aJg j.1 Y Y|exact aJh j.1 ‹(bm _==0)=true› Y)|(with_reducible show DQ l _ _ 0 _;first|exact vQ0 j.1 Y Y Y ‹(bm _==0)=false› Y)|exact Dp (CO _ _ _)|exact Dp (CR _ _)|exact PD i.1.2 Y i.1.1|exact sN0 Y Y|exact sA0 Y Y|(refine Q5 ?_;first|exact CU a.1 Y Y Y Y ‹decide (0<bm _)=true› Y ‹decide (bm _<0)=true› Y (qC0 a.1 Y Y Y Y Y)|exact CU a.1 Y Y Y Y ‹decide (0<bm _)=true› Y ‹decide (bm _<0)=true› Y (qA0 a.1 Y Y)|exact CU a.1 Y Y Y Y ‹decide (0<bm _)=true› Y ‹decide (bm _<0)=true› Y (qB0 Y Y Y)|exact ZA f.1 Y Y Y Y Y Y|exact Zz f.1 Y Y Y Y Y Y|exact ZK Y ‹(bm _==0)=true› Y)|(refine Q7 ?_;first|exact ZI a.1 ‹decide (bm _<0)=false› Y|exact ZH a.1 ‹decide (0<bm _)=false› Y Y|exact xy a.1 Y|exact CQ (Dx Y)|exact ZJ ‹(bm _==0)=false› Y)|(first|exact ZI a.1 ‹decide (bm _<0)=false› Y|exact ZH a.1 ‹decide (0<bm _)=false› Y Y|exact xy a.1 Y|exact CQ (Dx Y)|exact ZJ ‹(bm _==0)=false› Y|exact CU a.1 Y Y Y Y ‹decide (0<bm _)=true› Y ‹decide (bm _<0)=true› Y (qC0 a.1 Y Y Y Y Y)|exact CU a.1 Y Y Y Y ‹decide (0<bm _)=true› Y ‹decide (bm _<0)=true› Y (qA0 a.1 Y Y)|exact CU a.1 Y Y Y Y ‹decide (0<bm _)=true› Y ‹decide (bm _<0)=true› Y (qB0 Y Y Y)|exact ZA f.1 Y Y Y Y Y Y|exact Zz f.1 Y Y Y Y Y Y|exact ZK Y ‹(bm _==0)=true› Y)
def auE{r:aR}(h:(r.aJ !=0)=false)(a:(bm r.f.a1==0)=false):iC 1 r=true:=by show(decide (r.aJ=0)&&decide (bm r.f.a1≠0))=true;simp at h a;simp[h,a]
def auC{r:aR}(h:(r.aJ !=0)=true):iC 1 r=false:=by show(decide (r.aJ=0)&&decide (bm r.f.a1≠0))=false;simp at h;simp[h]
def auD{r:aR}(a:(bm r.f.a1==0)=true):iC 1 r=false:=by show(decide (r.aJ=0)&&decide (bm r.f.a1≠0))=false;simp at a;simp[a]
section
variable {l:List aR}{x y:Nat}{r t:aR}
def sN1{i:Nat}{a b:aR}(h:l[(i:Int).toNat]?=some a)(d:l[(i:Int).toNat]?=some b):a.f.a1.neg=b.f.a1.neg:=by rw[sR h d]
def sA1{i:Nat}{a b:aR}(h:l[(i:Int).toNat]?=some a)(d:l[(i:Int).toNat]?=some b):a.f.a1.aC=b.f.a1.aC:=by rw[sR h d]
def iS1(h:gj l k){i:Nat}{a:aR}(f:d∈a.f.a1.aC)(j:l[(i:Int).toNat]?=some a):b5 d:=(FI.sd (FB.i1 (gj.fb h j))).2 _ f
def iQ1(h:gj l k)(a:DQ l 1 x y r)(f:d∈r.f.a1.aC):b5 d:=(FI.sd (FB.i1 (Kp.f h (DQ.kp a)))).2 _ f
def ZC(h:DQ l 1 x y r){a b c d:aR}(f:l[(y:Int).toNat]?=some a)(i:l[(y:Int).toNat]?=some b)(j:l[(y:Int).toNat]?=some c)(k:l[(x:Int).toNat]?=some d)(m:((y:Int)==(x:Int))=false)(I:decide (0<bm r.f.a1)=true):dE l 1 x y++[⟨a.aJ,.fC (iD ((iV r.f.a1).natAbs:Int)) b.f (iD (-iV c.f.a1)) d.f⟩]=dE l 1 x (y+1):=by have n:=sR f i;have o:=sR f j;have q:=kN (sD h).1 k;subst n o q;rw[<-CP h f (by simp at m;omega)];show _=_++[aR.mk a.aJ (.fC (iD ((iV r.f.a1).natAbs:Int)) a.f (qc r.f.a1 a.f.a1) r.f)];rw[PH I]
def ZB(h:DQ l 1 x y r){a b c d:aR}(f:l[(y:Int).toNat]?=some a)(i:l[(y:Int).toNat]?=some b)(j:l[(y:Int).toNat]?=some c)(k:l[(x:Int).toNat]?=some d)(m:((y:Int)==(x:Int))=false)(I:decide (0<bm r.f.a1)=false):dE l 1 x y++[⟨a.aJ,.fC (iD ((iV r.f.a1).natAbs:Int)) b.f c.f.a1 d.f⟩]=dE l 1 x (y+1):=by have n:=sR f i;have o:=sR f j;have q:=kN (sD h).1 k;subst n o q;rw[<-CP h f (by simp at m;omega)];show _=_++[aR.mk a.aJ (.fC (iD ((iV r.f.a1).natAbs:Int)) a.f (qc r.f.a1 a.f.a1) r.f)];rw[<-PI I]
def ZP(d:l[(x:Int).toNat]?=some r)(I:(bm t.f.a1==0)=true)(a:l[(x:Int).toNat]?=some t):dI l 1 x++[r]=dJ l 1 x 0:=by have f:=sR d a;subst f;exact PG d I
def ZO(I:(bm r.f.a1==0)=false)(a:l[(x:Int).toNat]?=some r):dI l 1 x=dJ l 1 x 0:=PF a I
def ZM(h:DJ l 1 x y r)(I:decide (0<bm t.f.a1)=false)(d:l[(x:Int).toNat]?=some t)(a:decide ((y:Int)<l.length)=true):dJ l 1 x y=dJ l 1 x (y+1):=by
 have e:=kN (lA h).1 d;subst e;have a:=dO a;have f:l[(y:Int).toNat]?=some (l[y]' O):=by rw[bt];exact cN O
 exact CY h f λi=>(cQ I) i.1
def ZN(h:DJ l 1 x y r)(I:decide (bm t.f.a1<0)=false)(a:l[(y:Int).toNat]?=some t):dJ l 1 x y=dJ l 1 x (y+1):=CY h a λd=>(cQ I) d.2
section
variable {b c e g u v p s:aR}
def CV(h:DJ l 1 x y r)(a:l[(y:Int).toNat]?=some b)(d:l[(x:Int).toNat]?=some c)(f:l[(x:Int).toNat]?=some e)(i:l[(y:Int).toNat]?=some g)(j:decide (0<bm u.f.a1)=true)(m:l[(x:Int).toNat]?=some u)(n:decide (bm v.f.a1<0)=true)(o:l[(y:Int).toNat]?=some v)(w:(if r.aJ=1\/b.aJ=1 then 1 else 2)=k):dJ l 1 x y++[⟨k,.fC (iD (-iV b.f.a1)) c.f e.f.a1 g.f⟩]=dJ l 1 x (y+1):=by have z:=kN (lA h).1 d;have A:=kN (lA h).1 f;have B:=kN (lA h).1 m;have C:=sR a i;have D:=sR a o;subst z A B C D;exact PE h a (dO j) (dO n) w
end
def qA1(h:DJ l 1 x y r){b p:aR}(a:l[(x:Int).toNat]?=some p)(d:(p.aJ==1)=true):(if r.aJ=1\/b.aJ=1 then(1:Int)else 2)=1:=by have f:=kN (lA h).1 a;subst f;exact Oz (Cy d)
def qB1{b p:aR}(a:l[(y:Int).toNat]?=some b)(d:l[(y:Int).toNat]?=some p)(f:(p.aJ==1)=true):(if r.aJ=1\/b.aJ=1 then(1:Int)else 2)=1:=by have h:=sR a d;subst h;exact OB (Cy f)
def qC1(h:DJ l 1 x y r){b p s:aR}(a:l[(y:Int).toNat]?=some b)(d:l[(x:Int).toNat]?=some p)(f:(p.aJ==1)=false)(i:l[(y:Int).toNat]?=some s)(I:(s.aJ==1)=false):(if r.aJ=1\/b.aJ=1 then(1:Int)else 2)=2:=by have j:=kN (lA h).1 d;have k:=sR a i;subst j k;exact OC (Cx f) (Cx I)
def aJi(h:DN l 1 x)(d:l[(x:Int).toNat]?=some r)(a:(r.aJ !=0)=true):DN l 1 (x+1):=BO h d (auC a)
def aJj(h:DN l 1 x)(a:(bm r.f.a1==0)=true)(d:l[(x:Int).toNat]?=some r):DN l 1 (x+1):=BO h d (auD a)
def vQ1(h:DN l 1 x){a b c:aR}(d:l[(x:Int).toNat]?=some c)(f:l[(x:Int).toNat]?=some a)(i:(a.aJ !=0)=false)(j:(bm b.f.a1==0)=false)(k:l[(x:Int).toNat]?=some b):DQ l 1 x 0 c:=by have m:=sR d f;have n:=sR d k;subst m n;exact Np h d (auE i j)
end
attribute [local irreducible] ki iC Sm bm iV iD in
def atp(l:List aR)(h:gj l 1):bh 92 [wL .row l,iE 1] (lT .row (ki 1 l)):=by
 refine vF func92 rfl [vC,F0,Pk,Pp] [(2,⟨Nat,λx=>⟨[(0,lT .row l),(1,iT 1),(16,iT l.length),(17,iT x)],[],0⟩,λx=>DN l 1 x/\True,λx=>l.length-x⟩),(1000008,⟨Nat×Nat×aR,λy=>⟨[(0,lT .row l),(1,iT 1),(5,iT y.1),(6,br 0),(7,.e (.c (.aX 1 W.row (dE l 1 y.1 y.2.1).length))),(39,iT l.length),(40,iT y.2.1)],[(0,.cells ((eF .cM y.2.2.f.a1).map .d)),(1,.aW (U:=Un) W.row (dE l 1 y.1 y.2.1))],2⟩,λy=>DQ l 1 y.1 y.2.1 y.2.2/\True,λy=>l.length-y.2.1⟩),(20,⟨Nat,λx=>⟨[(0,lT .row l),(1,iT 1),(10,.e (.c (.aX 0 W.row (dI l 1 x).length))),(85,iT l.length),(86,iT x)],[(0,.aW (U:=Un) W.row (dI l 1 x))],1⟩,λx=>(x<=l.length/\l.findIdx? (iC 1)=none)/\True,λx=>l.length-x⟩),(1000025,⟨Nat×Nat×aR,λy=>⟨[(0,lT .row l),(1,iT 1),(10,.e (.c (.aX 0 W.row (dJ l 1 y.1 y.2.1).length))),(11,iT y.1),(85,iT l.length),(86,iT y.1),(106,iT l.length),(107,iT y.2.1)],[(0,.aW (U:=Un) W.row (dJ l 1 y.1 y.2.1))],1⟩,λy=>DJ l 1 y.1 y.2.1 y.2.2/\True,λy=>l.length-y.2.1⟩)] ?_;repeat' (first
  |((with_reducible show mt _ _ _ _ _);(conv=>whnf);(fail_if_success with_reducible show mt _ _ _ _ _))
  |exact lit ae
  |intro _|apply aQ
  |refine @aS (Nat×Nat×aR) _ (w.1,w.2.1+1,w.2.2) ?_
  |refine @aS Nat _ (w.1+1) ?_
  |refine @aS (Nat×Nat×aR->Prop) _ (λv=>v.1=z) (@aS (Nat×Nat×aR) _ (z,0,?_) (aQ ?_ λ(w:Nat×Nat×aR)(a:DJ l 1 w.1 w.2.1 w.2.2/\True)(k:w.1=z)=>?_))
  |refine @aS (Nat×Nat×aR) _ (y.1,y.2.1+1,y.2.2) ?_
  |refine @aS Nat _ 0 (aQ ?_ λ(z:Nat) (i:(z<=l.length/\l.findIdx? (iC 1)=none)/\True)=>?_)
  |refine @aS (Nat×Nat×aR->Prop) _ (λv=>v.1=x) (@aS (Nat×Nat×aR) _ (x,0,?_) (aQ ?_ λ(y:Nat×Nat×aR)(f:DQ l 1 y.1 y.2.1 y.2.2/\True)(m:y.1=x)=>?_))
  |refine @aS Nat _ 0 (aQ ?_ λ(x:Nat)(j:DN l 1 x/\True)=>?_)
  |refine @aS Nat _ (x+1) ?_
  |fail)
 all_goals(try simp only[uv,AD,AF,C5]at*)
 all_goals first|exact bj|omega|((with_reducible show(_&&_)=true);kernel_rfl)|(with_reducible show FN _;first|exact FB.fn (gj.fb h Y)|exact FB.fn (Kp.f h (DQ.kp f.1)))|(with_reducible show FI _;first|exact FB.i1 (gj.fb h Y)|exact FB.n1 (gj.fb h Y)|exact FB.b1 (gj.fb h Y)|exact FB.b1 (Kp.f h (DQ.kp f.1)))|((with_reducible show Sm _);first|exact(FI.sd (FB.i1 (gj.fb h Y))).1|exact(FI.sd (FB.i1 (Kp.f h (DQ.kp f.1)))).1)|((with_reducible show b5 _);first|exact iS1 h Y Y|exact iQ1 h f.1 Y)|(with_reducible show(Int.toNat _)<l.length;first|exact Rj Y|exact Dr (DJ.lt a.1)|exact Dr (DQ.lt f.1))|(with_reducible show((_:Int))+1<=9223372036854775807;first|exact ub h Y|exact Eh h (DJ.lt a.1)|exact Eh h (DQ.lt f.1))|(with_reducible show l.length-(_+1)<l.length-_;first|exact Rk Y|exact Rm a.1 k)|((with_reducible show _+1<=l.length);first|exact DJ.lt a.1)|(with_reducible show(_+List.length _)*zS.dF<=140737488355328;first|exact(nL (bJ h) _).1|exact(nL (Cu h f.1) _).1|exact(nL (bI h) _).1)|(with_reducible show _+List.length _<=140737488355328;first|exact(nL (bJ h) _).2|exact(nL (Cu h f.1) _).2|exact(nL (bI h) _).2)| (with_reducible first|exact Nn l 1|exact i.1.2|exact No j.1 Y|exact Nl a.1 Y|exact Nr f.1 Y|exact xy a.1 Y|exact PC f.1 Y|exact CO _ _ _|exact CR _ _|exact Nk i.1.2 Y)|((with_reducible show DN l _ (_+1));first|exact aJi j.1 Y Y|exact aJj j.1 ‹(bm _==0)=true› Y)|(with_reducible show DQ l _ _ 0 _;first|exact vQ1 j.1 Y Y Y ‹(bm _==0)=false› Y)|exact Dp (CO _ _ _)|exact Dp (CR _ _)|exact PD i.1.2 Y i.1.1|exact sN1 Y Y|exact sA1 Y Y|(refine Q5 ?_;first|exact CV a.1 Y Y Y Y ‹decide (0<bm _)=true› Y ‹decide (bm _<0)=true› Y (qC1 a.1 Y Y Y Y Y)|exact CV a.1 Y Y Y Y ‹decide (0<bm _)=true› Y ‹decide (bm _<0)=true› Y (qA1 a.1 Y Y)|exact CV a.1 Y Y Y Y ‹decide (0<bm _)=true› Y ‹decide (bm _<0)=true› Y (qB1 Y Y Y)|exact ZC f.1 Y Y Y Y Y Y|exact ZB f.1 Y Y Y Y Y Y|exact ZP Y ‹(bm _==0)=true› Y)|(refine Q7 ?_;first|exact ZN a.1 ‹decide (bm _<0)=false› Y|exact ZM a.1 ‹decide (0<bm _)=false› Y Y|exact xy a.1 Y|exact CQ (Dx Y)|exact ZO ‹(bm _==0)=false› Y)|(first|exact ZN a.1 ‹decide (bm _<0)=false› Y|exact ZM a.1 ‹decide (0<bm _)=false› Y Y|exact xy a.1 Y|exact CQ (Dx Y)|exact ZO ‹(bm _==0)=false› Y|exact CV a.1 Y Y Y Y ‹decide (0<bm _)=true› Y ‹decide (bm _<0)=true› Y (qC1 a.1 Y Y Y Y Y)|exact CV a.1 Y Y Y Y ‹decide (0<bm _)=true› Y ‹decide (bm _<0)=true› Y (qA1 a.1 Y Y)|exact CV a.1 Y Y Y Y ‹decide (0<bm _)=true› Y ‹decide (bm _<0)=true› Y (qB1 Y Y Y)|exact ZC f.1 Y Y Y Y Y Y|exact ZB f.1 Y Y Y Y Y Y|exact ZP Y ‹(bm _==0)=true› Y)
def auH{r:aR}(h:(r.aJ !=0)=false)(a:(bm r.f.a2==0)=false):iC 2 r=true:=by show(decide (r.aJ=0)&&decide (bm r.f.a2≠0))=true;simp at h a;simp[h,a]
def auF{r:aR}(h:(r.aJ !=0)=true):iC 2 r=false:=by show(decide (r.aJ=0)&&decide (bm r.f.a2≠0))=false;simp at h;simp[h]
def auG{r:aR}(a:(bm r.f.a2==0)=true):iC 2 r=false:=by show(decide (r.aJ=0)&&decide (bm r.f.a2≠0))=false;simp at a;simp[a]
section
variable {l:List aR}{x y:Nat}{r t:aR}
def sN2{i:Nat}{a b:aR}(h:l[(i:Int).toNat]?=some a)(d:l[(i:Int).toNat]?=some b):a.f.a2.neg=b.f.a2.neg:=by rw[sR h d]
def sA2{i:Nat}{a b:aR}(h:l[(i:Int).toNat]?=some a)(d:l[(i:Int).toNat]?=some b):a.f.a2.aC=b.f.a2.aC:=by rw[sR h d]
def iS2(h:gj l k){i:Nat}{a:aR}(f:d∈a.f.a2.aC)(j:l[(i:Int).toNat]?=some a):b5 d:=(FI.sd (FB.i2 (gj.fb h j))).2 _ f
def iQ2(h:gj l k)(a:DQ l 2 x y r)(f:d∈r.f.a2.aC):b5 d:=(FI.sd (FB.i2 (Kp.f h (DQ.kp a)))).2 _ f
def ZE(h:DQ l 2 x y r){a b c d:aR}(f:l[(y:Int).toNat]?=some a)(i:l[(y:Int).toNat]?=some b)(j:l[(y:Int).toNat]?=some c)(k:l[(x:Int).toNat]?=some d)(m:((y:Int)==(x:Int))=false)(I:decide (0<bm r.f.a2)=true):dE l 2 x y++[⟨a.aJ,.fC (iD ((iV r.f.a2).natAbs:Int)) b.f (iD (-iV c.f.a2)) d.f⟩]=dE l 2 x (y+1):=by have n:=sR f i;have o:=sR f j;have q:=kN (sD h).1 k;subst n o q;rw[<-CP h f (by simp at m;omega)];show _=_++[aR.mk a.aJ (.fC (iD ((iV r.f.a2).natAbs:Int)) a.f (qc r.f.a2 a.f.a2) r.f)];rw[PH I]
def ZD(h:DQ l 2 x y r){a b c d:aR}(f:l[(y:Int).toNat]?=some a)(i:l[(y:Int).toNat]?=some b)(j:l[(y:Int).toNat]?=some c)(k:l[(x:Int).toNat]?=some d)(m:((y:Int)==(x:Int))=false)(I:decide (0<bm r.f.a2)=false):dE l 2 x y++[⟨a.aJ,.fC (iD ((iV r.f.a2).natAbs:Int)) b.f c.f.a2 d.f⟩]=dE l 2 x (y+1):=by have n:=sR f i;have o:=sR f j;have q:=kN (sD h).1 k;subst n o q;rw[<-CP h f (by simp at m;omega)];show _=_++[aR.mk a.aJ (.fC (iD ((iV r.f.a2).natAbs:Int)) a.f (qc r.f.a2 a.f.a2) r.f)];rw[<-PI I]
def ZT(d:l[(x:Int).toNat]?=some r)(I:(bm t.f.a2==0)=true)(a:l[(x:Int).toNat]?=some t):dI l 2 x++[r]=dJ l 2 x 0:=by have f:=sR d a;subst f;exact PG d I
def ZS(I:(bm r.f.a2==0)=false)(a:l[(x:Int).toNat]?=some r):dI l 2 x=dJ l 2 x 0:=PF a I
def ZQ(h:DJ l 2 x y r)(I:decide (0<bm t.f.a2)=false)(d:l[(x:Int).toNat]?=some t)(a:decide ((y:Int)<l.length)=true):dJ l 2 x y=dJ l 2 x (y+1):=by
 have e:=kN (lA h).1 d;subst e;have a:=dO a;have f:l[(y:Int).toNat]?=some (l[y]' O):=by rw[bt];exact cN O
 exact CY h f λi=>(cQ I) i.1
def ZR(h:DJ l 2 x y r)(I:decide (bm t.f.a2<0)=false)(a:l[(y:Int).toNat]?=some t):dJ l 2 x y=dJ l 2 x (y+1):=CY h a λd=>(cQ I) d.2
section
variable {b c e g u v p s:aR}
def CW(h:DJ l 2 x y r)(a:l[(y:Int).toNat]?=some b)(d:l[(x:Int).toNat]?=some c)(f:l[(x:Int).toNat]?=some e)(i:l[(y:Int).toNat]?=some g)(j:decide (0<bm u.f.a2)=true)(m:l[(x:Int).toNat]?=some u)(n:decide (bm v.f.a2<0)=true)(o:l[(y:Int).toNat]?=some v)(w:(if r.aJ=1\/b.aJ=1 then 1 else 2)=k):dJ l 2 x y++[⟨k,.fC (iD (-iV b.f.a2)) c.f e.f.a2 g.f⟩]=dJ l 2 x (y+1):=by have z:=kN (lA h).1 d;have A:=kN (lA h).1 f;have B:=kN (lA h).1 m;have C:=sR a i;have D:=sR a o;subst z A B C D;exact PE h a (dO j) (dO n) w
end
def qA2(h:DJ l 2 x y r){b p:aR}(a:l[(x:Int).toNat]?=some p)(d:(p.aJ==1)=true):(if r.aJ=1\/b.aJ=1 then(1:Int)else 2)=1:=by have f:=kN (lA h).1 a;subst f;exact Oz (Cy d)
def qB2{b p:aR}(a:l[(y:Int).toNat]?=some b)(d:l[(y:Int).toNat]?=some p)(f:(p.aJ==1)=true):(if r.aJ=1\/b.aJ=1 then(1:Int)else 2)=1:=by have h:=sR a d;subst h;exact OB (Cy f)
def qC2(h:DJ l 2 x y r){b p s:aR}(a:l[(y:Int).toNat]?=some b)(d:l[(x:Int).toNat]?=some p)(f:(p.aJ==1)=false)(i:l[(y:Int).toNat]?=some s)(I:(s.aJ==1)=false):(if r.aJ=1\/b.aJ=1 then(1:Int)else 2)=2:=by have j:=kN (lA h).1 d;have k:=sR a i;subst j k;exact OC (Cx f) (Cx I)
def aJk(h:DN l 2 x)(d:l[(x:Int).toNat]?=some r)(a:(r.aJ !=0)=true):DN l 2 (x+1):=BO h d (auF a)
def aJl(h:DN l 2 x)(a:(bm r.f.a2==0)=true)(d:l[(x:Int).toNat]?=some r):DN l 2 (x+1):=BO h d (auG a)
def vQ2(h:DN l 2 x){a b c:aR}(d:l[(x:Int).toNat]?=some c)(f:l[(x:Int).toNat]?=some a)(i:(a.aJ !=0)=false)(j:(bm b.f.a2==0)=false)(k:l[(x:Int).toNat]?=some b):DQ l 2 x 0 c:=by have m:=sR d f;have n:=sR d k;subst m n;exact Np h d (auH i j)
end
attribute [local irreducible] ki iC Sm bm iV iD in
def atq(l:List aR)(h:gj l 2):bh 92 [wL .row l,iE 2] (lT .row (ki 2 l)):=by
 refine vF func92 rfl [vC,F0,Pk,Pp] [(2,⟨Nat,λx=>⟨[(0,lT .row l),(1,iT 2),(16,iT l.length),(17,iT x)],[],0⟩,λx=>DN l 2 x/\True,λx=>l.length-x⟩),(1000008,⟨Nat×Nat×aR,λy=>⟨[(0,lT .row l),(1,iT 2),(5,iT y.1),(6,br 0),(7,.e (.c (.aX 1 W.row (dE l 2 y.1 y.2.1).length))),(39,iT l.length),(40,iT y.2.1)],[(0,.cells ((eF .cM y.2.2.f.a2).map .d)),(1,.aW (U:=Un) W.row (dE l 2 y.1 y.2.1))],2⟩,λy=>DQ l 2 y.1 y.2.1 y.2.2/\True,λy=>l.length-y.2.1⟩),(20,⟨Nat,λx=>⟨[(0,lT .row l),(1,iT 2),(10,.e (.c (.aX 0 W.row (dI l 2 x).length))),(85,iT l.length),(86,iT x)],[(0,.aW (U:=Un) W.row (dI l 2 x))],1⟩,λx=>(x<=l.length/\l.findIdx? (iC 2)=none)/\True,λx=>l.length-x⟩),(1000025,⟨Nat×Nat×aR,λy=>⟨[(0,lT .row l),(1,iT 2),(10,.e (.c (.aX 0 W.row (dJ l 2 y.1 y.2.1).length))),(11,iT y.1),(85,iT l.length),(86,iT y.1),(106,iT l.length),(107,iT y.2.1)],[(0,.aW (U:=Un) W.row (dJ l 2 y.1 y.2.1))],1⟩,λy=>DJ l 2 y.1 y.2.1 y.2.2/\True,λy=>l.length-y.2.1⟩)] ?_;repeat' (first
  |((with_reducible show mt _ _ _ _ _);(conv=>whnf);(fail_if_success with_reducible show mt _ _ _ _ _))
  |exact lit ae
  |intro _|apply aQ
  |refine @aS (Nat×Nat×aR) _ (w.1,w.2.1+1,w.2.2) ?_
  |refine @aS Nat _ (w.1+1) ?_
  |refine @aS (Nat×Nat×aR->Prop) _ (λv=>v.1=z) (@aS (Nat×Nat×aR) _ (z,0,?_) (aQ ?_ λ(w:Nat×Nat×aR)(a:DJ l 2 w.1 w.2.1 w.2.2/\True)(k:w.1=z)=>?_))
  |refine @aS (Nat×Nat×aR) _ (y.1,y.2.1+1,y.2.2) ?_
  |refine @aS Nat _ 0 (aQ ?_ λ(z:Nat) (i:(z<=l.length/\l.findIdx? (iC 2)=none)/\True)=>?_)
  |refine @aS (Nat×Nat×aR->Prop) _ (λv=>v.1=x) (@aS (Nat×Nat×aR) _ (x,0,?_) (aQ ?_ λ(y:Nat×Nat×aR)(f:DQ l 2 y.1 y.2.1 y.2.2/\True)(m:y.1=x)=>?_))
  |refine @aS Nat _ 0 (aQ ?_ λ(x:Nat)(j:DN l 2 x/\True)=>?_)
  |refine @aS Nat _ (x+1) ?_
  |fail)
 all_goals(try simp only[uv,AD,AF,C5]at*)
 all_goals first|exact bj|omega|((with_reducible show(_&&_)=true);kernel_rfl)|(with_reducible show FN _;first|exact FB.fn (gj.fb h Y)|exact FB.fn (Kp.f h (DQ.kp f.1)))|(with_reducible show FI _;first|exact FB.i2 (gj.fb h Y)|exact FB.n2 (gj.fb h Y)|exact FB.b2 (gj.fb h Y)|exact FB.b2 (Kp.f h (DQ.kp f.1)))|((with_reducible show Sm _);first|exact(FI.sd (FB.i2 (gj.fb h Y))).1|exact(FI.sd (FB.i2 (Kp.f h (DQ.kp f.1)))).1)|((with_reducible show b5 _);first|exact iS2 h Y Y|exact iQ2 h f.1 Y)|(with_reducible show(Int.toNat _)<l.length;first|exact Rj Y|exact Dr (DJ.lt a.1)|exact Dr (DQ.lt f.1))|(with_reducible show((_:Int))+1<=9223372036854775807;first|exact ub h Y|exact Eh h (DJ.lt a.1)|exact Eh h (DQ.lt f.1))|(with_reducible show l.length-(_+1)<l.length-_;first|exact Rk Y|exact Rm a.1 k)|((with_reducible show _+1<=l.length);first|exact DJ.lt a.1)|(with_reducible show(_+List.length _)*zS.dF<=140737488355328;first|exact(nL (bJ h) _).1|exact(nL (Cu h f.1) _).1|exact(nL (bI h) _).1)|(with_reducible show _+List.length _<=140737488355328;first|exact(nL (bJ h) _).2|exact(nL (Cu h f.1) _).2|exact(nL (bI h) _).2)| (with_reducible first|exact Nn l 2|exact i.1.2|exact No j.1 Y|exact Nl a.1 Y|exact Nr f.1 Y|exact xy a.1 Y|exact PC f.1 Y|exact CO _ _ _|exact CR _ _|exact Nk i.1.2 Y)|((with_reducible show DN l _ (_+1));first|exact aJk j.1 Y Y|exact aJl j.1 ‹(bm _==0)=true› Y)|(with_reducible show DQ l _ _ 0 _;first|exact vQ2 j.1 Y Y Y ‹(bm _==0)=false› Y)|exact Dp (CO _ _ _)|exact Dp (CR _ _)|exact PD i.1.2 Y i.1.1|exact sN2 Y Y|exact sA2 Y Y|(refine Q5 ?_;first|exact CW a.1 Y Y Y Y ‹decide (0<bm _)=true› Y ‹decide (bm _<0)=true› Y (qC2 a.1 Y Y Y Y Y)|exact CW a.1 Y Y Y Y ‹decide (0<bm _)=true› Y ‹decide (bm _<0)=true› Y (qA2 a.1 Y Y)|exact CW a.1 Y Y Y Y ‹decide (0<bm _)=true› Y ‹decide (bm _<0)=true› Y (qB2 Y Y Y)|exact ZE f.1 Y Y Y Y Y Y|exact ZD f.1 Y Y Y Y Y Y|exact ZT Y ‹(bm _==0)=true› Y)|(refine Q7 ?_;first|exact ZR a.1 ‹decide (bm _<0)=false› Y|exact ZQ a.1 ‹decide (0<bm _)=false› Y Y|exact xy a.1 Y|exact CQ (Dx Y)|exact ZS ‹(bm _==0)=false› Y)|(first|exact ZR a.1 ‹decide (bm _<0)=false› Y|exact ZQ a.1 ‹decide (0<bm _)=false› Y Y|exact xy a.1 Y|exact CQ (Dx Y)|exact ZS ‹(bm _==0)=false› Y|exact CW a.1 Y Y Y Y ‹decide (0<bm _)=true› Y ‹decide (bm _<0)=true› Y (qC2 a.1 Y Y Y Y Y)|exact CW a.1 Y Y Y Y ‹decide (0<bm _)=true› Y ‹decide (bm _<0)=true› Y (qA2 a.1 Y Y)|exact CW a.1 Y Y Y Y ‹decide (0<bm _)=true› Y ‹decide (bm _<0)=true› Y (qB2 Y Y Y)|exact ZE f.1 Y Y Y Y Y Y|exact ZD f.1 Y Y Y Y Y Y|exact ZT Y ‹(bm _==0)=true› Y)
end Go.Proofs.YtfbmhjooliccnaaGreatDoor
