/- Part of VirtualWitness. No condition. -/
import Derived.Test.YtfbmhjooliccnaaGreatDoorYo
import Derived.OpenShut
import Derived.JoinedOf
import Derived.ProofKit
import Derived.LaidMore
import Derived.Stop.Joined
set_option linter.all false
set_option maxRecDepth 100000
set_option maxHeartbeats 60000000
noncomputable section
namespace Go.Proofs.YtfbmhjooliccnaaGreatDoor
open Go Go.Ab Go.Proofs.Tryz
variable {i x:Nat}{m c:F}{r:Int}{Z:Bool}{s:PS}{t:bi}{q Q:Rat}{l:zF0}{X:List cd}{a:cd}{U:List ByteArray}{k:aA}{p:J}{R:List bi}
def AE(t:bi):bi.mk t.aM t.a t.b t.c t.d t.g=t:=rfl
def lm(a:List ByteArray):List (Value×Value):=a.map λk=>(.string k,.bool true)
def awB(a:List ByteArray):pd QV.kf (lm a)=true:=by unfold pd lm;rw[eM];intro p b;obtain⟨k,_,rfl⟩:=cj.1 b;rfl
def awz(a:List ByteArray):((lm a).all λp=>Od p.2)=true:=by unfold lm;rw[eM];intro p b;obtain⟨k,_,rfl⟩:=cj.1 b;rfl
def aD1(a b:aA):nE (.string a) (.string b)=(b.toList==a.toList):=by show(a.data.toList==b.data.toList)=_;rw[ByteArray.toList_eq,ByteArray.toList_eq];exact sO.2 ⟨λh=>by simpa using(by simpa using h:a.data.toList=b.data.toList).symm,λh=>by simpa using(by simpa using h:b.data.toList=a.data.toList).symm⟩
theorem J4(k:aA):∀(c:List ByteArray)(i:Nat),(kh k c=true->∃j,gX (.string k) (lm c) i=some (j,.bool true))/\(kh k c=false->gX (.string k) (lm c) i=none)
 |[],i=>⟨λh=>(by cases h),λ_=>rfl⟩
 |a::r,i=>by
  have d:=J4 k r (i+1);have e:kh k (a::r)=(nE (.string k) (.string a)||kh k r):=by rw[aD1];rfl
  have f:gX (.string k) (lm (a::r)) i=(match nE (.string k) (.string a)with|true=>some (i,.bool true)|false=>gX (.string k) (lm r) (i+1)):=rfl;rw[e,f];generalize nE (.string k) (.string a)=b;cases b with
  |true=>exact⟨λ_=>⟨i,rfl⟩,λh=>(by cases h)⟩
  |false=>exact⟨λh=>d.1 h,λh=>d.2 h⟩
def Qo{b:Bool}(h:(jB (.bool false) (.string k) (lm U)).1=.bool b):kh k U=b:=by
 unfold jB at h;cases e:kh k U with
 |true=>obtain⟨j,a⟩:=(J4 k U 0).1 e;rw[a]at h;injection h
 |false=>rw[(J4 k U 0).2 e]at h;injection h
def awA(h:kh k U=false):tG (.string k) (.bool true) (lm U)=lm (U++[k]):=by unfold tG;rw[(J4 k U 0).2 h];unfold lm;rw[gB];rfl
@[irreducible] def mr(r:Int)(l:List bi)(s:PS)(x:Nat):PS:=nG c9 r (l.take x) s
theorem W8(b:bi->ByteArray)(r:Int)(t:bi):∀(l:List bi)(s:PS),nG b r (l++[t]) s=pX b (ki r t) (nG b r l s)
 |[],s=>rfl
 |a::l,s=>by rw[ei,nG,nG,W8 b r t l]
def SC(r:Int)(l:List bi)(s:PS):mr r l s 0=s:=by unfold mr;rfl
def afU{s:PS}(h:R[(x:Int).toNat]?=some t):mr r R s (x+1)=pX c9 (ki r t) (mr r R s x):=by rw[bI]at h;unfold mr;rw[h_,h];exact W8 _ _ _ _ _
def aCD{s:PS}(h:decide ((x:Int)<R.length)=false):mr r R s x=nG c9 r R s:=by have h:=fg h;unfold mr;rw[eQ O]
def anC(a:bi->ByteArray)(t:bi)(s:PS):(pX a t s).eG.length<=s.eG.length+1:=by
 unfold pX;split
 ·omega
 ·simp
theorem NT(a:bi->ByteArray)(r:Int):∀(l:List bi)(s:PS),(nG a r l s).eG.length<=s.eG.length+l.length
 |[],s=>by rw[nG];simp
 |t::l,s=>by have:=NT a r l (pX a (ki r t) s);have:=anC a (ki r t) s;rw[nG,fD];omega
def aCE(r:Int)(l:List bi)(s:PS)(x:Nat):(mr r l s x).eG.length<=s.eG.length+l.length:=by unfold mr;have:=NT c9 r (l.take x) s;rw[ez]at this;omega
@[irreducible] def u_(lv:Int)(a:zF0)(s:PS)(x:Nat):PS:=oe c9 lv (a.take x) s
theorem ajl(b:bi->ByteArray)(lv:Int)(c:F):∀(l:zF0)(s:PS),oe b lv (l++[c]) s=oR b lv c (oe b lv l s)
 |[],s=>by rw[gi,oe,oe,oe]
 |a::l,s=>by rw[ei,oe,oe,ajl b lv c l]
def Ur(lv:Int)(a:zF0)(s:PS):u_ lv a s 0=s:=by unfold u_;rw[iC,oe]
def Us{lv:Int}{s:PS}(h:l[(x:Int).toNat]?=some c):u_ lv l s (x+1)=oR c9 lv c (u_ lv l s x):=by rw[bI]at h;unfold u_;rw[h_,h];exact ajl _ _ _ _ _
def Uv(a:bi->ByteArray)(lv:Int)(m:F)(s:PS):oR a lv m s=if m.aM=3\/m.aM=4 then oe a lv m.aO s else if m.aM=2 then nG a m.bW (fq m.aH lv) s else s:=by cases m;rw[oR];rfl
inductive w_(lv:Int):F->Prop where
 |mk (k r:Int) (p:J) (ks:zF0) (hp:k=2->PJ p lv) (hk:k=3\/k=4->∀c∈ks,w_ lv c):w_ lv (.mk k r p ks)
def LK{lv:Int}(h:PJ p lv):(fq p lv).length<=3/\∀t∈fq p lv,∀r,yk (ki r t):=by obtain⟨v,rfl,b,c⟩:=yy h;have a:=SO (k:=140) b c (yx h).1 O;refine⟨a.2.1,λt d r=>?_⟩;unfold yk;exact⟨v,(a.1 t d).pg r⟩
mutual
theorem aGW {lv:Int}:∀{m:F},w_ lv m->∀s:PS,(oR c9 lv m s).eG.length<=s.eG.length+3*bc m
 |.mk k r p i,h,s=>by
  rw[oR,bc]
  cases h with
  |mk _ _ _ _ a b=>
   split
   ·rename_i e
    have:=Uw (b e) s
    omega
   ·split
    ·rename_i e
     have:=NT c9 r (fq p lv) s
     have:=(LK (a e)).1
     omega
    ·omega
theorem Uw {lv:Int}:∀{l:zF0},(∀c∈l,w_ lv c)->∀s:PS,(oe c9 lv l s).eG.length<=s.eG.length+3*cy l
 |[],_,s=>by rw[oe];omega
 |c::l,h,s=>by
  have n:=aGW (h c (bZ ..)) s
  have j:=Uw (λd f=>h d (cE _ f)) (oR c9 lv c s)
  rw[oe,eE];omega
end
@[irreducible] def ni(m:F)(lv:Int)(s:PS):=w_ lv m/\s.eG.length+3*bc m<=1000000
def EL{m:F}{lv:Int}{s:PS}(h:ni m lv s):=(ni.eq_1 ..).to_iff.1 h
def aFN(l:zF0)(x:Nat):cy (l.take x)+cy (l.drop x)=cy l:=by rw[<-zG,om]
section
variable {m:F}{lv:Int}{s:PS}(h:ni m lv s)
include h
def ni.kd(b:KG m):∀c∈m.aO,w_ lv c:=by
 unfold KG at b;cases(EL h).1 with
 |mk k r p d e a=>exact a b
def ni.pj(a:(m.aM==2)=true):PJ m.aH lv:=by
 have a:m.aM=2:=an a;cases(EL h).1 with
 |mk k r p d b c=>exact b a
def ni.bz(j:KG m)(a:m.aO[(x:Int).toNat]?=some c):ni c lv (u_ lv m.aO s x):=by
 rw[bI]at a;have f:=h.kd j;have b:=lp a;have l:=Uw (λd e=>f d (oi e):∀d∈m.aO.take x,w_ lv d) s;have i:=aFN m.aO x;rw[mZ b,eE]at i;rw[ca b]at a;injection a with a
 rw[a]at i;have k:=(EL h).2;rw[kM]at k;unfold ni u_;exact⟨f c (a▸rO b),O⟩
def ni.len:m.aO.length<=1000000:=by have:=(EL h).2;have a:=rr m.aO;rw[kM]at this;omega
def ni.rb(a:(m.aM==2)=true)(x:Nat)(t:bi):((mr m.bW (fq m.aH lv) s x).eG.length+[t].length)*BA.dT<=140737488355328/\(mr m.bW (fq m.aH lv) s x).eG.length+[t].length<=140737488355328:=by have f:=aCE m.bW (fq m.aH lv) s x;have d:=(LK (h.pj a)).1;have c:=(EL h).2;have e:BA.dT=368:=rfl;have b:[t].length=1:=rfl;rw[e,b];omega
def ni.ky(a:(m.aM==2)=true)(b:(fq m.aH lv)[x]?=some t)(r:Int):yk (ki r t):=(LK (h.pj a)).2 t (bF b) r
end
def UB{lv:Int}{m:F}{s:PS}(a:KG m)(h:decide ((x:Int)<m.aO.length)=false):u_ lv m.aO s x=oR c9 lv m s:=by have h:=fg h;unfold KG at a;rw[Uv,aK a];unfold u_;rw[eQ O]
def UD{lv:Int}{m:F}{s:PS}(a:(m.aM==2)=true)(h:decide ((x:Int)<((fq m.aH lv).length:Int))=false):mr m.bW (fq m.aH lv) s x=oR c9 lv m s:=by have a:m.aM=2:=an a;rw[Uv,g O,aK a,aCD h]
def aHc{lv:Int}{m:F}{s:PS}(a:(m.aM==3)=false)(b:(m.aM==4)=false)(c:(m.aM==2)=false):oR c9 lv m s=s:=by have d:¬m.aM=2:=an c;have e:¬m.aM=3:=an a;have f:¬m.aM=4:=an b;rw[Uv,g O,g d]
def mj(h:(r==1)=true\/(r==4)=true\/(r==6)=true):(⟨3,t.a,t.b,t.c,t.d,t.g⟩:bi)=ki r t:=by have h:r=1\/r=4\/r=6:=an h;unfold ki;rw[aK h]
def A0(a:(r==1)=false)(b:(r==4)=false)(c:(r==6)=false):t=ki r t:=by have d:¬r=1:=an a;have e:¬r=4:=an b;have f:¬r=6:=an c;unfold ki;rw[g O]
def ane{s:PS}(h:kh (c9 t) s.nT=false):pX c9 t s=⟨s.eG++[t],s.nT++[c9 t]⟩:=by unfold pX;rw[g (by rw[h];decide)]
def anc{s:PS}(h:kh (c9 t) s.nT=true):pX c9 t s=s:=by unfold pX;rw[aK h]
def atQ:fh prog 159:=fH func159 af rfl
def vH(lv:Int)(s:PS)(b:Nat):List (Nat×aV S):=[(0,.cells [.cr 159 [(0,0),(1,0),(2,0),(4,0)]]),(1,.cells [.d (.sc (.int .i64 lv))]),(2,.cells [.mp 3]),(3,.lr (lm s.nT)),(4,.cells [.aW b W.ee s.eG.length]),(b,.aU (U:=S) W.ee s.eG)]
def vA(m:F):List (SE S):=[wE .aQ m,.c (.ptr 0 0),.c (.ptr 1 0),.c (.ptr 2 0),.c (.ptr 4 0)]
def Ip(m:F)(lv:Int)(s:PS):Prop:=cN prog 159 (bJ (bP (vH lv s 5))) ((vA m).map SE.den) (bJ (bP (vH lv (oR c9 lv m s) 6))) (·∈[0,1,2,3,4]) (ST.cn (U:=S) []).den
def ahc(G:F->Int->PS->Prop)(H:List (Nat×aV S))(args:zS0)(K:f_ S->Prop):Prop:=
 match H,args with
 |[(0,.cells [.cr 159 [(0,0),(1,0),(2,0),(4,0)]]),(1,.cells [.d (.sc (.int .i64 lv))]),(2,.cells [.mp 3]),(3,.lr l),(4,.cells [.aW 5 W.ee n]),(5,.aU W.ee eG)],[.agg [.d (.sc (.int .i64 k1)),.d (.sc (.int .i64 e)),.d (.sc (.int .i64 i)),.d (.b8 h),.d (.bf W.u32 k),.d (.bf W.aH j),.d (.bf W.aQ f)],.c (.ptr 0 0),.c (.ptr 1 0),.c (.ptr 2 0),.c (.ptr 4 0)]=>∃a:List ByteArray,(l=lm a/\n=eG.length/\G (.mk k1 e (.mk i h k j) f) lv ⟨eG,a⟩)/\K ⟨.cn [],vH lv (oR c9 lv (.mk k1 e (.mk i h k j) f) ⟨eG,a⟩) 6,[5],[0,1,2,3,4,5]⟩
 |_,_=>False
def aew(G:F->Int->PS->Prop)(d:∀m lv s,G m lv s->Ip m lv s):fk prog S where
 f:=159
 fX:=atQ
 run:=ahc G
 ok H args K h:=by
  unfold ahc at h;split at h
  ·rename_i lv n v eG k1 k p o y w l;obtain⟨q,⟨rfl,rfl,j⟩,i⟩:=h;refine⟨_,?_,λu a c=>?_,i⟩
   ·exact cN.fK (d _ _ _ j) λu a=>by have r:u<6:=a.1;have e:=a.2;simp at e⊢;omega
   ·have:u<6:=a;simp at c;omega
  ·cases h
section
variable {m:F}{lv:Int}{s:PS}{x:Nat}{t t':bi}(ht:(fq m.aH lv)[((x:Nat):Int).toNat]?=some t)(ek:t'=ki m.bW t){b:Bool}(hg:(jB (.bool false) (.string (c9 t')) (lm (mr m.bW (fq m.aH lv) s x).nT)).1=.bool b)
include ht ek hg
def UE(a:(!b)=true):(⟨(mr m.bW (fq m.aH lv) s x).eG++[t'],(mr m.bW (fq m.aH lv) s x).nT++[c9 t']⟩:PS)=mr m.bW (fq m.aH lv) s (x+1):=by have Z:=Qo hg;rw[afU ht,<-ek,ane (by rw[Z];simpa using a)]
def aHe(a:(!b)=true):tG (.string (c9 t')) (.bool true) (lm (mr m.bW (fq m.aH lv) s x).nT)=lm (mr m.bW (fq m.aH lv) s (x+1)).nT:=by have Z:=Qo hg;rw[awA (by rw[Z];simpa using a),<-UE ht ek hg a]
def UC(a:(!b)=false):mr m.bW (fq m.aH lv) s x=mr m.bW (fq m.aH lv) s (x+1):=by have Z:=Qo hg;rw[afU ht,<-ek,anc (by rw[Z];simpa using a)]
end
def ni.kyt{m:F}{lv:Int}{s:PS}(h:ni m lv s)(a:(m.aM==2)=true){x:Nat}{t t':bi}(ht:(fq m.aH lv)[x]?=some t)(ek:t'=ki m.bW t):yk t':=ek▸h.ky a ht m.bW
def Xr{m:F}(h:(m.aM==3)=true\/(m.aM==4)=true):KG m:=by unfold KG;simpa using h
theorem aGX(lv:Int)(m:F)(s:PS):ni m lv s->Ip m lv s:=by
 generalize i:SizeOf.sizeOf m=D
 induction D using Nat.strongRecOn generalizing m s
 rename_i D d;subst i;intro h;have e:∀(c:F)(l:Int)(s':PS),(c∈m.aO/\ni c lv s'/\l=lv)->Ip c l s':=λc l s' f=>by obtain⟨k,j,rfl⟩:=f;exact d _ (F.lt k) c s' rfl j
 clear d
 rename _=>d
 unfold Ip;refine vO func159 rfl ⟨[asE,asi],[aew (λc l s'=>c∈m.aO/\ni c lv s'/\l=lv) d]⟩ [(5,⟨Nat,λx=>⟨[(1,bQ 0),(19,lT .aQ m.aO),(20,iT m.aO.length),(21,iT x)],vH lv (u_ lv m.aO s x) 7,8⟩,λx=>(x<=m.aO.length/\KG m)/\True,λx=>m.aO.length-x⟩),(12,⟨Nat,λx=>⟨[(3,bQ 2),(4,bQ 4),(5,bQ 6),(38,lT .ee (fq m.aH lv)),(39,iT (fq m.aH lv).length),(40,iT x)],(6,dh .aQ m)::vH lv (mr m.bW (fq m.aH lv) s x) 7,8⟩,λx=>(x<=3/\(m.aM==2)=true)/\True,λx=>(fq m.aH lv).length-x⟩)] [0,1,2,3,4] ⟨[],vH lv (oR c9 lv m s) 6,7⟩ ?_;repeat' (first
  |((with_reducible show mt _ _ _ _ _);(conv=>whnf);(fail_if_success with_reducible show mt _ _ _ _ _))
  |intro _|apply aP
  |refine @aX Nat _ 0 (aP ?_ λ(x:Nat) (a:(x<=m.aO.length/\KG m)/\True)=>?_)
  |refine @aX Nat _ 0 (aP ?_ λ(x:Nat) (a:(x<=3/\(m.aM==2)=true)/\True)=>?_)
  |refine @aX Nat _ (x+1) ?_
  |refine @aX (List ByteArray) _ (u_ lv m.aO s x).nT ?_
  |fail)
 all_goals(try clear d)
 all_goals(try simp only[bm,e_,AE]at*)
 all_goals first|exact aZ|omega|exact Xr (.inl I)|exact Xr (.inr I)|exact h.pj I|exact bF I|exact h.bz a.1.2 I|exact aY PS.eG (Ur _ _ _).symm|exact aY (λs=>lm s.nT) (Ur _ _ _).symm|exact aY (λs=>s.eG.length) (Ur _ _ _).symm|exact aY PS.eG (SC _ _ _).symm|exact aY (λs=>lm s.nT) (SC _ _ _).symm|exact aY (λs=>s.eG.length) (SC _ _ _).symm|exact aY PS.eG (Us I).symm|exact aY (λs=>lm s.nT) (Us I).symm|exact aY (λs=>s.eG.length) (Us I).symm|exact aY PS.eG (UB a.1.2 I)|exact aY (λs=>lm s.nT) (UB a.1.2 I)|exact aY (λs=>s.eG.length) (UB a.1.2 I)|exact aY PS.eG (UD a.1.2 I)|exact aY (λs=>lm s.nT) (UD a.1.2 I)|exact aY (λs=>s.eG.length) (UD a.1.2 I)|rw[aHc I I I];done| (with_reducible first|exact awB _|exact awz _)|exact h.kyt a.1.2 I (by first|exact mj (.inl I)|exact mj (.inr (.inl I))|exact mj (.inr (.inr I))|exact A0 I I I)|exact aY PS.eG (UE ‹(fq _ _)[_]?=_› (by first|exact mj (.inl I)|exact mj (.inr (.inl I))|exact mj (.inr (.inr I))|exact A0 I I I) ‹(jB _ _ _).1=_› I)|rw[<-UE ‹(fq _ _)[_]?=_› (by first|exact mj (.inl I)|exact mj (.inr (.inl I))|exact mj (.inr (.inr I))|exact A0 I I I) ‹(jB _ _ _).1=_› I];simp;done|exact aHe ‹(fq _ _)[_]?=_› (by first|exact mj (.inl I)|exact mj (.inr (.inl I))|exact mj (.inr (.inr I))|exact A0 I I I) ‹(jB _ _ _).1=_› I|exact aY PS.eG (UC ‹(fq _ _)[_]?=_› (by first|exact mj (.inl I)|exact mj (.inr (.inl I))|exact mj (.inr (.inr I))|exact A0 I I I) ‹(jB _ _ _).1=_› I)|exact aY (λs=>s.eG.length) (UC ‹(fq _ _)[_]?=_› (by first|exact mj (.inl I)|exact mj (.inr (.inl I))|exact mj (.inr (.inr I))|exact A0 I I I) ‹(jB _ _ _).1=_› I)|exact aY (λs=>lm s.nT) (UC ‹(fq _ _)[_]?=_› (by first|exact mj (.inl I)|exact mj (.inr (.inl I))|exact mj (.inr (.inr I))|exact A0 I I I) ‹(jB _ _ _).1=_› I)|exact(h.rb a.1.2 _ _).1|exact(h.rb a.1.2 _ _).2|have Z:=h.len;simp only[be]at*;omega|have Z:=(LK (h.pj a.1.2)).1;simp only[be]at*;omega|rfl|exfalso;simp_all;done
@[irreducible] def PX(m:F)(a:Int):=HC m a/\w_ a m/\bc m<=100000
def Cd{lv:Int}(h:PX m lv):HC m lv:=by unfold PX at h;exact h.1
def PXv(h:PX m r):ni m r ⟨[zd],[]⟩:=by unfold PX at h;unfold ni;exact⟨h.2.1,by simp;omega⟩
theorem aBx(m:F)(a:Int)(h:PX m a):bh 109 [wE .aQ m,wI .i64 a] (tT [.c (.d (.bf W.ee (kI c9 m a))),iE 0]):=by
 refine vG func109 rfl ⟨[Fx 31,OV,CC],[aew (λc l s=>ni c l s) (λc l s f=>aGX l c s f)]⟩ [(4,⟨Nat,λx=>⟨[(2,bQ 0),(3,bQ 1),(18,lT .aH (eB m)),(19,iT (eB m).length),(20,iT x)],[(0,dh .aQ m),(1,.cells [cw a])],2⟩,λx=>x<=(eB m).length/\True,λx=>(eB m).length-x⟩)] ?_;repeat' (first
  |((with_reducible show mt _ _ _ _ _);(conv=>whnf);(fail_if_success with_reducible show mt _ _ _ _ _))
  |intro _|apply aP
  |refine @aX Nat _ 0 (aP ?_ λ(x:Nat) (e:x<=(eB m).length/\True)=>?_)
  |refine @aX Nat _ (x+1) ?_
  |refine @aX (List ByteArray) _ [] ?_
  |fail)
 all_goals(try simp only[bm,e_,AE]at*)
 all_goals first|exact aZ|omega|with_reducible exact(BX (vi (Cd h))).1|exact M7 (vi (Cd h)) I|exfalso;exact Vr (Cd h) I I|exfalso;have b:=z6 (vi (Cd h));simp only[be,bj]at*;omega|have b:=z6 (vi (Cd h));have Z:=e.1;simp only[be,bj]at*;omega|exfalso;have b:=z6 (vi (Cd h));simp at*;omega|exact PXv h|rfl
def asu:=eO (.el W.aQ) (.int .i64) aBx
def atG:fh prog 110:=fH func110 af rfl
def pV(p:F)(l:zF0):List F:=if p.aM≠0 then l++[p]else l
def r7(p:F)(b:Bool):Bool:=b||decide (p.aM=1)
@[irreducible] def AL(l:zF0):=l.length<=1000000
def AL.b(h:AL l)(x:F):(l.length+[x].length)*oP.dT<=140737488355328/\l.length+[x].length<=140737488355328:=by unfold AL at h;have e:oP.dT=104:=rfl;have a:[x].length=1:=rfl;rw[e,a];omega
def WX(h:(m.aM !=0)=true):pV m l=l++[m]:=by unfold pV;rw[aK (an h)]
def ad0(h:(m.aM !=0)=false):pV m l=l:=by unfold pV;rw[g (an h)]
def ang(h:Z=true):r7 m Z=true:=by unfold r7;rw[h];rfl
def anf(h:Z=false):r7 m Z=(m.aM==1):=by unfold r7;rw[h];simp[Bool.beq_eq_decide_eq]
theorem anB(p:F)(b:Bool)(l:zF0)(h:AL l):cN prog 110 (bJ (bP [(0,.cells [.d (.b8 b)]),(1,.cells [.d (.sc (.int .i64 4)),.d (.sc (.int .i64 0)),.d (.sc (.int .i64 0)),.d (.sc (.bool false)),.d (.sc (.slice none 0 0)),.d (.sc (.slice none 0 0)),.aW 2 W.aQ (l).length]),(2,.aU (U:=S) W.aQ l)])) ([wE .aQ p,.c (.ptr 0 0),.c (.ptr 1 0)].map SE.den) (bJ (bP [(0,.cells [.d (.b8 (r7 p b))]),(1,.cells [.d (.sc (.int .i64 4)),.d (.sc (.int .i64 0)),.d (.sc (.int .i64 0)),.d (.sc (.bool false)),.d (.sc (.slice none 0 0)),.d (.sc (.slice none 0 0)),.aW 3 W.aQ ((pV p l)).length]),(3,.aU (U:=S) W.aQ (pV p l))])) (·∈[0,1]) (ST.cn (U:=S) []).den:=by
 refine vO func110 rfl ⟨[],[]⟩ [] [0,1] ⟨[],[(0,.cells [.d (.b8 (r7 p b))]),(1,.cells [cw 4,cw 0,cw 0,iG,fv,fv,.aW 3 W.aQ ((pV p l)).length]),(3,.aU (U:=S) W.aQ (pV p l))],4⟩ ?_;repeat' first|intro _|apply aP
 all_goals(try simp only[bm,e_]at*)
 all_goals first|exact aZ|omega|((with_reducible show(_&&_)=true);kernel_rfl)| (with_reducible first|exact(h.b _).1|exact(h.b _).2)|(rw[ad0 I];first|done|rfl)|rw[ang I];done|rw[anf I];done|show(l.length:Int)<((l.length+1:Nat):Int);omega|show(l.length:Int).toNat<(l++_).length;rw[c_];show _<l.length+1;omega|rw[WX I,c_];rfl|rw[WX I,bI,vl _ _ (bu _),rT];rfl
def agB(H:List (Nat×aV S))(args:zS0)(K:f_ S->Prop):Prop:=
 match H,args with
 |[(0,.cells [.d (.b8 b)]),(1,.cells [.d (.sc (.int .i64 4)),.d (.sc (.int .i64 0)),.d (.sc (.int .i64 0)),.d (.sc (.bool false)),.d (.sc (.slice none 0 0)),.d (.sc (.slice none 0 0)),.aW 2 W.aQ n]),(2,.aU W.aQ l)],[.agg [.d (.sc (.int .i64 k1)),.d (.sc (.int .i64 a)),.d (.sc (.int .i64 h)),.d (.b8 f),.d (.bf W.u32 j),.d (.bf W.aH i),.d (.bf W.aQ e)],.c (.ptr 0 0),.c (.ptr 1 0)]=>(n=l.length/\AL l)/\K ⟨.cn [],[(0,.cells [.d (.b8 (r7 (.mk k1 a (.mk h f j i) e) b))]),(1,.cells [.d (.sc (.int .i64 4)),.d (.sc (.int .i64 0)),.d (.sc (.int .i64 0)),.d (.sc (.bool false)),.d (.sc (.slice none 0 0)),.d (.sc (.slice none 0 0)),.aW 3 W.aQ ((pV (.mk k1 a (.mk h f j i) e) l)).length]),(3,.aU (U:=S) W.aQ (pV (.mk k1 a (.mk h f j i) e) l))],[2],[0,1,2]⟩
 |_,_=>False
def aAn:fk prog S where
 f:=110
 fX:=atG
 run:=agB
 ok H args K h:=by
  unfold agB at h;split at h
  ·rename_i b n l k1 c i e q p d;obtain⟨⟨rfl,o⟩,m⟩:=h;refine⟨_,?_,λu a j=>?_,m⟩
   ·exact(anB (.mk k1 c (.mk i e q p) d) b l o).fK λu a=>by have r:u<3:=a.1;have k:=a.2;simp at k⊢;omega
   ·have:u<3:=a;simp at j;omega
  ·cases h
def Hs:J.mk 0 false [] []=zP:=rfl
@[irreducible] def XP(lv:Int)(m:F):=CM (Sz 2 140) m/\bc m<=10/\1<=lv/\lv<=4
def jv{lv:Int}{m:F}(h:XP lv m):=(XP.eq_1 ..).to_iff.1 h
def CM.mok{d k:Nat}(l:d<=12)(e:k<=90000){m:F}(h:CM (Sz d k) m):bc m<=1000000->iF m:=by
 have z:bO zP:=(Sz.zero 2 140).np O O
 induction h with
 |tt=>intro _;exact .mk _ _ _ _ z ai (λc a=>by simp at a)
 |ff=>intro _;exact .mk _ _ _ _ z ai (λc a=>by simp at a)
 |j_ r p n f=>intro _;exact .mk _ _ _ _ (f.np O O) ai (λc a=>by simp at a)
 |node K i o e j=>intro Y;rw[bc]at Y;have:=rr i;exact .mk _ _ _ _ z O λc a=>j c a (by have:=xW a;omega)
def ae7{k:Nat}(e:i<=12)(f:k<=90000){m:F}(h:CM (Sz i k) m):eB m=fY m:=by
 induction h with
 |tt=>rfl
 |ff=>rfl
 |j_ r p q l=>rw[eB,fY,aK rfl,aK rfl,l.cH O O]
 |node K n o f j=>
  rw[eB,fY,g O,aK o,g O];clear f
  induction n with
  |nil=>rfl
  |cons c r a=>rw[mn,jK,j c (bZ ..),a λi e=>j i (cE _ e)]
def aBz{Q:J->Prop}{m:F}(h:CM Q m):∀p∈fY m,Q p:=by
 induction h with
 |tt=>intro p hp;exact absurd hp (by rw[fY,g ae,jK];simp)
 |ff=>intro p hp;exact absurd hp (by rw[fY,g ae,jK];simp)
 |j_ r p l hp=>intro q e;rw[fY,aK rfl]at e;rw[dZ.1 e];exact hp
 |node K i n j f=>
  intro p hp;rw[fY,g O]at hp;clear j
  induction i with
  |nil=>rw[jK]at hp;simp at hp
  |cons c r a=>
   rw[jK]at hp;rcases dd.1 hp with hp|hp
   ·exact f c (bZ ..) p hp
   ·exact a (λd k=>f d (cE _ k)) hp
section
variable {lv:Int}{m:F}(h:XP lv m)
include h
def XPl:lh lv:=by unfold lh;exact(jv h).2.2
def Iq:∃v:Nat,lv=v/\1<=v/\v<=4:=⟨lv.toNat,by have:=(jv h).2.2;omega,by have:=(jv h).2.2;omega,by have:=(jv h).2.2;omega⟩
def WT:∀p∈eB m,Sz 2 140 p:=by rw[ae7 O O (jv h).1];exact aBz (jv h).1
def XP.hp:HP m lv:=by unfold HP nf;refine⟨⟨(jv h).1.mok O O (by have:=(jv h).2.1;omega),by have:=(jv h).2.1;simp;omega⟩,λp a=>(WT h p a).cz O O,XPl h⟩
def XP.hc:HC m lv:=by unfold HC;obtain⟨v,rfl,d,c⟩:=Iq h;exact⟨h.hp,λp a=>(WT h p a).ub v⟩
def XP.px:PX m lv:=by
 have a:∀{n:F},CM (Sz 2 140) n->w_ lv n:=by
  intro n f;have l:=(jv h).2.2
  induction f with
  |tt=>exact .mk _ _ _ _ (λe=>O) (λe=>O)
  |ff=>exact .mk _ _ _ _ (λe=>O) (λe=>O)
  |j_ r p j d=>exact .mk _ _ _ _ (λ_=>by unfold PJ;exact⟨d,l⟩) (λe=>O)
  |node K i o k c=>exact .mk _ _ _ _ (λe=>O) λ_=>c
 unfold PX;exact⟨h.hc,a (jv h).1,by have:=(jv h).2.1;omega⟩
def XP.J2:mg (eB m) lv=gF m lv:=by unfold mg gF;rw[ae7 O O (jv h).1]
theorem XP.bz:∀c∈m.aO,XP lv c:=λc a=>by have u:=jv h;unfold XP;refine⟨u.1.bz c a,?_,u.2.2⟩;have e:=xW a;have d:=kM m;omega
def XP.len:m.aO.length<=10:=by have c:=rr m.aO;have a:=kM m;have:=(jv h).2.1;omega
def XP.eG:∃v:Nat,lv=v/\(∀t∈kI c9 m lv,rV 300 v t)/\(kI c9 m lv).length<=31:=by
 have u:=jv h;obtain⟨v,rfl,d,a⟩:=Iq h;have p:=Ss (k:=140) d a O (Gc a) λx c=>(NZ u.1 x c).2
 exact⟨v,rfl,λt ht=>(p.1 t ht).p.up O,by have:=p.2.2.2;omega⟩
end
def aoh{lv:Nat}(j:1<=lv)(k:lv<=4){t:bi}(ht:rV 300 lv t){m:F}(h:CM (Sz 2 140) m):bc m<=10->tZ lv t m:=by
 induction h with
 |tt=>intro _;exact .mk _ _ _ _ (λe=>O) (λe=>O) (λe=>O)
 |ff=>intro _;exact .mk _ _ _ _ (λe=>O) (λe=>O) (λe=>O)
 |j_ r p l d=>intro _;refine .mk _ _ _ _ (λ_=>?_) (λe=>O) (λe=>O);unfold SB PJ;exact⟨⟨d,O,O⟩,ht.tg,ht.kd⟩
 |node K f n o i=>intro Y;rw[bc]at Y;have:=rr f;exact .mk _ _ _ _ (λe=>O) (λ_ c a=>i c a (by have:=xW a;omega)) (λ_=>O)
@[irreducible] def XQ(lv:Int)(m:F)(acc:zF0)(x:Nat)(b:Bool):Prop:=
  x<=(kI c9 m lv).length/\b=false/\(∀c∈acc,CM (GA lv) c)/\cy acc<=x*700/\jj c9 m lv=s8 m lv ((kI c9 m lv).drop x) acc
def EN{lv:Int}{m:F}{acc:zF0}{x:Nat}{b:Bool}(h:XQ lv m acc x b):=(XQ.eq_1 ..).to_iff.1 h
def amW(lv:Int)(m:F):XQ lv m [] 0 false:=by unfold XQ;exact⟨dD _,rfl,λc a=>by simp at a,by rw[gV];omega,rfl⟩
def wg(lv:Int)(m:F)(t:bi):F:=bS (.mk 3 0 zP [t.g,gO lv t m])
def Xp(m:F)(lv:Int)(t:bi)(l:List bi)(acc:zF0):s8 m lv (t::l) acc=if(wg lv m t).aM=1 then .mk 1 0 zP []else s8 m lv l (pV (wg lv m t) acc):=by rw[s8];unfold pV wg dA;rfl
section
variable {lv:Int}{m:F}(hm:XP lv m){acc:zF0}{x:Nat}{b:Bool}(h:XQ lv m acc x b)
include hm h
def NN:(kI c9 m lv).length<=31/\x<=(kI c9 m lv).length/\acc.length<=30000:=by obtain⟨v,rfl,_,p⟩:=hm.eG;have u:=EN h;have:=rr acc;refine⟨p,u.1,?_⟩;have:x*700<=31*700:=jI _ O;omega
def amX:AL acc:=by unfold AL;have:=NN hm h;omega
def am4:OF (.mk 4 0 zP acc):=by have u:=EN h;have l:=NN hm h;have:x*700<=31*700:=jI _ O;exact OF.q (.node 4 acc (.inr rfl) λc d=>(u.2.2.1 c d).imp λp a=>a.qo) (by rw[bc];omega)
theorem amZ(a:decide ((x:Int)<((kI c9 m lv).length:Int))=false):bS (.mk 4 0 zP acc)=jj c9 m lv:=by have a:=fg a;rw[(EN h).2.2.2.2,pR O,s8];rfl
variable {t:bi}(ht:(kI c9 m lv)[((x:Nat):Int).toNat]?=some t)
include ht
theorem NO:∃v:Nat,lv=v/\rV 300 v t:=by obtain⟨v,e,p,_⟩:=hm.eG;exact⟨v,e,p t (bF ht)⟩
def amY:tZ lv t m:=by obtain⟨v,rfl,p⟩:=NO hm h ht;have u:=jv hm;exact aoh O O p u.1 u.2.1
def am3:OF (.mk 3 0 zP [t.g,gO lv t m]):=by obtain⟨v,rfl,p⟩:=NO hm h ht;have u:=jv hm;have a:=Iz (k:=140) O O O p u.1;refine OF.q (CM.imp (λp c=>c.qo) (CM.qM p.g a.1)) ?_;have:=rv t.g (gO v t m);unfold dA at this;have:=p.sz;have:=a.2;omega
theorem WU:(kI c9 m lv).drop x=t::(kI c9 m lv).drop (x+1):=by rw[bI]at ht;have a:=lp ht;rw[mZ a];rw[ca a]at ht;injection ht with ht;rw[ht]
def am2(f:r7 (wg lv m t) b=false):XQ lv m (pV (wg lv m t) acc) (x+1) (r7 (wg lv m t) b):=by
 have u:=EN h;have d:=WU hm h ht;have j:x<(kI c9 m lv).length:=by rw[bI]at ht;exact lp ht
 unfold r7 at f;rw[u.2.1,Bool.false_or,bj]at f;have c:CM (GA lv) (wg lv m t)/\bc (wg lv m t)<=700:=by obtain⟨v,rfl,p⟩:=NO hm h ht;have w:=jv hm;have a:=Iz (k:=140) O O O p w.1;obtain⟨i,_,l⟩:=sy (GA.GZ (lv:=v) O O) (CM.qM p.g a.1).rm;have:=rv t.g (gO v t m);have:=p.sz;have:=a.2;unfold dA at*;unfold wg;exact⟨i,O⟩
 unfold XQ;refine⟨j,?_,?_,?_,?_⟩
 ·unfold r7;rw[u.2.1,Bool.false_or,bj];exact f
 ·unfold pV;split
  ·intro e he;rcases dd.1 he with he|he
   ·exact u.2.2.1 e he
   ·rw[dZ.1 he];exact c.1
  ·exact u.2.2.1
 ·have:=u.2.2.2.1;unfold pV;split
  ·rw[zG,eE,gV];omega
  ·exact eZ this (jI _ (Nat.le_succ x))
 ·refine Eq.trans u.2.2.2.2 ?_;rw[d,Xp,g f]
def am5(a:r7 (wg lv m t) b=true):jj c9 m lv=.mk 1 0 zP []:=by have u:=EN h;have d:=WU hm h ht;unfold r7 at a;rw[u.2.1,Bool.false_or,be]at a;rw[u.2.2.2.2,d,Xp,aK a]
end
theorem XG(m:F)(a:Int)(h:XP a m):bh 64 [wE .aQ m,wI .i64 a] (tT [.agg ((cQ .aQ (jj c9 m a)).map .d),iE 0]):=by
 refine vG func64 rfl ⟨[asu,arW,CI],[aAn]⟩ [(8,⟨List F×Nat×Bool,λx=>⟨[(1,iT a),(2,bQ 0),(4,bQ 1),(8,bQ 2),(9,bQ 3),(10,.e (.c (.cr 110 [(3,0),(2,0)]))),(27,lT .ee (kI c9 m a)),(28,iT (kI c9 m a).length),(29,iT x.2.1)],[(0,dh .aQ m),(1,dh .aQ zM),(2,.cells [cw 4,cw 0,cw 0,iG,fv,fv,.aW 4 W.aQ x.1.length]),(3,.cells [.d (.b8 x.2.2)]),(4,.aU (U:=S) W.aQ x.1)],5⟩,λx=>XQ a m x.1 x.2.1 x.2.2/\True,λx=>(kI c9 m a).length-x.2.1⟩)] ?_;repeat' (first
  |exact(Dh ‹((0:Int) !=0)=true›).elim
  |((with_reducible show mt _ _ _ _ _);(conv=>whnf);(fail_if_success with_reducible show mt _ _ _ _ _))
  |intro _|apply aP
  |refine @aX (List F×Nat×Bool) _ ([],0,false) (aP ?_ λ(x:List F×Nat×Bool)(b:XQ a m x.1 x.2.1 x.2.2/\True)=>?_)
  |refine @aX (List F×Nat×Bool) _ (?_,x.2.1+1,?_) ?_
  |fail)
 all_goals(try simp only[bm,e_,Hs,AE]at*)
 all_goals first| (with_reducible first|show Int|show List J|show List F|show Nat)|exact aZ|with_reducible rfl|omega| (with_reducible first|show Bool|exact h.px|exact amW _ _|exact amX h b.1)|exact amY h b.1 I|exact am3 h b.1 I|simp only[bm,e_,Hs,AE]at*;exact am2 h b.1 I I|rw[am5 h b.1 I I]<;>rfl|with_reducible exact am4 h b.1|rw[amZ h b.1 I]<;>rfl|have Z:=NN h b.1;simp only[be,bj]at*;omega|rfl
def iv(lv:Int)(f:Nat)(m:F):F:=mc c9 lv f m
theorem JC(lv:Int)(f:Nat)(m:F):iv lv (f+1) m=if gF m lv=false then m else if m.aM=4 then bS (kY (m.aO.map (iv lv f)))else if m.aM=3 then
 (match m.aO.filter (λc=>gF c lv)with
 |[c]=>if c.aM=4 then bS (dA (m.aO.filter (λc=>!gF c lv)++[iv lv f c]))else bS (dA (m.aO.filter (λc=>!gF c lv)++[jj c9 (dA [c]) lv]))
 |inner=>bS (dA (m.aO.filter (λc=>!gF c lv)++[jj c9 (dA inner) lv])))
 else jj c9 m lv:=by unfold iv;rw[mc];rfl
def FH{lv:Int}{f:Nat}{m:F}(h:XP lv m):CM QO (iv lv f m)/\bc (iv lv f m)<=20001*bc m:=by have u:=jv h;obtain⟨v,rfl,b,a⟩:=Iq h;have e:=FG (k:=140) b a O (Gc a) f u.1 u.2.1;exact⟨e.cm,e.sz⟩
@[irreducible] def nu(lv:Int)(f:Nat)(m:F)(i:Nat):List F:=(m.aO.take i).map (iv lv f)
@[irreducible] def dw(lv:Int)(m:F)(b:Bool)(i:Nat):List F:=(m.aO.take i).filter λc=>gF c lv==b
def aaI(lv:Int)(f:Nat)(m:F):nu lv f m 0=[]:=by unfold nu;rfl
def auP(lv:Int)(f:Nat)(m:F):(nu lv f m 0).length=0:=by rw[aaI];rfl
def aaK{lv:Int}{f:Nat}{m:F}(h:m.aO[(i:Int).toNat]?=some c):nu lv f m i++[iv lv f c]=nu lv f m (i+1):=by rw[bI]at h;unfold nu;rw[h_,h,gB];rfl
def auQ{lv:Int}{f:Nat}{m:F}(h:m.aO[(i:Int).toNat]?=some c):(nu lv f m i).length+[iv lv f c].length=(nu lv f m (i+1)).length:=by rw[<-aaK h];simp
def aa_(lv:Int)(m:F)(b:Bool):dw lv m b 0=[]:=by unfold dw;rfl
def avl(lv:Int)(m:F)(b:Bool):(dw lv m b 0).length=0:=by rw[aa_];rfl
def abc{lv:Int}{m:F}(h:m.aO[(i:Int).toNat]?=some c)(a:mg (eB c) lv=Z)(d:XP lv m):dw lv m Z i++[c]=dw lv m Z (i+1):=by rw[(d.bz c (bF h)).J2]at a;rw[bI]at h;unfold dw;rw[h_,h,Ad];simp[a]
def avn{lv:Int}{m:F}(h:m.aO[(i:Int).toNat]?=some c)(a:mg (eB c) lv=Z)(d:XP lv m):(dw lv m Z i).length+[c].length=(dw lv m Z (i+1)).length:=by rw[<-abc h a d];simp
def PA{lv:Int}{m:F}{b:Bool}(h:m.aO[(i:Int).toNat]?=some c)(a:mg (eB c) lv=!b)(d:XP lv m):dw lv m b i=dw lv m b (i+1):=by rw[(d.bz c (bF h)).J2]at a;rw[bI]at h;unfold dw;rw[h_,h,Ad];cases b<;>simp[a]
def abb{lv:Int}{m:F}{b:Bool}(h:m.aO[(i:Int).toNat]?=some c)(a:mg (eB c) lv=!b)(d:XP lv m):(dw lv m b i).length=(dw lv m b (i+1)).length:=by rw[<-PA h a d]
section
variable {lv:Int}{m:F}(h:XP lv m)
include h
def aaJ(f i:Nat)(x:F):((nu lv f m i).length+[x].length)*oP.dT<=140737488355328/\(nu lv f m i).length+[x].length<=140737488355328:=by
 have c:(nu lv f m i).length<=m.aO.length:=by unfold nu;simp;omega
 have b:=h.len;have e:oP.dT=104:=rfl;have a:[x].length=1:=rfl;rw[e,a];omega
def avm(b:Bool)(i:Nat):(dw lv m b i).length<=10:=by
 have c:=h.len;have a:(dw lv m b i).length<=(m.aO.take i).length:=by unfold dw;exact Em _ _
 rw[ez]at a;omega
def aba(b:Bool)(i:Nat)(x:F):((dw lv m b i).length+[x].length)*oP.dT<=140737488355328/\(dw lv m b i).length+[x].length<=140737488355328:=by have c:=avm h b i;have e:oP.dT=104:=rfl;have a:[x].length=1:=rfl;rw[e,a];omega
theorem JN(a:c∈dw lv m Z i):c∈m.aO:=by unfold dw at a;exact oi (iZ.1 a).1
def AK{f:Nat}(hv:(!mg (eB m) lv)=true):iv lv (f+1) m=m:=by rw[h.J2]at hv;rw[JC,aK (an hv)]
variable {f:Nat}(hv:(!mg (eB m) lv)=false)
include hv
def Po:¬gF m lv=false:=by rw[h.J2]at hv;simpa using hv
def AJ(b:(m.aM==4)=true)(a:decide ((i:Int)<m.aO.length)=false):bS (.mk 4 0 zP (nu lv f m i))=iv lv (f+1) m:=by have a:=fg a;rw[JC,g (Po h hv),aK (an b)];unfold nu;rw[eQ O];rfl
def AI(a:(m.aM==4)=false)(b:(m.aM==3)=false):iv lv (f+1) m=jj c9 m lv:=by rw[JC,g (Po h hv),g (an a),g (an b)]
theorem abd{b:Bool}(a:decide ((i:Int)<m.aO.length)=false):dw lv m b i=m.aO.filter λc=>gF c lv==b:=by have a:=fg a;unfold dw;rw[eQ O]
theorem Pn(b:(m.aM==4)=false)(d:(m.aM==3)=true)(a:decide ((i:Int)<m.aO.length)=false):iv lv (f+1) m=(match dw lv m true i with
 |[c]=>if c.aM=4 then bS (dA (dw lv m false i++[iv lv f c]))else bS (dA (dw lv m false i++[jj c9 (dA [c]) lv]))
 |inner=>bS (dA (dw lv m false i++[jj c9 (dA inner) lv]))):=by
 have e:(λc=>gF c lv==true)=λc=>gF c lv:=by funext c;cases gF c lv<;>rfl
 have j:(λc=>gF c lv==false)=λc=>!gF c lv:=by funext c;cases gF c lv<;>rfl
 rw[JC,g (Po h hv),g (an b),aK (an d),abd h hv a,abd h hv a,e,j]
def auR(e:(m.aM==4)=false)(j:(m.aM==3)=true)(k:decide ((i:Int)<m.aO.length)=false)(b:(((dw lv m true i).length:Int)==1)=true)(a:(dw lv m true i)[(0:Int).toNat]?=some c)(n:(c.aM==4)=true):
 bS (.mk 3 0 zP (dw lv m false i++[iv lv f c]))=iv lv (f+1) m:=by
 have b:((dw lv m true i).length:Int)=1:=an b;rw[Pn h hv e j k];generalize dw lv m true i=l at*
 match l,b,a with
 |[d],_,a=>have a:d=c:=an a;subst a;simp only;rw[aK (an n)];rfl
def auS(b:(m.aM==4)=false)(e:(m.aM==3)=true)(j:decide ((i:Int)<m.aO.length)=false)(a:(dw lv m true i)[(0:Int).toNat]?=some c)(k:(c.aM==4)=false):
 bS (.mk 3 0 zP (dw lv m false i++[jj c9 (.mk 3 0 zP (dw lv m true i)) lv]))=iv lv (f+1) m:=by
 rw[Pn h hv b e j];generalize dw lv m true i=l at*;split
 ·rename_i d;have a:d=c:=an a;subst a;rw[g (an k)];rfl
 ·rfl
def auT(b:(m.aM==4)=false)(c:(m.aM==3)=true)(d:decide ((i:Int)<m.aO.length)=false)(a:(((dw lv m true i).length:Int)==1)=false):
 bS (.mk 3 0 zP (dw lv m false i++[jj c9 (.mk 3 0 zP (dw lv m true i)) lv]))=iv lv (f+1) m:=by
 have a:¬((dw lv m true i).length:Int)=1:=an a;rw[Pn h hv b c d];generalize dw lv m true i=l at*;split
 ·exact absurd rfl a
 ·rfl
end
section
variable {lv:Int}{m:F}(h:XP lv m)
include h
def auV:CM QO m:=(jv h).1.imp λp a=>Sz.up a O O
def aAZ(s:(m.aM==4)=true)(f i:Nat):OF (.mk 4 0 zP (nu lv f m i)):=by
 have j:∀l:List F,(∀c∈l,XP lv c)->(∀c∈l.map (iv lv f),CM QO c)/\cy (l.map (iv lv f))<=20001*cy l:=by
  intro l
  induction l with
  |nil=>intro _;exact⟨λc n=>by simp at n,by rw[gL,gV];omega⟩
  |cons c r p=>
   intro o;have a:=FH (f:=f) (o c (bZ ..));have b:=p λd e=>o d (cE _ e)
   rw[dc,eE,eE];refine⟨λd e=>?_,O⟩;rcases dC.1 e with rfl|e
   ·exact a.1
   ·exact b.1 d e
 have k:=j (m.aO.take i) λc n=>h.bz c (oi n)
 unfold nu;refine OF.q (.node 4 _ (.inr rfl) k.1) ?_;have t:cy (m.aO.take i)+cy (m.aO.drop i)=cy m.aO:=by rw[<-zG,om]
 have q:=(jv h).2.1;rw[kM]at q;rw[bc];omega
def abf(b:Bool)(i:Nat):cy (dw lv m b i)<=9:=by
 have e:cy (m.aO.take i)+cy (m.aO.drop i)=cy m.aO:=by rw[<-zG,om]
 have a:=(jv h).2.1;rw[kM]at a;have d:=TK (λc=>gF c lv==b) (m.aO.take i);unfold dw;omega
def ajA(b:Bool)(i:Nat):XP lv (.mk 3 0 zP (dw lv m b i)):=by have u:=jv h;unfold XP;exact⟨.node 3 _ (.inl rfl) λc a=>u.1.bz c (JN h a),by rw[bc];have:=abf h b i;omega,u.2.2⟩
def aeC(i:Nat)(b:CM QO c)(Y:bc c<=900000):OF (.mk 3 0 zP (dw lv m false i++[c])):=by
 refine OF.q (.node 3 _ (.inl rfl) λa hc=>?_) ?_
 ·rcases dd.1 hc with hc|hc
  ·exact(auV h).bz a (JN h hc)
  ·rw[dZ.1 hc];exact b
 ·have:=abf h false i;rw[bc,zG,eE,gV];omega
def abe(a:(dw lv m Z i)[x]?=some c):XP lv c:=h.bz c (JN h (bF a))
def avo(a:(dw lv m Z i)[x]?=some c):bc c+1<=bc m:=by have d:=xW (JN h (bF a));rw[kM m];omega
theorem awZ(a:m.aO[i]?=some c):bc c+1<=bc m:=by have b:=xW (bF a);rw[kM m];omega
def aAY(a f:Nat)(b:(dw lv m true a)[i]?=some c):OF (.mk 3 0 zP (dw lv m false a++[iv lv f c])):=by have k:=abe h b;have e:=FH (f:=f) k;exact aeC h a e.1 (by have:=(jv k).2.1;omega)
def aeD(i:Nat):OF (.mk 3 0 zP (dw lv m false i++[jj c9 (.mk 3 0 zP (dw lv m true i)) lv])):=by have k:=jv (ajA h true i);obtain⟨v,rfl,c,a⟩:=Iq h;have e:=XE (k:=140) c a O (Gc a) k.1;refine aeC h i (e.1.imp λp b=>b.qo) ?_;have:=XI k.2.1 (zF _) e.2.1;omega
def av1(a:m.aO[i]?=some c):HP c lv:=(h.bz c (bF a)).hp
end
def aBe(l:zF0):(SV.aW (U:=S) 0 W.aQ l.length).den.cL 0 (bx (U:=S) W.aQ l)=(SV.d (U:=S) (.bf W.aQ l)).den:=(Be Vw (φ:=True) (show v_ (U:=S) 0 W.aQ l (.aW 0 W.aQ l.length) True from⟨rfl,trivial⟩)).2.symm
def Xx(k lv:Int)(n:Nat):List (SE S):=[.agg [.d (.sc (.int .i64 k)),.d (.sc (.int .i64 0)),.d (.sc (.int .i64 0)),.d (.sc (.bool false)),.d (.sc (.slice none 0 0)),.d (.sc (.slice none 0 0)),.aW 0 W.aQ n],.c (.d (.sc (.int .i64 lv)))]
def aoo(k lv:Int)(l:zF0):(((Xx k lv l.length).map SE.den).map (E.cL 0 (bx (U:=S) W.aQ l))).map E.cH=[(wE .aQ (.mk k 0 zP l)).den,(wI .i64 lv).den]:=by have e:=aBe l;unfold Xx;simp only[dc,gL,SE.den,E.cL,E.cH,e];rfl
def aup:fh prog 64:=fH func64 af rfl
def agH(H:List (Nat×aV S))(args:zS0)(K:f_ S->Prop):Prop:=
 match H,args with
 |[],[.agg [.d (.sc (.int .i64 k)),.d (.sc (.int .i64 r)),.d (.sc (.int .i64 a)),.d (.b8 b),.d (.bf W.u32 c),.d (.bf W.aH d),.d (.bf W.aQ q)],.c (.d (.sc (.int .i64 lv)))]=>XP lv (.mk k r (.mk a b c d) q)/\K ⟨tT [.agg ((cQ .aQ (jj c9 (.mk k r (.mk a b c d) q) lv)).map .d),iE 0],[],[],[]⟩
 |[(0,.aU W.aQ l)],[.agg [.d (.sc (.int .i64 k)),.d (.sc (.int .i64 0)),.d (.sc (.int .i64 0)),.d (.sc (.bool false)),.d (.sc (.slice none 0 0)),.d (.sc (.slice none 0 0)),.aW 0 W.aQ n],.c (.d (.sc (.int .i64 lv)))]=>(n=l.length/\XP lv (.mk k 0 zP l))/\K ⟨tT [.agg ((cQ .aQ (jj c9 (.mk k 0 zP l) lv)).map .d),iE 0],[],[0],[0]⟩
 |_,_=>False
def aAt:fk prog S where
 f:=64
 fX:=aup
 run:=agH
 ok H args K h:=by
  unfold agH at h;split at h
  ·rename_i k r a b c d q lv;refine⟨_,?_,λu j o=>absurd j (l6 _),h.2⟩;exact cN.fK (stay':=λu=>u<0/\¬u∈[]) (XG (.mk k r (.mk a b c d) q) lv h.1) λu j=>absurd j.1 (l6 _)
  ·rename_i l k n lv;obtain⟨⟨t,s⟩,p⟩:=h;subst t;refine⟨_,?_,λu j o=>?_,p⟩
   ·have Z:li prog 64 [(wE .aQ (.mk k 0 zP l)).den,(wI .i64 lv).den] _:=XG (.mk k 0 zP l) lv s;rw[<-aoo]at Z;exact cN.arL (aS:=λu=>u<1/\¬u∈[0]) (λu j e=>j.2 (by rw[e];simp)) Z
   ·have h3:u<1:=j;simp at o;omega
  ·cases h
@[irreducible] def xJ(lv:Int)(f:Nat)(m:F)(x:Nat):F:=iv lv f (((dw lv m true x)[(0:Int).toNat]?).getD zM)
@[irreducible] def we(lv:Int)(m:F)(x:Nat):F:=jj c9 (.mk 3 0 zP (dw lv m true x)) lv
def zu{lv:Int}{f:Nat}{m:F}(a:(dw lv m true x)[(0:Int).toNat]?=some c):iv lv f c=xJ lv f m x:=by unfold xJ;rw[a];rfl
def xK(lv:Int)(m:F)(x:Nat):jj c9 (.mk 3 0 zP (dw lv m true x)) lv=we lv m x:=by unfold we;rfl
@[irreducible] def PK(lv:Int)(f:Nat)(m:F)(x:Nat)(q:F):Prop:=OF (.mk 3 0 zP (dw lv m false x++[q]))/\bS (.mk 3 0 zP (dw lv m false x++[q]))=iv lv (f+1) m
def PKo{lv:Int}{f:Nat}{m:F}(h:PK lv f m x c):OF (.mk 3 0 zP (dw lv m false x++[c])):=by unfold PK at h;exact h.1
def Al{lv:Int}{f:Nat}{m:F}(h:PK lv f m x c):bS (.mk 3 0 zP (dw lv m false x++[c]))=iv lv (f+1) m:=by unfold PK at h;exact h.2
section
variable {lv:Int}{m:F}(h:XP lv m){f:Nat}(hv:(!mg (eB m) lv)=false)(h4:(m.aM==4)=false)(h3:(m.aM==3)=true){i:Nat}(hx:decide ((i:Int)<(m.aO.length:Int))=false)
include h hv h4 h3 hx
def alY(b:(((dw lv m true i).length:Int)==1)=true)(d:(c.aM==4)=true)(a:(dw lv m true i)[(0:Int).toNat]?=some c):PK lv f m i (xJ lv f m i):=by unfold PK;rw[<-zu a];exact⟨aAY h i f a,auR h hv h4 h3 hx b a d⟩
def alZ(a:(dw lv m true i)[(0:Int).toNat]?=some c)(b:(c.aM==4)=false):PK lv f m i (we lv m i):=by unfold PK;rw[<-xK];exact⟨aeD h i,auS h hv h4 h3 hx a b⟩
def al0(a:(((dw lv m true i).length:Int)==1)=false):PK lv f m i (we lv m i):=by unfold PK;rw[<-xK];exact⟨aeD h i,auT h hv h4 h3 hx a⟩
end
theorem auY(lv:Int)(f:Nat)(m:F)(h:XP lv m)(Y:bc m<=f):bh 32 [wE .aQ m,wI .i64 lv] (tT [.agg ((cQ .aQ (iv lv f m)).map .d),iE 0]):=by
 induction f generalizing m
 case zero=>have:=zF m;omega
 rename_i f j;have e:∀(c:F)(l:Int),(XP lv c/\bc c<=f/\l=lv)->bh 32 [wE .aQ c,wI .i64 l] (tT [.agg ((cQ .aQ (iv l f c)).map .d),iE 0]):=λc l n=>by obtain⟨p,o,rfl⟩:=n;exact j c p o
 clear j;obtain⟨q,a⟩:∃q,q=iv lv (f+1) m:=⟨_,rfl⟩;rw[<-a];refine vG func32 rfl ⟨[asd,CI,qO Vw 32 (.el W.aQ) (.int .i64) (λ(c:F)(l:Int)=>XP lv c/\bc c<=f/\l=lv) (λ(c:F)(l:Int)=>tT [.agg ((cQ .aQ (iv l f c)).map .d),iE 0]) e],[aAt]⟩ [(7,⟨Nat,λx=>⟨[(1,iT lv),(2,bQ 0),(4,bQ 1),(6,bQ 2),(30,lT .aQ m.aO),(31,iT m.aO.length),(32,iT x)],[(0,dh .aQ m),(1,dh .aQ zM),(2,.cells [cw 4,cw 0,cw 0,iG,fv,fv,.aW 3 W.aQ (nu lv f m x).length]),(3,.aU (U:=S) W.aQ (nu lv f m x))],4⟩,λx=>x<=m.aO.length/\True,λx=>m.aO.length-x⟩),(19,⟨Nat,λx=>⟨[(1,iT lv),(2,bQ 0),(4,bQ 1),(11,bQ 2),(12,bQ 3),(60,lT .aQ m.aO),(61,iT m.aO.length),(62,iT x)],[(0,dh .aQ m),(1,dh .aQ zM),(2,.cells [cw 3,cw 0,cw 0,iG,fv,fv,.aW 4 W.aQ (dw lv m false x).length]),(3,.cells [cw 3,cw 0,cw 0,iG,fv,fv,.aW 5 W.aQ (dw lv m true x).length]),(4,.aU (U:=S) W.aQ (dw lv m false x)),(5,.aU (U:=S) W.aQ (dw lv m true x))],6⟩,λx=>x<=m.aO.length/\True,λx=>m.aO.length-x⟩),(4000029,⟨Nat,λx=>⟨[(4,bQ 1),(11,bQ 2),(15,bQ 3)],[(1,dh .aQ zM),(2,.cells [cw 3,cw 0,cw 0,iG,fv,fv,.aW 4 W.aQ (dw lv m false x).length]),(3,dh .aQ (xJ lv f m x)),(4,.aU (U:=S) W.aQ (dw lv m false x))],5⟩,λx=>PK lv f m x (xJ lv f m x)/\True,λ_=>0⟩),(6000014,⟨Nat,λx=>⟨[(4,bQ 1),(6,bQ 2)],[(1,dh .aQ zM),(2,.cells [cw 4,cw 0,cw 0,iG,fv,fv,.d (.bf W.aQ (nu lv f m x))])],3⟩,λx=>decide ((x:Int)<m.aO.length)=false/\True,λ_=>0⟩),(6000030,⟨Nat,λx=>⟨[(4,bQ 1),(11,bQ 2)],[(1,dh .aQ zM),(2,.cells [cw 3,cw 0,cw 0,iG,fv,fv,.d (.bf W.aQ (dw lv m false x++[xJ lv f m x]))])],3⟩,λx=>PK lv f m x (xJ lv f m x)/\True,λ_=>0⟩),(4000034,⟨Nat,λx=>⟨[(4,bQ 1),(11,bQ 2),(17,bQ 3)],[(1,dh .aQ zM),(2,.cells [cw 3,cw 0,cw 0,iG,fv,fv,.aW 4 W.aQ (dw lv m false x).length]),(3,dh .aQ (we lv m x)),(4,.aU (U:=S) W.aQ (dw lv m false x))],5⟩,λx=>PK lv f m x (we lv m x)/\True,λ_=>0⟩),(6000035,⟨Nat,λx=>⟨[(4,bQ 1),(11,bQ 2)],[(1,dh .aQ zM),(2,.cells [cw 3,cw 0,cw 0,iG,fv,fv,.d (.bf W.aQ (dw lv m false x++[we lv m x]))])],3⟩,λx=>PK lv f m x (we lv m x)/\True,λ_=>0⟩)] ?_;repeat' (first
  |exact(Dh ‹((0:Int) !=0)=true›).elim
  |((with_reducible show mt _ _ _ _ _);(conv=>whnf);(fail_if_success with_reducible show mt _ _ _ _ _))
  |intro _|apply aP
  |refine @aX (Nat->Prop) _ (λ_=>True) (@aX Nat _ u (aP ?_ λ(v:Nat) (hv:PK lv f m v (xJ lv f m v)/\True) _=>?_))
  |refine @aX (Nat->Prop) _ (λ_=>True) (@aX Nat _ u (aP ?_ λ(v:Nat) (hv:PK lv f m v (we lv m v)/\True) _=>?_))
  |refine @aX (Nat->Prop) _ (λ_=>True) (@aX Nat _ x (aP ?_ λ(u:Nat) (k:PK lv f m u (xJ lv f m u)/\True) _=>?_))
  |refine @aX (Nat->Prop) _ (λ_=>True) (@aX Nat _ x (aP ?_ λ(u:Nat) (k:PK lv f m u (we lv m u)/\True) _=>?_))
  |refine @aX (Nat->Prop) _ (λ_=>True) (@aX Nat _ x (aP ?_ λ(v:Nat) (hv:decide ((v:Int)<m.aO.length)=false/\True) _=>?_))
  |refine @aX Nat _ 0 (aP ?_ λ(x:Nat)(hx:x<=m.aO.length/\True)=>?_)
  |refine @aX Nat _ (x+1) ?_
  |fail)
 all_goals(try clear e)
 all_goals(try simp only[bm,e_,Hs,AE]at*)
 all_goals first|exact aZ|omega|with_reducible exact h.hp|exact aY (λq:F=>q.aM) ((a.trans (AK h I)).symm)|exact aY (λq:F=>q.bW) ((a.trans (AK h I)).symm)|exact aY (λq:F=>q.aH.aJ) ((a.trans (AK h I)).symm)|exact aY (λq:F=>q.aH.neg) ((a.trans (AK h I)).symm)|exact aY (λq:F=>q.aH.aF) ((a.trans (AK h I)).symm)|exact aY (λq:F=>q.aH.aG) ((a.trans (AK h I)).symm)|exact aY (λq:F=>q.aO) ((a.trans (AK h I)).symm)| (with_reducible first|exact aaI _ _ _|exact auP _ _ _|exact aa_ _ _ _|exact avl _ _ _|exact aaK I|exact auQ I|exact(aaJ h _ _ _).1|exact(aaJ h _ _ _).2|exact(aba h _ _ _).1|exact(aba h _ _ _).2|exact abc I I h|exact avn I I h)|exact PA (b:=false) I ‹mg _ _=true› h|exact abb (b:=false) I ‹mg _ _=true› h|exact PA (b:=true) I ‹mg _ _=false› h|exact abb (b:=true) I ‹mg _ _=false› h| (with_reducible first|exact av1 h I|exact abe h I|exact h.bz _ (bF I)|exact ajA h _ _)|have Z:=avo h I;omega|have Z:=awZ h I;omega|with_reducible exact aAZ h I _ _|exact aY (λq:F=>q.aM) ((AJ h I I hv.1).trans a.symm)|exact aY (λq:F=>q.bW) ((AJ h I I hv.1).trans a.symm)|exact aY (λq:F=>q.aH.aJ) ((AJ h I I hv.1).trans a.symm)|exact aY (λq:F=>q.aH.neg) ((AJ h I I hv.1).trans a.symm)|exact aY (λq:F=>q.aH.aF) ((AJ h I I hv.1).trans a.symm)|exact aY (λq:F=>q.aH.aG) ((AJ h I I hv.1).trans a.symm)|exact aY (λq:F=>q.aO) ((AJ h I I hv.1).trans a.symm)|exact alY h I I I I I I I|exact alZ h I I I I I I|exact al0 h I I I I I| (with_reducible first|exact k.1|exact PKo hv.1)|exact aY (λq:F=>q.aM) (zu I)|exact aY (λq:F=>q.bW) (zu I)|exact aY (λq:F=>q.aH.aJ) (zu I)|exact aY (λq:F=>q.aH.neg) (zu I)|exact aY (λq:F=>q.aH.aF) (zu I)|exact aY (λq:F=>q.aH.aG) (zu I)|exact aY (λq:F=>q.aO) (zu I)|exact aY (λq:F=>q.aM) (xK _ _ _)|exact aY (λq:F=>q.bW) (xK _ _ _)|exact aY (λq:F=>q.aH.aJ) (xK _ _ _)|exact aY (λq:F=>q.aH.neg) (xK _ _ _)|exact aY (λq:F=>q.aH.aF) (xK _ _ _)|exact aY (λq:F=>q.aH.aG) (xK _ _ _)|exact aY (λq:F=>q.aO) (xK _ _ _)|exact aY (λq:F=>q.aM) ((Al hv.1).trans a.symm)|exact aY (λq:F=>q.bW) ((Al hv.1).trans a.symm)|exact aY (λq:F=>q.aH.aJ) ((Al hv.1).trans a.symm)|exact aY (λq:F=>q.aH.neg) ((Al hv.1).trans a.symm)|exact aY (λq:F=>q.aH.aF) ((Al hv.1).trans a.symm)|exact aY (λq:F=>q.aH.aG) ((Al hv.1).trans a.symm)|exact aY (λq:F=>q.aO) ((Al hv.1).trans a.symm)|exact aY (λq:F=>q.aM) ((a.trans (AI h I I I)).symm)|exact aY (λq:F=>q.bW) ((a.trans (AI h I I I)).symm)|exact aY (λq:F=>q.aH.aJ) ((a.trans (AI h I I I)).symm)|exact aY (λq:F=>q.aH.neg) ((a.trans (AI h I I I)).symm)|exact aY (λq:F=>q.aH.aF) ((a.trans (AI h I I I)).symm)|exact aY (λq:F=>q.aH.aG) ((a.trans (AI h I I I)).symm)|exact aY (λq:F=>q.aO) ((a.trans (AI h I I I)).symm)|have Z:=h.len;simp only[be,bj]at*;omega|rw[c_];done|simp only[jw]at*;omega|rfl
def Zy:Ct prog S:=qO Vw 32 (.el W.aQ) (.int .i64) (λ(m:F)(lv:Int)=>XP lv m) (λ(m:F)(lv:Int)=>tT [.agg ((cQ .aQ (iv lv (bc m) m)).map .d),iE 0]) (λm lv h=>auY lv (bc m) m h (bu _))
def aaH(m:F)(lv:Int):iv lv (bc (bS m)) (bS m)=qv c9 m lv:=rfl
@[irreducible] def XR(m:F)(lv:Int):=RM RQ m/\bc m<=8/\iF m/\1<=lv/\lv<=4
def rZ{m:F}{lv:Int}(h:XR m lv):=(XR.eq_1 ..).to_iff.1 h
def aBv:∀{m:F},RM RQ m->∀p∈eB m,Sz 2 140 p:=by
 intro m h
 induction h with
 |mk k r p i n v j=>
  intro q a;rw[eB]at a;split at a
  ·rename_i u;rw[dZ.1 a];exact(RQ.n p (n u)).2
  ·split at a
   ·rename_i t;have b:∀l:List F,(∀c∈l,∀p∈eB c,Sz 2 140 p)->∀q∈mn l,Sz 2 140 q:=by
     intro l
     induction l with
     |nil=>intro _ q a;rw[mn]at a;simp at a
     |cons c r e=>
      intro f q a;rw[mn]at a;rcases dd.1 a with a|a
      ·exact f c (bZ ..) q a
      ·exact e (λd o=>f d (cE _ o)) q a
    exact b i (λc s=>j t c s) q a
   ·simp at a
section
variable {m:F}{lv:Int}(h:XR m lv)
include h
def XRn:∃v:Nat,lv=v/\1<=v/\v<=4:=⟨lv.toNat,by have:=(rZ h).2.2.2;omega,by have:=(rZ h).2.2.2;omega,by have:=(rZ h).2.2.2;omega⟩
def XR.hc:HC m lv:=by have u:=rZ h;have q:=aBv u.1;unfold HC HP nf lh;obtain⟨v,rfl,c,b⟩:=XRn h;exact⟨⟨⟨u.2.2.1,by simp;omega⟩,λp a=>(q p a).cz O O,O,O⟩,λp a=>(q p a).ub v⟩
def XR.of:OF m:=by have u:=rZ h;unfold OF;exact⟨u.1.imp λp a=>⟨a.1,Sz.cz a.2.2 O O⟩,O⟩
def XR.ex:XP lv (bS m):=by have u:=rZ h;have s:=ail u.1 u.2.1;unfold XP;exact⟨s.1,O,u.2.2.2⟩
def XR.mk:iF m:=(rZ h).2.2.1
def XR.ofn:OF (dy m):=by have u:=rZ h;have s:=Rk u.1 u.2.1;exact OF.q (s.1.imp λp a=>Sz.up a O O) O
def XR.AM:XP lv (bS (dy m)):=by have u:=rZ h;have s:=Rk u.1 u.2.1;unfold XP;exact⟨s.2.1,O,u.2.2.2⟩
def XR.mkr:iF (qv c9 (dy m) lv):=by have e:=FH (f:=bc (bS (dy m))) h.AM;have:=(jv h.AM).2.1;exact CM.mok (d:=12) (k:=60000) O O e.1 (show bc (iv lv (bc (bS (dy m))) (bS (dy m)))<=1000000 by omega)
def XR.ofr:OF (dy (qv c9 (dy m) lv)):=by have e:=FH (f:=bc (bS (dy m))) h.AM;have:=(jv h.AM).2.1;obtain⟨d1,d2,d3⟩:=zk QO.rn e.1.rm;have d3:bc (dy (qv c9 (dy m) lv))<=bc (iv lv (bc (bS (dy m))) (bS (dy m))):=d3;exact OF.q d1 O
end
theorem akI(m:F)(lv:Int)(h:XR m lv):bh 11 [wE .aQ m,wI .i64 lv] (tT [.agg ((cQ .aQ (qv c9 m lv)).map .d),iE 0]):=by
 refine vF func11 rfl [Zt,CI,Zy] [] ?_;repeat' first|exact(Dh ‹((0:Int) !=0)=true›).elim|intro _|apply aP
 all_goals(try simp only[bm,e_,Hs,AE,aaH]at*)
 all_goals first|exact aZ| (with_reducible first|exact h.hc|exact h.of|exact h.ex)
def Zl:=eO (.el W.aQ) (.int .i64) akI
theorem akJ(m:F)(lv:Int)(h:XR m lv):bh 12 [wE .aQ m,wI .i64 lv] (tT [.agg ((cQ .aQ (wx c9 m lv)).map .d),iE 0]):=by
 refine vF func12 rfl [Zt,CI,Zy,Jm] [] ?_;repeat' first|exact(Dh ‹((0:Int) !=0)=true›).elim|intro _|apply aP
 all_goals(try simp only[bm,e_,Hs,AE,aaH]at*)
 all_goals first|exact aZ| (with_reducible first|exact h.hc|exact h.mk|exact h.ofn|exact h.AM|exact h.mkr|exact h.ofr)|rfl
def Zn:=eO (.el W.aQ) (.int .i64) akJ
def UK:J:=.mk 1 false [] [.mk 0 false [] [],.mk 0 (iD 1).neg (iD 1).aF []]
def Zm:F:=.mk 2 3 UK []
def aHO:rj Zm 8 2=true:=af
def aHN:(qv c9 Zm 1).aM=1:=af
def aHL:(wx c9 Zm 1).aM=0:=af
def aHM:mz Zm:=by
 have z:jG (.mk 0 false [] []):=.mk _ _ _ _ (λd a=>by simp at a) (λc hc=>by simp at hc);have o:jG (.mk 0 (iD 1).neg (iD 1).aF []):=.mk _ _ _ _ (fA 1) (λc hc=>by simp at hc);refine .mk _ _ _ _ (.mk _ _ _ _ (λd a=>by simp at a) λc hc=>?_) (λc hc=>by simp at hc);rcases dC.1 hc with rfl|hc
 ·exact z
 ·rw[dZ.1 hc];exact o
def D0(a:mz m)(Y:rj m 8 2=true){k:Int}(b:1<=k)(c:k<=4):XR m k:=by have r:=aCQ a Y;unfold rj at Y;rw[dB]at Y;have f:=FL O Y.1 a;unfold XR;exact⟨r.1,r.2,f.1,b,c⟩
def aHP:XR Zm 1:=D0 aHM aHO O O
theorem aGR:bh 27 [iE 1] (eT .aH UK):=by
 refine vF func27 rfl [ZC,uA] [] ?_;repeat' first|intro _|apply aP
 all_goals first|exact aZ|omega|rfl|exfalso;simp_all;done
def asV:Ct prog S:=uz Vw 27 (.int .i64) (λ(n:Int)=>n=1) (λ(n:Int)=>eT .aH UK) (λn h=>by subst h;exact aGR)
theorem aoY:bh 8 [] (bT true):=by
 refine vF func8 rfl [asV,Zl,Zn] [] ?_;repeat' first|intro _|apply aP
 all_goals first|exact aZ|with_reducible rfl|exact aHP|show((wx c9 Zm 1).aM==0)=true;rw[aHL];rfl|exfalso;have k:((0:Int)==0)=!true:=ak;exact absurd k ae|exfalso;have k:((qv c9 Zm 1).aM==1)=!true:=I;rw[aHN]at k;exact absurd k ae
def arY:Ct prog S where
 f:=8
 run:=λargs K=>match args with|[]=>K (bT true)|_=>False
 ok:=λargs K h=>by
  split at h
  ·exact⟨_,aoY,h⟩
  ·cases h
def QB(K:Nat)(q:Rat):=q.num.natAbs<2^K/\q.den<2^K
def QB.up(h:i<=x)(a:QB i q):QB x q:=⟨l5 a.1 (B_ O h),l5 a.2 (B_ O h)⟩
def ND(a:i≠0)(b:r.natAbs<2^x)(c:i<2^x):QB x (Rat.normalize r i a):=by
 rw[Rat.normalize_eq];refine⟨?_,?_⟩
 ·show(r/_).natAbs<_;refine nc ?_ b;rw[Int.natAbs_ediv_of_dvd (Na.1 (by simpa using Ns r.natAbs i))];exact Nat.div_le_self _ _
 ·show i/_<_;exact nc (Nat.div_le_self _ _) c
def QB.add(c:QB i q)(d:QB x Q):QB (i+x+1) (q+Q):=by
 rw[Rat.add_def];have f:=B9 c.1 d.2;have e:=B9 d.1 c.2;have h:=B9 c.2 d.2;rw[<-Eu]at f e h;rw[Aj x i]at e;refine ND _ ?_ ?_
 ·refine nc (Int.natAbs_add_le _ _) ?_;rw[Ec,Ec,Int.natAbs_natCast,Int.natAbs_natCast,H5];omega
 ·rw[H5];omega
def QB.mul(c:QB i q)(d:QB x Q):QB (i+x) (q*Q):=by rw[Rat.mul_def];have e:=B9 c.1 d.1;have f:=B9 c.2 d.2;rw[<-Eu]at e f;refine ND _ ?_ f;rw[Ec];exact e
def WG{n:Int}{K:Nat}(a:1<=K)(h:n.natAbs<2^K):QB K (n:Rat):=⟨by rw[Rat.num_intCast];exact h,by rw[Rat.den_intCast];exact l5 ae (B_ O a)⟩
def amg(a:1<=i):QB i 0:=WG (n:=0) a (H6 i)
@[irreducible] def VX(a:az):=∀i,1<=i->i<=4->QB 97 (a i)
theorem JA{a:az}{x:Rat}(b:QB 97 x){V:Nat}:∀{l:zJ0},(∀c∈l,QB V (ev a c))->QB (l.length*(V+98)+1) (cP a x l)
 |[],_=>by rw[cP];exact amg O
 |c::r,h=>by rw[cP];refine((h c (bZ ..)).add (b.mul (JA b λd e=>h d (cE _ e)))).up ?_;rw[fD,jS];omega
def vB:Nat->Nat
 |0=>60001
 |L+1=>13*(vB L+98)+1
def aGF(L:Nat):vB L<=vB (L+1):=by rw[vB];omega
theorem Uq:∀{L M:Nat},L<=M->vB L<=vB M
 |L,0,h=>by rw[show L=0 by omega];exact bu _
 |L,M+1,h=>by
  by_cases e:L=M+1
  ·rw[e];exact bu _
  ·exact eZ (Uq (show L<=M by omega)) (aGF M)
def Pj{b:az}(f:VX b):∀{L:Nat}{p:J},br L p->L<=4->DL 12 p->d_ p<2^60000->QB (vB L) (ev b p):=by
 intro L p h
 induction h with
 | @const L z=>intro j d a;rw[sw]at a;rw[l_];exact(WG (K:=60000) O a).up (eZ (show 60000<=vB 0 by decide) (Uq (dD L)))
 | @node L m l i n q r s o=>
   intro j d a;rw[oI _ i O]at a;rw[uD b _ i O];unfold VX at f;have:=JA (f m O O) (V:=vB (m-1)) λc e=>o c e O (d.bz c e) (nc (v7 e) a)
   refine this.up ?_;have hlen:l.length<=13:=d.len;have t:=jI (vB (m-1)+98) hlen;have u:vB m=13*(vB (m-1)+98)+1:=by obtain⟨k,rfl⟩:∃k,m=k+1:=⟨m-1,O⟩;rw[vB];rfl
   have v:=Uq n;omega
def vB4:vB 4<=1716723061:=ae
def aAS{k:Nat}(h:i<=32*k)(b:QB i q):(fo q).num.length<=k/\(fo q).den.length<=k:=by
 have e:=b.up h;unfold QB at e;have a:((2^(32*k):Nat):Int)=pB k:=by unfold pB;rw[Nat.pow_mul];simp
 have d:(q.num.natAbs:Int)<pB k:=by rw[<-a];exact Int.ofNat_lt.2 e.1
 have c:(q.den:Int)<pB k:=by rw[<-a];exact Int.ofNat_lt.2 e.2
 exact⟨qV ⟨O,O⟩,qR c⟩
@[irreducible] def iz(x:List cd):Int->Rat:=λi=>((x[(i-1).toNat]?).map rQ).getD 0
@[irreducible] def XL(x:List cd):=x.length=4/\∀r∈x,Dg r.num/\Dg r.den/\r.num.length<=3/\r.den.length<=3
def NM{x:List cd}(h:XL x):=(XL.eq_1 ..).to_iff.1 h
def aCB{r:cd}(f:Dg r.num)(b:Dg r.den)(i:r.num.length<=3)(j:r.den.length<=3):QB 97 (rQ r):=by
 have l:=zw b;have m:(rN r).natAbs<2^97:=by
  unfold rN;split
  ·decide
  ·have:=Qc (n:=r.neg) f i;exact l5 this ae
 have a:(rD r).natAbs<2^97:=by
  unfold rD;split
  ·decide
  ·have:=Qc (n:=false) b j;exact l5 this ae
 obtain⟨k,d⟩:=wG (ud l);have hk0:k≠0:=O;have e:rQ r=Rat.normalize (rN r) k hk0:=by unfold rQ;rw[d,Rat.normalize_eq_mkRat,Rat.mkRat_eq_div];rfl
 rw[e];exact ND hk0 m (by rw[d]at a;simpa using a)
def XL.vx{x:List cd}(h:XL x):VX (iz x):=by have u:=NM h;unfold VX iz;intro i b d;obtain⟨r,hr⟩:∃r,x[(i-1).toNat]?=some r:=⟨x[(i-1).toNat]' O,ai⟩;rw[hr];have a:=u.2 r (bF hr);exact aCB a.1 a.2.1 a.2.2.1 a.2.2.2
@[irreducible] def EV(p:J)(x:List cd):=(br 4 p/\DL 12 p/\d_ p<2^60000)/\XL x
def wD{p:J}{x:List cd}(h:EV p x):=(EV.eq_1 ..).to_iff.1 h
def QB.rp(h:QB (vB 4) q):RP (fo q):=by have a:=aAS (k:=67108864) (by have:=vB4;omega) h;have d:=aAR q;unfold RP;exact⟨d.1,d.2,a.1,a.2⟩
@[irreducible] def nR(x:List cd)(p:J)(z:Nat):Rat:=cP (iz x) (iz x p.aJ) (p.aG.drop (p.aG.length-z))
section
variable {p:J}{x:List cd}(h:EV p x)
include h
theorem EV.bz{i:Nat}{c:J}(hc:p.aG[i]?=some c):EV c x:=by
 have u:=wD h;have a:=bF hc;have h0:p.aJ≠0:=λe=>by have:=u.1.1.oX e;rw[this]at a;simp[kP,J.aG]at a
 obtain⟨j,f,d,l,b,k⟩:=u.1.1.ow h0;unfold EV;refine⟨⟨(u.1.1.bz a).mono O,u.1.2.1.bz c a,nc ?_ u.1.2.2⟩,u.2⟩;rw[b,oI _ f d];exact v7 a
theorem EV.len:p.aG.length<=13:=(wD h).1.2.1.len
def EV.qb:QB (vB 4) (ev (iz x) p):=by have u:=wD h;exact Pj u.2.vx u.1.1 (bu 4) u.1.2.1 u.1.2.2
theorem EV.c0(h0:decide (p.aJ<=0)=true):fo ((iV ⟨p.neg,p.aF⟩:Int):Rat)=fo (ev (iz x) p):=by
 have h0:=eD h0;congr 1;cases p with
 |mk l n a b=>rw[ev,aK (show l<=0 from h0)];rfl
def EV.d0(h0:decide (p.aJ<=0)=true):Dg p.aF/\p.aF.length<=1073741824:=by have h0:=eD h0;have u:=wD h;have l:=u.1.1.lv;have e:=u.1.1.oX O;have n:=u.1.2.2;rw[e]at n⊢;rw[sw]at n;refine⟨fA _,eZ (O6 n) O⟩
theorem EV.lv(h0:decide (p.aJ<=0)=false):1<=p.aJ/\p.aJ<=4:=by have h0:=fg h0;have l:=(wD h).1.1.lv;omega
theorem EV.at{r:cd}(h0:decide (p.aJ<=0)=false)(hr:x[(p.aJ-1).toNat]?=some r):rQ r=iz x p.aJ:=by unfold iz;rw[hr];rfl
def EV.rx{r:cd}(hr:x[i]?=some r):RP r:=by have a:=(NM (wD h).2).2 r (bF hr);unfold RP;exact⟨a.1,a.2.1,O,O⟩
def EV.tq(h0:decide (p.aJ<=0)=false)(z:Nat):QB (vB 4) (nR x p z):=by
 have u:=wD h;have l:=h.lv h0;obtain⟨n,m,k,q,j,o⟩:=u.1.1.ow O;have b:=u.2.vx;have a:=b;unfold VX at b;unfold nR;refine(JA (b p.aJ l.1 l.2) (V:=vB 3) λc hc=>?_).up ?_
 ·have d:=B3 hc;have i:=(u.1.1.bz d).mono (show p.aJ.toNat-1<=3 by omega);exact Pj a i O (u.1.2.1.bz c d) (nc (by rw[j,oI _ m k];exact v7 d) u.1.2.2)
 ·have f:(p.aG.drop (p.aG.length-z)).length<=13:=by have:=h.len;simp;omega
  have:=jI (vB 3+98) f;have e:vB 4=13*(vB 3+98)+1:=by rw[vB]
  omega
theorem EV.e(h0:decide (p.aJ<=0)=false){z:Nat}(hz:p.aG.length<=z):nR x p z=ev (iz x) p:=by
 have l:=h.lv h0;unfold nR;rw[show p.aG.length-z=0 by omega,rK];cases p with
 |mk b n a d=>rw[ev,g (show¬b<=0 by exact fg h0),g (show¬4<b from λe=>by have:=l.2;exact absurd e (Aa.2 this))];rfl
end
def auJ(x:List cd)(p:J):nR x p 0=0:=by unfold nR;rw[Nat.sub_zero,List.drop_length,cP]
def auK{x:List cd}{p:J}{z:Nat}{c:J}(hz:z<p.aG.length)(hc:p.aG[((p.aG.length:Int)-1-(z:Int)).toNat]?=some c):nR x p z*iz x p.aJ+ev (iz x) c=nR x p (z+1):=by
 have e:((p.aG.length:Int)-1-(z:Int)).toNat=p.aG.length-(z+1):=O;rw[e]at hc;have a:=lp hc;unfold nR;have d:p.aG.drop (p.aG.length-(z+1))=c::p.aG.drop (p.aG.length-z):=by
  rw[mZ a];rw[ca a]at hc;injection hc with hc
  rw[hc];congr 2;omega
 rw[d,cP];grind
def aGE{V W:Nat}(h:i+1<=13)(a:W=13*(V+98)+1):i*(V+98)+1+97<=W:=by have:=jI (V+98) h;rw[jS]at this;omega
def WJ{b:cd}(h:RP a)(d:RP b):ul a b:=by unfold ul;exact⟨h,d⟩
section
variable {p:J}{x:List cd}(h:EV p x)(h0:decide (p.aJ≤0)=false){z:Nat}(hz:decide (0≤(p.aG.length:Int)-1-(z:Int))=true){r:cd}(hr:x[(p.aJ-1).toNat]?=some r)
include h h0 hz hr
def EV.mq:RP (fo (rQ (fo (nR x p z))*rQ r)):=by
 have hz:=eD hz;have u:=wD h;have l:=h.lv h0;obtain⟨n,m,k,s,j,o⟩:=u.1.1.ow O;have a:=u.2.vx;have b:=a;unfold VX at a;rw[GN,h.at h0 hr];have q:QB ((p.aG.drop (p.aG.length-z)).length*(vB 3+98)+1) (nR x p z):=by
  unfold nR;refine JA (a p.aJ l.1 l.2) (V:=vB 3) λc hc=>?_
  have d:=B3 hc;have i:=(u.1.1.bz d).mono (show p.aJ.toNat-1<=3 by omega);exact Pj b i O (u.1.2.1.bz c d) (nc (by rw[j,oI _ m k];exact v7 d) u.1.2.2)
 refine QB.rp ((q.mul (a p.aJ l.1 l.2)).up ?_);have f:(p.aG.drop (p.aG.length-z)).length+1<=13:=by have:=h.len;simp;omega
 exact aGE f (by rw[vB])
theorem EV.m1:ul (fo (nR x p z)) r:=WJ (h.tq h0 z).rp (h.rx hr)
variable {c:J}(hc:p.aG[((p.aG.length:Int)-1-(z:Int)).toNat]?=some c)
include hc
def EV.m2:ul (fo (rQ (fo (nR x p z))*rQ r)) (fo (ev (iz x) c)):=WJ (h.mq h0 hz hr) (h.bz hc).qb.rp
def EV.st:fo (rQ (fo (rQ (fo (nR x p z))*rQ r))+rQ (fo (ev (iz x) c)))=fo (nR x p (z+1)):=by have hz:=eD hz;rw[GN,GN,GN,h.at h0 hr,auK O hc]
end
def EV.me{p:J}{x:List cd}(h:EV p x)(h0:decide (p.aJ<=0)=false){z:Nat}(hz:decide (0<=(p.aG.length:Int)-1-(z:Int))=false):fo (nR x p z)=fo (ev (iz x) p):=by have hz:=fg hz;rw[h.e h0 O]
theorem aGN(p:J)(x:List cd):EV p x->bh 38 [wE .aH p,wL .cU x] (eT .cU (fo (ev (iz x) p))):=by
 generalize b:SizeOf.sizeOf p=D
 induction D using Nat.strongRecOn generalizing p
 rename_i D a;subst b;intro h;refine vF func38 rfl [ZH,asz,asy,asx,qO Vw 38 (.el W.aH) (.ls W.cU) (λ(c:J)(y:List cd)=>c∈p.aG/\EV c x/\y=x) (λ(c:J)(y:List cd)=>eT .cU (fo (ev (iz y) c))) (λc y hc=>by obtain⟨f,e,rfl⟩:=hc;exact a _ (J.lt f) c rfl e)] [(5,⟨Nat,λz=>⟨[(1,lT .cU x),(2,bQ 0),(4,bQ 1),(5,bQ 2),(6,iT ((p.aG.length:Int)-1-(z:Int)))],[(0,dh .aH p),(1,.cells [iG,fv,fv]),(2,.cells ((cQ .cU (fo (nR x p z))).map .d))],3⟩,λz=>z<=p.aG.length/\True,λz=>p.aG.length-z⟩)] ?_;repeat' (first
  |((with_reducible show mt _ _ _ _ _);(conv=>whnf);(fail_if_success with_reducible show mt _ _ _ _ _))
  |intro _|apply aP
  |refine @aX Nat _ 0 (aP ?_ λ(z:Nat)(hz:z<=p.aG.length/\True)=>?_)
  |refine @aX Nat _ (z+1) ?_
  |fail)
 all_goals(try clear a)
 all_goals(try simp only[bm]at*)
 all_goals first|exact aZ|omega|((with_reducible show(_&&_)=true);kernel_rfl)|exact(h.d0 I).1 _ I|rw[auJ];rfl|have Z:=h.lv I;have i:=(NM (wD h).2).1;omega|exact h.m1 I I I|exact h.m2 I I ‹x[_]?=_› I|exact aY cd.neg (h.st I I ‹x[_]?=_› I)|exact aY cd.num (h.st I I ‹x[_]?=_› I)|exact aY cd.den (h.st I I ‹x[_]?=_› I)|exact aY cd.neg (h.me I I)|exact aY cd.num (h.me I I)|exact aY cd.den (h.me I I)|exact bF ‹p.aG[_]?=_›|exact h.bz I|have Z:=eD ‹decide (0<=(p.aG.length:Int)-1-(z:Int))=true›;have i:=h.len;omega|with_reducible exact(h.d0 I).2|exact aY cd.neg (h.c0 I)|exact aY cd.num (h.c0 I)|exact aY cd.den (h.c0 I)
end Go.Proofs.YtfbmhjooliccnaaGreatDoor
namespace Go.Proofs.YtfbmhjooliccnaaGreatDoor
open Go Go.Ab Go.Proofs.Tryz
open Go.Ab.VS
variable {Z:Int→Rat}{i:Nat}{m:F}{x:List cd}{r:cd}
@[irreducible] def AX(m:F)(x:List cd):Prop:=RM (λp=>EV p x) m/\bc m<=1000000/\XL x
def MH{m:F}{x:List cd}(h:AX m x):=(AX.eq_1 ..).to_iff.1 h
theorem aiz{c:F}:∀{l:zF0},c∈l->bc c<=cy l
 |a::r,h=>by
  rw[eE];rcases dC.1 h with rfl|h
  ·omega
  ·have:=aiz h;omega
section
variable {m:F}{x:List cd}(h:AX m x)
include h
def AX.bz(d:m.aM=3\/m.aM=4){i:Nat}{c:F}(hc:m.aO[i]?=some c):AX c x:=by
 have u:=MH h;have b:=bF hc;have e:=aiz b;have f:=kM m;unfold AX;refine⟨?_,O,u.2.2⟩;cases u.1 with
 |mk k r p j l a=>exact a d c b
def AX.pv(a:(m.aM==2)=true):EV m.aH x:=by
 have a:m.aM=2:=an a;cases(MH h).1 with
 |mk k r p e b d=>exact b a
def AX.len:m.aO.length<=1000000:=by have b:=rr m.aO;have a:=kM m;have:=(MH h).2.1;omega
end
@[irreducible] def vc(ρ:az)(m:F)(i:Nat):Prop:=i<=m.aO.length/\(m.aM=3\/m.aM=4)/\tr ρ m=(if m.aM=3 then fR ρ (m.aO.drop i)else gA ρ (m.aO.drop i))
def D4{ρ:az}{m:F}{i:Nat}(h:vc ρ m i):=(vc.eq_1 ..).to_iff.1 h
def UU{ρ:az}{m:F}(h:(m.aM==3)=true\/(m.aM==4)=true):vc ρ m 0:=by have h:m.aM=3\/m.aM=4:=an h;unfold vc;refine⟨dD _,h,?_⟩;rw[xZ,rK,g O,g O];rcases h with h|h<;>simp[h]
section
variable {ρ:Int→Rat}{m:F}{i:Nat}(h:vc ρ m i){c:F}(hc:m.aO[((i:Nat):Int).toNat]?=some c)
include h hc
theorem UW:m.aO.drop i=c::m.aO.drop (i+1)/\i<m.aO.length:=by rw[bI]at hc;have a:=lp hc;refine⟨?_,a⟩;rw[mZ a];rw[ca a]at hc;injection hc with hc;rw[hc]
def ajS(a:(tr ρ c !=(m.aM==3))=false):vc ρ m (i+1):=by
 have u:=D4 h;have d:=UW h hc;have a:tr ρ c=(m.aM==3):=an a;unfold vc;refine⟨d.2,u.2.1,?_⟩;rw[u.2.2,d.1];rcases u.2.1 with e|e
 ·rw[aK e,aK e,fR,a,e];rfl
 ·rw[g O,g O,gA,a,e];rfl
def ajT(a:(tr ρ c !=(m.aM==3))=true):(m.aM==4)=tr ρ m:=by
 have u:=D4 h;have d:=UW h hc;rw[u.2.2,d.1];rcases u.2.1 with e|e
 ·have a:tr ρ c=false:=by rw[e]at a;simpa using a
  rw[aK e,fR,a,e];rfl
 ·have a:tr ρ c=true:=by rw[e]at a;simpa using a
  rw[g O,gA,a,e];rfl
end
def ajR{ρ:az}{m:F}{i:Nat}(h:vc ρ m i)(a:decide ((i:Int)<m.aO.length)=false):(m.aM==3)=tr ρ m:=by
 have u:=D4 h;have a:=fg a;rw[u.2.2,pR O];rcases u.2.1 with e|e
 ·rw[aK e,fR,e];rfl
 ·rw[g O,gA,e];rfl
def aoD{ρ:az}{m:F}(h:(m.aM==1)=true):tr ρ m=true:=by rw[xZ,aK (an h)]
def aEt(q:Rat):(if rQ (fo q)<0 then(-1:Int)else if 0<rQ (fo q)then 1 else 0)=cJ q:=by
 rw[GN];unfold cJ;by_cases b:0<q
 ·rw[g (show¬q<0 by grind)]
 ·by_cases a:q<0
  ·simp only[aK a,g b]
  ·simp only[g a,g b]
def aoE{ρ:az}{m:F}(a:(m.aM==1)=false)(h:(m.aM==2)=true):rH m.bW (if rQ (fo (ev ρ m.aH))<0 then(-1:Int)else if 0<rQ (fo (ev ρ m.aH))then 1 else 0)=tr ρ m:=by have b:¬m.aM=1:=an a;have d:m.aM=2:=an h;rw[aEt,xZ,g b,aK d]
def aoC{ρ:az}{m:F}(a:(m.aM==1)=false)(b:(m.aM==2)=false)(d:(m.aM==3)=false)(e:(m.aM==4)=false):tr ρ m=false:=by rw[xZ,g (an a),g (an b),g (an d),g (an e)]
theorem AX.rp{m:F}{x:List cd}(h:AX m x)(a:(m.aM==2)=true):RP (fo (ev (iz x) m.aH)):=(h.pv a).qb.rp
def py(r:cd):Bool:=decide (r.num.length<=3)&&decide (r.den.length<=3)
def avD{x:List cd}{i:Nat}(h:(x.take i).all py=true)(a:x[(i:Int).toNat]?=some r)(Y:(!py r)=false):(x.take (i+1)).all py=true:=by rw[bI]at a;rw[h_,a,List.all_append,h];simpa using Y
def avC{x:List cd}{i:Nat}(a:x[i]?=some r)(Y:(!py r)=true):x.all py=false:=by rw[List.all_eq_false];exact⟨r,bF a,by simpa using Y⟩
def avB{x:List cd}{i:Nat}(h:(x.take i).all py=true)(a:decide ((i:Int)<x.length)=false):x.all py=true:=by have a:=fg a;rwa [eQ O]at h
theorem aot(m:F)(x:List cd):AX m x->bh 14 [wE .aQ m,wL .cU x] (bT (tr (iz x) m)):=by
 generalize d:SizeOf.sizeOf m=D
 induction D using Nat.strongRecOn generalizing m
 rename_i D b;subst d;intro h;refine vF func14 rfl [qO Vw 38 (.el W.aH) (.ls W.cU) (λ(p:J)(y:List cd)=>EV p y) (λ(p:J)(y:List cd)=>eT .cU (fo (ev (iz y) p))) (λp y h=>aGN p y h),asA,ase,qO Vw 14 (.el W.aQ) (.ls W.cU) (λ(c:F)(y:List cd)=>c∈m.aO/\AX c x/\y=x) (λ(c:F)(y:List cd)=>bT (tr (iz y) c)) (λc y hc=>by obtain⟨f,e,rfl⟩:=hc;exact b _ (F.lt f) c rfl e)] [(9,⟨Nat,λi=>⟨[(1,lT .cU x),(2,bQ 0),(24,lT .aQ m.aO),(25,iT m.aO.length),(26,iT i)],[(0,dh .aQ m)],1⟩,λi=>vc (iz x) m i/\True,λi=>m.aO.length-i⟩)] ?_;repeat' (first
  |((with_reducible show mt _ _ _ _ _);(conv=>whnf);(fail_if_success with_reducible show mt _ _ _ _ _))
  |intro _|apply aP
  |refine @aX Nat _ 0 (aP ?_ λ(i:Nat) (a:vc (iz x) m i/\True)=>?_)
  |refine @aX Nat _ (i+1) ?_
  |fail)
 all_goals(try clear b)
 all_goals(try simp only[bm,e_]at*)
 all_goals first|omega|((with_reducible show(_&&_)=true);kernel_rfl)|rw[aoD I];done|exact h.pv I|exact h.rp I|exact aoE I I|exact UU (.inl I)|exact UU (.inr I)|exact bF I|exact h.bz (D4 a.1).2.1 I|exact ajT a.1 I I|exact ajS a.1 I I|exact ajR a.1 I|rw[aoC I I I I];done|have Z:=h.len;have j:=(D4 a.1).1;simp only[be]at*;omega|exfalso;simp_all;done
theorem au3(y:List cd)(h:y.length<=8):bh 10 [wL .cU y] (bT (y.all py)):=by
 refine vF func10 rfl [asJ] [(2,⟨Nat,λi=>⟨[(0,lT .cU y),(4,lT .cU y),(5,iT y.length),(6,iT i)],[],0⟩,λi=>(i<=y.length/\(y.take i).all py=true)/\True,λi=>y.length-i⟩)] ?_;repeat' first|intro _|apply aP|refine aX 0 (aP ?_ λ(x:Nat) (a:(x<=y.length/\(y.take x).all py=true)/\True)=>?_)|refine aX (x+1) ?_
 all_goals first|exact aZ|with_reducible rfl|omega|exact avD a.1.2 I I|rw[avC I I];done|rw[avB a.1.2 I];done|exfalso;simp only[Bool.not_false,be]at*;omega|show y.length-(x+1)<y.length-x;simp only[be]at*;omega|simp only[be,bj,jw,lN,jC]at*;omega|rfl
end Go.Proofs.YtfbmhjooliccnaaGreatDoor
namespace Go.Proofs.YtfbmhjooliccnaaGreatDoor
open Go Go.Ab Go.Proofs.Tryz
variable {l u:av}{y:List cd}{d:Nat}{a:List D}{Z:World}{n:Int}
def atD:fh prog 10:=fH func10 af rfl
def atP:fh prog 14:=fH func14 af rfl
def aeM(l:List cd):(SE.c (U:=S) (.aW 0 W.cU l.length)).den.cL 0 (bx (U:=S) W.cU l)=(wL .cU l).den:=
 aY E.c (Be Vw (φ:=True) (show v_ (U:=S) 0 W.cU l (.aW 0 W.cU l.length) True from⟨rfl,trivial⟩)).2.symm
def au6(x:List cd)(h:x.length<=8)(aS:aq):cN prog 10 (bJ (bP [(0,.aU (U:=S) W.cU x)])) ([SE.c (U:=S) (.aW 0 W.cU x.length)].map SE.den) (bJ (bP [(0,.aU (U:=S) W.cU x)])) aS (bT (x.all py)).den:=by have Z:li prog 10 [(wL .cU x).den] _:=au3 x h;rw[<-aeM]at Z;exact cN.Ye (s:=0) (ds:=bx (U:=S) W.cU x) (args:=[SE.c (U:=S) (.aW 0 W.cU x.length)].map SE.den) (y:=.bool (x.all py)) Z
def aoO(m:F)(x:List cd)(h:AX m x)(aS:aq):cN prog 14 (bJ (bP [(0,.aU (U:=S) W.cU x)])) ([wE .aQ m,SE.c (U:=S) (.aW 0 W.cU x.length)].map SE.den) (bJ (bP [(0,.aU (U:=S) W.cU x)])) aS (bT (tr (iz x) m)).den:=by have Z:li prog 14 [(wE .aQ m).den,(wL .cU x).den] _:=aot m x h;rw[<-aeM]at Z;exact cN.Ye (s:=0) (ds:=bx (U:=S) W.cU x) (args:=[wE .aQ m,SE.c (U:=S) (.aW 0 W.cU x.length)].map SE.den) (y:=.bool (tr (iz x) m)) Z
def agR(H:List (Nat×aV S))(args:zS0)(K:f_ S->Prop):Prop:=
 match H,args with
 |[(0,.aU W.cU x)],[.c (.aW 0 W.cU n)]=>(n=x.length/\x.length<=8)/\K ⟨bT (x.all py),[(0,.aU W.cU x)],[],[]⟩
 |_,_=>False
def aAy:fk prog S where
 f:=10
 fX:=atD
 run:=agR
 ok H args K h:=by
  unfold agR at h;split at h
  ·obtain⟨⟨rfl,h1⟩,b⟩:=h;refine⟨_,au6 _ h1 _,λu a c=>?_,b⟩;have d:u<1:=a;obtain rfl:u=0:=O;rfl
  ·cases h
def agD(H:List (Nat×aV S))(args:zS0)(K:f_ S->Prop):Prop:=
 match H,args with
 |[(0,.aU W.cU x)],[.agg [.d (.sc (.int .i64 k)),.d (.sc (.int .i64 r)),.d (.sc (.int .i64 a)),.d (.b8 b),.d (.bf W.u32 c),.d (.bf W.aH d),.d (.bf W.aQ q)],.c (.aW 0 W.cU n)]=>(n=x.length/\AX (.mk k r (.mk a b c d) q) x)/\K ⟨bT (tr (iz x) (.mk k r (.mk a b c d) q)),[(0,.aU W.cU x)],[],[]⟩
 |_,_=>False
def aAp:fk prog S where
 f:=14
 fX:=atP
 run:=agD
 ok H args K h:=by
  unfold agD at h;split at h
  ·obtain⟨⟨rfl,h1⟩,b⟩:=h;refine⟨_,?_,λu a c=>?_,b⟩
   ·exact aoO _ _ h1 _
   have d:u<1:=a;obtain rfl:u=0:=O;rfl
  ·cases h
@[irreducible] def YL(y:List cd):=y.length=4/\∀r∈y,Dg r.num/\Dg r.den
def WV{y:List cd}(h:YL y):=(YL.eq_1 ..).to_iff.1 h
theorem YL.xl{y:List cd}(h:YL y)(Y:y.all py=true):XL y:=by have u:=WV h;rw[eM]at Y;unfold XL;refine⟨u.1,λr b=>?_⟩;have a:=Y r b;unfold py at a;rw[dB,be,be]at a;exact⟨(u.2 r b).1,(u.2 r b).2,a.1,a.2⟩
def Sz.AF{k:Nat}{p:J}(h:Sz d k p)(hd:d<=12)(b:k<=60000){y:List cd}(hy:XL y):EV p y:=by have a:=h.up hd b;unfold EV;exact⟨⟨a.bw,a.dl,a.nm⟩,hy⟩
def azK{y:List cd}(hy:XL y):∀{m:F},RM RQ m->RM (λp=>EV p y) (cG m)/\bc (cG m)<=bc m:=by
 intro m h
 induction h with
 |mk k r p i u v s=>
  have one:∀x:Int,RM (λp=>EV p y) (.mk x 0 zP [])/\bc (.mk x 0 zP [])<=bc (.mk k r p i):=λx=>⟨.mk _ _ _ _ (λ_=>(Sz.zero 2 140).AF O O hy) (λ_ c f=>by simp at f),by rw[bc,gV,bc];omega⟩
  have e:cG (.mk k r p i)=(if k=1 then .mk 1 0 zP []else if k=2 then .mk 2 (jM r) (dG p) []else if k=3\/k=4 then .mk k 0 zP (i.map cG)else .mk 0 0 zP []):=Gt _;rw[e];by_cases h1:k=1
  ·rw[aK h1];exact one 1
  ·rw[g h1];by_cases j:k=2
   ·rw[aK j];exact⟨.mk _ _ _ _ (λ_=>(RQ.n p (u j)).2.AF O O hy) (λ_ c f=>by simp at f),by rw[bc,gV,bc];omega⟩
   ·rw[g j];by_cases n:k=3\/k=4
    ·rw[aK n];have o:∀l:List F,(∀c∈l,RM (λp=>EV p y) (cG c)/\bc (cG c)<=bc c)->cy (l.map cG)<=cy l:=by
      intro l
      induction l with
      |nil=>intro _;rw[gL];exact bu _
      |cons c r q=>
       intro t;have a:=(t c (bZ ..)).2;have b:=q λd hd=>t d (cE _ hd)
       rw[dc,eE,eE];omega
     refine⟨.mk _ _ _ _ (λe=>absurd e j) λ_ c f=>?_,?_⟩
     ·obtain⟨d,hd,rfl⟩:=cj.1 f;exact(s n d hd).1
     ·have:=o i λc f=>s n c f
      rw[bc,bc];exact Nat.add_le_add_left this 1
    ·rw[g n];exact one 0
section
variable {m:F}(hd:mz m)(Y:(!rj m 8 2)=false){y:List cd}(hy:YL y)(hf:(!y.all py)=false){k:Int}(h1:1≤k)(h4:k≤4)
include hd Y
theorem Gh:rj m 8 2=true:=an Y
include h1 h4 in
theorem axG:XR m k:=D0 hd (Gh hd Y) h1 h4
theorem axE:iF m:=(rZ (D0 hd (Gh hd Y) (k:=1) O O)).2.2.1
include hy hf
theorem Kq:XL y:=hy.xl (an hf)
theorem axF:AX (cG m) y:=by have u:=rZ (D0 hd (Gh hd Y) (k:=1) O O);have Z:=azK (Kq hd Y hy hf) u.1;unfold AX;exact⟨Z.1,O,Kq hd Y hy hf⟩
include h1 h4
theorem adh:AX (qv c9 m k) y/\(tr (iz y) (cG m)=true->tr (iz y) (qv c9 m k)=true):=by have u:=rZ (D0 hd (Gh hd Y) h1 h4);obtain⟨v,rfl⟩:∃v:Nat,k=v:=⟨k.toNat,O⟩;have e:=auU (κ:=c9) (lv:=v) O O (Gc O) u.1 u.2.1;have x:=Kq hd Y hy hf;unfold AX;exact⟨⟨e.1.rm.imp λp a=>Sz.AF a O O x,O,x⟩,e.2.2 _⟩
theorem adg:AX (wx c9 m k) y/\(tr (iz y) (wx c9 m k)=true->tr (iz y) (cG m)=true):=by have b:=D0 hd (Gh hd Y) h1 h4;have u:=rZ b;have e:=FH (f:=bc (bS (dy m))) b.AM;have s:=(jv b.AM).2.1;obtain⟨d1,d2,d3⟩:=zk QO.rn e.1.rm;obtain⟨j,i,d⟩:=sy QO.rq d1.rm;have x:=Kq hd Y hy hf;obtain⟨v,rfl⟩:∃v:Nat,k=v:=⟨k.toNat,O⟩;have a:=anY (κ:=c9) (lv:=v) O O (Gc O) u.1 u.2.1;have h:bc (wx c9 m (v:Int))<=bc (dy (iv (v:Int) (bc (bS (dy m))) (bS (dy m)))):=d;unfold AX;exact⟨⟨a.1.rm.imp λp c=>Sz.AF c O O x,O,x⟩,a.2 _⟩
theorem axC(b:(!tr (iz y) (cG m))=false)(a:tr (iz y) (qv c9 m k)=!true):False:=by have Z:=(adh hd Y hy hf h1 h4).2 (an b);rw[a]at Z;cases Z
theorem axD(a:(!tr (iz y) (wx c9 m k))=false):tr (iz y) (cG m)=true:=(adg hd Y hy hf h1 h4).2 (an a)
end
def uK(a:0<=n/\n<256):1<=1+IntKind.i64.wrap (n.tmod 4)/\1+IntKind.i64.wrap (n.tmod 4)<=4:=by have e:n.tmod 4=n%4:=wJ a.1;rw[e,IntWalk.i64_in _ O];omega
def Xy(a b c d:cd):SE S:=.agg ((cQ .cU a++(cQ .cU b++(cQ .cU c++cQ .cU d))).map .d)
theorem axf(m:F)(n:Int)(a b c d:cd)(hd:mz m)(f:0<=n/\n<256)(h:YL [a,b,c,d]):bh 3 [wE .aQ m,SE.c (U:=S) (.d (.sc (.int .u8 n))),Xy a b c d] (bT true):=by
 refine vG func3 rfl ⟨[arY,asL,Zl,Zn,ZF],[aAy,aAp]⟩ [(4000001,⟨List cd,λy=>⟨[(1,.e (.c (.d (.sc (.int .u8 n))))),(3,bQ 0),(5,bQ 1)],[(0,dh .aQ m),(1,.aU (U:=S) W.cU y)],2⟩,λy=>YL y/\True,λ_=>0⟩)] ?_;repeat' (first
  |exact(Dh ‹((0:Int) !=0)=true›).elim
  |((with_reducible show mt _ _ _ _ _);(conv=>whnf);(fail_if_success with_reducible show mt _ _ _ _ _))
  |intro _|apply aP
  |refine @aX (List cd->Prop) _ (λ_=>True) (@aX (List cd) _ [a,b,c,d] (aP ?_ λ(y:List cd) (hy:YL y/\True) _=>?_))
  |fail)
 all_goals(try simp only[bm,e_]at*)
 all_goals first|omega|((with_reducible show(_&&_)=true);kernel_rfl)|simpa using‹(!tr (iz y) (cG m))=false›|exfalso;exact axC hd I hy.1 I (uK f).1 (uK f).2 I I|exact axD hd I hy.1 I (uK f).1 (uK f).2 I|have Z:=uK f;omega|exact axG hd I (uK f).1 (uK f).2|exact axE hd I|exact axF hd I hy.1 I|exact(adh hd I hy.1 I (uK f).1 (uK f).2).1|exact(adg hd I hy.1 I (uK f).1 (uK f).2).1|have Z:=(WV hy.1).1;omega
section
variable {H:Type}{dt:TypeId×Value→H}{w:World}{base:Nat}{sp:Nat→Bool}{held:Bool}
def Ym:Tryz.prog.cellsOf 34=3:=af
def c35:Tryz.prog.cellsOf 35=12:=af
def axl(h:l.length=3):∃a b c,l=[a,b,c]:=by
 match l,h with
 |[a,b,c],_=>exact⟨a,b,c,rfl⟩
def aCO{a:Nat}{cs:av}{d:DataW H}{ps:List MemPlace}(h:DataW.trod dt prog w base sp held a 34 cs=some (d,ps)):∃x:cd,(Dg x.num/\Dg x.den)/\fm w (kR x) cs:=by obtain⟨f,rfl⟩:=x_ h;obtain⟨c,d0,r,e⟩:=uG (i:=0) (off:=0) (ft:=26) h af;obtain⟨_,d1,s,j⟩:=uG (i:=1) (off:=2) (ft:=24) h af;rw[Ym]at c;rw[Of]at e;rw[Yl]at j;obtain⟨m,n,o,rfl⟩:=axl c;obtain⟨x,p,k⟩:=ab4 (cs:=[m,n]) e;obtain⟨l,q,b⟩:=Z4 (v:=o) j;exact⟨⟨x.neg,x.aF,l⟩,⟨p,q⟩,fm.cons (k.2 0 _ _ rfl rfl) (fm.cons (k.2 1 _ _ rfl rfl) (fm.cons b fm.nil))⟩
def fm.uo{b:List D}(h:fm w a u)(k:fm w b l):fm w (a++b) (u++l):=by
 refine⟨by rw[c_,c_,h.1,k.1],λi x y c d=>?_⟩;by_cases e:i<a.length
 ·rw[Ej e]at c;rw[Ej (by rw[<-h.1];exact e)]at d;exact h.2 i x y c d
 ·rw[yq O]at c;rw[yq (by rw[<-h.1];omega),<-h.1]at d;exact k.2 _ x y c d
def aos{f:Nat}{cs:av}{d:DataW H}{ps:List MemPlace}(h:DataW.trod dt prog w base sp held f 35 cs=some (d,ps)):∃a b c e:cd,(∀r∈[a,b,c,e],Dg r.num/\Dg r.den)/\fm w (kR a++(kR b++(kR c++kR e))) cs:=by
 obtain⟨j,m,_,_,t,M,k⟩:=DataW.trod_array (show Tryz.prog.underlying 35=some (.array 4 34)by kernel_rfl) h;rw[c35]at t;have get:∀i,i<4->∃x:cd,(Dg x.num/\Dg x.den)/\fm w (kR x) ((cs.drop (i*3)).take 3):=λi v=>by have:=k i v;rw[Ym,ca (by omega:i<j.length)]at this;exact aCO (d:=j[i].1) (ps:=j[i].2) this
 obtain⟨a,N,l⟩:=get 0 O;obtain⟨b,P,n⟩:=get 1 O;obtain⟨c,Q,o⟩:=get 2 O;obtain⟨e,R,p⟩:=get 3 O;refine⟨a,b,c,e,λr u=>?_,?_⟩
 ·simp only[dC,List.not_mem_nil,or_false]at u;rcases u with rfl|rfl|rfl|rfl<;>assumption
 ·match cs,t with
  |[y,z,A,B,C,D,E,G,K,L,q,s],_=>have l:fm w (kR a) [y,z,A]:=l;have n:fm w (kR b) [B,C,D]:=n;have o:fm w (kR c) [E,G,K]:=o;have p:fm w (kR e) [L,q,s]:=p;exact l.uo (n.uo (o.uo p))
end
def as_(p:F):(wE .aQ p).den=.agg ((nM p).map .d):=by show E.agg (((cQ .aQ p).map _).map _)=_;rw[show nM p=(cQ .aQ p).map SD.den from(C_ .aQ p).symm,ir,ir];rfl
def as9(a b c d:cd):(Xy a b c d).den=.agg ((kR a++(kR b++(kR c++kR d))).map .d):=by show E.agg (((cQ .cU a++(cQ .cU b++(cQ .cU c++cQ .cU d))).map _).map _)=_;rw[show kR a=(cQ .cU a).map SD.den from(C_ .cU a).symm,show kR b=(cQ .cU b).map SD.den from(C_ .cU b).symm,show kR c=(cQ .cU c).map SD.den from(C_ .cU c).symm,show kR d=(cQ .cU d).map SD.den from(C_ .cU d).symm,<-gB,<-gB,<-gB,ir,ir];rfl
def fm.es(h:fm Z a l):eP Z (λ_=>False) iw (.agg (a.map .d)) (.agg l.toArray):=by refine⟨l,rfl,by simpa using h.1,λj y v c e=>?_⟩;rw[dU,gM]at c;obtain⟨y0,b,rfl⟩:=c;exact h.2 j y0 v b e
def aHj{m:F}{a b c d:cd}(z:mz m)(A:0<=n/\n<256)(k:∀r∈[a,b,c,d],Dg r.num/\Dg r.den)(B:fm Z (nM m) l)(C:fm Z (kR a++(kR b++(kR c++kR d))) u)(y:1<Z.heap.size/\Sj Z.heap[1]?):
 Calls prog 3 #[.agg l.toArray,.int .u8 n,.agg u.toArray] Z λe W'=>e=.returned (.bool true)/\fL q_ Z W':=by
 have D:YL [a,b,c,d]:=by unfold YL;exact⟨rfl,k⟩
 have:=(axf m n a b c d z A D).2 (λ_=>False) iw Z [.agg l.toArray,.int .u8 n,.agg u.toArray] ⟨λb h=>h.elim,(λs t b h=>by cases h),(λs b h=>by cases h),(λ_ _=>rfl),(λs l h=>by cases h),⟨⟨y.1,λh=>h,λs h=>by cases h⟩,y.2⟩⟩ ⟨rfl,λi x f k j=>by
  match i,k,j with
  |0,k,j=>simp only[dc,gL,jH,cY]at k j;subst k;subst j;rw[as_];exact B.es
  |1,k,j=>simp only[dc,gL,yr,jH,cY]at k j;subst k;subst j;exact dE.sc _ rfl
  |2,k,j=>simp only[dc,gL,yr,jH,cY]at k j;subst k;subst j;rw[as9];exact C.es
  |i+3,k,j=>simp at k⟩
 refine this.mono λe W' E=>?_
 obtain⟨v,p,rfl,_,G,o,_⟩:=E;have q:b6 W' (λ_=>False) p (.e (.c (.d (.sc (.bool true))))) v:=G;refine⟨by rw[gK q],⟨o.os,o.tape,o.output,o.drawn,o.size,λb K _=>o.same b K (λ⟨s,h⟩=>by cases h),o.iK⟩⟩
end Go.Proofs.YtfbmhjooliccnaaGreatDoor
namespace Go.Proofs.YtfbmhjooliccnaaGreatDoor
open Go Go.Proofs.Tryz
def aob{a b:Bool}(h:a=true)(c:b=true):(a&&b)=true:=by rw[h,c];rfl
def aqU:joinedFacts prog 3 Tryz.f3 Rows.virtualWitnessSpec Rows.virtualWitnessRow=true:=by
 unfold joinedFacts;repeat' (with_reducible apply aob)
 all_goals as_aux_lemma=>kernel_rfl
def adP:Tryz.prog.funcNamed Rows.virtualWitnessRow.func=some 3:=af
end Go.Proofs.YtfbmhjooliccnaaGreatDoor
namespace Go.Proofs.YtfbmhjooliccnaaGreatDoor
open Go Go.ChangeShapes Go.WideShapes Go.ChangeAt Go.WideMaps Go.WideElems Go.RowKit Go.Ab Go.Proofs.Tryz
def aBd:ownKnob Tryz.prog.godebug=Option.none:=af
def atn(a:Os)(args:Array Value):laidMetH prog Rows.virtualWitnessRow.laid ((World.doorLaid prog 24 a).forCall (λ_ _=>0) ⟨#[],args,[]⟩).memory:=
 laidMetH_of_parts3 (fuel:=8) (laidMet_of_run' 8 af af) af af
def Qx:laidOutB prog=true:=af
def aHF:Value:=.agg #[.int .i64 0,.int .i64 0,.int .i64 0,.bool false,.slice Option.none 0 0,.slice Option.none 0 0,.slice Option.none 0 0]
def aHK:Value:=.agg #[.bool false,.slice Option.none 0 0,.slice Option.none 0 0,.bool false,.slice Option.none 0 0,.slice Option.none 0 0,.bool false,.slice Option.none 0 0,.slice Option.none 0 0,.bool false,.slice Option.none 0 0,.slice Option.none 0 0]
def axu(os:Os)(started:os.Started)(H:Type)(dt:TypeId×Value->H):
 ReturnsInHanded {} Tryz.checked os 3 .any (λw args=>(Rows.virtualWitnessSpec.pre dt prog Tryz.f3 [] false w args/\laidMetH prog Rows.virtualWitnessRow.laid w)/\sizedMet dt prog Tryz.f3 (OpenSpec.ofChange Rows.virtualWitnessSpec) false w args)
  (Rows.virtualWitnessSpec.post dt prog Tryz.f3 false true false false):=by
 refine returnsInHanded_of_change_and (C:=Tryz.checked) (X:=λw _=>laidMetH prog Rows.virtualWitnessRow.laid w) (λ_ _ _ hh h=>h.of_heap hh) aBd started af func3
  (ChangeSpec.witness_shaped (enc:=dt) (C:=Tryz.checked) (os:=os) (X:=λw _=>laidMetH prog Rows.virtualWitnessRow.laid w) false (World.doorLaid prog 24 os) #[aHF,.int .u8 0,aHK] 8 rfl (World.shaped_of_RefB af af) af af af (atn os _)) ?_
 intro Z base args ds gs before l T hX1 hX2 hL hX3;have z:=T;obtain⟨p,q,G,hV,rfl,hfz,hnd⟩:=T;have U:DataW.TrodAll dt prog Z 0 (λ_=>true) true Tryz.f3.params.toList args.toList ds p:=G;rw[Tryz.params3]at U;obtain⟨v,v',v'',d,d',K,N,M,L,rfl,rfl,rfl,hd,E,u⟩:=trodAll_three U;obtain⟨rfl,rfl⟩:=trodVars_none hV;have f:=z.lt;obtain⟨V,t⟩:=hd;obtain⟨B,j⟩:=E;obtain⟨A,i⟩:=u;obtain⟨x,hx,R⟩:=ax0 V t;obtain⟨a,b,c,e,hq,Q⟩:=aos i;obtain⟨n,rfl,_,_,_⟩:=open_int (show Tryz.prog.underlying 5=some (.int .u8)by kernel_rfl) (l 1 5 v' (by rw[Tryz.params3];rfl) rfl) ⟨B,j⟩;have hn:0<=n/\n<256:=by
  obtain⟨n',e,hw⟩:=F3 (show Tryz.prog.underlying 5=some (.int .u8)by kernel_rfl) j;have e2:n=n':=by simpa[Value.cells]using e
  subst e2;simp[Lit.wf,IntKind.min,IntKind.max,IntKind.bits,IntKind.signed]at hw;omega
 have P:v=.agg v.cells.toList.toArray:=by have:=R.1;cases v<;>first|rfl|simp[Value.cells,r_]at this
 have r:v''=.agg v''.cells.toList.toArray:=by have:=Q.1;cases v''<;>first|rfl|simp[Value.cells,kR]at this
 rw[P,r];refine(aHj (n:=n) hx hn hq R Q (aFX hL)).mono λe W' ⟨he,s⟩=>?_
 subst he;have D:Below Z.heap.size Z W':=⟨s.os,s.tape,s.output,s.size,λk f=>s.same k f (λh=>h)⟩;rw[<-P,<-r];refine⟨_,rfl,[d,d',K],[],(N++M++L)++[],[],N++M++L,[],z,trodAll_mk1 (shut_bool Tryz.underlying4 _),?_,rfl,D.frame _,λh=>by cases h⟩;rw[Tryz.params3];have m:=trodAll_mk3 (Below.trod Qx af (eD af) ⟨V,t⟩ D (λy o=>f y (by simp[o]))) (Below.trod Qx af (eD af) ⟨B,j⟩ D (λy o=>f y (by simp[o]))) (Below.trod Qx af (eD af) ⟨A,i⟩ D (λy o=>f y (by simp[o])));rw[<-gh]at m;exact m
def aHk:Rows.VirtualWitnessSaid:=
 OpenClaim.holds_of_wide 3 Tryz.f3 rfl rfl rfl rfl rfl rfl rfl ⟨rfl,rfl,rfl,rfl,rfl⟩ rfl rfl rfl rfl rfl adP func3 aqU
  (eD af) (by unfold Func.isWrapper;first|rw[aK (by decide+kernel)];kernel_rfl|rw[g (by decide+kernel)];exact⟨rfl,rfl⟩)
  (λa started H dt _=>axu a started H dt)
