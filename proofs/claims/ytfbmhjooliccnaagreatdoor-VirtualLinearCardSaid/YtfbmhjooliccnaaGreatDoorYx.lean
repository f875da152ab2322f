/- A part of the proof of VirtualLinear: Kt1 to Kt2. No condition. -/
import Derived.Test.YtfbmhjooliccnaaGreatDoorYu
set_option linter.all false
set_option maxRecDepth 100000
set_option maxHeartbeats 60000000
noncomputable section
namespace Go.Proofs.YtfbmhjooliccnaaGreatDoor
open Go Go.Ab Go.Proofs.Tryz
variable {r:Int}{x:Nat}{s:PS}{t:bw}{m:F}{X:List ByteArray}{k:az}{l:List bw}
def AE(t:bw):bw.mk t.aJ t.a t.b t.c t.d t.g=t:=rfl
def lb(a:List ByteArray):List (Value×Value):=a.map λk=>(.string k,.bool true)
def ax3(a:List ByteArray):pF Rr.kf (lb a)=true:=by unfold pF lb;rw[eW];intro p b;obtain⟨k,_,rfl⟩:=b_.1 b;rfl
def ax1(a:List ByteArray):((lb a).all λp=>OQ p.2)=true:=by unfold lb;rw[eW];intro p b;obtain⟨k,_,rfl⟩:=b_.1 b;rfl
def aGy(a b:az):ny (.string a) (.string b)=(b.toList==a.toList):=by show(a.data.toList==b.data.toList)=_;rw[ByteArray.toList_eq,ByteArray.toList_eq];exact oV.2 ⟨λh=>by simpa using(by simpa using h:a.data.toList=b.data.toList).symm,λh=>by simpa using(by simpa using h:b.data.toList=a.data.toList).symm⟩
theorem KA(k:az):∀(c:List ByteArray)(i:Nat),(jX k c=true->∃j,g_ (.string k) (lb c) i=some (j,.bool true))/\(jX k c=false->g_ (.string k) (lb c) i=none)
 |[],i=>⟨λh=>(by cases h),λ_=>rfl⟩
 |a::r,i=>by
  have d:=KA k r (i+1);have e:jX k (a::r)=(ny (.string k) (.string a)||jX k r):=by rw[aGy];rfl
  have f:g_ (.string k) (lb (a::r)) i=(match ny (.string k) (.string a)with|true=>some (i,.bool true)|false=>g_ (.string k) (lb r) (i+1)):=rfl;rw[e,f];generalize ny (.string k) (.string a)=b;cases b with
  |true=>exact⟨λ_=>⟨i,rfl⟩,λh=>(by cases h)⟩
  |false=>exact⟨λh=>d.1 h,λh=>d.2 h⟩
def QV{b:Bool}(h:(jz (.bool false) (.string k) (lb X)).1=.bool b):jX k X=b:=by
 unfold jz at h;cases e:jX k X with
 |true=>obtain⟨j,a⟩:=(KA k X 0).1 e;rw[a]at h;injection h
 |false=>rw[(KA k X 0).2 e]at h;injection h
def ax2(h:jX k X=false):tw (.string k) (.bool true) (lb X)=lb (X++[k]):=by unfold tw;rw[(KA k X 0).2 h];unfold lb;rw[ia];rfl
@[irreducible] def mg(r:Int)(l:List bw)(s:PS)(x:Nat):PS:=p_ cR r (l.take x) s
theorem W4(b:bw->ByteArray)(r:Int)(t:bw):∀(l:List bw)(s:PS),p_ b r (l++[t]) s=p9 b (jY r t) (p_ b r l s)
 |[],s=>rfl
 |a::l,s=>by rw[eB,p_,p_,W4 b r t l]
def Tc(r:Int)(l:List bw)(s:PS):mg r l s 0=s:=by unfold mg;rfl
def af7{s:PS}(h:l[(x:Int).toNat]?=some t):mg r l s (x+1)=p9 cR (jY r t) (mg r l s x):=by rw[bt]at h;unfold mg;rw[fy,h];exact W4 _ _ _ _ _
def aFv{s:PS}(h:decide ((x:Int)<l.length)=false):mg r l s x=p_ cR r l s:=by have h:=cQ h;unfold mg;rw[eL O]
def anj(a:bw->ByteArray)(t:bw)(s:PS):(p9 a t s).eZ.length<=s.eZ.length+1:=by
 unfold p9;split
 ·omega
 ·simp
theorem Oe(a:bw->ByteArray)(r:Int):∀(l:List bw)(s:PS),(p_ a r l s).eZ.length<=s.eZ.length+l.length
 |[],s=>by rw[p_];simp
 |t::l,s=>by have:=Oe a r l (p9 a (jY r t) s);have:=anj a (jY r t) s;rw[p_,fZ];omega
def aFw(r:Int)(l:List bw)(s:PS)(x:Nat):(mg r l s x).eZ.length<=s.eZ.length+l.length:=by unfold mg;have:=Oe cR r (l.take x) s;rw[gw]at this;omega
@[irreducible] def u7(lv:Int)(a:List F)(s:PS)(x:Nat):PS:=oe cR lv (a.take x) s
theorem ajl(b:bw->ByteArray)(lv:Int)(c:F):∀(l:List F)(s:PS),oe b lv (l++[c]) s=oT b lv c (oe b lv l s)
 |[],s=>by rw[gf,oe,oe,oe]
 |a::l,s=>by rw[eB,oe,oe,ajl b lv c l]
def UK(lv:Int)(a:List F)(s:PS):u7 lv a s 0=s:=by unfold u7;rw[gx,oe]
def UL{lv:Int}{a:List F}{s:PS}{c:F}(h:a[(x:Int).toNat]?=some c):u7 lv a s (x+1)=oT cR lv c (u7 lv a s x):=by rw[bt]at h;unfold u7;rw[fy,h];exact ajl _ _ _ _ _
def UO(a:bw->ByteArray)(lv:Int)(m:F)(s:PS):oT a lv m s=if m.aJ=3\/m.aJ=4 then oe a lv m.aO s else if m.aJ=2 then p_ a m.bU (gK m.aF lv) s else s:=by cases m;rw[oT];rfl
inductive xi(lv:Int):F->Prop where
 |mk (k r:Int) (p:J) (ks:List F) (hp:k=2->PJ p lv) (hk:k=3\/k=4->∀c∈ks,xi lv c):xi lv (.mk k r p ks)
def Mg{p:J}{lv:Int}(h:PJ p lv):(gK p lv).length<=1/\∀t∈gK p lv,∀r,yw (jY r t):=by
 obtain⟨v,rfl,b,c⟩:=NW h;have d:=(Ak h).1.nt;rcases Tl b c O d with⟨e,_⟩|⟨e,f⟩
 ·rw[e];exact⟨ai,λt a=>by cases a⟩
 ·rw[e];refine⟨ai,λt a r=>?_⟩;rw[cL.1 a];unfold yw;exact⟨v,((GJ b c O d f).1.jY rfl r).lp (bK _)⟩
mutual
theorem aJE {lv:Int}:∀{m:F},xi lv m->∀s:PS,(oT cR lv m s).eZ.length<=s.eZ.length+3*ba m
 |.mk k r p g,h,s=>by
  rw[oT,ba]
  cases h with
  |mk _ _ _ _ a b=>
   split
   ·rename_i e
    have:=UP (b e) s
    omega
   ·split
    ·rename_i e
     have:=Oe cR r (gK p lv) s
     have:=(Mg (a e)).1
     omega
    ·omega
theorem UP {lv:Int}:∀{l:List F},(∀c∈l,xi lv c)->∀s:PS,(oe cR lv l s).eZ.length<=s.eZ.length+3*ck l
 |[],_,s=>by rw[oe];omega
 |c::l,h,s=>by
  have j:=aJE (h c (b6 ..)) s
  have i:=UP (λd f=>h d (cv _ f)) (oT cR lv c s)
  rw[oe,dW];omega
end
@[irreducible] def mY(m:F)(lv:Int)(s:PS):=xi lv m/\s.eZ.length+3*ba m<=1000000000
def Fe{m:F}{lv:Int}{s:PS}(h:mY m lv s):=(mY.eq_1 ..).mp h
def aIk(l:List F)(x:Nat):ck (l.take x)+ck (l.drop x)=ck l:=by rw[<-zO,o0]
section
variable {m:F}{lv:Int}{s:PS}(h:mY m lv s)
include h
def mY.kd(b:KG m):∀c∈m.aO,xi lv c:=by
 unfold KG at b;cases(Fe h).1 with
 |mk k r p d e a=>exact a b
def mY.pj(a:(m.aJ==2)=true):PJ m.aF lv:=by
 have a:m.aJ=2:=an a;cases(Fe h).1 with
 |mk k r p d b c=>exact b a
def mY.bu(i:KG m){c:F}(a:m.aO[(x:Int).toNat]?=some c):mY c lv (u7 lv m.aO s x):=by
 rw[bt]at a;have f:=h.kd i;have b:=ns a;have k:=UP (λd e=>f d (nE e):∀d∈m.aO.take x,xi lv d) s;have g:=aIk m.aO x;rw[kB b,dW]at g;rw[cN b]at a;injection a with a
 rw[a]at g;have j:=(Fe h).2;rw[j8]at j;unfold mY u7;exact⟨f c (a▸tZ b),O⟩
def mY.len:m.aO.length<=1000000000:=by have:=(Fe h).2;have a:=rj m.aO;rw[j8]at this;omega
def mY.rb(a:(m.aJ==2)=true)(x:Nat)(t:bw):((mg m.bU (gK m.aF lv) s x).eZ.length+[t].length)*Uj.dF<=140737488355328/\(mg m.bU (gK m.aF lv) s x).eZ.length+[t].length<=140737488355328:=by have f:=aFw m.bU (gK m.aF lv) s x;have d:=(Mg (h.pj a)).1;have c:=(Fe h).2;have e:Uj.dF=368:=rfl;have b:[t].length=1:=rfl;rw[e,b];omega
def mY.ky(a:(m.aJ==2)=true)(b:(gK m.aF lv)[x]?=some t)(r:Int):yw (jY r t):=(Mg (h.pj a)).2 t (bM b) r
end
def UR{lv:Int}{m:F}{s:PS}(a:KG m)(h:decide ((x:Int)<m.aO.length)=false):u7 lv m.aO s x=oT cR lv m s:=by have h:=cQ h;unfold KG at a;rw[UO,aM a];unfold u7;rw[eL O]
def UT{lv:Int}{m:F}{s:PS}(a:(m.aJ==2)=true)(h:decide ((x:Int)<((gK m.aF lv).length:Int))=false):mg m.bU (gK m.aF lv) s x=oT cR lv m s:=by have a:m.aJ=2:=an a;rw[UO,Z O,aM a,aFv h]
def aJS{lv:Int}{m:F}{s:PS}(a:(m.aJ==3)=false)(b:(m.aJ==4)=false)(c:(m.aJ==2)=false):oT cR lv m s=s:=by have d:¬m.aJ=2:=an c;have e:¬m.aJ=3:=an a;have f:¬m.aJ=4:=an b;rw[UO,Z O,Z d]
def mc(h:(r==1)=true\/(r==4)=true\/(r==6)=true):(⟨3,t.a,t.b,t.c,t.d,t.g⟩:bw)=jY r t:=by have h:r=1\/r=4\/r=6:=an h;unfold jY;rw[aM h]
def AY(a:(r==1)=false)(b:(r==4)=false)(c:(r==6)=false):t=jY r t:=by have d:¬r=1:=an a;have e:¬r=4:=an b;have f:¬r=6:=an c;unfold jY;rw[Z O]
def amQ{s:PS}(h:jX (cR t) s.nR=false):p9 cR t s=⟨s.eZ++[t],s.nR++[cR t]⟩:=by unfold p9;rw[Z (by rw[h];decide)]
def amP{s:PS}(h:jX (cR t) s.nR=true):p9 cR t s=s:=by unfold p9;rw[aM h]
def at3:gv prog 159:=gY func159 af rfl
def vH(lv:Int)(s:PS)(b:Nat):List (Nat×aZ Un):=[(0,.cells [.db 159 [(0,0),(1,0),(2,0),(4,0)]]),(1,.cells [.d (.sc (.int .i64 lv))]),(2,.cells [.mp 3]),(3,.lc (lb s.nR)),(4,.cells [.aX b W.gi s.eZ.length]),(b,.aW (U:=Un) W.gi s.eZ)]
def vA(m:F):List (SE Un):=[wE .aP m,.c (.ptr 0 0),.c (.ptr 1 0),.c (.ptr 2 0),.c (.ptr 4 0)]
def I5(m:F)(lv:Int)(s:PS):Prop:=dA prog 159 (bX (cy (vH lv s 5))) ((vA m).map SE.aI) (bX (cy (vH lv (oT cR lv m s) 6))) (·∈[0,1,2,3,4]) (ST.cE (U:=Un) []).aI
def agZ(G:F->Int->PS->Prop)(H:List (Nat×aZ Un))(args:List (SE Un))(K:iA Un->Prop):Prop:=
 match H,args with
 |[(0,.cells [.db 159 [(0,0),(1,0),(2,0),(4,0)]]),(1,.cells [.d (.sc (.int .i64 lv))]),(2,.cells [.mp 3]),(3,.lc k),(4,.cells [.aX 5 W.gi n]),(5,.aW W.gi eZ)],[.agg [.d (.sc (.int .i64 k1)),.d (.sc (.int .i64 e)),.d (.sc (.int .i64 h)),.d (.cK g),.d (.bN W.u32 j),.d (.bN W.aF i),.d (.bN W.aP f)],.c (.ptr 0 0),.c (.ptr 1 0),.c (.ptr 2 0),.c (.ptr 4 0)]=>∃a:List ByteArray,(k=lb a/\n=eZ.length/\G (.mk k1 e (.mk h g j i) f) lv ⟨eZ,a⟩)/\K ⟨.cE [],vH lv (oT cR lv (.mk k1 e (.mk h g j i) f) ⟨eZ,a⟩) 6,[5],[0,1,2,3,4,5]⟩
 |_,_=>False
def aeN(G:F->Int->PS->Prop)(d:∀m lv s,G m lv s->I5 m lv s):gy prog Un where
 f:=159
 iu:=at3
 run:=agZ G
 ok H args K h:=by
  unfold agZ at h;split at h
  ·rename_i lv n r eZ k1 j o l w v k;obtain⟨p,⟨rfl,rfl,i⟩,g⟩:=h;refine⟨_,?_,λu a c=>?_,g⟩
   ·exact dA.gL (d _ _ _ i) λu a=>by have q:u<6:=a.1;have e:=a.2;simp at e⊢;omega
   ·have:u<6:=a;simp at c;omega
  ·cases h
section
variable {m:F}{lv:Int}{s:PS}{x:Nat}{t t':bw}(ht:(gK m.aF lv)[((x:Nat):Int).toNat]?=some t)(ek:t'=jY m.bU t){b:Bool}(hg:(jz (.bool false) (.string (cR t')) (lb (mg m.bU (gK m.aF lv) s x).nR)).1=.bool b)
include ht ek hg
def UU(a:(!b)=true):(⟨(mg m.bU (gK m.aF lv) s x).eZ++[t'],(mg m.bU (gK m.aF lv) s x).nR++[cR t']⟩:PS)=mg m.bU (gK m.aF lv) s (x+1):=by have g:=QV hg;rw[af7 ht,<-ek,amQ (by rw[g];simpa using a)]
def aJU(a:(!b)=true):tw (.string (cR t')) (.bool true) (lb (mg m.bU (gK m.aF lv) s x).nR)=lb (mg m.bU (gK m.aF lv) s (x+1)).nR:=by have g:=QV hg;rw[ax2 (by rw[g];simpa using a),<-UU ht ek hg a]
def US(a:(!b)=false):mg m.bU (gK m.aF lv) s x=mg m.bU (gK m.aF lv) s (x+1):=by have g:=QV hg;rw[af7 ht,<-ek,amP (by rw[g];simpa using a)]
end
def mY.kyt{m:F}{lv:Int}{s:PS}(h:mY m lv s)(a:(m.aJ==2)=true){x:Nat}{t t':bw}(ht:(gK m.aF lv)[x]?=some t)(ek:t'=jY m.bU t):yw t':=ek▸h.ky a ht m.bU
def Xl{m:F}(h:(m.aJ==3)=true\/(m.aJ==4)=true):KG m:=by unfold KG;simpa using h
theorem aJF(lv:Int)(m:F)(s:PS):mY m lv s->I5 m lv s:=by
 generalize i:SizeOf.sizeOf m=D
 induction D using Nat.strongRecOn generalizing m s
 rename_i D d;subst i;intro h;have e:∀(c:F)(l:Int)(s':PS),(c∈m.aO/\mY c lv s'/\l=lv)->I5 c l s':=λc l s' f=>by obtain⟨k,j,rfl⟩:=f;exact d _ (F.lt k) c s' rfl j
 clear d
 rename _=>d
 unfold I5;refine vO func159 rfl ⟨[asz,ar_],[aeN (λc l s'=>c∈m.aO/\mY c lv s'/\l=lv) d]⟩ [(5,⟨Nat,λx=>⟨[(1,br 0),(19,lT .aP m.aO),(20,iT m.aO.length),(21,iT x)],vH lv (u7 lv m.aO s x) 7,8⟩,λx=>(x<=m.aO.length/\KG m)/\True,λx=>m.aO.length-x⟩),(12,⟨Nat,λx=>⟨[(3,br 2),(4,br 4),(5,br 6),(38,lT .gi (gK m.aF lv)),(39,iT (gK m.aF lv).length),(40,iT x)],(6,cj .aP m)::vH lv (mg m.bU (gK m.aF lv) s x) 7,8⟩,λx=>(x<=3/\(m.aJ==2)=true)/\True,λx=>(gK m.aF lv).length-x⟩)] [0,1,2,3,4] ⟨[],vH lv (oT cR lv m s) 6,7⟩ ?_;repeat' (first
  |((with_reducible show mt _ _ _ _ _);(conv=>whnf);(fail_if_success with_reducible show mt _ _ _ _ _))
  |intro _|apply aQ
  |refine @aS Nat _ 0 (aQ ?_ λ(x:Nat) (a:(x<=m.aO.length/\KG m)/\True)=>?_)
  |refine @aS Nat _ 0 (aQ ?_ λ(x:Nat) (a:(x<=3/\(m.aJ==2)=true)/\True)=>?_)
  |refine @aS Nat _ (x+1) ?_
  |refine @aS (List ByteArray) _ (u7 lv m.aO s x).nR ?_
  |fail)
 all_goals(try clear d)
 all_goals(try simp only[bz,fI,AE]at*)
 all_goals first|exact bj|omega|exact Xl (.inl Y)|exact Xl (.inr Y)|exact h.pj Y|exact bM Y|exact h.bu a.1.2 Y|exact bi PS.eZ (UK _ _ _).symm|exact bi (λs=>lb s.nR) (UK _ _ _).symm|exact bi (λs=>s.eZ.length) (UK _ _ _).symm|exact bi PS.eZ (Tc _ _ _).symm|exact bi (λs=>lb s.nR) (Tc _ _ _).symm|exact bi (λs=>s.eZ.length) (Tc _ _ _).symm|exact bi PS.eZ (UL Y).symm|exact bi (λs=>lb s.nR) (UL Y).symm|exact bi (λs=>s.eZ.length) (UL Y).symm|exact bi PS.eZ (UR a.1.2 Y)|exact bi (λs=>lb s.nR) (UR a.1.2 Y)|exact bi (λs=>s.eZ.length) (UR a.1.2 Y)|exact bi PS.eZ (UT a.1.2 Y)|exact bi (λs=>lb s.nR) (UT a.1.2 Y)|exact bi (λs=>s.eZ.length) (UT a.1.2 Y)|rw[aJS Y Y Y];done| (with_reducible first|exact ax3 _|exact ax1 _)|exact h.kyt a.1.2 Y (by first|exact mc (.inl Y)|exact mc (.inr (.inl Y))|exact mc (.inr (.inr Y))|exact AY Y Y Y)|exact bi PS.eZ (UU ‹(gK _ _)[_]?=_› (by first|exact mc (.inl Y)|exact mc (.inr (.inl Y))|exact mc (.inr (.inr Y))|exact AY Y Y Y) ‹(jz _ _ _).1=_› Y)|rw[<-UU ‹(gK _ _)[_]?=_› (by first|exact mc (.inl Y)|exact mc (.inr (.inl Y))|exact mc (.inr (.inr Y))|exact AY Y Y Y) ‹(jz _ _ _).1=_› Y];simp;done|exact aJU ‹(gK _ _)[_]?=_› (by first|exact mc (.inl Y)|exact mc (.inr (.inl Y))|exact mc (.inr (.inr Y))|exact AY Y Y Y) ‹(jz _ _ _).1=_› Y|exact bi PS.eZ (US ‹(gK _ _)[_]?=_› (by first|exact mc (.inl Y)|exact mc (.inr (.inl Y))|exact mc (.inr (.inr Y))|exact AY Y Y Y) ‹(jz _ _ _).1=_› Y)|exact bi (λs=>s.eZ.length) (US ‹(gK _ _)[_]?=_› (by first|exact mc (.inl Y)|exact mc (.inr (.inl Y))|exact mc (.inr (.inr Y))|exact AY Y Y Y) ‹(jz _ _ _).1=_› Y)|exact bi (λs=>lb s.nR) (US ‹(gK _ _)[_]?=_› (by first|exact mc (.inl Y)|exact mc (.inr (.inl Y))|exact mc (.inr (.inr Y))|exact AY Y Y Y) ‹(jz _ _ _).1=_› Y)|exact(h.rb a.1.2 _ _).1|exact(h.rb a.1.2 _ _).2|have g:=h.len;simp only[be]at*;omega|have g:=(Mg (h.pj a.1.2)).1;simp only[be]at*;omega|rfl|exfalso;simp_all;done
end Go.Proofs.YtfbmhjooliccnaaGreatDoor
