/- A part of the proof of VirtualLinear: Fl to Fs2. No condition. -/
import Derived.Test.YtfbmhjooliccnaaGreatDoorYg
set_option linter.all false
set_option maxRecDepth 100000
set_option maxHeartbeats 60000000
noncomputable section
namespace Go.Proofs.YtfbmhjooliccnaaGreatDoor
open Go Go.Ab Go.Proofs.Tryz
variable {q y:bf}{v x:Int}{i n:Nat}{p X R Q:J}{c:aY}{A B:ao}{U:F}
mutual
def ij:J->J->Bool
 |.mk l n a g,.mk f e h b=>decide (l=f)&&wy ⟨n,a⟩ ⟨e,h⟩&&jk g b
def jk:List J->List J->Bool
 |[],[]=>true
 |p::d,q::c=>ij p q&&jk d c
 |[],_::_=>false
 |_::_,[]=>false
end
def Hr(p q:J):ij p q=(decide (p.aK=q.aK)&&wy ⟨p.neg,p.aC⟩ ⟨q.neg,q.aC⟩&&jk p.aL q.aL):=by cases p;cases q;rw[ij];rfl
theorem ahh:∀{b a:List J},jk b a=true->b.length=a.length
 |[],[],_=>rfl
 |p::b,q::a,h=>by rw[jk,ej]at h;rw[fZ,fZ,ahh h.2]
 |[],_::_,h=>by rw[jk]at h;cases h
 |_::_,[],h=>by rw[jk]at h;cases h
theorem ahf:∀{b a:List J}{i:Nat}{p q:J},jk b a=true->b[i]?=some p->a[i]?=some q->ij p q=true
 |[],_,_,_,_,_,h,_=>by simp at h
 |_::_,[],_,_,_,h,_,_=>by rw[jk]at h;cases h
 |p::b,q::a,0,_,_,h,d,c=>by rw[jk,ej]at h;simp at d c;subst d;subst c;exact h.1
 |p::b,q::a,i+1,_,_,h,d,c=>by rw[jk,ej]at h;exact ahf h.2 (an d) (an c)
theorem ahi:∀{b a:List J}{i:Nat}{p q:J},jk (b.take i) (a.take i)=true->b[i]?=some p->a[i]?=some q->ij p q=true->jk (b.take (i+1)) (a.take (i+1))=true
 |[],_,_,_,_,_,h,_,_=>by simp at h
 |_::_,[],_,_,_,_,_,h,_=>by simp at h
 |p::b,q::a,0,_,_,_,d,c,e=>by simp at d c;subst d;subst c;rw[o4,o4,jk,e,gx,gx,jk];rfl
 |p::b,q::a,i+1,_,_,h,d,c,e=>by rw[o4,o4,jk,ej]at h;rw[o4,o4,jk,ej];exact⟨h.1,ahi h.2 (an d) (an c) e⟩
def bz(p:J):J.mk p.aK p.neg p.aC p.aL=p:=by cases p;rfl
def aGr{q:J}(h:(p.aK !=q.aK)=true):false=ij p q:=by rw[Hr,rX (an h)];rfl
def aGs{q:J}(h:((p.aL.length:Int) !=(q.aL.length:Int))=true):false=ij p q:=by
 cases e:ij p q with
 |false=>rfl
 |true=>rw[Hr,ej]at e;rw[ahh e.2]at h;simp at h
def aGt{q:J}(a:p.aL[(i:Int).toNat]?=some X)(b:q.aL[(i:Int).toNat]?=some R)(h:(!ij (.mk X.aK X.neg X.aC X.aL) (.mk R.aK R.neg R.aC R.aL))=true):false=ij p q:=by
 rw[bz,bz]at h;cases e:ij p q with
 |false=>rfl
 |true=>rw[Hr,ej]at e;rw[ahf e.2 a b]at h;cases h
def aGu(c:jk (p.aL.take i) (X.aL.take i)=true)(a:p.aL[(i:Int).toNat]?=some R)(b:X.aL[(i:Int).toNat]?=some Q)(h:(!ij (.mk R.aK R.neg R.aC R.aL) (.mk Q.aK Q.neg Q.aC Q.aL))=false):jk (p.aL.take (i+1)) (X.aL.take (i+1))=true:=by rw[bz,bz]at h;rw[bt]at a b;exact ahi c a b (an h)
def aGq{q:J}(b:i<=p.aL.length/\p.aK=q.aK/\p.aL.length=q.aL.length/\wy ⟨p.neg,p.aC⟩ ⟨q.neg,q.aC⟩=true/\jk (p.aL.take i) (q.aL.take i)=true)(h:decide ((i:Int)<p.aL.length)=false):true=ij p q:=by
 obtain⟨g,c,d,f,a⟩:=b;have e:i=p.aL.length:=by simp only[bc]at h;omega
 subst e;rw[im,d,im]at a;rw[Hr,f,a,qd c];rfl
mutual
def kO:F->F->Bool
 |.mk k r p g,.mk f b e a=>decide (k=f)&&decide (r=b)&&ij p e&&hZ g a
def hZ:List F->List F->Bool
 |[],[]=>true
 |p::d,q::c=>kO p q&&hZ d c
 |[],_::_=>false
 |_::_,[]=>false
end
def Mn(p q:F):kO p q=(decide (p.aJ=q.aJ)&&decide (p.bU=q.bU)&&ij p.aF q.aF&&hZ p.aO q.aO):=by cases p;cases q;rw[kO];rfl
theorem ahd:∀{b a:List F},hZ b a=true->b.length=a.length
 |[],[],_=>rfl
 |p::b,q::a,h=>by rw[hZ,ej]at h;rw[fZ,fZ,ahd h.2]
 |[],_::_,h=>by rw[hZ]at h;cases h
 |_::_,[],h=>by rw[hZ]at h;cases h
theorem ahb:∀{b a:List F}{i:Nat}{p q:F},hZ b a=true->b[i]?=some p->a[i]?=some q->kO p q=true
 |[],_,_,_,_,_,h,_=>by simp at h
 |_::_,[],_,_,_,h,_,_=>by rw[hZ]at h;cases h
 |p::b,q::a,0,_,_,h,d,c=>by rw[hZ,ej]at h;simp at d c;subst d;subst c;exact h.1
 |p::b,q::a,i+1,_,_,h,d,c=>by rw[hZ,ej]at h;exact ahb h.2 (an d) (an c)
theorem ahe:∀{b a:List F}{i:Nat}{p q:F},hZ (b.take i) (a.take i)=true->b[i]?=some p->a[i]?=some q->kO p q=true->hZ (b.take (i+1)) (a.take (i+1))=true
 |[],_,_,_,_,_,h,_,_=>by simp at h
 |_::_,[],_,_,_,_,_,h,_=>by simp at h
 |p::b,q::a,0,_,_,_,d,c,e=>by simp at d c;subst d;subst c;rw[o4,o4,hZ,e,gx,gx,hZ];rfl
 |p::b,q::a,i+1,_,_,h,d,c,e=>by rw[o4,o4,hZ,ej]at h;rw[o4,o4,hZ,ej];exact⟨h.1,ahe h.2 (an d) (an c) e⟩
def C4(p:F):F.mk p.aJ p.bU (J.mk p.aF.aK p.aF.neg p.aF.aC p.aF.aL) p.aO=p:=by rw[bz];cases p;rfl
def aGo{q:F}(h:(U.aJ !=q.aJ)=true):false=kO U q:=by rw[Mn,rX (an h)];rfl
def aGn{p q:F}(h:(p.bU !=q.bU)=true):false=kO p q:=by rw[Mn,rX (p:=p.bU=q.bU) (an h),Bool.and_false];rfl
def am7(A B:ao):(qV A B).length=A.length+1:=by simp[qV]
def am6(b:Dg A)(c:Dg B):Dg (qV A B):=by
 intro d a;simp only[qV,cq,b_,oZ,cL]at a;rcases a with⟨k,_,rfl⟩|rfl
 ·unfold pc;rw[cD];omega
 ·have:=Jp b c A.length;rw[cD];omega
def aH5(A B:ao):Dg (oO A B):=by intro d a;simp only[oO,b_,oZ]at a;obtain⟨k,_,rfl⟩:=a;unfold pe;rw[cD];omega
def anb(a b:ao):(vt a b).length<=max a.length b.length+1:=by
 have c:=ml (qV (qk (aT a) (aT b)) (u5 (aT a) (aT b)));rw[am7]at c;have f:=ml a;have e:=ml b;unfold vt;have d:(qk (aT a) (aT b)).length<=max a.length b.length:=by unfold qk;split<;>omega
 omega
def am_(c:Dg A)(d:Dg B):Dg (vt A B):=(am6 (Re c.fe d.fe) (TK c.fe d.fe)).fe
def aih(a b:ao):(qD a b).length<=a.length:=by
 unfold qD;split
 ·simp
 ·have c:=ml (oO (aT a) (aT b));have d:=ml a;simp only[oO,eh,oY]at c;exact dH c d
def aie(a b:ao):Dg (qD a b):=by
 unfold qD;split
 ·intro d c;simp at c
 ·exact(aH5 _ _).fe
def am5(x y:aY):(eX x y).aC.length<=max x.aC.length y.aC.length+1:=by
 have a:=anb x.aC y.aC;have c:=aih x.aC y.aC;have b:=aih y.aC x.aC;unfold eX iL;split
 ·exact a
 ·split<;>simp only<;>omega
def am4{x:aY}(a:Dg x.aC)(b:Dg c.aC):Dg (eX x c).aC:=by
 unfold eX iL;split
 ·exact am_ a b
 ·split
  ·exact aie _ _
  ·exact aie _ _
def aCF(x:aY):(jE x).aC.length<=x.aC.length:=ml _
def aCE(a:Dg c.aC):Dg (jE c).aC:=a.fe
def S.mono(t:S):bf:=⟨t.e1,t.e2,t.e3,t.e4⟩
def S.cw(t:S):aY:=⟨t.neg,t.aC⟩
def xK(c:aY)(q:bf):S:=⟨c.neg,c.aC,q.e1,q.e2,q.e3,q.e4⟩
def qw(p q:bf):Bool:=p.e1==q.e1&&(p.e2==q.e2&&(p.e3==q.e3&&(p.e4==q.e4&&true)))
def D0:qw y q=true↔y=q:=by cases y;cases q;simp[qw]
@[reducible] def mb(q:bf):Value:=.agg [.int .i64 q.e1,.int .i64 q.e2,.int .i64 q.e3,.int .i64 q.e4].toArray
def ayk(p q:bf):ny (mb p) (mb q)=qw p q:=rfl
def gI:List S->Nat->List (Value×Value)
 |[],_=>[]
 |t::r,i=>(mb t.mono,.int .i64 i)::gI r (i+1)
def GL(i:Nat):gI [] i=[]:=rfl
def v_(t:S)(r:List S)(i:Nat):gI (t::r) i=(mb t.mono,.int .i64 i)::gI r (i+1):=rfl
theorem adt:∀(l:List S)(i:Nat),pF (.qa 4 .i64) (gI l i)=true
 |[],i=>by rw[GL];rfl
 |t::r,i=>by have:=adt r (i+1);rw[v_];unfold pF at this⊢;rw[w_,this];rfl
theorem ads:∀(l:List S)(i:Nat),(gI l i).all (λp=>nj .i64 p.2)=true
 |[],i=>by rw[GL];rfl
 |t::r,i=>by rw[v_,w_,ads r (i+1)];rfl
def ma(q:bf):List S->Option Nat
 |[]=>none
 |t::r=>match qw q t.mono with|true=>some 0|false=>(ma q r).map (·+1)
theorem Rq(q:bf):∀(l:List S)(i:Nat),g_ (mb q) (gI l i) i=(ma q l).map λn=>(i+n,.int .i64 ((i+n:Nat):Int))
 |[],i=>by rw[GL];rfl
 |t::r,i=>by
  have a:=Rq q r (i+1);rw[v_];simp only[g_,ayk,ma];cases qw q t.mono with
  |true=>rfl
  |false=>
   simp only;rw[a];cases ma q r with
   |none=>rfl
   |some n=>simp only[dP];rw[show i+1+n=i+(n+1)by omega]
def La{l:List S}(h:g_ (mb q) (gI l 0) 0=some (i,.int .i64 v)):v=i/\ma q l=some i:=by
 rw[Rq,gN]at h;obtain⟨n,c,b⟩:=h;injection b with b a
 injection a with _ a
 have:n=i:=O;subst this;exact⟨by rw[<-a,ol],c⟩
def adx{l:List S}(h:g_ (mb q) (gI l 0) 0=none):ma q l=none:=by rw[Rq]at h;simpa using h
theorem QK{q:bf}:∀{l:List S}{i:Nat},ma q l=some i->i<l.length
 |[],_,h=>by cases h
 |t::r,i,h=>by
  simp only[ma]at h;split at h
  ·injection h with h;subst h;simp
  ·rw[gN]at h;obtain⟨n,a,rfl⟩:=h;have:=QK a;simp;omega
theorem adu:∀(l:List S)(i j:Nat)(t b:S),l[i]?=some t->b.mono=t.mono->gI (l.set i b) j=gI l j
 |[],i,j,t,b,h,_=>by simp at h
 |a::r,0,j,t,b,h,c=>by simp only[kg,cS]at h;subst h;rw[xc,v_,v_,c]
 |a::r,i+1,j,t,b,h,c=>by rw[IF,v_,v_,adu r i (j+1) t b (an h) c]
theorem adr:∀(l:List S)(j:Nat)(t:S),gI (l++[t]) j=gI l j++[(mb t.mono,.int .i64 ((j+l.length:Nat):Int))]
 |[],j,t=>by rw[gf,v_,GL,GL];rfl
 |a::r,j,t=>by rw[eB,v_,v_,adr r (j+1) t,eB];congr 4;simp;omega
@[irreducible] def gZ(l:List S)(q:bf)(c:aY):List S:=
  if je q then l else
  match ma q l with
  |some i=>(match l[i]? with|some t=>l.set i (xK (eX t.cw c) t.mono)|none=>l)
  |none=>l++[xK (jE c) q]
def Gn{l:List S}(h:je q=true):gZ l q c=l:=by unfold gZ;rw[aM h]
def Km{l:List S}(h:je q=false){t:S}(a:ma q l=some i)(b:l[i]?=some t):gZ l q c=l.set i (xK (eX t.cw c) t.mono):=by unfold gZ;rw[Z (by simp[h])];simp only[a,b]
def De{l:List S}(h:je q=false)(a:ma q l=none):gZ l q c=l++[xK (jE c) q]:=by unfold gZ;rw[Z (by simp[h])];simp only[a]
def azU{l:List S}(a:je q=false)(h:g_ (mb q) (gI l 0) 0=none):tw (mb q) (.int .i64 (l.length:Int)) (gI l 0)=gI (gZ l q c) 0:=by have b:=adx h;rw[De a b,adr];simp only[tw,h];congr 4;simp
def LB(n:Nat)(l:List S):=∀t∈l,t.aC.length<=n/\Dg t.aC
def awO(l:List S)(q:bf)(c:aY):(gZ l q c).length<=l.length+1:=by
 unfold gZ;split
 ·omega
 ·split
  ·split
   ·simp
   ·omega
  ·simp
def awM{l:List S}(h:LB n l)(e:c.aC.length<=n/\Dg c.aC):LB (n+1) (gZ l q c):=by
 have b:LB (n+1) l:=λt d=>⟨by have:=(h t d).1;omega,(h t d).2⟩
 unfold gZ;split
 ·exact b
 ·split
  ·split
   ·rename_i i _ t d;intro u a;rcases EO a with a|rfl
    ·exact b u a
    ·have f:=h t (bM d);have g:=am5 t.cw c;have j:t.cw.aC.length=t.aC.length:=rfl;exact⟨by show(eX t.cw c).aC.length<=_;have:=e.1;have:=f.1;omega,am4 (x:=t.cw) f.2 e.2⟩
   ·exact b
  ·intro u a;rw[cq,cL]at a;rcases a with a|rfl
   ·exact b u a
   ·exact⟨by show(jE c).aC.length<=_;have:=aCF c;omega,aCE e.2⟩
def at6:gv prog 174:=gY func174 af rfl
def at7:gv prog 175:=gY func175 af rfl
def gH(a b c:Nat)(l:List S):List (Nat×aZ Un):=[(a,.cells [.mp b,.aX c W.bn l.length]),(b,.lc (gI l 0)),(c,.aW W.bn l)]
def aBp:dA prog 174 (bX (cy (U:=Un) [])) (([]:List (SE Un)).map SE.aI) (bX (cy (gH 0 1 2 []))) (·∈[]) (ST.e (U:=Un) (.c (.ptr 0 0))).aI:=by
 refine vO func174 rfl ⟨[],[]⟩ [] [] ⟨[(0,br 0)],gH 0 1 2 [],3⟩ ?_;repeat' first|intro _|apply aQ
 all_goals first|exact bj|rfl
def awU{l:List S}(h:je ⟨q.e1,q.e2,q.e3,q.e4⟩=true):l.length=(gZ l q c).length:=by rw[Gn h]
def awV{l:List S}(h:je ⟨q.e1,q.e2,q.e3,q.e4⟩=true):gI l 0=gI (gZ l q c) 0:=by rw[Gn h]
def awW{l:List S}(h:je ⟨q.e1,q.e2,q.e3,q.e4⟩=true):l=gZ l q c:=by rw[Gn h]
def ayj(q:bf):ig Lb.kf (mb q)=true:=rfl
def azx(l:List S):pF Lb.kf (gI l 0)=true:=adt l 0
def abX{l:List S}(h:g_ (mb q) (gI l 0) 0=some (i,.int .i64 v)):0<=v:=by have:=(La h).1;omega
def abY{l:List S}(h:g_ (mb q) (gI l 0) 0=some (i,.int .i64 v)):v<l.length:=by have:=La h;have:=QK this.2;omega
def ab0{l:List S}(h:g_ (mb q) (gI l 0) 0=some (i,.int .i64 v)):v.toNat<l.length:=by have:=La h;have:=QK this.2;omega
def QH{l:List S}(d:je ⟨q.e1,q.e2,q.e3,q.e4⟩=false)(h:g_ (mb q) (gI l 0) 0=some (i,.int .i64 v)){x y:S}(b:l[v.toNat]?=some x)(a:l[v.toNat]?=some y):
 l.set v.toNat ⟨(eX ⟨x.neg,x.aC⟩ ⟨c.neg,c.aC⟩).neg,(eX ⟨x.neg,x.aC⟩ ⟨c.neg,c.aC⟩).aC,y.e1,y.e2,y.e3,y.e4⟩=gZ l q c:=by
 rw[b]at a;injection a with a;subst a
 obtain⟨g,f⟩:=La h;have e:v.toNat=i:=O;rw[e]at b⊢;rw[Km d f b];rfl
def awZ{l:List S}(b:je ⟨q.e1,q.e2,q.e3,q.e4⟩=false)(h:g_ (mb q) (gI l 0) 0=some (i,.int .i64 v)){x:S}(a:l[v.toNat]?=some x):l.length=(gZ l q c).length:=by rw[<-QH b h a a,rK]
def aw0{l:List S}(b:je ⟨q.e1,q.e2,q.e3,q.e4⟩=false)(h:g_ (mb q) (gI l 0) 0=some (i,.int .i64 v)){x:S}(a:l[v.toNat]?=some x):gI l 0=gI (gZ l q c) 0:=by rw[<-QH b h a a];refine(adu l _ 0 x _ a ?_).symm;rfl
def abW{l:List S}(a:je ⟨q.e1,q.e2,q.e3,q.e4⟩=false)(h:g_ (mb q) (gI l 0) 0=none):
 l++[⟨(jE ⟨c.neg,c.aC⟩).neg,(jE ⟨c.neg,c.aC⟩).aC,q.e1,q.e2,q.e3,q.e4⟩]=gZ l q c:=by rw[De a (adx h)];rfl
def awX{l:List S}(a:je ⟨q.e1,q.e2,q.e3,q.e4⟩=false)(h:g_ (mb q) (gI l 0) 0=none)(x:S):l.length+[x].length=(gZ l q c).length:=by rw[<-abW a h];simp
def awY{l:List S}(a:je ⟨q.e1,q.e2,q.e3,q.e4⟩=false)(h:g_ (mb q) (gI l 0) 0=none):tw (mb q) (.int .i64 (l.length:Int)) (gI l 0)=gI (gZ l q c) 0:=azU a h
def GB(l:List S)(c:aY)(n:Nat):=LB n l/\c.aC.length<=n/\Dg c.aC/\n<=1099511627776/\l.length<=1000000000
def GB.x1{l:List S}(h:GB l c n){x:S}(a:l[i]?=some x):Sm (aY.mk x.neg x.aC).aC:=by obtain⟨b,_,_,d,_⟩:=h;have:=(b x (bM a)).1;show x.aC.length<=_;omega
def GB.x2{l:List S}(h:GB l c n){x:S}(a:l[i]?=some x){d:Int}(b:d∈(aY.mk x.neg x.aC).aC):b5 d:=(h.1 x (bM a)).2 d b
def GB.c1{l:List S}(h:GB l c n):Sm (aY.mk c.neg c.aC).aC:=by obtain⟨_,a,_,b,_⟩:=h;show c.aC.length<=_;omega
def GB.c2{l:List S}(h:GB l c n){d:Int}(a:d∈(aY.mk c.neg c.aC).aC):b5 d:=h.2.2.1 d a
def GB.l1{l:List S}(h:GB l c n)(x:S):(l.length+[x].length)*yd.dF<=140737488355328:=by have:=h.2.2.2.2;have e:yd.dF=64:=rfl;have a:[x].length=1:=rfl;rw[e,a];omega
def GB.l2{l:List S}(h:GB l c n)(x:S):l.length+[x].length<=140737488355328:=by have:=h.2.2.2.2;have a:[x].length=1:=rfl;rw[a];omega
def awN(l:List S)(q:bf)(c:aY)(n:Nat)(h:GB l c n):dA prog 175 (bX (cy (gH 0 1 2 l))) ([.c (.ptr 0 0),wE .mono q,wE .cM c].map SE.aI) (bX (cy (gH 0 1 3 (gZ l q c)))) (·∈[0,1]) (ST.cE (U:=Un) []).aI:=by
 refine vO func175 rfl ⟨[asm,JQ,F1],[]⟩ [] [0,1] ⟨[],gH 0 1 3 (gZ l q c),4⟩ ?_;repeat' first|intro _|apply aQ
 all_goals first|exact bj|((with_reducible show(_&&_)=true);kernel_rfl)| (with_reducible first|rfl|exact azx l|exact ads l 0|exact ayj q|exact h.c1|exact h.l1 _|exact h.l2 _)|(rename_i b;with_reducible first|exact awU b|exact awV b|exact awW b)|(rename_i b;with_reducible first|exact abX b|exact abY b|exact ab0 b|exact h.x1 b|exact h.c2 b)|(rename_i a x f;with_reducible first|exact abX a|exact abY a|exact ab0 a)|rename_i f d b;with_reducible exact h.x2 f b|(rename_i e i v a x f y g;with_reducible first|exact awZ e a f|exact aw0 e a f|exact QH e a f g)|(rename_i e a;with_reducible first|exact awX e a _|exact awY e a|exact abW e a)
def agM(H:List (Nat×aZ Un))(args:List (SE Un))(K:iA Un->Prop):Prop:=
 match H,args with
 |[],[]=>K ⟨.e (.c (.ptr 0 0)),gH 0 1 2 [],[],[]⟩
 |_,_=>False
def Sc:gy prog Un where
 f:=174
 iu:=at6
 run:=agM
 ok H args K h:=by
  unfold agM at h;split at h
  ·refine⟨_,?_,λu a b=>?_,h⟩
   ·exact aBp.gL λu a=>by simp at a
   ·simp at a
  ·cases h
@[irreducible] def Ez(l:List S)(c:aY):Prop:=∃n,GB l c n
def GB.e{l:List S}(h:GB l c n):Ez l c:=by unfold Ez;exact⟨n,h⟩
def agI(H:List (Nat×aZ Un))(args:List (SE Un))(K:iA Un->Prop):Prop:=
 match H,args with
 |[(0,.cells [.mp 1,.aX 2 W.bn m]),(1,.lc e),(2,.aW W.bn l)],[.c (.ptr 0 0),.agg [.d (.sc (.int .i64 i)),.d (.sc (.int .i64 h)),.d (.sc (.int .i64 g)),.d (.sc (.int .i64 f))],.agg [.d (.cK a),.d (.bN W.u32 b)]]=>m=l.length/\e=gI l 0/\Ez l ⟨a,b⟩/\K ⟨.cE [],gH 0 1 3 (gZ l ⟨i,h,g,f⟩ ⟨a,b⟩),[2],[0,1,2]⟩
 |_,_=>False
def Sb:gy prog Un where
 f:=175
 iu:=at7
 run:=agI
 ok H args K h:=by
  unfold agI at h;split at h
  ·obtain⟨rfl,rfl,b,g⟩:=h;unfold Ez at b;obtain⟨n,b⟩:=b;refine⟨_,?_,λu a d=>?_,g⟩
   ·rename_i l m k j i c o;exact(awN l ⟨m,k,j,i⟩ ⟨c,o⟩ n b).gL λu a=>by have p:u<3:=a.1;have e:=a.2;simp at e⊢;omega
   ·have:u<3:=a;simp at d;omega
  ·cases h
def gl(x y:Int):Int:=if x<y then-1 else if y<x then 1 else 0
@[irreducible] def pa(p q:bf):Int:=
  if gl p.e4 q.e4≠0 then gl p.e4 q.e4 else if gl p.e3 q.e3≠0 then gl p.e3 q.e3 else if gl p.e2 q.e2≠0 then gl p.e2 q.e2 else gl p.e1 q.e1
def aqx{y:Int}(h:decide (x<y)=true):-1=gl x y:=by unfold gl;rw[aM (an h)]
def aqy{y:Int}(h:decide (x<y)=false)(a:decide (y<x)=true):1=gl x y:=by unfold gl;rw[Z (an h),aM (an a)]
def aqz{y:Int}(h:decide (x<y)=false)(a:decide (y<x)=false):0=gl x y:=by unfold gl;rw[Z (an h),Z (an a)]
def ad5(h:(x !=x)=true):False:=by simp at h
@[irreducible] def CG(p q:bf)(i:Int):=-1<=i/\i<=3/\(i<3->gl p.e4 q.e4=0)/\(i<2->gl p.e3 q.e3=0)/\(i<1->gl p.e2 q.e2=0)/\(i<0->gl p.e1 q.e1=0)
def ajX(p q:bf):CG p q 3:=by unfold CG;omega
def CG.lt(h:CG y q v/\True):v<((4:Nat):Int):=by have:=h.1;unfold CG at this;omega
def aqG(g:CG y q x/\True)(e:x=((3:Nat):Int))(h:(gl y.e4 q.e4 !=0)=true):gl y.e4 q.e4=pa y q:=by have g:=g.1;have h:gl y.e4 q.e4≠0:=an h;unfold CG at g;unfold pa;obtain⟨a,b,c,g3,d,f⟩:=g;rw[aM h]
def aj1(g:CG y q x/\True)(e:x=((3:Nat):Int))(h:(gl y.e4 q.e4 !=0)=false):CG y q (x-1):=by have g:=g.1;have h:gl y.e4 q.e4=0:=an h;unfold CG at*;omega
def aqF(g:CG y q x/\True)(e:x=((2:Nat):Int))(h:(gl y.e3 q.e3 !=0)=true):gl y.e3 q.e3=pa y q:=by have g:=g.1;have h:gl y.e3 q.e3≠0:=an h;unfold CG at g;unfold pa;obtain⟨b,c,a,g3,d,f⟩:=g;rw[Z (by have:=a O;omega),aM h]
def aj0(g:CG y q x/\True)(e:x=((2:Nat):Int))(h:(gl y.e3 q.e3 !=0)=false):CG y q (x-1):=by have g:=g.1;have h:gl y.e3 q.e3=0:=an h;unfold CG at*;omega
def aqE(g:CG y q x/\True)(e:x=((1:Nat):Int))(h:(gl y.e2 q.e2 !=0)=true):gl y.e2 q.e2=pa y q:=by have g:=g.1;have h:gl y.e2 q.e2≠0:=an h;unfold CG at g;unfold pa;obtain⟨b,c,a,g3,d,f⟩:=g;rw[Z (by have:=a O;omega),Z (by have:=g3 O;omega),aM h]
def ajZ(g:CG y q x/\True)(e:x=((1:Nat):Int))(h:(gl y.e2 q.e2 !=0)=false):CG y q (x-1):=by have g:=g.1;have h:gl y.e2 q.e2=0:=an h;unfold CG at*;omega
def aqD(g:CG y q x/\True)(e:x=((0:Nat):Int))(h:(gl y.e1 q.e1 !=0)=true):gl y.e1 q.e1=pa y q:=by have g:=g.1;have h:gl y.e1 q.e1≠0:=an h;unfold CG at g;unfold pa;obtain⟨c,d,a,g3,b,f⟩:=g;rw[Z (by have:=a O;omega),Z (by have:=g3 O;omega),Z (by have:=b O;omega)]
def ajY(g:CG y q x/\True)(e:x=((0:Nat):Int))(h:(gl y.e1 q.e1 !=0)=false):CG y q (x-1):=by have g:=g.1;have h:gl y.e1 q.e1=0:=an h;unfold CG at*;omega
def aqC(g:CG y q v/\True)(a:decide (0<=v)=false):0=pa y q:=by have g:=g.1;simp only[bc]at a;unfold CG at g;obtain⟨e,f,b,g3,c,d⟩:=g;unfold pa;rw[Z (by have:=b O;omega),Z (by have:=g3 O;omega),Z (by have:=c O;omega)];exact(d O).symm
def axH(x:Int):bh 293 [wI .i64 x] (bT (x !=x)):=by
 refine vF func293 rfl [] [] ?_;repeat' first|intro _|apply aQ
 all_goals first|exact bj|rfl
def ar6:=dj (.int .i64) λx (_:True)=>axH x
def aqA(x y:Int):bh 270 [wI .i64 x,wI .i64 y] (iT (gl x y)):=by
 refine vF func270 rfl [ar6] [] ?_;repeat' first|intro _|apply aQ
 all_goals first|exact bj|exfalso;rename_i h;exact ad5 h|exfalso;rename_i h _;exact ad5 h|rename_i h;exact aqx h|(rename_i h a;first|exact aqy h a|exact aqz h a)
def arD:=eI (.int .i64) (.int .i64) λx y (_:True)=>aqA x y
def aqH(p q:bf):bh 223 [wE .mono p,wE .mono q] (iT (pa p q)):=by
 refine vF func223 rfl [arD] [(2,⟨Int,λx=>⟨[(2,br 0),(3,br 1),(5,iT x)],[(0,.cells [cG p.e1,cG p.e2,cG p.e3,cG p.e4]),(1,.cells [cG q.e1,cG q.e2,cG q.e3,cG q.e4])],2⟩,λx=>CG p q x/\True,λx=>(x+1).toNat⟩)] ?_;repeat' first|intro _|apply aQ|refine aS 3 (aQ ?_ λ(x:Int)(a:CG p q x/\True)=>?_)|refine aS (x-1) ?_
 all_goals first|exact bj|((with_reducible show(_&&_)=true);kernel_rfl)|rfl|omega| (with_reducible first|exact ajX p q|exact CG.lt a)|rename_i h;with_reducible exact aqC a h|simp only[be,bc]at*;omega|(rename_i h;first| (with_reducible first|exact aqG a ‹x=((3:Nat):Int)› h|exact aqF a ‹x=((2:Nat):Int)› h|exact aqE a ‹x=((1:Nat):Int)› h|exact aqD a ‹x=((0:Nat):Int)› h|exact aj1 a ‹x=((3:Nat):Int)› h|exact aj0 a ‹x=((2:Nat):Int)› h|exact ajZ a ‹x=((1:Nat):Int)› h|exact ajY a ‹x=((0:Nat):Int)› h))
def arF:=eI (.el W.mono) (.el W.mono) λp q (_:True)=>aqH p q
def Oj(q:bf):SE Un:=.agg [.any,.any,.d (.sc (.int .i64 q.e1)),.d (.sc (.int .i64 q.e2)),.d (.sc (.int .i64 q.e3)),.d (.sc (.int .i64 q.e4))]
def ay7(a b:bf):bh 222 [Oj a,Oj b] (iT (pa b a)):=by
 refine vF func222 rfl [arF] [] ?_;repeat' first|intro _|apply aQ
 all_goals first|exact bj|rfl
def cg(q:bf)(a:Int):Int:=if a=1 then q.e1 else if a=2 then q.e2 else if a=3 then q.e3 else q.e4
def eP(q:bf)(a v:Int):bf:=if a=1 then⟨v,q.e2,q.e3,q.e4⟩else if a=2 then⟨q.e1,v,q.e3,q.e4⟩else if a=3 then⟨q.e1,q.e2,v,q.e4⟩else⟨q.e1,q.e2,q.e3,v⟩
def aGW(q:bf)(a v u:Int):eP (eP q a v) a u=eP q a u:=by unfold eP;split<;>(try rfl);split<;>(try rfl);split<;>rfl
mutual
def nP:J->Nat
 |.mk _ _ _ a=>1+iR a
def iR:List J->Nat
 |[]=>0
 |p::r=>nP p+iR r
end
def Lp(p:J):nP p=1+iR p.aL:=by cases p;rw[nP];rfl
def GW:iR []=0:=by rw[iR]
def xL(p:J)(r:List J):iR (p::r)=nP p+iR r:=by rw[iR]
def zq(p:J):1<=nP p:=by rw[Lp];omega
theorem Lq:∀l:List J,l.length<=iR l
 |[]=>by simp
 |p::r=>by have:=Lq r;have:=zq p;rw[xL];simp;omega
theorem adR:∀(l:List J)(i:Nat)(c:J),l[i]?=some c->iR (l.take i)+nP c<=iR l
 |[],i,c,h=>by simp at h
 |p::r,0,c,h=>by simp only[kg,cS]at h;subst h;rw[gx,GW,xL];omega
 |p::r,i+1,c,h=>by have:=adR r i c (an h);rw[o4,xL,xL];omega
mutual
def cJ:J->bf->List S
 |.mk a b e d,q=>if a<=0 then [⟨b,e,q.e1,q.e2,q.e3,q.e4⟩]else if 4<a then []else gF a d q (cg q a) 0
def gF (a:Int):List J->bf->Int->Nat->List S
 |[],_,_,_=>[]
 |c::r,q,s,i=>cJ c (eP q a (s+i))++gF a r q s (i+1)
end
def FT(p:J)(q:bf):cJ p q=if p.aK<=0 then [⟨p.neg,p.aC,q.e1,q.e2,q.e3,q.e4⟩]else if 4<p.aK then []else gF p.aK p.aL q (cg q p.aK) 0:=by cases p;rw[cJ];rfl
def Pf(a:Int)(q:bf)(s:Int)(i:Nat):gF a [] q s i=[]:=by rw[gF]
def JL(a:Int)(c:J)(r:List J)(q:bf)(s:Int)(i:Nat):gF a (c::r) q s i=cJ c (eP q a (s+i))++gF a r q s (i+1):=by rw[gF]
theorem JK(d:Int)(q:bf)(s:Int):∀(a b:List J)(i:Nat),gF d (a++b) q s i=gF d a q s i++gF d b q s (i+a.length)
 |[],b,i=>by rw[gf,Pf];rfl
 |c::a,b,i=>by rw[eB,JL,JL,JK d q s a b (i+1),gM];congr 3;simp;omega
mutual
theorem JJ:∀(p:J)(q:bf),(cJ p q).length<=nP p
 |.mk a d g b,q=>by
  have:=Pe a b q (cg q a) 0
  rw[cJ,nP]
  split
  ·simp
  ·split
   ·simp
   ·omega
theorem Pe (a:Int):∀(l:List J)(q:bf)(s:Int)(i:Nat),(gF a l q s i).length<=iR l
 |[],q,s,i=>by rw[gF];simp
 |c::r,q,s,i=>by
  have f:=JJ c (eP q a (s+i))
  have e:=Pe a r q s (i+1)
  rw[gF,iR]
  simp;omega
end
@[irreducible] def gg(p:J)(q:bf)(i:Nat):List S:=gF p.aK (p.aL.take i) q (cg q p.aK) 0
def JE(p:J)(q:bf):gg p q 0=[]:=by unfold gg;rw[gx,Pf]
def JF(h:p.aL[i]?=some X):gg p q (i+1)=gg p q i++cJ X (eP q p.aK (cg q p.aK+i)):=by
 unfold gg;have a:i<p.aL.length:=(du.1 h).1;have e:p.aL.take (i+1)=p.aL.take i++[X]:=by rw[fy,h];rfl
 rw[e,JK,JL,Pf,lB];congr 4;simp;omega
def YL(a:decide (p.aK<=0)=false)(b:decide (4<p.aK)=false)(h:p.aL.length<=i):gg p q i=cJ p q:=by simp only[bc]at a b;rw[FT,Z a,Z b];unfold gg;rw[eL h]
def aq7(p:J)(q:bf)(i:Nat):(gg p q i).length<=iR (p.aL.take i):=by unfold gg;exact Pe _ _ _ _ _
@[irreducible] def CB(l:List S)(p:J)(q:bf):=l.length+nP p<=1000000000/\(0<=q.e1/\q.e1+nP p<=1000000000)/\(0<=q.e2/\q.e2+nP p<=1000000000)/\(0<=q.e3/\q.e3+nP p<=1000000000)/\(0<=q.e4/\q.e4+nP p<=1000000000)
def CB.Jx{l:List S}(h:CB l p q)(a:p.aL[i]?=some X):CB (l++gg p q i) X (eP q p.aK (cg q p.aK+i)):=by
 unfold CB at*;have d:=adR _ _ _ a;have b:=Lq (p.aL.take i);have e:i<p.aL.length:=(du.1 a).1;have f:=aq7 p q i;have g:=Lp p;rw[gw]at b;refine⟨by simp;omega,?_⟩;unfold eP cg;split
 ·simp only;omega
 ·split
  ·simp only;omega
  ·split
   ·simp only;omega
   ·simp only;omega
def CB.inr{l:List S}(h:CB l p q)(a:i<p.aL.length):pT (cg q p.aK+i):=by
 unfold CB at h;have b:=Lp p;have c:=Lq p.aL;unfold pT cg;split
 ·omega
 ·split
  ·omega
  ·split<;>omega
@[irreducible] def SG(q:bf)(a:Int)(y:bf):=∀v,eP y a v=eP q a v
def yJ(q:bf)(a:Int):SG q a q:=by unfold SG;intro v;rfl
def yK(q:bf)(a v:Int):SG q a (eP q a v):=by unfold SG;intro u;exact aGW q a v u
def D2(h:SG q x y)(e:x-1=((0:Nat):Int)):(⟨v,y.e2,y.e3,y.e4⟩:bf)=eP q x v:=by have e:x=1:=O;subst e;unfold SG at h;exact h v
def abS{lv:Int}(e:lv-1=((0:Nat):Int)):q.e1=cg q lv:=by have e:lv=1:=O;subst e;rfl
def ahx(h:SG q x y)(e:x-1=((0:Nat):Int)):v=(eP q x v).e1:=by rw[<-D2 h e]
def ahy(h:SG q x y)(e:x-1=((0:Nat):Int)):y.e2=(eP q x v).e2:=by rw[<-D2 h e]
def ahz(h:SG q x y)(e:x-1=((0:Nat):Int)):y.e3=(eP q x v).e3:=by rw[<-D2 h e]
def ahA(h:SG q x y)(e:x-1=((0:Nat):Int)):y.e4=(eP q x v).e4:=by rw[<-D2 h e]
def O_{l:List S}(h:SG q p.aK y)(e:p.aK-1=((0:Nat):Int))(a:p.aL[(i:Int).toNat]?=some X):l++gg p q i++cJ (.mk X.aK X.neg X.aC X.aL) ⟨(cg q p.aK+i),y.e2,y.e3,y.e4⟩=l++gg p q (i+1):=by rw[bt]at a;rw[bz,D2 h e,gM,JF a]
def YY{l:List S}(h:SG q p.aK y)(e:p.aK-1=((0:Nat):Int))(a:p.aL[(i:Int).toNat]?=some X):(l++gg p q i++cJ (.mk X.aK X.neg X.aC X.aL) ⟨(cg q p.aK+i),y.e2,y.e3,y.e4⟩).length=(l++gg p q (i+1)).length:=by rw[O_ h e a]
def Yk{l:List S}(b:CB l p q)(h:SG q p.aK y)(e:p.aK-1=((0:Nat):Int))(a:p.aL[(i:Int).toNat]?=some X):CB (l++gg p q i) (.mk X.aK X.neg X.aC X.aL) ⟨(cg q p.aK+i),y.e2,y.e3,y.e4⟩:=by rw[bt]at a;rw[bz,D2 h e];exact b.Jx a
def D3(h:SG q x y)(e:x-1=((1:Nat):Int)):(⟨y.e1,v,y.e3,y.e4⟩:bf)=eP q x v:=by have e:x=2:=O;subst e;unfold SG at h;exact h v
def abT{lv:Int}(e:lv-1=((1:Nat):Int)):q.e2=cg q lv:=by have e:lv=2:=O;subst e;rfl
def ahB(h:SG q x y)(e:x-1=((1:Nat):Int)):y.e1=(eP q x v).e1:=by rw[<-D3 h e]
def ahC(h:SG q x y)(e:x-1=((1:Nat):Int)):v=(eP q x v).e2:=by rw[<-D3 h e]
def ahD(h:SG q x y)(e:x-1=((1:Nat):Int)):y.e3=(eP q x v).e3:=by rw[<-D3 h e]
def ahE(h:SG q x y)(e:x-1=((1:Nat):Int)):y.e4=(eP q x v).e4:=by rw[<-D3 h e]
def Pa{l:List S}(h:SG q p.aK y)(e:p.aK-1=((1:Nat):Int))(a:p.aL[(i:Int).toNat]?=some X):l++gg p q i++cJ (.mk X.aK X.neg X.aC X.aL) ⟨y.e1,(cg q p.aK+i),y.e3,y.e4⟩=l++gg p q (i+1):=by rw[bt]at a;rw[bz,D3 h e,gM,JF a]
def YZ{l:List S}(h:SG q p.aK y)(e:p.aK-1=((1:Nat):Int))(a:p.aL[(i:Int).toNat]?=some X):(l++gg p q i++cJ (.mk X.aK X.neg X.aC X.aL) ⟨y.e1,(cg q p.aK+i),y.e3,y.e4⟩).length=(l++gg p q (i+1)).length:=by rw[Pa h e a]
def Yl{l:List S}(b:CB l p q)(h:SG q p.aK y)(e:p.aK-1=((1:Nat):Int))(a:p.aL[(i:Int).toNat]?=some X):CB (l++gg p q i) (.mk X.aK X.neg X.aC X.aL) ⟨y.e1,(cg q p.aK+i),y.e3,y.e4⟩:=by rw[bt]at a;rw[bz,D3 h e];exact b.Jx a
def D4(h:SG q x y)(e:x-1=((2:Nat):Int)):(⟨y.e1,y.e2,v,y.e4⟩:bf)=eP q x v:=by have e:x=3:=O;subst e;unfold SG at h;exact h v
def abU{lv:Int}(e:lv-1=((2:Nat):Int)):q.e3=cg q lv:=by have e:lv=3:=O;subst e;rfl
def ahF(h:SG q x y)(e:x-1=((2:Nat):Int)):y.e1=(eP q x v).e1:=by rw[<-D4 h e]
def ahG(h:SG q x y)(e:x-1=((2:Nat):Int)):y.e2=(eP q x v).e2:=by rw[<-D4 h e]
def ahH(h:SG q x y)(e:x-1=((2:Nat):Int)):v=(eP q x v).e3:=by rw[<-D4 h e]
def ahI(h:SG q x y)(e:x-1=((2:Nat):Int)):y.e4=(eP q x v).e4:=by rw[<-D4 h e]
def Pb{l:List S}(h:SG q p.aK y)(e:p.aK-1=((2:Nat):Int))(a:p.aL[(i:Int).toNat]?=some X):l++gg p q i++cJ (.mk X.aK X.neg X.aC X.aL) ⟨y.e1,y.e2,(cg q p.aK+i),y.e4⟩=l++gg p q (i+1):=by rw[bt]at a;rw[bz,D4 h e,gM,JF a]
def Y0{l:List S}(h:SG q p.aK y)(e:p.aK-1=((2:Nat):Int))(a:p.aL[(i:Int).toNat]?=some X):(l++gg p q i++cJ (.mk X.aK X.neg X.aC X.aL) ⟨y.e1,y.e2,(cg q p.aK+i),y.e4⟩).length=(l++gg p q (i+1)).length:=by rw[Pb h e a]
def Ym{l:List S}(b:CB l p q)(h:SG q p.aK y)(e:p.aK-1=((2:Nat):Int))(a:p.aL[(i:Int).toNat]?=some X):CB (l++gg p q i) (.mk X.aK X.neg X.aC X.aL) ⟨y.e1,y.e2,(cg q p.aK+i),y.e4⟩:=by rw[bt]at a;rw[bz,D4 h e];exact b.Jx a
def D5(h:SG q x y)(e:x-1=((3:Nat):Int)):(⟨y.e1,y.e2,y.e3,v⟩:bf)=eP q x v:=by have e:x=4:=O;subst e;unfold SG at h;exact h v
def abV{lv:Int}(e:lv-1=((3:Nat):Int)):q.e4=cg q lv:=by have e:lv=4:=O;subst e;rfl
def ahJ(h:SG q x y)(e:x-1=((3:Nat):Int)):y.e1=(eP q x v).e1:=by rw[<-D5 h e]
def ahK(h:SG q x y)(e:x-1=((3:Nat):Int)):y.e2=(eP q x v).e2:=by rw[<-D5 h e]
def ahL(h:SG q x y)(e:x-1=((3:Nat):Int)):y.e3=(eP q x v).e3:=by rw[<-D5 h e]
def ahM(h:SG q x y)(e:x-1=((3:Nat):Int)):v=(eP q x v).e4:=by rw[<-D5 h e]
def Pc{l:List S}(h:SG q p.aK y)(e:p.aK-1=((3:Nat):Int))(a:p.aL[(i:Int).toNat]?=some X):l++gg p q i++cJ (.mk X.aK X.neg X.aC X.aL) ⟨y.e1,y.e2,y.e3,(cg q p.aK+i)⟩=l++gg p q (i+1):=by rw[bt]at a;rw[bz,D5 h e,gM,JF a]
def Y1{l:List S}(h:SG q p.aK y)(e:p.aK-1=((3:Nat):Int))(a:p.aL[(i:Int).toNat]?=some X):(l++gg p q i++cJ (.mk X.aK X.neg X.aC X.aL) ⟨y.e1,y.e2,y.e3,(cg q p.aK+i)⟩).length=(l++gg p q (i+1)).length:=by rw[Pc h e a]
def Yn{l:List S}(b:CB l p q)(h:SG q p.aK y)(e:p.aK-1=((3:Nat):Int))(a:p.aL[(i:Int).toNat]?=some X):CB (l++gg p q i) (.mk X.aK X.neg X.aC X.aL) ⟨y.e1,y.e2,y.e3,(cg q p.aK+i)⟩:=by rw[bt]at a;rw[bz,D5 h e];exact b.Jx a
def YN{l:List S}(h:decide (p.aK<=0)=true):l++[⟨p.neg,p.aC,q.e1,q.e2,q.e3,q.e4⟩]=l++cJ p q:=by rw[FT,aM (an h)]
def aq9{l:List S}(h:decide (p.aK<=0)=true):l.length+[(⟨p.neg,p.aC,q.e1,q.e2,q.e3,q.e4⟩:S)].length=(l++cJ p q).length:=by rw[<-YN h];simp
def Pd{l:List S}(h:decide (p.aK<=0)=false)(a:decide (4<p.aK)=true):l=l++cJ p q:=by simp only[be,bc]at h a;rw[FT,Z h,aM a];simp
def YM{l:List S}(h:decide (p.aK<=0)=false)(a:decide (4<p.aK)=true):l.length=(l++cJ p q).length:=by rw[<-Pd h a]
def FR{l:List S}:l=l++gg p q 0:=by rw[JE];simp
def JH{l:List S}:l.length=(l++gg p q 0).length:=by rw[<-FR]
def FQ{l:List S}(a:decide (p.aK<=0)=false)(b:decide (4<p.aK)=false)(h:decide ((i:Int)<p.aL.length)=false):l++gg p q i=l++cJ p q:=by simp only[bc]at h;rw[YL a b O]
def JG{l:List S}(a:decide (p.aK<=0)=false)(b:decide (4<p.aK)=false)(h:decide ((i:Int)<p.aL.length)=false):(l++gg p q i).length=(l++cJ p q).length:=by rw[FQ a b h]
def CB.b1{l:List S}(h:CB l p q)(x:S):(l.length+[x].length)*yd.dF<=140737488355328:=by unfold CB at h;have e:yd.dF=64:=rfl;have a:[x].length=1:=rfl;rw[e,a];omega
def CB.b2{l:List S}(h:CB l p q)(x:S):l.length+[x].length<=140737488355328:=by unfold CB at h;have a:[x].length=1:=rfl;rw[a];omega
def Ds(a:decide (p.aK<=0)=false)(b:decide (4<p.aK)=false):0<=p.aK-1/\p.aK-1<((4:Nat):Int)/\pT (p.aK-1):=by simp only[bc]at a b;unfold pT;omega
def adn(a:decide (p.aK<=0)=false)(b:decide (4<p.aK)=false):-9223372036854775808<=p.aK-1:=by have:=Ds a b;omega
def ado(a:decide (p.aK<=0)=false)(b:decide (4<p.aK)=false):p.aK-1<=9223372036854775807:=by have:=Ds a b;omega
def zX{a:Type}{q:a}:(0:Int)=(((0,q):Nat×a).1:Int):=rfl
def zR(h:p.aL[(i:Int).toNat]?=some X):SizeOf.sizeOf (J.mk X.aK X.neg X.aC X.aL)<SizeOf.sizeOf p:=by rw[bt]at h;rw[bz];have a:=Wx (bM h);cases p;simp only[J.aL,J.mk.sizeOf_spec]at a⊢;omega
def aax:gv prog 129:=gY func129 af rfl
def Vd(l:List S)(p:J)(q:bf):Prop:=dA prog 129 (bX (cy [(0,aZ.aW (U:=Un) W.bn l)])) ([.c (.aX 0 W.bn l.length),wE .aF p,wE .mono q].map SE.aI) (bX (cy [(1,aZ.aW (U:=Un) W.bn (l++cJ p q))])) (·∈[]) (ST.e (U:=Un) (.c (.aX 1 W.bn (l++cJ p q).length))).aI
def agA(Q:J->Prop)(H:List (Nat×aZ Un))(args:List (SE Un))(K:iA Un->Prop):Prop:=
 match H,args with
 |[(0,.aW W.bn l)],[.c (.aX 0 W.bn m),.agg [.d (.sc (.int .i64 b)),.d (.cK a),.d (.bN W.u32 g),.d (.bN W.aF f)],.agg [.d (.sc (.int .i64 k)),.d (.sc (.int .i64 j)),.d (.sc (.int .i64 i)),.d (.sc (.int .i64 h))]]=>m=l.length/\Q (.mk b a g f)/\CB l (.mk b a g f) ⟨k,j,i,h⟩/\K ⟨.e (.c (.aX 1 W.bn (l++cJ (.mk b a g f) ⟨k,j,i,h⟩).length)),[(1,.aW W.bn (l++cJ (.mk b a g f) ⟨k,j,i,h⟩))],[0],[0]⟩
 |_,_=>False
def aeI(Q:J->Prop)(b:∀l p q,Q p->CB l p q->Vd l p q):gy prog Un where
 f:=129
 iu:=aax
 run:=agA Q
 ok H args K h:=by
  unfold agA at h;split at h
  ·rename_i l _ k j v t s r o n;obtain⟨rfl,i,g,e⟩:=h;refine⟨_,?_,λu a c=>?_,e⟩
   ·exact(b l _ _ i g).gL λu a=>by have m:u<1:=a.1;have d:=a.2;simp at d;omega
   ·have:u<1:=a;simp at c;omega
  ·cases h
def aq8(p:J):∀(l:List S)(q:bf),CB l p q->Vd l p q:=by
 generalize o:SizeOf.sizeOf p=D
 induction D using Nat.strongRecOn generalizing p
 rename_i D n;subst o;intro l q k;refine vO func129 rfl ⟨[],[aeI (λc=>SizeOf.sizeOf c<SizeOf.sizeOf p) (λl c q f=>n _ f c rfl l q)]⟩ [(7,⟨Nat×bf,λx=>⟨[(0,.e (.c (.aX 0 W.bn (l++gg p q x.1).length))),(4,br 1),(5,br 2),(7,iT (cg q p.aK)),(32,lT .aF p.aL),(33,iT p.aL.length),(34,iT x.1)],[(0,.aW W.bn (l++gg p q x.1)),(1,.cells [cG p.aK,.d (.cK p.neg),.d (.bN W.u32 p.aC),.d (.bN W.aF p.aL)]),(2,.cells [cG x.2.e1,cG x.2.e2,cG x.2.e3,cG x.2.e4])],3⟩,λx=>x.1<=p.aL.length/\SG q p.aK x.2,λx=>p.aL.length-x.1⟩)] [] ⟨[(6,.e (.c (.aX 1 W.bn (l++cJ p q).length)))],[(1,.aW W.bn (l++cJ p q))],2⟩ ?_;repeat' first|intro _|apply aQ
 case ind.right.right.right.right.right.left.left.left.right=>
  rename_i j g a m;refine aS (0,q) (aQ ?_ λ(x:Nat×bf)(b:x.1<=p.aL.length/\SG q p.aK x.2)=>?_);repeat' (first|rename_i e;exact absurd (a.symm.trans e) ae|intro _|apply aQ|refine aS (x.1+1,eP q p.aK (cg q p.aK+x.1)) ?_)
  all_goals first|exact bj| (with_reducible first|rfl|exact FR|exact zX|exact dz _|exact JH|exact yJ q p.aK|exact yK q p.aK _|exact abS a|exact ahx b.2 a|exact ahy b.2 a|exact ahz b.2 a|exact ahA b.2 a)|(rename_i f _;with_reducible first|exact O_ b.2 a f|exact YY b.2 a f|exact Yk k b.2 a f|exact zR f)|(rename_i h;with_reducible first|exact FQ j g h|exact JG j g h)|simp only[be,bc]at*;have:=b.1;(first|omega|(have:=k.inr (i:=x.1) O;unfold pT at this;omega))
 case ind.right.right.right.right.right.left.left.right=>
  rename_i j g a m;refine aS (0,q) (aQ ?_ λ(x:Nat×bf)(b:x.1<=p.aL.length/\SG q p.aK x.2)=>?_);repeat' (first|rename_i e;exact absurd (a.symm.trans e) ae|intro _|apply aQ|refine aS (x.1+1,eP q p.aK (cg q p.aK+x.1)) ?_)
  all_goals first|exact bj| (with_reducible first|rfl|exact FR|exact zX|exact dz _|exact JH|exact yJ q p.aK|exact yK q p.aK _|exact abT a|exact ahB b.2 a|exact ahC b.2 a|exact ahD b.2 a|exact ahE b.2 a)|(rename_i f _;with_reducible first|exact Pa b.2 a f|exact YZ b.2 a f|exact Yl k b.2 a f|exact zR f)|(rename_i h;with_reducible first|exact FQ j g h|exact JG j g h)|simp only[be,bc]at*;have:=b.1;(first|omega|(have:=k.inr (i:=x.1) O;unfold pT at this;omega))
 case ind.right.right.right.right.right.left.right=>
  rename_i j g a m;refine aS (0,q) (aQ ?_ λ(x:Nat×bf)(b:x.1<=p.aL.length/\SG q p.aK x.2)=>?_);repeat' (first|rename_i e;exact absurd (a.symm.trans e) ae|intro _|apply aQ|refine aS (x.1+1,eP q p.aK (cg q p.aK+x.1)) ?_)
  all_goals first|exact bj| (with_reducible first|rfl|exact FR|exact zX|exact dz _|exact JH|exact yJ q p.aK|exact yK q p.aK _|exact abU a|exact ahF b.2 a|exact ahG b.2 a|exact ahH b.2 a|exact ahI b.2 a)|(rename_i f _;with_reducible first|exact Pb b.2 a f|exact Y0 b.2 a f|exact Ym k b.2 a f|exact zR f)|(rename_i h;with_reducible first|exact FQ j g h|exact JG j g h)|simp only[be,bc]at*;have:=b.1;(first|omega|(have:=k.inr (i:=x.1) O;unfold pT at this;omega))
 case ind.right.right.right.right.right.right=>
  rename_i j g a m;refine aS (0,q) (aQ ?_ λ(x:Nat×bf)(b:x.1<=p.aL.length/\SG q p.aK x.2)=>?_);repeat' (first|rename_i e;exact absurd (a.symm.trans e) ae|intro _|apply aQ|refine aS (x.1+1,eP q p.aK (cg q p.aK+x.1)) ?_)
  all_goals first|exact bj| (with_reducible first|rfl|exact FR|exact zX|exact dz _|exact JH|exact yJ q p.aK|exact yK q p.aK _|exact abV a|exact ahJ b.2 a|exact ahK b.2 a|exact ahL b.2 a|exact ahM b.2 a)|(rename_i f _;with_reducible first|exact Pc b.2 a f|exact Y1 b.2 a f|exact Yn k b.2 a f|exact zR f)|(rename_i h;with_reducible first|exact FQ j g h|exact JG j g h)|simp only[be,bc]at*;have:=b.1;(first|omega|(have:=k.inr (i:=x.1) O;unfold pT at this;omega))
 all_goals first|exact bj| (with_reducible first|rfl|exact k.b1 _|exact k.b2 _)|(rename_i h;with_reducible first|exact YN h|exact aq9 h)|(rename_i j g;with_reducible first|exact Pd j g|exact YM j g|exact(Ds j g).1|exact(Ds j g).2.1|exact(adn j g)|exact(ado j g))
def Fs:([]:List S)++gg p q 0=[]:=by rw[JE];rfl
def Fu:(([]:List S)++gg p q 0).length=0:=by rw[JE];rfl
def Fv:0=(([]:List S)++gg p q 0).length:=by rw[JE];rfl
def Fz{x:S}(h:[x]=[]):False:=by cases h
def Fw(x:S):[x]≠[]:=ai
def Fx(x:S):[x].length*yd.dF<=140737488355328:=by have e:yd.dF=64:=rfl;rw[e];simp
def Fy(x:S):[x].length<=140737488355328:=ai
def X_(h:decide (p.aK<=0)=true):[⟨p.neg,p.aC,q.e1,q.e2,q.e3,q.e4⟩]=cJ p q:=by rw[FT,aM (an h)]
def apG(h:decide (p.aK<=0)=true):[(⟨p.neg,p.aC,q.e1,q.e2,q.e3,q.e4⟩:S)].length=(cJ p q).length:=by rw[<-X_ h]
def X9(h:decide (p.aK<=0)=false)(a:decide (4<p.aK)=true):cJ p q=[]:=by simp only[be,bc]at h a;rw[FT,Z h,aM a]
def apE(h:decide (p.aK<=0)=false)(a:decide (4<p.aK)=true):(cJ p q).length=0:=by rw[X9 h a];rfl
def FA(a:decide (p.aK<=0)=false)(b:decide (4<p.aK)=false)(h:decide ((i:Int)<p.aL.length)=false):([]:List S)++gg p q i=cJ p q:=by simp only[bc]at h;rw[YL a b O];rfl
def Jm(a:decide (p.aK<=0)=false)(b:decide (4<p.aK)=false)(h:decide ((i:Int)<p.aL.length)=false):(([]:List S)++gg p q i).length=(cJ p q).length:=by rw[FA a b h]
def aq5(p:J)(q:bf)(k:CB [] p q):dA prog 129 (bX (cy (U:=Un) [])) ([.c (.d (.sc (.slice none 0 0))),wE .aF p,wE .mono q].map SE.aI) (bX (cy [(0,aZ.aW (U:=Un) W.bn (cJ p q))])) (·∈[]) (ST.e (U:=Un) (.c (.aX 0 W.bn (cJ p q).length))).aI:=by
 refine vO func129 rfl ⟨[],[aeI (λ_=>True) (λl c q _ h=>aq8 c l q h)]⟩ [(7,⟨Nat×bf,λx=>⟨[(0,.e (.c (.aX 0 W.bn (([]:List S)++gg p q x.1).length))),(4,br 1),(5,br 2),(7,iT (cg q p.aK)),(32,lT .aF p.aL),(33,iT p.aL.length),(34,iT x.1)],[(0,.aW W.bn (([]:List S)++gg p q x.1)),(1,.cells [cG p.aK,.d (.cK p.neg),.d (.bN W.u32 p.aC),.d (.bN W.aF p.aL)]),(2,.cells [cG x.2.e1,cG x.2.e2,cG x.2.e3,cG x.2.e4])],3⟩,λx=>x.1<=p.aL.length/\SG q p.aK x.2,λx=>p.aL.length-x.1⟩)] [] ⟨[(6,.e (.c (.aX 0 W.bn (cJ p q).length)))],[(0,.aW W.bn (cJ p q))],1⟩ ?_;repeat' first|intro _|apply aQ
 case right.right.right.right.right.left.left.left.right=>
  rename_i g f a m;refine aS (0,q) (aQ ?_ λ(x:Nat×bf)(b:x.1<=p.aL.length/\SG q p.aK x.2)=>?_);repeat' (first|rename_i e;exact absurd (a.symm.trans e) ae|intro _|apply aQ|refine aS (x.1+1,eP q p.aK (cg q p.aK+x.1)) ?_)
  all_goals first|exact bj| (with_reducible first|rfl|exact Fs|exact Fu|exact Fv|exact Fw _|exact Fx _|exact Fy _)|rename_i h;with_reducible exact Fz h|(rename_i h;with_reducible first|exact FA g f h|exact Jm g f h)| (with_reducible first|exact zX|exact dz _|exact yJ q p.aK|exact yK q p.aK _|exact abS a|exact ahx b.2 a|exact ahy b.2 a|exact ahz b.2 a|exact ahA b.2 a)|(rename_i j _;with_reducible first|exact O_ b.2 a j|exact YY b.2 a j|exact Yk k b.2 a j|exact zR j)|simp only[be,bc]at*;have:=b.1;(first|omega|(have:=k.inr (i:=x.1) O;unfold pT at this;omega))
 case right.right.right.right.right.left.left.right=>
  rename_i g f a m;refine aS (0,q) (aQ ?_ λ(x:Nat×bf)(b:x.1<=p.aL.length/\SG q p.aK x.2)=>?_);repeat' (first|rename_i e;exact absurd (a.symm.trans e) ae|intro _|apply aQ|refine aS (x.1+1,eP q p.aK (cg q p.aK+x.1)) ?_)
  all_goals first|exact bj| (with_reducible first|rfl|exact Fs|exact Fu|exact Fv|exact Fw _|exact Fx _|exact Fy _)|rename_i h;with_reducible exact Fz h|(rename_i h;with_reducible first|exact FA g f h|exact Jm g f h)| (with_reducible first|exact zX|exact dz _|exact yJ q p.aK|exact yK q p.aK _|exact abT a|exact ahB b.2 a|exact ahC b.2 a|exact ahD b.2 a|exact ahE b.2 a)|(rename_i j _;with_reducible first|exact Pa b.2 a j|exact YZ b.2 a j|exact Yl k b.2 a j|exact zR j)|simp only[be,bc]at*;have:=b.1;(first|omega|(have:=k.inr (i:=x.1) O;unfold pT at this;omega))
 case right.right.right.right.right.left.right=>
  rename_i g f a m;refine aS (0,q) (aQ ?_ λ(x:Nat×bf)(b:x.1<=p.aL.length/\SG q p.aK x.2)=>?_);repeat' (first|rename_i e;exact absurd (a.symm.trans e) ae|intro _|apply aQ|refine aS (x.1+1,eP q p.aK (cg q p.aK+x.1)) ?_)
  all_goals first|exact bj| (with_reducible first|rfl|exact Fs|exact Fu|exact Fv|exact Fw _|exact Fx _|exact Fy _)|rename_i h;with_reducible exact Fz h|(rename_i h;with_reducible first|exact FA g f h|exact Jm g f h)| (with_reducible first|exact zX|exact dz _|exact yJ q p.aK|exact yK q p.aK _|exact abU a|exact ahF b.2 a|exact ahG b.2 a|exact ahH b.2 a|exact ahI b.2 a)|(rename_i j _;with_reducible first|exact Pb b.2 a j|exact Y0 b.2 a j|exact Ym k b.2 a j|exact zR j)|simp only[be,bc]at*;have:=b.1;(first|omega|(have:=k.inr (i:=x.1) O;unfold pT at this;omega))
 case right.right.right.right.right.right=>
  rename_i g f a m;refine aS (0,q) (aQ ?_ λ(x:Nat×bf)(b:x.1<=p.aL.length/\SG q p.aK x.2)=>?_);repeat' (first|rename_i e;exact absurd (a.symm.trans e) ae|intro _|apply aQ|refine aS (x.1+1,eP q p.aK (cg q p.aK+x.1)) ?_)
  all_goals first|exact bj| (with_reducible first|rfl|exact Fs|exact Fu|exact Fv|exact Fw _|exact Fx _|exact Fy _)|rename_i h;with_reducible exact Fz h|(rename_i h;with_reducible first|exact FA g f h|exact Jm g f h)| (with_reducible first|exact zX|exact dz _|exact yJ q p.aK|exact yK q p.aK _|exact abV a|exact ahJ b.2 a|exact ahK b.2 a|exact ahL b.2 a|exact ahM b.2 a)|(rename_i j _;with_reducible first|exact Pc b.2 a j|exact Y1 b.2 a j|exact Yn k b.2 a j|exact zR j)|simp only[be,bc]at*;have:=b.1;(first|omega|(have:=k.inr (i:=x.1) O;unfold pT at this;omega))
 all_goals first|exact bj| (with_reducible first|exact Fs|exact Fu|exact Fv|exact Fw _|exact Fx _|exact Fy _)|rename_i h;with_reducible exact Fz h|(rename_i h;with_reducible first|exact X_ h|exact apG h)|(rename_i g f;with_reducible first|exact X9 g f|exact apE g f)|(rename_i g f;with_reducible first|exact Pd g f|exact YM g f|exact(Ds g f).1|exact(Ds g f).2.1|exact(adn g f)|exact(ado g f))
def agB(H:List (Nat×aZ Un))(args:List (SE Un))(K:iA Un->Prop):Prop:=
 match H,args with
 |[],[.c (.d (.sc (.slice none 0 0))),.agg [.d (.sc (.int .i64 b)),.d (.cK a),.d (.bN W.u32 k),.d (.bN W.aF j)],.agg [.d (.sc (.int .i64 i)),.d (.sc (.int .i64 h)),.d (.sc (.int .i64 g)),.d (.sc (.int .i64 f))]]=>CB [] (.mk b a k j) ⟨i,h,g,f⟩/\K ⟨.e (.c (.aX 0 W.bn (cJ (.mk b a k j) ⟨i,h,g,f⟩).length)),[(0,.aW W.bn (cJ (.mk b a k j) ⟨i,h,g,f⟩))],[],[]⟩
 |_,_=>False
def aeJ:gy prog Un where
 f:=129
 iu:=aax
 run:=agB
 ok H args K h:=by
  unfold agB at h;split at h
  ·rename_i c b m l k j i g;obtain⟨e,d⟩:=h;refine⟨_,?_,λu a n=>?_,d⟩
   ·exact(aq5 (.mk c b m l) ⟨k,j,i,g⟩ e).gL λu a=>by simp at a
   ·simp at a
  ·cases h
end Go.Proofs.YtfbmhjooliccnaaGreatDoor
