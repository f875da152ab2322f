/- A part of the proof of VirtualLinear: Fz to Qb. No condition. -/
import Derived.Test.YtfbmhjooliccnaaGreatDoorYj
set_option linter.all false
set_option maxRecDepth 100000
set_option maxHeartbeats 60000000
noncomputable section
namespace Go.Proofs.YtfbmhjooliccnaaGreatDoor
open Go Go.Ab Go.Proofs.Tryz
variable {p:J}{l:List S}{x n:Nat}{B:Int}{X:List J}{q:bf}{t:S}{c:aY}
def JB(h:gB p=true):p=cY p:=by unfold cY;rw[aM h]
def JC(h:gB p=false):cH ((di (cJ p ⟨0,0,0,0⟩)).length+4) (di (cJ p ⟨0,0,0,0⟩)) 4=cY p:=by unfold cY;rw[Z (by simp[h])]
def aqK(h:gB (.mk p.aK p.neg p.aC p.aL)=true):p.aK=(cY p).aK:=by rw[bz]at h;rw[<-JB h]
def aqO(h:gB (.mk p.aK p.neg p.aC p.aL)=false):(cH ((di (cJ (.mk p.aK p.neg p.aC p.aL) ⟨0,0,0,0⟩)).length+4) (di (cJ (.mk p.aK p.neg p.aC p.aL) ⟨0,0,0,0⟩)) 4).aK=(cY p).aK:=by rw[bz]at h⊢;rw[JC h]
def aqL(h:gB (.mk p.aK p.neg p.aC p.aL)=true):p.neg=(cY p).neg:=by rw[bz]at h;rw[<-JB h]
def aqP(h:gB (.mk p.aK p.neg p.aC p.aL)=false):(cH ((di (cJ (.mk p.aK p.neg p.aC p.aL) ⟨0,0,0,0⟩)).length+4) (di (cJ (.mk p.aK p.neg p.aC p.aL) ⟨0,0,0,0⟩)) 4).neg=(cY p).neg:=by rw[bz]at h⊢;rw[JC h]
def aqM(h:gB (.mk p.aK p.neg p.aC p.aL)=true):p.aC=(cY p).aC:=by rw[bz]at h;rw[<-JB h]
def aqQ(h:gB (.mk p.aK p.neg p.aC p.aL)=false):(cH ((di (cJ (.mk p.aK p.neg p.aC p.aL) ⟨0,0,0,0⟩)).length+4) (di (cJ (.mk p.aK p.neg p.aC p.aL) ⟨0,0,0,0⟩)) 4).aC=(cY p).aC:=by rw[bz]at h⊢;rw[JC h]
def aqN(h:gB (.mk p.aK p.neg p.aC p.aL)=true):p.aL=(cY p).aL:=by rw[bz]at h;rw[<-JB h]
def aqR(h:gB (.mk p.aK p.neg p.aC p.aL)=false):(cH ((di (cJ (.mk p.aK p.neg p.aC p.aL) ⟨0,0,0,0⟩)).length+4) (di (cJ (.mk p.aK p.neg p.aC p.aL) ⟨0,0,0,0⟩)) 4).aL=(cY p).aL:=by rw[bz]at h⊢;rw[JC h]
def np1(h:b8 p):CB [] (.mk p.aK p.neg p.aC p.aL) ⟨0,0,0,0⟩:=by rw[bz];exact h.cb
def np2(h:b8 p):EY (cJ (.mk p.aK p.neg p.aC p.aL) ⟨0,0,0,0⟩):=by rw[bz];exact h.nb.e
def np3(h:b8 p):BL (di (cJ (.mk p.aK p.neg p.aC p.aL) ⟨0,0,0,0⟩)) 4:=by rw[bz];unfold BL;exact⟨rfl,aCI h.nb h.eb O⟩
def np4(h:b8 p):kY (cY p):=h.OX.sm O
def aqb(p:J)(a:b8 p):bh 81 [wE .aF p] (eT .aF (cY p)):=by
 refine vG func81 rfl ⟨[Zg,Ps,Y_],[aeJ]⟩ [] ?_;repeat' first|intro _|apply aQ
 all_goals first|exact bj| (with_reducible first|rfl|exact np1 a|exact np2 a|exact np3 a)|(rename_i h;with_reducible first|exact aqK h|exact aqO h|exact aqL h|exact aqP h|exact aqM h|exact aqQ h|exact aqN h|exact aqR h)
def Za:=dj (.el W.aF) aqb
def aCm:(l6 (.mk (cY (.mk p.aK p.neg p.aC p.aL)).aK (cY (.mk p.aK p.neg p.aC p.aL)).neg (cY (.mk p.aK p.neg p.aC p.aL)).aC (cY (.mk p.aK p.neg p.aC p.aL)).aL)).aK=(dT p).aK:=by rw[bz,bz];unfold dT;rfl
def aCn:(l6 (.mk (cY (.mk p.aK p.neg p.aC p.aL)).aK (cY (.mk p.aK p.neg p.aC p.aL)).neg (cY (.mk p.aK p.neg p.aC p.aL)).aC (cY (.mk p.aK p.neg p.aC p.aL)).aL)).neg=(dT p).neg:=by rw[bz,bz];unfold dT;rfl
def aCo:(l6 (.mk (cY (.mk p.aK p.neg p.aC p.aL)).aK (cY (.mk p.aK p.neg p.aC p.aL)).neg (cY (.mk p.aK p.neg p.aC p.aL)).aC (cY (.mk p.aK p.neg p.aC p.aL)).aL)).aC=(dT p).aC:=by rw[bz,bz];unfold dT;rfl
def aCp:(l6 (.mk (cY (.mk p.aK p.neg p.aC p.aL)).aK (cY (.mk p.aK p.neg p.aC p.aL)).neg (cY (.mk p.aK p.neg p.aC p.aL)).aC (cY (.mk p.aK p.neg p.aC p.aL)).aL)).aL=(dT p).aL:=by rw[bz,bz];unfold dT;rfl
def np5(h:b8 p):b8 (.mk p.aK p.neg p.aC p.aL):=by rw[bz];exact h
def np6(h:b8 p):kY (.mk (cY (.mk p.aK p.neg p.aC p.aL)).aK (cY (.mk p.aK p.neg p.aC p.aL)).neg (cY (.mk p.aK p.neg p.aC p.aL)).aC (cY (.mk p.aK p.neg p.aC p.aL)).aL):=by rw[bz,bz];exact np4 h
def aCH(p:J)(a:b8 p):bh 39 [wE .aF p] (eT .aF (dT p)):=by
 refine vF func39 rfl [Za,CK] [] ?_;repeat' first|intro _|apply aQ
 all_goals first|exact bj| (with_reducible first|exact np5 a|exact np6 a|exact aCm|exact aCn|exact aCo|exact aCp)
def y5:=dj (.el W.aF) aCH
def ayP(h:0<(cT n).length):xJ (cT n)≠0:=by have a:=(pd n).2.2;unfold lj at a;rw[rJ]at a;unfold xJ;obtain⟨x,b⟩:∃x,(cT n)[(cT n).length-1]?=some x:=⟨(cT n)[(cT n).length-1]' O,cN _⟩;rw[b]at a⊢;simpa using a
def ap6(n:Int):gB (kP n)=true:=by
 unfold kP;rw[gB,aM rfl];by_cases c:n=0
 ·subst c;rw[QJ];rfl
 ·have a:0<(iD n).aC.length:=IQ λh=>PP (n:=n.natAbs) O (fR h)
  have b:xJ (iD n).aC≠0:=ayP a;rw[qd a,qd b];simp
theorem Yh:∀(L:Nat){p:J},L<=4->bQ L p->gB p=true
 |L,p,q,h=>by
  cases h with
  |const n=>exact ap6 n
  |node lv e s r i g f=>
   rw[gB,Js,Z O];have k:e.all (λc=>!decide ((lv:Int)<=c.aK)&&gB c)=true:=by rw[eW];intro c b;have d:=g c b;have o:=d.lv;have a:=Yh (lv-1) O d;rw[a,H3];have:¬(lv:Int)<=c.aK:=O;simp[this]
   have j:vY e=false:=by
    unfold vY;split
    ·rename_i c b;exact f c (by rw[rJ];exact b)
    ·rfl
   rw[k,j];have m:(1:Int)<=lv:=O;have l:(lv:Int)<=4:=O;simp[m,l,i]
termination_by L=>L
def FG(h:bQ 4 p):gB p=true:=Yh 4 (bK _) h
theorem FU:∀(L:Nat){p:J},bQ L p->l6 p=p
 |L,p,h=>by
  cases h with
  |const n=>
   unfold kP;rw[l6,aM rfl];have e:jE ⟨(iD n).neg,(iD n).aC⟩=iD n:=by have:jE (iD n)=iD (iV (iD n)):=wi (iv n);rw[fU]at this;exact this
   rw[e]
  |node b a k j i f g=>
   rw[l6,Ph,Z O];congr 1;have:a.map l6=a.map id:=mw λc d=>FU (b-1) (f c d)
   rw[this,EN]
termination_by L=>L
@[irreducible] def CS(p:J):=bQ 4 p/\kY p
def CS.bR(h:CS p):bQ 4 p:=by unfold CS at h;exact h.1
def CS.sm(h:CS p):kY p:=by unfold CS at h;exact h.2
def CS.e(h:CS p):CS (.mk p.aK p.neg p.aC p.aL):=by rw[bz];exact h
def ap5(h:CS p)(a:gB (.mk p.aK p.neg p.aC p.aL)=false):False:=by rw[bz,FG h.bR]at a;cases a
def aqa(p:J)(h:CS p):bh 81 [wE .aF p] (eT .aF p):=by
 refine vF func81 rfl [Zg] [] ?_;repeat' (first|rename_i a;exact(ap5 h a).elim|intro _|apply aQ)
 all_goals first|exact bj|with_reducible rfl
def CJ:=dj (.el W.aF) aqa
def axI(p:J)(h:CS p):bh 71 [wE .aF p] (bT (cP p)):=by
 refine vF func71 rfl [CJ,JU] [] ?_;repeat' first|intro _|apply aQ
 all_goals first|exact bj|with_reducible exact h.e|rw[bz,bz];rfl
def JT:=dj (.el W.aF) axI
def aCD(p:J)(h:CS p):bh 39 [wE .aF p] (eT .aF p):=by
 refine vF func39 rfl [CJ,CK] [] ?_;have e:=FU 4 h.bR;repeat' first|intro _|apply aQ
 all_goals first|exact bj|with_reducible exact h.e|show kY _;rw[bz,bz];exact h.sm|rw[bz,bz,e]
def asn:=dj (.el W.aF) aCD
def ard(x:aY)(h:rO x):bh 273 [wE .cM x] (eT .aF (kP (iV x))):=by
 refine vF func273 rfl [F1] [] ?_;have e:jE ⟨x.neg,x.aC⟩=iD (iV x):=wi h.2;repeat' first|intro _|apply aQ
 all_goals first|exact bj|exact h.1|rw[e];rfl|unfold kP;rfl
def Pn:=dj (.el W.cM) ard
def aI4{T:Nat}(h:(x<=X.length/\jB X x=T)/\True)(b:decide (0<(x:Int))=true)(d:X[((x:Int)-1).toNat]?=some p)(e:decide ((J.mk p.aK p.neg p.aC p.aL).aK=0/\(J.mk p.aK p.neg p.aC p.aL).aC.length=0)=true):jB X (x-1)=T:=by have b:0<x:=an b;obtain⟨m,rfl⟩:∃m,x=m+1:=⟨x-1,O⟩;have f:(((m+1:Nat):Int)-1).toNat=m:=O;rw[f]at d;rw[bz]at e;have:=h.1.2;rw[jB,d]at this;have a:cP p=true:=e;simp only[dP,ib,a,gT]at this;exact this
def UG(h:(x<=X.length/\jB X x=n)/\True)(b:decide (0<(x:Int))=true)(d:X[((x:Int)-1).toNat]?=some p)(e:decide ((J.mk p.aK p.neg p.aC p.aL).aK=0/\(J.mk p.aK p.neg p.aC p.aL).aC.length=0)=false):n=x:=by have b:0<x:=an b;obtain⟨m,rfl⟩:∃m,x=m+1:=⟨x-1,O⟩;have f:(((m+1:Nat):Int)-1).toNat=m:=O;rw[f]at d;rw[bz]at e;have:=h.1.2;rw[jB,d]at this;have a:cP p=false:=e;simp only[dP,ib,a]at this;exact this.symm
def UF(h:(x<=X.length/\jB X x=n)/\True)(a:decide (0<(x:Int))=false):n=x:=by
 have a:x=0:=by simp at a;omega
 subst a;exact h.1.2.symm
def aiV(h:jB X X.length=x)(a:((x:Int)==0)=true):mO B X=zP:=by
 have:x=0:=by have:(x:Int)=0:=an a;omega
 unfold mO;rw[h,aM this]
def aiW{c:J}(h:jB X X.length=x)(f:((x:Int)==0)=false)(d:((x:Int)==1)=true)(b:X[Int.toNat 0]?=some c):mO B X=c:=by
 have e:x=1:=by have:(x:Int)=1:=an d;omega
 unfold mO;rw[h,Z O,aM e];cases X with
 |nil=>simp at b
 |cons a r=>simp at b;simpa using b
def aiX(h:jB X X.length=x)(a:((x:Int)==0)=false)(b:((x:Int)==1)=false):mO B X=.mk B false [] (X.take x):=by have c:(x:Int)≠0:=an a;have d:(x:Int)≠1:=an b;unfold mO;rw[h,Z O,Z O]
def aI3(h:decide (0<(x:Int))=false)(b:((x:Int)==1)=true):False:=by have a:(x:Int)=1:=an b;simp only[bc]at h;omega
def aIR(l:Int)(b:List J):bh 226 [wI .i64 l,wL .aF b] (eT .aF (mO l b)):=by
 refine vF func226 rfl [JU] [(2,⟨Nat,λx=>⟨[(0,iT l),(1,lT .aF b),(4,br 0),(5,iT x)],[(0,cj .aF zP)],1⟩,λx=>(x<=b.length/\jB b x=jB b b.length)/\True,λx=>x⟩)] ?_;repeat' first|intro _|apply aQ|refine aS b.length (aQ ?_ λ(x:Nat) (i:(x<=b.length/\jB b x=jB b b.length)/\True)=>?_)|refine aS (x-1) ?_
 all_goals first|exact bj|with_reducible rfl|exact(rfl:(0:Int)=zP.aK)|exact(rfl:false=zP.neg)|exact(rfl:zP.aC=[])|exact(rfl:zP.aL=[])|omega|simp only[be,bc]at*;omega|rename_i a c k h;exact aI4 i a k h|rename_i a c k h d;have e:=UG i a k h;rw[aiV e d];rfl|rename_i a c k h g f m j;have e:=UG i a k h;rw[aiW e g f j]|(rename_i a c k h g f;have e:=UG i a k h;rw[aiX e g f];first|rfl|rw[bt];rfl)|rename_i a d;have e:=UF i a;rw[aiV e d];rfl|rename_i a g f m j;have e:=UF i a;rw[aiW e g f j]|rename_i a g f;exact(aI3 a f).elim|(rename_i a g f;have e:=UF i a;rw[aiX e g f];first|rfl|rw[bt];rfl)
def asQ:=eI (.int .i64) (.ls W.aF) λa b (_:True)=>aIR a b
def Va:∀{p:J},mS p->gB p=true->bQ 4 p/\0<=p.aK:=by
 intro p h
 induction h with
 |mk l n a j u N s=>
  intro d;rw[gB]at d;by_cases o:l=0
  ·subst o;rw[aM rfl]at d;have g:j=[]:=by
    cases j with
    |nil=>rfl
    |cons c r=>simp at d
   subst g;have e:J.mk 0 n a []=kP (iV ⟨n,a⟩):=by
    have t:lj a:=by
     unfold lj;intro f;rw[rJ]at f;have A:xJ a=0:=by unfold xJ;rw[f];rfl
     cases a with
     |nil=>simp at f
     |cons x y=>simp[A]at d
    have w:=Ux t;have i:=wi (x:=⟨n,a⟩) u;unfold jE iL at i;simp only[w]at i;unfold kP;rw[<-i];simp only;have:(n&&decide (0<a.length))=n:=by
     cases a with
     |nil=>simp at d;simp[d]
     |cons x y=>simp
    rw[this]
   rw[e];exact⟨.const _,tY _⟩
  ·rw[Z o]at d;simp only[ej,be,BM,Js,eW,bc]at d;obtain⟨⟨⟨⟨⟨⟨R,Q⟩,c3⟩,c4⟩,K⟩,H⟩,k⟩:=d;have v:a=[]:=fR c3;subst v c4;obtain⟨lv,rfl⟩:∃lv:Nat,l=lv:=⟨l.toNat,O⟩;refine⟨.node lv j O O K (λc b=>?_) (λc b=>?_),by show(0:Int)<=lv;omega⟩
   ·obtain⟨M,L⟩:=H c b;obtain⟨q,T⟩:=s c b L;by_cases e:c.aK=0
    ·rw[q.sX e];exact .const _
    ·cases q with
     |const z=>exact absurd rfl e
     |node m B G P E D C=>
      have:(m:Int)<(lv:Nat):=by have:¬(lv:Int)<=(m:Nat):=M;omega
      exact .node m B G O E D C
   ·unfold vY at k;rw[rJ]at b;rw[b]at k;exact k
def fH(m:bf):List S->Int
 |[]=>0
 |t::r=>(if qw t.mono m then iV t.cw else 0)+fH m r
theorem CC(m:bf)(b:List S):∀a,fH m (a++b)=fH m a+fH m b
 |[]=>by rw[gf,fH];omega
 |t::a=>by rw[eB,fH,fH,CC m b a];omega
def aqg(m:bf){b:List S}(h:l.Perm b):fH m l=fH m b:=by
 induction h with
 |nil=>rfl
 |cons x _ d=>rw[fH,fH,d]
 |swap x y c=>rw[fH,fH,fH,fH];omega
 |trans _ _ e f=>rw[e,f]
theorem CD{m:bf}:∀{l:List S},(∀t∈l,t.mono≠m)->fH m l=0
 |[],_=>rfl
 |t::r,h=>by
  have:qw t.mono m=false:=by
   cases e:qw t.mono m with
   |false=>rfl
   |true=>exact absurd (D0.1 e) (h t (b6 ..))
  rw[fH,CD λu a=>h u (cv _ a),this];rfl
def aha(m:bf):qw m m=true:=D0.2 rfl
theorem Yt{m:bf}:∀{l:List S}{t:S},l.Pairwise (λs t=>s.mono≠t.mono)->t∈l->t.mono=m->fH m l=iV t.cw
 |u::r,t,f,a,b=>by
  obtain⟨c,g⟩:=ER.1 f;rcases da.1 a with rfl|a
  ·rw[fH,b,aha,aM rfl,CD λv d=>by rw[<-b];exact(c v d).symm];omega
  ·have:qw u.mono m=false:=by
    cases e:qw u.mono m with
    |false=>rfl
    |true=>exact absurd ((D0.1 e).trans b.symm) (c t a)
   rw[fH,this,Yt g a b];simp
theorem Yu(m:bf):∀{l:List S}{i:Nat}{t:S}(c:aY),l[i]?=some t->fH m (l.set i (xK c t.mono))=fH m l+(if qw t.mono m then iV c-iV t.cw else 0)
 |[],i,t,c,h=>by simp at h
 |a::r,0,t,c,h=>by simp only[kg,cS]at h;subst h;rw[xc,fH,fH,A6,zm];split<;>omega
 |a::r,i+1,t,c,h=>by rw[IF,fH,fH,Yu m (l:=r) (i:=i) c (an h)];omega
def aqf(m:bf)(h:GT l)(d:Dg c.aC)(e:je q=false):fH m (gZ l q c)=fH m l+(if qw q m then iV c else 0):=by
 cases a:ma q l with
 |none=>rw[De e a,CC,fH,fH,zm,A6,wi d,fU];omega
 |some i=>obtain⟨t,b,f⟩:=Gs a;have g:=h.dg t (bM b);rw[Km e a b,Yu m _ b,Cm g d,fU,f];split<;>omega
theorem Ys{p:List S}(m:bf)(c:∀t∈p,Dg t.cw.aC)(b:∀t∈p,je t.mono=false):∀i,i<=p.length->fH m (gS p i)=fH m (p.take i)
 |0,_=>by rw[xD,gx]
 |i+1,h=>by
  have e:=Kl c b i O;obtain⟨t,a⟩:∃t,p[(i:Int).toNat]?=some t:=by rw[bt];exact⟨p[i]' O,ai⟩
  have d:t∈p:=bM a;have f:p.take (i+1)=p.take i++[t]:=by rw[bt]at a;rw[fy,a];rfl
  have g:gS p (i+1)=gZ (gS p i) t.mono t.cw:=(uz a).symm;rw[g,f,aqf m e.1 (c t d) (b t d),Ys m c b i O,CC,fH,fH];omega
theorem Yr(m:bf)(f:S->Bool):∀{l:List S},(∀t∈l,f t=false->iV t.cw=0)->fH m (l.filter f)=fH m l
 |[],_=>rfl
 |t::r,h=>by
  have b:=Yr m f (l:=r) λu c=>h u (cv _ c)
  cases a:f t with
  |true=>rw[yy a,fH,fH,b]
  |false=>rw[Ah (by simp[a]),fH,b,h t (b6 ..) a];split<;>omega
def aer(p:List S):(di p).Perm ((gS p p.length).filter wm):=by unfold di oJ tG;exact Bv _ _
def RU{p:List S}(m:bf)(a:∀t∈p,Dg t.cw.aC)(b:∀t∈p,je t.mono=false):fH m (di p)=fH m p:=by have d:=Kl a b p.length (bK _);rw[aqg m (aer p),Yr,Ys m a b _ (bK _),im];intro t e c;rw[LK (d.1.dg t e)]at c;simpa using c
def awP(h:t∈gZ l q c):(∃u∈l,u.mono=t.mono)\/t.mono=q:=by
 by_cases a:je q=true
 ·rw[Gn a]at h;exact .inl ⟨t,h,rfl⟩
 ·have a:je q=false:=by simpa using a
  cases b:ma q l with
  |none=>
   rw[De a b]at h;rcases cq.1 h with h|h
   ·exact .inl ⟨t,h,rfl⟩
   ·rw[cL.1 h];exact .inr rfl
  |some i=>
   obtain⟨u,d,e⟩:=Gs b;rw[Km a b d]at h;rcases EO h with h|rfl
   ·exact .inl ⟨t,h,rfl⟩
   ·exact .inl ⟨u,bM d,rfl⟩
theorem abN{p:List S}{t:S}:∀i,i<=p.length->t∈gS p i->∃u∈p,u.mono=t.mono
 |0,_,h=>by rw[xD]at h;simp at h
 |i+1,e,h=>by
  obtain⟨u,a⟩:∃t,p[(i:Int).toNat]?=some t:=by rw[bt];exact⟨p[i]' O,ai⟩
  rw[<-uz a]at h;rcases awP h with⟨v,c,he⟩|he
  ·obtain⟨w,b,d⟩:=abN i O c;exact⟨w,b,d.trans he⟩
  ·exact⟨u,bM a,he.symm⟩
def LF(h:t∈di l):∃u∈l,u.mono=t.mono:=abN _ (bK _) (RX h)
def A0:Nat->bf->bf->Prop
 |0,_,_=>False
 |k+1,p,q=>cg p (k+1:Nat)<cg q (k+1:Nat)\/(cg p (k+1:Nat)=cg q (k+1:Nat)/\A0 k p q)
def ay9(p q:bf):A0 4 p q↔lN p q:=by simp only[A0,lN,cg];simp
theorem ac8:∀(k:Nat)(p:bf),¬A0 k p p
 |0,_,h=>h
 |k+1,p,h=>by rcases h with h|h;omega;exact ac8 k p h.2
theorem Ra{L:Nat}{p q:bf}:∀{k:Nat},L<=k->(∀v,L<v->v<=k->cg p (v:Nat)=cg q (v:Nat))->¬A0 L p q->¬A0 k p q
 |0,h,_,a=>by rw[show L=0 by omega]at a;exact a
 |k+1,h,c,a=>by
  by_cases e:L=k+1
  ·rw[e]at a;exact a
  ·intro b;rcases b with b|b
   ·have:=c (k+1) O (bK _);omega
   ·exact Ra O (λv d f=>c v d O) a b.2
def gm:Nat->J->Int
 |0,p=>cV p
 |f+1,p=>match p.aL.getLast? with|some c=>gm f c|none=>cV p
def qi{v:Nat}(d:1<=v)(a:v<=4)(e:1<=B)(f:B<=4)(x:Int):cg (eP q B x) v=if(v:Int)=B then x else cg q v:=by have b:B=1\/B=2\/B=3\/B=4:=O;have c:v=1\/v=2\/v=3\/v=4:=O;rcases b with rfl|rfl|rfl|rfl<;>rcases c with rfl|rfl|rfl|rfl<;>simp[cg,eP]
mutual
theorem vB (v:Nat) (f:1<=v) (b:v<=4):∀(p:J)(q:bf),Fr v p->∀t∈cJ p q,cg t.mono v=cg q v
 |.mk d o u n,q,h,t,a=>by
  rw[cJ]at a
  split at a
  ·rw[cL]at a;subst a;rfl
  ·split at a
   ·simp at a
   ·exact YV v f b d O O h.lv n q _ 0 h.bu t a
theorem YV (v:Nat) (f:1<=v) (b:v<=4) (d:Int) (k:1<=d) (j:d<=4) (g:d≠v):∀(l:List J)(q:bf)(s:Int)(i:Nat),(∀c∈l,Fr v c)->∀t∈gF d l q s i,cg t.mono v=cg q v
 |[],q,s,i,_,t,a=>by rw[gF]at a;simp at a
 |c::r,q,s,i,h,t,a=>by
  rw[gF]at a
  rcases cq.1 a with a|a
  ·rw[vB v f b c _ (h c (b6 ..)) t a,qi f b k j,Z (λe=>g e.symm)]
  ·exact YV v f b d k j g r q s (i+1) (λx m=>h x (cv _ m)) t a
end
def bQ.fr(h:bQ x p){v:Nat}(d:x<v):Fr v p:=by
 induction h with
 |const n=>exact .const O n
 |node e f g i j k l a=>exact .mk _ _ _ _ O λc b=>a c b O
theorem AA{a:Int}{q:bf}{s:Int}{t:S}:∀{l:List J}{i:Nat},t∈gF a l q s i->∃j c,l[j]?=some c/\t∈cJ c (eP q a (s+(i+j:Nat)))
 |[],i,h=>by rw[gF]at h;simp at h
 |c::r,i,h=>by
  rw[gF]at h;rcases cq.1 h with h|h
  ·exact⟨0,c,rfl,by simpa using h⟩
  ·obtain⟨j,d,e,b⟩:=AA h;exact⟨j+1,d,by simpa using e,by rw[show i+(j+1)=i+1+j by omega];exact b⟩
def YS{d:Nat}:∀{L:Nat}{p:J},bQ L p->L<=4->DL d p->∀(q:bf)(t),t∈cJ p q->∀v:Nat,1<=v->v<=4->cg t.mono v<=cg q v+d:=by
 intro L p h
 induction h with
 |const n=>intro _ _ q t b v _ _;unfold kP at b;rw[cJ,aM ae,cL]at b;subst b;show cg q v<=_;omega
 | @node L m o u w x r y s=>
   intro z i q t b v f a;rw[cJ,Z O,Z O]at b;obtain⟨j,c,k,l⟩:=AA b;have g:=bM k;by_cases e:v=m
   ·subst e;have:=vB v f a c _ ((r c g).fr O) t l;rw[this,qi f a O O,aM rfl];have:=(du.1 k).1;have:=i.len;change o.length<=d+1 at this;omega
   ·have:=s c g O (i.bu c g) _ t l v f a;rw[qi f a O O,Z O]at this;exact this
def Gj(f:Nat)(n:Int):gm f (kP n)=n:=by cases f<;>exact yY n
def Kk:∀{L:Nat}{p:J}(f:Nat),bQ L p->L<=f->gm f p=gm L p:=by
 intro L p f h
 induction h generalizing f with
 |const n=>intro _;rw[Gj,Gj]
 | @node L i a q o m l k b=>
   intro j;obtain⟨f,rfl⟩:∃g,f=g+1:=⟨f-1,O⟩;obtain⟨L,rfl⟩:∃g,L=g+1:=⟨L-1,O⟩;rw[gm,gm];show(match a.getLast? with|some c=>gm f c|none=>_)=(match a.getLast? with|some c=>gm L c|none=>_);cases e:a.getLast? with
   |none=>rfl
   |some c=>have d:=NO e;show gm f c=gm L c;rw[b c d f O,b c d L O]
def Pg:∀{L:Nat}{p:J},bQ L p->L<=4->cP p=false->∀q:bf,∃m:bf,(∀t∈cJ p q,¬A0 L m t.mono)/\fH m (cJ p q)=gm 4 p/\(∀v:Nat,1<=v->v<=4->L<v->cg m v=cg q v)/\gm 4 p≠0:=by
 intro L p h
 induction h with
 | @const L n=>
   intro T B q;have P:n≠0:=by rw[xG]at B;simpa using B
   refine⟨q,λt f=>?_,?_,λv _ _ _=>rfl,by rw[Gj];exact P⟩
   ·unfold kP at f;rw[cJ,aM ae,cL]at f;subst f;exact ac8 L q
   ·rw[Gj];unfold kP;rw[cJ,aM ae,fH,fH];show(if qw q q then iV (iD n)else 0)+0=n;rw[aha,aM rfl,fU];omega
 | @node L b cs A X V w U N=>
   intro T B q;obtain⟨c,z⟩:∃c,cs.getLast?=some c:=by
    cases e:cs.getLast? with
    |none=>rw[List.getLast?_eq_none_iff]at e;subst e;simp at V
    |some c=>exact⟨c,rfl⟩
   have i:=NO z;have D:cs=cs.dropLast++[c]:=by obtain⟨ds,e⟩:=List.getLast?_eq_some_iff.1 z;rw[e];simp
   obtain⟨m,a1,a2,G,a4⟩:=N c i O (U c z) (eP q b (cg q b+(cs.dropLast.length:Nat)));have y:gm 4 (.mk b false [] cs)=gm 4 c:=by show(match cs.getLast? with|some c=>gm 3 c|none=>_)=_;rw[z];show gm 3 c=gm 4 c;rw[Kk 3 (w c i) O,Kk 4 (w c i) O]
   have o:cJ (.mk b false [] cs) q=gF b cs.dropLast q (cg q b) 0++cJ c (eP q b (cg q b+(cs.dropLast.length:Nat))):=by rw[cJ,Z O,Z O];have:=JK b q (cg q b) cs.dropLast [c] 0;rw[<-D]at this;rw[this,gF,gF,lB,ol]
   have x:cg m b=cg q b+(cs.dropLast.length:Nat):=by have:=G b A O O;rw[qi A O O O,aM rfl]at this;exact this
   have l:∀t∈gF b cs.dropLast q (cg q b) 0,cg t.mono b<cg m b/\∀v:Nat,1<=v->v<=4->b<v->cg t.mono v=cg q v:=λt f=>by
    obtain⟨j,d,H,K⟩:=AA f;have Q:=(du.1 H).1;have s:d∈cs:=List.dropLast_subset cs (bM H);refine⟨?_,λv g a r=>?_⟩
    ·rw[vB b A O d _ ((w d s).fr O) t K,qi A O O O,aM rfl,x];omega
    ·rw[vB v g a d _ ((w d s).fr O) t K,qi g a O O,Z O]
   have u:∀v:Nat,1<=v->v<=4->b<v->cg m v=cg q v:=λv g a r=>by rw[G v g a O,qi g a O O,Z O]
   refine⟨m,λt f=>?_,?_,λv g a r=>u v g a O,by rw[y];exact a4⟩
   ·rw[o]at f;rcases cq.1 f with f|f
    ·obtain⟨M,E⟩:=l t f;refine Ra X (λv g a=>by rw[u v O O g,E v O O g]) λC=>?_
     obtain⟨k,rfl⟩:∃k,b=k+1:=⟨b-1,O⟩;rcases C with C|C
     ·omega
     ·omega
    ·have M:=a1 t f;have E:∀v:Nat,1<=v->v<=4->b<=v->cg t.mono v=cg m v:=λv g a r=>by rw[vB v g a c _ ((w c i).fr O) t f,G v g a O]
     exact Ra (show b-1<=L by omega) (λv g a=>(E v O O O).symm) M
   ·rw[o,CC,a2,y,CD λt f R=>?_]
    ·omega
    ·have:=(l t f).1;rw[R]at this;omega
def ac7{p:bf}(f:¬lN p q)(e:p≠q):lN q p:=by
 have:¬(p.e1=q.e1/\p.e2=q.e2/\p.e3=q.e3/\p.e4=q.e4):=λ⟨a,b,c,d⟩=>e (by cases p;cases q;simp_all)
 unfold lN at*;omega
theorem afh:∀{a b:List S},a.Perm b->a.Pairwise (λs t=>lN t.mono s.mono)->b.Pairwise (λs t=>lN t.mono s.mono)->a=b
 |[],b,h,_,_=>by rw[List.nil_perm.1 h]
 |x::a,[],h,_,_=>by simp at h
 |x::a,y::b,h,i,g=>by
  obtain⟨o,n⟩:=ER.1 i;obtain⟨m,l⟩:=ER.1 g;have d:x=y:=by
   have f:x∈y::b:=h.mem_iff.1 (b6 ..);have c:y∈x::a:=h.mem_iff.2 (b6 ..);rcases da.1 f with e|f
   ·exact e
   ·rcases da.1 c with e|c
    ·exact e.symm
    ·have k:=m x f;have j:=o y c;exfalso;unfold lN at k j;omega
  subst d;rw[afh (List.perm_cons x |>.1 h) n l]
def DS(l:List S):Prop:=l.Pairwise λs t=>¬lN s.mono t.mono
def DS.eU(h:DS l)(a:CT l):l.Pairwise λs t=>lN t.mono s.mono:=by have:=h.and a.nd;exact this.imp λh=>ac7 h.1 h.2
def aep(p:List S):DS (di p):=by unfold di oJ tG DS;rw[ES];intro i j c b a;exact ah3 _ _ i j _ _ a (cN c) (cN b)
theorem abM{l:List S}(g:CT l)(k:∀t∈l,je t.mono=false):∀i,i<=l.length->gS l i=l.take i
 |0,_=>by rw[xD,gx]
 |i+1,q=>by
  obtain⟨t,c⟩:∃t,l[(i:Int).toNat]?=some t:=by rw[bt];exact⟨l[i]' O,ai⟩
  have m:t∈l:=bM c;have a:=c;rw[bt]at a;have o:l.take (i+1)=l.take i++[t]:=by rw[fy,a];rfl
  have p:gS l (i+1)=gZ (gS l i) t.mono t.cw:=(uz c).symm;rw[p,abM g k i O,o];have f:ma t.mono (l.take i)=none:=by
   cases e:ma t.mono (l.take i)with
   |none=>rfl
   |some j=>obtain⟨u,b,d⟩:=Gs e;have n:j<(l.take i).length:=(du.1 b).1;rw[gw]at n;rw[NN O]at b;have:=ES.1 g.nd j i O O O;rw[(du.1 b).2,(du.1 a).2]at this;exact absurd d this
  rw[De (k t m) f];obtain⟨z,_,h⟩:=g.co t m;have:jE t.cw=t.cw:=by rw[wi (by rw[h];exact iv z),h,fU]
  rw[this];rfl
def CT.dg(h:CT l):∀t∈l,Dg t.cw.aC:=λt a=>by obtain⟨z,_,b⟩:=h.co t a;rw[b];exact iv z
def aCL(a:CT l)(I:DS l)(c:∀t∈l,je t.mono=false):di l=l:=by
 have f:(di l).Perm l:=by
  have:=aer l;rw[abM a c _ (bK _),im]at this;have e:l.filter wm=l:=by rw[List.filter_eq_self];intro t d;obtain⟨z,b,g⟩:=a.co t d;rw[LK (a.dg t d),g,fU];simpa using b
  rw[e]at this;exact this
 have h:=LC a.dg c;exact afh f ((aep l).eU h.1) (I.eU a)
@[irreducible] def dM(p:J):List S:=di (cJ p ⟨0,0,0,0⟩)
def EB.neg(h:EB B l):∀t∈l,je t.mono=false:=λt a=>by have:=h t a;unfold MB at this;unfold je;simp;omega
def EB.eu(h:EB B l):EU B l:=λt a v _ _=>P7 (h t a) v
structure TT(l:List S):Prop where
 ct:CT l
 ds:DS l
 eb:EB 1000000 l
 len:l.length<=1000000000
def TT.bp(h:TT l):BP l 4:=by
 have c:=h.eb;unfold BP;refine⟨bK _,h.len,λt d v b a=>?_,h.ds,λs _ t _ v b a=>O⟩;have:=c t d;unfold MB at this;simp only[S.mono]at this
 match v,b,a with
 |1,_,_=>rw[J4];omega
 |2,_,_=>rw[Da];omega
 |3,_,_=>rw[Db];omega
 |4,_,_=>rw[Dc];omega
def TT.ON(h:TT l):Nc (l.length+4) l 4:=X6 _ l 4 h.ct h.bp (λt a v b c=>by have:=h.eb.eu t a v b c;omega) (bK _)
def TT.id(h:TT l):di l=l:=aCL h.ct h.ds h.eb.neg
def b8.C0(h:b8 p):∀t∈cJ p ⟨0,0,0,0⟩,Dg t.cw.aC:=λt a=>by have:=h.nb;unfold NB at this;exact(this.1 t a).2
def b8.tt(h:b8 p):TT (dM p):=by have a:=LC h.C0 h.eb.neg;unfold dM;refine⟨a.1,aep _,LD h.eb,?_⟩;have:=RV h.nb;have b:=h.nb;unfold NB at b;omega
def MU(h:b8 p)(a:ay):dC a 4 (dM p)=ev a p:=by
 unfold dM;rw[(LC h.C0 h.eb.neg).2.2 a 4,YT a p _ 0 ajE];have:mV a 4 ⟨0,0,0,0⟩=1:=by simp[mV,cg,pw];try grind
 rw[this];grind
def HI(h:b8 p):dL (dM p)<=fh p:=by unfold dM;rw[<-YW p ⟨0,0,0,0⟩];exact(LC h.C0 h.eb.neg).2.1
def aiK(b:1<=x)(a:x<=4)(c:Fr x p):∀t∈dM p,ex x t=0:=by unfold dM;intro t d;obtain⟨u,f,e⟩:=LF d;have:=vB x b a p _ c u f;unfold ex;rw[<-e,this];have:x=1\/x=2\/x=3\/x=4:=O;rcases this with rfl|rfl|rfl|rfl<;>rfl
def vz:cY p=if gB p then p else cH ((dM p).length+4) (dM p) 4:=by unfold cY dM;rfl
theorem X3:∀(f:Nat)(t:S)(r:List S)(k:Nat),BP (t::r) k->EU 1073741824 (t::r)->(t::r).length+k<=f->gm k (cH f (t::r) k)=iV t.cw
 |0,t,r,k,_,_,w=>by simp at w
 |f+1,t,r,k,C,x,w=>by
  obtain⟨i,E⟩:=Ri C;have G:=C.k4;have q:=KZ t k;by_cases y:fK t k=0
  ·rw[yV,aM y];cases k with
   |zero=>rfl
   |succ k=>rfl
  ·obtain⟨lv,m⟩:∃lv,fK t k=lv+1:=⟨fK t k-1,O⟩;have p:=Rh y;rw[m]at i E q p;have B:=x t (b6 ..) (lv+1) O O;have A:=i.za (b6 ..) (v:=lv+1) O O;rw[yV,Z y,m,Z O];obtain⟨k,rfl⟩:∃j,k=j+1:=⟨k-1,O⟩;show(match((List.range (ex (lv+1) t+1).toNat).map λ(e:Nat)=>cH f ((t::r).filter λu=>ex (lv+1) u==(e:Int)) lv).getLast? with|some c=>gm k c|none=>_)=_;rw[rJ,eh,oY,eC,vl O];simp only[dP];have e:(((ex (lv+1) t+1).toNat-1:Nat):Int)=ex (lv+1) t:=O;rw[yy (by simp;omega)];have n:BP (t::r.filter λu=>ex (lv+1) u==(((ex (lv+1) t+1).toNat-1:Nat):Int)) lv:=by
    refine BP.down (z:=ex (lv+1) t) (i.sub (List.Sublist.cons_cons t Is)) λu hu=>?_
    rcases da.1 hu with rfl|hu
    ·rfl
    ·have:=(jr.1 hu).2;rw[e]at this;simpa using this
   have hlen:(t::r.filter λu=>ex (lv+1) u==(((ex (lv+1) t+1).toNat-1:Nat):Int)).length+lv<=f:=by have:=Iy (λu=>ex (lv+1) u==(((ex (lv+1) t+1).toNat-1:Nat):Int)) r;simp only[fZ]at w⊢;omega
   have D:=X3 f t _ lv n (λu hu=>x u (by
    rcases da.1 hu with rfl|hu
    ·exact b6 ..
    ·exact cv _ (jr.1 hu).1)) hlen
   have h:∀(a b:Nat)(l:List S),a<=b->BP l a->EU 1073741824 l->gm b (cH f l a)=gm a (cH f l a):=by
    intro a b l o H _;have:∀(g a:Nat)(l:List S)(b:Nat),a<=b->gm b (cH g l a)=gm a (cH g l a):=by
     intro g
     induction g with
     |zero=>intro a l b _;rw[cH];cases a<;>cases b<;>rfl
     |succ g d=>
      intro a l b o;cases l with
      |nil=>rw[cH];cases a<;>cases b<;>rfl
      |cons u s=>
       rw[yV];split
       ·cases a<;>cases b<;>rfl
       ·rename_i K;have L:=KZ u a;split
        ·rw[d _ s b O,d _ s a O]
        ·obtain⟨b,rfl⟩:∃j,b=j+1:=⟨b-1,O⟩;obtain⟨a,rfl⟩:∃j,a=j+1:=⟨a-1,O⟩;show(match(List.map _ _).getLast? with|some c=>gm b c|none=>_)=(match(List.map _ _).getLast? with|some c=>gm a c|none=>_);rw[List.getLast?_map];cases(List.range (ex (fK u (a+1)) u+1).toNat).getLast? with
         |none=>rfl
         |some e=>simp only[dP];rw[d _ _ b O,d _ _ a O]
    exact this f a l b o
   rw[h lv k _ O n (λu hu=>x u (by
    rcases da.1 hu with rfl|hu
    ·exact b6 ..
    ·exact cv _ (jr.1 hu).1)),D]
def b8.dg(h:b8 p):mS p:=by unfold b8 at h;exact h.1.Z3
structure aj2(p:J):Prop where
 ev:∀ρ,ev ρ (cY p)=ev ρ p
 bR:bQ 4 (cY p)
 nm:fh (cY p)<=fh p
 fr:∀v:Nat,1<=v->v<=4->Fr v p->Fr v (cY p)
 eu:∀d:Nat,DL d (cY p)->EU d (dM p)
 nil:cP (cY p)=true->dM p=[]
 fs:∀t r,dM p=t::r->iV t.cw=gm 4 (cY p)
def s7(h:b8 p):aj2 p:=by
 have j:=h.tt;by_cases C:gB p=true
 ·have e:cY p=p:=by rw[vz,aM C]
  have a:=(Va h.dg C).1;refine⟨λP=>by rw[e],by rw[e];exact a,by rw[e];exact bK _,λv _ _ D=>by rw[e];exact D,λd s t b v n f=>?_,λg=>?_,λt r c=>?_⟩
  ·rw[e]at s;unfold dM at b;obtain⟨u,hu,o⟩:=LF b;have:=YS a (bK _) s _ u hu v n f;rw[o]at this;unfold ex;have g:cg ⟨0,0,0,0⟩ (v:Int)=0:=by have:v=1\/v=2\/v=3\/v=4:=O;rcases this with rfl|rfl|rfl|rfl<;>rfl
   omega
  ·rw[e]at g;have:=HI h;rw[y7 a g,sf]at this;have k:=j.ct;rw[y7 a g]at k;cases o:dM zP with
   |nil=>rw[y7 a g,o]
   |cons t r=>exfalso;rw[o]at k this;obtain⟨z,E,l⟩:=k.co t (b6 ..);rw[dL,l,fU]at this;omega
  ·rw[e];have G:cP p=false:=by
    cases g:cP p with
    |false=>rfl
    |true=>exfalso;have:=HI h;rw[c,y7 a g,sf,dL]at this;obtain⟨z,E,l⟩:=j.ct.co t (by rw[c];exact b6 ..);rw[l,fU]at this;omega
   obtain⟨m,a1,Q,a3,R⟩:=Pg a (bK _) G ⟨0,0,0,0⟩;have N:fH m (dM p)=gm 4 p:=by unfold dM;rw[RU m h.C0 h.eb.neg];exact Q
   have H:∃u∈dM p,u.mono=m:=by
    refine Vb λK=>R ?_
    rw[<-N];exact CD λu hu T=>K ⟨u,hu,T⟩
   obtain⟨u,hu,x⟩:=H;have b:t∈dM p:=by rw[c];exact b6 ..
   have L:t.mono=m:=by
    refine Vb λi=>?_
    have M:¬lN m t.mono:=by unfold dM at b;obtain⟨w,U,o⟩:=LF b;have:=a1 w U;rw[ay9,o]at this;exact this
    have V:lN t.mono m:=ac7 M λe=>i e.symm
    have y:=j.ds;rw[c]at y hu;rcases da.1 hu with rfl|hu
    ·exact i x
    ·have:=(ER.1 y).1 u hu;rw[x]at this;exact this V
   rw[<-N,Yt j.ct.nd b L]
 ·have e:cY p=cH ((dM p).length+4) (dM p) 4:=by rw[vz,Z C]
  have q:=j.ON;refine⟨λP=>by rw[e,q.ev,MU h],by rw[e];exact q.bR,by rw[e];exact dH q.nm (HI h),λv n f D=>by rw[e];exact q.fr v n f (aiK n f D),λd s t b v n f=>?_,λg=>?_,λt r c=>?_⟩
  ·rw[e]at s;exact q.ld d s t b v n f
  ·refine Vb λi=>?_
   rw[e,q.nz i]at g;cases g
  ·rw[e,c];have A:=j.bp;have B:=j.eb;rw[c]at A B;exact(X3 _ t r 4 A (λu hu v M X=>by have:=B.eu u hu v M X;omega) (bK _)).symm
def sh(h:b8 p):dT p=cY p:=by unfold dT;exact FU 4 (s7 h).bR
def kj(l:List S):Nat:=l.foldl (λg t=>Nat.gcd g (iV t.cw).natAbs) 0
@[irreducible] def Y3(l:List S):Nat:=kj (di l)
def qy(l:List S)(g:Nat):Int:=match l with|[]=>1|t::_=>if iV t.cw<0 then-(g:Int)else g
def qe(d:Int)(t:S):S:=xK (iD (iV t.cw/d)) t.mono
@[irreducible] def tF(l:List S):List S:=(di l).map (qe (qy (di l) (Y3 (di l))))
@[irreducible] def eQ(p:J):J:=l6 (cH ((di (tF (dM p))).length+4) (di (tF (dM p))) 4)
theorem Ko:∀(l:List S)(g:Nat),(l.foldl (λg t=>Nat.gcd g (iV t.cw).natAbs) g∣g)/\∀t∈l,l.foldl (λg t=>Nat.gcd g (iV t.cw).natAbs) g∣(iV t.cw).natAbs
 |[],g=>⟨Nat.dvd_refl _,λt a=>by simp at a⟩
 |u::r,g=>by
  obtain⟨b,c⟩:=Ko r (Nat.gcd g (iV u.cw).natAbs);rw[vk];refine⟨Nat.dvd_trans b (Nat.gcd_dvd_left _ _),λt a=>?_⟩;rcases da.1 a with rfl|a
  ·exact Nat.dvd_trans b (Nat.gcd_dvd_right _ _)
  ·exact c t a
def abO(h:t∈l):kj l∣(iV t.cw).natAbs:=(Ko l 0).2 t h
def TJ{l:List S}(h:CT l):qy l (kj l)≠0/\∀t∈l,qy l (kj l)∣iV t.cw:=by
 cases l with
 |nil=>exact⟨ae,λt e=>by simp at e⟩
 |cons t r=>
  have g:kj (t::r)≠0:=by intro f;have:=abO (l:=t::r) (b6 ..);rw[f]at this;obtain⟨z,c,d⟩:=h.co t (b6 ..);have:=Nat.eq_zero_of_zero_dvd this;rw[d,fU]at this;omega
  have b:∀u∈t::r,((kj (t::r):Nat):Int)∣iV u.cw:=λu a=>Int.natAbs_dvd_natAbs.1 (by rw[Int.natAbs_natCast];exact abO a)
  unfold qy;simp only;split
  ·exact⟨O,λu a=>Int.neg_dvd.2 (b u a)⟩
  ·exact⟨O,b⟩
def HA(h:TT l):tF l=l.map (qe (qy l (kj l))):=by unfold tF Y3;rw[h.id,h.id]
theorem Z8{d:Int}(f:d≠0)(a:ay)(k:Nat):∀{l:List S},(∀t∈l,d∣iV t.cw)->(d:Rat)*dC a k (l.map (qe d))=dC a k l
 |[],_=>by rw[gW,dC];grind
 |t::r,h=>by
  have b:=Z8 f a k (l:=r) λu c=>h u (cv _ c)
  rw[de,dC,dC,<-b,tV,tV];unfold qe;rw[zm,A6,fU];have e:d*(iV t.cw/d)=iV t.cw:=Int.mul_ediv_cancel' (h t (b6 ..));have g:(d:Rat)*((iV t.cw/d:Int):Rat)=((iV t.cw:Int):Rat):=by rw[<-Rat.intCast_mul,e]
  rw[<-g];grind
theorem Z9{d:Int}(a:d≠0):∀{l:List S},dL (l.map (qe d))<=dL l
 |[]=>bK _
 |t::r=>by
  have b:=Z9 a (l:=r);rw[de,dL,dL];have:(iV (qe d t).cw).natAbs<=(iV t.cw).natAbs:=by unfold qe;rw[zm,fU];exact Int.natAbs_ediv_le_natAbs _ _
  omega
def Z7(i:B≠0)(h:TT l)(b:∀t∈l,B∣iV t.cw):TT (l.map (qe B)):=by
 refine⟨⟨λt c=>?_,?_⟩,?_,λt c=>?_,by rw[eh];exact h.len⟩
 ·obtain⟨u,a,rfl⟩:=b_.1 c;refine⟨iV u.cw/B,λe=>?_,rfl⟩;obtain⟨z,f,g⟩:=h.ct.co u a;have:=Int.mul_ediv_cancel' (b u a);rw[e,g,fU]at this;omega
 ·rw[List.pairwise_map];exact h.ct.nd
 ·unfold DS;rw[List.pairwise_map];exact h.ds
 ·obtain⟨u,a,rfl⟩:=b_.1 c;exact h.eb u a
structure amx(p:J)(d:Int):Prop where
 nz:d≠0
 sg:cP (cY p)=false->(d<0↔gm 4 (cY p)<0)
 ev:∀ρ,(d:Rat)*ev ρ (eQ p)=ev ρ p
 bR:bQ 4 (eQ p)
 nm:fh (eQ p)<=fh p
 fr:∀v:Nat,1<=v->v<=4->Fr v p->Fr v (eQ p)
 dl:∀d:Nat,DL d (cY p)->DL d (eQ p)
def Bt(h:b8 p):∃d,amx p d:=by
 have q:=h.tt;have y:=s7 h;obtain⟨b,z⟩:=TJ q.ct;have A:=Z7 b q z;have e:di (tF (dM p))=(dM p).map (qe (qy (dM p) (kj (dM p)))):=by rw[HA q,A.id]
 have g:=A.ON;have j:eQ p=cH (((dM p).map (qe (qy (dM p) (kj (dM p))))).length+4) ((dM p).map (qe (qy (dM p) (kj (dM p))))) 4:=by unfold eQ;rw[e,FU 4 g.bR]
 refine⟨qy (dM p) (kj (dM p)),b,λl=>?_,λn=>?_,by rw[j];exact g.bR,?_,λv o a B=>?_,λd C=>?_⟩
 ·cases i:dM p with
  |nil=>
   exfalso;have:∀n,ev n p=0:=λn=>by rw[<-MU h,i,dC]
   by_cases c:gB p=true
   ·have s:cY p=p:=by rw[vz,aM c]
    have k:=(Va h.dg c).1;rw[s]at l;obtain⟨m,H,D,K,E⟩:=Pg k (bK _) l ⟨0,0,0,0⟩;apply E;rw[<-D,<-RU m h.C0 h.eb.neg];have:di (cJ p ⟨0,0,0,0⟩)=[]:=by unfold dM at i;exact i
    rw[this];rfl
   ·have s:cY p=cH ((dM p).length+4) (dM p) 4:=by rw[vz,Z c]
    rw[s,i,Fp]at l;cases l
  |cons t r=>
   have w:=y.fs t r i;have L:kj (t::r)≠0:=by intro G;rw[i]at b;unfold qy at b;rw[G]at b;simp at b
   rw[<-w];unfold qy;simp only;split<;>omega
 ·rw[j,g.ev,Z8 b n 4 z,MU h]
 ·rw[j];exact dH g.nm (dH (Z9 b) (HI h))
 ·rw[j];refine g.fr v o a λt f=>?_
  obtain⟨u,x,rfl⟩:=b_.1 f;exact aiK o a B u x
 ·rw[j];refine g.dl d λt f v o a=>?_
  obtain⟨u,x,rfl⟩:=b_.1 f;exact y.eu d C u x v o a
def up(a:ay)(v:Int)(y:Rat):Int->Rat:=λi=>if i=v then y else a i
def M0(a:ay)(v:Int)(y:Rat):up a v y v=y:=by unfold up;rw[aM rfl]
def ai8(a:ay){w:Int}(y:Rat)(h:w≠B):up a B y w=a w:=by unfold up;rw[Z h]
def HO(ρ:ay)(v:Int):up ρ v (ρ v)=ρ:=by
 funext i;unfold up;split
 ·rename_i h;rw[h]
 ·rfl
theorem Gb{a σ:ay}{x:Rat}:∀{l:List J},(∀c∈l,ev a c=ev σ c)->dy a x l=dy σ x l
 |[],_=>by rw[dy,dy]
 |c::r,h=>by rw[dy,dy,h c (b6 ..),Gb λd b=>h d (cv _ b)]
theorem Fr.ev{v:Int}{p:J}(h:Fr v p)(b:ay)(y:Rat):Go.Proofs.YtfbmhjooliccnaaGreatDoor.ev (up b v y) p=Go.Proofs.YtfbmhjooliccnaaGreatDoor.ev b p:=by
 induction h with
 |mk l n a e h d c=>
  rw[Go.Proofs.YtfbmhjooliccnaaGreatDoor.ev,Go.Proofs.YtfbmhjooliccnaaGreatDoor.ev];split
  ·rfl
  ·split
   ·rfl
   ·rw[ai8 b y h,Gb c]
mutual
def gh (a:Int):J->Int
 |.mk l _ _ b=>if l<a then 0 else if l=a then(b.length:Int)-1 else iW a b
def iW (a:Int):List J->Int
 |[]=>0
 |c::r=>max (gh a c) (iW a r)
end
def JX(a:Int)(p:J):gh a p=if p.aK<a then 0 else if p.aK=a then(p.aL.length:Int)-1 else iW a p.aL:=by cases p;rw[gh];rfl
theorem ZZ(a:Int):∀l,0<=iW a l
 |[]=>by rw[iW];omega
 |c::r=>by rw[iW];have:=ZZ a r;omega
theorem ZY{lv:Int}:∀{l:List J}{c:J},c∈l->gh lv c<=iW lv l
 |d::r,c,h=>by
  rw[iW];rcases da.1 h with rfl|h
  ·omega
  ·have:=ZY (lv:=lv) h;omega
theorem ZX{lv:Int}:∀{l:List J},iW lv l≠0->∃c∈l,gh lv c=iW lv l
 |[],h=>absurd rfl h
 |c::r,h=>by
  rw[iW]at h⊢;by_cases e:iW lv r<=gh lv c
  ·exact⟨c,b6 ..,O⟩
  ·have f:max (gh lv c) (iW lv r)=iW lv r:=by omega
   rw[f]at h⊢;obtain⟨d,b,a⟩:=ZX h;exact⟨d,cv _ b,a⟩
mutual
def cC (b:Int) (n:Nat):J->List J
 |.mk l g a d=>if l<b then .mk l g a d::List.replicate n zP
  else if l=b then d.take (n+1)++List.replicate (n+1-d.length) zP
  else(List.range (n+1)).map λi=>.mk l false [] ((FP b n d).map λr=>(r[i]?).getD zP)
def FP (b:Int) (n:Nat):List J->List (List J)
 |[]=>[]
 |c::r=>cC b n c::FP b n r
end
theorem YI(a:Int)(n:Nat):∀l,FP a n l=l.map (cC a n)
 |[]=>by rw[FP,gW]
 |c::r=>by rw[FP,de,YI a n r]
def CE(a:Int)(n:Nat)(p:J):cC a n p=if p.aK<a then p::List.replicate n zP
 else if p.aK=a then p.aL.take (n+1)++List.replicate (n+1-p.aL.length) zP
 else(List.range (n+1)).map λi=>.mk p.aK false [] (p.aL.map λc=>((cC a n c)[i]?).getD zP):=by
 cases p;rw[cC,YI];simp only[jc];rfl
def xx(b:Int)(n:Nat)(l:Int)(g:Bool)(a:ao)(d:List J):cC b n (.mk l g a d)=if l<b then .mk l g a d::List.replicate n zP
 else if l=b then d.take (n+1)++List.replicate (n+1-d.length) zP
 else(List.range (n+1)).map λi=>.mk l false [] (d.map λc=>((cC b n c)[i]?).getD zP):=CE b n _
def FO(a:Int)(n:Nat)(z:Int):cC a n (kP z)=if 0<a then kP z::List.replicate n zP
 else if 0=a then([]:List J).take (n+1)++List.replicate (n+1-([]:List J).length) zP
 else(List.range (n+1)).map λi=>.mk 0 false [] (([]:List J).map λc=>((cC a n c)[i]?).getD zP):=CE a n _
def F4(b l:Int)(g:Bool)(a:ao)(cs:List J):gh b (.mk l g a cs)=if l<b then 0 else if l=b then(cs.length:Int)-1 else iW b cs:=by rw[gh]
def PL(a z:Int):gh a (kP z)=if 0<a then 0 else if 0=a then-1 else 0:=by unfold kP;rw[gh];rfl
def kE(a:Int)(n:Nat)(p:J):(cC a n p).length=n+1:=by
 rw[CE];split
 ·simp
 ·split
  ·simp;omega
  ·simp
theorem aaJ(a:ay)(x y:Rat)(g:J->Nat->J)(h:J->Rat)(n:Nat):∀{l:List J},(∀c∈l,h c=jm (λi=>pw y i*ev a (g c i)) n)->
 ∀H:J->Rat,(∀c∈l,H c=h c)->jm (λi=>pw y i*dy a x (l.map λc=>g c i)) n=l.foldr (λc s=>H c+x*s) 0
 |[],_,H,_=>by
  rw[Ai];have:∀m,jm (λi=>pw y i*dy a x (([]:List J).map λc=>g c i)) m=0:=by
   intro m
   induction m with
   |zero=>rfl
   |succ m b=>rw[jm,b,gW,dy];grind
  exact this n
 |c::r,f,H,j=>by
  have b:=aaJ a x y g h n (l:=r) (λd e=>f d (cv _ e)) H λd e=>j d (cv _ e)
  rw[EK,<-b,j c (b6 ..),f c (b6 ..),<-ail,<-Ub];refine By n λi _=>?_
  rw[de,dy];grind
theorem aaG(a:ay)(x:Rat):∀l:List J,dy a x l=l.foldr (λc s=>ev a c+x*s) 0
 |[]=>by rw[dy,Ai]
 |c::r=>by rw[dy,EK,aaG a x r]
def auY(a:ay)(x:Rat)(l:List J)(n:Nat)(h:l.length=n):dy a x l=jm (λi=>pw x i*ev a ((l[i]?).getD zP)) n:=by
 rw[auZ a x l,h];refine By n λi b=>?_
 rw[cN O];rfl
structure aj3(lv:Nat)(p:J)(n:Nat):Prop where
 ev:∀ρ y,ev (up ρ lv y) p=dy ρ y (cC lv n p)
 fr:∀c∈cC lv n p,Fr lv c
def aq3{lv:Nat}(A:1<=lv)(B:lv<=4):∀{L:Nat}{p:J},bQ L p->L<=4->gh lv p<=n->aj3 lv p n:=by
 intro L p h
 induction h with
 | @const L z=>
   intro C g;have e:cC lv n (kP z)=kP z::List.replicate n zP:=by rw[FO,aM (show(0:Int)<lv by omega)]
   refine⟨λb y=>?_,λc hc=>?_⟩
   ·rw[e,dy,C_ b y _ (λc hc=>by rw[rI hc,jW]),jw,jw];grind
   ·rw[e]at hc;rcases da.1 hc with rfl|hc
    ·exact .const O z
    ·rw[rI hc];exact .zero O
 | @node L m a k G v o w D=>
   intro C g;have x:bQ 4 (.mk m false [] a):=.node m a k O v o w;by_cases q:m<lv
   ·have e:cC lv n (.mk m false [] a)=.mk m false [] a::List.replicate n zP:=by rw[xx,aM (show(m:Int)<lv by omega)]
    have f:Fr lv (.mk m false [] a):=(bQ.node (L:=m) m a k (bK _) v o w).fr q;refine⟨λb y=>?_,λc hc=>?_⟩
    ·rw[e,dy,C_ b y _ (λc hc=>by rw[rI hc,jW]),f.ev];grind
    ·rw[e]at hc;rcases da.1 hc with rfl|hc
     ·exact f
     ·rw[rI hc];exact .zero O
   ·by_cases r:m=lv
    ·subst r;have s:a.length<=n+1:=by rw[F4,Z (show¬(m:Int)<m by omega),aM (show(m:Int)=m from rfl)]at g;change (a.length:Int)-1<=n at g;omega
     have e:cC m n (.mk m false [] a)=a++List.replicate (n+1-a.length) zP:=by rw[xx,Z (show¬(m:Int)<m by omega),aM (show(m:Int)=m from rfl)];show a.take (n+1)++_=_;rw[eL s]
     have f:∀c∈a,Fr m c:=λc hc=>(o c hc).fr O
     refine⟨λb y=>?_,λc hc=>?_⟩
     ·rw[e,ph _ _ A B,M0,Ga,C_ b y (List.replicate _ _) (λc hc=>by rw[rI hc,jW]),Gb (σ:=b) λc hc=>(f c hc).ev b y];grind
     ·rw[e]at hc;rcases cq.1 hc with hc|hc
      ·exact f c hc
      ·rw[rI hc];exact .zero O
    ·have e:cC lv n (.mk m false [] a)=(List.range (n+1)).map λi=>.mk m false [] (a.map λc=>((cC lv n c)[i]?).getD zP):=by rw[xx,Z (show¬(m:Int)<lv by omega),Z (show¬(m:Int)=lv by omega)]
     have t:∀c∈a,gh lv c<=n:=λc hc=>by have:=ZY (lv:=lv) hc;rw[F4,Z (show¬(m:Int)<lv by omega),Z (show¬(m:Int)=lv by omega)]at g;change iW lv a<=n at g;omega
     have j:=λc hc=>D c hc O (t c hc)
     refine⟨λb y=>?_,λc hc=>?_⟩
     ·rw[e,ph _ _ k O,ai8 b y (show(m:Int)≠lv by omega),J3,aaG];have:=aaJ b (b m) y (λc i=>((cC lv n c)[i]?).getD zP) (λc=>dy b y (cC lv n c)) (n+1) (l:=a) (λc hc=>auY b y _ _ (kE lv n c)) (λc=>Go.Proofs.YtfbmhjooliccnaaGreatDoor.ev (up b lv y) c) λc hc=>(j c hc).ev b y
      rw[<-this];refine By _ λi _=>?_
      rw[ph _ _ k O]
     ·rw[e]at hc;obtain⟨i,E,rfl⟩:=b_.1 hc;refine .mk _ _ _ _ O λc hc=>?_
      obtain⟨d,u,rfl⟩:=b_.1 hc;have hlen:=kE lv n d;rw[cN (by have:=oZ.1 E;omega)];exact(j d u).fr _ (tZ _)
structure aj6(lv:Int)(p:J)(n:Nat):Prop where
 nm:∀c∈cC lv n p,fh c<=fh p
 dl:∀d,DL d p->∀c∈cC lv n p,DL d c
 ok:∀m,jT m p->∀c∈cC lv n p,jT m c
 np:∀c∈cC lv n p,nP c<=nP p
 fr:∀v:Int,v≠0->Fr v p->∀c∈cC lv n p,Fr v c
def GV:nP zP=1:=rfl
theorem adQ{c:J}:∀{l:List J},c∈l->nP c<=iR l
 |d::r,h=>by
  rw[iR];rcases da.1 h with rfl|h
  ·omega
  ·have:=adQ h;omega
def O7{lv:Int}:∀{L:Nat}{p:J},bQ L p->L<=4->aj6 lv p n:=by
 intro L p h;have E:∀(p:J)(q:J)(k:Nat),(∀c∈q::List.replicate k zP,c=q\/c=zP):=λp q k c hc=>by
  rcases da.1 hc with rfl|hc
  ·exact .inl rfl
  ·exact .inr (rI hc)
 induction h with
 | @const L z=>
   intro K;by_cases a:0<lv
   ·have e:∀c∈cC lv n (kP z),c=kP z\/c=zP:=by rw[FO,aM (show(0:Int)<lv from a)];exact E (kP z) _ _
    refine⟨λc hc=>?_,λd b c hc=>?_,λm u c hc=>?_,λc hc=>?_,λv g t c hc=>?_⟩;all_goals rcases e c hc with rfl|rfl
    ·exact bK _
    ·rw[sf];omega
    ·exact b
    ·exact .zero d
    ·exact u
    ·exact .zero m
    ·exact bK _
    ·rw[GV];exact zq _
    ·exact t
    ·exact .zero g
   ·by_cases G:(0:Int)=lv
    ·have e:∀c∈cC lv n (kP z),c=zP:=by
      rw[FO,Z (show¬(0:Int)<lv from a),aM (show(0:Int)=lv from G)];intro c hc;rcases cq.1 hc with hc|hc
      ·simp at hc
      ·exact rI hc
     refine⟨λc hc=>?_,λd b c hc=>?_,λm u c hc=>?_,λc hc=>?_,λv g t c hc=>?_⟩;all_goals rw[e c hc]
     ·rw[sf];omega
     ·exact .zero d
     ·exact .zero m
     ·rw[GV];exact zq _
     ·exact .zero g
    ·have e:∀c∈cC lv n (kP z),c=zP:=by rw[FO,Z (show¬(0:Int)<lv from a),Z (show¬(0:Int)=lv from G)];intro c hc;obtain⟨i,_,rfl⟩:=b_.1 hc;rfl
     refine⟨λc hc=>?_,λd b c hc=>?_,λm u c hc=>?_,λc hc=>?_,λv g t c hc=>?_⟩;all_goals rw[e c hc]
     ·rw[sf];omega
     ·exact .zero d
     ·exact .zero m
     ·rw[GV];exact zq _
     ·exact .zero g
 | @node L m cs H a2 a3 T U M=>
   intro K;have A:m<=4:=O;have B:fh (.mk m false [] cs)=ee cs:=tA cs H A false [];by_cases a:(m:Int)<lv
   ·have e:∀c∈cC lv n (.mk m false [] cs),c=.mk m false [] cs\/c=zP:=by rw[xx,aM (show(m:Int)<lv from a)];exact E (.mk m false [] cs) _ _
    refine⟨λc hc=>?_,λd b c hc=>?_,λm u c hc=>?_,λc hc=>?_,λv g t c hc=>?_⟩;all_goals rcases e c hc with rfl|rfl
    ·exact bK _
    ·rw[sf];omega
    ·exact b
    ·exact .zero d
    ·exact u
    ·exact .zero _
    ·exact bK _
    ·rw[GV];exact zq _
    ·exact t
    ·exact .zero g
   ·by_cases C:(m:Int)=lv
    ·have e:∀c∈cC lv n (.mk m false [] cs),c∈cs\/c=zP:=by
      rw[xx,Z (show¬(m:Int)<lv from a),aM (show(m:Int)=lv from C)];intro c hc;rcases cq.1 hc with hc|hc
      ·exact .inl (nE hc)
      ·exact .inr (rI hc)
     refine⟨λc hc=>?_,λd b c hc=>?_,λm u c hc=>?_,λc hc=>?_,λv g t c hc=>?_⟩;all_goals rcases e c hc with j|rfl
     ·rw[B];exact Dy j
     ·rw[sf];omega
     ·exact b.bu c j
     ·exact .zero d
     ·cases u with|mk _ _ _ _ _ _ _ N=>exact N c j
     ·exact .zero _
     ·rw[nP];have:=adQ j;omega
     ·rw[GV];exact zq _
     ·exact t.bu c j
     ·exact .zero g
    ·have o:=λc hc=>M c hc O
     have e:∀c∈cC lv n (.mk m false [] cs),∃i,i<n+1/\c=.mk m false [] (cs.map λc=>((cC lv n c)[i]?).getD zP):=by rw[xx,Z (show¬(m:Int)<lv from a),Z (show¬(m:Int)=lv from C)];intro c hc;obtain⟨i,w,rfl⟩:=b_.1 hc;exact⟨i,oZ.1 w,rfl⟩
     have s:∀i,i<n+1->∀d,((cC lv n d)[i]?).getD zP∈cC lv n d:=λi w d=>by have hlen:=kE lv n d;rw[cN O];exact tZ _
     refine⟨λc hc=>?_,λd b c hc=>?_,λP u c hc=>?_,λc hc=>?_,λv g t c hc=>?_⟩;all_goals obtain⟨i,w,rfl⟩:=e c hc
     ·rw[B,tA _ H A];have:∀l:List J,(∀c∈l,c∈cs)->ee (l.map λc=>((cC lv n c)[i]?).getD zP)<=ee l:=by
       intro l
       induction l with
       |nil=>intro _;exact bK _
       |cons c r y=>
        intro D;rw[de,ee,ee];have:=(o c (D c (b6 ..))).nm _ (s i w c);have:=y λx f=>D x (cv _ f)
        omega
      exact this cs λ_ h=>h
     ·refine .mk _ _ _ _ (by rw[eh];exact b.len) λc hc=>?_
      obtain⟨x,f,rfl⟩:=b_.1 hc;exact(o x f).dl d (b.bu x f) _ (s i w x)
     ·cases u with
      |mk _ _ _ _ V X Q R=>
       refine .mk _ _ _ _ (dz _) (λd b=>by simp at b) (by rw[eh];exact Q) λc hc=>?_
       obtain⟨x,f,rfl⟩:=b_.1 hc;exact(o x f).ok P (R x f) _ (s i w x)
     ·rw[nP,nP];have:∀l:List J,(∀c∈l,c∈cs)->iR (l.map λc=>((cC lv n c)[i]?).getD zP)<=iR l:=by
       intro l
       induction l with
       |nil=>intro _;exact bK _
       |cons c r y=>
        intro D;rw[de,iR,iR];have:=(o c (D c (b6 ..))).np _ (s i w c);have:=y λx f=>D x (cv _ f)
        omega
      have:=this cs λ_ h=>h
      omega
     ·refine .mk _ _ _ _ t.lv λc hc=>?_
      obtain⟨x,f,rfl⟩:=b_.1 hc;exact(o x f).fr v g (t.bu x f) _ (s i w x)
def aqY{lv:Nat}(h1:1<=lv)(h4:lv<=4){n:Nat}(hn:1<=n):∀{L:Nat}{p:J},bQ L p->L<=4->gh lv p=n->∃c,(cC lv n p)[n]?=some c/\∀q:bf,∃m:bf,fH m (cJ c q)≠0/\∀v:Nat,1<=v->v<=4->L<v->cg m v=cg q v:=by
 intro L p h
 induction h with
 | @const L z=>intro hL a;rw[PL,aM (show(0:Int)<lv by omega)]at a;omega
 | @node L m cs y a2 a3 R a5 U=>
   intro hL a;rw[F4]at a;by_cases b:(m:Int)<lv
   ·rw[aM (show(m:Int)<lv from b)]at a;omega
   ·rw[Z (show¬(m:Int)<lv from b)]at a;by_cases o:(m:Int)=lv
    ·rw[aM (show(m:Int)=lv from o)]at a;change (cs.length:Int)-1=n at a;have e:cC lv n (.mk m false [] cs)=cs:=by rw[xx,Z (show¬(m:Int)<lv from b),aM (show(m:Int)=lv from o)];show cs.take (n+1)++List.replicate (n+1-cs.length) zP=cs;rw[eL O,show n+1-cs.length=0 by omega,NP,lB]
     rw[e];have w:cs[n]?=some (cs[n]' O):=cN _;refine⟨_,w,λq=>?_⟩;have V:=a5 _ (by rw[rJ,show cs.length-1=n by omega];exact w);obtain⟨C,b1,E,b3,b4⟩:=Pg (R _ (bM w)) O V q;exact⟨C,by rw[E];exact b4,λv D g b=>b3 v D g O⟩
    ·rw[Z (show¬(m:Int)=lv from o)]at a;change iW lv cs=n at a;obtain⟨c,w,hcd⟩:=ZX (lv:=lv) (l:=cs) O;obtain⟨k,T⟩:=EM w;obtain⟨x,H,G⟩:=U c w O O;have e:cC lv n (.mk m false [] cs)=(List.range (n+1)).map λi=>.mk m false [] (cs.map λc=>((cC lv n c)[i]?).getD zP):=by rw[xx,Z (show¬(m:Int)<lv from b),Z (show¬(m:Int)=lv from o)]
     refine⟨.mk m false [] (cs.map λc=>((cC lv n c)[n]?).getD zP),by rw[e,eC,vl O];rfl,λq=>?_⟩;obtain⟨C,b1,E⟩:=G (eP q m (cg q m+(k:Nat)));refine⟨C,?_,λv D g X=>?_⟩
     ·rw[cJ,Z O,Z O];have A:cg C m=cg q m+(k:Nat):=by have:=E m y O O;rw[qi y O O O,aM rfl]at this;exact this
      have M:=(du.1 T).1;have Q:cs.map (λc=>((cC lv n c)[n]?).getD zP)=(cs.take k).map (λc=>((cC lv n c)[n]?).getD zP)++(x::(cs.drop (k+1)).map (λc=>((cC lv n c)[n]?).getD zP)):=by
       have e1:cs=cs.take k++(c::cs.drop (k+1)):=by have:=o0 k cs;rw[kB M,(du.1 T).2]at this;exact this.symm
       conv=>lhs;rw[e1]
       rw[ia,de,H];rfl
      have r:∀d∈cs,Fr m (((cC lv n d)[n]?).getD zP):=λd a=>by have hlen:=kE lv n d;rw[cN O];exact(O7 (lv:=lv) (n:=n) (R d a) O).fr m O ((R d a).fr O) _ (tZ _)
      rw[Q,JK,JL,CC,CC];rw[CD (l:=gF _ _ _ _ 0),CD (l:=gF _ _ _ _ (_+1))]
      ·rw[ol,eh,gw,kC O];omega
      ·intro t K P;obtain⟨j,d,f,u⟩:=AA K;rw[eC,gN]at f;obtain⟨B,f,rfl⟩:=f;have s:B∈cs:=ID (bM f);have:=vB m y O _ _ (r B s) t u;rw[qi y O O O,aM rfl,P,A,eh,gw,kC O]at this;omega
      ·intro t K P;obtain⟨j,d,f,u⟩:=AA K;have N:=(du.1 f).1;rw[eh,gw]at N;rw[eC,gN]at f;obtain⟨B,f,rfl⟩:=f;have s:B∈cs:=nE (bM f);have:=vB m y O _ _ (r B s) t u;rw[qi y O O O,aM rfl,P,A]at this;omega
     ·rw[E v D g O,qi D g O O,Z O]
def aq_(h:b8 p)(b:fH q (cJ p ⟨0,0,0,0⟩)≠0):cP (dT p)=false:=by
 rw[sh h];cases d:cP (cY p)with
 |false=>rfl
 |true=>
  exfalso;have a:=(s7 h).nil d;apply b;rw[<-RU q h.C0 h.eb.neg];have:di (cJ p ⟨0,0,0,0⟩)=[]:=by unfold dM at a;exact a
  rw[this];rfl
end Go.Proofs.YtfbmhjooliccnaaGreatDoor
namespace Go.Ab.VS
variable {x:Rat}
def HL(x y:Rat):x<y\/x=y\/y<x:=ah
def aHS(h:x≠0):0<x*x:=by
 rcases HL x 0 with h1|h1|h1
 ·have:=yI (a:=-x) (b:=-x) ah ah;grind
 ·exact absurd h1 h
 ·exact yI h1 h1
def dx(x:Rat):Int:=if x<0 then-1 else if 0<x then 1 else 0
def rH(r s:Int):Bool:=
 if r=1 then decide (s<0)else if r=2 then decide (s<=0)else if r=4 then decide (s≠0)else if r=5 then decide (0<=s)else if r=6 then decide (0<s)else decide (s=0)
def Hw(h:x<0):dx x=-1:=by unfold dx;rw[aM h]
def Hx(h:0<x):dx x=1:=by unfold dx;rw[Z ah,aM h]
def zJ:dx 0=0:=ae
def pM(x:Rat):(x<0/\dx x=-1)\/(x=0/\dx x=0)\/(0<x/\dx x=1):=by
 rcases HL x 0 with h|h|h
 ·exact .inl ⟨h,Hw h⟩
 ·exact .inr (.inl ⟨h,by rw[h];exact zJ⟩)
 ·exact .inr (.inr ⟨h,Hx h⟩)
def K2(u v C:Rat):=(u<0/\0<u*u-v*v*C)\/(v<0/\(u<0\/u*u-v*v*C<0))
instance (u v C:Rat):Decidable (K2 u v C):=by unfold K2;infer_instance
def sg(u v C:Rat):Int:=if K2 u v C then-1 else if K2 (-u) (-v) C then 1 else 0
def Mv{l:Rat}(c:0<l):dx (x*l)=dx x:=by
 rcases pM x with⟨h,e⟩|⟨h,e⟩|⟨h,e⟩
 ·rw[e];refine Hw ?_;have:=yI (a:=-x) (b:=l) ah c;grind
 ·rw[h];congr 1;grind
 ·rw[e];exact Hx (yI h c)
def ahO(h:dx x=0):x=0:=by
 rcases pM x with⟨_,e⟩|⟨a,_⟩|⟨_,e⟩
 ·rw[e]at h;exact absurd h ae
 ·exact a
 ·rw[e]at h;exact absurd h ae
end Go.Ab.VS
namespace Go.Proofs.YtfbmhjooliccnaaGreatDoor
open Go Go.Ab Go.Ab.VS Go.Proofs.Tryz
variable {Q R:J→Prop}{K s a:Int}{m:F}{p:J}
def jl(r:Int):Nat:=if r=1 then 1 else if r=2 then 3 else if r=4 then 5 else if r=5 then 6 else if r=6 then 4 else 2
def lu(b:Nat):Int×Bool:=if b=1 then(1,true)else if b=3 then(2,true)else if b=2 then(3,true)else if b=5 then(4,true)else if b=6 then(5,true)else if b=4 then(6,true)else(0,false)
def tu(a b:Int):Int×Bool:=lu (jl a &&& jl b)
def tg(a b:Int):Int×Bool:=lu (jl a ||| jl b)
def xq(s:Int):Nat:=if s=-1 then 1 else if s=0 then 2 else 4
def G4(b:Nat):Nat:=(b &&& 2) ||| (if b &&& 1≠0 then 4 else 0) ||| (if b &&& 4≠0 then 1 else 0)
def I(b:Nat)(s:Int):Bool:=(b &&& xq s) !=0
def S3(s:Int):=s=-1\/s=0\/s=1
def R6(r:Int):=1<=r/\r<=6
def R6.cases(h:R6 K):K=1\/K=2\/K=3\/K=4\/K=5\/K=6:=by unfold R6 at h;omega
def uU(r:Int)(h:S3 s):rH r s=I (jl r) s:=by
 unfold rH jl;rcases h with rfl|rfl|rfl
 all_goals
  by_cases a:r=1
  ·subst a;decide
  by_cases b:r=2
  ·subst b;decide
  by_cases c:r=4
  ·subst c;decide
  by_cases d:r=5
  ·subst d;decide
  by_cases e:r=6
  ·subst e;decide
  rw[Z a,Z b,Z c,Z d,Z e,Z a,Z b,Z c,Z d,Z e];decide
def pN(r:Int):jl r∈[1,2,3,4,5,6]:=by unfold jl;split<;>(try split)<;>(try split)<;>(try split)<;>(try split)<;>simp
def Me:∀b∈[1,2,3,4,5,6],(lu b).2=true/\(1<=(lu b).1/\(lu b).1<=6)/\jl (lu b).1=b:=ae
def azz:∀a∈[1,2,3,4,5,6],∀b∈[1,2,3,4,5,6],∀s∈([-1,0,1]:ao),((lu (a &&& b)).2=true->(1<=(lu (a &&& b)).1/\(lu (a &&& b)).1<=6)/\I (jl (lu (a &&& b)).1) s=(I a s&&I b s))/\((lu (a &&& b)).2=false->(I a s&&I b s)=false):=ae
def axY:∀a∈[1,2,3,4,5,6],∀b∈[1,2,3,4,5,6],∀s∈([-1,0,1]:ao),((lu (a ||| b)).2=true->(1<=(lu (a ||| b)).1/\(lu (a ||| b)).1<=6)/\I (jl (lu (a ||| b)).1) s=(I a s||I b s))/\((lu (a ||| b)).2=false->(I a s||I b s)=true):=ae
def ae4:∀b∈[1,2,3,4,5,6],G4 b∈[1,2,3,4,5,6]/\∀s∈([-1,0,1]:ao),I (G4 b) s=I b (-s):=ae
def S3.mem(h:S3 s):s∈([-1,0,1]:ao):=by rcases h with rfl|rfl|rfl<;>simp
def D6(x:Rat):S3 (dx x):=by rcases pM x with⟨_,e⟩|⟨_,e⟩|⟨_,e⟩<;>rw[e]<;>simp[S3]
def azB(h:S3 s):((tu a K).2=true->R6 (tu a K).1/\rH (tu a K).1 s=(rH a s&&rH K s))/\((tu a K).2=false->(rH a s&&rH K s)=false):=by have:=azz _ (pN a) _ (pN K) s h.mem;rw[uU a h,uU K h,uU (tu a K).1 h];exact this
def ax0(h:S3 s):((tg a K).2=true->R6 (tg a K).1/\rH (tg a K).1 s=(rH a s||rH K s))/\((tg a K).2=false->(rH a s||rH K s)=true):=by have:=axY _ (pN a) _ (pN K) s h.mem;rw[uU a h,uU K h,uU (tg a K).1 h];exact this
def tM(b:Bool):F:=if b then .mk 1 0 zP []else .mk 0 0 zP []
def sv(x:Int):Int:=if x<0 then-1 else if x=0 then 0 else 1
@[irreducible] def dB(p:J)(r:Int):F:=
  if(cY p).aK=0 then tM (I (jl r) (sv (cV (cY p))))
  else .mk 2 (lu (if gm 4 (dT p)<0 then G4 (jl r)else jl r)).1 (eQ p) []
def mZ(K a b:Int):Int×Bool:=if K=3 then tu a b else tg a b
def cO(K:Int)(part:F):List F->List F×Bool
 |[]=>([part],true)
 |bu::r=>
  if bu.aJ≠part.aJ then(bu::(cO K part r).1,(cO K part r).2)
  else if part.aJ≠2 then(if kO bu part then(bu::r,true)else(bu::(cO K part r).1,(cO K part r).2))
  else if ij bu.aF part.aF then(.mk bu.aJ (mZ K bu.bU part.bU).1 bu.aF bu.aO::r,(mZ K bu.bU part.bU).2)
  else(bu::(cO K part r).1,(cO K part r).2)
def nO(K:Int):List F->List F->Option (List F)
 |[],a=>some a
 |p::r,a=>if(cO K p a).2 then nO K r (cO K p a).1 else none
def nH(K:Int):Int:=if K=3 then 0 else 1
def uK(K:Int):Int:=if K=3 then 1 else 0
def xB(K:Int):List F->F
 |[]=>.mk (uK K) 0 zP []
 |[a]=>a
 |a::b::r=>.mk K 0 zP (a::b::r)
mutual
def bF:F->F
 |.mk k r p c=>if k=1 then tM true else if k=2 then dB p r else if k=3 then fW 3 c []else if k=4 then fW 4 c []else tM false
def fW (K:Int):List F->List F->F
 |[],a=>xB K a
 |bu::r,a=>
  if(bF bu).aJ=nH K then .mk (nH K) 0 zP []
  else if(bF bu).aJ=uK K then fW K r a
  else match nO K (if(bF bu).aJ=K then(bF bu).aO else [bF bu]) a with
   |some b=>fW K r b
   |none=>.mk (nH K) 0 zP []
end
def LM(m:F):bF m=if m.aJ=1 then tM true else if m.aJ=2 then dB m.aF m.bU else if m.aJ=3 then fW 3 m.aO []else if m.aJ=4 then fW 4 m.aO []else tM false:=by cases m;rw[bF];rfl
mutual
def tr (a:ay):F->Bool
 |.mk k r p b=>if k=1 then true else if k=2 then rH r (dx (ev a p))else if k=3 then eV a b else if k=4 then fq a b else false
def eV (a:ay):List F->Bool
 |[]=>true
 |m::r=>tr a m&&eV a r
def fq (a:ay):List F->Bool
 |[]=>false
 |m::r=>tr a m||fq a r
end
def BE(a:ay)(m:F):tr a m=if m.aJ=1 then true else if m.aJ=2 then rH m.bU (dx (ev a m.aF))else if m.aJ=3 then eV a m.aO else if m.aJ=4 then fq a m.aO else false:=by cases m;rw[tr];rfl
theorem aiS(c:ay)(b:List F):∀a,eV c (a++b)=(eV c a&&eV c b)
 |[]=>by rw[gf,eV];rfl
 |m::a=>by rw[eB,eV,eV,aiS c b a,Bool.and_assoc]
theorem aiU(c:ay)(b:List F):∀a,fq c (a++b)=(fq c a||fq c b)
 |[]=>by rw[gf,fq];rfl
 |m::a=>by rw[eB,fq,fq,aiU c b a,Bool.or_assoc]
def MX(a:ay)(b:Bool):tr a (tM b)=b:=by
 cases b
 ·unfold tM;rw[Z ae,tr];rfl
 ·unfold tM;rw[aM rfl,tr];rfl
def jg(a:ay)(K:Int)(l:List F):Bool:=if K=3 then eV a l else fq a l
def jL(K:Int)(a b:Bool):Bool:=if K=3 then a&&b else a||b
def wG(a:ay)(K:Int):jg a K []=decide (K=3):=by
 unfold jg;split
 ·rename_i h;rw[eV];simp[h]
 ·rename_i h;rw[fq];simp[h]
def od(a:ay)(K:Int)(m:F)(l:List F):jg a K (m::l)=jL K (tr a m) (jg a K l):=by unfold jg jL;split<;>first|rw[eV]|rw[fq]
def wq(K:Int)(a b:Bool):jL K a b=jL K b a:=by unfold jL;split<;>first|exact Bool.and_comm _ _|exact Bool.or_comm _ _
def uO(K:Int)(a b c:Bool):jL K (jL K a b) c=jL K a (jL K b c):=by unfold jL;split<;>first|exact Bool.and_assoc _ _ _|exact Bool.or_assoc _ _ _
def aDT(K:Int)(a:Bool):jL K a a=a:=by unfold jL;split<;>simp
def xQ(K:Int)(a:Bool):jL K a (decide (K=3))=a:=by unfold jL;split<;>rename_i h<;>simp[h]
def DH(K:Int)(a:Bool):jL K (!decide (K=3)) a=!decide (K=3):=by unfold jL;split<;>rename_i h<;>simp[h]
def ag8{x y:aY}:wy x y=true↔x.neg=y.neg/\x.aC=y.aC:=by unfold wy;simp
mutual
theorem Hs:∀{p q:J},ij p q=true↔p=q
 |.mk l n a c,.mk e d f b=>by
  have:=ahg (ps:=c) (qs:=b)
  rw[ij,ej,ej,ag8,this,J.mk.injEq,be]
  simp only[and_assoc]
theorem ahg:∀{ps qs:List J},jk ps qs=true↔ps=qs
 |[],[]=>by rw[jk];simp
 |p::ps,q::qs=>by rw[jk,ej,Hs,ahg,List.cons.injEq]
 |[],_::_=>by rw[jk];simp
 |_::_,[]=>by rw[jk];simp
end
mutual
theorem ag_:∀{p q:F},kO p q=true↔p=q
 |.mk k r p b,.mk e c d a=>by
  have:=ahc (ps:=b) (qs:=a)
  rw[kO,ej,ej,ej,Hs,this,F.mk.injEq,be,be]
  simp only[and_assoc]
theorem ahc:∀{ps qs:List F},hZ ps qs=true↔ps=qs
 |[],[]=>by rw[hZ];simp
 |p::ps,q::qs=>by rw[hZ,ej,ag_,ahc,List.cons.injEq]
 |[],_::_=>by rw[hZ];simp
 |_::_,[]=>by rw[hZ];simp
end
inductive CM(Q:J->Prop):F->Prop where
 |tt:CM Q (.mk 1 0 zP [])
 |ff:CM Q (.mk 0 0 zP [])
 |gE (r:Int) (p:J) (hr:R6 r) (hp:Q p):CM Q (.mk 2 r p [])
 |node (K:Int) (ks:List F) (hK:K=3\/K=4) (hk:∀c∈ks,CM Q c):CM Q (.mk K 0 zP ks)
def CM.imp(a:∀p,Q p->R p)(h:CM Q m):CM R m:=by
 induction h with
 |tt=>exact .tt
 |ff=>exact .ff
 |gE r p b c=>exact .gE r p b (a p c)
 |node K d hK f e=>exact .node K d hK e
inductive RM(R:J->Prop):F->Prop where
 |mk (k r:Int) (p:J) (ks:List F) (hp:k=2->R p) (hk:k=3\/k=4->∀c∈ks,RM R c):RM R (.mk k r p ks)
def CM.rm(h:CM Q m):RM Q m:=by
 induction h with
 |tt=>exact .mk _ _ _ _ (λh=>O) λh=>by omega
 |ff=>exact .mk _ _ _ _ (λh=>O) λh=>by omega
 |gE r p c a=>exact .mk _ _ _ _ (λ_=>a) λh=>by omega
 |node K d hK e b=>exact .mk _ _ _ _ (λh=>O) λ_=>b
def RM.imp(a:∀p,Q p->R p)(h:RM Q m):RM R m:=by
 induction h with
 |mk k r p b c e d=>exact .mk k r p b (λh=>a p (c h)) d
def CM.bu(h:CM Q m):∀c∈m.aO,CM Q c:=by
 cases h with
 |node K d hK a=>exact a
 |_=>intro c b;simp[F.aO]at b
theorem CM.tM{Q:J->Prop}(b:Bool):CM Q (tM b):=by cases b;exact .ff;exact .tt
def CM.kd(h:CM Q m):m.aJ=0\/m.aJ=1\/m.aJ=2\/m.aJ=3\/m.aJ=4:=by
 cases h with
 |tt=>simp[F.aJ]
 |ff=>simp[F.aJ]
 |gE=>simp[F.aJ]
 |node K a hK b=>simp only[F.aJ];omega
def ahw(x:Int):dx ((x:Int):Rat)=sv x:=by
 unfold sv;split
 ·exact Hw (by have:((x:Int):Rat)<((0:Int):Rat):=E8.2 O;simpa using this)
 ·split
  ·rename_i h;subst h;decide
  ·exact Hx (by have:((0:Int):Rat)<((x:Int):Rat):=E8.2 O;simpa using this)
def ahP(x:Rat):dx (-x)=-dx x:=by
 rcases pM x with⟨h,e⟩|⟨h,e⟩|⟨h,e⟩
 ·rw[e,Hx ah];rfl
 ·rw[h];decide
 ·rw[e,Hw ah]
def ahQ{d x:Rat}(a:0<d):dx (d*x)=dx x:=by rw[show d*x=x*d by grind];exact Mv a
def awD(h:b8 p):gm 4 (dT p)=gm 4 (cY p):=by rw[sh h]
def xn(b:ay)(h:b8 p)(r:Int):tr b (dB p r)=rH r (dx (ev b p)):=by
 have k:=s7 h;unfold dB;split
 ·rename_i f;have e:=k.bR.sX f;have:ev b p=((cV (cY p):Int):Rat):=by rw[<-k.ev b,e,jw,yY]
  rw[MX,this,ahw,uU];unfold sv S3;split<;>(try split)<;>simp
 ·rename_i f;obtain⟨d,g⟩:=Bt h;have n:cP (cY p)=false:=by unfold cP;simp[f]
  have c:=g.sg n;rw[tr,Z ae,aM rfl,awD h,<-g.ev b];have l:=pN r;split
  ·rename_i a;have o:(d:Rat)<0:=by have:((d:Int):Rat)<((0:Int):Rat):=E8.2 (c.2 a);simpa using this
   have m:=ae4 _ l;have i:=Me _ m.1;rw[uU _ (D6 _),i.2.2,m.2 _ (D6 _).mem,uU r (D6 _)];congr 1;have e:(d:Rat)*ev b (eQ p)=(-(d:Rat))*(-ev b (eQ p)):=ah;rw[e,ahQ ah,ahP]
  ·rename_i a;have j:(0:Rat)<(d:Rat):=by
    have q:=g.nz;have s:¬d<0:=λh=>a (c.1 h)
    have:((0:Int):Rat)<((d:Int):Rat):=E8.2 O;simpa using this
   have i:=Me _ l;rw[uU _ (D6 _),i.2.2,uU r (D6 _),ahQ j]
def Oy(b:Q (eQ p))(r:Int):CM Q (dB p r):=by
 unfold dB;split
 ·exact .tM _
 ·refine .gE _ _ ?_ b;have a:=pN r;split
  ·exact(Me _ (ae4 _ a).1).2.1
  ·exact(Me _ a).2.1
def qX(p:J)(r:Int):ba (dB p r)=1:=by
 unfold dB;split
 ·unfold tM;split<;>rfl
 ·rfl
theorem zO:∀(a b:List F),ck (a++b)=ck a+ck b
 |[],b=>by rw[gf,e_];omega
 |m::a,b=>by rw[eB,dW,dW,zO a b];omega
theorem QL(a:ay){Q:J->Prop}{K:Int}(y:K=3\/K=4){part:F}(o:CM Q part):∀{l:List F},(∀c∈l,CM Q c)->
 ((cO K part l).2=true->(∀c∈(cO K part l).1,CM Q c)/\jg a K (cO K part l).1=jL K (jg a K l) (tr a part))/\((cO K part l).2=false->jL K (jg a K l) (tr a part)=!decide (K=3))/\ck (cO K part l).1<=ck l+ba part/\((cO K part l).2=true->(cO K part l).1≠[])
 |[],_=>by rw[cO];refine⟨λ_=>⟨λc hc=>by rw[cL.1 hc];exact o,?_⟩,λh=>(by cases h),by rw[dW,e_];omega,λ_=>ai⟩;rw[od,wG,xQ,wq,xQ]
 |bu::r,h=>by
  have w:=h bu (b6 ..);have v:∀c∈r,CM Q c:=λc hc=>h c (cv _ hc)
  obtain⟨u,B,H,G⟩:=QL a y o v;have step:((bu::(cO K part r).1,(cO K part r).2).2=true->(∀c∈(bu::(cO K part r).1,(cO K part r).2).1,CM Q c)/\jg a K (bu::(cO K part r).1,(cO K part r).2).1=jL K (jg a K (bu::r)) (tr a part))/\((bu::(cO K part r).1,(cO K part r).2).2=false->jL K (jg a K (bu::r)) (tr a part)=!decide (K=3))/\ck (bu::(cO K part r).1,(cO K part r).2).1<=ck (bu::r)+ba part/\((bu::(cO K part r).1,(cO K part r).2).2=true->(bu::(cO K part r).1,(cO K part r).2).1≠[]):=by
   refine⟨λi=>⟨λc hc=>?_,?_⟩,λi=>?_,?_,λ_=>ai⟩
   ·rcases da.1 hc with rfl|hc
    ·exact w
    ·exact(u i).1 c hc
   ·show jg a K (bu::(cO K part r).1)=_;rw[od,(u i).2,od,uO]
   ·rw[od,uO,B i,wq,DH]
   ·show ck (bu::(cO K part r).1)<=_;rw[dW,dW];omega
  rw[cO];split
  ·exact step
  ·rename_i g;have g:bu.aJ=part.aJ:=Classical.not_not.1 g;split
   ·split
    ·rename_i I;have e:=ag_.1 I;subst e;refine⟨λ_=>⟨h,?_⟩,λh=>(by cases h),by show ck (bu::r)<=_;omega,λ_=>ai⟩;show jg a K (bu::r)=_;rw[od,wq,uO,aDT]
    ·exact step
   ·rename_i i;have i:part.aJ=2:=Classical.not_not.1 i;split
    ·rename_i I;have e:=Hs.1 I;cases o with
     |tt=>cases i
     |ff=>cases i
     |node t A s q=>change t=2 at i;omega
     |gE d z C D=>
      cases w with
      |tt=>cases g
      |ff=>cases g
      |node t A s q=>change t=2 at g;omega
      |gE f b E p=>
       change b=z at e;subst e;have k:=D6 (ev a b);show(_->(∀c∈F.mk 2 (mZ K f d).1 b []::r,CM Q c)/\jg a K (F.mk 2 (mZ K f d).1 b []::r)=jL K (jg a K (.mk 2 f b []::r)) (tr a (.mk 2 d b [])))/\(_->_)/\ck (F.mk 2 (mZ K f d).1 b []::r)<=ck (.mk 2 f b []::r)+ba (.mk 2 d b [])/\_;have n:∀x,tr a (.mk 2 x b [])=rH x (dx (ev a b)):=λx=>by rw[tr,Z ae,aM rfl]
       rw[od,od,n,n,n];have j:((mZ K f d).2=true->R6 (mZ K f d).1/\rH (mZ K f d).1 (dx (ev a b))=jL K (rH f (dx (ev a b))) (rH d (dx (ev a b))))/\((mZ K f d).2=false->jL K (rH f (dx (ev a b))) (rH d (dx (ev a b)))=!decide (K=3)):=by
        unfold mZ jL;rcases y with rfl|rfl
        ·rw[aM rfl,aM rfl];exact azB k
        ·rw[Z ae,Z ae];exact ax0 k
       refine⟨λm=>⟨λc hc=>?_,?_⟩,λm=>?_,?_,λ_=>ai⟩
       ·rcases da.1 hc with rfl|hc
        ·exact .gE _ _ (j.1 m).1 p
        ·exact v c hc
       ·rw[(j.1 m).2,uO,uO,wq K (rH d _)]
       ·rw[wq K (rH f _),uO,j.2 m,wq,DH]
       ·rw[dW,dW];have:∀x,ba (.mk 2 x b [])=1:=λ_=>rfl
        rw[this,this,this];omega
    ·exact step
theorem Kw(d:ay){Q:J->Prop}{K:Int}(k:K=3\/K=4):∀{f b:List F},(∀c∈f,CM Q c)->(∀c∈b,CM Q c)->
 (∀a,nO K f b=some a->(∀c∈a,CM Q c)/\jg d K a=jL K (jg d K b) (jg d K f)/\ck a<=ck b+ck f)/\(nO K f b=none->jL K (jg d K b) (jg d K f)=!decide (K=3))
 |[],b,_,i=>by
  rw[nO];refine⟨λa h=>?_,λh=>by cases h⟩;injection h with h;subst h
  exact⟨i,by rw[wG,xQ],O⟩
 |p::r,b,j,i=>by
  obtain⟨g,l,q,_⟩:=QL d k (j p (b6 ..)) i;have m:∀c∈r,CM Q c:=λc n=>j c (cv _ n)
  rw[nO];split
  ·rename_i e;obtain⟨j1,j2⟩:=Kw d k m (g e).1;refine⟨λa h=>?_,λh=>?_⟩
   ·obtain⟨k1,k2,o⟩:=j1 a h;exact⟨k1,by rw[k2,(g e).2,od,uO],by rw[dW];omega⟩
   ·rw[<-j2 h,(g e).2,od,uO]
  ·rename_i e;refine⟨λa h=>(by cases h),λ_=>?_⟩;have e:(cO K p b).2=false:=an e;rw[od,<-uO,l e,DH]
def Ed(a:ay)(h:m.aJ=0):tr a m=false:=by rw[BE,h];rfl
def yf(a:ay)(h:m.aJ=1):tr a m=true:=by rw[BE,h];rfl
def Uv(a:ay)(b:K=3\/K=4)(h:m.aJ=nH K):tr a m=!decide (K=3):=by
 rcases b with rfl|rfl
 ·exact Ed a h
 ·exact yf a h
def aiY(a:ay)(b:K=3\/K=4)(h:m.aJ=uK K):tr a m=decide (K=3):=by
 rcases b with rfl|rfl
 ·exact yf a h
 ·exact Ed a h
def qF(a:ay)(b:K=3\/K=4)(r:Int)(p:J)(ks:List F):tr a (.mk K r p ks)=jg a K ks:=by
 rw[tr,Z O,Z O];unfold jg;rcases b with rfl|rfl
 ·rw[aM rfl,aM rfl]
 ·rw[Z ae,aM rfl,Z ae]
def Kf(d:ay)(e:K=3\/K=4){acc:List F}(h:∀c∈acc,CM Q c):CM Q (xB K acc)/\tr d (xB K acc)=jg d K acc/\ba (xB K acc)<=1+ck acc:=by
 match acc,h with
 |[],_=>
  refine⟨?_,?_,by rw[e_];exact bK _⟩
  ·rcases e with rfl|rfl
   ·exact .tt
   ·exact .ff
  ·rw[aiY d e rfl,wG]
 |[a],h=>exact⟨h a (b6 ..),by rw[od,wG,xQ];rfl,by show ba a<=_;rw[dW];omega⟩
 |a::b::r,h=>exact⟨.node K _ e h,by rw[xB,qF d e],by rw[xB,ba];exact bK _⟩
def WX(a:K=3\/K=4):CM Q (.mk (nH K) 0 zP []):=by rcases a with rfl|rfl;exact .ff;exact .tt
mutual
theorem tB {R Q:J->Prop} (e:∀p,R p->b8 p/\Q (eQ p)):∀{m:F},RM R m->CM Q (bF m)/\(∀a,tr a (bF m)=tr a m)/\ba (bF m)<=ba m
 |.mk k r p G,h=>by
  cases h with
  |mk _ _ _ _ C E=>
   have n:=λK hK w=>acj e (K:=K) hK (l:=G) (acc:=[]) w (λc q=>by simp at q)
   rw[bF]
   by_cases u:k=1
   ·rw[aM u]
    refine⟨.tM _,λa=>?_,?_⟩
    ·rw[MX,tr,aM u]
    ·rw[ba];show 1<=_;omega
   rw[Z u]
   by_cases j:k=2
   ·rw[aM j]
    refine⟨Oy (e p (C j)).2 r,λa=>?_,by rw[qX];exact zN _⟩
    rw[xn a (e p (C j)).1,tr,Z u,aM j]
   rw[Z j]
   by_cases t:k=3
   ·rw[aM t]
    obtain⟨i,g,v⟩:=n 3 (.inl rfl) (E (.inl t))
    refine⟨i,λa=>?_,by rw[ba];rw[e_]at v;omega⟩
    rw[g,wG,wq,xQ,t,qF a (.inl rfl)]
   rw[Z t]
   by_cases s:k=4
   ·rw[aM s]
    obtain⟨i,g,v⟩:=n 4 (.inr rfl) (E (.inr s))
    refine⟨i,λa=>?_,by rw[ba];rw[e_]at v;omega⟩
    rw[g,wG,wq,xQ,s,qF a (.inr rfl)]
   rw[Z s]
   refine⟨.tM _,λa=>?_,?_⟩
   ·rw[MX,tr,Z u,Z j,Z t,Z s]
   ·rw[ba];show 1<=_;omega
theorem acj {R Q:J->Prop} (e:∀p,R p->b8 p/\Q (eQ p)) {K:Int} (hK:K=3\/K=4):∀{l acc:List F},(∀c∈l,RM R c)->(∀c∈acc,CM Q c)->
 CM Q (fW K l acc)/\(∀a,tr a (fW K l acc)=jL K (jg a K acc) (jg a K l))/\ba (fW K l acc)<=1+ck acc+ck l
 |[],acc,_,f=>by
  rw[fW]
  refine⟨(Kf (λ_=>0) hK f).1,λa=>?_,?_⟩
  ·rw[(Kf a hK f).2.1,wG,xQ]
  ·have:=(Kf (λ_=>0) hK f).2.2;omega
 |bu::r,acc,D,f=>by
  obtain⟨k1,k2,H⟩:=tB e (D bu (b6 ..))
  have M:∀c∈r,RM R c:=λc q=>D c (cv _ q)
  have n:=λd z=>acj e hK (l:=r) (acc:=d) M z
  rw[fW]
  by_cases B:(bF bu).aJ=nH K
  ·rw[aM B]
   refine⟨WX hK,λa=>?_,by rw[ba,e_];omega⟩
   rw[Uv a hK rfl,od,<-k2 a,Uv a hK B,DH,wq,DH]
  ·rw[Z B]
   by_cases A:(bF bu).aJ=uK K
   ·rw[aM A]
    obtain⟨i,g,v⟩:=n acc f
    refine⟨i,λa=>?_,by rw[dW];omega⟩
    rw[g,od,<-k2 a,aiY a hK A]
    rw[wq K (decide _),xQ]
   ·rw[Z A]
    have b:∀c∈(if(bF bu).aJ=K then(bF bu).aO else [bF bu]),CM Q c:=by
     split
     ·exact k1.bu
     ·intro c q;rw[cL.1 q];exact k1
    have o:∀a,jg a K (if(bF bu).aJ=K then(bF bu).aO else [bF bu])=tr a bu:=λa=>by
     rw[<-k2 a]
     split
     ·rename_i N
      rw[BE,N]
      rcases hK with rfl|rfl<;>rfl
     ·rw[od,wG,xQ]
    have L:ck (if(bF bu).aJ=K then(bF bu).aO else [bF bu])<=ba bu:=by
     split
     ·rw[j8]at H;omega
     ·rw[dW,e_];omega
    split
    ·rename_i d y
     have x:=λa=>(Kw a hK b f).1 d y
     obtain⟨i,g,v⟩:=n d (x (λ_=>0)).1
     refine⟨i,λa=>?_,?_⟩
     ·rw[g,(x a).2.1,o,od,uO]
     ·have:=(x (λ_=>0)).2.2
      rw[dW];omega
    ·rename_i y
     refine⟨WX hK,λa=>?_,by rw[ba,e_];omega⟩
     have:=(Kw a hK b f).2 y
     rw[o]at this
     rw[Uv a hK rfl,od,<-uO,this,DH]
end
end Go.Proofs.YtfbmhjooliccnaaGreatDoor
namespace Go.Ab.VS
variable {x:Rat}{r:Int}
structure Rw where
 k:Int
 a:Rat
 b:Rat
def hK(k:Int)(s:Rat):Prop:=if k=0 then s=0 else if k=1 then s<0 else s<=0
def Rw.at(r:Rw)(v:Rat):=hK r.k (r.a*v+r.b)
def Df{s:Rat}(a:0<x):hK r (x*s)↔hK r s:=by
 unfold hK;split
 ·constructor
  ·intro h;rcases N4.1 h with h|h
   ·grind
   ·exact h
  ·intro h;rw[h];grind
 ·split
  ·constructor
   ·intro h;refine Rat.not_le.1 λb=>?_
    have:=Rat.mul_nonneg (Rat.le_of_lt a) b;grind
   ·intro h;have:=yI a (show 0< -s by grind);grind
  ·constructor
   ·intro h;refine Rat.not_lt.1 λb=>?_
    have:=yI a b;grind
   ·intro h;have:=Rat.mul_nonneg (Rat.le_of_lt a) (show 0<=-s by grind);grind
structure Bd where
 x:Rat
 s:Bool
def Bd.lo(d:Bd)(v:Rat):Prop:=if d.s then d.x<v else d.x<=v
def Bd.hi(d:Bd)(v:Rat):Prop:=if d.s then v<d.x else v<=d.x
theorem Jj:∀(l:List Bd)(d:Bd),∃m∈d::l,∀e∈d::l,∀v,m.lo v->e.lo v
 |[],d=>⟨d,b6 ..,λe he v h=>by rw[cL.1 he];exact h⟩
 |c::l,d=>by
  obtain⟨m,f,b⟩:=Jj l c;by_cases g:d.x<m.x\/(d.x=m.x/\(m.s=true\/d.s=false))
  ·refine⟨m,cv _ f,λe he v h=>?_⟩;rcases da.1 he with rfl|he
   ·unfold Bd.lo at*;cases I:e.s<;>cases a:m.s<;>simp[I,a]at* <;>grind
   ·exact b e he v h
  ·refine⟨d,b6 ..,λe he v h=>?_⟩;rcases da.1 he with rfl|he
   ·exact h
   ·refine b e he v ?_;unfold Bd.lo at*;cases I:d.s<;>cases a:m.s<;>simp[I,a]at* <;>grind
def XT(l:List Bd)(d:Bd):∃m∈d::l,∀e∈d::l,∀v,m.hi v->e.hi v:=by
 obtain⟨m,hm,f⟩:=Jj (l.map λe=>⟨-e.x,e.s⟩) ⟨-d.x,d.s⟩;have b:∀(e:Bd) v,e.hi v↔Bd.lo ⟨-e.x,e.s⟩ (-v):=λe v=>by unfold Bd.hi Bd.lo;cases e.s<;>simp<;>grind
 obtain⟨a,c,rfl⟩:∃a∈d::l,m=⟨-a.x,a.s⟩:=by
  rcases da.1 hm with rfl|hm
  ·exact⟨d,b6 ..,rfl⟩
  ·obtain⟨e,he,rfl⟩:=b_.1 hm;exact⟨e,cv _ he,rfl⟩
 refine⟨a,c,λe he v h=>?_⟩;rw[b]at h⊢;refine f _ ?_ _ h;rcases da.1 he with rfl|he
 ·exact b6 ..
 ·exact cv _ (b_.2 ⟨e,he,rfl⟩)
def apd(L U:List Bd)(h:∀d∈L,∀e∈U,d.x<e.x\/(d.x=e.x/\d.s=false/\e.s=false)):∃v,(∀d∈L,d.lo v)/\∀e∈U,e.hi v:=by
 cases L with
 |nil=>
  cases U with
  |nil=>exact⟨0,λd a=>(by cases a),λd a=>(by cases a)⟩
  |cons e U=>obtain⟨m,f,b⟩:=XT U e;exact⟨m.x-1,λd a=>(by cases a),λd a=>b d a _ (by unfold Bd.hi;split<;>grind)⟩
 |cons d L=>
  obtain⟨m,f,b⟩:=Jj L d;cases U with
  |nil=>exact⟨m.x+1,λd a=>b d a _ (by unfold Bd.lo;split<;>grind),λd a=>(by cases a)⟩
  |cons e U=>
   obtain⟨n,i,g⟩:=XT U e;rcases h m f n i with c|⟨c,k,j⟩
   ·exact⟨(m.x+n.x)/2,λd a=>b d a _ (by unfold Bd.lo;split<;>grind),λd a=>g d a _ (by unfold Bd.hi;split<;>grind)⟩
   ·exact⟨m.x,λd a=>b d a _ (by unfold Bd.lo;rw[k];simp;try grind),λd a=>g d a _ (by unfold Bd.hi;rw[j,c];simp;try grind)⟩
def Rw.bd(r:Rw):Bd:=⟨-r.b/r.a,decide (r.k=1)⟩
def Rw.Dv{r:Rw}(h:r.a≠0):r.a*r.bd.x=-r.b:=by show r.a*(-r.b/r.a)=-r.b;rw[Rat.div_def];have:=Rat.mul_inv_cancel r.a h;grind
def Rw.axg{r:Rw}(c:r.k≠0)(h:0<r.a)(v:Rat):r.at v↔r.bd.hi v:=by have e:=r.Dv ah;have d:r.a*v+r.b=r.a*(v-r.bd.x):=ah;unfold Rw.at;rw[d,Df h];unfold hK Bd.hi;rw[Z c];show(if r.k=1 then _ else _)↔if decide (r.k=1)=true then _ else _;by_cases f:r.k=1<;>simp[f]<;>grind
def Rw.azk{r:Rw}(c:r.k≠0)(h:r.a<0)(v:Rat):r.at v↔r.bd.lo v:=by have e:=r.Dv ah;have d:r.a*v+r.b=(-r.a)*(r.bd.x-v):=ah;unfold Rw.at;rw[d,Df ah];unfold hK Bd.lo;rw[Z c];show(if r.k=1 then _ else _)↔if decide (r.k=1)=true then _ else _;by_cases f:r.k=1<;>simp[f]<;>grind
def atT{l:List Rw}{r:Rw}(d:r∈l)(f:r.k=0)(a:r.a≠0):(∃v,∀t∈l,t.at v)↔∀t∈l,hK t.k (t.a*r.bd.x+t.b):=by
 have e:=r.Dv a;constructor
 ·rintro⟨v,b⟩ t g;have c:=b r d;unfold Rw.at hK at c;rw[aM f]at c;have:v=r.bd.x:=by
   have:r.a*(v-r.bd.x)=0:=ah;rcases N4.1 this with h|h
   ·exact absurd h a
   ·grind
  rw[<-this];exact b t g
 ·intro h;exact⟨r.bd.x,h⟩
def atU{l:List Rw}(i:∀t∈l,t.k=0->t.a=0):(∃v,∀t∈l,t.at v)↔
 (∀t∈l,t.a=0->hK t.k t.b)/\∀t∈l,∀u∈l,0<t.a->u.a<0->hK (if t.k=1\/u.k=1 then 1 else 2) (-u.a*t.b+t.a*u.b):=by
 constructor
 ·rintro⟨v,j⟩;refine⟨λt c B=>?_,λt c u f k s=>?_⟩
  ·have:=j t c;unfold Rw.at at this;rw[B]at this;rw[show(0:Rat)*v+t.b=t.b by grind]at this;exact this
  ·have a:=j t c;have b:=j u f;have m:t.k≠0:=λh=>by have:=i t c h;grind
   have n:u.k≠0:=λh=>by have:=i u f h;grind
   unfold Rw.at at a b;rw[<-Df (show 0< -u.a by grind)]at a;rw[<-Df k]at b;have e:-u.a*t.b+t.a*u.b=-u.a*(t.a*v+t.b)+t.a*(u.a*v+u.b):=ah;rw[e];generalize-u.a*(t.a*v+t.b)=x at*;generalize t.a*(u.a*v+u.b)=y at*;unfold hK at*;rw[Z m]at a;rw[Z n]at b;by_cases o:t.k=1<;>by_cases p:u.k=1<;>simp[o,p]at* <;>grind
 ·rintro⟨k,s⟩;obtain⟨v,C,f⟩:=apd ((l.filter λ(t:Rw)=>decide (t.a<0)).map Rw.bd) ((l.filter λ(t:Rw)=>decide (0<t.a)).map Rw.bd) (λd D e E=>by obtain⟨u,f,rfl⟩:=b_.1 D;obtain⟨t,c,rfl⟩:=b_.1 E;obtain⟨f,w⟩:=jr.1 f;obtain⟨c,q⟩:=jr.1 c;rw[be]at w q;have g:=s t c u f q w;have G:=t.Dv ah;have H:=u.Dv ah;have e:-u.a*t.b+t.a*u.b=(-u.a*t.a)*(u.bd.x-t.bd.x):=ah;have pI:0< -u.a*t.a:=yI ah q;rw[e,Df pI]at g;show u.bd.x<t.bd.x\/(u.bd.x=t.bd.x/\decide (u.k=1)=false/\decide (t.k=1)=false);unfold hK at g;by_cases o:t.k=1<;>by_cases p:u.k=1<;>simp[o,p]at* <;>grind)
  refine⟨v,λt c=>?_⟩;by_cases r:t.a=0
  ·unfold Rw.at;rw[r,show(0:Rat)*v+t.b=t.b by grind];exact k t c r
  ·have z:t.k≠0:=λh=>r (i t c h)
   by_cases A:0<t.a
   ·exact(Rw.axg z A v).2 (f _ (b_.2 ⟨t,jr.2 ⟨c,by simpa using A⟩,rfl⟩))
   ·exact(Rw.azk z ah v).2 (C _ (b_.2 ⟨t,jr.2 ⟨c,by simpa using(show t.a<0 by grind)⟩,rfl⟩))
structure fx where
 r:Int
 f0:Rat
 f1:Rat
def fx.v(a:fx)(x:Rat):Rat:=a.f0+a.f1*x
def ri(r:Int):Bool:=decide (r=1\/r=4\/r=6)
def fx.vU(a:fx):Int:=if a.f1=0 then dx a.f0 else-dx a.f1
def fx.rU(a:fx)(x:Rat):Int:=if a.v x=0 then dx a.f1 else dx (a.v x)
def fx.gJ(a:fx):Rat:=-a.f0/a.f1
def fx.az8{a:fx}(h:a.f1≠0):a.f1*a.gJ=-a.f0:=by show a.f1*(-a.f0/a.f1)=-a.f0;rw[Rat.div_def];have:=Rat.mul_inv_cancel a.f1 h;grind
def fx.HR{a:fx}(h:a.f1≠0)(x:Rat):a.v x=a.f1*(x-a.gJ):=by have:=a.az8 h;unfold fx.v;grind
def aG8{x l:Rat}(d:l<0):dx (x*l)=-dx x:=by
 have h:=Mv (x:=x) (l:=-l) ah;rcases pM x with⟨c,e⟩|⟨c,e⟩|⟨c,e⟩
 ·rw[e];have:=yI (a:=-x) (b:=-l) ah ah;exact Hx ah
 ·rw[e,c,show(0:Rat)*l=0 by grind];rfl
 ·rw[e];have:=yI (a:=x) (b:=-l) ah ah;exact Hw ah
def fx.right{a:fx}(h:a.f1≠0)(b:a.gJ<x):dx (a.v x)=dx a.f1:=by rw[a.HR h];exact Mv ah
def fx.left{a:fx}(h:a.f1≠0)(b:x<a.gJ):dx (a.v x)=-dx a.f1:=by rw[a.HR h];exact aG8 ah
def Hv(h:x≠0):dx x≠0:=by
 rcases pM x with⟨_,e⟩|⟨e,_⟩|⟨_,e⟩
 ·rw[e];decide
 ·exact absurd e h
 ·rw[e];decide
def fx.const{a:fx}(h:a.f1=0)(x y:Rat):a.v x=a.v y:=by unfold fx.v;rw[h];grind
def fx.W9{a:fx}(h:a.f1≠0)(c:a.gJ<=x):a.rU x=dx a.f1:=by
 unfold fx.rU;split
 ·rfl
 ·rename_i b;refine a.right h ?_;rcases HL a.gJ x with h1|h1|h1
  ·exact h1
  ·exact absurd (by rw[a.HR h,h1];grind) b
  ·grind
def fx.W7{a:fx}(h:a.f1≠0)(b:x<a.gJ):a.rU x=-dx a.f1:=by unfold fx.rU;have e:=a.left h b;have:=Hv h;rw[Z (λc=>by rw[c,zJ]at e;omega)];exact e
def fx.Of{a:fx}(h:a.f1=0)(x:Rat):a.rU x=dx (a.v x):=by
 unfold fx.rU;split
 ·rename_i b;rw[b,h]
 ·rfl
theorem ace:∀l:List fx,∃V:Rat,∀v,v<=V->∀a∈l,dx (a.v v)=a.vU
 |[]=>⟨0,λ_ _ a h=>by cases h⟩
 |a::l=>by
  obtain⟨V,e⟩:=ace l;by_cases h:a.f1=0
  ·refine⟨V,λv d b c=>?_⟩;rcases da.1 c with rfl|c
   ·unfold fx.vU fx.v;rw[aM h,h];congr 1;grind
   ·exact e v d b c
  ·refine⟨min V (a.gJ-1),λv d b c=>?_⟩;have f:v<=V:=ah;have g:v<=a.gJ-1:=ah;rcases da.1 c with rfl|c
   ·unfold fx.vU;rw[Z h];exact b.left h ah
   ·exact e v f b c
theorem W8(x:Rat):∀l:List fx,∃e:Rat,0<e/\∀d,0<d->d<=e->∀a∈l,dx (a.v (x+d))=a.rU x
 |[]=>⟨1,ae,λ_ _ _ a h=>by cases h⟩
 |a::l=>by
  obtain⟨e,j,i⟩:=W8 x l;by_cases h:a.f1=0
  ·refine⟨e,j,λd g f b c=>?_⟩;rcases da.1 c with rfl|c
   ·rw[b.Of h,b.const h (x+d) x]
   ·exact i d g f b c
  ·by_cases k:a.gJ<=x
   ·refine⟨e,j,λd g f b c=>?_⟩;rcases da.1 c with rfl|c
    ·rw[b.W9 h k];exact b.right h ah
    ·exact i d g f b c
   ·refine⟨min e ((a.gJ-x)/2),ah,λd g f b c=>?_⟩;have m:d<=e:=ah;have n:d<=(a.gJ-x)/2:=ah;rcases da.1 c with rfl|c
    ·rw[b.W7 h ah];exact b.left h ah
    ·exact i d g m b c
def aFt{s:Int}(a:ri r=true)(h:rH r s=true):s≠0:=by unfold ri at a;rw[be]at a;rintro rfl;rcases a with rfl|rfl|rfl<;>simp[rH]at h
def aFu(a:ri r=false):rH r 0=true:=by
 unfold ri at a;rw[bc]at a;unfold rH;rw[Z O];split
 ·simp
 ·rw[Z O];split
  ·simp
  ·rw[Z O];simp
def aqp(X:Rat)(l:List fx):
 (∃a∈l,a.f1≠0/\ri a.r=false/\∀b∈l,rH b.r (dx (b.v X))=true->rH b.r (dx (b.v a.gJ))=true)\/
 (∃a∈l,a.f1≠0/\ri a.r=true/\∀b∈l,rH b.r (dx (b.v X))=true->rH b.r (b.rU a.gJ)=true)\/
 ∀b∈l,rH b.r (dx (b.v X))=true->rH b.r b.vU=true:=by
 cases u:l.filter (λa=>decide (a.f1≠0)&&(rH a.r (dx (a.v X))&&decide (a.gJ<=X)))with
 |nil=>
  refine .inr (.inr λb o f=>?_);unfold fx.vU;split
  ·rename_i h;have:b.v X=b.f0:=by unfold fx.v;rw[h];grind
   rwa [this]at f
  ·rename_i h;have E:¬b.gJ<=X:=λi=>by have:b∈l.filter (λa=>decide (a.f1≠0)&&(rH a.r (dx (a.v X))&&decide (a.gJ<=X))):=jr.2 ⟨o,by simp[h,f,i]⟩;rw[u]at this;cases this
   rwa [b.left h ah]at f
 |cons c C=>
  have s:∀a,a∈c::C↔a∈l/\a.f1≠0/\rH a.r (dx (a.v X))=true/\a.gJ<=X:=λa=>by rw[<-u,jr];simp
  obtain⟨y,q,r⟩:=Jj (C.map λa=>⟨a.gJ,ri a.r⟩) ⟨c.gJ,ri c.r⟩;obtain⟨m,A,rfl⟩:∃m∈c::C,y=⟨m.gJ,ri m.r⟩:=by
   rcases da.1 q with rfl|h
   ·exact⟨c,b6 ..,rfl⟩
   ·obtain⟨e,he,rfl⟩:=b_.1 h;exact⟨e,cv _ he,rfl⟩
  have g:∀e∈c::C,∀v,(if ri m.r then m.gJ<v else m.gJ<=v)->(if ri e.r then e.gJ<v else e.gJ<=v):=λe he v h=>by
   refine r ⟨e.gJ,ri e.r⟩ ?_ v h;rcases da.1 he with rfl|he
   ·exact b6 ..
   ·exact cv _ (b_.2 ⟨e,he,rfl⟩)
  have j:∀e∈c::C,e.gJ<=m.gJ:=λe he=>by
   refine Rat.not_lt.1 λB=>?_
   have:=g e he ((e.gJ+m.gJ)/2) (by split<;>grind);split at this<;>grind
  obtain⟨t,p,x,D⟩:=(s m).1 A;cases I:ri m.r with
  |true=>
   refine .inr (.inl ⟨m,t,p,I,λb o f=>?_⟩);have z:m.gJ<X:=by
    rcases HL m.gJ X with h|h|h
    ·exact h
    ·exact absurd (by rw[m.HR p,h,show m.f1*(X-X)=0 by grind];exact zJ) (aFt I x)
    ·grind
   by_cases d:b.f1=0
   ·rw[b.Of d,b.const d _ X];exact f
   ·by_cases i:b.gJ<=X
    ·have:=j b ((s b).2 ⟨o,d,f,i⟩);rw[b.W9 d this];rwa [b.right d ah]at f
    ·rw[b.W7 d ah];rwa [b.left d ah]at f
  |false=>
   refine .inl ⟨m,t,p,I,λb o f=>?_⟩;by_cases d:b.f1=0
   ·rw[b.const d _ X];exact f
   ·by_cases i:b.gJ<=X
    ·have n:=(s b).2 ⟨o,d,f,i⟩;rcases HL b.gJ m.gJ with h|h|h
     ·rw[b.right d h];rwa [b.right d ah]at f
     ·have w:=g b n m.gJ (by rw[I];simp;try grind);cases k:ri b.r with
      |true=>rw[k,h]at w;simp at w
      |false=>rw[b.HR d,h,show b.f1*(m.gJ-m.gJ)=0 by grind,zJ];exact aFu k
     ·have:=j b n;grind
    ·rw[b.left d ah];rwa [b.left d ah]at f
end Go.Ab.VS
