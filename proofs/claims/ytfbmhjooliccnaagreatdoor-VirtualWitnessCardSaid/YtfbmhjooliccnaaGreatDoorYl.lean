/- Part of VirtualWitness. No condition. -/
import Derived.Test.YtfbmhjooliccnaaGreatDoorYk
set_option linter.all false
set_option maxRecDepth 100000
set_option maxHeartbeats 60000000
noncomputable section
namespace Go.Proofs.YtfbmhjooliccnaaGreatDoor
open Go Go.Ab Go.Proofs.Tryz
variable {p q P Q r M:J}{N y j m v:Nat}{i Z:Int}{l:zJ0}{L:Nat→List J}{X:bk}{U H:J→J→J}{R K:Option J}
def aBK{a:zJ0}(h:∀c∈l,∀d∈a,U c d=H c d)(k i:Nat):lW U l a k i=lW H l a k i:=by
 unfold lW;split
 ·rename_i p b;split
  ·split
   ·rename_i q e;split
    ·rfl
    ·rw[h p (bF b) q (bF e)]
   ·rfl
  ·rfl
 ·rfl
def adE(a:∀c∈p.aG,U c q=H c q)(b:∀c∈p.aG,∀d∈q.aG,U c d=H c d):jU U p q=jU H p q:=by
 unfold jU;have e:p.aG.map (λc=>U c q)=p.aG.map (λc=>H c q):=lc a;have h:∀k,jD U p.aG q.aG k=jD H p.aG q.aG k:=λk=>by unfold jD;congr 1;funext i;exact aBK b k i
 rw[e];simp only[h]
def Gm:∀(f Z:Nat)(p q:J),br 4 p->br 4 q->p.aJ+q.aJ<=f->f<=Z->jd Z p q=jd f p q:=by
 have z:∀(Z:Nat)(p q:J),br 4 p->br 4 q->p.aJ+q.aJ<=0->jd Z p q=jd 0 p q:=by
  intro Z p q e i h;have a:=e.lv;have b:=i.lv;cases Z with
  |zero=>rfl
  |succ Z=>
   rw[jd,jd,g O,jU];split
   ·rfl
   ·rw[aK O]
 intro f
 induction f with
 |zero=>intro Z p q e i h _;exact z Z p q e i O
 |succ f r=>
  intro Z p q e i h C;obtain⟨Z,rfl⟩:∃j,Z=j+1:=⟨Z-1,O⟩;have m:∀{p q:J},br 4 p->br 4 q->p.aJ+q.aJ<=(f:Int)+1->q.aJ<=p.aJ->jU (jd Z) p q=jU (jd f) p q:=λ{p q} e i h D=>by
   have a:=e.lv;have b:=i.lv;refine adE (λc o=>?_) (λc o d s=>?_)
   ·have k:=e.bz o;have B:=k.lv;have:1<=p.aJ:=by
     cases e with
     |const n=>simp[kP,J.aG]at o
     |node l y x w v u t=>show(1:Int)<=l;omega
    exact r Z c q (k.mono O) i O O
   ·have k:=e.bz o;have k2:=i.bz s;have B:=k.lv;have A:=k2.lv;have:1<=p.aJ:=by
     cases e with
     |const n=>simp[kP,J.aG]at o
     |node l y x w v u t=>show(1:Int)<=l;omega
    have:1<=q.aJ:=by
     cases i with
     |const n=>simp[kP,J.aG]at s
     |node l y x w v u t=>show(1:Int)<=l;omega
    exact r Z c d (k.mono O) (k2.mono O) O O
  rw[jd,jd];split
  ·exact m i e O O
  ·exact m e i O O
def adG(f:br 4 p)(h:br 4 q)(n:q.aJ<=p.aJ):bn p q=jU bn p q:=by
 have a:=f.lv;have b:=h.lv;have e:jU bn p q=jU (jd (p.aJ+q.aJ).toNat) p q:=by
  refine adE (λc i=>?_) (λc i d j=>?_)
  ·have k:=f.bz i;have l:=k.lv;exact(Gm _ _ c q (k.mono O) h O O).symm
  ·have k:=f.bz i;have k2:=h.bz j;have l:=k.lv;have m:=k2.lv;exact(Gm _ _ c d (k.mono O) (k2.mono O) O O).symm
 rw[e];unfold bn;rw[<-Gm (p.aJ+q.aJ).toNat ((p.aJ+q.aJ).toNat+1) p q f h O O,jd,g O]
def ayA(c:br 4 p)(d:br 4 q)(e:p.aJ<q.aJ):bn p q=jU bn q p:=by
 have a:=c.lv;have b:=d.lv;rw[<-adG d c O];unfold bn
 rw[<-Gm (p.aJ+q.aJ).toNat ((p.aJ+q.aJ).toNat+1) p q c d O O,jd,aK e,
  <-Gm (q.aJ+p.aJ).toNat ((q.aJ+p.aJ).toNat+1) q p d c O O,jd,g O,Int.add_comm q.aJ]
def dF.wk(h:dF p q):dF q p:=by unfold dF at*;obtain⟨d,k,e,l,c,f,i,j⟩:=h;exact⟨e,l,d,k,f,c,O,O⟩
theorem Sz.bz{d k:Nat}{p c:J}(h:Sz d k p)(a:c∈p.aG):Sz d k c:=by
 refine⟨(h.bw.bz a).mono (by have:=h.bw.lv;omega),h.dl.bz c a,?_⟩;have b:=h.nm;cases e:h.bw with
 |const n=>simp[kP,J.aG]at a
 |node j q i f o m l=>rw[oI _ i f]at b;exact nc (v7 a) b
def dF.kl(h:dF p q)(f:P∈p.aG):dF P q:=by unfold dF at*;obtain⟨d,k,e,l,i,j,m,n⟩:=h;exact⟨d,k,e,l,i.bz f,j,m,n⟩
def dF.kk{d:J}(h:dF p q)(e:P∈p.aG)(f:d∈q.aG):dF P d:=(h.kl e).wk.kl f |>.wk
theorem dF.len{p q:J}(h:dF p q):p.aG.length+q.aG.length<=14:=by unfold dF at h;obtain⟨d,k,e,l,f,c,j,i⟩:=h;have:=f.dl.len;have:=c.dl.len;omega
def br.kl(h:br 4 p)(a:q∈p.aG):q.aJ<p.aJ:=by
 have k:=(h.bz a).lv;have:1<=p.aJ:=by
  cases h with
  |const n=>simp[kP,J.aG]at a
  |node b d e f i j l=>show(1:Int)<=b;omega
 omega
def qi(p q:J)(k:Nat)(i:Int):Option J:=lW bn p.aG q.aG k i.toNat
def tv(l:ao)(y k:Nat)(i:Int):Bool:=(l.take y).any λj=>decide (i+j=(k:Int))
@[irreducible] def PT(p q:J)(k x y:Nat):List J:=
  ((dK p.aG).take x).filterMap (qi p q k)++(match(dK p.aG)[x]? with|some i=>if tv (dK q.aG) y k i then(qi p q k i).toList else []|none=>[])
def al9(p q:J)(k:Nat):PT p q k 0 0=[]:=by unfold PT tv;simp;split<;>rfl
def Lp(h:i∈dK l):∃n:Nat,i=(n:Int)/\n<l.length/\((l[n]?).map bM).getD true=false:=by unfold dK mP at h;obtain⟨n,a,rfl⟩:=cj.1 h;obtain⟨b,c⟩:=iZ.1 a;exact⟨n,rfl,ol.1 b,by simpa using c⟩
def aBI{cs:zJ0}{n:Nat}(a:n<cs.length)(b:((cs[n]?).map bM).getD true=false):(n:Int)∈dK cs:=by unfold dK mP;exact cj.2 ⟨n,iZ.2 ⟨ol.2 a,by simpa using b⟩,rfl⟩
def afj{cs:zJ0}(h:(dK cs)[(N:Int).toNat]?=some i):0<=i/\i<cs.length:=by obtain⟨n,rfl,a,_⟩:=Lp (bF h);omega
def aBH{cs:zJ0}:(dK cs).Pairwise (·< ·):=by unfold dK mP;rw[List.pairwise_map];refine List.Pairwise.sublist Eh (List.pairwise_lt_range.imp ?_);intro a b h;omega
def ab1{l:ao}(a:l[(y:Int).toNat]?=some Z):tv l (y+1) N i=(tv l y N i||decide (i+Z=(N:Int))):=by unfold tv;rw[xX a,List.any_append];simp
def amb(a:(dK p.aG)[(j:Int).toNat]?=some i)(b:(dK q.aG)[(y:Int).toNat]?=some Z)(h:i+Z≠(N:Int)):PT p q N j y=PT p q N j (y+1):=by unfold PT;rw[bI]at a;rw[a];simp only;rw[ab1 b,s_ h,Bool.or_false]
def aBf(o:i∈dK p.aG)(r:Z∈dK q.aG)(h:i+Z=(N:Int))(d:p.aG[i.toNat]?=some P)(f:q.aG[Z.toNat]?=some Q):qi p q N i=some (bn P Q):=by obtain⟨n,rfl,s,l⟩:=Lp o;obtain⟨m,rfl,t,c⟩:=Lp r;rw[bI]at d f;rw[d]at l;rw[f]at c;simp at l c;unfold qi lW;rw[bI,d];simp only;have e:N-n=m:=O;rw[aK O,e,f];simp only;rw[l,c];rfl
def amd{j:Int}(e:(dK p.aG)[(m:Int).toNat]?=some i)(c:(dK q.aG)[(y:Int).toNat]?=some j)(h:i+j=(N:Int))(r:p.aG[i.toNat]?=some P)(s:q.aG[j.toNat]?=some Q):PT p q N m y++[bn P Q]=PT p q N m (y+1):=by
 have t:=aBf (bF e) (bF c) h r s;have f:tv (dK q.aG) y N i=false:=by
  unfold tv;rw[List.any_eq_false];intro u l v;simp at v;have w:u<j:=by rw[bI]at c;obtain⟨n,o⟩:=yt l;have z:=(dM.1 o).1;rw[ez]at z;rw[Nk O]at o;have d:=B5.1 (aBH (cs:=q.aG)) n y O (dM.1 c).1 O;rw[(dM.1 o).2,(dM.1 c).2]at d;exact d
  omega
 unfold PT;rw[bI]at e;rw[e];simp only;rw[ab1 c,f,qP h,t];simp
def amc(f:(dK p.aG)[(j:Int).toNat]?=some i)(o:decide ((y:Int)<((dK q.aG).length:Int))=false):PT p q N j y=PT p q N (j+1) 0:=by
 have r:∀i,tv (dK q.aG) 0 N i=false:=λi=>by unfold tv;simp
 unfold PT;rw[xX f,ym];have d:=f;rw[bI]at d;rw[d];simp only[r];have e:(if tv (dK q.aG) y N i then(qi p q N i).toList else [])=[i].filterMap (qi p q N):=by
  split
  ·cases h:qi p q N i with
   |none=>rw[yn h];rfl
   |some c=>rw[yo h];rfl
  ·rename_i s;have:qi p q N i=none:=by
    unfold qi lW;split
    ·rename_i a w;split
     ·rename_i t;split
      ·rename_i b l;split
       ·rfl
       ·rename_i m;exfalso;apply s;simp at m;obtain⟨n,rfl,u,_⟩:=Lp (bF f);rw[bI]at*;have v:=aBI (cs:=q.aG) (n:=N-n) (dM.1 l).1 (by rw[l];simp[m.2]);unfold tv;rw[eQ (by simp only[bj]at o;omega),uf];exact⟨_,v,by simp;omega⟩
      ·rfl
     ·rfl
    ·rfl
   rw[yn this];rfl
 rw[e];split<;>simp
def al_{k:Nat}(f:decide ((N:Int)<((dK p.aG).length:Int))=false):PT p q k N 0=jD bn p.aG q.aG k:=by
 simp only[bj]at f;unfold PT;rw[gp O,eQ O,l4];unfold jD dK mP;rw[List.filterMap_map];have:∀n,((List.range n).filter λi=>!((p.aG[i]?).map bM).getD true).filterMap (qi p q k∘λ(i:Nat)=>(i:Int))=(List.range n).filterMap (lW bn p.aG q.aG k):=by
  intro n
  induction n with
  |zero=>rfl
  |succ n h=>
   rw[oW,Ad,ym,ym,h];congr 1;cases b:((p.aG[n]?).map bM).getD true with
   |false=>
    rw[yp (by simp[b]),Nh];have e:(qi p q k∘λ(i:Nat)=>(i:Int)) n=lW bn p.aG q.aG k n:=by unfold qi;simp
    cases d:lW bn p.aG q.aG k n with
    |none=>rw[yn d,yn (e.trans d)];rfl
    |some c=>rw[yo d,yo (e.trans d)];rfl
   |true=>
    rw[Ae (by simp[b]),Nh];have:lW bn p.aG q.aG k n=none:=by
     unfold lW;cases j:p.aG[n]? with
     |none=>rfl
     |some a=>
      rw[j]at b;simp at b;simp only;split
      ·split
       ·rw[b];rfl
       ·rfl
      ·rfl
    rw[yn this];rfl
 exact this _
def aBM(h:P∈jD bn p.aG q.aG N):∃a∈p.aG,∃b∈q.aG,P=bn a b:=by
 obtain⟨i,j,d⟩:=Ai.1 h;unfold lW at d;split at d
 ·rename_i a e;split at d
  ·split at d
   ·rename_i b f;split at d
    ·cases d
    ·injection d with d;subst d
     exact⟨a,bF e,b,bF f,rfl⟩
   ·cases d
  ·cases d
 ·cases d
def aBL(h:dF p q)(k:Nat):oT (jD bn p.aG q.aG k):=by
 have r:=h.len;unfold dF at h;obtain⟨d,m,e,l,f,i,s,t⟩:=h;unfold oT;refine⟨m+l,?_⟩;unfold mU;refine⟨λc j=>?_,O,?_⟩
 ·obtain⟨a,n,b,o,rfl⟩:=aBM j;have Y:=(f.bz n).mul (i.bz o);exact⟨Y.bw,Sz.pb Y.bw (bu _) Y.dl Y.nm O⟩
 ·unfold jD;refine eZ (Nn _ _) ?_;rw[oh];omega
def ama(p q:J)(k x y:Nat):(PT p q k x y).length<=(dK p.aG).length+1:=by
 unfold PT;rw[c_];have b:(((dK p.aG).take x).filterMap (qi p q k)).length<=(dK p.aG).length:=eZ (Nn _ _) (by rw[ez];omega);have a:(match(dK p.aG)[x]? with|some i=>if tv (dK q.aG) y k i then(qi p q k i).toList else []|none=>[]).length<=1:=by
  split
  ·split
   ·cases qi p q k _<;>simp
   ·simp
  ·simp
 omega
@[irreducible] def oY(p q:J)(N x:Nat):List J:=(List.range x).map (λk=>iP (jD bn p.aG q.aG k))++List.replicate (N-x) zP
def aqG(p q:J)(N:Nat):oY p q N 0=List.replicate N zP:=by unfold oY;simp
def Ol(h:y<=N):(oY p q N y).length=N:=by unfold oY;simp;omega
def aqH(h:y<N):(oY p q N y).set y (iP (jD bn p.aG q.aG y))=oY p q N (y+1):=by unfold oY;have e:N-y=(N-(y+1))+1:=O;rw[e,rR,vl _ _ ai];simp[oW]
@[irreducible] def MN(p q:J)(N:Nat):=p.aJ=q.aJ->p.aJ≠0->p.aG.length+q.aG.length=N+1
@[irreducible] def MG(p q P Q:J)(N:Nat):=dF P Q/\bn p q=jU bn P Q/\Q.aJ<=P.aJ/\P.aJ+Q.aJ=p.aJ+q.aJ/\MN P Q N
def MG.u{p q P Q:J}{N:Nat}(h:MG p q P Q N):=(MG.eq_1 ..).to_iff.1 h
def MG.mu(h:MG p q P Q N):dF P Q:=h.u.1
def alw(h:dF p q)(b:MN p q N)(a:decide (p.aJ<q.aJ)=false):MG p q p q N:=by have a:=fg a;unfold MG;exact⟨h,adG h.a.bw h.b.bw O,O,rfl,b⟩
def alx(h:dF p q)(a:decide (p.aJ<q.aJ)=true):MG p q q p N:=by have a:=eD a;unfold MG;exact⟨h.wk,ayA h.a.bw h.b.bw a,O,O,by unfold MN;intro e;omega⟩
@[irreducible] def qI(p q c d:J):=dF c d/\c.aJ+d.aJ<p.aJ+q.aJ
def qI.mu{d:J}(h:qI p q P d):dF P d:=by unfold qI at h;exact h.1
def qI.lt(h:qI p q P Q):P.aJ+Q.aJ<p.aJ+q.aJ:=by unfold qI at h;exact h.2
def MG.sl(h:MG p q P Q N)(b:r∈P.aG):qI p q r Q:=by have a:=h.u;unfold qI;exact⟨a.1.kl b,by have:=a.1.a.bw.kl b;omega⟩
def MG.sk{d:J}(h:MG p q P Q N)(b:r∈P.aG)(e:d∈Q.aG):qI p q r d:=by have a:=h.u;unfold qI;exact⟨a.1.kk b e,by have:=a.1.a.bw.kl b;have:=a.1.b.bw.kl e;omega⟩
def MG.z(h:MG p q P Q N)(a:bM P=true\/bM Q=true):bn p q=zP:=by rw[h.u.2.1,jU];rcases a with e|e<;>rw[e]<;>simp
def MG.k(h:MG p q P Q N)(a:bM P=false)(b:bM Q=false)(c:(P.aJ==0)=true):bn p q=kP (cV P*cV Q):=by rw[h.u.2.1,jU,a,b,g ai,aK (an c)]
theorem MG.dg{p q P Q:J}{N:Nat}(h:MG p q P Q N):Dg P.aF/\Dg Q.aF/\P.aF.length+Q.aF.length<=1099511627776:=by have Z:=h.mu;refine⟨Z.a.dg,Z.b.dg,?_⟩;have b:=Z.a;have a:=Z.b;unfold CZ at b a;obtain⟨d,k,j,f,b⟩:=b;obtain⟨e,l,i,c,a⟩:=a;have n:=(Sz.pb b.bw (bu _) b.dl b.nm O).aF;have m:=(Sz.pb a.bw (bu _) a.dl a.nm O).aF;omega
@[irreducible] def tF(p q:J)(x:Nat):List J:=(p.aG.take x).map (λc=>bn c q)++List.replicate (p.aG.length-x) zP
def ayc(p q:J):tF p q 0=List.replicate p.aG.length zP:=by unfold tF;simp
def ady(h:N<=p.aG.length):(tF p q N).length=p.aG.length:=by unfold tF;simp;omega
def aye(a:decide ((N:Int)<p.aG.length)=true)(b:p.aG[(N:Int).toNat]?=some P):(tF p q N).set (N:Int).toNat (bn P q)=tF p q (N+1):=by unfold tF;exact Tg (f:=λP=>bn P q) a b
def ayd(a:decide ((N:Int)<p.aG.length)=false)(h:N<=p.aG.length):tF p q N=p.aG.map λc=>bn c q:=by unfold tF;exact Py (f:=λc=>bn c q) a h
@[irreducible] def ML(p q P Q:J)(N x:Nat):=MG p q P Q N/\x<=P.aG.length/\bM P=false/\bM Q=false/\P.aJ≠0/\Q.aJ<P.aJ
def ML.u{p q P Q:J}{N x:Nat}(h:ML p q P Q N x):=(ML.eq_1 ..).to_iff.1 h
def aly(h:MG p q P Q N)(a:bM P=false)(b:bM Q=false)(c:(P.aJ==0)=false)(d:decide (Q.aJ<P.aJ)=true):ML p q P Q N 0:=by unfold ML;exact⟨h,dD _,a,b,by simpa using c,eD d⟩
def alz(h:ML p q P Q N y)(b:P.aG[(y:Int).toNat]?=some r):ML p q P Q N (y+1):=by have a:=h.u;unfold ML;exact⟨a.1,lp b,a.2.2⟩
def HX(h:ML p q P Q N y)(b:decide ((y:Int)<P.aG.length)=false):bn p q=.mk P.aJ false [] (tF P Q y):=by have a:=h.u;rw[ayd b a.2.1,a.1.u.2.1,jU,a.2.2.1,a.2.2.2.1,g ai,g a.2.2.2.2.1,aK a.2.2.2.2.2]
@[irreducible] def MP(p q P Q:J)(N x:Nat):=MG p q P Q N/\x<=(dK P.aG).length/\bM P=false/\bM Q=false/\P.aJ≠0/\P.aJ=Q.aJ/\P.aG.length+Q.aG.length=N+1/\2<=P.aG.length/\2<=Q.aG.length
def MP.u{p q P Q:J}{N x:Nat}(h:MP p q P Q N x):=(MP.eq_1 ..).to_iff.1 h
def alC(h:MG p q P Q N)(j:bM P=false)(k:bM Q=false)(d:(P.aJ==0)=false)(e:decide (Q.aJ<P.aJ)=false):MP p q P Q N 0:=by have c:=h.u;have d:P.aJ≠0:=an d;have e:=fg e;have f:P.aJ=Q.aJ:=O;have i:=c.2.2.2.2;unfold MN at i;obtain⟨_,_,_,_,_,a⟩:=c.1.a.bw.ow d;obtain⟨_,_,_,_,_,b⟩:=c.1.b.bw.ow O;unfold MP;exact⟨h,dD _,j,k,d,f,i f d,a,b⟩
def alD(h:MP p q P Q N y)(b:decide ((y:Int)<((dK P.aG).length:Int))=true):MP p q P Q N (y+1):=by have a:=h.u;have:=eD b;unfold MP;exact⟨a.1,O,a.2.2⟩
def Sp(cs:zJ0):(dK cs).length<=cs.length:=afi cs cs.length
@[irreducible] def MQ(p q P Q:J)(N x:Nat)(i:Int)(y:Nat):=MP p q P Q N x/\(dK P.aG)[(x:Int).toNat]?=some i/\y<=(dK Q.aG).length
def MQ.u{p q P Q:J}{N x y:Nat}{i:Int}(h:MQ p q P Q N x i y):=(MQ.eq_1 ..).to_iff.1 h
def alE(h:MP p q P Q N y)(a:(dK P.aG)[(y:Int).toNat]?=some i):MQ p q P Q N y i 0:=by unfold MQ;exact⟨h,a,dD _⟩
@[irreducible] def MR(p q P Q:J)(N x:Nat)(i:Int)(y:Nat)(j:Int):=MQ p q P Q N x i y/\(dK Q.aG)[(y:Int).toNat]?=some j
def MR.u{p q P Q:J}{N x y:Nat}{i j:Int}(h:MR p q P Q N x i y j):=(MR.eq_1 ..).to_iff.1 h
def alF{j:Int}(h:MQ p q P Q N m i y)(a:(dK Q.aG)[(y:Int).toNat]?=some j):MR p q P Q N m i y j:=by unfold MR;exact⟨h,a⟩
def MR.n(h:MR p q P Q N j i y Z):MQ p q P Q N j i (y+1):=by have a:=h.u;have b:=a.1.u;have:=lp a.2;unfold MQ;exact⟨b.1,b.2.1,this⟩
def MR.bd(h:MR p q P Q N j i y Z):0<=i/\0<=Z/\i+Z<(N:Int)/\i<P.aG.length/\Z<Q.aG.length/\P.aG.length<=14/\Q.aG.length<=14:=by have e:=h.u;have a:=afj e.1.u.2.1;have b:=afj e.2;have c:=e.1.u.1.u;have d:=c.1.mu.len;omega
def MR.pl(h:MR p q P Q N j i y Z)(k a b:Nat):(PT P Q k a b).length<=15:=by have:=ama P Q k a b;have:=Sp P.aG;have:=h.bd;omega
def MR.no(h:MR p q P Q N j i y Z)(a:i+Z=(m:Int))(b:m≠v):PT P Q v j y=PT P Q v j (y+1):=amb h.u.1.u.2.1 h.u.2 O
def MR.UL(h:MR p q P Q N j i y Z)(c:i+Z=(m:Int))(d:P.aG[i.toNat]?=some r)(e:Q.aG[Z.toNat]?=some M):PT P Q m j y++[bn r M]=PT P Q m j (y+1):=amd h.u.1.u.2.1 h.u.2 c d e
theorem MQ.x{p q P Q:J}{N x y:Nat}{i:Int}(h:MQ p q P Q N x i y)(a:decide ((y:Int)<((dK Q.aG).length:Int))=false)(k:Nat):PT P Q k x y=PT P Q k (x+1) 0:=amc h.u.2.1 a
@[irreducible] def MC(p q P Q:J)(N x:Nat):=MP p q P Q N 0/\x<=N
def MC.u{p q P Q:J}{N x:Nat}(h:MC p q P Q N x):=(MC.eq_1 ..).to_iff.1 h
def als(h:MP p q P Q N y):MC p q P Q N 0:=by have a:=h.u;unfold MC MP;exact⟨⟨a.1,dD _,a.2.2⟩,dD _⟩
def alv(h:MC p q P Q N y)(a:decide ((y:Int)<(N:Int))=true):MC p q P Q N (y+1):=by have:=eD a;unfold MC;exact⟨h.u.1,O⟩
def MC.ad(h:MC p q P Q N y)(k:Nat):oT (jD bn P.aG Q.aG k):=aBL h.u.1.u.1.mu k
def MC.nx{x:Nat}(h:MC p q P Q N x)(a:decide ((x:Int)<(N:Int))=true)(b:(x:Int)=(y:Nat)):(oY P Q N x).set (x:Int).toNat (iP (jD bn P.aG Q.aG y))=oY P Q N (x+1):=by have c:=eD a;have:y=x:=O;subst this;rw[bI];exact aqH O
def MC.e(h:MC p q P Q N y)(c:decide ((y:Int)<(N:Int))=false):kO P.aJ (oY P Q N y)=bn p q:=by have d:=fg c;have a:=h.u;have b:=a.1.u;have:y=N:=O;subst this;rw[b.1.u.2.1,jU,b.2.2.1,b.2.2.2.1,g ai,g b.2.2.2.2.1,g O];unfold oY;rw[rT,HU,l4];have:y=P.aG.length+Q.aG.length-1:=O;rw[this]
def MP.nn(h:MP p q P Q N y):((P.aG.length:Nat):Int)+((Q.aG.length:Nat):Int)-1=(N:Int):=by have:=h.u;omega
def aHG:0=zP.aJ:=rfl
def aHH:false=zP.neg:=rfl
def aHI:zP.aF=[]:=rfl
def aHJ:zP.aG=[]:=rfl
def tw(h:decide ((J.mk p.aJ p.neg p.aF p.aG).aJ=0/\(J.mk p.aJ p.neg p.aF p.aG).aF.length=0)=false):bM p=false:=by cases p;exact h
def y7(h:decide ((J.mk p.aJ p.neg p.aF p.aG).aJ=0/\(J.mk p.aJ p.neg p.aF p.aG).aF.length=0)=true):bM p=true:=by cases p;exact h
def ajD(h:r=zP):0=r.aJ:=by rw[h];rfl
def ajE(h:r=zP):false=r.neg:=by rw[h];rfl
def ajF(h:r=zP):r.aF=[]:=by rw[h];rfl
def ajG(h:r=zP):r.aG=[]:=by rw[h];rfl
def aw6(h:r=kP i):0=r.aJ:=by rw[h];rfl
def aw7(h:r=kP (cV P*cV Q)):(iD (iV ⟨P.neg,P.aF⟩*iV ⟨Q.neg,Q.aF⟩)).neg=r.neg:=by rw[h];rfl
def aw8(h:r=kP (cV P*cV Q)):(iD (iV ⟨P.neg,P.aF⟩*iV ⟨Q.neg,Q.aF⟩)).aF=r.aF:=by rw[h];rfl
def aw9(h:r=kP i):r.aG=[]:=by rw[h];rfl
def azu(h:r=.mk i false [] l):i=r.aJ:=by rw[h];rfl
def azv(h:r=.mk i false [] l):false=r.neg:=by rw[h];rfl
def azw(h:r=.mk i false [] l):r.aF=[]:=by rw[h];rfl
def azx(h:r=.mk i false [] l):l=r.aG:=by rw[h];rfl
def cb1(h:l.length<=15)(x:J):(l.length+[x].length)*lC.dT<=140737488355328:=by have e:lC.dT=64:=rfl;have a:[x].length=1:=rfl;rw[e,a];omega
def cb2(h:l.length<=15)(x:J):l.length+[x].length<=140737488355328:=by have a:[x].length=1:=rfl;rw[a];omega
def cb3(l:zJ0)(x:J):((l.length:Nat):Int)<((l.length+[x].length:Nat):Int):=by have a:[x].length=1:=rfl;rw[a];omega
def cb4(l:zJ0)(x:J):((l.length:Nat):Int).toNat<(l++[x]).length:=ai
def cA:Code->Code
 |.seq a _=>a
 |_=>.skip
def cB:Code->Code
 |.seq _ b=>b
 |_=>.skip
def cD:Code->Code
 |.block _ c=>c
 |.loop c=>c
 |_=>.skip
noncomputable def Ks:Code:=(Tryz.f272.body).getD .skip
def Uz:Code:=cB (cB (cB Ks))
def UA:Code:=cB (cB Uz)
def Mz:Code:=cB UA
def Qq:Code:=cD (cD (cB (cA UA)))
def Qm:Code:=cA (cB (cB Qq))
def Qr:Code:=cD (cD (cB (cB (cD Qm))))
def kR0:Code:=cA Ks
def kC:Code:=cA (cB Ks)
def kB:Code:=cA (cB (cB Ks))
def F8:Code:=cA Uz
def Qs:Code:=cA (cB Uz)
def Qt:Code:=cA (cA UA)
def ace:Code:=cA Qq
def acf:Code:=cA (cD Qm)
def acg:Code:=cA (cB (cD Qm))
def ach:Code:=cA Qr
def Qn:Code:=cA (cB (cB Qr))
def aci:Code:=cB (cB (cB Qr))
def acj:Code:=cB (cB (cB Qq))
def Qp:Code:=.loop (.seq ach (.seq (.cond (.tmp 94) .skip (.exit 5)) (.seq Qn aci)))
def J5:Code:=.loop (.seq ace (.seq (.cond (.tmp 88) .skip (.exit 3)) (.seq (.block 4 (.seq acf (.seq acg (.block 5 Qp)))) acj)))
def axS:Tryz.f272.body=some (.seq kR0 (.seq kC (.seq kB (.seq F8 (.seq Qs (.seq (.seq Qt (.block 3 J5)) Mz)))))):=af
def H0(P Q:J):List (Nat×aV S):=[(0,.cells [.d (.sc (.int .i64 P.aJ)),.d (.b8 P.neg),.d (.bf (U:=S) W.u32 P.aF),.d (.bf (U:=S) W.aH P.aG)]),(1,.cells [.d (.sc (.int .i64 Q.aJ)),.d (.b8 Q.neg),.d (.bf (U:=S) W.u32 Q.aF),.d (.bf (U:=S) W.aH Q.aG)]),(2,.cells ((cQ .aH zP).map .d))]
abbrev BY(p q:J):Prop:=∀c d:J,dF c d->c.aJ+d.aJ<p.aJ+q.aJ->bh 272 [wE .aH c,wE .aH d] (eT .aH (bn c d))
def mA(p q:J)(h:dF p q)(N:Nat)(j:MN p q N)(i:BY p q):vcL Vw 171 [] ⟨[Fv,OR,OW,Jf,O0,qO Vw 272 (.el W.aH) (.el W.aH) (λ(c:J)(d:J)=>qI p q c d) (λ(c:J)(d:J)=>eT .aH (bn c d)) (λc d Z=>i c d Z.mu Z.lt)],[]⟩ [(4000003,⟨J×J,λv=>⟨[(2,.e (.c (.ptr 0 0))),(3,.e (.c (.ptr 1 0))),(4,.e (.c (.ptr 2 0)))],[(0,.cells [.d (.sc (.int .i64 v.1.aJ)),.d (.b8 v.1.neg),.d (.bf (U:=S) W.u32 v.1.aF),.d (.bf (U:=S) W.aH v.1.aG)]),(1,.cells [.d (.sc (.int .i64 v.2.aJ)),.d (.b8 v.2.neg),.d (.bf (U:=S) W.u32 v.2.aF),.d (.bf (U:=S) W.aH v.2.aG)]),(2,.cells ((cQ .aH zP).map .d))],3⟩,λv=>MG p q v.1 v.2 N/\True,λ_=>0⟩),
 (10,⟨J×Nat×J,λv=>⟨[(2,.e (.c (.ptr 0 0))),(3,.e (.c (.ptr 1 0))),(4,.e (.c (.ptr 2 0))),(5,.e (.c (.aW 3 (U:=S) W.aH v.1.aG.length))),(53,lT .aH v.1.aG),(54,iT v.1.aG.length),(55,iT v.2.1)],[(0,.cells [.d (.sc (.int .i64 v.1.aJ)),.d (.b8 v.1.neg),.d (.bf (U:=S) W.u32 v.1.aF),.d (.bf (U:=S) W.aH v.1.aG)]),(1,.cells [.d (.sc (.int .i64 v.2.2.aJ)),.d (.b8 v.2.2.neg),.d (.bf (U:=S) W.u32 v.2.2.aF),.d (.bf (U:=S) W.aH v.2.2.aG)]),(2,.cells ((cQ .aH zP).map .d)),(3,.aU (U:=S) W.aH (tF v.1 v.2.2 v.2.1))],4⟩,λv=>ML p q v.1 v.2.2 N v.2.1/\True,λv=>v.1.aG.length-v.2.1⟩)] (Pc Vw Tryz.f272.results.toList (eT .aH (bn p q))) (λf=>∃x:J×J,mt Vw [] f ⟨[(2,.e (.c (.ptr 0 0))),(3,.e (.c (.ptr 1 0))),(4,.e (.c (.ptr 2 0)))],[(0,.cells [.d (.sc (.int .i64 x.1.aJ)),.d (.b8 x.1.neg),.d (.bf (U:=S) W.u32 x.1.aF),.d (.bf (U:=S) W.aH x.1.aG)]),(1,.cells [.d (.sc (.int .i64 x.2.aJ)),.d (.b8 x.2.neg),.d (.bf (U:=S) W.u32 x.2.aF),.d (.bf (U:=S) W.aH x.2.aG)]),(2,.cells ((cQ .aH zP).map .d))],3⟩ (MP p q x.1 x.2 N 0/\True)) 1 3 kR0 kC kB (F1 [(wE .aH p),(wE .aH q)]):=by
 repeat' (first
  |((with_reducible show mt _ _ _ _ _);(conv=>whnf);(fail_if_success with_reducible show mt _ _ _ _ _))
  |with_reducible rfl
  |intro _
  |apply aP
  |have Z:decide (p.aJ<q.aJ)=true:=(by with_reducible assumption);refine @aX (J×J->Prop) _ (λw=>w.2.aJ<w.1.aJ) (@aX (J×J) _ (q,p) (aP ?_ λ(v:J×J)(a:MG p q v.1 v.2 N/\True)(m:v.2.aJ<v.1.aJ)=>?_))
  |have Z:decide (p.aJ<q.aJ)=false:=(by with_reducible assumption);refine @aX (J×J->Prop) _ (λ_=>True) (@aX (J×J) _ (p,q) (aP ?_ λ(v:J×J)(a:MG p q v.1 v.2 N/\True)(_:True)=>?_))
  |with_reducible exact absurd ‹v.2.aJ<v.1.aJ› (fg ‹decide (v.2.aJ<v.1.aJ)=false›)
  |refine @aX (J×Nat×J) _ (v.1,0,v.2) (aP ?_ λ(w:J×Nat×J)(b:ML p q w.1 w.2.2 N w.2.1/\True)=>?_)
  |refine @aX (J×Nat×J) _ (w.1,w.2.1+1,w.2.2) ?_
  |have n:MP p q v.1 v.2 N 0:=alC a.1 (tw (by with_reducible assumption)) (tw (by with_reducible assumption)) (by with_reducible assumption) (by with_reducible assumption);refine @aX (J×J) _ (v.1,v.2) ?_
  |fail)
 all_goals first|exact aZ|omega| (with_reducible first|exact alx h Z|exact alw h j Z)|((with_reducible show J.aJ _<J.aJ _);exact eD Z)| (with_reducible first|exact aHG|exact aHH|exact aHI|exact aHJ)|((with_reducible show(0:Int)=((_:Nat):Int));rfl)|((with_reducible show _=J.aJ _);first|(rename_i Z;first|exact ajD (MG.z a.1 (.inl (y7 Z)))|exact ajD (MG.z a.1 (.inr (y7 Z))))|rename_i Z;exact aw6 (MG.k a.1 (tw ak) (tw ak) Z)|rename_i Z;exact azu (HX b.1 Z))|((with_reducible show _=J.neg _);first|(rename_i Z;first|exact ajE (MG.z a.1 (.inl (y7 Z)))|exact ajE (MG.z a.1 (.inr (y7 Z))))|rename_i Z;exact aw7 (MG.k a.1 (tw ak) (tw ak) Z)|rename_i Z;exact azv (HX b.1 Z))|((with_reducible show J.aF _=_);first|(rename_i Z;first|exact ajF (MG.z a.1 (.inl (y7 Z)))|exact ajF (MG.z a.1 (.inr (y7 Z))))|rename_i Z;exact azw (HX b.1 Z))|((with_reducible show _=J.aF _);(rename_i Z;exact aw8 (MG.k a.1 (tw ak) (tw ak) Z)))|((with_reducible show J.aG _=_);first|(rename_i Z;first|exact ajG (MG.z a.1 (.inl (y7 Z)))|exact ajG (MG.z a.1 (.inr (y7 Z))))|rename_i Z;exact aw9 (MG.k a.1 (tw ak) (tw ak) Z))|((with_reducible show _=J.aG _);(rename_i Z;exact azx (HX b.1 Z)))|with_reducible exact a.1.dg.2.2|((with_reducible show bY _);first|exact a.1.dg.1 _ I|exact a.1.dg.2.1 _ I)|with_reducible exact bI _|((with_reducible show List.replicate _ _=tF _ _ _);rw[bI];exact(ayc _ _).symm)|with_reducible exact aly a.1 (tw ak) (tw ak) ak ak|((with_reducible show qI p q _ _);simp only[bm];with_reducible exact b.1.u.1.sl (bF I))|simp only[bm];with_reducible exact aye I I| (with_reducible first|exact alz b.1 I|exact(ady b.1.u.2.1).symm)|(have k:=a.1.mu.len;first|omega|show 64*_<=_;omega|show _<=1000000;omega)|(have k:=b.1.u;have l:=ady (q:=w.2.2) k.2.1;have k2:=k.1.mu.len;simp only[be,bj]at*;first|omega|show w.1.aG.length-(w.2.1+1)<w.1.aG.length-w.2.1;omega)
def Mc(e:List (Nat×ST S)):List (Nat×ST S)->Prop
 |[]=>True
 |p::r=>gE e p.1=p.2/\Mc e r
def aaa{e:List (Nat×ST S)}{H:List (Nat×aV S)}{c':Nat}:∀{e':List (Nat×ST S)},Mc e e'->dm N (·∈([]:au)) (⟨e,H,y⟩:SS S).st (⟨e',H,c'⟩:SS S).st:=by
 intro e' h;have a:∀e':List (Nat×ST S),Mc e e'->∀i,gE e' i=gE e i\/gE e' i=.any:=by
  intro e'
  induction e' with
  |nil=>intro _ i;exact .inr rfl
  |cons p r b=>
   intro h i;obtain⟨j,t⟩:=p;simp only[gE];split
   ·rename_i d;have:=cO d;subst this;exact .inl h.1.symm
   ·exact b h.2 i
 refine dm.NY (σ:=(⟨e,H,y⟩:SS S).st) (e:=Ab.mk (jk e')) λi=>?_
 rw[pG,vW];rcases a e' h i with h1|h1
 ·rw[h1];exact .inl rfl
 ·rw[h1];exact .inr rfl
def BH(N:Nat):List (Nat×ST S):=[(2,.e (.c (.ptr 0 0))),(3,.e (.c (.ptr 1 0))),(4,.e (.c (.ptr 2 0))),(8,.e (.c (.aW 3 (U:=S) W.mO N)))]
def Pa(Q:J)(N:Nat):List (Nat×ST S):=(9,lT .int (dK Q.aG))::BH N
def xm(P Q:J)(N x:Nat):List (Nat×ST S):=(85,lT .int (dK P.aG))::(86,iT (dK P.aG).length)::(87,iT x)::Pa Q N
def Pb(P Q:J)(N x:Nat)(i:Int):List (Nat×ST S):=(11,iT i)::xm P Q N x
def qS(P Q:J)(N x:Nat)(i:Int)(y:Nat):List (Nat×ST S):=(91,lT .int (dK Q.aG))::(92,iT (dK Q.aG).length)::(93,iT y)::Pb P Q N x i
def MP.nb(h:MP p q P Q N y):24*N<=281474976710656:=by have:=h.u;have:=this.1.mu.len;omega
def MP.n0(h:MP p q P Q N y):0<N:=by have:=h.u;omega
def Vq(P Q:J):xy (H0 P Q)=true:=rfl
def aor{a:aw}{l:List Oper}(h:a.toList=l):a=l.toArray:=by subst h;simp
def ya:Array Oper:=(match F8 with|.region _ a _=>a|_=>#[])
def Mu:List Oper:=ya.toList.take 8
def zR:Oper:=ya[8]!
def Mv:List Oper:=ya.toList.drop 9
def awC:F8=.region 15 ya false:=af
def aGy:ya.toList=Mu++zR::Mv:=af
def aGw:zR.guard=Option.none:=af
def aGx:zR.op=.makeSlice 310 (.tmp 78) (.tmp 78):=af
def ai_:zR.dst=some 79:=af
def aF2:jF prog 310=some 27:=af
def aGl:fb prog 27=some 1:=af
def aFZ:oc prog 27=some 24:=af
def aGh:jZ prog 27=some [.d (.sc (.slice none 0 0))]:=af
def GO(N:Nat):aV S:=.hI (List.replicate N (.slice none 0 0)) N (.d (.sc (.slice none 0 0)))
def afX(N:Nat):(GO N).den=List.replicate N (V.d (.sc (.slice none 0 0))):=by show((List.replicate N (Value.slice none 0 0)).map λx=>V.d (.sc x)).set N _=_;rw[List.map_replicate];exact List.set_eq_of_length_le ai
def aC7(N:Nat)(x:V):nD N [x]=List.replicate N x:=by
 unfold nD
 induction N with
 |zero=>rfl
 |succ n a=>rw[rR,rR,Af,a];rfl
def ayb{σ:SS S}(i:σ.ev (.tmp 78)=.e (.c (.d (.sc (.int .i64 N)))))(k:bX σ.heap 3=none)(l:24*N<=281474976710656):
 eX prog 171 (·∈([]:au)) zR σ.st (⟨(79,.e (.c (.aW 3 (U:=S) W.mO N)))::σ.aT,(3,GO N)::σ.heap,σ.bV⟩:SS S).st:=by
 have f:σ.st.ev (.tmp 78)=.e (.c (.d (.sc (.int .i64 N)))):=by rw[c8,i];rfl
 have m:σ.st.heap 3=none:=by rw[fZ,k];rfl
 have:=eX.aeE (n:=171) (aS:=(·∈([]:au))) (σ:=σ.st) (NV (P:=prog) (ev:=σ.st.ev) 310 (.tmp 78) (.tmp 78) aGx 3 27 1 24 [.d (.sc (.slice none 0 0))] N .i64 .i64 aF2 aGl aFZ aGh rfl f f l O) (by rw[ai_];intro j a;injection a with a;subst a;decide) m (λh=>by cases h);rw[aC7,ai_]at this;have e:(⟨(σ.st.put (some 79) (.e (.c (.sub 3 1 0 N)))).aT,cX σ.st.heap 3 (some (List.replicate N (V.d (.sc (.slice none 0 0)))))⟩:St)=(⟨(79,.e (.c (.aW 3 (U:=S) W.mO N)))::σ.aT,(3,GO N)::σ.heap,σ.bV⟩:SS S).st:=by
  rw[<-aGv];congr 1;funext u;show _=Ab.bJ (bP ((3,GO N)::σ.heap)) u;rw[gz];simp only[cX,bX];by_cases b:u=3
  ·subst b;rw[aK rfl,<-afX];rfl
  ·rw[g b];have:Nat.beq u 3=false:=by
    cases h:Nat.beq u 3 with
    |false=>rfl
    |true=>exact absurd (cO h) b
   rw[this];exact fZ σ u
 rw[e]at this;exact this
def v15{N:Nat}(b:MP p q P Q N 0):pL Vw 171 ya [] ⟨[],[]⟩ Mu ⟨[(2,.e (.c (.ptr 0 0))),(3,.e (.c (.ptr 1 0))),(4,.e (.c (.ptr 2 0)))],H0 P Q,3⟩ λd=>∃a:SS S,eX prog 171 (·∈([]:au)) zR d.st a.st/\pL Vw 171 ya [] ⟨[],[]⟩ Mv a λd=>∃e c,d=⟨e,(3,GO N)::H0 P Q,c⟩/\Mc e (BH N):=by
 have f:=b.u.1.mu.len;repeat' (first
  |refine @aX (SS S) _ _ (aP (ayb (N:=N) (by rw[<-b.nn];rfl) rfl b.nb) ?_)
  |refine @aX (List (Nat×ST S)) _ _ (aX _ (aP rfl (aP rfl (aP rfl (aP rfl (aP rfl aZ))))))
  |intro _
  |apply aP
  |fail)
 all_goals first|omega
def m15(f:MP p q P Q N 0):WP prog 171 (·∈([]:au)) F8 (⟨[(2,.e (.c (.ptr 0 0))),(3,.e (.c (.ptr 1 0))),(4,.e (.c (.ptr 2 0)))],H0 P Q,3⟩:SS S).st (iy λs=>s=VS (BH N) (H0 P Q) W.aH (λ_=>[]) N):=by
 have a:ya=(Mu++zR::Mv).toArray:=aor aGy;have b:fP prog 171 (·∈([]:au)) ya (Mu++zR::Mv) (⟨[(2,.e (.c (.ptr 0 0))),(3,.e (.c (.ptr 1 0))),(4,.e (.c (.ptr 2 0)))],H0 P Q,3⟩:SS S).st λs=>s=VS (BH N) (H0 P Q) W.aH (λ_=>[]) N:=by refine fP.then (fP.post (zS _ _ _ (v15 f)) ?_);rintro s ⟨h,rfl,i,d,j⟩;refine⟨_,λ_ _ _ _ _ R=>R,fP.step aGw d (fP.post (zS _ _ _ j) ?_)⟩;rintro s ⟨l,rfl,e,c,rfl,m⟩;exact⟨_,dm.trans (aaa (c':=c) m) (awd (k:=W.aH) (Vq P Q) rfl (afX N)),rfl⟩
 rw[awC,a];rw[a]at b;exact WP.region b
def m16(a:MP p q P Q N 0):WP prog 171 (·∈([]:au)) Qs (VS (BH N) (H0 P Q) W.aH L N) (iy λs=>s=VS (Pa Q N) (H0 P Q) W.aH L N):=by
 have b:=a.u.1.mu.len;refine yU (V:=Vw) (reg:=⟨[OW],[]⟩) (ls:=[]) (ct:=5) mixed a.n0 rfl rfl rfl rfl λc l=>?_
 repeat' (first
  |with_reducible rfl
  |apply aP
  |fail)
 all_goals first|exact aZ|omega
def m17(a:MP p q P Q N 0):WP prog 171 (·∈([]:au)) Qt (VS (Pa Q N) (H0 P Q) W.aH L N) (iy λs=>s=VS (xm P Q N 0) (H0 P Q) W.aH L N):=by
 have b:=a.u.1.mu.len;refine yU (V:=Vw) (reg:=⟨[OW],[]⟩) (ls:=[]) (ct:=5) mixed a.n0 rfl rfl rfl rfl λc l=>?_
 repeat' (first
  |with_reducible rfl
  |intro _
  |apply aP
  |fail)
 all_goals first|exact aZ|omega
def m18(a:MP p q P Q N y):WP prog 171 (·∈([]:au)) ace (VS (xm P Q N y) (H0 P Q) W.aH L N) (iy λs=>s=VS ((88,bT (decide ((y:Int)<((dK P.aG).length:Int))))::xm P Q N y) (H0 P Q) W.aH L N):=by
 have b:=a.u.1.mu.len;refine yU (V:=Vw) (reg:=⟨[],[]⟩) (ls:=[]) (ct:=5) mixed a.n0 rfl rfl rfl rfl λc l=>?_
 repeat' (first
  |with_reducible rfl
  |apply aP
  |fail)
 all_goals first|exact aZ
def m19(a:MP p q P Q N y)(b:(dK P.aG)[(y:Int).toNat]?=some i):WP prog 171 (·∈([]:au)) acf (VS ((88,bT (decide ((y:Int)<((dK P.aG).length:Int))))::xm P Q N y) (H0 P Q) W.aH L N) (iy λs=>s=VS (Pb P Q N y i) (H0 P Q) W.aH L N):=by
 have c:=a.u.1.mu.len;refine yU (V:=Vw) (reg:=⟨[],[]⟩) (ls:=[]) (ct:=5) mixed a.n0 rfl rfl rfl rfl λd l=>?_
 repeat' (first
  |with_reducible rfl
  |intro _
  |apply aP
  |fail)
 all_goals first|exact aZ|omega|have k:=lp b;omega|(have k:=b.symm.trans ‹(dK P.aG)[(y:Int).toNat]?=some _›;injection k with k;first|exact k|exact k.symm)
def m20(a:MP p q P Q N y):WP prog 171 (·∈([]:au)) acg (VS (Pb P Q N y i) (H0 P Q) W.aH L N) (iy λs=>s=VS (qS P Q N y i 0) (H0 P Q) W.aH L N):=by
 have b:=a.u.1.mu.len;refine yU (V:=Vw) (reg:=⟨[],[]⟩) (ls:=[]) (ct:=5) mixed a.n0 rfl rfl rfl rfl λc l=>?_
 repeat' (first
  |with_reducible rfl
  |intro _
  |apply aP
  |fail)
 all_goals first|exact aZ|omega
def m21(a:MP p q P Q N y):WP prog 171 (·∈([]:au)) ach (VS (qS P Q N y i j) (H0 P Q) W.aH L N) (iy λs=>s=VS ((94,bT (decide ((j:Int)<((dK Q.aG).length:Int))))::qS P Q N y i j) (H0 P Q) W.aH L N):=by
 have b:=a.u.1.mu.len;refine yU (V:=Vw) (reg:=⟨[],[]⟩) (ls:=[]) (ct:=5) mixed a.n0 rfl rfl rfl rfl λc l=>?_
 repeat' (first
  |with_reducible rfl
  |apply aP
  |fail)
 all_goals first|exact aZ
def m27(a:MP p q P Q N y)(b:j<100):WP prog 171 (·∈([]:au)) aci (VS (qS P Q N y i j) (H0 P Q) W.aH L N) (iy λs=>s=VS (qS P Q N y i (j+1)) (H0 P Q) W.aH L N):=by
 have c:=a.u.1.mu.len;refine yU (V:=Vw) (reg:=⟨[],[]⟩) (ls:=[]) (ct:=5) mixed a.n0 rfl rfl rfl rfl λd l=>?_
 repeat' (first
  |with_reducible rfl
  |apply aP
  |fail)
 all_goals first|exact aZ|omega
def m28(a:MP p q P Q N y):WP prog 171 (·∈([]:au)) acj (VS ((94,bT (decide ((j:Int)<((dK Q.aG).length:Int))))::qS P Q N y i j) (H0 P Q) W.aH L N) (iy λs=>s=VS (xm P Q N (y+1)) (H0 P Q) W.aH L N):=by
 have b:=a.u.1.mu.len;have c:=a.u.2.1;have d:=Sp P.aG;refine yU (V:=Vw) (reg:=⟨[],[]⟩) (ls:=[]) (ct:=5) mixed a.n0 rfl rfl rfl rfl λe l=>?_
 repeat' (first
  |with_reducible rfl
  |apply aP
  |fail)
 all_goals first|exact aZ|omega
def aHA(l:zJ0)(z a:J):(l++[z]).set l.length a=l++[a]:=by rw[vl _ _ (bu _),rT,vm]
def aHD(l:zJ0)(a b:J):l.length+[a].length=(l++[b]).length:=ai
def aHB{u v:J}(c:R=some u)(d:K=some v)(e:R=some q)(f:K=some P):(l++[p]).set ((l.length:Nat):Int).toNat (bn u v)=l++[bn q P]:=by have h:q=u:=vo (e.symm.trans c);have i:P=v:=vo (f.symm.trans d);rw[h,i,bI];exact aHA _ _ _
def aHC{u v:J}(c:R=some u)(d:K=some v)(e:R=some p)(f:K=some q):l++[bn u v]=l++[bn p q]:=by have h:p=u:=vo (e.symm.trans c);have i:q=v:=vo (f.symm.trans d);rw[h,i]
def kX{k:Nat}(h:i+Z=(k:Int)):(i+Z).toNat*S.w W.mO=k:=by rw[h];exact Nat.mul_one k
def m6(f:MR p q P Q N j i y Z)(w:i+Z=(m:Int))(o:P.aG[i.toNat]?=some r)(t:Q.aG[Z.toNat]?=some M)(z:BY p q):
 WP prog 171 (·∈([]:au)) Qn (VS ((94,bT (decide ((y:Int)<((dK Q.aG).length:Int))))::qS P Q N j i y) (H0 P Q) W.aH (λe=>PT P Q e j y) N) (iy λs=>s=VS (qS P Q N j i y) (H0 P Q) W.aH (λe=>if e=m then PT P Q m j y++[bn r M]else PT P Q e j y) N):=by
 have A:=f.bd;have u:=f.u.2;have h:=f.pl m j y;have l:m<N:=O;have n:=f.u.1.u.1.n0;refine @abl prog S Vw 171 ⟨[qO Vw 272 (.el W.aH) (.el W.aH) (λ(c:J)(d:J)=>qI p q c d) (λ(c:J)(d:J)=>eT .aH (bn c d)) (λc d f=>z c d f.mu f.lt)],[]⟩ (λv=>[(4000024,⟨Bool,λc=>⟨(13,iT Z)::(98,bT c)::qS P Q N j i y,[(3,.hI v m (.aW 4 W.aH (PT P Q m j y).length)),(4,.aU (U:=S) W.aH (PT P Q m j y))]++H0 P Q,5⟩,λ_=>True/\True,λ_=>0⟩)]) mixed ((94,bT (decide ((y:Int)<((dK Q.aG).length:Int))))::qS P Q N j i y) (qS P Q N j i y) (H0 P Q) W.aH (λe=>PT P Q e j y) N m (PT P Q m j y++[bn r M]) Qn 5 n l rfl rfl rfl rfl ?_;intro v B;repeat' (first
  |((with_reducible show mt _ _ _ _ _);(conv=>whnf);(fail_if_success with_reducible show mt _ _ _ _ _))
  |with_reducible rfl
  |intro _
  |apply aP
  |refine @aX (Bool->Prop) _ (λ_=>True) (aP ?_ λ(c:Bool) _ _=>?_)
  |refine @aX Bool _ ?_ ?_
  |fail)
 all_goals first|exact aZ|with_reducible exact kX w|omega|((with_reducible show(_&&_)=true);kernel_rfl)|(have m:=u.symm.trans ‹(dK Q.aG)[(y:Int).toNat]?=some _›;injection m with m;first|exact m|exact m.symm)|have m:=lp u;omega|((with_reducible show qI p q _ _);simp only[bm];with_reducible exact f.u.1.u.1.u.1.sk (bF I) (bF I))| (with_reducible first|exact aHD _ _ _|exact cb1 h _|exact cb2 h _|exact cb3 _ _|exact cb4 _ _)|simp only[bm];with_reducible exact aHB ‹P.aG[i.toNat]?=some _› ‹Q.aG[Z.toNat]?=some _› o t|simp only[bm];with_reducible exact aHC ‹P.aG[i.toNat]?=some _› ‹Q.aG[Z.toNat]?=some _› o t
def zo{aS:aq}{c a:Code}{s:St}{K:St->Prop}{Q:lI}(b:WP prog N aS c s (iy K))(d:∀s,K s->WP prog N aS a s Q):WP prog N aS (.seq c a) s Q:=
 WP.seq (WP.mono b (λs k=>d s k) (λi s k=>k.elim) (λs k=>k.elim))
def ifP{A B:Prop}(h:A):if N=N then A else B:=by rw[aK rfl];exact h
def mIn(d:MQ p q P Q N y i 0)(w:BY p q):
 WP prog 171 (·∈([]:au)) (.block 5 Qp) (VS (qS P Q N y i 0) (H0 P Q) W.aH (λm=>PT P Q m y 0) N) (iy λs=>∃c,MQ p q P Q N y i c/\decide ((c:Int)<((dK Q.aG).length:Int))=false/\s=VS ((94,bT (decide ((c:Int)<((dK Q.aG).length:Int))))::qS P Q N y i c) (H0 P Q) W.aH (λm=>PT P Q m y c) N):=by
 refine WP.block ?_;rw[Qp];refine WP.loop (λc:Nat=>VS (qS P Q N y i c) (H0 P Q) W.aH (λm=>PT P Q m y c) N) (λc=>MQ p q P Q N y i c) (λc=>(dK Q.aG).length-c) 0 (λ_ _ _ _ _ h=>h) d λc l=>?_
 have n:=l.u.1;refine zo (m21 n) ?_;rintro s rfl;refine WP.seq (WP.cond (decide ((c:Int)<((dK Q.aG).length:Int))) rfl (λz=>WP.skip ?_) (λhf=>WP.exit ?_))
 ·have o:c<(dK Q.aG).length:=by have:=eD z;omega
  have B:=n.u.1.mu.len;have C:=Sp Q.aG;obtain⟨j,A⟩:∃j,(dK Q.aG)[(c:Int).toNat]?=some j:=⟨(dK Q.aG)[c],by rw[bI];exact ca o⟩;have f:=alF l A;have D:=f.bd;obtain⟨k,r⟩:∃k:Nat,i+j=(k:Int):=⟨(i+j).toNat,O⟩;obtain⟨a,u⟩:∃a,P.aG[i.toNat]?=some a:=⟨P.aG[i.toNat]' O,ca _⟩;obtain⟨b,v⟩:∃b,Q.aG[j.toNat]?=some b:=⟨Q.aG[j.toNat]' O,ca _⟩;refine zo (m6 f r u v w) ?_;rintro s rfl;have e:(λm=>if m=k then PT P Q k y c++[bn a b]else PT P Q m y c)=λm=>PT P Q m y (c+1):=by
   funext m;by_cases t:m=k
   ·subst t;rw[aK rfl];exact f.UL r u v
   ·rw[g t];exact f.no r (Ne.symm t)
  rw[e];refine WP.mono (m27 n O) (λs Y=>⟨c+1,?_,f.n,O⟩) (λ_ _ h=>h.elim) (λ_ h=>h.elim);rw[Y];exact λ_ _ _ _ _ h=>h
 ·dsimp only;refine ifP ?_;exact aX c (aP l (aP hf rfl))
def axW(a:MP p q P Q N 0)(j:BY p q):
 WP prog 171 (·∈([]:au)) (.block 3 J5) (VS (xm P Q N 0) (H0 P Q) W.aH (λ_=>[]) N) (iy λs=>∃x,MP p q P Q N x/\decide ((x:Int)<((dK P.aG).length:Int))=false/\s=VS ((88,bT (decide ((x:Int)<((dK P.aG).length:Int))))::xm P Q N x) (H0 P Q) W.aH (λm=>PT P Q m x 0) N):=by
 refine WP.block ?_;rw[J5];have k:(λ_=>[]:Nat->List J)=λm=>PT P Q m 0 0:=by funext m;exact(al9 P Q m).symm
 rw[k];refine WP.loop (λx:Nat=>VS (xm P Q N x) (H0 P Q) W.aH (λm=>PT P Q m x 0) N) (λx=>MP p q P Q N x) (λx=>(dK P.aG).length-x) 0 (λ_ _ _ _ _ h=>h) a λx b=>?_
 refine zo (m18 b) ?_;rintro s rfl;refine WP.seq (WP.cond (decide ((x:Int)<((dK P.aG).length:Int))) rfl (λd=>WP.skip ?_) (λhf=>WP.exit ?_))
 ·have c:x<(dK P.aG).length:=by have:=eD d;omega
  obtain⟨i,f⟩:∃i,(dK P.aG)[(x:Int).toNat]?=some i:=⟨(dK P.aG)[x],by rw[bI];exact ca c⟩;have l:=alE b f;refine WP.seq (WP.block (zo (m19 b f) ?_));rintro s rfl;refine zo (m20 b) ?_;rintro s rfl;refine WP.mono (mIn l j) ?_ (λ_ _ h=>h.elim) (λ_ h=>h.elim);rintro s ⟨y,n,o,rfl⟩;have e:(λm=>PT P Q m x y)=λm=>PT P Q m (x+1) 0:=by funext m;exact n.x o m
  rw[e];refine WP.mono (m28 b) (λs Y=>⟨x+1,?_,alD b d,O⟩) (λ_ _ h=>h.elim) (λ_ h=>h.elim);rw[Y];exact λ_ _ _ _ _ h=>h
 ·dsimp only;refine ifP ?_;exact aX x (aP b (aP hf rfl))
def sX(P Q:J)(N:Nat):List (List J):=(List.range N).map λm=>jD bn P.aG Q.aG m
def Wx(P Q:J)(N:Nat):(sX P Q N).length=N:=by unfold sX;simp
def Ww(h:(sX P Q N)[(v:Int).toNat]?=some l):l=jD bn P.aG Q.aG v/\v<N:=by have a:=(dM.1 h).1;rw[Wx,bI]at a;unfold sX at h;rw[bI,dU,qB a]at h;exact⟨(vo h).symm,a⟩
def MC.ad'(h:MC p q P Q N y)(a:(sX P Q N)[(y:Int).toNat]?=some l):oT l:=by rw[(Ww a).1];exact h.ad y
def MC.nx'(h:MC p q P Q N y)(a:decide ((y:Int)<(N:Int))=true)(b:(sX P Q N)[(y:Int).toNat]?=some l):(oY P Q N y).set (y:Int).toNat (iP l)=oY P Q N (y+1):=by rw[(Ww b).1];exact h.nx a rfl
def axX{p q:J}(a:MC p q P Q N 0):fw Vw 171 [] ⟨[Jf,O0],[]⟩ [(31,⟨Nat,λv=>⟨[(2,.e (.c (.ptr 0 0))),(3,.e (.c (.ptr 1 0))),(4,.e (.c (.ptr 2 0))),(8,.e (.c (.aW 3 (U:=S) W.mO N))),(14,.e (.c (.aW 4 (U:=S) W.aH N))),(154,.e (.c (.aW 3 (U:=S) W.mO N))),(155,iT N),(156,iT v)],[(3,.aU (U:=S) W.mO (sX P Q N)),(4,.aU (U:=S) W.aH (oY P Q N v))]++H0 P Q,5⟩,λv=>MC p q P Q N v/\True,λv=>N-v⟩)] Mz ⟨BH N,(3,.aU (U:=S) W.mO (sX P Q N))::H0 P Q,4⟩ (Pc Vw Tryz.f272.results.toList (eT .aH (bn p q))):=by
 have d:=a.u.1;have f:=d.u.1.mu.len;have h:N<=13:=by have:=d.u;omega
 repeat' (first
  |((with_reducible show mt _ _ _ _ _);(conv=>whnf);(fail_if_success with_reducible show mt _ _ _ _ _))
  |with_reducible rfl
  |intro _
  |apply aP
  |refine @aX Nat _ 0 (aP ?_ λ(e:Nat)(b:MC p q P Q N e/\True)=>?_)
  |refine @aX Nat _ (e+1) ?_
  |fail)
 all_goals first|exact aZ|with_reducible assumption|omega|with_reducible exact b.1.ad' I|((with_reducible show MC _ _ _ _ _ _);first|exact alv b.1 I)|((with_reducible show List.set _ _ _=oY _ _ _ _);simp only[bm];with_reducible exact MC.nx' b.1 I I)|((with_reducible show List.replicate _ _=oY _ _ _ _);exact(aqG _ _ _).symm)| (with_reducible first|exact(Ol b.1.u.2).symm|exact Ol b.1.u.2)|simp only[bm];rw[MC.e b.1 I]<;>done|rw[MC.e b.1 I]<;>with_reducible rfl|(have k:=b.1.u;have l:=Ol (p:=P) (q:=Q) k.2;simp only[be,bj]at*;first|omega|show N-(e+1)<N-e;omega)|rw[bI];show 64*N<=_;omega|rw[Wx];simp only[be]at*;omega
theorem plD:∀a:List (List J),(bx (U:=S) W.mO a).map Ab.V.d=a.map λl=>(SV.d (U:=S) (.bf W.aH l)).den
 |[]=>rfl
 |l::r=>by have:=plD r;show _::_=_::_;exact aY _ this
def vmB(a:MP p q P Q N 0)(d:BY p q):WP prog 171 (·∈([]:au)) (.seq F8 (.seq Qs (.seq (.seq Qt (.block 3 J5)) Mz))) (⟨[(2,.e (.c (.ptr 0 0))),(3,.e (.c (.ptr 1 0))),(4,.e (.c (.ptr 2 0)))],H0 P Q,3⟩:SS S).st (Pd Vw Tryz.f272.results.toList (eT .aH (bn p q))):=by
 refine zo (m15 a) ?_;rintro s rfl;refine zo (m16 a) ?_;rintro s rfl;refine WP.seq ?_;refine zo (m17 a) ?_;rintro s rfl;refine WP.mono (axW a d) ?_ (λ_ _ h=>h.elim) (λ_ h=>h.elim);rintro s ⟨x,f,i,rfl⟩;have e:(λm=>PT P Q m x 0)=λm=>jD bn P.aG Q.aG m:=by funext m;exact al_ i
 rw[e];have j:(aV.aU (U:=S) W.mO (sX P Q N)).den=(List.range N).map λm=>(SV.d (U:=S) (.bf W.aH (jD bn P.aG Q.aG m))).den:=by refine(plD (sX P Q N)).trans ?_;unfold sX;rw[ir];rfl
 refine WP.tX (dm.trans (avw Vw (b:=.aU W.mO (sX P Q N)) (ct:=4) (Vq P Q) rfl rfl j) (aaa (e':=BH N) (c':=4) ⟨rfl,rfl,rfl,rfl,aZ⟩)) ?_;exact DX mixed Mz _ _ (axX (als f)) _ aam
def ayE(p q:J)(h:dF p q)(N:Nat)(d:MN p q N)(a:BY p q):bh 272 [wE .aH p,wE .aH q] (eT .aH (bn p q)):=by refine aBW (V:=Vw) (args:=[(wE .aH p),(wE .aH q)]) (r:=eT .aH (bn p q)) func272 axS af (ic rfl) (K0 rfl) ?_;refine aGT mixed aam (mA p q h N d a) ?_;rintro b ⟨x,c⟩;obtain⟨⟨Z,_⟩,w⟩:=nY c 171;exact WP.tX w (vmB Z a)
def alA(h:dF p q):MN p q (p.aG.length+q.aG.length-1):=by unfold MN;intro c b;obtain⟨_,_,_,_,_,a⟩:=h.a.bw.ow b;omega
def ayB(p q:J)(h:dF p q):bh 272 [wE .aH p,wE .aH q] (eT .aH (bn p q)):=by
 have a:∀(n:Nat)(p q:J),dF p q->p.aJ+q.aJ<n->bh 272 [wE .aH p,wE .aH q] (eT .aH (bn p q)):=by
  intro n
  induction n with
  |zero=>intro p q h e;have:=h.a.bw.lv;have:=h.b.bw.lv;exact absurd e O
  |succ n f=>intro p q h e;exact ayE p q h _ (alA h) λc d b i=>f c d b O
 exact a (p.aJ+q.aJ+1).toNat p q h (by have:=h.a.bw.lv;have:=h.b.bw.lv;omega)
def ZE:=eO (.el W.aH) (.el W.aH) ayB
@[irreducible] def nh(p:J)(c:bk):=dF p (kP (iV c))/\wX c
def nh.mu(h:nh p X):dF p (kP (iV X)):=by unfold nh at h;exact h.1
def nh.sd{c:bk}(h:nh p c):wX c:=by unfold nh at h;exact h.2
def nh.of{c:bk}(h:dF p (kP (iV c)))(a:wX c):nh p c:=by unfold nh;exact⟨h,a⟩
def ahw:wX (iD (-1)):=⟨eZ (qR (k:=1) ae:(iD (-1)).aF.length<=1) O,fA _⟩
def y6(n:Int):iV ⟨(iD n).neg,(iD n).aF⟩=n:=il n
def aD5(p:J)(c:bk)(h:nh p c):bh 225 [wE .aH p,wE .cR c] (eT .aH (bn p (kP (iV c)))):=by
 refine vF func225 rfl [OM,ZE] [] ?_;repeat' first|intro _|apply aP
 all_goals first|exact aZ|((with_reducible show(_&&_)=true);kernel_rfl)|exact h.sd.1|exact h.sd.2 _ I|show dF _ _;rw[bm,bm];exact h.mu|rw[bm,bm];done
def ZM:=eO (.el W.aH) (.el W.cR) aD5
def amC(p:J)(c:bk)(h:nh p c):bh 245 [wE .aH p,wE .cR c] (eT .aH (bn p (kP (iV c)))):=by
 refine vF func245 rfl [Az,ZM,AA] [] ?_;repeat' first|intro _|apply aP
 all_goals first|exact aZ|((with_reducible show(_&&_)=true);kernel_rfl)|with_reducible exact h.mu.a.cs.e|show nh _ _;simp only[bm];exact h|show kQ _;simp only[bm];exact h.mu.r.sm|simp only[bm];exact aY _ (Jp h.mu.r)
def Jd:=eO (.el W.aH) (.el W.cR) amC
def alM(p:J)(h:dF p (kP (-1))):bh 240 [wE .aH p] (eT .aH (jl p)):=by
 refine vF func240 rfl [uA,Jd] [] ?_;repeat' first|intro _|apply aP
 all_goals first|exact aZ|((with_reducible show(_&&_)=true);kernel_rfl)|omega|show nh _ _;simp only[bm];exact nh.of (by rw[y6];exact h) ahw|simp only[bm];rw[y6];rfl
def Fu:=dR (.el W.aH) alM
def ajU(p q:J)(h:jh p q):bh 280 [wE .aH p,wE .aH q] (eT .aH (lK p q)):=by
 refine vF func280 rfl [Az,Jf,AA] [] ?_;repeat' first|intro _|apply aP
 all_goals first|exact aZ|((with_reducible show(_&&_)=true);kernel_rfl)| (with_reducible first|exact h.a.cs.e|exact h.b.cs.e)|show oT [_,_];simp only[bm];exact WY h.a h.b|show kQ _;simp only[bm];exact h.r.sm|simp only[bm];exact aY _ (Jp h.r)
def arU:=eO (.el W.aH) (.el W.aH) ajU
def amP(p q:J)(h:jh p q):bh 243 [wE .aH p,wE .aH q] (eT .aH (u7 p q)):=by
 refine vF func243 rfl [Az,uA,ZM,Jf,AA] [] ?_;repeat' first|intro _|apply aP
 all_goals first|exact aZ|((with_reducible show(_&&_)=true);kernel_rfl)|omega| (with_reducible first|exact h.a.cs.e|exact h.b.cs.e)|show nh _ _;simp only[bm];exact nh.of (by rw[y6];exact h.mb) ahw|show oT [_,_];simp only[bm,y6];exact WY h.a h.mb.r|show kQ _;simp only[bm,y6];exact h.s.sm|simp only[bm,y6];exact aY _ (Jp h.s)
def OL:=eO (.el W.aH) (.el W.aH) amP
def alL(p q:J)(h:dF p q):bh 244 [wE .aH p,wE .aH q] (eT .aH (bn p q)):=by
 refine vF func244 rfl [Az,ZE,AA] [] ?_;repeat' first|intro _|apply aP
 all_goals first|exact aZ|((with_reducible show(_&&_)=true);kernel_rfl)| (with_reducible first|exact h.a.cs.e|exact h.b.cs.e)|show dF _ _;simp only[bm];exact h|show kQ _;simp only[bm];exact h.r.sm|simp only[bm];exact aY _ (Jp h.r)
def Aw:=eO (.el W.aH) (.el W.aH) alL
def aC5(r:Int):bh 70 [wI .i64 r] (iT (jM r)):=by
 refine vF func70 rfl [] [] ?_;repeat' first|intro _|apply aP
 all_goals first|exact aZ|(simp only[jw,lN,be,bj,jC,bne_iff_ne,E1]at*;first|omega|unfold jM;simp[*];done|unfold jM;simp[*];omega|unfold jM;split<;>omega)|simp_all;unfold jM;omega
def ZJ:=dR (.int .i64) λr (_:True)=>aC5 r
def arH(r:Int):bh 69 [wI .i64 r] (iT (ux r)):=by
 refine vF func69 rfl [] [] ?_;repeat' first|intro _|apply aP
 all_goals first|exact aZ|(simp only[jw,lN,be,bj,jC,bne_iff_ne,E1]at*;first|omega|unfold ux;simp[*];done|unfold ux;simp[*];omega|unfold ux;split<;>omega)
def ar4:=dR (.int .i64) λr (_:True)=>arH r
def aEI(r:Int):bh 112 [wI .i64 r] (iT (js r:Nat)):=by
 refine vF func112 rfl [] [] ?_;repeat' first|intro _|apply aP
 all_goals first|exact aZ|(simp only[jw,lN,be,bj,jC,bne_iff_ne,E1]at*;first|omega|unfold js;simp[*];done|unfold js;simp[*];omega|unfold js;split<;>omega)
def Jo:=dR (.int .i64) λr (_:True)=>aEI r
def apP(s:Int):bh 113 [wI .i64 s] (iT (xe s:Nat)):=by
 refine vF func113 rfl [] [] ?_;repeat' first|intro _|apply aP
 all_goals first|exact aZ|(simp only[jw,lN,be,bj,jC,bne_iff_ne,E1]at*;first|omega|unfold xe;simp[*];done|unfold xe;simp[*];omega|unfold xe;split<;>omega)
def ar0:=dR (.int .i64) λs (_:True)=>apP s
def aFp(r:Int):bh 254 [wI .i64 r] (iT (rk r)):=by
 refine vF func254 rfl [] [] ?_;repeat' first|intro _|apply aP
 all_goals first|exact aZ|(simp only[jw,lN,be,bj,jC,bne_iff_ne,E1]at*;first|omega|unfold rk;simp[*];done|unfold rk;simp[*];omega|unfold rk;split<;>omega)
def ZN:=dR (.int .i64) λr (_:True)=>aFp r
def av6(r s:Int):bh 36 [wI .i64 r,wI .i64 s] (bT (Go.Ab.VS.rH r s)):=by
 refine vF func36 rfl [] [] ?_;repeat' first|intro _|apply aP
 all_goals first|exact aZ|unfold Go.Ab.VS.rH;simp_all;done|rw[sO];unfold Go.Ab.VS.rH;simp_all;done
def ase:=eO (.int .i64) (.int .i64) λr s (_:True)=>av6 r s
def aGf(b:Bool):bh 65 [wB b] (eT .aQ (tM b)):=by
 refine vF func65 rfl [] [] ?_;repeat' first|intro _|apply aP
 all_goals first|exact aZ|(subst_vars;rfl)
def ZQ:=dR (.bool) λb (_:True)=>aGf b
def aEE(x:cd):bh 30 [wE .cU x] (bT (decide (x.num.length<=3)&&decide (x.den.length<=3))):=by
 refine vF func30 rfl [] [] ?_;repeat' first|intro _|apply aP
 all_goals first|exact aZ|simp_all;omega|rw[sO];simp only[be,bj,dB,iN,false_iff]at*;omega
def asJ:=dR (.el W.cU) λx (_:True)=>aEE x
def aC2(a:1<=N)(c:N<=6)(h:(((js (N:Int)):Nat):Int)=i):lA i.toNat=((N:Int),true):=by subst h;rw[bI];have:N=1\/N=2\/N=3\/N=4\/N=5\/N=6:=O;rcases this with rfl|rfl|rfl|rfl|rfl|rfl<;>decide
@[irreducible] def xL(b:Int)(x:Nat):=1<=x/\x<=7/\∀r:Nat,1<=r->r<x->(((js (r:Int)):Nat):Int)≠b
def Dx:xL i N↔(1<=N/\N<=7/\∀r:Nat,1<=r->r<N->(((js (r:Int)):Nat):Int)≠i):=by unfold xL;exact Iff.rfl
def aC1(h:xL i N/\True)(n:0<=i)(c:decide ((N:Int)<=6)=false):lA i.toNat=(0,false):=by
 obtain⟨o,p,a⟩:=Dx.1 h.1;have e:N=7:=by simp only[bj]at c;omega
 subst e;have d:=a 1 O O;have f:=a 2 O O;have j:=a 3 O O;have k:=a 4 O O;have l:=a 5 O O;have m:=a 6 O O;simp[js]at d f j k l m;unfold lA;rw[g O,g O,g O,g O,g O,g O]
def aC3(b:Int):xL b 1:=Dx.2 ⟨O,O,λr c a=>O⟩
def aC4(h:xL i N/\True)(c:decide ((N:Int)<=6)=true)(d:((((js (N:Int)):Nat):Int)==i)=false):xL i (N+1):=by
 obtain⟨k,l,f⟩:=Dx.1 h.1;simp only[be]at c;refine Dx.2 ⟨O,O,λr a j=>?_⟩;by_cases e:r=N
 ·subst e;simpa using d
 ·exact f r a O
def aga(h:xL i N/\True):1<=N/\N<=7:=⟨(Dx.1 h.1).1,(Dx.1 h.1).2.1⟩
def bq{b:Int}(h:(i==b)=true):i=b:=an h
def aC0(b:Int)(h:0<=b):bh 116 [wI .i64 b] (tT [iE (lA b.toNat).1,bE (lA b.toNat).2]):=by
 refine vF func116 rfl [Jo] [(2,⟨Nat,λx=>⟨[(0,iT b),(4,iT x)],[],0⟩,λx=>xL b x/\True,λx=>7-x⟩)] ?_;repeat' first|intro _|apply aP|refine aX 1 (aP ?_ λ(x:Nat)(a:xL b x/\True)=>?_)|refine aX (x+1) ?_
 all_goals first|exact aZ|with_reducible rfl|omega|exact aC3 b|have Z:=aga a;simp only[be]at*;omega|(have Z:=aga a;have c:=‹decide ((x:Int)<=6)=true›;simp only[be]at c;have e:=aC2 Z.1 O (bq ‹(_==b)=true›);first|rw[e];done|rw[e])|rw[aC1 a h I];done|exact aC4 a I I
def OX:=dR (.int .i64) aC0
def N9:∀a∈[1,2,3,4,5,6],∀b∈[1,2,3,4,5,6],IntKind.i64.wrap ((BitVec.ofInt IntKind.i64.bits ((a:Nat):Int) &&& BitVec.ofInt IntKind.i64.bits ((b:Nat):Int)).toNat:Int)=((a &&& b:Nat):Int):=ae
def Yd:∀a∈[1,2,3,4,5,6],∀b∈[1,2,3,4,5,6],IntKind.i64.wrap ((BitVec.ofInt IntKind.i64.bits ((a:Nat):Int) ||| BitVec.ofInt IntKind.i64.bits ((b:Nat):Int)).toNat:Int)=((a ||| b:Nat):Int):=ae
def apO(s:Int):xe s∈[1,2,3,4,5,6]:=by unfold xe;split<;>(try split)<;>simp
def ax2(a b:Int):bh 117 [wI .i64 a,wI .i64 b] (tT [iE (tE a b).1,bE (tE a b).2]):=by
 refine vF func117 rfl [Jo,OX] [] ?_;repeat' first|intro _|apply aP
 all_goals first|exact aZ|show 0<=_;rw[N9 _ (pC a) _ (pC b)];omega|rw[N9 _ (pC a) _ (pC b),bI];rfl
def awx(a b:Int):bh 118 [wI .i64 a,wI .i64 b] (tT [iE (tx a b).1,bE (tx a b).2]):=by
 refine vF func118 rfl [Jo,OX] [] ?_;repeat' first|intro _|apply aP
 all_goals first|exact aZ|show 0<=_;rw[Yd _ (pC a) _ (pC b)];omega|rw[Yd _ (pC a) _ (pC b),bI];rfl
@[irreducible] def B6(c:Int):=c=1\/c=2\/c=3\/c=4\/c=5\/c=6
def B6.of(h:N∈[1,2,3,4,5,6]):B6 (N:Int):=by unfold B6;simp at h;omega
def aA_(c:Int)(h:B6 c):bh 115 [wI .i64 c] (iT (Gx c.toNat:Nat)):=by
 refine vF func115 rfl [] [] ?_;unfold B6 at h;rcases h with rfl|rfl|rfl|rfl|rfl|rfl
 all_goals repeat' first|intro _|apply aP
 all_goals first|exact aZ|rename_i b a;revert b a;decide
def ast:=dR (.int .i64) aA_
@[irreducible] def mY(p q:J):=br 4 q/\gk 4 q=gk 4 p
def mY.c(h:mY p q/\True):br 4 q:=by have:=h.1;unfold mY at this;exact this.1
def mY.f(h:mY p q/\True):gk 4 q=gk 4 p:=by have:=h.1;unfold mY at this;exact this.2
def akK(h:br 4 p):mY p p:=by unfold mY;exact⟨h,rfl⟩
def akM{c:J}(h:mY p q/\True)(b:q.aG[((q.aG.length:Int)-1).toNat]?=some c):mY p c:=by have a:=mY.c h;have i:=mY.f h;have d:=bF b;have e:((q.aG.length:Int)-1).toNat=q.aG.length-1:=O;rw[e,<-pS]at b;unfold mY;refine⟨(a.bz d).mono (by have:=a.lv;omega),?_⟩;rw[<-i];show _=(match q.aG.getLast? with|some c=>gk 3 c|none=>_);rw[b];show gk 4 c=gk 3 c;have f:=a.bz d;have:=a.lv;rw[JR 4 f O,JR 3 f O]
def akL(h:mY p q/\True)(d:decide (0<((q.aG.length:Nat):Int))=false):gu ⟨q.neg,q.aF⟩=tO (gk 4 p):=by
 have b:=mY.c h;have a:Dg q.aF:=by
  cases b with
  |const n=>exact fA n
  |node f c i j k l m=>exact Dg.nil
 rw[<-mY.f h,qp a];have e:gk 4 q=iV ⟨q.neg,q.aF⟩:=by
  cases b with
  |const n=>rw[FR];exact(il n).symm
  |node f c i j k l m=>exact absurd (show(0:Int)<(c.length:Int)by omega) (fg d)
 rw[e];unfold tO;split
 ·rfl
 ·split<;>split<;>omega
def aBo(h:mY P q/\True)(a:q.aG[((q.aG.length:Int)-1).toNat]?=some p):SizeOf.sizeOf p<SizeOf.sizeOf q:=J.lt (bF a)
def avk(p:J)(h:br 4 p):bh 114 [wE .aH p] (iT (tO (gk 4 p))):=by
 refine vF func114 rfl [AB] [(1,⟨J,λx=>⟨[(1,bQ 0)],[(0,.cells [cw x.aJ,.d (.b8 x.neg),.d (.bf (U:=S) W.u32 x.aF),.d (.bf (U:=S) W.aH x.aG)])],1⟩,λx=>mY p x/\True,λx=>SizeOf.sizeOf x⟩)] ?_;repeat' first|intro _|apply aP|refine aX p (aP ?_ λ(x:J)(a:mY p x/\True)=>?_)|refine aX ‹J› ?_
 all_goals first|exact aZ|with_reducible rfl|omega|exact akK h|exact akL a I|exact akM a I|simp only[be]at*;omega|show SizeOf.sizeOf _<SizeOf.sizeOf x;exact aBo a I
def asa:=dR (.el W.aH) avk
@[irreducible] def C2(p q:J):=br 4 p/\br 4 q
def C2.a(h:C2 p q):br 4 p:=by unfold C2 at h;exact h.1
def C2.b(h:C2 p q):br 4 q:=by unfold C2 at h;exact h.2
def C2.of(h:br 4 p)(c:br 4 q):C2 p q:=by unfold C2;exact⟨h,c⟩
theorem C2.bz{p q x y:J}{i:Nat}(h:C2 p q)(d:p.aG[(i:Int).toNat]?=some x)(c:q.aG[(i:Int).toNat]?=some y):C2 x y:=by have a:=h.a.lv;have b:=h.b.lv;exact .of ((h.a.bz (bF d)).mono O) ((h.b.bz (bF c)).mono O)
def C2.dg(h:C2 p q)(c:(p.aJ==0)=true)(d:(p.aJ !=q.aJ)=false):Dg p.aF/\Dg q.aF/\decide (iV ⟨p.neg,p.aF⟩=iV ⟨q.neg,q.aF⟩)=iq p q:=by
 have c:p.aJ=0:=an c;have d:p.aJ=q.aJ:=an d;have a:=h.a.oX c;have b:=h.b.oX O;refine⟨by rw[a];exact fA _,by rw[b];exact fA _,?_⟩;rw[sO,be,LS];constructor
 ·intro e;rw[a,b];exact aY kP e
 ·intro e;rw[e]
def C2.sI(h:C2 p q)(c:(p.aJ==0)=false)(d:(p.aJ !=q.aJ)=false):wj ⟨p.neg,p.aF⟩ ⟨q.neg,q.aF⟩=true:=by have c:p.aJ≠0:=an c;have d:p.aJ=q.aJ:=an d;obtain⟨_,_,_,_,a,_⟩:=h.a.ow c;obtain⟨_,_,_,_,b,_⟩:=h.b.ow O;rw[a,b];exact ahh.2 ⟨rfl,rfl⟩
@[irreducible] def wZ(p q:J)(i:Nat):Prop:=i<=p.aG.length/\p.aJ=q.aJ/\p.aG.length=q.aG.length/\wj ⟨p.neg,p.aF⟩ ⟨q.neg,q.aF⟩=true/\jr (p.aG.take i) (q.aG.take i)=true
def Ci:wZ p q N↔(N<=p.aG.length/\p.aJ=q.aJ/\p.aG.length=q.aG.length/\wj ⟨p.neg,p.aF⟩ ⟨q.neg,q.aF⟩=true/\jr (p.aG.take N) (q.aG.take N)=true):=by unfold wZ;exact Iff.rfl
def amK(h:C2 p q)(b:(p.aJ==0)=false)(a:(p.aJ !=q.aJ)=false)(c:((p.aG.length:Int) !=(q.aG.length:Int))=false):wZ p q 0:=by refine Ci.2 ⟨dD _,by simpa using a,?_,h.sI b a,by rw[iC,iC,jr]⟩;have:(p.aG.length:Int)=q.aG.length:=an c;omega
def amM(h:wZ p q N/\True):N<=p.aG.length/\p.aG.length=q.aG.length:=⟨(Ci.1 h.1).1,(Ci.1 h.1).2.2.1⟩
def amN(h:wZ p q N/\True)(b:p.aG[(N:Int).toNat]?=some P)(c:q.aG[(N:Int).toNat]?=some Q)(d:(!iq (.mk P.aJ P.neg P.aF P.aG) (.mk Q.aJ Q.neg Q.aF Q.aG))=false):wZ p q (N+1):=by have a:=Ci.1 h.1;exact Ci.2 ⟨lp b,a.2.1,a.2.2.1,a.2.2.2.1,aDW a.2.2.2.2 b c d⟩
def amL(h:wZ p q N/\True)(a:decide ((N:Int)<p.aG.length)=false):true=iq p q:=aDS (Ci.1 h.1) a
def ado(a:p.aG[(N:Int).toNat]?=some q):J.mk q.aJ q.neg q.aF q.aG∈p.aG:=by rw[bm];exact bF a
def aDM(p q:J)(h:C2 p q):bh 211 [wE .aH p,wE .aH q] (bT (iq p q)):=by
 generalize j:SizeOf.sizeOf p=D
 induction D using Nat.strongRecOn generalizing p q
 rename_i D f;subst j;refine vF func211 rfl [asG,qO Vw 211 (.el W.aH) (.el W.aH) (λ(x:J)(y:J)=>x∈p.aG/\C2 x y) (λ(x:J)(y:J)=>bT (iq x y)) (λx y a=>f _ (J.lt a.1) x y a.2 rfl)] [(6,⟨Nat,λi=>⟨[(2,bQ 0),(3,bQ 1),(30,iT p.aG.length),(31,iT i)],[(0,.cells [cw p.aJ,.d (.b8 p.neg),.d (.bf (U:=S) W.u32 p.aF),.d (.bf (U:=S) W.aH p.aG)]),(1,.cells [cw q.aJ,.d (.b8 q.neg),.d (.bf (U:=S) W.u32 q.aF),.d (.bf (U:=S) W.aH q.aG)])],2⟩,λx=>wZ p q x/\True,λi=>p.aG.length-i⟩)] ?_;repeat' first|intro _|apply aP|refine aX 0 (aP ?_ λ(x:Nat)(c:wZ p q x/\True)=>?_)|refine aX (x+1) ?_
 all_goals first|exact aZ|with_reducible rfl|((with_reducible show(_&&_)=true);kernel_rfl)|omega|rename_i Z;exact aDT (Z:(p.aJ !=q.aJ)=!false)|rename_i Z;exact aDU (Z:((p.aG.length:Int) !=(q.aG.length:Int))=!false)|exact(h.dg I I).2.2|exact(h.dg ‹(p.aJ==0)=true› I).1 _ I|exact(h.dg ‹(p.aJ==0)=true› I).2.1 _ I|exact amK h I I I|exact amL c I|have Z:=amM c;simp only[be]at*;omega|(rename_i a _ b;first|exact ado a|show C2 _ _;simp only[bm];exact h.bz a b)|(rename_i a _ b e;first|exact aDV a b e|exact amN c a b e)
def asF:=eO (.el W.aH) (.el W.aH) aDM
@[irreducible] def Z2(p q:J):=CZ p/\CZ q
def Z2.a(h:Z2 p q):CZ p:=by unfold Z2 at h;exact h.1
def Z2.b(h:Z2 p q):CZ q:=by unfold Z2 at h;exact h.2
def Z2.of(h:CZ p)(c:CZ q):Z2 p q:=by unfold Z2;exact⟨h,c⟩
def amB(p q:J)(h:Z2 p q):bh 164 [wE .aH p,wE .aH q] (bT (iq p q)):=by
 refine vF func164 rfl [Az,asF] [] ?_;repeat' first|intro _|apply aP
 all_goals first|exact aZ|((with_reducible show(_&&_)=true);kernel_rfl)| (with_reducible first|exact h.a.cs.e|exact h.b.cs.e)|show C2 _ _;simp only[bm];exact .of h.a.bw h.b.bw|simp only[bm];done
def OK:=eO (.el W.aH) (.el W.aH) amB
def awf(n:Int):bh 72 [wI .i64 n] (bT (decide (1<=n/\n<=4))):=by
 refine vF func72 rfl [] [] ?_;repeat' first|intro _|apply aP
 all_goals first|exact aZ|rw[sO];simp only[be,bj,iN,false_iff]at*;omega|simp at*;omega
def Jj:=dR (.int .i64) λn (_:True)=>awf n
@[irreducible] def yf(a:Int)(b:zJ0)(i:Nat):Int:=ia a (b.take i)
theorem ZZ(a:Int)(c:J):∀l,ia a (l++[c])=max (ia a l) (fG a c)
 |[]=>by simp only[gi,ia];omega
 |d::l=>by rw[ei,ia,ia,ZZ a c l];omega
def aku(a:Int)(b:zJ0):yf a b 0=0:=by unfold yf;rw[iC,ia]
def akw(h:l[(N:Int).toNat]?=some p):max (yf i l N) (fG i p)=yf i l (N+1):=by unfold yf;rw[xX h,ZZ]
def akv{cs:zJ0}(h:decide ((N:Int)<cs.length)=false):yf i cs N=ia i cs:=by simp only[bj]at h;unfold yf;rw[eQ O]
def dg1(h:decide (p.aJ<i)=true):0=fG i p:=by rw[Jq,aK (eD h)]
def dg2(h:decide (p.aJ<i)=false)(a:(p.aJ==i)=true):(p.aG.length:Int)-1=fG i p:=by rw[Jq,g (fg h),aK (an a)]
def dg3(h:decide (p.aJ<i)=false)(a:(p.aJ==i)=false):ia i p.aG=fG i p:=by rw[Jq,g (fg h),g (an a)]
def as8(p:J)(a:Int):bh 73 [wE .aH p,wI .i64 a] (iT (fG a p)):=by
 generalize d:SizeOf.sizeOf p=D
 induction D using Nat.strongRecOn generalizing p a
 rename_i D c;subst d;refine vF func73 rfl [qO Vw 73 (.el W.aH) (.int .i64) (λ(x:J)(_:Int)=>x∈p.aG) (λ(x:J)(a:Int)=>iT (fG a x)) (λx a b=>c _ (J.lt b) x a rfl)] [(7,⟨Nat,λx=>⟨[(1,iT a),(5,iT (yf a p.aG x)),(23,lT .aH p.aG),(24,iT p.aG.length),(25,iT x)],[],0⟩,λx=>x<=p.aG.length/\True,λx=>p.aG.length-x⟩)] ?_;repeat' first|intro _|apply aP|refine aX 0 (aP ?_ λ(x:Nat)(e:x<=p.aG.length/\True)=>?_)|refine aX (x+1) ?_
 all_goals first|exact aZ|with_reducible rfl|omega|exact(aku a p.aG).symm|exact dg1 I|exact dg2 I I|rw[akv I];exact dg3 I I|rename_i b;exact ado b|rename_i b;rw[bm];exact akw b|simp only[be]at*;omega
def Zv:=eO (.el W.aH) (.int .i64) λp a (_:True)=>as8 p a
@[irreducible] def lh(a:Int):=1<=a/\a<=4
def lh.u{a:Int}(h:lh a):=(lh.eq_1 ..).to_iff.1 h
def lh.d(h:lh i)(a:(!decide (1<=i/\i<=4))=true):False:=by have:=h.u;simp[this]at a
@[irreducible] def ZL(p:J)(a:Int):=CZ p/\lh a
def ZL.a{lv:Int}(h:ZL p lv):CZ p:=by unfold ZL at h;exact h.1
def ZL.b{lv:Int}(h:ZL p lv):lh lv:=by unfold ZL at h;exact h.2
def ZL.of{lv:Int}(h:CZ p)(c:lh lv):ZL p lv:=by unfold ZL;exact⟨h,c⟩
def akt(p:J)(a:Int)(h:ZL p a):bh 35 [wE .aH p,wI .i64 a] (iT (cK p a)):=by
 refine vF func35 rfl [OS,CE,Jj,Zv] [] ?_;repeat' first|intro _|apply aP
 all_goals first|exact aZ|with_reducible exact h.a.cs.e|show CS _;simp only[bm];exact h.a.cs|exact(h.b.d I).elim|simp only[bm]at*;unfold cK;simp only[*];rfl
def CC:=eO (.el W.aH) (.int .i64) akt
@[irreducible] def JP(b:zJ0)(a:Int):Prop:=lh a/\bO (.mk a false [] b)
def JP.a{lv:Int}(h:JP l lv):lh lv:=by unfold JP at h;exact h.1
def JP.b(h:JP l i):bO (.mk i false [] l):=by unfold JP at h;exact h.2
def alc(b:zJ0)(a:Int)(h:JP b a):bh 247 [wL .aH b,wI .i64 a] (eT .aH (kG b a)):=by
 refine vF func247 rfl [yT,Jj] [] ?_;repeat' first|intro _|apply aP
 all_goals first|exact aZ|exact(h.a.d I).elim|exact h.b|unfold kG;with_reducible rfl
def Zo:=eO (.ls W.aH) (.int .i64) alc
def auo:fh prog 276:=fH func276 af rfl
def Fx(d:Nat):Ct prog S where
 f:=1000000+d
 run:=λ_ _=>False
 ok:=λ_ _ h=>h.elim
def aeL(l:zJ0):(ST.e (U:=S) (.c (.aW 0 W.aH l.length))).den.cL 0 (bx (U:=S) W.aH l)=(lT .aH l).den:=
 aY (λv=>T.e (E.c v)) (Be Vw (φ:=True) (show v_ (U:=S) 0 W.aH l (.aW 0 W.aH l.length) True from⟨rfl,trivial⟩)).2.symm
def nX(p:J)(j x:Nat):Int:=if j<x then p.aJ else 0
def kV(p:J)(j x:Nat):List J:=if j<x then List.replicate p.aG.length zP else []
def adb(h:(N:Int)=(y:Int))(a:j≠y):nX p j N=nX p j (N+1):=by have e:(j<N)=(j<N+1):=propext ⟨λ_=>O,λ_=>O⟩;unfold nX;simp only[e]
def KC(h:(N:Int)=(y:Int))(a:j≠y):kV p j N=kV p j (N+1):=by have e:(j<N)=(j<N+1):=propext ⟨λ_=>O,λ_=>O⟩;unfold kV;simp only[e]
def Ko(h:j<N):nX p j N=p.aJ:=by unfold nX;rw[aK h]
def ada(h:(N:Int)=(y:Int)):p.aJ=nX p y (N+1):=(Ko O).symm
def KB(h:(N:Int)=(y:Int)):List.replicate ((p.aG.length:Nat):Int).toNat (J.mk 0 false [] [])=kV p y (N+1):=by unfold kV;rw[aK O,bI];rfl
def QX(h:(N:Int)=(y:Int)):((p.aG.length:Nat):Int).toNat=(kV p y (N+1)).length:=by rw[<-KB h,na]
@[irreducible] def eK(a:Int)(n:Nat)(p:J)(j y:Nat):List J:=(p.aG.take y).map (λc=>((ck a n c)[j]?).getD zP)++List.replicate (p.aG.length-y) zP
def Oz(a:Int)(n:Nat)(p:J)(j:Nat)(h:y<=p.aG.length):(eK a n p j y).length=p.aG.length:=by unfold eK;simp;omega
def I4(a:Int)(n:Nat)(p:J)(h:j<N):kV p j N=eK a n p j 0:=by unfold kV eK;rw[aK h];simp
def Oy(a:Int)(n:Nat)(p:J)(h:j<N):(kV p j N).length=(eK a n p j 0).length:=by rw[I4 a n p h]
def arB(a:p.aG[y]?=some P)(d:(ck i N P)[j]?=some q):(eK i N p j y).set y q=eK i N p j (y+1):=by
 have f:=lp a;unfold eK;have b:((p.aG.take y).map λP=>((ck i N P)[j]?).getD zP).length=y:=by simp;omega
 rw[vl _ _ (by rw[b];omega),b,rT,h_,a,gB,gh];have e:p.aG.length-y=(p.aG.length-(y+1))+1:=O;rw[e,rR,vm];simp[d]
@[irreducible] def CF(p:J)(a:Int):=CZ p/\lh a
def CFu(h:CF p i):CZ p/\1<=i/\i<=4:=by unfold CF lh at h;exact h
theorem CF.bz{p:J}{lv:Int}(h:CF p lv){i:Nat}{c:J}(a:p.aG[i]?=some c):CF c lv:=by unfold CF at*;exact⟨h.1.bz c (bF a),h.2⟩
theorem CF.len{p:J}{a:Int}(h:CF p a):p.aG.length<=13:=(CFu h).1.len
def CF.e{lv:Int}(h:CF p lv):CF (.mk p.aJ p.neg p.aF p.aG) lv:=by rw[bm];exact h
def QT(h:l[N]?=some p):J.mk p.aJ p.neg p.aF p.aG∈l:=by rw[bm];exact bF h
@[irreducible] def CX(p:J)(N y z:Nat)(c:J):=p.aG[y]?=some c/\z<=N
def UZ{p:J}{N y z:Nat}{c:J}(h:CX p N y z c):=(CX.eq_1 ..).to_iff.1 h
def MV{c:J}(N:Nat)(h:p.aG[(y:Int).toNat]?=some c):CX p N y 0 c:=by unfold CX;rw[bI]at h;exact⟨h,dD _⟩
def MW{c:J}(h:CX p N y j c)(a:j<N):CX p N y (j+1) c:=by unfold CX at*;exact⟨h.1,a⟩
def Hy(h:CX p N y j q):y<p.aG.length:=lp (UZ h).1
def yz(y z j:Nat):Nat:=if j<z then y+1 else y
def D1(y j:Nat):yz y 0 j=y:=by unfold yz;rw[g O]
def D2(h:j<N):yz y N j=y+1:=by unfold yz;rw[aK h]
def aHE(h:N≠j):yz y N j=yz y (N+1) j:=by unfold yz;split<;>split<;>omega
def as1(a:CX p m y v P)(f:v=j)(b:(ck i N P)[j]?=some q):(eK i N p j (yz y v j)).set y q=eK i N p j (yz y (v+1) j):=by
 have d:yz y v j=y:=by unfold yz;rw[g O]
 have e:yz y (v+1) j=y+1:=by unfold yz;rw[aK O]
 rw[d,e];exact arB (UZ a).1 b
def UN(h:y<p.aG.length):yz y N j<=p.aG.length:=by unfold yz;split<;>omega
def Oh(d:CX p m y v q)(a b:Nat):(eK i N p j (yz y a j)).length=(eK i N p j (yz y b j)).length:=by rw[Oz _ _ _ _ (UN (Hy d)),Oz _ _ _ _ (UN (Hy d))]
def Cu{lv:Int}{n:Nat}(b:CX p N y m q)(a:Nat):y<(eK lv n p j (yz y a j)).length:=by rw[Oz _ _ _ _ (UN (Hy b))];exact Hy b
def O1(b:CX p m y v P)(d:(v:Int)=(j:Int))(a:(ck i N P)[(v:Int).toNat]?=some q):(eK i N p j (yz y v j)).set (y:Int).toNat (.mk q.aJ q.neg q.aF q.aG)=eK i N p j (yz y (v+1) j):=by have e:v=j:=O;subst e;rw[bI]at a⊢;rw[bm];exact as1 b rfl a
def ZS(h:(m:Int)=(v:Int))(a:j≠v):eK i N p j (yz y m j)=eK i N p j (yz y (m+1) j):=aY (eK i N p j) (aHE O)
def aqM(h:decide (p.aJ<i)=true):ck i N p=p::List.replicate N zP:=by rw[Cz,aK (eD h)]
def aqN(h:decide (p.aJ<i)=false)(a:(p.aJ==i)=true):ck i N p=p.aG.take (N+1)++List.replicate (N+1-p.aG.length) zP:=by rw[Cz,g (fg h),aK (an a)]
def Om{n:Nat}(h:decide (p.aJ<i)=true):ck i n p=.mk p.aJ p.neg p.aF p.aG::List.replicate n (.mk 0 false [] []):=by rw[aqM h,bm];rfl
def On{n:Nat}(h:decide (p.aJ<i)=false)(a:(p.aJ==i)=true):List.take (List.replicate (n+1) zP).length p.aG++List.drop p.aG.length (List.replicate (n+1) zP)=ck i n p:=by rw[aqN h a,na,List.drop_replicate]
def Oo{n:Nat}(h:decide (p.aJ<i)=false)(c:(p.aJ==i)=false)(b:decide ((y:Int)<p.aG.length)=false):ck i n p=(List.range (n+1)).map λa=>.mk p.aJ false [] (eK i n p a y):=by have b:=fg b;rw[Cz,g (fg h),g (an c)];congr 1;funext a;unfold eK;rw[eQ O,show p.aG.length-y=0 by omega,HU,l4]
def aru(p:J)(lv:Int)(h:CF p lv)(f:∀c∈p.aG,CF c lv->bh 276 [wE .aH c,wI .i64 lv,iE 0] (lT .aH (ck lv 0 c))):cN prog 276 (bJ (bP (U:=S) [])) ([wE .aH p,wI .i64 lv,iE 0].map SE.den) (bJ (bP [(0,aV.aU (U:=S) W.aH (ck lv 0 p))])) (·∈[]) (ST.e (U:=S) (.c (.aW 0 W.aH 1))).den:=by
 refine vO func276 rfl ⟨[Fx 15,CA Vw 276 (.el W.aH) (.int .i64) (.int .i64) (λ(c:J)(l k:Int)=>c∈p.aG/\CF c lv/\l=lv/\k=0) (λ(c:J)(l k:Int)=>lT .aH (ck l 0 c)) (λc l k o=>by obtain⟨s,r,rfl,rfl⟩:=o;exact f c s r)],[]⟩ [(3,⟨Nat,λx=>⟨[(1,iT lv),(2,iT 0),(3,bQ 0),(7,.e (.c (.aW 1 W.aH 1))),(17,iT 1),(18,iT x)],[(0,dh .aH p),(1,.cells [.d (.sc (.int .i64 (nX p 0 x))),iG,fv,.aW 2 W.aH (kV p 0 x).length]),(2,.aU (U:=S) W.aH (kV p 0 x))],3⟩,λx=>x<=1/\True,λx=>1-x⟩),(8,⟨Nat,λy=>⟨[(1,iT lv),(2,iT 0),(7,.e (.c (.aW 1 W.aH 1))),(33,lT .aH p.aG),(34,iT p.aG.length),(35,iT y)],[(1,.cells [cw p.aJ,iG,fv,.aW 2 W.aH (eK lv 0 p 0 y).length]),(2,.aU (U:=S) W.aH (eK lv 0 p 0 y))],3⟩,λy=>y<=p.aG.length/\True,λy=>p.aG.length-y⟩),(1000011,⟨Nat×Nat×J,λw=>⟨[(1,iT lv),(2,iT 0),(7,.e (.c (.aW 1 W.aH 1))),(9,iT w.1),(33,lT .aH p.aG),(34,iT p.aG.length),(35,iT w.1),(43,lT .aH (ck lv 0 w.2.2)),(44,iT (ck lv 0 w.2.2).length),(45,iT w.2.1)],[(1,.cells [cw p.aJ,iG,fv,.aW 2 W.aH (eK lv 0 p 0 (yz w.1 w.2.1 0)).length]),(2,.aU (U:=S) W.aH (eK lv 0 p 0 (yz w.1 w.2.1 0)))],3⟩,λw=>CX p 1 w.1 w.2.1 w.2.2/\True,λw=>1-w.2.1⟩),(14000019,⟨Unit,λ_=>⟨[(3,bQ 0),(7,.e (.c (.aW 1 W.aH 1)))],[(0,dh .aH p),(1,.aU (U:=S) W.aH (List.replicate 1 zP))],2⟩,λ_=>True,λ_=>0⟩),(6000020,⟨Unit,λ_=>⟨[(7,.e (.c (.aW 1 W.aH 1)))],[(1,.aU (U:=S) W.aH (ck lv 0 p))],2⟩,λ_=>True,λ_=>0⟩)] [] ⟨[(6,.e (.c (.aW 0 W.aH 1)))],[(0,.aU (U:=S) W.aH (ck lv 0 p))],2⟩ ?_;repeat' (first
  |((with_reducible show mt _ _ _ _ _);(conv=>whnf);(fail_if_success with_reducible show mt _ _ _ _ _))
  |intro _|apply aP
  |refine @aX (Unit->Prop) _ (λ_=>True) (@aX Unit _ () (aP ?_ λ_ _ _=>?_))
  |refine @aX (Nat×Nat×J->Prop) _ (λb=>b.1=y) (@aX (Nat×Nat×J) _ (y,0,?_) (aP ?_ λ(w:Nat×Nat×J)(a:CX p 1 w.1 w.2.1 w.2.2/\True)(m:w.1=y)=>?_))
  |refine @aX (Nat×Nat×J) _ (w.1,w.2.1+1,w.2.2) ?_
  |refine @aX Nat _ (w.1+1) ?_
  |refine @aX Nat _ 0 (aP ?_ λ(y:Nat)(t:y<=p.aG.length/\True)=>?_)
  |refine @aX Nat _ 0 (aP ?_ λ(x:Nat)(u:x<=1/\True)=>?_)
  |refine @aX Nat _ (x+1) ?_
  |refine @aX Nat _ 1 ?_
  |fail)
 all_goals(try clear f)
 all_goals(try simp only[bm,e_]at*)
 all_goals first|exact aZ|with_reducible rfl|omega|((with_reducible show(_&&_)=true);kernel_rfl)|exact aY (ck lv 0) (bm _)|exact aY (λq=>((ck lv 0 q).length:Int)) (bm _)|have Z:=kS lv 0 w.2.2;simp only[be]at*;omega|have Z:=Cu (lv:=lv) (n:=0) (j:=0) a.1 w.2.1;omega|exact O1 a.1 I ‹(ck _ _ _)[_]?=_›|exact Oh a.1 _ _|exact aY (eK lv 0 p _) (D2 (by have Z:=kS lv 0 w.2.2;simp only[bj]at*;omega))|exact aY (λi=>(eK lv 0 p _ i).length) (D2 (by have Z:=kS lv 0 w.2.2;simp only[bj]at*;omega))|exact aY (eK lv 0 p _) (D1 _ _).symm|exact aY (λi=>(eK lv 0 p _ i).length) (D1 _ _).symm|exact MW a.1 (by have Z:=kS lv 0 w.2.2;simp only[be]at*;omega)|exact QT I|exact(h.bz I).e|exact MV _ I|exact(Oo (n:=0) I I I).symm|(with_reducible show _=nX _ _ _;unfold nX;split<;>first|rfl|omega)|have e:lC.dT=64:=rfl;rw[e];omega|have Z:=h.len;have e:lC.dT=64:=rfl;rw[e];omega|have Z:=h.len;omega|simp only[be,bj,jw,lN,jC]at*;omega|exact(Om (n:=0) I).symm|exact On (n:=0) I I|exact KB I|exact QX I|exact Ko (by simp only[bj]at*;omega)|exact Oy _ _ _ (by simp only[bj]at*;omega)|exact I4 _ _ _ (by simp only[bj]at*;omega)|(unfold kV;split<;>first|rfl|exfalso;omega|simp;done)|rfl
def arv(p:J)(lv:Int)(h:CF p lv)(f:∀c∈p.aG,CF c lv->bh 276 [wE .aH c,wI .i64 lv,iE 1] (lT .aH (ck lv 1 c))):cN prog 276 (bJ (bP (U:=S) [])) ([wE .aH p,wI .i64 lv,iE 1].map SE.den) (bJ (bP [(0,aV.aU (U:=S) W.aH (ck lv 1 p))])) (·∈[]) (ST.e (U:=S) (.c (.aW 0 W.aH 2))).den:=by
 refine vO func276 rfl ⟨[Fx 15,CA Vw 276 (.el W.aH) (.int .i64) (.int .i64) (λ(c:J)(l k:Int)=>c∈p.aG/\CF c lv/\l=lv/\k=1) (λ(c:J)(l k:Int)=>lT .aH (ck l 1 c)) (λc l k o=>by obtain⟨s,r,rfl,rfl⟩:=o;exact f c s r)],[]⟩ [(3,⟨Nat,λx=>⟨[(1,iT lv),(2,iT 1),(3,bQ 0),(7,.e (.c (.aW 1 W.aH 2))),(17,iT 2),(18,iT x)],[(0,dh .aH p),(1,.cells [.d (.sc (.int .i64 (nX p 0 x))),iG,fv,.aW 2 W.aH (kV p 0 x).length,.d (.sc (.int .i64 (nX p 1 x))),iG,fv,.aW 3 W.aH (kV p 1 x).length]),(2,.aU (U:=S) W.aH (kV p 0 x)),(3,.aU (U:=S) W.aH (kV p 1 x))],4⟩,λx=>x<=2/\True,λx=>2-x⟩),(8,⟨Nat,λy=>⟨[(1,iT lv),(2,iT 1),(7,.e (.c (.aW 1 W.aH 2))),(33,lT .aH p.aG),(34,iT p.aG.length),(35,iT y)],[(1,.cells [cw p.aJ,iG,fv,.aW 2 W.aH (eK lv 1 p 0 y).length,cw p.aJ,iG,fv,.aW 3 W.aH (eK lv 1 p 1 y).length]),(2,.aU (U:=S) W.aH (eK lv 1 p 0 y)),(3,.aU (U:=S) W.aH (eK lv 1 p 1 y))],4⟩,λy=>y<=p.aG.length/\True,λy=>p.aG.length-y⟩),(1000011,⟨Nat×Nat×J,λw=>⟨[(1,iT lv),(2,iT 1),(7,.e (.c (.aW 1 W.aH 2))),(9,iT w.1),(33,lT .aH p.aG),(34,iT p.aG.length),(35,iT w.1),(43,lT .aH (ck lv 1 w.2.2)),(44,iT (ck lv 1 w.2.2).length),(45,iT w.2.1)],[(1,.cells [cw p.aJ,iG,fv,.aW 2 W.aH (eK lv 1 p 0 (yz w.1 w.2.1 0)).length,cw p.aJ,iG,fv,.aW 3 W.aH (eK lv 1 p 1 (yz w.1 w.2.1 1)).length]),(2,.aU (U:=S) W.aH (eK lv 1 p 0 (yz w.1 w.2.1 0))),(3,.aU (U:=S) W.aH (eK lv 1 p 1 (yz w.1 w.2.1 1)))],4⟩,λw=>CX p 2 w.1 w.2.1 w.2.2/\True,λw=>2-w.2.1⟩),(14000019,⟨Unit,λ_=>⟨[(3,bQ 0),(7,.e (.c (.aW 1 W.aH 2)))],[(0,dh .aH p),(1,.aU (U:=S) W.aH (List.replicate 2 zP))],2⟩,λ_=>True,λ_=>0⟩),(6000020,⟨Unit,λ_=>⟨[(7,.e (.c (.aW 1 W.aH 2)))],[(1,.aU (U:=S) W.aH (ck lv 1 p))],2⟩,λ_=>True,λ_=>0⟩)] [] ⟨[(6,.e (.c (.aW 0 W.aH 2)))],[(0,.aU (U:=S) W.aH (ck lv 1 p))],2⟩ ?_;repeat' (first
  |((with_reducible show mt _ _ _ _ _);(conv=>whnf);(fail_if_success with_reducible show mt _ _ _ _ _))
  |intro _|apply aP
  |refine @aX (Unit->Prop) _ (λ_=>True) (@aX Unit _ () (aP ?_ λ_ _ _=>?_))
  |refine @aX (Nat×Nat×J->Prop) _ (λb=>b.1=y) (@aX (Nat×Nat×J) _ (y,0,?_) (aP ?_ λ(w:Nat×Nat×J)(a:CX p 2 w.1 w.2.1 w.2.2/\True)(m:w.1=y)=>?_))
  |refine @aX (Nat×Nat×J) _ (w.1,w.2.1+1,w.2.2) ?_
  |refine @aX Nat _ (w.1+1) ?_
  |refine @aX Nat _ 0 (aP ?_ λ(y:Nat)(t:y<=p.aG.length/\True)=>?_)
  |refine @aX Nat _ 0 (aP ?_ λ(x:Nat)(u:x<=2/\True)=>?_)
  |refine @aX Nat _ (x+1) ?_
  |refine @aX Nat _ 2 ?_
  |fail)
 all_goals(try clear f)
 all_goals(try simp only[bm,e_]at*)
 all_goals first|exact aZ|with_reducible rfl|omega|((with_reducible show(_&&_)=true);kernel_rfl)|exact aY (ck lv 1) (bm _)|exact aY (λq=>((ck lv 1 q).length:Int)) (bm _)|have Z:=kS lv 1 w.2.2;simp only[be]at*;omega|have Z:=Cu (lv:=lv) (n:=1) (j:=0) a.1 w.2.1;omega|have Z:=Cu (lv:=lv) (n:=1) (j:=1) a.1 w.2.1;omega|exact O1 a.1 I ‹(ck _ _ _)[_]?=_›|exact Oh a.1 _ _|exact ZS ‹((w.2.1:Nat):Int)=_› ae|exact aY (eK lv 1 p _) (D2 (by have Z:=kS lv 1 w.2.2;simp only[bj]at*;omega))|exact aY (λi=>(eK lv 1 p _ i).length) (D2 (by have Z:=kS lv 1 w.2.2;simp only[bj]at*;omega))|exact aY (eK lv 1 p _) (D1 _ _).symm|exact aY (λi=>(eK lv 1 p _ i).length) (D1 _ _).symm|exact MW a.1 (by have Z:=kS lv 1 w.2.2;simp only[be]at*;omega)|exact QT I|exact(h.bz I).e|exact MV _ I|exact(Oo (n:=1) I I I).symm|(with_reducible show _=nX _ _ _;unfold nX;split<;>first|rfl|omega)|have e:lC.dT=64:=rfl;rw[e];omega|have Z:=h.len;have e:lC.dT=64:=rfl;rw[e];omega|have Z:=h.len;omega|simp only[be,bj,jw,lN,jC]at*;omega|exact(Om (n:=1) I).symm|exact On (n:=1) I I|exact adb I ae|exact ada I|exact KB I|exact QX I|exact Ko (by simp only[bj]at*;omega)|exact Oy _ _ _ (by simp only[bj]at*;omega)|exact I4 _ _ _ (by simp only[bj]at*;omega)|exact KC I ae|exact aY List.length (KC I ae)|(unfold kV;split<;>first|rfl|exfalso;omega|simp;done)|rfl
def arw(p:J)(lv:Int)(h:CF p lv)(f:∀c∈p.aG,CF c lv->bh 276 [wE .aH c,wI .i64 lv,iE 2] (lT .aH (ck lv 2 c))):cN prog 276 (bJ (bP (U:=S) [])) ([wE .aH p,wI .i64 lv,iE 2].map SE.den) (bJ (bP [(0,aV.aU (U:=S) W.aH (ck lv 2 p))])) (·∈[]) (ST.e (U:=S) (.c (.aW 0 W.aH 3))).den:=by
 refine vO func276 rfl ⟨[Fx 15,CA Vw 276 (.el W.aH) (.int .i64) (.int .i64) (λ(c:J)(l k:Int)=>c∈p.aG/\CF c lv/\l=lv/\k=2) (λ(c:J)(l k:Int)=>lT .aH (ck l 2 c)) (λc l k o=>by obtain⟨s,r,rfl,rfl⟩:=o;exact f c s r)],[]⟩ [(3,⟨Nat,λx=>⟨[(1,iT lv),(2,iT 2),(3,bQ 0),(7,.e (.c (.aW 1 W.aH 3))),(17,iT 3),(18,iT x)],[(0,dh .aH p),(1,.cells [.d (.sc (.int .i64 (nX p 0 x))),iG,fv,.aW 2 W.aH (kV p 0 x).length,.d (.sc (.int .i64 (nX p 1 x))),iG,fv,.aW 3 W.aH (kV p 1 x).length,.d (.sc (.int .i64 (nX p 2 x))),iG,fv,.aW 4 W.aH (kV p 2 x).length]),(2,.aU (U:=S) W.aH (kV p 0 x)),(3,.aU (U:=S) W.aH (kV p 1 x)),(4,.aU (U:=S) W.aH (kV p 2 x))],5⟩,λx=>x<=3/\True,λx=>3-x⟩),(8,⟨Nat,λy=>⟨[(1,iT lv),(2,iT 2),(7,.e (.c (.aW 1 W.aH 3))),(33,lT .aH p.aG),(34,iT p.aG.length),(35,iT y)],[(1,.cells [cw p.aJ,iG,fv,.aW 2 W.aH (eK lv 2 p 0 y).length,cw p.aJ,iG,fv,.aW 3 W.aH (eK lv 2 p 1 y).length,cw p.aJ,iG,fv,.aW 4 W.aH (eK lv 2 p 2 y).length]),(2,.aU (U:=S) W.aH (eK lv 2 p 0 y)),(3,.aU (U:=S) W.aH (eK lv 2 p 1 y)),(4,.aU (U:=S) W.aH (eK lv 2 p 2 y))],5⟩,λy=>y<=p.aG.length/\True,λy=>p.aG.length-y⟩),(1000011,⟨Nat×Nat×J,λw=>⟨[(1,iT lv),(2,iT 2),(7,.e (.c (.aW 1 W.aH 3))),(9,iT w.1),(33,lT .aH p.aG),(34,iT p.aG.length),(35,iT w.1),(43,lT .aH (ck lv 2 w.2.2)),(44,iT (ck lv 2 w.2.2).length),(45,iT w.2.1)],[(1,.cells [cw p.aJ,iG,fv,.aW 2 W.aH (eK lv 2 p 0 (yz w.1 w.2.1 0)).length,cw p.aJ,iG,fv,.aW 3 W.aH (eK lv 2 p 1 (yz w.1 w.2.1 1)).length,cw p.aJ,iG,fv,.aW 4 W.aH (eK lv 2 p 2 (yz w.1 w.2.1 2)).length]),(2,.aU (U:=S) W.aH (eK lv 2 p 0 (yz w.1 w.2.1 0))),(3,.aU (U:=S) W.aH (eK lv 2 p 1 (yz w.1 w.2.1 1))),(4,.aU (U:=S) W.aH (eK lv 2 p 2 (yz w.1 w.2.1 2)))],5⟩,λw=>CX p 3 w.1 w.2.1 w.2.2/\True,λw=>3-w.2.1⟩),(14000019,⟨Unit,λ_=>⟨[(3,bQ 0),(7,.e (.c (.aW 1 W.aH 3)))],[(0,dh .aH p),(1,.aU (U:=S) W.aH (List.replicate 3 zP))],2⟩,λ_=>True,λ_=>0⟩),(6000020,⟨Unit,λ_=>⟨[(7,.e (.c (.aW 1 W.aH 3)))],[(1,.aU (U:=S) W.aH (ck lv 2 p))],2⟩,λ_=>True,λ_=>0⟩)] [] ⟨[(6,.e (.c (.aW 0 W.aH 3)))],[(0,.aU (U:=S) W.aH (ck lv 2 p))],2⟩ ?_;repeat' (first
  |((with_reducible show mt _ _ _ _ _);(conv=>whnf);(fail_if_success with_reducible show mt _ _ _ _ _))
  |intro _|apply aP
  |refine @aX (Unit->Prop) _ (λ_=>True) (@aX Unit _ () (aP ?_ λ_ _ _=>?_))
  |refine @aX (Nat×Nat×J->Prop) _ (λb=>b.1=y) (@aX (Nat×Nat×J) _ (y,0,?_) (aP ?_ λ(w:Nat×Nat×J)(a:CX p 3 w.1 w.2.1 w.2.2/\True)(m:w.1=y)=>?_))
  |refine @aX (Nat×Nat×J) _ (w.1,w.2.1+1,w.2.2) ?_
  |refine @aX Nat _ (w.1+1) ?_
  |refine @aX Nat _ 0 (aP ?_ λ(y:Nat)(t:y<=p.aG.length/\True)=>?_)
  |refine @aX Nat _ 0 (aP ?_ λ(x:Nat)(u:x<=3/\True)=>?_)
  |refine @aX Nat _ (x+1) ?_
  |refine @aX Nat _ 3 ?_
  |fail)
 all_goals(try clear f)
 all_goals(try simp only[bm,e_]at*)
 all_goals first|exact aZ|with_reducible rfl|omega|((with_reducible show(_&&_)=true);kernel_rfl)|exact aY (ck lv 2) (bm _)|exact aY (λq=>((ck lv 2 q).length:Int)) (bm _)|have Z:=kS lv 2 w.2.2;simp only[be]at*;omega|have Z:=Cu (lv:=lv) (n:=2) (j:=0) a.1 w.2.1;omega|have Z:=Cu (lv:=lv) (n:=2) (j:=1) a.1 w.2.1;omega|have Z:=Cu (lv:=lv) (n:=2) (j:=2) a.1 w.2.1;omega|exact O1 a.1 I ‹(ck _ _ _)[_]?=_›|exact Oh a.1 _ _|exact ZS ‹((w.2.1:Nat):Int)=_› ae|exact aY (eK lv 2 p _) (D2 (by have Z:=kS lv 2 w.2.2;simp only[bj]at*;omega))|exact aY (λi=>(eK lv 2 p _ i).length) (D2 (by have Z:=kS lv 2 w.2.2;simp only[bj]at*;omega))|exact aY (eK lv 2 p _) (D1 _ _).symm|exact aY (λi=>(eK lv 2 p _ i).length) (D1 _ _).symm|exact MW a.1 (by have Z:=kS lv 2 w.2.2;simp only[be]at*;omega)|exact QT I|exact(h.bz I).e|exact MV _ I|exact(Oo (n:=2) I I I).symm|(with_reducible show _=nX _ _ _;unfold nX;split<;>first|rfl|omega)|have e:lC.dT=64:=rfl;rw[e];omega|have Z:=h.len;have e:lC.dT=64:=rfl;rw[e];omega|have Z:=h.len;omega|simp only[be,bj,jw,lN,jC]at*;omega|exact(Om (n:=2) I).symm|exact On (n:=2) I I|exact adb I ae|exact ada I|exact KB I|exact QX I|exact Ko (by simp only[bj]at*;omega)|exact Oy _ _ _ (by simp only[bj]at*;omega)|exact I4 _ _ _ (by simp only[bj]at*;omega)|exact KC I ae|exact aY List.length (KC I ae)|(unfold kV;split<;>first|rfl|exfalso;omega|simp;done)|rfl
def arx(n:Nat)(e:n=0\/n=1\/n=2)(a:Int)(p:J):CF p a->cN prog 276 (bJ (bP (U:=S) [])) ([wE .aH p,wI .i64 a,iE n].map SE.den) (bJ (bP [(0,aV.aU (U:=S) W.aH (ck a n p))])) (·∈[]) (ST.e (U:=S) (.c (.aW 0 W.aH (n+1)))).den:=by
 generalize i:SizeOf.sizeOf p=D
 induction D using Nat.strongRecOn generalizing p
 rename_i D d;subst i;intro h;have b:∀c∈p.aG,CF c a->bh 276 [wE .aH c,wI .i64 a,iE n] (lT .aH (ck a n c)):=λc f hf=>by have:=d _ (J.lt f) c rfl hf;show li _ _ _ _;rw[<-aeL (ck a n c),kS];exact li.aeA this
 clear d;rcases e with rfl|rfl|rfl
 ·exact aru p a h b
 ·exact arv p a h b
 ·exact arw p a h b
def auc:fh prog 242:=fH func242 af rfl
def agK(H:List (Nat×aV S))(args:zS0)(K:f_ S->Prop):Prop:=
 match H,args with
 |[],[.agg [.d (.sc (.int .i64 l)),.d (.b8 Z),.d (.bf W.u32 a),.d (.bf W.aH b)],.c (.d (.sc (.int .i64 lv))),.c (.d (.sc (.int .i64 n)))]=>(CF (.mk l Z a b) lv/\0<=n/\n<=2)/\
  K ⟨.e (.c (.aW 0 W.aH (ck lv n.toNat (.mk l Z a b)).length)),[(0,.aU W.aH (ck lv n.toNat (.mk l Z a b)))],[],[]⟩
 |_,_=>False
def aAu:fk prog S where
 f:=276
 fX:=auo
 run:=agK
 ok H args K h:=by
  unfold agK at h;split at h
  ·rename_i l Z a i lv n;obtain⟨⟨d,m,k⟩,c⟩:=h;refine⟨_,?_,λu b j=>absurd b (l6 _),c⟩;have e:n=((n.toNat:Nat):Int):=O;have:=arx n.toNat O lv (.mk l Z a i) d;rw[<-e]at this;rw[kS];exact cN.fK (stay':=λu=>u<0/\¬u∈[]) this λu b=>absurd b.1 (l6 _)
  ·cases h
@[irreducible] def jt(p:J)(lv:Int):=ZL p lv/\cK p lv<=2
def jt.z{p:J}{lv:Int}(h:jt p lv):ZL p lv:=by unfold jt at h;exact h.1
def jt.d{p:J}{lv:Int}(h:jt p lv):cK p lv<=2:=by unfold jt at h;exact h.2
def jt.of{p:J}{lv:Int}(h:ZL p lv)(a:cK p lv<=2):jt p lv:=by unfold jt;exact⟨h,a⟩
def xO(p:J)(lv:Int):List J:=ck lv (fG lv p).toNat p
@[irreducible] def nZ(p:J)(lv:Int)(x:Nat):List J:=((xO p lv).take x).map dG++(xO p lv).drop x
def zj(p:J)(lv:Int)(x:Nat):(nZ p lv x).length=(fG lv p).toNat+1:=by have:=kS lv (fG lv p).toNat p;unfold nZ xO;simp;omega
def azz(p:J)(lv:Int):ck lv (fG lv p).toNat p=nZ p lv 0:=by unfold nZ xO;simp
def adV{p:J}{lv:Int}{x:Nat}{c:J}(h:(nZ p lv x)[(x:Int).toNat]?=some c):(xO p lv)[x]?=some c:=by
 rw[bI]at h;have a:=lp h;rw[zj]at a;have e:((xO p lv).take x).length=x:=by have:=kS lv (fG lv p).toNat p;unfold xO;simp;omega
 unfold nZ at h;rw[yq (by rw[dS];omega),dS,e,rT,m_]at h;simpa using h
def azA{p:J}{lv:Int}{x:Nat}(h:(nZ p lv x)[(x:Int).toNat]?=some q):(nZ p lv x).set (x:Int).toNat (dG q)=nZ p lv (x+1):=by
 have a:=adV h;have b:=lp a;have e:(((xO p lv).take x).map dG).length=x:=by simp;omega
 rw[bI];unfold nZ;rw[vl _ _ O,e,rT,h_,a,gB,gh,mZ b,vm];rfl
section
variable {p:J}{lv:Int}(h:jt p lv)
include h
def jt.nz:dG p=p:=by have a:=h.z.a;unfold CZ at a;obtain⟨d,k,b,c,hz⟩:=a;exact hz.cH b O
def jt.cf:CF p lv:=by have a:=h.z.a;have b:=h.z.b;unfold CF;exact⟨a,b⟩
def jt.np{c:J}(b:(nZ p lv N)[(N:Int).toNat]?=some c):bO c:=by have f:=bF (adV b);have a:=h.z.a;unfold CZ at a;obtain⟨d,k,i,j,hz⟩:=a;exact(SJ i O hz c f).1
variable (hz:bM p=false)
include hz
def jt.dg:0<=fG lv p/\fG lv p<=2:=by have d:=h.d;have l:=h.z.b.u;unfold cK at d;rw[hz]at d;exact⟨O3 h.z.a.bw (lv:=lv.toNat) O|>λZ=>by rwa [Int.toNat_of_nonneg O]at Z,d⟩
theorem jt.e(b:decide ((N:Int)<((nZ p lv N).length:Int))=false):nZ p lv N=a_ p lv:=by have b:=fg b;have a:=zj p lv N;have c:(xO p lv).length=(fG lv p).toNat+1:=kS lv _ p;unfold a_;rw[g (by rw[hz];decide)];unfold nZ;rw[eQ O,pR O,l4];rfl
end
def jt.e0{p:J}{lv:Int}(hz:bM p=true):a_ p lv=[]:=by unfold a_;rw[aK hz]
def U1(p:J)(lv:Int)(h:jt p lv):cN prog 242 (bJ (bP (U:=S) [])) ([wE .aH p,wI .i64 lv].map SE.den) (bJ (bP [(0,aV.aU (U:=S) W.aH (a_ p lv))])) (·∈[]) (ST.e (U:=S) (.c (.aW 0 W.aH (a_ p lv).length))).den:=by
 refine vO func242 rfl ⟨[yT,CE,Jj,Zv],[aAu]⟩ [(8,⟨Nat,λx=>⟨[(5,.e (.c (.aW 1 W.aH (nZ p lv x).length))),(25,iT (nZ p lv x).length),(26,iT x)],[(1,.aU (U:=S) W.aH (nZ p lv x))],2⟩,λx=>x<=3/\True,λx=>(nZ p lv 0).length-x⟩)] [] ⟨[(4,.e (.c (.aW 0 W.aH (a_ p lv).length)))],[(0,.aU (U:=S) W.aH (a_ p lv))],2⟩ ?_;repeat' first|intro _|apply aP|refine aX 0 (aP ?_ λ(x:Nat)(d:x<=3/\True)=>?_)|refine aX (x+1) ?_
 all_goals(have a:=h.nz)
 all_goals(try simp only[bm,a]at*)
 all_goals first|exact aZ|omega|((with_reducible show(_&&_)=true);kernel_rfl)|exact(h.z.b.d I).elim|exact h.z.a.cs|exact h.z.a.np|exact h.cf|exact h.np I|exact(h.dg I).1|exact(h.dg I).2|exact azz _ _|rw[kS,zj]|exact azA I|rw[zj,zj]|exact jt.e h I I|rw[jt.e h I I]|rw[jt.e0 I]<;>rfl|have Z:=h.dg I;have b:=zj p lv x;simp only[be]at*;omega|have b:=zj p lv x;have g3:=zj p lv 0;simp only[be]at*;omega
def aj5(p:J)(lv:Int)(h:jt p lv):bh 242 [wE .aH p,wI .i64 lv] (lT .aH (a_ p lv)):=by show li _ _ _ _;rw[<-aeL];exact li.aeA (U1 p lv h)
def Fs:=eO (.el W.aH) (.int .i64) aj5
def agy(H:List (Nat×aV S))(args:zS0)(K:f_ S->Prop):Prop:=
 match H,args with
 |[],[.agg [.d (.sc (.int .i64 l)),.d (.b8 Z),.d (.bf W.u32 a),.d (.bf W.aH b)],.c (.d (.sc (.int .i64 lv)))]=>jt (.mk l Z a b) lv/\
  K ⟨.e (.c (.aW 0 W.aH (a_ (.mk l Z a b) lv).length)),[(0,.aU W.aH (a_ (.mk l Z a b) lv))],[],[]⟩
 |_,_=>False
def aAk:fk prog S where
 f:=242
 fX:=auc
 run:=agy
 ok H args K h:=by
  unfold agy at h;split at h
  ·rename_i l Z a c lv;refine⟨_,?_,λu b d=>absurd b (l6 _),h.2⟩;exact cN.fK (stay':=λu=>u<0/\¬u∈[]) (U1 (.mk l Z a c) lv h.1) λu b=>absurd b.1 (l6 _)
  ·cases h
end Go.Proofs.YtfbmhjooliccnaaGreatDoor
namespace Go.Proofs.YtfbmhjooliccnaaGreatDoor
variable {B d U P r q Z X:Int}
def auC{T W V':Int}(j:U=T*P+d)(b:B=W*P+V')(c:d<P)(a:0<=V')(k:0<P)(e:0<=q)(h:q*B<=U):q*W<=T:=by
 refine Aa.1 λf=>?_
 have i:(T+1)*P<=(q*W)*P:=wH O O;have l:q*B=q*W*P+q*V':=by rw[b,mB,kA]
 have m:0<=q*V':=og e a;rw[jR,Int.one_mul]at i;omega
def auB{T W V':Int}(j:U=T*P+q)(b:r=W*P+V')(c:0<=q)(a:0<=V')(e:V'<P)(k:0<P)(l:0<=d)(f:d<B)(m:B<=W)(h:d*W<=T):(d-1)*r<=U:=by
 have n:(d*W)*P<=T*P:=wH h O;have o:(d-1)*r=d*W*P-W*P+(d-1)*V':=by rw[b,mB,<-kA,rJ d 1 W,rJ (d*W) (1*W) P,Int.one_mul]
 have p:(d-1)*V'<=W*P:=by
  by_cases i:d=0
  ·subst i;have:0<=W*P:=og O O;omega
  ·have s:(d-1)*V'<=W*V':=wH O a;have t:W*V'<=W*P:=qx O O;omega
 omega
def auE{v1 v2 u2 u1 u0:Int}(h:d*v1+r=u2*B+u1)(a:r*B+u0<d*v2):u2*B*B+u1*B+u0<d*(v1*B+v2):=by
 have b:(d*v1+r)*B=(u2*B+u1)*B:=by rw[h]
 rw[jR,jR]at b;rw[mB,<-kA];omega
def auF{v1 v2 u2 u1 u0:Int}(h:d*v1+r=u2*B+u1)(a:d*v2<=r*B+u0):d*(v1*B+v2)<=u2*B*B+u1*B+u0:=by
 have b:(d*v1+r)*B=(u2*B+u1)*B:=by rw[h]
 rw[jR,jR]at b;rw[mB,<-kA];omega
end Go.Proofs.YtfbmhjooliccnaaGreatDoor
namespace Go.Proofs.YtfbmhjooliccnaaGreatDoor
open Go Go.Ab Go.Proofs.Tryz
variable {Z z v:ao}{d x p r c:Int}{n o i:Nat}
def dL(Z:ao)(o n:Nat):List Int:=(Z.drop o).take n
def n9(Z:ao)(o n:Nat)(w:ao):List Int:=Z.take o++(w++Z.drop (o+n))
def u3(z Z:ao)(o n:Nat):=z.length=Z.length/\z.take o=Z.take o/\z.drop (o+n)=Z.drop (o+n)
def u3.refl(Z:ao)(o n:Nat):u3 Z Z o n:=⟨rfl,rfl,rfl⟩
def Bk(h:o+n<=Z.length):(dL Z o n).length=n:=by unfold dL;rw[ez,qC];omega
def Bj(h:Dg Z):Dg (dL Z o n):=(h.drop o).take n
def Bi(a:i<n):(dL Z o n)[i]?=Z[o+i]? :=by unfold dL;rw[rM,aK a,m_]
def Lq(a:i<n):dL (Z.set (o+i) x) o n=(dL Z o n).set i x:=by unfold dL;rw[List.drop_set,g O,List.take_set];congr 1;omega
def LR(a:i<n)(h:u3 z Z o n):u3 (z.set (o+i) x) Z o n:=by
 refine⟨by rw[oV];exact h.1,?_,?_⟩
 ·rw[List.take_set_of_le O];exact h.2.1
 ·rw[List.drop_set_of_lt O];exact h.2.2
def aDR(h:u3 z Z o n):z=n9 Z o n (dL z o n):=by unfold n9 dL;rw[<-h.2.1,<-h.2.2,<-List.drop_drop,om,om]
def Tf(h:o+n<=Z.length)(a:z.length=n):(n9 Z o n z).length=Z.length:=by unfold n9;rw[c_,c_,ez,qC];omega
def ahC{w:ao}(h:o+n<=Z.length)(a:w.length=n):dL (n9 Z o n w) o n=w:=by unfold n9 dL;rw[Wf (by rw[ez];omega),HQ (by rw[ez];omega),gi,B7 O,eQ O]
def ahD(h:o+n<=Z.length)(a:z.length=n):u3 (n9 Z o n z) Z o n:=by
 refine⟨Tf h a,?_,?_⟩
 ·unfold n9;rw[B7 (by rw[ez];omega),List.take_take,Nat.min_self]
 ·unfold n9;rw[<-gh,HO,HQ (by rw[c_,ez];omega),gi];have e:o+n-(List.take o Z++z).length=0:=by rw[c_,ez];omega
  rw[e];rfl
def ahA(h:Dg Z)(a:Dg z):Dg (n9 Z o n z):=(h.take o).uo (a.uo (h.drop _))
def atg(h:Dg z)(a:z.length=n)(b:nV z=d):z=kE d.toNat n:=by rw[<-b,<-a];exact Js h
def ahB(h:u3 z Z o n)(a:Dg z)(b:o+n<=Z.length)(c:nV (dL z o n)=d):z=n9 Z o n (kE d.toNat n):=by have e:=atg (Bj a) (Bk (by rw[h.1];exact b)) c;rw[<-e];exact aDR h
def kg(c d e b a:Int):Int:=min 4294967295 ((c*18446744073709551616+d*4294967296+e)/(b*4294967296+a))
@[irreducible] def EG(c e h b f d r a:Int):=bY d/\bY r/\0<=a/\a<=1/\d*b+r+a*4294967296=c*4294967296+e/\kg c e h b f<=d
@[irreducible] def EP(b d e a c:Int):=bY b/\bY d/\bY e/\bY a/\bY c/\0<a/\b<=a
def Ph{v2:Int}(h:EP d x p r v2):kg d x p r v2<=c↔(4294967295<=c\/d*18446744073709551616+x*4294967296+p<(c+1)*(r*4294967296+v2)):=by unfold EP at h;simp only[cg]at h;unfold kg;have e:0<r*4294967296+v2:=O;rw[<-Int.lt_add_one_iff,<-Int.lt_add_one_iff (b:=c) (a:=4294967295),<-BZ e];omega
def aky(h:EP d x p r c)(b:r<=d):EG d x p r c 4294967295 ((x+r+0)%4294967296) ((x+r+0)/4294967296):=by have a:=h;unfold EP at a;unfold EG;simp only[cg]at a⊢;refine⟨O,O,O,O,O,(Ph h).2 (.inl O)⟩
def akz{v1 v2:Int}(h:EP d x p v1 v2)(c:d<v1):EG d x p v1 v2 ((d*4294967296+x)/v1) ((d*4294967296+x)%v1) 0:=by
 have a:=h;unfold EP at a;unfold EG;simp only[cg]at a⊢;have b:0<v1:=a.2.2.2.2.2.1;have e:=rI (d*4294967296+x) (qy b);have f:=sR (d*4294967296+x) b;have i:=Ea (d*4294967296+x) v1;have j:0<=(d*4294967296+x)/v1:=z8 O O;have k:(d*4294967296+x)/v1<4294967296:=by rw[BZ b];omega
 refine⟨O,O,O,O,?_,(Ph h).2 (.inr ?_)⟩
 ·rw[iB];omega
 ·have l:d*4294967296+x<((d*4294967296+x)/v1+1)*v1:=by have:=jR ((d*4294967296+x)/v1) 1 v1;rw[this,iB _ v1];omega
  generalize(d*4294967296+x)/v1=q at*;have m:(q+1)*(v1*4294967296+v2)=(q+1)*v1*4294967296+(q+1)*v2:=by rw[mB,kA]
  have n:0<=(q+1)*v2:=og O O;omega
def Vj{u2 u1 u0 v1 v2 d r:Int}(h:EP u2 u1 u0 v1 v2)(a:EG u2 u1 u0 v1 v2 d r x)(Y:x=1\/d*v2<=r*4294967296+u0):d=kg u2 u1 u0 v1 v2:=by
 have b:=h;unfold EP at b;unfold EG at a;simp only[cg]at b a;obtain⟨e,f,g3,i,j,k⟩:=a;have c:0<v1*4294967296+v2:=O;have k1:d*v2<=(r+x*4294967296)*4294967296+u0:=by
  rcases Y with rfl|h1
  ·have:d*v2<=4294967295*4294967295:=Int.mul_le_mul O O O O;omega
  ·omega
 have k2:=auF (B:=4294967296) (d:=d) (v1:=v1) (v2:=v2) (r:=r+x*4294967296) (u2:=u2) (u1:=u1) (u0:=u0) O k1;have l:d<=(u2*18446744073709551616+u1*4294967296+u0)/(v1*4294967296+v2):=by rw[HJ c];omega
 unfold kg at*;omega
def akC{u2 u1 u0 v1 v2 d r:Int}(h:EP u2 u1 u0 v1 v2)(Z:EG u2 u1 u0 v1 v2 d r 0)(Y:r*4294967296+u0<d*v2):EG u2 u1 u0 v1 v2 (d-1) ((r+v1+0)%4294967296) ((r+v1+0)/4294967296)/\0<d:=by
 have c:=h;unfold EP at c;have a:=Z;unfold EG at a⊢;simp only[cg]at c a⊢;obtain⟨l,k,g3,j,i,f⟩:=a;have b:0<d:=by
  refine Int.lt_of_not_ge λb=>?_
  have:d=0:=O;subst this;omega
 refine⟨⟨O,O,O,O,?_,(Ph h).2 (.inr ?_)⟩,b⟩
 ·rw[rJ];omega
 ·have:=auE (B:=4294967296) (d:=d) (v1:=v1) (v2:=v2) (r:=r) (u2:=u2) (u1:=u1) (u0:=u0) O Y;have e:d-1+1=d:=O;rw[e];omega
def FC(h:EP d x p r c):bY (kg d x p r c):=by unfold EP at h;unfold kg;simp only[cg]at h⊢;have:0<=(d*18446744073709551616+x*4294967296+p)/(r*4294967296+c):=z8 O O;omega
def adO(h:Dg Z)(a:Z.length=n+2):nV Z=((Z[n+1]?).getD 0*4294967296+(Z[n]?).getD 0)*pB n+nV (Z.take n):=by
 rw[tH Z n,ez,ju O];have e:Z.drop n=[(Z[n]?).getD 0,(Z[n+1]?).getD 0]:=by
  apply ug;intro i;rw[m_]
  match i with
  |0=>show Z[n]?=some ((Z[n]?).getD 0);rw[ca O];rfl
  |1=>rw[ca O];rfl
  |i+2=>rw[gp O];rfl
 rw[e];simp only[nV];rw[iB (pB n)];simp only[jR,z_,yi];rw[iB 4294967296];omega
def azc(h:Dg Z)(b:Z.length=n+3):nV Z=((Z[n+2]?).getD 0*18446744073709551616+(Z[n+1]?).getD 0*4294967296+(Z[n]?).getD 0)*pB n+nV (Z.take n):=by
 rw[tH Z n,ez,ju O];have e:Z.drop n=[(Z[n]?).getD 0,(Z[n+1]?).getD 0,(Z[n+2]?).getD 0]:=by
  apply ug;intro i;rw[m_]
  match i with
  |0=>show Z[n]?=some ((Z[n]?).getD 0);rw[ca O];rfl
  |1=>rw[ca O];rfl
  |2=>rw[ca O];rfl
  |i+3=>rw[gp O];rfl
 rw[e];simp only[nV];rw[iB (pB n)];have a:(Z[n]?).getD 0+4294967296*((Z[n+1]?).getD 0+4294967296*((Z[n+2]?).getD 0+4294967296*0))=(Z[n+2]?).getD 0*18446744073709551616+(Z[n+1]?).getD 0*4294967296+(Z[n]?).getD 0:=O;rw[a];omega
def auD{p:ao}(c:Dg p)(d:Dg v)(u:p.length=n+3)(i:v.length=n+2)(j:nV p<4294967296*nV v)(y:0<(v[n+1]?).getD 0):
 EP ((p[n+2]?).getD 0) ((p[n+1]?).getD 0) ((p[n]?).getD 0) ((v[n+1]?).getD 0) ((v[n]?).getD 0)/\
 nV p/nV v<=kg ((p[n+2]?).getD 0) ((p[n+1]?).getD 0) ((p[n]?).getD 0) ((v[n+1]?).getD 0) ((v[n]?).getD 0)/\
 kg ((p[n+2]?).getD 0) ((p[n+1]?).getD 0) ((p[n]?).getD 0) ((v[n+1]?).getD 0) ((v[n]?).getD 0)<=nV p/nV v+1:=by
 have s:=azc c u;have ev:=adO d i;have d2:=qQ c (n+2);have d1:=qQ c (n+1);have d0:=qQ c n;have z:=qQ d (n+1);have A:=qQ d n;have k:=gS (c.take n);have e:=gS (d.take n);rw[ez,ju O]at k e;rw[cg]at*;generalize(p[n+2]?).getD 0=a at*;generalize(p[n+1]?).getD 0=b at*;generalize(p[n]?).getD 0=u0 at*;generalize(v[n+1]?).getD 0=v1 at*;generalize(v[n]?).getD 0=v2 at*;have f:=kn n;have h:0<nV v:=by rw[ev];have:0<(v1*4294967296+v2)*pB n:=Int.mul_pos O f;omega
 have C:a<=v1:=by
  refine Aa.1 λw=>?_
  have k1:(a*18446744073709551616+b*4294967296+u0)*pB n<(4294967296*(v1*4294967296+v2)+4294967296)*pB n:=by
   have:(4294967296*(v1*4294967296+v2)+4294967296)*pB n=4294967296*((v1*4294967296+v2)*pB n)+4294967296*pB n:=by rw[jR,kA]
   omega
  have k2:=Int.lt_of_mul_lt_mul_right k1 (ud f);omega
 have t:EP a b u0 v1 v2:=by unfold EP;simp only[cg];omega
 refine⟨t,?_,?_⟩
 ·have l:0<=nV p/nV v:=z8 (gf c) (ud h);have m:nV p/nV v*nV v<=nV p:=Int.ediv_mul_le _ (qy h);have o:=auC (T:=a*18446744073709551616+b*4294967296+u0) (W:=v1*4294967296+v2) (P:=pB n) s ev k.2 e.1 f l m;have D:nV p/nV v<4294967296:=by rw[BZ h];exact j
  unfold kg;have:nV p/nV v<=(a*18446744073709551616+b*4294967296+u0)/(v1*4294967296+v2):=by rw[HJ O];exact o
  omega
 ·have q:=FC t;rw[cg]at q;have x:kg a b u0 v1 v2*(v1*4294967296+v2)<=a*18446744073709551616+b*4294967296+u0:=by rw[<-HJ O];unfold kg;omega
  have r:=auB (B:=4294967296) (T:=a*18446744073709551616+b*4294967296+u0) (W:=v1*4294967296+v2) (P:=pB n) s ev k.1 e.1 e.2 f q.1 q.2 O x;have:=(HJ h).2 r;omega
def L8{l:ao}(h:l[i]?=some x):i<l.length:=by
 refine yv λa=>?_
 rw[gp a]at h;cases h
@[irreducible] def rX(Z:ao)(o n:Nat)(v:ao)(d:Int):=n=v.length+1/\o+n<=Z.length/\Z.length<=1099511627776/\Dg Z/\Dg v/\bY d
@[irreducible] def sZ(Z:ao)(o n:Nat)(v:ao)(d:Int)(i:Nat)(c b:Int)(z:ao):=i<=v.length/\u3 z Z o n/\Dg z/\bY c/\0<=b/\b<=1/\nV (dL z o n)=nV (dL Z o n)-d*nV (v.take i)+(c+b)*pB i
def qq(Z:ao)(o n:Nat)(v:ao)(d:Int):List Int:=n9 Z o n (kE ((nV (dL Z o n)-d*nV v)%pB n).toNat n)
def sH(Z:ao)(o n:Nat)(v:ao)(d:Int):Bool:=decide (nV (dL Z o n)<d*nV v)
def amw{v:ao}(h:rX Z o n v d):sZ Z o n v d 0 0 0 Z:=by unfold rX at h;unfold sZ;refine⟨dD _,.refl ..,h.2.2.2.1,C7,ae,ae,?_⟩;rw[iC,nV,z_];omega
def amy{v:ao}{y:Int}(h:rX Z o n v d)(g:sZ Z o n v d i c x z)(l:z[o+i]?=some r)(e:v[i]?=some y):
 sZ Z o n v d (i+1) ((y*d+c)/4294967296) (if r<(y*d+c)%4294967296+x then 1 else 0) (z.set (o+i) ((r-(y*d+c)%4294967296-x)%4294967296)):=by
 unfold rX at h;unfold sZ at g⊢;obtain⟨N,Q,R,T,s,p⟩:=h;obtain⟨g1,t,g3,U,V,X,w⟩:=g;have a:=L8 e;have f:bY y:=s.at e;have C:bY r:=g3.at l;simp only[cg]at*;have hm:0<=y*d/\y*d<=18446744065119617025:=by refine⟨og f.1 p.1,?_⟩;exact Int.le_trans (wH (show y<=4294967295 by omega) p.1) O
 refine⟨O,LR O t,g3.set _ (cg.2 O),O,by split<;>omega,by split<;>omega,?_⟩;rw[Lq O,so (y:=r) (by rw[Bi O];exact l),w,wm e,ko,mB];have D:d*(y*pB i)=y*d*pB i:=by rw[<-kA,iB d y]
 rw[D];generalize pB i=P at*;generalize y*d=m at*;have e2:m+c=(m+c)%4294967296+4294967296*((m+c)/4294967296):=O;have E:(r-(m+c)%4294967296-x)%4294967296=r-(m+c)%4294967296-x+4294967296*(if r<(m+c)%4294967296+x then 1 else 0):=by split<;>omega
 rw[E];generalize(if r<(m+c)%4294967296+x then(1:Int)else 0)=k at*;generalize(m+c)%4294967296=G at*;generalize(m+c)/4294967296=a at*;have H:m=G+4294967296*a-c:=O;rw[H];simp only[jR,rJ];have K:a*(4294967296*P)=4294967296*a*P:=by rw[ue,kA]
 have M:k*(4294967296*P)=4294967296*k*P:=by rw[ue,kA]
 rw[K,M];generalize 4294967296*a*P=A;generalize 4294967296*k*P=B;omega
def KK{q m:Int}(e:0<m)(b:0<=d+q*m)(c:d+q*m<m):d%m=d+q*m:=by rw[<-Int.add_mul_emod_self_right d q m,HI b c]
def amx{o n:Nat}{v:ao}(h:rX Z o n v d)(g:sZ Z o n v d v.length c x z)(l:z[o+v.length]?=some r):
 z.set (o+v.length) ((r-c-x)%4294967296)=qq Z o n v d/\(decide (r<c+x))=sH Z o n v d:=by
 unfold rX at h;unfold sZ at g;obtain⟨t,i,M,w,B,C⟩:=h;obtain⟨N,D,g3,P,Q,R,m⟩:=g;have E:bY r:=g3.at l;simp only[cg]at*;rw[i_]at m;have Y:u3 (z.set (o+v.length) ((r-c-x)%4294967296)) Z o n:=LR O D;have p:Dg (z.set (o+v.length) ((r-c-x)%4294967296)):=g3.set _ (cg.2 O);have f:nV (dL (z.set (o+v.length) ((r-c-x)%4294967296)) o n)=nV (dL Z o n)-d*nV v+(if r<c+x then 1 else 0)*pB n:=by
  rw[Lq O,so (y:=r) (by rw[Bi O];exact l),m,t,ko];have G:(r-c-x)%4294967296=r-c-x+4294967296*(if r<c+x then 1 else 0):=by split<;>omega
  rw[G];generalize(if r<c+x then(1:Int)else 0)=s at*;have H:s*(4294967296*pB v.length)=4294967296*s*pB v.length:=by rw[ue,kA]
  rw[H];simp only[jR,rJ];omega
 have e:=gS (Bj (o:=o) (n:=n) p);have k:=gS (Bj (o:=o) (n:=n) w);rw[Bk (by rw[Y.1];exact i)]at e;rw[Bk i]at k;have K:=kn n;have T:0<=d*nV v:=og C.1 (gf B);refine⟨?_,?_⟩
 ·refine ahB Y p i ?_;rw[KK K (q:=if r<c+x then 1 else 0) (by rw[<-f];exact e.1) (by rw[<-f];exact e.2)];exact f
 ·unfold sH;rw[f]at e;split at e
  ·rename_i a;rw[qP a,qP];omega
  ·rename_i a;rw[s_ a,s_];omega
@[irreducible] def rF(Z:ao)(o n:Nat)(v:ao):=n=v.length+1/\o+n<=Z.length/\Z.length<=1099511627776/\Dg Z/\Dg v
@[irreducible] def sM(Z:ao)(o n:Nat)(v:ao)(i:Nat)(c:Int)(z:ao):=i<=v.length/\u3 z Z o n/\Dg z/\0<=c/\c<=1/\nV (dL z o n)+c*pB i=nV (dL Z o n)+nV (v.take i)
def xa(Z:ao)(o n:Nat)(v:ao):List Int:=n9 Z o n (kE ((nV (dL Z o n)+nV v)%pB n).toNat n)
def ajL{v:ao}(h:rF Z o n v):sM Z o n v 0 0 Z:=by unfold rF at h;unfold sM;refine⟨dD _,.refl ..,h.2.2.2.1,ae,ae,?_⟩;rw[iC,nV];omega
def ajN{v:ao}{y:Int}(h:rF Z o n v)(g:sM Z o n v i c z)(d:z[o+i]?=some r)(a:v[i]?=some y):
 sM Z o n v (i+1) ((r+y+c)/4294967296) (z.set (o+i) ((r+y+c)%4294967296)):=by
 unfold rF at h;unfold sM at g⊢;obtain⟨t,w,x,B,e⟩:=h;obtain⟨C,f,g3,D,E,G⟩:=g;have b:=L8 a;have k:bY y:=e.at a;have l:bY r:=g3.at d;simp only[cg]at*;refine⟨O,LR O f,g3.set _ (cg.2 O),O,O,?_⟩;rw[Lq O,so (y:=r) (by rw[Bi O];exact d),wm a,ko];generalize pB i=P at*;have m:r+y+c=(r+y+c)%4294967296+4294967296*((r+y+c)/4294967296):=O;generalize(r+y+c)%4294967296=H at*;generalize(r+y+c)/4294967296=b at*;have p:=aY (· *P) m;simp only[jR,rJ]at p⊢;have s:b*(4294967296*P)=4294967296*b*P:=by rw[ue,kA]
 rw[s];omega
def ajM{o n:Nat}{v:ao}(h:rF Z o n v)(g:sM Z o n v v.length c z)(d:z[o+v.length]?=some r):
 z.set (o+v.length) ((r+c)%4294967296)=xa Z o n v:=by
 unfold rF at h;unfold sM at g;obtain⟨e,f,w,x,B⟩:=h;obtain⟨C,l,g3,D,E,m⟩:=g;have p:bY r:=g3.at d;simp only[cg]at*;rw[i_]at m;have Y:u3 (z.set (o+v.length) ((r+c)%4294967296)) Z o n:=LR O l;have i:Dg (z.set (o+v.length) ((r+c)%4294967296)):=g3.set _ (cg.2 O);have a:nV (dL (z.set (o+v.length) ((r+c)%4294967296)) o n)=nV (dL Z o n)+nV v+(-((r+c)/4294967296))*pB n:=by
  rw[Lq O,so (y:=r) (by rw[Bi O];exact d),e,ko,<-e];have s:(r+c)%4294967296=r+c-4294967296*((r+c)/4294967296):=O;rw[s];generalize(r+c)/4294967296=k at*;have t:-k*(4294967296*pB v.length)=-(4294967296*k*pB v.length):=by rw[Int.neg_mul,ue,kA]
  rw[t];simp only[jR,rJ];omega
 have b:=gS (Bj (o:=o) (n:=n) i);rw[Bk (by rw[Y.1];exact f)]at b;refine ahB Y i f ?_;rw[KK (kn n) (q:=-((r+c)/4294967296)) (by rw[<-a];exact b.1) (by rw[<-a];exact b.2)];exact a
@[irreducible] def sP(A:Int)(L:Nat)(v:ao):Prop:=∃n,v.length=n+2/\Dg v/\0<(v[n+1]?).getD 0/\L<=1099511627776/\v.length<=L/\0<=A/\A<pB L/\A<pB (L-v.length)*nV v
@[irreducible] def lZ(A:Int)(L:Nat)(v:ao)(Z:Nat)(u q:ao):=Z<=L-v.length/\u.length=L/\q.length=L-v.length/\Dg u/\Dg q/\(∀k,k<Z->∀y,q[k]?=some y->y=0)/\A=nV q*nV v+nV u/\nV (u.drop Z)<nV v
def HD{A:Int}{L:Nat}{v:ao}(h:sP A L v):0<nV v:=by unfold sP at h;obtain⟨n,c,a,e,f,i⟩:=h;rw[adO a c];have d:=qQ a n;have b:=(gS (a.take n)).1;rw[cg]at d;have:0<((v[n+1]?).getD 0*4294967296+(v[n]?).getD 0)*pB n:=Int.mul_pos O (kn n);omega
def akk{A:Int}{L:Nat}{v:ao}(h:sP A L v):lZ A L v (L-v.length) (kE A.toNat L) (List.replicate (L-v.length) 0):=by
 have d:=HD h;unfold sP at h;unfold lZ;obtain⟨n,f,i,l,m,o,p,c,r⟩:=h;have e:((A.toNat:Nat):Int)=A:=O;have a:(kE A.toNat L).length=L:=CN (by rw[e];exact c);refine⟨bu _,a,na,CL _ _,Dg.zU _,λk _ y b=>?_,by rw[vZ,CO,e];omega,?_⟩
 ·rw[wO]at b;split at b<;>simp_all
 ·have Y:=tH (kE A.toNat L) (L-v.length);rw[CO,e,ez,a,ju O]at Y;have s:=(gS ((CL A.toNat L).take (L-v.length))).1;have:pB (L-v.length)*nV ((kE A.toNat L).drop (L-v.length))<pB (L-v.length)*nV v:=O;exact Int.lt_of_mul_lt_mul_left this (ud (kn _))
section
variable {A:Int}{L:Nat}{v:ao}{j:Nat}{u q:ao}(h:sP A L v)(g:lZ A L v (j+1) u q)
include h g
def zZ:j<L-v.length/\u.length=L/\q.length=L-v.length/\j+(v.length+1)<=u.length/\Dg u/\Dg q/\Dg v/\L<=1099511627776/\2<=v.length:=by unfold sP at h;unfold lZ at g;obtain⟨n,o,b,m,a,l,k,i,f⟩:=h;obtain⟨t,e,g3,d,c,s,r,p⟩:=g;refine⟨O,e,g3,O,d,c,b,a,O⟩
def Vc:nV (dL u j (v.length+1))=nV (u.drop j)/\nV (u.drop j)<4294967296*nV v/\nV (u.drop (j+(v.length+1)))=0:=by
 have c:=zZ h g;unfold lZ at g;obtain⟨r,p,g3,a,o,n,m,l⟩:=g;have e:u.drop j=(u[j]?).getD 0::u.drop (j+1):=by rw[mZ O,ca O];rfl
 have f:=qQ a j;rw[cg]at f;have i:nV (u.drop j)<4294967296*nV v:=by rw[e,nV];omega
 have Y:=tH (u.drop j) (v.length+1);rw[ez,qC,ju O,List.drop_drop]at Y;have w:=gf ((a.drop j).take (v.length+1));have k:=gf (a.drop (j+(v.length+1)));have t:=(gS c.2.2.2.2.2.2.1).2;have b:nV (u.drop (j+(v.length+1)))=0:=by refine Int.le_antisymm (Aa.1 λd=>?_) k;have:pB (v.length+1)*1<=pB (v.length+1)*nV (u.drop (j+(v.length+1))):=qx O (ud (kn _));have s:=ko v.length;omega
 rw[b]at Y;exact⟨by unfold dL;omega,i,b⟩
def DVe{n:Nat}(k:v.length=n+2):EP ((u[j+(n+2)]?).getD 0) ((u[j+(n+1)]?).getD 0) ((u[j+n]?).getD 0) ((v[n+1]?).getD 0) ((v[n]?).getD 0)/\
 nV (dL u j (v.length+1))/nV v<=kg ((u[j+(n+2)]?).getD 0) ((u[j+(n+1)]?).getD 0) ((u[j+n]?).getD 0) ((v[n+1]?).getD 0) ((v[n]?).getD 0)/\
 kg ((u[j+(n+2)]?).getD 0) ((u[j+(n+1)]?).getD 0) ((u[j+n]?).getD 0) ((v[n+1]?).getD 0) ((v[n]?).getD 0)<=nV (dL u j (v.length+1))/nV v+1:=by
 have c:=zZ h g;have b:=Vc h g;unfold sP at h;obtain⟨a,f,e,d,s,r,o,m,l⟩:=h;have i:a=n:=O;subst i;have:=auD (p:=dL u j (v.length+1)) (v:=v) (n:=a) (Bj c.2.2.2.2.1) e (by rw[Bk c.2.2.2.1];omega) f (by rw[b.1];exact b.2.1) d;rw[Bi O,Bi O,Bi O]at this;exact this
def Vb(C:bY d)(e:d=nV (dL u j (v.length+1))/nV v):lZ A L v j (n9 u j (v.length+1) (kE (nV (dL u j (v.length+1))-d*nV v).toNat (v.length+1))) (q.set j d):=by
 have p:=HD h;have c:=zZ h g;have r:=Vc h g;unfold lZ at g⊢;obtain⟨U,D,g3,s,E,t,G,V⟩:=g;have H:=gS (Bj (o:=j) (n:=v.length+1) s);rw[Bk c.2.2.2.1]at H;have em:=rI (nV (dL u j (v.length+1))) (qy p);have K:=sR (nV (dL u j (v.length+1))) p;have f:=Ea (nV (dL u j (v.length+1))) (nV v);rw[<-e,iB]at f;have M:0<=nV (dL u j (v.length+1))-d*nV v:=O;have i:nV (dL u j (v.length+1))-d*nV v<nV v:=O;have N:=(gS c.2.2.2.2.2.2.1).2;have P:=ko v.length;have Q:=kn v.length;have x:(((nV (dL u j (v.length+1))-d*nV v).toNat:Nat):Int)=nV (dL u j (v.length+1))-d*nV v:=O;have z:(kE (nV (dL u j (v.length+1))-d*nV v).toNat (v.length+1)).length=v.length+1:=CN (by rw[x];omega);have Y:=ahD (Z:=u) (o:=j) c.2.2.2.1 z;have l:=ahC (Z:=u) (o:=j) c.2.2.2.1 z;have m:Dg (n9 u j (v.length+1) (kE (nV (dL u j (v.length+1))-d*nV v).toNat (v.length+1))):=ahA s (CL _ _);generalize R:n9 u j (v.length+1) (kE (nV (dL u j (v.length+1))-d*nV v).toNat (v.length+1))=w at*;have a:nV (w.drop j)=nV (dL u j (v.length+1))-d*nV v:=by have k:=tH (w.drop j) (v.length+1);rw[List.drop_drop,Y.2.2,r.2.2,z_,yi]at k;rw[k];show nV (dL w j (v.length+1))=_;rw[l,CO,x]
 refine⟨O,by rw[Y.1];exact D,by rw[oV];exact g3,m,E.set _ C,λk X y B=>?_,?_,by rw[a];exact i⟩
 ·rw[Ah O]at B;exact t k O y B
 ·have T:q[j]?=some 0:=by have b:j<q.length:=O;have:=t j O q[j] (ca b);rw[ca b,this]
  have k1:=tH w j;have k2:=tH u j;rw[ez,ju (by rw[Y.1];omega),Y.2.1,a]at k1;rw[ez,ju O,<-r.1]at k2;rw[so T,G,k1,k2];simp only[jR,Eb,HL];have e5:pB j*(d*nV v)=d*pB j*nV v:=by rw[ue,kA]
  omega
end
def akl{A:Int}{L:Nat}{v u q:ao}(h:sP A L v)(g:lZ A L v 0 u q):nV q=A/nV v/\nV u=A%nV v:=by
 have c:=HD h;unfold lZ at g;obtain⟨f,i,g3,d,k,l,e,a⟩:=g;rw[rK]at a;have b:=gf d;have:A/nV v=nV q/\A%nV v=nV u:=by rw[Int.ediv_emod_unique c];refine⟨by rw[e,iB];omega,b,a⟩
 exact⟨this.1.symm,this.2.symm⟩
@[irreducible] def mX(a:ao)(d:Int):=Dg a/\bY d/\0<d/\a.length<=1099511627776
@[irreducible] def qu(a:ao)(d:Int)(Z:Nat)(r:Int)(z:ao):=Z<=a.length/\z.length=a.length/\Dg z/\0<=r/\r<d/\(∀k,k<Z->∀y,z[k]?=some y->y=0)/\nV a=nV z*d+r*pB Z+nV (a.take Z)
def akg(h:mX Z d):qu Z d Z.length 0 (List.replicate Z.length 0):=by unfold mX at h;unfold qu;refine⟨bu _,na,Dg.zU _,ae,h.2.2.1,λk _ y b=>?_,by rw[vZ,i_];omega⟩;rw[wO]at b;split at b<;>simp_all
def Z8(c:0<=r)(e:r<d)(a:bY x)(b:bY d):0<=(r*4294967296+x)/d/\(r*4294967296+x)/d<4294967296:=by rw[cg]at a b;refine⟨z8 O O,?_⟩;rw[BZ O];omega
def aki(h:mX Z d)(b:qu Z d (i+1) r z)(f:Z[i]?=some x):
 qu Z d i ((r*4294967296+x)%d) (z.set i ((r*4294967296+x)/d)):=by
 unfold mX at h;unfold qu at b⊢;obtain⟨n,o,p,E⟩:=h;obtain⟨G,t,g3,u,v,j,l⟩:=b;have e:=n.at f;have w:=Z8 u v e o;have A:z[i]?=some 0:=by have c:i<z.length:=O;have:=j i O z[i] (ca c);rw[ca c,this]
 refine⟨O,by rw[oV];exact t,g3.set _ (cg.2 w),rI _ O,sR _ p,λk H y m=>?_,?_⟩
 ·rw[Ah O]at m;exact j k O y m
 ·rw[wm f,ko]at l;rw[so A,l];have K:=Ea (r*4294967296+x) d;generalize(r*4294967296+x)/d=q at*;generalize(r*4294967296+x)%d=s at*;have B:s=r*4294967296+x-q*d:=by rw[iB q d];omega
  rw[B];simp only[jR,rJ,HL];have C:r*(4294967296*pB i)=r*4294967296*pB i:=by rw[kA]
  have D:q*pB i*d=q*d*pB i:=by rw[B1]
  rw[C,D];omega
def akh(h:mX Z d)(b:qu Z d 0 r z):nV z=nV Z/d/\r=nV Z%d/\Dg z:=by
 unfold mX at h;unfold qu at b;obtain⟨j,k,e,l⟩:=h;obtain⟨m,n,g3,f,i,o,c⟩:=b;rw[iC,nV,Dl]at c;have:nV Z/d=nV z/\nV Z%d=r:=by rw[Int.ediv_emod_unique e];exact⟨by rw[c,iB];omega,f,i⟩
 exact⟨this.1.symm,this.2.symm,g3⟩
@[irreducible] def Pw(p:Int):Prop:=∃a,0<p/\0<a/\p*a=4294967296/\2<=a
@[irreducible] def uc(a:ao)(p:Int):=Dg a/\Pw p/\a.length<=1099511627776
@[irreducible] def qw(a:ao)(p:Int)(i:Nat)(z:ao):=i<=a.length/\z.length=a.length+1/\Dg z/\nV z=nV (a.take i)*p/\(∀k,i<k->∀y,z[k]?=some y->y=0)/\(∀y,z[i]?=some y->y<p)
def akX(h:uc Z p):qw Z p 0 (List.replicate (Z.length+1) 0):=by
 unfold uc Pw at h;unfold qw;obtain⟨c,⟨d,e,f,i,j⟩,l⟩:=h;refine⟨dD _,na,Dg.zU _,by rw[vZ,iC,nV,Ee],λk _ y b=>?_,λy b=>?_⟩
 ·rw[wO]at b;split at b<;>simp_all
 ·rw[wO]at b;split at b
  ·injection b with b;omega
  ·cases b
def afv(h:Pw p)(d:bY x):∃lo b,(x*p)%4294967296=lo/\(x*p)/4294967296=b/\0<=b/\b<p/\0<=lo/\lo+p<=4294967296/\x*p=lo+4294967296*b/\p∣lo:=by
 unfold Pw at h;obtain⟨a,e,f,c,m⟩:=h;rw[cg]at d;refine⟨p*(x%a),x/a,?_,?_,z8 d.1 O,?_,?_,?_,?_,Int.dvd_mul_right ..⟩
 ·rw[<-c,iB x p,VK _ _ e]
 ·rw[<-c,iB x p,Int.mul_ediv_mul_of_pos _ _ e]
 ·rw[BZ f,c];exact d.2
 ·exact og O (rI _ O)
 ·have n:=sR x f;have i:p*(x%a)<=p*(a-1):=qx O O;rw[Eb]at i;omega
 ·have j:=Ea x a;have k:x*p=(a*(x/a)+x%a)*p:=by rw[j]
  rw[k,<-c,jR];have l:a*(x/a)*p=p*a*(x/a):=by rw[B1,iB a p]
  rw[l,iB (x%a) p];omega
def Vt(b:qw Z p i z)(c:z[i]?=some d):bY d/\d<p:=by unfold qw at b;exact⟨b.2.2.1.at c,b.2.2.2.2.2 d c⟩
def akZ(h:uc Z p)(b:qw Z p i z)(f:Z[i]?=some x)(n:z[i]?=some d):
 qw Z p (i+1) ((z.set i (d+(x*p)%4294967296)).set (i+1) ((x*p)/4294967296)):=by
 have⟨j,r⟩:=Vt b n;unfold uc at h;unfold qw at b⊢;obtain⟨s,u,H⟩:=h;obtain⟨K,v,g3,w,o,L⟩:=b;have l:=s.at f;have M:=L8 f;obtain⟨N,q,A,B,P,Q,R,T,C,U⟩:=afv u l;have D:p<=4294967296:=O;rw[A,B];rw[cg]at j;have E:z[i+1]?=some 0:=by have e:i+1<z.length:=O;have:=o (i+1) O z[i+1] (ca e);rw[ca e,this]
 refine⟨O,by rw[oV,oV];exact v,(g3.set _ (cg.2 O)).set _ (cg.2 O),?_,λk V y c=>?_,λy c=>?_⟩
 ·rw[so (y:=0) (by rw[Ah O];exact E),so n,w,wm f,ko,jR];have G:x*pB i*p=x*p*pB i:=B1 ..;rw[G,C];simp only[jR,rJ,HL];have m:q*(4294967296*pB i)=4294967296*q*pB i:=by rw[ue,kA]
  rw[m];omega
 ·rw[Ah O,Ah O]at c;exact o k O y c
 ·rw[Nj (by rw[oV];omega)]at c;injection c with c;omega
def akY(b:qw Z p Z.length z):nV z=nV Z*p/\Dg z:=by unfold qw at b;rw[i_]at b;exact⟨b.2.2.2.1,b.2.2.1⟩
def RO{t lo:Int}{s:Nat}(a:0<=t)(e:t<((2^s:Nat):Int))(b:0<=lo)(d:(((2^s:Nat):Int))∣lo):((t.toNat ||| lo.toNat:Nat):Int)=t+lo:=by obtain⟨t,rfl⟩:=wG a;obtain⟨lo,rfl⟩:=wG b;have c:2^s∣lo:=Int.ofNat_dvd.1 d;obtain⟨m,rfl⟩:=c;rw[bI,bI,Nat.or_comm,<-Nat.two_pow_add_eq_or_of_lt O];omega
@[irreducible] def rG(a:ao)(p:Int)(i:Nat)(z:ao):=i<=a.length/\z.length=a.length/\Dg z/\(∀k,i<=k->∀y,z[k]?=some y->y=0)/\nV z*p+(a[0]?).getD 0%p=nV (a.take i)+pB i*((a[i]?).getD 0%p)
def ak2(h:uc Z p):rG Z p 0 (List.replicate Z.length 0):=by unfold rG;refine⟨dD _,na,Dg.zU _,λk _ y b=>?_,by rw[vZ,iC,nV,Ee,Dl,Int.one_mul]⟩;rw[wO]at b;split at b<;>simp_all
def Vu{a:ao}{y:Int}(h:uc a p)(b:rG a p i z)(f:a[i]?=some x)(o:y=(a[i+1]?).getD 0):
 rG a p (i+1) (z.set i ((x+4294967296*y)/p%4294967296)):=by
 unfold uc Pw at h;unfold rG at b⊢;obtain⟨q,⟨p',j,t,d,N⟩,P⟩:=h;obtain⟨Q,u,g3,r,v⟩:=b;have c:=q.at f;have l:bY y:=by rw[o];exact qQ q _
 have R:=L8 f;have A:z[i]?=some 0:=by have e:i<z.length:=O;have:=r i O z[i] (ca e);rw[ca e,this]
 rw[cg]at c l;refine⟨O,by rw[oV];exact u,g3.set _ (cg.2 O),λk T w s=>?_,?_⟩
 ·rw[Ah O]at s;exact r k O w s
 ·rw[so A,<-o,wm f,ko];rw[f,ie]at v;have B:(x+4294967296*y)/p=x/p+p'*y:=by rw[<-d,kA,Int.add_mul_ediv_left _ _ (qy j)]
  have e2:x/p<p':=by rw[BZ j,iB,d];exact c.2
  have C:0<=x/p:=z8 c.1 O;have D:p'*y%4294967296=p'*(y%p):=by rw[<-d,iB p p',VK _ _ t]
  have E:=rI y (qy j);have U:=sR y j;have V:p'*(y%p)<=p'*(p-1):=qx O O;have X:0<=p'*(y%p):=og O E;have Z:p'*(p-1)=4294967296-p':=by rw[Eb,iB p' p,d,Int.mul_one]
  have G:(x/p+p'*y)%4294967296=x/p+p'*(y%p):=by rw[Int.add_emod,D,HI (a:=x/p) C O,HI O O]
  rw[B,G];have H:=Ea x p;have m:(x/p+p'*(y%p)-0)*pB i*p=(p*(x/p))*pB i+4294967296*(y%p)*pB i:=by
   have K:(x/p+p'*(y%p)-0)*pB i*p=(x/p+p'*(y%p))*p*pB i:=by rw[HL,B1]
   rw[K,jR,jR,iB (x/p) p];congr 2;rw[<-d,B1,iB p' p]
  rw[jR,m];have n:p*(x/p)=x-x%p:=O;rw[n];simp only[rJ];have L:4294967296*pB i*(y%p)=4294967296*(y%p)*pB i:=B1 ..;have M:pB i*(x%p)=x%p*pB i:=iB ..;omega
def ak3(h:uc Z p)(b:rG Z p Z.length z):nV z=nV Z/p/\Dg z:=by
 unfold uc Pw at h;unfold rG at b;obtain⟨i,⟨j,c,k,l,m⟩,n⟩:=h;obtain⟨o,q,g3,r,d⟩:=b;rw[i_,gp (bu _),Ew,Int.zero_emod,z_]at d;have e:=rI ((Z[0]?).getD 0) (qy c);have f:=sR ((Z[0]?).getD 0) c;have:nV Z/p=nV z/\nV Z%p=(Z[0]?).getD 0%p:=by rw[Int.ediv_emod_unique c];exact⟨by rw[iB];omega,e,f⟩
 exact⟨this.1.symm,g3⟩
