/- A part of the proof of VirtualLinear: He to Kx5. No condition. -/
import Derived.Test.YtfbmhjooliccnaaGreatDoorYm
import Derived.Test.YtfbmhjooliccnaaGreatDoorYo
set_option linter.all false
set_option maxRecDepth 100000
set_option maxHeartbeats 60000000
noncomputable section
namespace Go.Proofs.YtfbmhjooliccnaaGreatDoor
open Go Go.Ab Go.Proofs.Tryz
variable {m c:F}{x i:Nat}{p:J}{l:List J}{n:Int}
@[irreducible] def zk(l:List J)(i:Nat):Int:=nX (l.take i)
def azn(l:List J):0=zk l 0:=by unfold zk;rw[gx];rfl
def azo(h:l[(i:Int).toNat]?=some p):max (zk l i) p.aK=zk l (i+1):=by rw[bt]at h;unfold zk;rw[fy,h,RE];have:=RG (l.take i);simp only[yH,nX];omega
def azq(h:decide ((i:Int)<((dY (fM m)).length:Int))=false):zk (dY (fM m)) i=GI m:=by simp only[bc]at h;rw[AM]at*;unfold zk GI;rw[eL O]
def aiu(h:SZ m):SZ (fM m):=by rw[AM];exact h
def aiv(h:SZ m):(dY (fM m)).length<=1000000:=dH (S7 _) (aiu h).le
theorem ay8(m:F)(h:SZ m):bh 41 [wE .aP m] (iT (GI m)):=by
 refine vF func41 rfl [Zp] [(4,⟨Nat,λx=>⟨[(3,iT (zk (dY (fM m)) x)),(4,lT .aF (dY (fM m))),(9,iT (dY (fM m)).length),(10,iT x)],[],0⟩,λx=>x<=(dY (fM m)).length/\True,λx=>(dY (fM m)).length-x⟩)] ?_;repeat' first|intro _|apply aQ|refine aS 0 (aQ ?_ λ(x:Nat) (a:x<=(dY (fM m)).length/\True)=>?_)|refine aS (x+1) ?_
 all_goals first|exact bj| (with_reducible first|rfl|exact aiu h|exact azn _|exact FL _)|(rename_i h;with_reducible first|exact azo h|exact azq h)|have:=aiv h;omega|have:=aiv h;simp only[be,bc]at*;omega
def ase:=dj (.el W.aP) ay8
def kd(m:F):Int:=if m.aJ<0\/4<m.aJ then 0 else m.aJ
def acz(h:decide (m.aJ<0)=true):0=kd m:=by unfold kd;rw[aM (.inl (an h))]
def acA(h:decide (4<m.aJ)=true):0=kd m:=by unfold kd;rw[aM (.inr (an h))]
def ayg(h:decide (m.aJ<0)=false)(a:decide (4<m.aJ)=false):m.aJ=kd m:=by simp only[bc]at h a;unfold kd;rw[Z O]
theorem ayh(m:F):bh 68 [wE .aP m] (iT (kd m)):=by
 refine vF func68 rfl [] [] ?_;repeat' first|intro _|apply aQ
 all_goals first|exact bj|(rename_i h;with_reducible first|exact acz h|exact acA h|exact acz (PY h)|exact acA (PY h))|rename_i h a;with_reducible exact ayg h a
def FZ:=dj (.el W.aP) λm (_:True)=>ayh m
def azN:(dT (.mk p.aK p.neg p.aC p.aL)).aK=(dT p).aK:=by rw[bz]
theorem azO(p:J)(a:b8 p):bh 134 [wE .aF p] (iT (dT p).aK):=by
 refine vF func134 rfl [y5] [] ?_;repeat' first|intro _|apply aQ
 all_goals first|exact bj| (with_reducible first|exact np5 a|exact azN)
def ash:=dj (.el W.aF) azO
@[irreducible] def xV(m:F)(i:Nat):Int:=n5 (m.aO.take i)
def aEl(m:F):0=xV m 0:=by unfold xV;rw[gx,n5]
theorem afr:∀(a b:List F),n5 (a++b)=max (n5 a) (n5 b)
 |[],b=>by have:=S2 b;rw[gf];simp only[n5];omega
 |p::a,b=>by rw[eB,n5,n5,afr a b];omega
def aEm(h:m.aO[(i:Int).toNat]?=some c):max (xV m i) (oI (fM c))=xV m (i+1):=by rw[AM];rw[bt]at h;unfold xV;rw[fy,h,afr];have:=S2 (m.aO.take i);simp only[yH,n5];omega
def QX(m:F):kd (fM m)=kd m:=by rw[AM]
def aEo(h:(kd (fM m)==2)=true):(dT (.mk m.aF.aK m.aF.neg m.aF.aC m.aF.aL)).aK=oI m:=by
 rw[QX]at h;have h:kd m=2:=an h;unfold kd at h;rw[bz,S1];split at h
 ·omega
 ·rw[aM h]
def aEp(h:(kd (fM m)==3)=true\/(kd (fM m)==4)=true)(a:decide ((i:Int)<m.aO.length)=false):xV m i=oI m:=by
 rw[QX]at h;have h:kd m=3\/kd m=4:=an h;simp only[bc]at a;unfold kd at h;rw[S1];split at h
 ·omega
 ·rw[Z O,aM h];unfold xV;rw[eL O]
def aEn(a:(kd (fM m)==2)=false)(b:(kd (fM m)==3)=false)(c:(kd (fM m)==4)=false):0=oI m:=by
 rw[QX]at a b c;have a:kd m≠2:=an a;have b:kd m≠3:=an b;have c:kd m≠4:=an c;unfold kd at a b c;rw[S1];split at a
 ·rw[Z O,Z O]
 ·rename_i d;rw[Z d]at b c;rw[Z a,Z O]
def KQ(m:F):=(kd (fM m)==3)=true\/(kd (fM m)==4)=true
def kq3(h:(kd (fM m)==3)=true):KQ m:=.inl h
def kq4(h:(kd (fM m)==4)=true):KQ m:=.inr h
def aEq(h:KQ m)(a:decide ((i:Int)<m.aO.length)=false):xV m i=oI m:=aEp h a
theorem aEk(m:F)(c:iz m):bh 85 [wE .aP m] (iT (oI m)):=by
 generalize g:SizeOf.sizeOf m=D
 induction D using Nat.strongRecOn generalizing m
 rename_i D d;subst g;refine vF func85 rfl [FZ,ash,ot Vw 85 (.el W.aP) (λ(q:F)=>q∈m.aO) (λ(q:F)=>iT (oI q)) (λq f=>d _ (F.lt f) q (c.bu q f) rfl)] [(8,⟨Nat,λx=>⟨[(3,iT (xV m x)),(17,lT .aP m.aO),(18,iT m.aO.length),(19,iT x)],[],0⟩,λx=>x<=m.aO.length/\KQ m,λx=>m.aO.length-x⟩)] ?_;repeat' first|intro _|apply aQ|refine aS 0 (aQ ?_ λ(x:Nat)(e:x<=m.aO.length/\KQ m)=>?_)|refine aS (x+1) ?_
 all_goals clear d
 all_goals first|exact bj| (with_reducible first|rfl|exact aeC c|exact aEl m|exact FL _|exact e.2)|rename_i a b;exact absurd (a.symm.trans b) ae|(rename_i h;with_reducible first|exact aEo h|exact F.at h|exact aEm h|exact aEq e.2 h)|rename_i k j i;with_reducible exact aEn k j i|(with_reducible first|exact kq3 ak|exact kq4 ak)|have:=c.len;omega|have:=c.len;(simp only[be,bc]at*;omega)
def ast:=dj (.el W.aP) aEk
@[irreducible] def oG(m:F)(i:Nat):List F:=(m.aO.take i).map dS
def fI(m:F):F.mk m.aJ m.bU m.aF m.aO=m:=by cases m;rfl
def nt1(h:(kd m==1)=true):dS m=.mk 0 0 zP []:=by have h:kd m=1:=an h;unfold kd at h;rw[LH,aM (by split at h<;>omega)]
def nt2(h:(kd m==2)=true):dS m=.mk 2 (uo (jN m.bU)) (dT m.aF) []:=by have h:kd m=2:=an h;unfold kd at h;rw[LH,Z (by split at h<;>omega),aM (by split at h<;>omega)]
def zw(h:(kd m==3)=true\/(kd m==4)=true):KG m:=by have h:kd m=3\/kd m=4:=an h;unfold kd at h;unfold KG;split at h<;>omega
def nt3(h:KG m):dS m=.mk (7-m.aJ) 0 zP (m.aO.map dS):=by unfold KG at h;rw[LH,Z O,Z O,aM h]
def nt0(a:(kd m==1)=false)(b:(kd m==2)=false)(c:(kd m==3)=false)(d:(kd m==4)=false):dS m=.mk 1 0 zP []:=by have a:kd m≠1:=an a;have b:kd m≠2:=an b;have c:kd m≠3:=an c;have d:kd m≠4:=an d;unfold kd at a b c d;rw[LH,Z (by split at a<;>omega),Z (by split at a<;>omega),Z (by split at a<;>omega)]
def aeE(m:F):oG m 0=[]:=by unfold oG;rfl
def aC2(m:F):(oG m 0).length=0:=by rw[aeE];rfl
def aeG(h:m.aO[(i:Int).toNat]?=some c):oG m i++[dS c]=oG m (i+1):=by rw[bt]at h;unfold oG;rw[fy,h,ia];rfl
def aC4(h:m.aO[(i:Int).toNat]?=some c):(oG m i).length+[dS c].length=(oG m (i+1)).length:=by rw[<-aeG h];simp
def aeF(m:F)(i:Nat):(oG m i).length<=m.aO.length:=by unfold oG;simp;omega
def aC3(h:decide ((i:Int)<m.aO.length)=false)(a:KG m):oG m i=(dS m).aO:=by simp only[bc]at h;rw[nt3 a];show oG m i=m.aO.map dS;unfold oG;rw[eL O]
def nb1(h:iz m)(i:Nat)(x:F):((oG m i).length+[x].length)*oR.dF<=140737488355328:=by have b:=aeF m i;have c:=h.len;have e:oR.dF=104:=rfl;have a:[x].length=1:=rfl;rw[e,a];omega
def nb2(h:iz m)(i:Nat)(x:F):(oG m i).length+[x].length<=140737488355328:=by have b:=aeF m i;have c:=h.len;have a:[x].length=1:=rfl;rw[a];omega
theorem aCQ(m:F)(h:iz m):bh 34 [wE .aP m] (eT .aP (dS m)):=by
 generalize e:SizeOf.sizeOf m=D
 induction D using Nat.strongRecOn generalizing m
 rename_i D b;subst e;refine vF func34 rfl [FZ,Zq,arH,y5,ot Vw 34 (.el W.aP) (λ(q:F)=>q∈m.aO) (λ(q:F)=>eT .aP (dS q)) (λq c=>b _ (F.lt c) q (h.bu q c) rfl)] [(10,⟨Nat,λx=>⟨[(1,br 0),(2,br 1),(3,br 2),(29,lT .aP m.aO),(30,iT m.aO.length),(31,iT x)],[(0,cj .aP m),(1,cj .aP zM),(2,.cells [.d (.sc (.int .i64 (7-m.aJ))),cG 0,cG 0,iB,fL,fL,.aX 3 W.aP (oG m x).length]),(3,.aW (U:=Un) W.aP (oG m x))],4⟩,λx=>(x<=m.aO.length/\KG m)/\True,λx=>m.aO.length-x⟩)] ?_;repeat' first|intro _|apply aQ|refine aS 0 (aQ ?_ λ(x:Nat) (a:(x<=m.aO.length/\KG m)/\True)=>?_)|refine aS (x+1) ?_
 all_goals clear b
 all_goals(try simp only[bz,fI]at*)
 all_goals first|exact bj|omega|((with_reducible show(_&&_)=true);kernel_rfl)|rw[nt1 ak]<;>rfl|rw[nt2 ak]<;>rfl|rw[nt3 a.1.2]<;>rfl|rw[nt0 ak ak ak ak]<;>rfl|with_reducible exact h.np|exact zw (.inl ak)|exact zw (.inr ak)|have k:=zw (.inl ak);unfold KG at k;omega|have k:=zw (.inr ak);unfold KG at k;omega| (with_reducible first|exact aeE m|exact aC2 m|exact nb1 h _ _|exact nb2 h _ _|exact aeG Y|exact aC4 Y|exact aC3 Y a.1.2)|exact bM Y|have:=h.len;have g:=a.1.1;simp only[be,bc]at*;omega|rfl|exfalso;simp_all;done
def Pt:=dj (.el W.aP) aCQ
mutual
def eG:F->List J
 |.mk k r p a=>if k=2 then [dT p]else if k=3\/k=4 then n9 a else []
def n9:List F->List J
 |[]=>[]
 |m::r=>eG m++n9 r
end
def S4(m:F):eG m=if m.aJ=2 then [dT m.aF]else if m.aJ=3\/m.aJ=4 then n9 m.aO else []:=by cases m;rw[eG];rfl
theorem afv:∀(a b:List F),n9 (a++b)=n9 a++n9 b
 |[],b=>by rw[gf,n9];rfl
 |m::a,b=>by rw[eB,n9,n9,afv a b,gM]
mutual
theorem afu:∀m:F,(eG m).length<=ba m
 |.mk k r p a=>by
  have:=S5 a
  rw[eG,ba]
  split
  ·simp
  ·split
   ·omega
   ·simp
theorem S5:∀l:List F,(n9 l).length<=ck l
 |[]=>by rw[n9];simp
 |m::r=>by
  have c:=afu m
  have b:=S5 r
  rw[n9,ck,cX];omega
end
def pl2(h:(kd m==2)=true):eG m=[dT m.aF]:=by have h:kd m=2:=an h;unfold kd at h;rw[S4,aM (by split at h<;>omega)]
def pl3(h:KG m):eG m=n9 m.aO:=by unfold KG at h;rw[S4,Z O,aM h]
def pl0(a:(kd m==2)=false)(b:(kd m==3)=false)(c:(kd m==4)=false):eG m=[]:=by have a:kd m≠2:=an a;have b:kd m≠3:=an b;have c:kd m≠4:=an c;unfold kd at a b c;rw[S4,Z (by split at a<;>omega),Z (by split at a<;>omega)]
def aav:gv prog 108:=gY func108 af rfl
@[irreducible] def nG(l:List J)(m:F):=iz m/\l.length+ba m<=10000000000
def E7(h:nG l m):iz m:=by unfold nG at h;exact h.1
def N0(h:nG l m):l.length+ba m<=10000000000:=by unfold nG at h;exact h.2
@[irreducible] def sr(m:F)(i:Nat):List J:=n9 (m.aO.take i)
def afR(m:F):sr m 0=[]:=by unfold sr;rw[gx,n9]
def afT(h:m.aO[(i:Int).toNat]?=some c):sr m i++eG c=sr m (i+1):=by rw[bt]at h;unfold sr;rw[fy,h,yH,afv,n9,n9,lB]
def afS(a:KG m)(h:decide ((i:Int)<m.aO.length)=false):sr m i=eG m:=by simp only[bc]at h;rw[pl3 a];unfold sr;rw[eL O]
theorem ait{c:F}:∀{l:List F}{i:Nat},l[i]?=some c->ck (l.take i)+ba c<=ck l
 |[],i,h=>by simp at h
 |d::l,0,h=>by simp only[kg,cS]at h;subst h;rw[gx,e_,dW];omega
 |d::l,i+1,h=>by rw[B5]at h;have:=ait h;rw[o4,dW,dW];omega
def WJ(h:nG l m)(a:m.aO[(i:Int).toNat]?=some c):nG (l++sr m i) c:=by have b:=E7 h;have d:=N0 h;rw[bt]at a;have e:=ait a;have f:=S5 (m.aO.take i);rw[j8]at d;unfold nG;refine⟨b.bu c (bM a),?_⟩;rw[cX];unfold sr;omega
def WI(h:nG l m)(x:J):(l.length+[x].length)*mi.dF<=140737488355328/\l.length+[x].length<=140737488355328:=by have b:=N0 h;have e:mi.dF=64:=rfl;have a:[x].length=1:=rfl;rw[e,a];omega
def aFk(x:J):[x].length*mi.dF<=140737488355328:=by have e:mi.dF=64:=rfl;rw[e];simp
def aFl(x:J):[x].length<=140737488355328:=ai
def WG(l:List J)(m:F):Prop:=dA prog 108 (bX (cy [(0,aZ.aW (U:=Un) W.aF l)])) ([.c (.aX 0 W.aF l.length),wE .aP m].map SE.aI) (bX (cy [(1,aZ.aW (U:=Un) W.aF (l++eG m))])) (·∈[]) (ST.e (U:=Un) (.c (.aX 1 W.aF (l++eG m).length))).aI
def agR(Q:F->Prop)(H:List (Nat×aZ Un))(args:List (SE Un))(K:iA Un->Prop):Prop:=
 match H,args with
 |[(0,.aW W.aF l)],[.c (.aX 0 W.aF n),.agg [.d (.sc (.int .i64 k)),.d (.sc (.int .i64 r)),.d (.sc (.int .i64 b)),.d (.cK a),.d (.bN W.u32 h),.d (.bN W.aF g),.d (.bN W.aP f)]]=>(n=l.length/\Q (.mk k r (.mk b a h g) f)/\nG l (.mk k r (.mk b a h g) f))/\K ⟨.e (.c (.aX 1 W.aF (l++eG (.mk k r (.mk b a h g) f)).length)),[(1,.aW W.aF (l++eG (.mk k r (.mk b a h g) f)))],[0],[0]⟩
 |_,_=>False
def aeM(Q:F->Prop)(b:∀l m,Q m->nG l m->WG l m):gy prog Un where
 f:=108
 iu:=aav
 run:=agR Q
 ok H args K h:=by
  unfold agR at h;split at h
  ·rename_i l n k r o j t s p;obtain⟨⟨rfl,i,g⟩,e⟩:=h;refine⟨_,?_,λu a c=>?_,e⟩
   ·exact(b l _ i g).gL λu a=>by have q:u<1:=a.1;have d:=a.2;simp at d;omega
   ·have:u<1:=a;simp at c;omega
  ·cases h
theorem aEs(m:F):∀(l:List J),nG l m->WG l m:=by
 generalize i:SizeOf.sizeOf m=D
 induction D using Nat.strongRecOn generalizing m
 rename_i D a;subst i;intro l h;refine vO func108 rfl ⟨[FZ,y5],[aeM (λc=>c∈m.aO) (λl c f=>a _ (F.lt f) c rfl l)]⟩ [(7,⟨Nat,λx=>⟨[(0,.e (.c (.aX 0 W.aF (l++sr m x).length))),(3,br 1),(21,lT .aP m.aO),(22,iT m.aO.length),(23,iT x)],[(0,.aW W.aF (l++sr m x)),(1,.cells [cG m.aJ,cG m.bU,cG m.aF.aK,.d (.cK m.aF.neg),.d (.bN (U:=Un) W.u32 m.aF.aC),.d (.bN (U:=Un) W.aF m.aF.aL),.d (.bN (U:=Un) W.aP m.aO)])],2⟩,λx=>(x<=m.aO.length/\KG m)/\True,λx=>m.aO.length-x⟩)] [] ⟨[(4,.e (.c (.aX 1 W.aF (l++eG m).length)))],[(1,.aW W.aF (l++eG m))],2⟩ ?_;repeat' first|intro _|apply aQ|refine aS 0 (aQ ?_ λ(x:Nat) (b:(x<=m.aO.length/\KG m)/\True)=>?_)|refine aS (x+1) ?_
 all_goals(try clear a)
 all_goals(try simp only[bz,fI]at*)
 all_goals first|exact bj|omega|(rw[pl2 ak]<;>first|rfl|simp;done)|(rw[pl0 ak ak ak]<;>first|rfl|simp;done)|with_reducible exact(E7 h).np|exact zw (.inl ak)|exact zw (.inr ak)| (with_reducible first|exact(WI h _).1|exact(WI h _).2)|(rw[afR]<;>first|rfl|simp;done)|exact WJ h Y|exact bM Y|(rw[<-afT Y]<;>first|rfl|simp only[gM];done|simp;done)|rw[afS b.1.2 Y]|have:=(E7 h).len;have g:=b.1.1;simp only[be,bc]at*;omega|exfalso;simp_all;done
theorem aEr(m:F)(h:nG [] m):dA prog 108 (bX (cy (U:=Un) [])) ([.c (.d (.sc (.slice none 0 0))),wE .aP m].map SE.aI) (bX (cy [(0,aZ.aW (U:=Un) W.aF (eG m))])) (·∈[]) (ST.e (U:=Un) (.c (.aX 0 W.aF (eG m).length))).aI:=by
 refine vO func108 rfl ⟨[FZ,y5],[aeM (λ_=>True) (λl m _ h=>aEs m l h)]⟩ [(7,⟨Nat,λx=>⟨[(0,.e (.c (.aX 0 W.aF (([]:List J)++sr m x).length))),(3,br 1),(21,lT .aP m.aO),(22,iT m.aO.length),(23,iT x)],[(0,.aW W.aF (([]:List J)++sr m x)),(1,.cells [cG m.aJ,cG m.bU,cG m.aF.aK,.d (.cK m.aF.neg),.d (.bN (U:=Un) W.u32 m.aF.aC),.d (.bN (U:=Un) W.aF m.aF.aL),.d (.bN (U:=Un) W.aP m.aO)])],2⟩,λx=>(x<=m.aO.length/\KG m)/\True,λx=>m.aO.length-x⟩)] [] ⟨[(4,.e (.c (.aX 0 W.aF (eG m).length)))],[(0,.aW W.aF (eG m))],1⟩ ?_;repeat' first|intro _|apply aQ|refine aS 0 (aQ ?_ λ(x:Nat) (a:(x<=m.aO.length/\KG m)/\True)=>?_)|refine aS (x+1) ?_
 all_goals(try simp only[bz,fI]at*)
 all_goals(try rw[gf])
 all_goals first|exact bj|omega| (with_reducible first|exact aFk _|exact aFl _)|(rw[pl2 ak]<;>first|rfl|simp;done)|(rw[pl0 ak ak ak]<;>first|rfl|simp;done)|with_reducible exact(E7 h).np|exact zw (.inl ak)|exact zw (.inr ak)|(rw[afR]<;>first|rfl|simp;done)|exact WJ h Y|(rw[<-afT Y]<;>first|rfl|simp only[gM];done|simp;done)|rw[afS a.1.2 Y]|have:=(E7 h).len;have g:=a.1.1;simp only[be,bc]at*;omega|exfalso;simp_all;done
def agS(H:List (Nat×aZ Un))(args:List (SE Un))(K:iA Un->Prop):Prop:=
 match H,args with
 |[],[.c (.d (.sc (.slice none 0 0))),.agg [.d (.sc (.int .i64 k)),.d (.sc (.int .i64 r)),.d (.sc (.int .i64 b)),.d (.cK a),.d (.bN W.u32 h),.d (.bN W.aF g),.d (.bN W.aP f)]]=>nG [] (.mk k r (.mk b a h g) f)/\K ⟨.e (.c (.aX 0 W.aF (eG (.mk k r (.mk b a h g) f)).length)),[(0,.aW W.aF (eG (.mk k r (.mk b a h g) f)))],[],[]⟩
 |_,_=>False
def aDq:gy prog Un where
 f:=108
 iu:=aav
 run:=agS
 ok H args K h:=by
  unfold agS at h;split at h
  ·rename_i k r c b j i d;obtain⟨g,e⟩:=h;refine⟨_,?_,λu a l=>?_,e⟩
   ·exact(aEr (.mk k r (.mk c b j i) d) g).gL λu a=>by simp at a
   ·simp at a
  ·cases h
def al3(h:nG [] m):nG [] (F.mk m.aJ m.bU (J.mk m.aF.aK m.aF.neg m.aF.aC m.aF.aL) m.aO):=by rw[C4];exact h
theorem aEy(m:F)(h:nG [] m):bh 62 [wE .aP m] (lT .aF (eG m)):=by
 refine vG func62 rfl ⟨[],[aDq]⟩ [] ?_;repeat' first|intro _|apply aQ
 all_goals first|exact bj| (with_reducible first|rfl|exact al3 h)|simp only[bz,fI]
def Pv:=dj (.el W.aP) aEy
def HB(b:Nat)(a:ao):List (Nat×aZ Un):=[(0,.cells [.ptr 0 0,.ty b 5 (.inr a.length)]),(b,.aW W.u8 a)]
def HN:List (Nat×aZ Un):=[(0,.cells [.d (.sc (.pointer Option.none)),.d (.sc (.slice Option.none 0 0))])]
def ju(s:az):List Int:=s.data.toList.map λx=>(x.toNat:Int)
def Av(s:az):(ju s).length=s.size:=by unfold ju;rw[eh];rfl
def X7(s:az):(bG (U:=Un) W.u8 (ju s)).map Ab.V.d=sZ s:=by
 unfold ju sZ bG;generalize s.data.toList=l
 induction l with
 |nil=>rfl
 |cons a r b=>simp only[de,EI,ia]at b⊢;rw[b];rfl
def afK:NZ prog 227:=by obtain⟨j,a⟩:=NS.1 (show(Tryz.prog.info? 230).isSome=true by kernel_rfl);exact⟨230,j,af,a⟩
def auM:Nu prog 277:=⟨Tryz.f277,func277,af,af,af,af⟩
def acd:∃j,Tryz.prog.info? 230=some j/\j.size≠0:=by
 have h:(match Tryz.prog.info? 230 with|some j=>decide (j.size≠0)|Option.none=>false)=true:=af;split at h
 ·rename_i j a;exact⟨j,a,dO h⟩
 ·cases h
def cvA:H6 prog 227 298 230 2:=by obtain⟨j,a,I⟩:=acd;exact⟨j,a,.inl ⟨af,af,I,O⟩⟩
def cvB:H6 prog 298 227 230 2:=by obtain⟨j,a,I⟩:=acd;exact⟨j,a,.inr ⟨af,af,af⟩⟩
theorem ark(a:ao):dA prog 248 (bX (cy (HB 1 a))) (([.c (.ptr 0 0)]:List (SE Un)).map SE.aI) (bX (cy (HB 1 a))) (·∈[0,1]) (ST.cE (U:=Un) []).aI:=by
 refine vO func248 rfl ⟨[],[]⟩ [] [0,1] ⟨[],HB 1 a,2⟩ ?_;repeat' first|intro _|apply aQ
 all_goals first|exact bj|with_reducible rfl|exact afK
theorem ari:dA prog 248 (bX (cy HN)) (([.c (.ty 0 230 (.inl 2))]:List (SE Un)).map SE.aI) (bX (cy (U:=Un) [(0,.cells [.ptr 0 0,.d (.sc (.slice Option.none 0 0))])])) (·∈[0]) (ST.cE (U:=Un) []).aI:=by
 refine vO func248 rfl ⟨[],[]⟩ [] [0] ⟨[],[(0,.cells [.ptr 0 0,.d (.sc (.slice Option.none 0 0))])],1⟩ ?_;repeat' first|intro _|apply aQ
 all_goals first|exact bj|exact afK|exact auM|exact cvA|exact cvB
def aum:gv prog 248:=gY func248 af rfl
def agD(H:List (Nat×aZ Un))(args:List (SE Un))(K:iA Un->Prop):Prop:=
 match H,args with
 |[(0,.cells [.ptr 0 0,.ty 1 5 (.inr n)]),(1,.aW W.u8 a)],[.c (.ptr 0 0)]=>n=a.length/\K ⟨.cE [],HB 1 a,[],[]⟩
 |[(0,.cells [.d (.sc (.pointer Option.none)),.d (.sc (.slice Option.none 0 0))])],[.c (.ty 0 230 (.inl 2))]=>K ⟨.cE [],[(0,.cells [.ptr 0 0,.d (.sc (.slice Option.none 0 0))])],[],[0]⟩
 |_,_=>False
def Sa:gy prog Un where
 f:=248
 iu:=aum
 run:=agD
 ok H args K h:=by
  unfold agD at h;split at h
  ·rename_i n d;obtain⟨rfl,c⟩:=h;refine⟨_,?_,λu a b=>rfl,c⟩;exact(ark d).gL λu a=>by have:u<2:=a.1;simp;omega
  ·refine⟨_,?_,λu a b=>?_,h⟩
   ·exact ari.gL λu a=>by have:u<1:=a.1;simp;omega
   ·have:u<1:=a;simp at b;omega
  ·cases h
def Je:Code:=(Tryz.f202.body).getD .skip
def Jf:Code:=(Tryz.f250.body).getD .skip
def wk0:Code:=j6 Je
def wk1:Code:=j6 (fP Je)
def HT:Array Oper:=Bl (j6 (fP (fP Je)))
def wk3:Code:=j6 (fP (fP (fP Je)))
def wL1:List Oper:=HT.toList.take 6
def wA:Oper:=HT[6]!
def wL2:List Oper:=HT.toList.drop 7
def vk0:Code:=j6 Jf
def vk1:Code:=j6 (fP Jf)
def HQ:Array Oper:=Bl (j6 (fP (fP Jf)))
def vk3:Code:=j6 (fP (fP (fP Jf)))
def vL1:List Oper:=HQ.toList.take 7
def M2:Oper:=HQ[7]!
def vL2:List Oper:=HQ.toList.drop 8
def XC:Tryz.f202.body=some (.seq wk0 (.seq wk1 (.seq (.region 2 HT false) (.seq wk3 .ret)))):=af
def aoy:Tryz.f250.body=some (.seq vk0 (.seq vk1 (.seq (.region 2 HQ false) (.seq vk3 .ret)))):=af
def ajx:HT.toList=wL1++wA::wL2:=af
def aJm:HQ.toList=vL1++M2::vL2:=af
def ajv:wA.guard=Option.none:=af
def aJb:M2.guard=Option.none:=af
def ajw:wA.op=.call { callee:=.builtin .append,args:=#[.tmp 12,.tmp 13],argTypes:=#[228,9]}:=af
def aJc:M2.op=.call { callee:=.builtin .append,args:=#[.tmp 11,.tmp 13],argTypes:=#[228,228]}:=af
def aju:wA.dst=some 14:=af
def aJa:M2.dst=some 14:=af
def ts9:rr prog 9=true:=af
def Ul:jA prog 228=some 5:=af
def UE:fg prog 5=some 1:=af
def Uh:oQ prog 5=some 1:=af
def UA:jQ prog 5=some [.d (.sc (.int .u8 0))]:=af
def I_:ST Un:=.cE [.c .any,.c .any]
theorem aJ6(a:ao)(s:az)(h:a.length+s.size<=140737488355328):dA prog 202 (bX (cy (HB 1 a))) (([.c (.ptr 0 0),.c (.d (.sc (.string s)))]:List (SE Un)).map SE.aI) (bX (cy (HB 2 (a++ju s)))) (·∈[0]) I_.aI:=by
 refine Mp (V:=Vw) (aN:=[0]) (τ:=⟨[(4,.e (.c .any)),(5,.e (.c .any))],HB 2 (a++ju s),3⟩) func202 XC af (js rfl) rfl rfl rfl rfl (λ_ _ h=>h) (QI (reg:=⟨[],[Sa]⟩) mixed ajx ajv ?_);repeat' first|intro _|apply aQ|refine @aS (SS Un) _ _ (aQ (an2 Vw W.u8 a (ju s) (sb:=s) ajw aju ts9 Ul UE Uh UA rfl rfl rfl rfl (X7 s) rfl h ae (js rfl)) ?_)
 all_goals first|exact bj|with_reducible rfl|rw[cX,Av];done
theorem aJX(a:ao)(x:Int)(h:a.length+1<=140737488355328):dA prog 250 (bX (cy (HB 1 a))) (([.c (.ptr 0 0),.c (.d (.sc (.int .u8 x)))]:List (SE Un)).map SE.aI) (bX (cy (HB 2 (a++[x])))) (·∈[0]) (ST.e (U:=Un) (.c .any)).aI:=by
 refine Mp (V:=Vw) (aN:=[0]) (τ:=⟨[(4,.e (.c .any))],HB 2 (a++[x]),3⟩) func250 aoy af (js rfl) rfl rfl rfl rfl (λ_ _ h=>h) (QI (reg:=⟨[],[Sa]⟩) mixed aJm aJb ?_);repeat' first|intro _|apply aQ|refine @aS (SS Un) _ _ (aQ (an0 Vw W.u8 a [x] aJc aJa Ul UE Uh UA rfl rfl rfl rfl rfl h ae (js rfl)) ?_)
 all_goals first|exact bj|with_reducible rfl|rw[cX];done
def an1{σ:SS Un}{o:Oper}{n:Nat}{aN:aq}{c:Nat}{s:az}(i:o.op=.call { callee:=.builtin .append,args:=#[.tmp 12,.tmp 13],argTypes:=#[228,9]})(a:o.dst=some x)(k:σ.ev (.tmp 12)=.e (.c (.d (.sc (.slice Option.none 0 0)))))(l:σ.ev (.tmp 13)=.e (.c (.d (.sc (.string s)))))(m:s.size≠0)
 (b:s.size<=140737488355328)(p:cd σ.heap c=Option.none)(f:¬c∈aN)(q:x<n):fc prog n (·∈aN) o σ.st (⟨(x,.e (.c (.ty c 5 (.inr s.size))))::σ.aV,(c,.aW W.u8 (ju s))::σ.heap,σ.bZ+1⟩:SS Un).st:=by
 have g:=fc.an4 (P:=prog) (n:=n) (aU:=(·∈aN)) (σ:=σ.st) (.tmp 12) (.tmp 13) 228 9 ts9 s i (sZ s) s.size rfl rfl (by rw[c8,k];rfl) (by rw[c8,l];rfl) m 5 1 _ Ul UE Uh UA rfl O b c (by rw[ga,p];rfl) f (λj h=>by rw[a]at h;injection h with h;omega);refine cast (bi (fc prog n (·∈aN) o σ.st) ?_) g;rw[a];unfold SS.st;congr 1;funext u;show(if u=c then some (sZ s)else _)=if u=c then some ((bG (U:=Un) W.u8 (ju s)).map Ab.V.d)else _;rw[X7];rfl
theorem aJ1(s:az)(h:s.size<=140737488355328)(a:s.size≠0):dA prog 202 (bX (cy HN)) (([.c (.ty 0 230 (.inl 2)),.c (.d (.sc (.string s)))]:List (SE Un)).map SE.aI) (bX (cy (HB 1 (ju s)))) (·∈[0]) I_.aI:=by
 refine Mp (V:=Vw) (aN:=[0]) (τ:=⟨[(4,.e (.c .any)),(5,.e (.c .any))],HB 1 (ju s),2⟩) func202 XC af (js rfl) rfl rfl rfl rfl (λ_ _ h=>h) (QI (reg:=⟨[],[Sa]⟩) mixed ajx ajv ?_);repeat' first|intro _|apply aQ|refine @aS (SS Un) _ _ (aQ (an1 (c:=1) ajw aju rfl rfl a h rfl ae (js rfl)) ?_)
 all_goals first|exact bj|with_reducible rfl|rw[Av];done
def auc:gv prog 202:=gY func202 af rfl
def aun:gv prog 250:=gY func250 af rfl
def hI:Nat:=140737488355328
def ag1(H:List (Nat×aZ Un))(args:List (SE Un))(K:iA Un->Prop):Prop:=
 match H,args with
 |[(0,.cells [.ptr 0 0,.ty 1 5 (.inr n)]),(1,.aW W.u8 a)],[.c (.ptr 0 0),.c (.d (.sc (.string s)))]=>(n=a.length/\a.length+s.size<=hI)/\K ⟨I_,HB 2 (a++ju s),[1],[0,1]⟩
 |[(0,.cells [.d (.sc (.pointer Option.none)),.d (.sc (.slice Option.none 0 0))])],[.c (.ty 0 230 (.inl 2)),.c (.d (.sc (.string s)))]=>(s.size<=hI/\s.size≠0)/\K ⟨I_,HB 1 (ju s),[],[0]⟩
 |_,_=>False
def Sf:gy prog Un where
 f:=202
 iu:=auc
 run:=ag1
 ok H args K h:=by
  unfold ag1 at h;split at h
  ·rename_i n i s;obtain⟨⟨rfl,d⟩,c⟩:=h;refine⟨_,?_,λu a b=>?_,c⟩
   ·exact(aJ6 i s d).gL λu a=>by have j:u<2:=a.1;have e:=a.2;simp at e⊢;omega
   ·have:u<2:=a;simp at b;omega
  ·rename_i s;obtain⟨⟨d,g⟩,c⟩:=h;refine⟨_,?_,λu a b=>?_,c⟩
   ·exact(aJ1 s d g).gL λu a=>by have:u<1:=a.1;simp;omega
   ·have:u<1:=a;simp at b;omega
  ·cases h
def ag0(H:List (Nat×aZ Un))(args:List (SE Un))(K:iA Un->Prop):Prop:=
 match H,args with
 |[(0,.cells [.ptr 0 0,.ty 1 5 (.inr n)]),(1,.aW W.u8 a)],[.c (.ptr 0 0),.c (.d (.sc (.int .u8 x)))]=>(n=a.length/\a.length+1<=hI)/\K ⟨.e (.c .any),HB 2 (a++[x]),[1],[0,1]⟩
 |_,_=>False
def aeO:gy prog Un where
 f:=250
 iu:=aun
 run:=ag0
 ok H args K h:=by
  unfold ag0 at h;split at h
  ·rename_i n g x;obtain⟨⟨rfl,e⟩,d⟩:=h;refine⟨_,?_,λu a b=>?_,d⟩
   ·exact(aJX g x e).gL λu a=>by have i:u<2:=a.1;have c:=a.2;simp at c⊢;omega
   ·have:u<2:=a;simp at b;omega
  ·cases h
def jH(l:List UInt8):List Int:=l.map λx=>(x.toNat:Int)
def ai6(a b:List UInt8):jH (a++b)=jH a++jH b:=ia
def sx(a:List UInt8):(jH a).length=a.length:=eh _
def uj(h:0<=n):ju (iO n)=jH (Lib.itoa n):=by unfold ju iO jH Lib.itoa;rw[Z O]
theorem PR:∀a b:List Int,dk (a++b)=dk a++dk b
 |[],b=>by rw[gf,dk,gf]
 |d::a,b=>by rw[eB,dk,dk,PR a b,eB,gM]
theorem Hb:∀a b:List J,hJ (a++b)=hJ a++hJ b
 |[],b=>by rw[gf,hJ,gf]
 |c::a,b=>by rw[eB,hJ,hJ,Hb a b,gM]
inductive KP:J->Prop where
 |mk (l:Int) (n:Bool) (a:ao) (cs:List J) (h0:0<=l) (h1:l<100) (hd:Dg a) (hc:∀c∈cs,KP c):KP (.mk l n a cs)
def KP.lv{p:J}(h:KP p):0<=p.aK/\p.aK<100:=by cases h;exact⟨Y,Y⟩
def KP.dg{p:J}(h:KP p):Dg p.aC:=by cases h;assumption
def KP.bu{p:J}(h:KP p):∀c∈p.aL,KP c:=by cases h;assumption
def bQ.kp{p:J}(h:bQ x p):x<=4->KP p:=by
 induction h with
 |const n=>intro _;exact .mk _ _ _ _ O O (iv n) (λc a=>by simp at a)
 |node f g i j k l m b=>intro hl;exact .mk _ _ _ _ O O (λd e=>by simp at e) (λc a=>b c a O)
def zA(p:J)(x:Nat):List UInt8:=91::(Lib.itoa p.aK++((if p.neg then [45]else [])++dk (p.aC.take x)))
def sj(p:J)(x:Nat):List UInt8:=91::(Lib.itoa p.aK++((if p.aK=0 then(if p.neg then [45]else [])++dk p.aC else [])++hJ (p.aL.take x)))
@[irreducible] def pV(p:J)(bs:ao)(x:Nat):List Int:=bs++jH (zA p x)
@[irreducible] def oX(p:J)(bs:ao)(x:Nat):List Int:=bs++jH (sj p x)
@[irreducible] def qN(p:J)(bs:ao):List Int:=bs++jH (pk p)
def EE(p:J)(bs:ao):(qN p bs).length=bs.length+(pk p).length:=by unfold qN;rw[cX,sx]
def afl(p:J):pk p=sj p p.aL.length++[93]:=by
 cases p with
 |mk l n a b=>rw[pk];unfold sj;simp only[J.aK,J.neg,J.aC,J.aL,im,eB,gM];rfl
def DR(p:J)(h:x<=p.aL.length):(sj p x).length+1<=(pk p).length:=by
 rw[afl];unfold sj;have e:p.aL=p.aL.take x++p.aL.drop x:=(o0 x _).symm;have a:(hJ p.aL).length=(hJ (p.aL.take x)).length+(hJ (p.aL.drop x)).length:=by rw[<-cX,<-Hb,<-e]
 simp only[im,cX,fZ,mW];omega
def afi{p:J}(a:p.aK=0)(h:x<=p.aC.length):(zA p x).length<=(sj p 0).length:=by
 unfold zA sj;have e:p.aC=p.aC.take x++p.aC.drop x:=(o0 x _).symm;have b:(dk p.aC).length=(dk (p.aC.take x)).length+(dk (p.aC.drop x)).length:=by rw[<-cX,<-PR,<-e]
 rw[aM a];simp only[cX,fZ];omega
section
variable {p:J}{bs:ao}
def Wk(h:KP p)(a:p.neg=true):bs++[91]++ju (iO p.aK)++[45]=pV p bs 0:=by rw[uj h.lv.1];unfold pV zA;rw[a,gx,dk];simp[jH]
def Wl(h:KP p)(a:p.neg=false):bs++[91]++ju (iO p.aK)=pV p bs 0:=by rw[uj h.lv.1];unfold pV zA;rw[a,gx,dk];simp[jH]
def NJ(h:KP p){d:Int}(a:p.aC[(x:Int).toNat]?=some d):pV p bs x++[32]++ju (iO (IntKind.u64.wrap d))=pV p bs (x+1):=by
 rw[bt]at a;have g:=h.dg d (bM a);unfold b5 at g;have e:IntKind.u64.wrap d=d:=by rw[IntKind.wrap_u64];omega
 rw[e];have b:ju (iO d)=jH (Lib.decDigits d.toNat):=rfl;rw[b];unfold pV zA;rw[fy,a,yH,PR,dk,dk];simp[jH]
def alh(h:KP p)(a:p.aK=0):pV p bs p.aC.length=oX p bs 0:=by unfold pV oX zA sj;rw[aM a,im,gx,hJ,lB]
def Wi(h:KP p)(a:p.aK≠0):bs++[91]++ju (iO p.aK)=oX p bs 0:=by rw[uj h.lv.1];unfold oX sj;rw[Z a,gx,hJ];simp[jH]
def NI{c:J}(a:p.aL[(x:Int).toNat]?=some c):qN c (oX p bs x)=oX p bs (x+1):=by rw[bt]at a;unfold qN oX sj;rw[fy,a,yH,Hb,hJ,hJ];simp[jH]
def alm:oX p bs p.aL.length++[93]=qN p bs:=by unfold oX qN;rw[afl,ai6];simp[jH]
theorem aab:∀a:List Int,a.length<=(dk a).length
 |[]=>dz _
 |d::a=>by have:=aab a;rw[dk];simp only[fZ,cX];omega
theorem afn:∀a:List J,a.length<=(hJ a).length
 |[]=>dz _
 |c::a=>by
  have:=afn a;have g:1<=(pk c).length:=by obtain⟨t,b⟩:=L3 c;rw[b];simp
  rw[hJ];simp only[fZ,cX];omega
def Wg(h:KP p)(b:p.aK=0)(c:x<=p.aC.length)(a:decide ((x:Int)<p.aC.length)=false):pV p bs x=oX p bs 0:=by have a:=cQ a;obtain rfl:x=p.aC.length:=O;exact alh h b
def Wm(b:x<=p.aL.length)(a:decide ((x:Int)<p.aL.length)=false):oX p bs x++[93]=qN p bs:=by have a:=cQ a;obtain rfl:x=p.aL.length:=O;exact alm
def zu{n:Nat}(h:decide ((x:Int)<(n:Int))=true):x<n:=by have:=dO h;omega
variable (hl:bs.length+(pk p).length≤hI)
include hl
theorem Wh(h:x<=p.aL.length):(oX p bs x).length+1<=hI:=by unfold oX;rw[cX,sx];have:=DR p h;omega
theorem Wj(a:p.aK=0)(h:x<=p.aC.length):(pV p bs x).length+1<=hI:=by unfold pV;rw[cX,sx];have:=DR p (dz p.aL.length);have:=afi a h;omega
def alk(h:KP p)(a:p.aK=0){x:Nat}(c:x<p.aC.length)(b:p.aC[(x:Int).toNat]?=some n):(pV p bs x++[32]).length+(iO (IntKind.u64.wrap n)).size<=hI:=by have e:=bi List.length (NJ (bs:=bs) h b);rw[cX,Av]at e;have:=Wj hl a (x:=x+1) O;omega
theorem alg(a:decide ((x:Int)<p.aL.length)=true):(x:Int)+1<=9223372036854775807:=by have:=DR p (bK p.aL.length);have g:=afn p.aL;have:=zu a;unfold sj at*;rw[im]at*;simp only[cX,fZ,hI]at*;omega
theorem alj(a:p.aK=0)(b:decide ((x:Int)<p.aC.length)=true):(x:Int)+1<=9223372036854775807:=by have:=DR p (dz p.aL.length);have:=afi a (bK p.aC.length);have g:=aab p.aC;have:=zu b;unfold zA at*;rw[im]at*;simp only[cX,fZ,hI]at*;omega
theorem alo:bs.length+1<=hI:=by
 have:1<=(pk p).length:=by obtain⟨t,a⟩:=L3 p;rw[a];simp
 omega
theorem alp(h:KP p):(bs++[91]).length+(iO p.aK).size<=hI:=by
 have e:(iO p.aK).size=(Lib.itoa p.aK).length:=by have:=bi List.length (uj h.lv.1);rw[Av,sx]at this;exact this
 have:=DR p (dz p.aL.length);unfold sj at this;simp only[cX,fZ,mW]at this⊢;omega
theorem alq(h:KP p):(bs++[91]++ju (iO p.aK)).length+1<=hI:=by have e:=bi List.length (uj h.lv.1);have:=DR p (dz p.aL.length);rw[sx]at e;unfold sj at this;simp only[cX,fZ,mW]at this⊢;omega
def ali{x:Nat}{c:J}(b:x<p.aL.length)(a:p.aL[(x:Int).toNat]?=some c):(oX p bs x).length+(pk c).length<=hI:=by have e:=bi List.length (NI (bs:=bs) a);rw[EE]at e;have:=Wh hl (x:=x+1) O;omega
end
def aud:gv prog 204:=gY func204 af rfl
def IY(p:J)(a:ao):Prop:=dA prog 204 (bX (cy (HB 1 a))) (([.c (.ptr 0 0),wE .aF p]:List (SE Un)).map SE.aI) (bX (cy (HB 2 (qN p a)))) (·∈[0]) (ST.cE (U:=Un) []).aI
def agQ(G:J->List Int->Prop)(H:List (Nat×aZ Un))(args:List (SE Un))(K:iA Un->Prop):Prop:=
 match H,args with
 |[(0,.cells [.ptr 0 0,.ty 1 5 (.inr n)]),(1,.aW W.u8 b)],[.c (.ptr 0 0),.agg [.d (.sc (.int .i64 l)),.d (.cK e),.d (.bN W.u32 a),.d (.bN W.aF f)]]=>(n=b.length/\G (.mk l e a f) b)/\K ⟨.cE [],HB 2 (qN (.mk l e a f) b),[1],[0,1]⟩
 |_,_=>False
def Sd(G:J->List Int->Prop)(e:∀p c,G p c->IY p c):gy prog Un where
 f:=204
 iu:=aud
 run:=agQ G
 ok H args K h:=by
  unfold agQ at h;split at h
  ·rename_i n c l k a o;obtain⟨⟨rfl,j⟩,i⟩:=h;refine⟨_,?_,λu b d=>?_,i⟩
   ·exact dA.gL (e _ _ j) λu b=>by have m:u<2:=b.1;have g:=b.2;simp at g⊢;omega
   ·have:u<2:=b;simp at d;omega
  ·cases h
theorem afk(p:J)(bs:ao):KP p->bs.length+(pk p).length<=hI->IY p bs:=by
 generalize i:SizeOf.sizeOf p=D
 induction D using Nat.strongRecOn generalizing p bs
 rename_i D d;subst i;intro h b;have f:∀(c:J)(s:ao),(c∈p.aL/\s.length+(pk c).length<=hI)->IY c s:=λc s e=>d _ (J.lt e.1) c s rfl (h.bu c e.1) e.2
 clear d
 rename _=>d
 unfold IY;refine vO func204 rfl ⟨[Po,arZ],[aeO,Sf,Sd (λc s=>c∈p.aL/\s.length+(pk c).length<=hI) d]⟩ [(7,⟨Nat,λx=>⟨[(0,br 0),(3,br 1),(25,lT .u32 p.aC),(26,iT p.aC.length),(27,iT x)],[(0,.cells [.ptr 0 0,.ty 2 5 (.inr (pV p bs x).length)]),(1,cj .aF p),(2,.aW (U:=Un) W.u8 (pV p bs x))],3⟩,λx=>(x<=p.aC.length/\p.aK=0)/\True,λx=>p.aC.length-x⟩),(13,⟨Nat,λx=>⟨[(0,br 0),(40,lT .aF p.aL),(41,iT p.aL.length),(42,iT x)],[(0,.cells [.ptr 0 0,.ty 2 5 (.inr (oX p bs x).length)]),(2,.aW (U:=Un) W.u8 (oX p bs x))],3⟩,λx=>x<=p.aL.length/\True,λx=>p.aL.length-x⟩)] [0] ⟨[],HB 2 (qN p bs),3⟩ ?_;repeat' (first
  |((with_reducible show mt _ _ _ _ _);(conv=>whnf);(fail_if_success with_reducible show mt _ _ _ _ _))
  |intro _|apply aQ
  |refine @aS Nat _ 0 (aQ ?_ λ(x:Nat) (a:(x<=p.aC.length/\p.aK=0)/\True)=>?_)
  |refine @aS Nat _ 0 (aQ ?_ λ(x:Nat)(a:x<=p.aL.length/\True)=>?_)
  |refine @aS Nat _ (x+1) ?_
  |fail)
 all_goals(try clear d)
 all_goals(try simp only[bz,gQ,jJ,iI]at*)
 all_goals first|exact bj|with_reducible assumption|omega| (with_reducible first|exact alo b|exact h.lv.1|exact h.lv.2|exact alp b h|exact alq b h|exact Wk h Y|exact bi (λl:List Int=>(Sum.inr l.length:Nat ⊕ Nat)) (Wk h Y)|exact Wl h Y|exact bi (λl:List Int=>(Sum.inr l.length:Nat ⊕ Nat)) (Wl h Y)|exact Wj b a.1.2 a.1.1)|rw[IntKind.wrap_u64];omega| (with_reducible first|exact alk b h a.1.2 (zu Y) Y|exact NJ h Y|exact bi (λl:List Int=>(Sum.inr l.length:Nat ⊕ Nat)) (NJ h Y)|exact alj b a.1.2 Y|exact alg b Y|exact Wg h a.1.2 a.1.1 Y|exact bi (λl:List Int=>(Sum.inr l.length:Nat ⊕ Nat)) (Wg h a.1.2 a.1.1 Y)|exact Wi h Y|exact bi (λl:List Int=>(Sum.inr l.length:Nat ⊕ Nat)) (Wi h Y)|exact bM Y|exact ali b (zu Y) Y|exact NI Y|exact bi (λl:List Int=>(Sum.inr l.length:Nat ⊕ Nat)) (NI Y)|exact Wh b a.1|exact Wm a.1 Y|exact bi (λl:List Int=>(Sum.inr l.length:Nat ⊕ Nat)) (Wm a.1 Y))|have g:=zu Y;omega
theorem Ru:∀a b:List F,kK (a++b)=kK a++kK b
 |[],b=>by rw[gf,kK,gf]
 |c::a,b=>by rw[eB,kK,kK,Ru a b,gM]
theorem adE:∀a:List F,a.length<=(kK a).length
 |[]=>dz _
 |c::a=>by
  have:=adE a;have g:1<=(lO c).length:=by obtain⟨t,b⟩:=adC c;rw[b];simp
  rw[kK];simp only[fZ,cX];omega
inductive KM:F->Prop where
 |mk (k r:Int) (p:J) (ks:List F) (h0:0<=k) (h1:k<100) (hr:0<=r/\r<100) (hp:KP p) (hc:∀c∈ks,KM c):KM (.mk k r p ks)
def KM.kd{m:F}(h:KM m):0<=m.aJ/\m.aJ<100:=by cases h;exact⟨Y,Y⟩
def KM.rl{m:F}(h:KM m):0<=m.bU/\m.bU<100:=by cases h;assumption
def KM.po{m:F}(h:KM m):KP m.aF:=by cases h;assumption
def KM.bu{m:F}(h:KM m):∀c∈m.aO,KM c:=by cases h;assumption
theorem KP.zP:KP zP:=.mk _ _ _ _ O O (λd a=>by simp at a) (λc b=>by simp at b)
def CM.km{Q:J->Prop}(b:∀p,Q p->KP p){m:F}(h:CM Q m):KM m:=by
 induction h with
 |tt=>exact .mk _ _ _ _ O O O KP.zP (λc a=>by simp at a)
 |ff=>exact .mk _ _ _ _ O O O KP.zP (λc a=>by simp at a)
 |gE r p d e=>unfold R6 at d;exact .mk _ _ _ _ O O O (b p e) (λc a=>by simp at a)
 |node K g hK i f=>exact .mk _ _ _ _ O O O KP.zP (λc a=>f c a)
def wa(m:F)(x:Nat):List UInt8:=40::(Lib.itoa m.aJ++((if m.aJ=2 then 32::(Lib.itoa m.bU++pk m.aF)else [])++kK (m.aO.take x)))
@[irreducible] def qP(m:F)(bs:ao)(x:Nat):List Int:=bs++jH (wa m x)
@[irreducible] def t_(m:F)(bs:ao):List Int:=bs++jH (lO m)
def WA(m:F)(bs:ao):(t_ m bs).length=bs.length+(lO m).length:=by unfold t_;rw[cX,sx]
def adA(m:F):lO m=wa m m.aO.length++[41]:=by
 cases m with
 |mk k r p a=>rw[lO];unfold wa;simp only[F.aJ,F.bU,F.aF,F.aO,im,eB,gM];rfl
def Rs(m:F)(h:x<=m.aO.length):(wa m x).length+1<=(lO m).length:=by
 rw[adA];unfold wa;have e:m.aO=m.aO.take x++m.aO.drop x:=(o0 x _).symm;have a:(kK m.aO).length=(kK (m.aO.take x)).length+(kK (m.aO.drop x)).length:=by rw[<-cX,<-Ru,<-e]
 simp only[im,cX,fZ,mW];omega
section
variable {m:F}{bs:ao}
def EV(h:KM m)(a:m.aJ=2):qN m.aF (bs++[40]++ju (iO m.aJ)++[32]++ju (iO m.bU))=qP m bs 0:=by rw[uj h.kd.1,uj h.rl.1];unfold qN qP wa;rw[aM a,gx,kK];simp[jH]
def Wy(h:KM m)(a:m.aJ≠2):bs++[40]++ju (iO m.aJ)=qP m bs 0:=by rw[uj h.kd.1];unfold qP wa;rw[Z a,gx,kK];simp[jH]
def NR(a:m.aO[(x:Int).toNat]?=some c):t_ c (qP m bs x)=qP m bs (x+1):=by rw[bt]at a;unfold t_ qP wa;rw[fy,a,yH,Ru,kK,kK];simp[jH]
def Wz(b:x<=m.aO.length)(a:decide ((x:Int)<m.aO.length)=false):qP m bs x++[41]=t_ m bs:=by have a:=cQ a;obtain rfl:x=m.aO.length:=O;unfold qP t_;rw[adA,ai6];simp[jH]
variable (hl:bs.length+(lO m).length≤hI)
include hl
theorem EW(h:x<=m.aO.length):(qP m bs x).length+1<=hI:=by unfold qP;rw[cX,sx];have:=Rs m h;omega
theorem alD(a:decide ((x:Int)<m.aO.length)=true):(x:Int)+1<=9223372036854775807:=by have:=Rs m (bK m.aO.length);have g:=adE m.aO;have:=zu a;unfold wa at*;rw[im]at*;simp only[cX,fZ,hI]at*;omega
def alE{x:Nat}(b:x<m.aO.length)(a:m.aO[(x:Int).toNat]?=some c):(qP m bs x).length+(lO c).length<=hI:=by have e:=bi List.length (NR (bs:=bs) a);rw[WA]at e;have:=EW hl (x:=x+1) O;omega
theorem alL:bs.length+1<=hI:=by
 have:1<=(lO m).length:=by obtain⟨t,a⟩:=adC m;rw[a];simp
 omega
theorem dcs(h:0<=n):(iO n).size=(Lib.itoa n).length:=by have:=bi List.length (uj h);rw[Av,sx]at this;exact this
def alM(h:KM m):(bs++[40]).length+(iO m.aJ).size<=hI:=by have e:=dcs hl h.kd.1;have:=Rs m (dz m.aO.length);unfold wa at this;simp only[cX,fZ,mW]at this⊢;omega
variable (h:KM m)
include h
def alN(a:m.aJ=2):(bs++[40]++ju (iO m.aJ)).length+1<=hI:=by have:=bi List.length (EV (bs:=bs) h a);have g:=EW hl (dz m.aO.length);rw[EE]at this;simp only[cX,fZ,mW]at this⊢;omega
def alO(a:m.aJ=2):(bs++[40]++ju (iO m.aJ)++[32]).length+(iO m.bU).size<=hI:=by have:=bi List.length (EV (bs:=bs) h a);have g:=EW hl (dz m.aO.length);rw[EE]at this;simp only[cX,fZ,mW,Av]at this⊢;omega
def alP(a:m.aJ=2):(bs++[40]++ju (iO m.aJ)++[32]++ju (iO m.bU)).length+(pk m.aF).length<=hI:=by have:=bi List.length (EV (bs:=bs) h a);have g:=EW hl (dz m.aO.length);rw[EE]at this;omega
end
def aue:gv prog 205:=gY func205 af rfl
def IJ(m:F)(bs:ao):Prop:=dA prog 205 (bX (cy (HB 1 bs))) (([.c (.ptr 0 0),wE .aP m]:List (SE Un)).map SE.aI) (bX (cy (HB 2 (t_ m bs)))) (·∈[0]) (ST.cE (U:=Un) []).aI
def agL(G:F->List Int->Prop)(H:List (Nat×aZ Un))(args:List (SE Un))(K:iA Un->Prop):Prop:=
 match H,args with
 |[(0,.cells [.ptr 0 0,.ty 1 5 (.inr n)]),(1,.aW W.u8 bs)],[.c (.ptr 0 0),.agg [.d (.sc (.int .i64 k)),.d (.sc (.int .i64 r)),.d (.sc (.int .i64 l)),.d (.cK b),.d (.bN W.u32 a),.d (.bN W.aF f),.d (.bN W.aP e)]]=>(n=bs.length/\G (.mk k r (.mk l b a f) e) bs)/\K ⟨.cE [],HB 2 (t_ (.mk k r (.mk l b a f) e) bs),[1],[0,1]⟩
 |_,_=>False
def aeL(G:F->List Int->Prop)(d:∀p bs,G p bs->IJ p bs):gy prog Un where
 f:=205
 iu:=aue
 run:=agL G
 ok H args K h:=by
  unfold agL at h;split at h
  ·rename_i n bs k r l j a s o;obtain⟨⟨rfl,i⟩,g⟩:=h;refine⟨_,?_,λu b c=>?_,g⟩
   ·exact dA.gL (d _ _ i) λu b=>by have q:u<2:=b.1;have e:=b.2;simp at e⊢;omega
   ·have:u<2:=b;simp at c;omega
  ·cases h
theorem azI(m:F)(bs:ao):KM m->bs.length+(lO m).length<=hI->IJ m bs:=by
 generalize f:SizeOf.sizeOf m=D
 induction D using Nat.strongRecOn generalizing m bs
 rename_i D a;subst f;intro h hl;have e:∀(c:F)(s:ao),(c∈m.aO/\s.length+(lO c).length<=hI)->IJ c s:=λc s d=>a _ (F.lt d.1) c s rfl (h.bu c d.1) d.2
 clear a
 rename _=>a
 unfold IJ;refine vO func205 rfl ⟨[Po],[aeO,Sf,Sd (λp s=>KP p/\s.length+(pk p).length<=hI) (λp s h=>afk p s h.1 h.2),aeL (λc s=>c∈m.aO/\s.length+(lO c).length<=hI) a]⟩ [(8,⟨Nat,λx=>⟨[(0,br 0),(28,lT .aP m.aO),(29,iT m.aO.length),(30,iT x)],[(0,.cells [.ptr 0 0,.ty 2 5 (.inr (qP m bs x).length)]),(2,.aW (U:=Un) W.u8 (qP m bs x))],3⟩,λx=>x<=m.aO.length/\True,λx=>m.aO.length-x⟩)] [0] ⟨[],HB 2 (t_ m bs),3⟩ ?_;repeat' (first
  |((with_reducible show mt _ _ _ _ _);(conv=>whnf);(fail_if_success with_reducible show mt _ _ _ _ _))
  |intro _|apply aQ
  |refine @aS Nat _ 0 (aQ ?_ λ(x:Nat)(b:x<=m.aO.length/\True)=>?_)
  |refine @aS Nat _ (x+1) ?_
  |fail)
 all_goals(try clear a)
 all_goals(try simp only[bz,fI,gQ,jJ,iI]at*)
 all_goals first|exact bj|omega| (with_reducible first|exact alL hl|exact h.kd.1|exact h.kd.2|exact h.rl.1|exact h.rl.2|exact h.po|exact alM hl h|exact alN hl h Y|exact alO hl h Y|exact alP hl h Y|exact EV h Y|exact bi (λl:List Int=>(Sum.inr l.length:Nat ⊕ Nat)) (EV h Y)|exact Wy h Y|exact bi (λl:List Int=>(Sum.inr l.length:Nat ⊕ Nat)) (Wy h Y)|exact EW hl b.1|exact alD hl Y|exact bM Y|exact alE hl (zu Y) Y|exact NR Y|exact bi (λl:List Int=>(Sum.inr l.length:Nat ⊕ Nat)) (NR Y)|exact Wz b.1 Y|exact bi (λl:List Int=>(Sum.inr l.length:Nat ⊕ Nat)) (Wz b.1 Y))|have g:=zu Y;omega
end Go.Proofs.YtfbmhjooliccnaaGreatDoor
