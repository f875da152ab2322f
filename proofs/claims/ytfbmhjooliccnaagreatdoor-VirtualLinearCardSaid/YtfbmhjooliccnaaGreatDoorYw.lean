/- A part of the proof of VirtualLinear: Kp3 to Xo. No condition. -/
import Derived.Test.YtfbmhjooliccnaaGreatDoorYu
import Derived.Test.YtfbmhjooliccnaaGreatDoorYv
set_option linter.all false
set_option maxRecDepth 100000
set_option maxHeartbeats 60000000
noncomputable section
namespace Go.Proofs.YtfbmhjooliccnaaGreatDoor
open Go Go.Ab Go.Proofs.Tryz
variable {k r:Int}{x y:Nat}{p R:J}{X:bw}{l:List J}{m Q:F}{P L:aR→Prop}{s a:bO}{U:dK}{c:List aR}{N M:aR}
def vM(p:J)(lv:Int)(i:Nat):J:=ca (((bk p lv)[i+1]?).getD zP) (kP ((i:Int)+1))
@[irreducible] def jU(p:J)(lv:Int)(y:Nat):List J:=(List.range y).map (vM p lv)++(bk p lv).drop y
def aaj(p:J)(lv:Int):bk p lv=jU p lv 0:=by unfold jU;simp
def AB{p:J}{lv:Int}(h:y<=(bk p lv).length):(jU p lv y).length=(bk p lv).length:=by unfold jU;simp;omega
def aak{p:J}{lv:Int}(a:y<=(bk p lv).length){c:J}(h:(jU p lv y)[((y:Int)+1).toNat]?=some c):(bk p lv)[y+1]?=some c:=by have e:((y:Int)+1).toNat=y+1:=O;rw[e]at h;unfold jU at h;rw[B4 ai,eh,oY,nD]at h;rw[<-h];congr 1;omega
def atw{p:J}{lv:Int}(a:(bk p lv)[y+1]?=some R):(jU p lv y).set y (ca R (kP ((y:Int)+1)))=jU p lv (y+1):=by have b:=ns a;have e:((List.range y).map (vM p lv)).length=y:=ai;unfold jU;rw[yB _ _ O,e,rM,sP,ia,gM,kB (show y<(bk p lv).length by omega),xc];show _=_++([vM p lv y]++_);unfold vM;rw[a];rfl
def atx{p:J}{lv:Int}(b:y<(bk p lv).length)(h:(jU p lv y)[((y:Int)+1).toNat]?=some R){e:aY}(a:iV e=(y:Int)+1):(jU p lv y).set ((y:Int)+1-1).toNat (ca R (kP (iV e)))=jU p lv (y+1):=by rw[a,show((y:Int)+1-1).toNat=y by omega];exact atw (aak O h)
def aGP(h:r.natAbs<=100):rO ⟨(iD r).neg,(iD r).aC⟩:=⟨dH (ur (k:=1) (by show((r.natAbs:Nat):Int)<4294967296^1;omega):(iD r).aC.length<=1) O,iv _⟩
section
variable {p:J}{lv:Int}(h:PQ p lv)
include h
def atG(d:y<(bk p lv).length)(a:(jU p lv y)[((y:Int)+1).toNat]?=some R):pX R ⟨(iD ((y:Int)+1)).neg,(iD ((y:Int)+1)).aC⟩:=by have g:=o5 h;have b:=g.2 R (bM (aak O a));refine .of ?_ (aGP O);rw[Ky];exact fw.c b.sz (j:=3) O O O O
def atA(o:bk p lv≠[]):JP ((List.range ((bk p lv).length-1)).map (vM p lv)) lv:=by
 have g:=Cd h;obtain⟨v,rfl,n,m⟩:=E6 h;have b:(v:Int)≠0:=O;have e:∀i:Nat,Ln 1498 (((bk p v)[i]?).getD zP)/\Fr v (((bk p v)[i]?).getD zP):=λi=>by
  cases e:(bk p v)[i]? with
  |none=>exact⟨(Kn.zero _).ln,.zero b⟩
  |some c=>exact g.2 c (bM e)
 have j:=ack (d:=1) (k:=1500) O O n m (cs:=(List.range ((bk p v).length-1)).map (vM p v)) (by rw[eh,oY];omega) (λc a=>by
  obtain⟨i,f,rfl⟩:=b_.1 a;have:=oZ.1 f;exact(e (i+1)).1.sz.tx (l:=2) O) (λc a=>by
  obtain⟨i,f,rfl⟩:=b_.1 a;exact(e (i+1)).2.tx b (e (i+1)).1.bR _)
 unfold JP my;exact⟨O,j.1⟩
end
def atH{p:J}{lv:Int}(b:(((bk p lv).length:Int)==0)=false)(a:decide ((y:Int)+1<((jU p lv y).length:Int))=false)(c:y<(bk p lv).length):(jU p lv y).take ((bk p lv).length-1)=(List.range ((bk p lv).length-1)).map (vM p lv):=by have a:=cQ a;rw[AB O]at a;have e:y=(bk p lv).length-1:=O;have d:((List.range y).map (vM p lv)).length=y:=ai;rw[<-e];unfold jU;rw[ET O,eL O]
def dvT{p:J}{lv:Int}(a:(((bk p lv).length:Int)==0)=false)(b:decide ((y:Int)+1<((jU p lv y).length:Int))=false)(c:y<(bk p lv).length):List.take (((jU p lv y).length:Int)-1).toNat (List.drop 0 (jU p lv y))=(List.range ((bk p lv).length-1)).map (vM p lv):=by
 have e:(((jU p lv y).length:Int)-1).toNat=(bk p lv).length-1:=by rw[AB O];omega
 rw[e,rG];exact atH a b c
def atz{p:J}{lv:Int}(a:(((bk p lv).length:Int)==0)=false):qj ((List.range ((bk p lv).length-1)).map (vM p lv)) lv=kF p lv:=by have a:¬((bk p lv).length:Int)=0:=an a;unfold kF;rw[Z (λe=>by rw[e]at a;exact a rfl)];rfl
def aty{p:J}{lv:Int}(a:(((bk p lv).length:Int)==0)=true):kF p lv=zP:=by have a:((bk p lv).length:Int)=0:=an a;unfold kF;rw[aM (fR O)]
def aBj(a:((l.length:Int)==0)=false):l≠[]:=λe=>by rw[e]at a;simp at a
def atC(a:((l.length:Int)==0)=false):0<l.length:=by have a:¬(l.length:Int)=0:=an a;omega
theorem atb(p:J)(lv:Int)(h:PQ p lv):bh 259 [wE .aF p,wI .i64 lv] (eT .aF (kF p lv)):=by
 refine vG func259 rfl ⟨[JS,CN,Y7,aru],[aDc]⟩ [(7,⟨Nat,λy=>⟨[(1,iT lv),(4,br 0),(5,.e (.c (.aX 1 W.aF (jU p lv y).length))),(6,iT ((y:Int)+1))],[(0,cj .aF zP),(1,.aW (U:=Un) W.aF (jU p lv y))],2⟩,λy=>y<(bk p lv).length/\True,λy=>(bk p lv).length-y⟩)] ?_;repeat' first|intro _|apply aQ|refine aS 0 (aQ ?_ λ(x:Nat) (a:x<(bk p lv).length/\True)=>?_)|refine aS (x+1) ?_
 all_goals(try simp only[bz,fI]at*)
 all_goals first|exact bj|omega|((with_reducible show(_&&_)=true);kernel_rfl)|exact(NY h).b.d Y |>.elim|with_reducible exact E4 h|exact aaj _ _|exact bi List.length (aaj _ _)|exact atC Y|rw[dvT Y Y a.1];exact atA h (aBj Y)|rw[dvT Y Y a.1,atz Y];done|exact atG h a.1 Y|exact atx a.1 Y (Ky _)|rw[aty Y]<;>rfl|with_reducible exact dO (show decide ((x:Int)+1<((jU p lv x).length:Int))=true by with_reducible assumption)|have g:=dO (show decide ((x:Int)+1<((jU p lv x).length:Int))=true by with_reducible assumption);omega|rw[AB O,AB (by have g:=dO (show decide ((x:Int)+1<((jU p lv x).length:Int))=true by with_reducible assumption);rw[AB O]at g;omega)]|have g:=dO (show decide ((x:Int)+1<((jU p lv x).length:Int))=true by with_reducible assumption);have d:=a.1;rw[AB O]at g;omega|have g:=(o5 h).1;have d:=a.1;rw[AB O];omega|have g:=(o5 h).1;have d:=a.1;omega|rfl
def arJ:=eI (.el W.aF) (.int .i64) atb
@[irreducible] def SB(p:J)(lv:Int)(t:bw):=PJ p lv/\LP lv t
def xf{p:J}{lv:Int}{t:bw}(h:SB p lv t):=(SB.eq_1 ..).mp h
@[irreducible] def DE(lv:Int)(p:J)(n:Nat)(cur:J)(ds:List J):Prop:=
  n<=1/\ez cur lv<=1-(n:Int)/\Ln (1490+6*n) cur/\ds.length=n+1/\(∃a,ds=a++[cur])/\(∀d∈ds,PQ d lv)/\vI lv 3 p=ds.dropLast++vI lv (3-n) cur
def vc{lv:Int}{p:J}{n:Nat}{cur:J}{ds:List J}(h:DE lv p n cur ds):=(DE.eq_1 ..).mp h
def aj8{lv:Int}{p:J}(h:PJ p lv):DE lv p 0 p [p]:=by unfold DE;exact⟨O,NU h,(Ak h).1,rfl,⟨[],rfl⟩,λd a=>by rw[cL.1 a];exact Cc h,rfl⟩
section
variable {lv:Int}{p:J}{n:Nat}{cur:J}{ds:List J}(hl:1≤lv∧lv≤4)(h:DE lv p n cur ds)
include hl h
def DEz:ZL cur lv:=by have u:=vc h;refine .of (u.2.2.1.sz.cz O (by have:=u.1;omega)) ?_;unfold my;exact hl
def DEp:PQ cur lv:=by have u:=vc h;unfold PQ;exact⟨u.2.2.1.up (by have:=u.1;omega),hl⟩
def Vi(a:decide (0<ez cur lv)=true):DE lv p (n+1) (kF cur lv) (ds++[kF cur lv]):=by
 have a:=dO a;have u:=vc h;obtain⟨v,rfl⟩:∃v:Nat,lv=(v:Int):=⟨lv.toNat,O⟩;have dk:=(Z1 (lv:=v) (by have:=u.1;omega) O O u.2.2.1 a).1;have c:Ln (1490+6*(n+1)) (kF cur v):=dk.ln.up O;have j:ez (kF cur v) v<=0:=dk.sz.vd v;unfold DE;refine⟨by have:=u.2.1;omega,by have:=u.2.1;omega,c,by rw[cX,u.2.2.2.1];rfl,⟨ds,rfl⟩,λd b=>?_,?_⟩
 ·rcases cq.1 b with e|e
  ·exact u.2.2.2.2.2.1 d e
  ·rw[cL.1 e];unfold PQ;exact⟨c.up (by have:=u.1;have:=u.2.1;omega),hl⟩
 ·have i:=u.2.2.2.2.2.2;obtain⟨k,g⟩:=u.2.2.2.2.1;have f:3-n=(3-(n+1))+1:=by have:=u.2.1;omega
  rw[i,f,vI,aM a,g,List.dropLast_concat,List.dropLast_concat,gM];rfl
omit hl in
theorem aj9(a:decide (0<ez cur lv)=false):vI lv 3 p=ds:=by have a:=cQ a;have u:=vc h;obtain⟨d,c⟩:=u.2.2.2.2.1;have b:3-n=(3-(n+1))+1:=O;rw[u.2.2.2.2.2.2,b,vI,Z a,c,List.dropLast_concat]
omit hl in
theorem Vh(q:J):(ds.length+[q].length)*mi.dF<=140737488355328/\ds.length+[q].length<=140737488355328:=by have u:=vc h;have e:mi.dF=64:=rfl;have a:[q].length=1:=rfl;rw[e,a];omega
end
@[irreducible] def DF(lv:Int)(p:J)(t:bw)(ds:List J)(z:Nat):=vI lv 3 p=ds/\(∀d∈ds,VQ d lv t)/\z+1<=ds.length/\ds.length<=3
def Ev{lv:Int}{p:J}{t:bw}{ds:List J}{z:Nat}(h:DF lv p t ds z):=(DF.eq_1 ..).mp h
def akd{lv:Int}{p:J}(I:SB p lv X){n:Nat}{cur:J}{ds:List J}(h:DE lv p n cur ds)(b:decide (0<ez cur lv)=false):DF lv p X ds 0:=by have u:=vc h;unfold DF;refine⟨aj9 h b,λd a=>?_,O,O⟩;unfold VQ;exact⟨u.2.2.2.2.2.1 d a,(xf I).2⟩
def ano{lv:Int}{ds:List J}(hl:ds≠[])(h:ds[((ds.length:Int)-1).toNat]?=some R):lI R r lv X=ug r lv X (ds.drop (ds.length-1)):=by
 have b:0<ds.length:=List.length_pos_iff.2 hl;have e:((ds.length:Int)-1).toNat=ds.length-1:=O;rw[e]at h;have a:=ns h;rw[kB a,cN a]at*;injection h with h
 rw[h,mU O,ug]
def anp{lv:Int}{ds:List J}(j:x+1<=ds.length)(c:decide (0<=(ds.length:Int)-2-(x:Int))=true)(h:ds[((ds.length:Int)-2-(x:Int)).toNat]?=some R):kq [lI R (qC r) lv X,df [lI R 3 lv X,ug r lv X (ds.drop (ds.length-1-x))]]=ug r lv X (ds.drop (ds.length-1-(x+1))):=by
 have c:=dO c;have e:((ds.length:Int)-2-(x:Int)).toNat=ds.length-1-(x+1):=O;rw[e]at h;have f:=ns h;have g:ds.drop (ds.length-1-(x+1))=R::ds.drop (ds.length-1-x):=by
  rw[kB f];rw[cN f]at h;injection h with h
  rw[h];congr 2;omega
 rw[g];cases i:ds.drop (ds.length-1-x)with
 |nil=>have:=bi List.length i;rw[xa]at this;simp at this;omega
 |cons a b=>rw[ug]
def ch3(h:l[x]?=some R):l≠[]:=λe=>by rw[e]at h;simp at h
def anB{p:J}{lv:Int}(a:(r==1)=false)(b:(r==2)=false)(c:(r==5)=false)(d:(r==6)=false)(e:(r==4)=true):uh p r lv X=dS (j_ (bk p lv)):=by unfold uh;rw[Z (LA a b c d),aM (an e)]
def anA{p:J}{lv:Int}(a:(r==1)=false)(b:(r==2)=false)(c:(r==5)=false)(d:(r==6)=false)(e:(r==4)=false):uh p r lv X=j_ (bk p lv):=by unfold uh;rw[Z (LA a b c d),Z (an e)]
def anz{p:J}{lv:Int}{t:bw}{ds:List J}(h:nv r)(b:DF lv p t ds x)(a:decide (0<=(ds.length:Int)-2-(x:Int))=false):ug r lv t (ds.drop (ds.length-1-x))=uh p r lv t:=by have u:=Ev b;have a:=cQ a;unfold uh;rw[aM h,u.1,show ds.length-1-x=0 by omega,rG]
def ake{lv:Int}{p:J}{ds:List J}(h:DF lv p X ds x)(a:decide (0<=(ds.length:Int)-2-(x:Int))=true):DF lv p X ds (x+1):=by have u:=Ev h;have a:=dO a;unfold DF;exact⟨u.1,u.2.1,O,u.2.2.2⟩
def akf{lv:Int}{p:J}{t:bw}{ds:List J}(h:DF lv p t ds x)(a:ds[y]?=some R):VQ R lv t:=(Ev h).2.1 R (bM a)
def aj_{lv:Int}{p:J}{t:bw}(I:SB p lv t){n:Nat}{cur:J}{ds:List J}(h:DE lv p n cur ds)(a:ds[x]?=some R):VQ R lv t:=by unfold VQ;exact⟨(vc h).2.2.2.2.2.1 R (bM a),(xf I).2⟩
def Ao{p:J}{lv:Int}(h:SB p lv X):1<=lv/\lv<=4:=(Ak (xf h).1).2
def SBj{p:J}{lv:Int}(h:SB p lv X):PJ p lv:=(xf h).1
def E9{p:J}{lv:Int}(h:SB p lv X):PQ p lv:=Cc (xf h).1
def SBv{p:J}{lv:Int}{t:bw}(h:SB p lv t):VQ p lv t:=by unfold VQ;exact⟨E9 h,(xf h).2⟩
def DEl{lv:Int}{p:J}{n:Nat}{cur:J}{ds:List J}(h:DE lv p n cur ds):ds.length=n+1/\n<=1:=⟨(vc h).2.2.2.1,(vc h).1⟩
theorem anq(p:J)(r lv:Int)(t:bw)(h:SB p lv t):bh 209 [wE .aF p,wI .i64 r,wI .i64 lv,wE .gi t] (eT .aP (uh p r lv t)):=by
 refine vF func209 rfl [F2 32,JN,Zw,Pt,CI,arJ,Y9,Zt,Pm,Zn] [(10,⟨Nat×J×List J,λx=>⟨[(1,iT r),(2,iT lv),(4,br 0),(7,br 1),(8,br 2),(9,.e (.c (.aX 3 W.aF x.2.2.length)))],[(0,.cells ((eF .aF x.2.1).map .d)),(1,cj .gi t),(2,cj .aP zM),(3,.aW (U:=Un) W.aF x.2.2)],4⟩,λx=>DE lv p x.1 x.2.1 x.2.2/\True,λx=>1-x.1⟩),(16,⟨List J×Nat,λx=>⟨[(1,iT r),(2,iT lv),(7,br 0),(8,br 1),(9,.e (.c (.aX 2 W.aF x.1.length))),(11,br 3),(12,iT ((x.1.length:Int)-2-(x.2:Int)))],[(0,cj .gi t),(1,cj .aP zM),(2,.aW (U:=Un) W.aF x.1),(3,.cells ((eF .aP (ug r lv t (x.1.drop (x.1.length-1-x.2)))).map .d))],4⟩,λx=>DF lv p t x.1 x.2/\True,λx=>x.1.length-x.2⟩)] ?_;repeat' (first
  |((with_reducible show mt _ _ _ _ _);(conv=>whnf);(fail_if_success with_reducible show mt _ _ _ _ _))
  |intro _|apply aQ
  |refine @aS (Nat×J×List J) _ (0,p,[p]) (aQ ?_ λ(x:Nat×J×List J)(a:DE lv p x.1 x.2.1 x.2.2/\True)=>?_)
  |refine @aS (Nat×J×List J) _ (x.1+1,kF x.2.1 lv,x.2.2++[kF x.2.1 lv]) ?_
  |refine @aS (List J×Nat) _ (x.2.2,0) (aQ ?_ λ(w:List J×Nat)(b:DF lv p t w.1 w.2/\True)=>?_)
  |refine @aS (List J×Nat) _ (w.1,w.2+1) ?_
  |fail)
 all_goals(try simp only[bz,fI]at*)
 all_goals first|exact bj|omega|((with_reducible show(_&&_)=true);kernel_rfl)| (with_reducible first|exact E4 (E9 h)|exact WC (E9 h)|exact WE (E9 h))|rw[anB Y Y Y Y Y];done|rw[anA Y Y Y Y Y];done| (with_reducible first|exact aj8 (SBj h)|exact DEz (Ao h) a.1|exact DEp (Ao h) a.1)|exact Vi (Ao h) a.1 Y| (with_reducible first|exact(Vh a.1 _).1|exact(Vh a.1 _).2)|exact aj_ h a.1 Y|exact akd h a.1 Y|rw[ano (ch3 Y) Y]<;>rfl|exact akf b.1 Y|exact ake b.1 Y|rw[anp (Ev b.1).2.2.1 Y Y]<;>rfl|rw[anz (by first|exact Sw Y|exact DI Y|exact Sx Y|exact Sy Y) b.1 Y]<;>rfl|rw[cX];done|have g:=DEl a.1;simp only[be,bc]at*;omega|have g:=(Ev b.1).2.2;simp only[be,bc]at*;omega|show 1-(x.1+1)<1-x.1;have g:=vc (Vi (Ao h) a.1 Y);omega|rfl|exfalso;simp_all;done
def ary:=HU (.el W.aF) (.int .i64) (.int .i64) (.el W.gi) anq
def Cg{lv:Int}(h:SB p lv X):(ez X.a lv<=0/\ez X.b lv<=0/\ez X.c lv<=0/\ez X.d lv<=0)/\ZL X.a lv/\ZL X.b lv/\ZL X.c lv/\ZL X.d lv:=by
 have g:=(xf h).2;have l:=Ao h;have a:lv≠0:=O;have z:∀{d k:Nat}{q:J},Sz d k q->d<=12->k<=90000->ZL q lv:=λf i j=>by refine .of (f.cz i j) ?_;unfold my;exact l
 have b:ez zP lv<=0:=(Fr.zero a).vd;have m:ez X.d lv<=0:=by obtain⟨n,e,_⟩:=g.d.z;rw[e];exact(Fr.const a n).vd
 have c:ZL zP lv:=z (Sz.zero 0 0) O O;refine⟨⟨g.fa.vd,?_,?_,m⟩,z g.a.sz O O,?_,?_,z g.d.sz O O⟩
 ·rw[g.b];exact b
 ·rw[g.c];exact b
 ·rw[g.b];exact c
 ·rw[g.c];exact c
def su1{lv:Int}(h:(X.aJ==1)=true):oP p r lv X=rV p r lv:=by unfold oP;rw[aM (an h)]
def su2{t:bw}(a:(t.aJ==1)=false)(h:(t.aJ==2)=true):oP p r k t=lI p r k t:=by unfold oP;rw[Z (an a),aM (an h)]
def su3{t:bw}(a:(t.aJ==1)=false)(h:(t.aJ==2)=false):oP p r k t=uh p r k t:=by unfold oP;rw[Z (an a),Z (an h)]
theorem aH9(p:J)(r a:Int)(t:bw)(h:SB p a t):bh 162 [wE .aF p,wI .i64 r,wI .i64 a,wE .gi t] (tT [.agg ((eF .aP (oP p r a t)).map .d),iE 0]):=by
 refine vF func162 rfl [CI,arB,Y9,ary] [(4,⟨Nat,λx=>⟨[(1,iT r),(2,iT a),(4,br 0),(7,br 1),(8,br 2),(37,.e (.agg [cG t.a.aK,.d (.cK t.a.neg),.d (.bN (U:=Un) W.u32 t.a.aC),.d (.bN (U:=Un) W.aF t.a.aL),cG t.b.aK,.d (.cK t.b.neg),.d (.bN (U:=Un) W.u32 t.b.aC),.d (.bN (U:=Un) W.aF t.b.aL),cG t.c.aK,.d (.cK t.c.neg),.d (.bN (U:=Un) W.u32 t.c.aC),.d (.bN (U:=Un) W.aF t.c.aL),cG t.d.aK,.d (.cK t.d.neg),.d (.bN (U:=Un) W.u32 t.d.aC),.d (.bN (U:=Un) W.aF t.d.aL)])),(38,iT x)],[(0,cj .aF p),(1,cj .gi t),(2,cj .aP zM)],3⟩,λx=>x<=4/\True,λx=>4-x⟩)] ?_;repeat' first|intro _|apply aQ|refine aS 0 (aQ ?_ λ(x:Nat)(b:x<=4/\True)=>?_)|refine aS (x+1) ?_
 all_goals(try simp only[bz,fI]at*)
 all_goals first|exact bj|omega| (with_reducible first|exact(Cg h).2.1|exact(Cg h).2.2.1|exact(Cg h).2.2.2.1|exact(Cg h).2.2.2.2|exact E9 h|exact SBv h)|rw[su1 Y];done|rw[su2 Y Y];done|rw[su3 Y Y];done|exfalso;have l:=Ao h;have k:=(xf h).2.kd;have d:=(Cg h).1;simp only[be,bc]at*;omega|exfalso;have l:=Ao h;have k:=(xf h).2.kd;have d:=(Cg h).1;simp at*;omega|simp only[be,bc,gQ,jJ,iI]at*;omega|rfl
def asK:=HU (.el W.aF) (.int .i64) (.int .i64) (.el W.gi) aH9
@[irreducible] def HP(m:F)(a:Int):=nG [] m/\(∀p∈eG m,CZ p)/\my a
def BW{m:F}{a:Int}(h:HP m a):=(HP.eq_1 ..).mp h
def l_(l:List J)(a:Int):Bool:=l.any λp=>decide (0<ez p a)
def Nz{lv:Int}(h:HP m lv)(a:(eG m)[x]?=some p):ZL p lv:=.of ((BW h).2.1 p (bM a)) (BW h).2.2
def Aa(h:HP m k):(eG m).length<=10000000000/\1<=k/\k<=4:=by have u:=BW h;have l:=u.2.2;unfold my at l;have a:=afu m;have b:=N0 u.1;exact⟨O,l⟩
@[irreducible] def HG(l:List J)(a:Int)(x:Nat):=x<=l.length/\l_ (l.take x) a=false
def akU(l:List J)(a:Int):HG l a 0:=by unfold HG;exact⟨dz _,rfl⟩
def HGx(h:HG l k x):x<=l.length:=by unfold HG at h;exact h.1
def akW(h:HG l k x)(a:l[(x:Int).toNat]?=some p)(b:decide (0<ez p k)=false):HG l k (x+1):=by rw[bt]at a;unfold HG at h⊢;refine⟨ns a,?_⟩;unfold l_ at*;rw[fy,a,List.any_append,h.2];simpa using b
def akX(a:l[(x:Int).toNat]?=some p)(b:decide (0<ez p k)=true):l_ l k=true:=by rw[bt]at a;unfold l_;rw[rF];exact⟨p,bM a,b⟩
def akV(h:HG l k x)(a:decide ((x:Int)<l.length)=false):l_ l k=false:=by simp only[bc]at a;unfold HG at h;have:=h.2;rwa [eL O]at this
@[irreducible] def HC(m:F)(a:Int):=HP m a/\∀p∈eG m,ez p a<=2
def vg{lv:Int}(h:HC m lv):HP m lv:=by unfold HC at h;exact h.1
def VH(h:HC m k)(a:(eG m)[x]?=some p)(b:decide (2<ez p k)=true):False:=by unfold HC at h;have:=h.2 p (bM a);have:=dO b;omega
theorem aw_(m:F)(a:Int)(h:HP m a):bh 63 [wE .aP m,wI .i64 a] (bT (l_ (eG m) a)):=by
 refine vF func63 rfl [Pv,CI] [(2,⟨Nat,λx=>⟨[(1,iT a),(8,lT .aF (eG m)),(9,iT (eG m).length),(10,iT x)],[],0⟩,λx=>HG (eG m) a x/\True,λx=>(eG m).length-x⟩)] ?_;repeat' first|intro _|apply aQ|refine aS 0 (aQ ?_ λ(x:Nat) (b:HG (eG m) a x/\True)=>?_)|refine aS (x+1) ?_
 all_goals(try simp only[bz,fI]at*)
 all_goals first|omega|with_reducible exact(BW h).1|exact Nz h Y|with_reducible exact akU _ _|rw[akX Y Y];done|exact akW b.1 Y Y|rw[akV b.1 Y];done|have g:=HGx b.1;have c:=Aa h;simp only[be,bc]at*;omega
def ar1:=eI (.el W.aP) (.int .i64) aw_
theorem aqo(m:F)(a:Int)(h:HC m a):bh 31 [wE .aP m,wI .i64 a] (iT 0):=by
 refine vF func31 rfl [Pv,CI] [(4,⟨Nat,λx=>⟨[(1,iT a),(14,lT .aF (eG m)),(15,iT (eG m).length),(16,iT x)],[],0⟩,λx=>x<=(eG m).length/\True,λx=>(eG m).length-x⟩)] ?_;repeat' first|intro _|apply aQ|refine aS 0 (aQ ?_ λ(x:Nat) (c:x<=(eG m).length/\True)=>?_)|refine aS (x+1) ?_
 all_goals(try simp only[bz,fI]at*)
 all_goals first|omega|with_reducible exact(BW (vg h)).1|exact Nz (vg h) Y|exfalso;exact VH h Y Y|exfalso;have b:=Aa (vg h);simp only[be,bc]at*;omega|have b:=Aa (vg h);have g:=c.1;simp only[be,bc]at*;omega|exfalso;have b:=Aa (vg h);simp at*;omega
def Zb:=eI (.el W.aP) (.int .i64) aqo
inductive tQ(lv:Int)(t:bw):F->Prop where
 |mk (k r:Int) (p:J) (ks:List F) (hp:k=2->SB p lv t) (hk:k=3\/k=4->∀c∈ks,tQ lv t c) (hl:k=3\/k=4->ks.length<=1000000000):tQ lv t (.mk k r p ks)
def tQ.sb{t:bw}(h:tQ k t m)(b:(m.aJ==2)=true):SB m.aF k t:=by
 cases h with
 |mk a r p d c _ _=>exact c (show a=2 by simpa using(show(a==2)=true from b))
def tQ.kd(h:tQ k X m)(b:KG m):(∀c∈m.aO,tQ k X c)/\m.aO.length<=1000000000:=by
 cases h with
 |mk a r p f _ d e=>exact⟨d b,e b⟩
def Ou(a:Int)(t:bw)(m:F):fG a t m=if m.aJ=2 then oP m.aF m.bU a t else if m.aJ=3\/m.aJ=4 then .mk m.aJ 0 zP (m.aO.map (fG a t))else m:=by cases m;rw[fG,Xv];rfl
def ap2{t:bw}(h:(m.aJ==2)=true):fG k t m=oP m.aF m.bU k t:=by rw[Ou,aM (an h)]
def ap0(a:(m.aJ==2)=false)(b:(m.aJ==3)=false)(c:(m.aJ==4)=false):fG k X m=m:=by rw[Ou,Z (an a),Z (by intro h;rcases h with h|h;exact absurd h (an b);exact absurd h (an c))]
def Xj(h:KG m):fG k X m=.mk m.aJ 0 zP (m.aO.map (fG k X)):=by unfold KG at h;rw[Ou,Z O,aM h]
def Co(h:(m.aJ==3)=true\/(m.aJ==4)=true):KG m:=by unfold KG;simpa using h
@[irreducible] def om(a:Int)(t:bw)(m:F)(i:Nat):List F:=(m.aO.take i).map (fG a t)
def Xm(a:Int)(t:bw)(m:F):om a t m 0=[]:=by unfold om;rfl
def anW(a:Int)(t:bw)(m:F):(om a t m 0).length=0:=by rw[Xm];rfl
def Xo(h:m.aO[(x:Int).toNat]?=some Q):om k X m x++[fG k X Q]=om k X m (x+1):=by rw[bt]at h;unfold om;rw[fy,h,ia];rfl
def anY(h:m.aO[(x:Int).toNat]?=some Q):(om k X m x).length+[fG k X Q].length=(om k X m (x+1)).length:=by rw[<-Xo h];simp
def Xn(h:m.aO.length<=1000000000)(i:Nat)(x:F):((om k X m i).length+[x].length)*oR.dF<=140737488355328/\(om k X m i).length+[x].length<=140737488355328:=by
 have b:(om k X m i).length<=m.aO.length:=by unfold om;simp;omega
 have e:oR.dF=104:=rfl;have a:[x].length=1:=rfl;rw[e,a];omega
def anX(h:decide ((x:Int)<m.aO.length)=false)(a:KG m):om k X m x=(fG k X m).aO:=by simp only[bc]at h;rw[Xj a];show om k X m x=m.aO.map (fG k X);unfold om;rw[eL O]
def A9(h:((0:Int) !=0)=true):False:=absurd h ae
theorem aoa(m:F)(a:Int)(t:bw)(h:tQ a t m):bh 111 [wE .aP m,wI .i64 a,wE .gi t] (tT [.agg ((eF .aP (fG a t m)).map .d),iE 0]):=by
 generalize i:SizeOf.sizeOf m=D
 induction D using Nat.strongRecOn generalizing m
 rename_i D e;subst i;refine vF func111 rfl [asK,CH Vw 111 (.el W.aP) (.int .i64) (.el W.gi) (λ(c:F)(l:Int)(u:bw)=>c∈m.aO/\tQ a t c/\l=a/\u=t) (λ(c:F)(l:Int)(u:bw)=>tT [.agg ((eF .aP (fG l u c)).map .d),iE 0]) (λc l u f=>by obtain⟨k,j,rfl,rfl⟩:=f;exact e _ (F.lt k) c j rfl)] [(8,⟨Nat,λx=>⟨[(1,iT a),(3,br 0),(5,br 1),(6,br 2),(8,br 3),(33,lT .aP m.aO),(34,iT m.aO.length),(35,iT x)],[(0,cj .aP m),(1,cj .gi t),(2,cj .aP zM),(3,.cells [cG m.aJ,cG 0,cG 0,iB,fL,fL,.aX 4 W.aP (om a t m x).length]),(4,.aW (U:=Un) W.aP (om a t m x))],5⟩,λx=>(x<=m.aO.length/\KG m)/\True,λx=>m.aO.length-x⟩)] ?_;repeat' first|exact(A9 ‹((0:Int) !=0)=true›).elim|intro _|apply aQ|refine aS 0 (aQ ?_ λ(x:Nat) (b:(x<=m.aO.length/\KG m)/\True)=>?_)|refine aS (x+1) ?_
 all_goals(try clear e)
 all_goals(try simp only[bz,fI]at*)
 all_goals first|exact bj|omega|rw[ap2 Y]<;>rfl|rw[ap0 Y Y Y]<;>rfl|rw[Xj b.1.2]<;>rfl|with_reducible exact h.sb Y|exact Co (.inl Y)|exact Co (.inr Y)| (with_reducible first|exact Xm _ _ _|exact anW _ _ _|exact(Xn (h.kd b.1.2).2 _ _).1|exact(Xn (h.kd b.1.2).2 _ _).2|exact Xo Y|exact anY Y|exact anX Y b.1.2)|exact(h.kd b.1.2).1 _ (bM Y)|exact bM Y|have:=(h.kd (Co (.inl Y))).2;omega|have:=(h.kd (Co (.inr Y))).2;omega|have:=(h.kd b.1.2).2;have g:=b.1.1;simp only[be,bc]at*;omega|rfl|exfalso;simp_all;done
def arz:=wK (.el W.aP) (.int .i64) (.el W.gi) aoa
def si(c:J):Bool:=decide (0<c.aL.length)||decide (0<c.aC.length)
mutual
def h_:J->Int
 |.mk l n a b=>mj b 0 0
def mj:List J->Nat->Int->Int
 |[],_,acc=>acc
 |c::r,i,acc=>mj r (i+1) (if si c then max acc ((i:Int)+h_ c)else acc)
end
def aIO(p:J):h_ p=mj p.aL 0 0:=by cases p;rw[h_];rfl
mutual
theorem MV:∀p:J,0<=h_ p/\h_ p<=nP p
 |.mk l n a d=>by
  rw[h_]
  have:=aiN d 0 0 0 O O
  rw[nP];omega
theorem aiN:∀(l:List J)(i:Nat)(acc:Int)(B:Nat),0<=acc->acc<=(i:Int)+B->0<=mj l i acc/\mj l i acc<=(i:Int)+B+iR l
 |[],i,acc,B,b,h=>by rw[mj,GW];omega
 |c::r,i,acc,B,b,h=>by
  have hc:=MV c
  have e:=zq c
  rw[mj,xL]
  have:=aiN r (i+1) (if si c then max acc ((i:Int)+h_ c)else acc) (B+nP c-1) (by split<;>omega) (by split<;>omega)
  omega
end
theorem aiP:∀(l:List J)(i:Nat)(acc B:Int),acc<=B->(∀(j:Nat)(c:J),l[j]?=some c->(i:Int)+j+h_ c<=B)->mj l i acc<=B
 |[],i,acc,B,h,_=>by rw[mj];exact h
 |c::r,i,acc,B,h,a=>by
  rw[mj];have e:=a 0 c rfl;refine aiP r (i+1) _ B ?_ λj d b=>?_
  ·split<;>omega
  ·have:=a (j+1) d (an b);omega
def aIN{d:Nat}{p:J}(h:bQ y p):DL d p->h_ p<=y*d:=by
 induction h with
 |const n=>intro _;rw[kP,h_,mj];exact Int.natCast_nonneg _
 | @node y a b o i q r s k=>
   intro e;have l:=e.len;change b.length<=d+1 at l;have t:(a-1)*d+d=a*d:=by obtain⟨m,rfl⟩:∃m,a=m+1:=⟨a-1,O⟩;rw[yE,iN,Nat.one_mul]
   have u:a*d<=y*d:=jS _ i;rw[h_];refine aiP b 0 0 _ O λj c hc=>?_
   have f:=bM hc;have v:=(du.1 hc).1;have:=k c f (e.bu c f);omega
@[irreducible] def o8(p:J):=bQ 4 p/\DL 1000000 p
def N_{p:J}(h:o8 p):=(o8.eq_1 ..).mp h
theorem o8.bu{p:J}(h:o8 p){c:J}(hc:c∈p.aL):o8 c:=by
 have u:=N_ h;unfold o8;refine⟨?_,u.2.bu c hc⟩;cases u.1 with
 |const n=>cases hc
 |node d k j i f a e=>exact(a c hc).mono O
theorem o8.len{p:J}(h:o8 p):p.aL.length<=1000000000:=by have:=(N_ h).2.len;omega
def o8.b{p:J}(h:o8 p):h_ p<=1000000000:=by have u:=N_ h;have:=aIN u.1 u.2;omega
@[irreducible] def lC(p:J)(x:Nat)(acc:Int):=x<=p.aL.length/\h_ p=mj (p.aL.drop x) x acc/\0<=acc/\acc<=4000000000
def Fb{p:J}{x:Nat}{acc:Int}(h:lC p x acc):=(lC.eq_1 ..).mp h
def amy(p:J):lC p 0 0:=by unfold lC;exact⟨dz _,aIO p,O,O⟩
def aah{x:Nat}(h:l[x]?=some R):l.drop x=R::l.drop (x+1):=by rw[du]at h;obtain⟨a,b⟩:=h;rw[<-b];exact kB a
def lC.e{p:J}{x:Nat}{acc:Int}(g:lC p x acc)(a:decide ((x:Int)<p.aL.length)=false):acc=h_ p:=by have a:=cQ a;rw[(Fb g).2.1,mU O,mj]
section
variable {p:J}(h:o8 p){x:Nat}{acc:Int}(g:lC p x acc){c:J}(hc:p.aL[((x:Nat):Int).toNat]?=some c)
include h g hc
theorem lC.b:0<=h_ c/\h_ c<=1000000000/\x<p.aL.length:=by have a:=(MV c).1;have b:=(h.bu (bM hc)).b;rw[bt]at hc;have d:=(du.1 hc).1;omega
def lC.t(d:si c=true):lC p (x+1) (max acc ((x:Int)+h_ c)):=by have b:=lC.b h g hc;have l:=h.len;rw[bt]at hc;obtain⟨k,a,j,i⟩:=Fb g;unfold lC;refine⟨b.2.2,?_,O,O⟩;rw[a,aah hc,mj,d];rfl
def lC.f(j:si c=false):lC p (x+1) acc:=by have b:=lC.b h g hc;rw[bt]at hc;obtain⟨k,i,d,a⟩:=Fb g;unfold lC;refine⟨b.2.2,?_,d,a⟩;rw[i,aah hc,mj,j];rfl
end
@[irreducible] def sM(l:List J)(i:Nat)(t:J):=l[(i:Int).toNat]?=some t
def sM.u{l:List J}{i:Nat}{t:J}(h:sM l i t):=(sM.eq_1 ..).mp h
theorem sM.i{l:List J}{i:Nat}{t:J}(h:l[(i:Int).toNat]?=some t):sM l i t:=by unfold sM;exact h
theorem aIM(p:J)(h:o8 p):bh 21 [wE .aF p] (iT (h_ p)):=by
 generalize d:SizeOf.sizeOf p=D
 induction D using Nat.strongRecOn generalizing p
 rename_i D b;subst d;refine vF func21 rfl [ot Vw 21 (.el W.aF) (λ(c:J)=>c∈p.aL/\o8 c) (λ(c:J)=>iT (h_ c)) (λc hc=>b _ (J.lt hc.1) c hc.2 rfl)] [(3,⟨Nat×Int,λy=>⟨[(1,br 0),(3,iT y.2),(7,iT p.aL.length),(8,iT y.1)],[(0,cj .aF p)],1⟩,λy=>lC p y.1 y.2/\True,λy=>p.aL.length-y.1⟩)] ?_;repeat' (first
  |((with_reducible show mt _ _ _ _ _);(conv=>whnf);(fail_if_success with_reducible show mt _ _ _ _ _))
  |intro _|apply aQ
  |refine @aS (Nat×Int) _ (y.1+1,?_) ?_
  |refine @aS (Nat×Int) _ (0,0) (aQ ?_ λ(y:Nat×Int)(a:lC p y.1 y.2/\True)=>?_)
  |fail)
 all_goals(try clear b)
 all_goals(try simp only[bz]at*)
 all_goals first| (with_reducible first|show Int|show List J|show List F|show Nat|rfl)|omega| (with_reducible first|exact amy p|exact lC.e a.1 Y)|obtain⟨y0,q⟩:∃y0,sM p.aL y.1 y0:=⟨_,sM.i Y⟩;refine lC.t h a.1 Y ?_;simp only[sM.u q,cS]at*;subst_vars;unfold si;simp_all|obtain⟨y0,q⟩:∃y0,sM p.aL y.1 y0:=⟨_,sM.i Y⟩;refine lC.f h a.1 Y ?_;simp only[sM.u q,cS]at*;subst_vars;unfold si;simp_all|exact bM Y|exact h.bu (bM Y)|have g:=lC.b h a.1 Y;have e:=h.len;have g3:=Fb a.1;simp only[be,bc]at*;omega|have e:=h.len;have g3:=(Fb a.1).1;simp only[be,bc]at*;omega
def asP:=dj (.el W.aF) aIM
@[irreducible] def tW(s:bO)(k:Int):=s.l.length<=100000/\∀c∈s.l,gj c k
def Nt{s:bO}{k:Int}(h:tW s k):=(tW.eq_1 ..).mp h
@[irreducible] def qg(s:bO)(k:Int)(x:Nat):List (List aR):=(s.l.take x).map (ki k)
@[irreducible] def pS(s:bO)(k:Int)(x:Nat):=x<=s.l.length/\k8 s k=qf k s.dw (s.l.drop x) (qg s k x)
def H_{s:bO}{k:Int}{x:Nat}(h:pS s k x):=(pS.eq_1 ..).mp h
def P4(s:bO)(k:Int):qg s k 0=[]:=by unfold qg;rfl
def akG(s:bO)(k:Int):pS s k 0:=by unfold pS k8;rw[P4];exact⟨dz _,rfl⟩
def au3(s:bO)(k:Int)(x:Nat):(qg s k x).length<=s.l.length:=by unfold qg;simp;omega
def P5{s:bO}{k:Int}{x:Nat}{c:List aR}(hc:s.l[(x:Int).toNat]?=some c):qg s k x++[ki k c]=qg s k (x+1):=by rw[bt]at hc;unfold qg;rw[fy,hc,ia];rfl
def au4{s:bO}{k:Int}{x:Nat}{c:List aR}(hc:s.l[(x:Int).toNat]?=some c):(qg s k x).length+[ki k c].length=(qg s k (x+1)).length:=by rw[<-P5 hc,cX]
def JZ{l:List (List aR)}{x:Nat}{r:List aR}(h:l[x]?=some r):l.drop x=r::l.drop (x+1):=by rw[du]at h;obtain⟨a,b⟩:=h;rw[<-b];exact kB a
section
variable {s:bO}{k:Int}{x:Nat}(g:pS s k x)
include g
def pS.e(a:decide ((x:Int)<s.l.length)=false):k8 s k=⟨qg s k x,s.dw⟩:=by simp only[bc]at a;rw[(H_ g).2,mU O,qf]
variable {c:List aR}(hc:s.l[((x:Nat):Int).toNat]?=some c)
include hc
def pS.f(h:decide (60<((ki k c).length:Int))=true):k8 s k=⟨[],true⟩:=by have h:=dO h;rw[bt]at hc;rw[(H_ g).2,JZ hc,qf,aM O]
def pS.n(h:decide (60<((ki k c).length:Int))=false):pS s k (x+1):=by have h:=cQ h;have a:=P5 (k:=k) hc;rw[bt]at hc;unfold pS;refine⟨(du.1 hc).1,?_⟩;rw[(H_ g).2,JZ hc,qf,Z O,a]
end
def tW.d{s:bO}{k:Int}(h:tW s k){x:Nat}{c:List aR}(hc:s.l[(x:Int).toNat]?=some c):gj c k:=(Nt h).2 c (bM hc)
def BS:Prop:=∀(l:List aR)(k:Int),gj l k->bh 92 [wL .row l,wI .i64 k] (lT .row (ki k l))
def arL(a:BS):Ct prog Un:=uq Vw 92 (.ls W.row) (.int .i64) (λ(l:List aR)(k:Int)=>gj l k) (λ(l:List aR)(k:Int)=>lT .row (ki k l)) (λl k h=>a l k h)
def aaQ(s:bO){k:Int}(h:tW s k)(x:Nat)(c:List aR):((qg s k x).length+[c].length)*HF.dF<=140737488355328/\(qg s k x).length+[c].length<=140737488355328:=by have:=au3 s k x;have:=(Nt h).1;rw[XE,Iz];omega
theorem au2(b:BS)(s:bO)(k:Int)(h:tW s k):bh 46 [wE .fD s,wI .i64 k] (eT .fD (k8 s k)):=by
 refine vF func46 rfl [arL b] [(3,⟨Nat,λx=>⟨[(1,iT k),(2,br 0),(4,br 1),(5,br 2),(13,iT s.l.length),(14,iT x)],[(0,cj .fD s),(1,cj .fD (⟨[],false⟩:bO)),(2,.cells [.aX 3 W.oq (qg s k x).length,.d (.cK s.dw)]),(3,.aW (U:=Un) W.oq (qg s k x))],4⟩,λx=>pS s k x/\True,λx=>s.l.length-x⟩)] ?_;repeat' (first
  |((with_reducible show mt _ _ _ _ _);(conv=>whnf);(fail_if_success with_reducible show mt _ _ _ _ _))
  |intro _|apply aQ
  |refine aS 0 (aQ ?_ λ(x:Nat)(a:pS s k x/\True)=>?_)
  |refine aS (x+1) ?_
  |fail)
 all_goals(try simp only[uv,AD,AF,C5]at*)
 all_goals first|exact bj|omega| (with_reducible first|exact akG s k|exact h.d Y|exact pS.n a.1 Y Y|exact(aaQ s h _ _).1|exact(aaQ s h _ _).2|exact P4 _ _|exact P5 Y|exact au4 Y)|rw[pS.e a.1 Y]<;>rfl|rw[pS.f a.1 Y Y]<;>rfl|rw[P4]<;>rfl|have g:=(Nt h).1;have e:=(H_ a.1).1;simp only[be,bc]at*;omega
def arQ(a:BS):Ct prog Un:=uq Vw 46 (.el W.fD) (.int .i64) (λ(s:bO)(k:Int)=>tW s k) (λ(s:bO)(k:Int)=>eT .fD (k8 s k)) (λs k h=>au2 a s k h)
def lY(r:Int)(f:a_):bO:=if r=1 then gC 1 f else if r=2 then gC 2 f else if r=4 then iK (gC 1 f) (gC 1 f.neg)else if r=5 then gC 2 f.neg else if r=6 then gC 1 f.neg else gC 0 f
def pz(k:Int)(a b:bO):bO:=if k=3 then jt a b else iK a b
def qu(k:Int):bO:=if k=3 then⟨[[]],false⟩else⟨[],false⟩
mutual
def fk:F->bO×Bool
 |.mk k r p b=>if k=1 then(⟨[[]],false⟩,true)else if k=2 then(lY r (l9 p).1,(l9 p).2)else if k=3\/k=4 then kx k b (qu k,true)else(⟨[],false⟩,true)
def kx (k:Int):List F->bO×Bool->bO×Bool
 |[],a=>a
 |m::r,a=>kx k r (pz k a.1 (fk m).1,a.2&&(fk m).2)
end
def My(m:F):fk m=if m.aJ=1 then(⟨[[]],false⟩,true)else if m.aJ=2 then(lY m.bU (l9 m.aF).1,(l9 m.aF).2)else if m.aJ=3\/m.aJ=4 then kx m.aJ m.aO (qu m.aJ,true)else(⟨[],false⟩,true):=by cases m;rw[fk];rfl
theorem ahW(k:Int)(b:List F):∀(a:List F)(s:bO×Bool),kx k (a++b) s=kx k b (kx k a s)
 |[],s=>by rw[gf,kx]
 |m::a,s=>by rw[eB,kx,kx,ahW k b a]
@[irreducible] def kQ(m:F)(x:Nat):bO×Bool:=kx m.aJ (m.aO.take x) (qu m.aJ,true)
def ahZ(m:F):kQ m 0=(qu m.aJ,true):=by unfold kQ;rw[gx,kx]
def MA{m:F}{x:Nat}{c:F}(h:m.aO[(x:Int).toNat]?=some c):kQ m (x+1)=(pz m.aJ (kQ m x).1 (fk c).1,(kQ m x).2&&(fk c).2):=by rw[bt]at h;unfold kQ;rw[fy,h,ahW];show kx _ [c] _=_;rw[kx,kx]
def aHq{m:F}{x:Nat}(a:KG m)(h:decide ((x:Int)<m.aO.length)=false):kQ m x=fk m:=by simp only[bc]at h;unfold KG at a;rw[My,Z O,Z O,aM a];unfold kQ;rw[eL O]
def qS(s:bO)(n k:Nat):=s.l.length<=n/\∀c∈s.l,c.length<=k
def qS.jn{a b:bO}{d e j:Nat}(g:qS a y d)(i:qS b e j)(l:300<=y+e):qS (pz k a b) (y+e) (d+j):=by
 unfold pz;split
 ·have:=Xg (a:=a) (b:=b) g.2 i.2;exact⟨O,this.2⟩
 ·unfold iK;refine⟨by have:=g.1;have:=i.1;rw[cX];omega,λc hc=>?_⟩;rcases cq.1 hc with hc|hc
  ·have:=g.2 c hc;omega
  ·have:=i.2 c hc;omega
def Hk(k:Int)(f:a_):qS (gC k f) 300 1:=⟨by unfold gC;simp,λc a=>by unfold gC at a;simp at a;rw[a];simp⟩
def aoe(r:Int)(f:a_):qS (lY r f) 300 1:=by
 unfold lY;split;exact Hk _ _;split;exact Hk _ _;split
 ·unfold iK gC;exact⟨ai,λc a=>by simp at a;rcases a with rfl|rfl<;>simp⟩
 split;exact Hk _ _;split;exact Hk _ _;exact Hk _ _
mutual
theorem Mz:∀m:F,qS (fk m).1 (300*ba m) (ba m)
 |.mk k r p d=>by
  have i:=zN (.mk k r p d)
  have e:∀s:bO,qS s 300 1->qS s (300*ba (.mk k r p d)) (ba (.mk k r p d)):=λs I=>⟨by have:=I.1;omega,λc b=>by have:=I.2 c b;omega⟩
  rw[fk]
  split
  ·exact e _ ⟨ai,λc b=>by simp at b;rw[b];simp⟩
  ·split
   ·exact e _ (aoe _ _)
   ·split
    ·have g:qS (qu k) 300 1:=by
      unfold qu
      split
      ·exact⟨ai,λc b=>by simp at b;rw[b];simp⟩
      ·exact⟨ai,λc b=>by cases b⟩
     have:=TU k d (qu k,true) 300 1 O g
     rw[ba,E1]
     exact⟨by have:=this.1;omega,λc b=>by have:=this.2 c b;omega⟩
    ·exact e _ ⟨ai,λc b=>by cases b⟩
theorem TU (k:Int):∀(l:List F)(a:bO×Bool)(n j:Nat),300<=n->qS a.1 n j->qS (kx k l a).1 (n+300*ck l) (j+ck l)
 |[],a,n,j,_,h=>by rw[kx,e_];exact h
 |m::r,a,n,j,o,h=>by
  rw[kx,dW]
  have:=TU k r (pz k a.1 (fk m).1,a.2&&(fk m).2) (n+300*ba m) (j+ba m) O (h.jn (Mz m) O)
  exact⟨by have:=this.1;omega,λc b=>by have:=this.2 c b;omega⟩
end
def aIl(x:Nat):∀l:List F,ck (l.take x)<=ck l:=by
 intro l
 induction l generalizing x with
 |nil=>simp
 |cons m r a=>
  cases x with
  |zero=>rw[gx,e_];omega
  |succ x=>rw[o4,dW,dW];have:=a x;omega
def ah0(m:F)(x:Nat):qS (kQ m x).1 (300*ba m) (ba m):=by
 have b:qS (qu m.aJ) 300 1:=by
  unfold qu;split
  ·exact⟨ai,λc a=>by simp at a;rw[a];simp⟩
  ·exact⟨ai,λc a=>by cases a⟩
 have:=TU m.aJ (m.aO.take x) (qu m.aJ,true) 300 1 O b;have d:=aIl x m.aO;unfold kQ;rw[j8 m,E1];exact⟨by have:=this.1;omega,λc a=>by have:=this.2 c a;omega⟩
inductive I0:F->Prop where
 |mk (k r:Int) (p:J) (ks:List F) (hp:k=2->b8 p/\rC (dM p)/\FN (l9 p).1) (hk:k=3\/k=4->∀c∈ks,I0 c):I0 (.mk k r p ks)
@[irreducible] def mA(m:F):=I0 m/\ba m<=1000
def Ap{m:F}(h:mA m):=(mA.eq_1 ..).mp h
def mA.at{m:F}(h:mA m)(a:(m.aJ==2)=true):b8 m.aF/\rC (dM m.aF)/\FN (l9 m.aF).1:=by
 have h:=(Ap h).1;have a:m.aJ=2:=an a;cases h with
 |mk k r p d b _=>exact b a
def mA.bu{m:F}(h:mA m)(e:KG m){c:F}(b:c∈m.aO):mA c:=by
 have u:=Ap h;unfold mA;refine⟨?_,?_⟩
 ·cases u.1 with
  |mk k r p j _ a=>exact a e c b
 ·have:=j8 m;have g:∀l:List F,c∈l->ba c<=ck l:=by
   intro l
   induction l with
   |nil=>intro h;cases h
   |cons d r i=>
    intro h;rw[dW];rcases da.1 h with rfl|h
    ·omega
    ·have:=i h;omega
  have:=g _ b;omega
def mA.len{m:F}(h:mA m):m.aO.length<=1000:=by have:=(Ap h).2;have a:=rj m.aO;rw[j8]at this;omega
def mA.and{m c:F}(h:mA m)(g:mA c)(x:Nat):wM (kQ m x).1 (fk c).1:=by have a:=ah0 m x;have b:=Mz c;have:=(Ap h).2;have:=(Ap g).2;unfold wM;exact⟨by have:=a.1;omega,by have:=b.1;omega,λd e=>by have:=a.2 d e;omega,λd e=>by have:=b.2 d e;omega⟩
def mA.or{m c:F}(h:mA m)(d:mA c)(x:Nat):OP (kQ m x).1 (fk c).1:=by have a:=ah0 m x;have b:=Mz c;have:=(Ap h).2;have:=(Ap d).2;unfold OP;have:=a.1;have:=b.1;omega
section
variable {m:F}{x:Nat}{c:F}(h:m.aO[((x:Nat):Int).toNat]?=some c)
include h
def aHu(a:(m.aJ==3)=true):jt (kQ m x).1 (fk c).1=(kQ m (x+1)).1:=by rw[MA h];show _=pz _ _ _;unfold pz;rw[aM (an a)]
def aHy(a:(m.aJ==3)=false):iK (kQ m x).1 (fk c).1=(kQ m (x+1)).1:=by rw[MA h];show _=pz _ _ _;unfold pz;rw[Z (an a)]
def aHv(a:(kQ m x).2=true):(fk c).2=(kQ m (x+1)).2:=by rw[MA h];show _=(_&&_);rw[a,wQ]
def aHw(a:(kQ m x).2=!true):false=(kQ m (x+1)).2:=by rw[MA h];show _=(_&&_);rw[a];rfl
end
def aHr{m:F}(h:(m.aJ==3)=true):kQ m 0=(⟨[[]],false⟩,true):=by rw[ahZ];unfold qu;rw[aM (an h)]
def aHs{m:F}(h:(m.aJ==3)=false):kQ m 0=(⟨[],false⟩,true):=by rw[ahZ];unfold qu;rw[Z (an h)]
def aHt{m:F}(h:(m.aJ==1)=true):fk m=(⟨[[]],false⟩,true):=by rw[My,aM (an h)]
def aHx{m:F}(a:(m.aJ==1)=false)(b:(m.aJ==2)=false)(d:(m.aJ==3)=false)(e:(m.aJ==4)=false):fk m=(⟨[],false⟩,true):=by rw[My,Z (an a),Z (an b),Z (by simp at d e;omega)]
def Bs{m:F}(h:(m.aJ==2)=true):fk m=(lY m.bU (l9 m.aF).1,(l9 m.aF).2):=by have h:m.aJ=2:=an h;rw[My,Z O,aM h]
section
variable {r:Int}(f:a_)
def aop(h:(r==1)=true):gC 1 f=lY r f:=by unfold lY;rw[aM (an h)]
def aoq(h:(r==2)=true):gC 2 f=lY r f:=by have h:r=2:=an h;unfold lY;rw[Z O,aM h]
def aor(h:(r==4)=true):iK (gC 1 f) (gC 1 f.neg)=lY r f:=by have h:r=4:=an h;unfold lY;rw[Z O,Z O,aM h]
def aos(h:(r==5)=true):gC 2 f.neg=lY r f:=by have h:r=5:=an h;unfold lY;rw[Z O,Z O,Z O,aM h]
def aot(h:(r==6)=true):gC 1 f.neg=lY r f:=by have h:r=6:=an h;unfold lY;rw[Z O,Z O,Z O,Z O,aM h]
def aoo(g:(r==1)=false)(e:(r==2)=false)(d:(r==4)=false)(b:(r==5)=false)(a:(r==6)=false):gC 0 f=lY r f:=by unfold lY;rw[Z (an g),Z (an e),Z (an d),Z (an b),Z (an a)]
end
theorem aHp(m:F)(h:mA m):bh 44 [wE .aP m] (tT [.agg ((eF .fD (fk m).1).map .d),bE (fk m).2]):=by
 generalize i:SizeOf.sizeOf m=D
 induction D using Nat.strongRecOn generalizing m
 rename_i D b;subst i;refine vF func44 rfl [F3 15,F3 69,arX,Zr,Zl,Zo,Y8,ot Vw 44 (.el W.aP) (λ(c:F)=>c∈m.aO/\mA c) (λ(c:F)=>tT [.agg ((eF .fD (fk c).1).map .d),bE (fk c).2]) (λc e=>b _ (F.lt e.1) c e.2 rfl)] [(25,⟨Nat,λx=>⟨[(1,br 0),(2,br 1),(6,br 2),(7,bT (kQ m x).2),(74,iT m.aO.length),(75,iT x)],[(0,cj .aP m),(1,cj .fD (⟨[],false⟩:bO)),(2,.cells ((eF .fD (kQ m x).1).map .d))],3⟩,λx=>(x<=m.aO.length/\KG m)/\True,λx=>m.aO.length-x⟩)] ?_;repeat' (first
  |((with_reducible show mt _ _ _ _ _);(conv=>whnf);(fail_if_success with_reducible show mt _ _ _ _ _))
  |intro _|apply aQ
  |refine aS 0 (aQ ?_ λ(x:Nat) (a:(x<=m.aO.length/\KG m)/\True)=>?_)
  |refine aS (x+1) ?_
  |fail)
 all_goals(try clear b)
 all_goals(try simp only[uv,AD,AF,C5,bz,fI]at*)
 all_goals first|exact bj|omega|((with_reducible show(_&&_)=true);kernel_rfl)| (with_reducible first|exact a.1.2|exact Co (.inl Y)|exact Co (.inr Y)|exact bM Y|exact h.bu a.1.2 (bM Y)|exact h.and (h.bu a.1.2 (bM Y)) _|exact h.or (h.bu a.1.2 (bM Y)) _|exact ae5 _ _ _|exact(h.at Y).1|exact(h.at Y).2.1|exact(h.at Y).2.2|exact aHv Y Y|exact aHw Y Y)|rw[aHu Y Y]|rw[aHy Y Y]|rw[aHq a.1.2 Y]|rw[aHr Y]<;>rfl|rw[aHs Y]<;>rfl|rw[aHt Y]<;>rfl|rw[aHx Y Y Y Y]<;>rfl|rw[Bs ‹(m.aJ==2)=true›,aop _ ‹(m.bU==1)=true›]|rw[Bs ‹(m.aJ==2)=true›,aoq _ ‹(m.bU==2)=true›]|rw[Bs ‹(m.aJ==2)=true›,aor _ ‹(m.bU==4)=true›]|rw[Bs ‹(m.aJ==2)=true›,aos _ ‹(m.bU==5)=true›]|rw[Bs ‹(m.aJ==2)=true›,aot _ ‹(m.bU==6)=true›]|rw[Bs ‹(m.aJ==2)=true›,aoo _ ‹(m.bU==1)=false› ‹(m.bU==2)=false› ‹(m.bU==4)=false› ‹(m.bU==5)=false› ‹(m.bU==6)=false›]|rw[Bs ‹(m.aJ==2)=true›]|have g:=h.len;have j:=a.1.1;simp only[be,bc]at*;omega|rfl|exfalso;simp_all;done
def asM:=dj (.el W.aP) aHp
@[irreducible] def nB(p:dK):Bool:=nY p.bx&&(decide (0<=p.iP)&&((IntKind.i64.wrap (p.iP+(p.all.length:Int))==(p.bx.length:Int))&&decide (oI p.aP<=(p.bx.length:Int))))
@[irreducible] def sW(p:dK):=iz p.aP/\ba p.aP<=1000000
def sW.Du(h:sW U):iz (fM U.aP):=by unfold sW at h;rw[AM];exact h.1
def sW.sz(h:sW U):SZ (fN U.aP):=by unfold sW at h;rw[aa0];have:=Lw U.aP;unfold SZ;omega
def v1{p:dK}(h:nY p.bx=false):false=nB p:=by unfold nB;rw[h];rfl
def v2{p:dK}(h:decide (0<=p.iP)=false):false=nB p:=by unfold nB;rw[h];simp
def v3{p:dK}(h:(IntKind.i64.wrap (p.iP+(p.all.length:Int))==(p.bx.length:Int))=false):false=nB p:=by unfold nB;rw[h];simp
def v4{p:dK}(a:nY p.bx=true)(b:decide (0<=p.iP)=true)(c:(IntKind.i64.wrap (p.iP+(p.all.length:Int))==(p.bx.length:Int))=true):decide (oI p.aP<=(p.bx.length:Int))=nB p:=by unfold nB;rw[a,b,c];rfl
def v4a{p:dK}(a:nY p.bx=true)(b:decide (0<=p.iP)=true)(c:(IntKind.i64.wrap (p.iP+(p.all.length:Int))==(p.bx.length:Int))=true):decide (oI (fM p.aP)<=(p.bx.length:Int))=nB p:=by rw[AM];exact v4 a b c
def v4b{p:dK}(a:nY p.bx=true)(b:decide (0<=p.iP)=true)(c:(IntKind.i64.wrap (p.iP+(p.all.length:Int))==(p.bx.length:Int))=true):decide (GI (fN p.aP)<=(p.bx.length:Int))=nB p:=by rw[aa0];have:GI (b9 p.aP)=oI p.aP:=Q_ p.aP;rw[this];exact v4 a b c
def C8{b:Bool}(h:b=!true):b=false:=h
theorem aJu(p:dK)(h:sW p):bh 17 [wE .pre p] (bT (nB p)):=by
 refine M4 (V:=Vx) (reg:=⟨[asj,Pr,ase],[]⟩) (ls:=[]) mixed func17 rfl af (js rfl) (G0 rfl) (args:=[(wE .pre p)]) (r:=bT (nB p)) ?_;repeat' first|intro _|apply aQ
 all_goals first|exact bj|((with_reducible show(_&&_)=true);kernel_rfl)| (with_reducible first|exact h.Du|exact h.sz)|(rename_i h;with_reducible first|exact v1 h|exact v2 h|exact v3 h|exact v1 (C8 h)|exact v2 (C8 h)|exact v3 (C8 h))|(with_reducible first|exact v4a ak ak ak|exact v4b ak ak ak)
def asT:=dj (.el W.pre) aJu
theorem aJt(p:dK)(h:sW p):bh 42 [wE .pre p] (bT (nB p)):=by
 refine M4 (V:=Vx) (reg:=⟨[asl,ast],[]⟩) (ls:=[]) mixed func42 rfl af (js rfl) (G0 rfl) (args:=[(wE .pre p)]) (r:=bT (nB p)) ?_;repeat' first|intro _|apply aQ
 all_goals first|exact bj|((with_reducible show(_&&_)=true);kernel_rfl)| (with_reducible first|exact h.Du|exact h.sz)|(rename_i h;with_reducible first|exact v1 h|exact v2 h|exact v3 h|exact v1 (C8 h)|exact v2 (C8 h)|exact v3 (C8 h))|(with_reducible first|exact v4a ak ak ak|exact v4b ak ak ak)
def asS:=dj (.el W.pre) aJt
@[irreducible] def kX(n:Nat)(s:bO):=s.l.length<=100000/\∀c∈s.l,c.length<=100000/\∀r∈c,FB n r.f
def An{n:Nat}{s:bO}(h:kX n s):=(kX.eq_1 ..).mp h
def eJ(P:aR->Prop)(s:bO):=∀c∈s.l,∀r∈c,P r
def eJ.and(f:eJ P a)(g:eJ P s):eJ P (jt a s):=by
 unfold jt;split
 ·exact λc d=>by cases d
 ·intro c d;obtain⟨x,h,d⟩:=kV.1 d;obtain⟨y,i,rfl⟩:=b_.1 d;intro r e;rcases cq.1 e with e|e
  ·exact f x h r e
  ·exact g y i r e
def eJ.or(d:eJ P a)(e:eJ P s):eJ P (iK a s):=λc hc=>by
 rcases cq.1 hc with hc|hc
 ·exact d c hc
 ·exact e c hc
def eJ.row{f:a_}(h:P ⟨k,f⟩):eJ P (gC k f):=λc a r b=>by unfold gC at a;rw[cL.1 a]at b;rw[cL.1 b];exact h
theorem eJ.ngf{P Q:aR->Prop}(a:∀r,P r->eJ Q (kL r)):∀(c:List aR)(s:bO),(∀r∈c,P r)->eJ Q s->eJ Q (c.foldl (λs r=>iK s (kL r)) s)
 |[],s,_,h=>h
 |r::c,s,b,h=>by rw[vk];exact eJ.ngf a c _ (λt d=>b t (cv _ d)) (h.or (a r (b r (b6 ..))))
theorem eJ.ngt{P Q:aR->Prop}(a:∀r,P r->eJ Q (kL r)):∀(l:List (List aR)) (s:bO),(∀c∈l,∀r∈c,P r)->eJ Q s->eJ Q (l.foldl (λs c=>jt s (sa c)) s)
 |[],s,_,h=>h
 |c::l,s,b,h=>by rw[vk];exact eJ.ngt a l _ (λt d=>b t (cv _ d)) (h.and (eJ.ngf a c _ (b c (b6 ..)) λc e=>by cases e))
def eJ.not(a:∀r,P r->eJ L (kL r))(h:eJ P s):eJ L (lR s):=eJ.ngt a s.l _ h λc d r b=>by rw[cL.1 d]at b;cases b
theorem eJ.P_{P Q:aR->Prop}{k:Int}(f:∀c:List aR,(∀r∈c,P r)->∀r∈ki k c,Q r){b:Bool}:∀(l a:List (List aR)),(∀c∈l,∀r∈c,P r)->(∀c∈a,∀r∈c,Q r)->eJ Q (qf k b l a)
 |[],a,_,h=>h
 |c::l,a,g,h=>by
  rw[qf];split
  ·exact λc j=>by cases j
  ·refine eJ.P_ f l _ (λt i=>g t (cv _ i)) λd e=>?_
   rcases cq.1 e with e|e
   ·exact h d e
   ·rw[cL.1 e];exact f c (g c (b6 ..))
def aaf{Q:aR->Prop}(g:∀r,P r->Q r)(h:∀r t,P r->P t->Q (zo k r t))(l:∀r t,P r->P t->∀q,q∈sk k r t->Q q)(c:List aR)(e:∀r∈c,P r):∀r∈ki k c,Q r:=by
 unfold ki;split
 ·rename_i i o;intro t d;unfold vK at d;obtain⟨j,p,d⟩:=kV.1 d;split at d
  ·cases d
  ·split at d
   ·rename_i a b m n;rw[cL.1 d];exact h _ _ (e _ (bM m)) (e _ (bM n))
   ·cases d
 ·intro t d;unfold vL at d;obtain⟨r,f,d⟩:=kV.1 d;have f:=nE f;unfold s_ at d;rcases cq.1 d with d|d
  ·split at d
   ·rw[cL.1 d];exact g r (e r f)
   ·cases d
  ·obtain⟨s,I,d⟩:=kV.1 d;exact l _ _ (e r f) (e s (nE I)) t d
theorem aaR{k:Int}{b:Bool}:∀(l a:List (List aR)),(qf k b l a).l.length<=a.length+l.length/\((∀c∈a,c.length<=60)->∀c∈(qf k b l a).l,c.length<=60)
 |[],a=>⟨by rw[qf];simp,λh=>h⟩
 |c::l,a=>by
  rw[qf];split
  ·exact⟨ai,λ_ c f=>by cases f⟩
  ·rename_i g;have:=aaR (k:=k) (b:=b) l (a++[ki k c]);refine⟨by have:=this.1;simp at this⊢;omega,λh=>this.2 λd e=>?_⟩;rcases cq.1 e with e|e
   ·exact h d e
   ·rw[cL.1 e];omega
theorem kX.not{n:Nat}{s:bO}(h:kX n s):kX n (lR s):=by
 have u:=An h;have l:=RJ s.l ⟨[[]],s.dw⟩ 0 ai λd f=>by simp at f;rw[f];simp
 have a:eJ (λr=>FB n r.f) (lR s):=eJ.not (P:=λr=>FB n r.f) (λr b=>by
  unfold kL;split
  ·exact eJ.or (.row b) (.row b.neg)
  ·split
   ·exact .row b.neg
   ·exact .row b.neg) λc e=>(u.2 c e).2
 unfold kX;exact⟨dH l.1 O,λc e=>⟨by have:=l.2 c e;have:=u.1;omega,a c e⟩⟩
def FB.mx(b:FB x N.f)(a:FB x M.f):FB (2*x+1) (zo k N M).f:=by
 have:IB x (qc (N.f.get k) (M.f.get k)):=by
  unfold qc;split
  ·exact(a.get k).neg
  ·exact a.get k
 have:=FB.fC (b.get k).aC a this b;exact this.up O
def FB.pr(b:FB x N.f)(c:FB x M.f)(q:aR)(a:q∈sk k N M):FB (2*x+1) q.f:=by
 unfold sk at a;split at a
 ·rw[cL.1 a];exact(FB.fC (c.get k).neg b (b.get k) c).up O
 ·cases a
def kX.ex(h:kX x s)(k:Int):kX (2*x+1) (k8 s k):=by
 have u:=An h;have l:=aaR (k:=k) (b:=s.dw) s.l [];have a:eJ (λr=>FB (2*x+1) r.f) (k8 s k):=eJ.P_ (P:=λr=>FB x r.f) (λc d=>aaf (P:=λr=>FB x r.f) (Q:=λr=>FB (2*x+1) r.f) (λr e=>e.up O) (λr t e f=>FB.mx e f) (λr t e f q g=>FB.pr e f q g) c d) s.l [] (λc d=>(u.2 c d).2) λc d=>by cases d
 unfold kX;refine⟨dH l.1 (by have:=u.1;simp;omega),λc d=>⟨by have:=l.2 (λc d=>by cases d) c d;omega,a c d⟩⟩
def kX.ng(h:kX x s)(b:x<=3000):yC s:=by have u:=An h;unfold yC FN;exact⟨u.1,λc a=>⟨(u.2 c a).1,λr d=>((u.2 c a).2 r d).up b⟩⟩
def kX.xp(h:kX x s)(b:x<=1000)(d:0<=k)(e:k<=2):tW s k:=by have u:=An h;unfold tW gj;exact⟨u.1,λc a=>⟨(u.2 c a).1,λr f=>((u.2 c a).2 r f).up b,d,e⟩⟩
def tq(a:List Bool)(b:Bool):Nat->bO->bO
 |0,s=>s
 |n+1,s=>if b=true/\s.dw=false then tq a b n (if(a[n]?).getD false then lR (k8 (lR s) n)else k8 s n)else s
def xo(n:Nat):Nat:=if n=3 then 200 else if n=2 then 401 else if n=1 then 803 else 1607
def uF(p:dK):bO:=tq p.all (fk (b9 p.aP)).2 p.all.length (fk (b9 p.aP)).1
@[irreducible] def nq(p:dK):Bool×Bool:=if(fk (b9 p.aP)).2=false\/(uF p).dw=true\/0<p.iP then(false,false)else((uF p).l.any λc=>c.all py,true)
end Go.Proofs.YtfbmhjooliccnaaGreatDoor
namespace Go.Proofs.YtfbmhjooliccnaaGreatDoor
open Go Go.Ab Go.Ab.VS Go.Proofs.Tryz
variable {L n:Nat}{k:Int}{X:Int→Rat}{p:J}{a R:bO}{l:List aR}{x:aY}{r P:aR}{b Q:List (List aR)}{t:S}{U:List J}{m:F}
theorem S6{m:F}{p:J}(a:p∈dY m):∀{l:List F},m∈l->p∈iS l
 |c::r,h=>by
  rw[iS];rcases da.1 h with rfl|h
  ·exact cq.2 (.inl a)
  ·exact cq.2 (.inr (S6 a h))
def CM.iP(l:1<=n)(o:n<=4)(q:L<=50000){T:Int->Prop}(h:CM (LX L T) m):(∀p∈dY m,¬0<ez p n)->CM (LX L (TL T n)) m:=by
 induction h with
 |tt=>exact λ_=>.tt
 |ff=>exact λ_=>.ff
 |gE r p s d=>
  intro f;have A:=f p (by rw[dY,aM rfl];exact cL.2 rfl);refine .gE r p s ⟨d.ln,λw t=>t.elim (d.ix w) λe=>?_⟩;have a:=tn d.ln q l o;have B:(bk p n).length<=1:=by
   cases i:cP p with
   |true=>rw[a.l0.2 i];simp
   |false=>have:=a.y6 i;omega
  have u:∀b,fV b p n 1=0:=λb=>by unfold fV dV;rw[iM O];exact jW b
  intro b y;have j:=a.ev b y;have g:=a.ev b (b n);rw[u]at j g;rw[HO]at g;rw[e,j,g];grind
 |node K v hK x z=>
  intro f;refine .node K v hK λc a=>z c a λp d=>f p ?_
  rw[dY,Z O];exact S6 d a
def aIQ{Q:J->Prop}(f:∀p,Q p->Ix k p)(a:ay)(v:Rat)(h:CM Q m):tr (up a k v) m=tr a m:=by
 induction h with
 |tt=>rw[yf _ rfl,yf _ rfl]
 |ff=>rw[Ed _ rfl,Ed _ rfl]
 |gE r p n g=>rw[tr,tr];simp[f p g a v]
 |node K i hK o b=>
  rw[qF _ hK,qF _ hK];have:∀l:List F,(∀c∈l,tr (up a k v) c=tr a c)->jg (up a k v) K l=jg a K l:=by
   intro l
   induction l with
   |nil=>intro _;rw[wG,wG]
   |cons c r b=>intro e;rw[od,od,e c (b6 ..),b λd j=>e d (cv _ j)]
  exact this i b
theorem air{c:F}:∀{l:List F},c∈l->ba c<=ck l
 |d::r,h=>by
  rw[dW];rcases da.1 h with rfl|h
  ·omega
  ·have:=air h;omega
theorem OL:∀{l:List F}{f:F->F},(∀c∈l,ba (f c)<=lZ (ba c))->1+ck (l.map f)<=(ck l+3)*(ck l+3)
 |[],f,_=>by rw[gW,e_];decide
 |c::r,f,h=>by
  have i:=h c (b6 ..);have k:=zN c;have j:=OL (l:=r) (f:=f) λd g=>h d (cv _ g)
  unfold lZ at i;rw[de,dW,dW];by_cases a:r=[]
  ·subst a;rw[gW,e_];generalize ba c=s at*;obtain⟨s,rfl⟩:∃t,s=t+1:=⟨s-1,O⟩;simp only[iN,E1]at*;omega
  ·have b:1<=ck r:=by
    cases r with
    |nil=>exact absurd rfl a
    |cons d r=>rw[dW];have:=zN d;omega
   generalize ba c=s at*;generalize ck r=R at*;obtain⟨s,rfl⟩:∃t,s=t+1:=⟨s-1,O⟩;obtain⟨R,rfl⟩:∃t,R=t+1:=⟨R-1,O⟩;simp only[iN,E1]at*;have e:R*s=s*R:=E2 _ _;omega
theorem aiT(a:ay)(f:F->Bool):∀l:List F,eV a l=(eV a (l.filter λc=>!f c)&&eV a (l.filter f))
 |[]=>rfl
 |m::r=>by
  have d:=aiT a f r;cases b:f m with
  |true=>rw[yy (p:=f) b,Ah (by simp[b]),eV,eV,d];cases tr a m<;>simp
  |false=>rw[Ah (p:=f) (by simp[b]),yy (by simp[b]),eV,eV,d,Bool.and_assoc]
theorem J5{j:bw->ByteArray}{lv k:Nat}(K:1<=lv)(H:lv<=4)(X:3*k+14<=50000){T:Int->Prop}(u:wY j k lv T):∀(f:Nat){m:F},CM (LX k T) m->ba m<=f->BU k lv T m (mG j lv f m)
 |0,m,_,h=>by have:=zN m;omega
 |f+1,m,V,hf=>by
  have hpos:=zN m
  have g:mG j lv (f+1) m=if fJ m lv=false then m else if m.aJ=4 then bF (kq (m.aO.map (mG j lv f)))else if m.aJ=3 then
   (match m.aO.filter (λc=>fJ c lv)with
   |[c]=>if c.aJ=4 then bF (df (m.aO.filter (λc=>!fJ c lv)++[mG j lv f c]))else bF (df (m.aO.filter (λc=>!fJ c lv)++[jI j (df [c]) lv]))
   |inner=>bF (df (m.aO.filter (λc=>!fJ c lv)++[jI j (df inner) lv])))
   else jI j m lv:=by rw[mG];rfl
  have L:∀{c:F},CM (LX k (TL T lv)) c->CM (LX (3*k+14) (TL T lv)) c:=λh=>h.imp λp R=>R.up O
  have iP:∀{c:F},CM (LX k T) c->fJ c lv=false->CM (LX k (TL T lv)) c:=λ{c} hc B=>hc.iP K H O λp R=>by unfold fJ at B;rw[List.any_eq_false]at B;simpa using B p R
  have M:∀{c:F},CM (LX k (TL T lv)) c->∀o v,tr (up o lv v) c=tr o c:=λhc o v=>aIQ (λp R=>R.ix lv (.inr rfl)) o v hc
  by_cases B:fJ m lv=false
  ·rw[aM B]at g;rw[g];have hfr:=iP V B;refine⟨L hfr,?_,λo=>?_,id⟩
   ·unfold lZ;have:ba m*1<=(ba m+2)*(ba m+2):=yF O O;omega
   ·simp only[M hfr];exact⟨λh=>⟨0,h⟩,λ⟨_,h⟩=>h⟩
  rw[Z B]at g;have rq:=LX.rq (T:=TL T lv) (show 3*k+14<=100000 by omega);by_cases C:m.aJ=4
  ·rw[aM C]at g;have N:=j8 m;have t:∀c∈m.aO,BU k lv T c (mG j lv f c):=λc hc=>J5 K H X u f (V.bu c hc) (by have:=air hc;omega)
   have s:CM (LX (3*k+14) (TL T lv)) (kq (m.aO.map (mG j lv f))):=.node 4 _ (.inr rfl) λc hc=>by obtain⟨d,hd,rfl⟩:=b_.1 hc;exact(t d hd).cm
   obtain⟨o1,o2,o3⟩:=tB rq s.rm;rw[g];refine⟨o1,dH o3 ?_,λo=>?_,λ_=>DC O s.rm⟩
   ·unfold kq lZ;rw[ba,N];have:=OL (l:=m.aO) (f:=mG j lv f) λc hc=>(t c hc).sz
    rw[show 1+ck m.aO+2=ck m.aO+3 by omega];exact this
   ·rw[o2,aiZ];have e:∀A,tr A m=fq A m.aO:=λA=>by rw[BE,Z O,Z O,Z O,aM C]
    simp only[e];have:∀l:List F,(∀c∈l,BU k lv T c (mG j lv f c))->(fq o (l.map (mG j lv f))=true↔∃v,fq (up o lv v) l=true):=by
     intro l
     induction l with
     |nil=>intro _;rw[gW,fq];simp[fq]
     |cons d r ih=>
      intro hh;rw[de,fq,wO,(hh d (b6 ..)).tr,ih λc hc=>hh c (cv _ hc)];simp only[fq,wO];constructor
      ·rintro(⟨v,h⟩|⟨v,h⟩)
       ·exact⟨v,.inl h⟩
       ·exact⟨v,.inr h⟩
      ·rintro⟨v,h|h⟩
       ·exact .inl ⟨v,h⟩
       ·exact .inr ⟨v,h⟩
    exact this _ t
  rw[Z C]at g;by_cases D:m.aJ=3
  ·rw[aM D]at g;have q:ck (m.aO.filter λc=>fJ c lv)+ck (m.aO.filter λc=>!fJ c lv)=ck m.aO:=Uc _ _;have Q:=j8 m;have U:∀c∈m.aO.filter (λc=>!fJ c lv),CM (LX k (TL T lv)) c:=λc hc=>by obtain⟨c1,c2⟩:=jr.1 hc;exact iP (V.bu c c1) (an c2)
   have E:∀o v,eV (up o lv v) (m.aO.filter λc=>!fJ c lv)=eV o (m.aO.filter λc=>!fJ c lv):=λo v=>by have:=M (CM.node 3 _ (.inl rfl) U) o v;rw[qF _ (.inl rfl),qF _ (.inl rfl)]at this;exact this
   have w:∀c∈m.aO.filter (λc=>fJ c lv),CM (LX k T) c:=λc hc=>V.bu c (jr.1 hc).1
   have z:∀x:F,CM (LX (3*k+14) (TL T lv)) x->(∀o,tr o x=true↔∃v,eV (up o lv v) (m.aO.filter λc=>fJ c lv)=true)->1+(ck (m.aO.filter λc=>!fJ c lv)+ba x)<=lZ (ba m)->mG j lv (f+1) m=bF (df (m.aO.filter (λc=>!fJ c lv)++[x]))->BU k lv T m (mG j lv (f+1) m):=λx x1 x2 x3 x4=>by
    have s:CM (LX (3*k+14) (TL T lv)) (df (m.aO.filter (λc=>!fJ c lv)++[x])):=.node 3 _ (.inl rfl) λc hc=>by
     rcases cq.1 hc with hc|hc
     ·exact L (U c hc)
     ·rw[cL.1 hc];exact x1
    obtain⟨o1,o2,o3⟩:=tB rq s.rm;rw[x4];refine⟨o1,dH o3 ?_,λo=>?_,λ_=>DC O s.rm⟩
    ·unfold df;rw[ba,zO,dW,e_];omega
    ·rw[o2,MW,aiS,eV,eV,H3,ej,x2];have e:∀A,tr A m=eV A m.aO:=λA=>by rw[BE,Z O,Z O,aM D]
     simp only[e,aiT _ (λc=>fJ c lv) m.aO,ej,E];constructor
     ·rintro⟨h,v,h2⟩;exact⟨v,h,h2⟩
     ·rintro⟨v,h,h2⟩;exact⟨h,v,h2⟩
   have G:∀inner,m.aO.filter (λc=>fJ c lv)=inner->mG j lv (f+1) m=bF (df (m.aO.filter (λc=>!fJ c lv)++[jI j (df inner) lv]))->BU k lv T m (mG j lv (f+1) m):=λinner y he=>by
    rw[y]at w z q;have s:CM (LX k T) (df inner):=.node 3 _ (.inl rfl) w;have P:ba (df inner)=1+ck inner:=by unfold df;rw[ba]
    have a:=Ow K H X u s;refine z _ a.cm (λo=>by rw[a.tr];simp only[MW]) ?_ he;have b:=aob K H X u s;rw[P]at b;rw[Q];unfold lZ;generalize ck (m.aO.filter λc=>!fJ c lv)=n at*;generalize ck inner=i at*;generalize ba (jI j (df inner) lv)=a at*;rw[<-q];simp only[iN,E1]at*;have e:n*i=i*n:=E2 _ _;omega
   cases y:m.aO.filter (λc=>fJ c lv)with
   |nil=>rw[y]at g;exact G [] y g
   |cons c r=>
    cases r with
    |nil=>
     rw[y]at g;by_cases hc4:c.aJ=4
     ·simp only[aM hc4]at g;rw[y]at w z q;have c1:=w c (cL.2 rfl);rw[dW,e_]at q;have a:=J5 K H X u f c1 O;refine z _ a.cm (λo=>by rw[a.tr];simp only[eV,H3]) ?_ g;have b:=a.sz;rw[Q];unfold lZ at*;generalize ck (m.aO.filter λc=>!fJ c lv)=n at*;generalize ba c=i at*;generalize ba (mG j lv f c)=a at*;rw[<-q];simp only[iN,E1]at*;have e:n*i=i*n:=E2 _ _;omega
     ·simp only[Z hc4]at g;exact G [c] y g
    |cons d r=>rw[y]at g;exact G (c::d::r) y g
  ·rw[Z D]at g;rw[g];exact Ow K H X u V
namespace a_
def val(a:ay)(f:a_):Rat:=(iV f.a0:Rat)*a 1+(iV f.a1:Rat)*a 2+(iV f.a2:Rat)*a 3+(iV f.a3:Rat)*a 4+(iV f.a4:Rat)
end a_
def qv(a:ay)(r:aR):=hK r.aJ (r.f.val a)
def nw(a:ay)(c:List aR):=∀r∈c,qv a r
def eR(a:ay)(l:List (List aR)):Prop:=∃c∈l,nw a c
def Cn(x:aY):=x=iD (iV x)
structure a_.Ok(f:a_):Prop where
 c0:Cn f.a0
 c1:Cn f.a1
 c2:Cn f.a2
 c3:Cn f.a3
 c4:Cn f.a4
def Cn.i(n:Int):Cn (iD n):=by unfold Cn;rw[fU]
def Cn.z:Cn ⟨false,[]⟩:=by have:(⟨false,[]⟩:aY)=iD 0:=QJ.symm;rw[this];exact .i 0
theorem a_.Ok.get{f:a_}(h:f.Ok)(k:Int):Cn (f.get k):=by unfold a_.get;split;exact h.c0;split;exact h.c1;split;exact h.c2;split;exact h.c3;exact h.c4
theorem a_.Ok.neg(f:a_):f.neg.Ok:=⟨.i _,.i _,.i _,.i _,.i _⟩
theorem a_.Ok.fC(a:aY)(f:a_)(b:aY)(g:a_):(a_.fC a f b g).Ok:=⟨.i _,.i _,.i _,.i _,.i _⟩
def a_.Ej(ρ:ay)(f:a_):f.neg.val ρ=-f.val ρ:=by unfold a_.neg a_.val;simp only[fU,N3];grind
def a_.ajc(ρ:ay)(a:aY)(f:a_)(b:aY)(g:a_):(a_.fC a f b g).val ρ=(iV a:Rat)*f.val ρ+(iV b:Rat)*g.val ρ:=by unfold a_.fC a_.val a_.r_;simp only[fU,N1,Rat.intCast_mul];grind
def a_.Ek(a:ay)(f:a_)(b:0<=k)(c:k<=3)(v:Rat):f.val (up a (k+1) v)=(iV (f.get k):Rat)*v+f.val (up a (k+1) 0):=by
 obtain rfl|rfl|rfl|rfl:k=0\/k=1\/k=2\/k=3:=O
 all_goals
  unfold a_.val a_.get up;simp;try grind
def Mw(h:Cn x):bm x=dx (iV x:Rat):=by
 have a:Dg x.aC:=by rw[h];exact iv _
 rw[qz a,ahw];unfold sv;split
 ·rfl
 ·split
  ·rw[Z O]
  ·rw[aM O]
def Mi(h:Cn x):bm x=0↔(iV x:Rat)=0:=by rw[Mw h];rcases pM (iV x:Rat)with⟨a,e⟩|⟨a,e⟩|⟨a,e⟩<;>rw[e]<;>constructor<;>intro h<;>first|omega|grind
def Tq(h:Cn x):0<bm x↔0<(iV x:Rat):=by rw[Mw h];rcases pM (iV x:Rat)with⟨a,e⟩|⟨a,e⟩|⟨a,e⟩<;>rw[e]<;>constructor<;>intro h<;>first|omega|grind
def ag3(h:Cn x):bm x<0↔(iV x:Rat)<0:=by rw[Mw h];rcases pM (iV x:Rat)with⟨a,e⟩|⟨a,e⟩|⟨a,e⟩<;>rw[e]<;>constructor<;>intro h<;>first|omega|grind
def WL(c:List aR):=∀r∈c,r.f.Ok
def N9(l:List (List aR)):=∀c∈l,WL c
def ag5:eR X (Q++b)↔eR X Q\/eR X b:=by
 unfold eR;constructor
 ·rintro⟨c,hc,h⟩;rcases cq.1 hc with hc|hc
  ·exact .inl ⟨c,hc,h⟩
  ·exact .inr ⟨c,hc,h⟩
 ·rintro(⟨c,hc,h⟩|⟨c,hc,h⟩)
  ·exact⟨c,cq.2 (.inl hc),h⟩
  ·exact⟨c,cq.2 (.inr hc),h⟩
def ag6:eR X (n_ Q b)↔eR X Q/\eR X b:=by
 unfold eR n_ nw;constructor
 ·rintro⟨c,e,h⟩;obtain⟨x,f,e⟩:=kV.1 e;obtain⟨y,g,rfl⟩:=b_.1 e;exact⟨⟨x,f,λr d=>h r (cq.2 (.inl d))⟩,y,g,λr d=>h r (cq.2 (.inr d))⟩
 ·rintro⟨⟨x,f,i⟩,y,g,j⟩;refine⟨x++y,kV.2 ⟨x,f,b_.2 ⟨y,g,rfl⟩⟩,λr d=>?_⟩;rcases cq.1 d with d|d
  ·exact i r d
  ·exact j r d
def DZ(a:ay):¬eR a []:=λ⟨c,b,_⟩=>by cases b
def Ho{c:List aR}:eR X [c]↔nw X c:=by
 unfold eR;constructor
 ·rintro⟨d,a,h⟩;rwa [cL.1 a]at h
 ·exact λh=>⟨c,cL.2 rfl,h⟩
def aGj:nw X [r]↔qv X r:=by
 unfold nw;constructor
 ·exact λh=>h r (cL.2 rfl)
 ·intro h t a;rwa [cL.1 a]
def Mm(a:ay):nw a []:=λr b=>by cases b
def uW{f:a_}:eR X (gC k f).l↔hK k (f.val X):=by unfold gC;rw[Ho,aGj];rfl
def aDY(h:(iK a R).dw=false):a.dw=false/\R.dw=false:=by unfold iK at h;simp only[Bool.or_eq_false_iff]at h;exact h.1
def LU{b:bO}:eR X (iK a b).l↔eR X a.l\/eR X b.l:=ag5
def Oi{b:bO}(h:(jt a b).dw=false):a.dw=false/\b.dw=false/\(jt a b).l=n_ a.l b.l:=by
 unfold jt at h⊢;split at h
 ·cases h
 ·rename_i c;have:a.dw=false/\b.dw=false:=by cases d:a.dw<;>cases e:b.dw<;>simp[d,e]at c⊢
  exact⟨this.1,this.2,by rw[Z c]⟩
def aBW(r:aR):eR X (kL r).l↔¬qv X r:=by
 unfold kL qv;split
 ·rename_i h;rw[LU,uW,uW,a_.Ej,h];simp only[hK];simp;grind
 ·rename_i a;split
  ·rename_i h;rw[uW,a_.Ej,h];simp only[hK];simp;grind
  ·rename_i b;rw[uW,a_.Ej];unfold hK;rw[Z a,Z b];simp;grind
theorem ad8{a:ay}:∀{c:List aR}{s:bO},eR a (c.foldl (λs r=>iK s (kL r)) s).l↔eR a s.l\/¬nw a c
 |[],s=>⟨.inl,λh=>h.elim id λh=>absurd (Mm a) h⟩
 |r::c,s=>by
  rw[vk,ad8 (c:=c),LU,aBW];have:nw a (r::c)↔qv a r/\nw a c:=by unfold nw;rw[List.forall_mem_cons]
  rw[this];grind
theorem ad9{ρ:ay}:∀{l:List (List aR)} {s:bO},(l.foldl (λs c=>jt s (sa c)) s).dw=false->s.dw=false/\(eR ρ (l.foldl (λs c=>jt s (sa c)) s).l↔eR ρ s.l/\¬eR ρ l)
 |[],s,h=>⟨h,⟨λh=>⟨h,DZ ρ⟩,λh=>h.1⟩⟩
 |c::l,s,h=>by
  rw[vk]at h⊢;obtain⟨b,a⟩:=ad9 (ρ:=ρ) (l:=l) h;obtain⟨e,f,d⟩:=Oi b;refine⟨e,?_⟩;rw[a,d,ag6];unfold sa;rw[ad8];have:eR ρ (c::l)↔nw ρ c\/eR ρ l:=by unfold eR;simp
  rw[this];have:=DZ ρ;show(eR ρ s.l/\(eR ρ []\/¬nw ρ c))/\¬eR ρ l↔_;grind
def aeu{ρ:ay}(h:(lR a).dw=false):a.dw=false/\(eR ρ (lR a).l↔¬eR ρ a.l):=by unfold lR RI at*;obtain⟨b,c⟩:=ad9 (ρ:=ρ) h;refine⟨b,?_⟩;rw[c];have:eR ρ [[]]:=Ho.2 (Mm ρ);show eR ρ [[]]/\_↔_;grind
def zH(a:ay)(k:Int)(r:aR):Rw:=⟨r.aJ,(iV (r.f.get k):Rat),r.f.val (up a (k+1) 0)⟩
def ag2(a:ay)(b:0<=k)(c:k<=3)(r:aR)(v:Rat):qv (up a (k+1) v) r↔(zH a k r).at v:=by unfold qv Rw.at zH;rw[a_.Ek a _ b c]
def aJv{f:a_}(b:0<=k)(c:k<=3)(h:(iV (f.get k):Rat)=0)(a:ay):f.val a=f.val (up a (k+1) 0):=by have:=f.Ek a b c (a (k+1));rw[HO,h]at this;grind
def aae(d:l[L]?=some r):P∈vK k l L n↔∃j,j<n/\j≠L/\∃u,l[j]?=some u/\P=zo k r u:=by
 unfold vK;rw[kV];constructor
 ·rintro⟨j,c,h⟩;rw[oZ]at c;split at h
  ·cases h
  ·rename_i a;rw[d]at h;cases b:l[j]? with
   |none=>rw[b]at h;cases h
   |some u=>rw[b]at h;exact⟨j,c,a,u,b,cL.1 h⟩
 ·rintro⟨j,c,a,u,b,rfl⟩;refine⟨j,oZ.2 c,?_⟩;rw[Z a,d,b];exact cL.2 rfl
def adZ(z:Int):((z.natAbs:Int):Rat)=if(z:Rat)<0 then-(z:Rat)else(z:Rat):=by
 have c:((0:Int):Rat)=0:=rfl;by_cases h:z<0
 ·rw[aM (by rw[<-c];exact E8.2 h),<-N3];congr 1;omega
 ·rw[Z (by rw[<-c,E8];exact h)];congr 1;omega
def aAE(b:r.f.Ok)(e:P.f.Ok)(g:(iV (r.f.get k):Rat)≠0):∃c d:Rat,0<c/\d*(iV (r.f.get k):Rat)=-(c*(iV (P.f.get k):Rat))/\∀σ,(zo k r P).f.val σ=c*P.f.val σ+d*r.f.val σ:=by
 refine⟨((iV (r.f.get k)).natAbs:Int),(iV (qc (r.f.get k) (P.f.get k)):Rat),?_,?_,λσ=>?_⟩
 ·rw[adZ];split<;>grind
 ·unfold qc;have a:=Tq (b.get k);rw[adZ];split
  ·rename_i h;rw[a]at h;rw[fU,N3,Z ah];grind
  ·rename_i h;rw[a]at h;rw[aM ah];grind
 ·unfold zo;rw[a_.ajc,fU]
def atr(g:ay){k:Int}(z:0<=k)(A:k<=3)(o:WL l):nw g (ki k l)↔∃v,nw (up g (k+1) v) l:=by
 have M:(∃v,nw (up g (k+1) v) l)↔∃v,∀t∈l.map (zH g k),t.at v:=by
  constructor
  ·rintro⟨v,N⟩;refine⟨v,λt m=>?_⟩;obtain⟨r,n,rfl⟩:=b_.1 m;exact(ag2 g z A r v).1 (N r n)
  ·rintro⟨v,N⟩;exact⟨v,λr n=>(ag2 g z A r v).2 (N _ (b_.2 ⟨r,n,rfl⟩))⟩
 rw[M];unfold ki;cases hf:l.findIdx? (iC k)with
 |some i=>
  obtain⟨V,D,_⟩:=List.findIdx?_eq_some_iff_getElem.1 hf;have E:l[i]?=some l[i]:=cN V;have P:l[i]∈l:=tZ V;unfold iC at D;rw[ej,be,be]at D;have Q:(iV (l[i].f.get k):Rat)≠0:=λh=>D.2 ((Mi ((o _ P).get k)).2 h)
  rw[atT (b_.2 ⟨_,P,rfl⟩) D.1 Q];have e:=Rw.Dv (r:=zH g k l[i]) Q;generalize hx:(zH g k l[i]).bd.x=x at*;change (iV (l[i].f.get k):Rat)*x=-(l[i].f.val (up g (k+1) 0))at e;show nw g (vK k l i l.length)↔_;have G:∀t∈l,qv g (zo k l[i] t)↔hK t.aJ ((zH g k t).a*x+(zH g k t).b):=λt m=>by
   obtain⟨c,d,g1,g2,g3⟩:=aAE (k:=k) (o _ P) (o t m) Q;unfold qv;show hK t.aJ _↔_;have H:=t.f.Ek g z A (g (k+1));have K:=l[i].f.Ek g z A (g (k+1));rw[HO]at H K;rw[g3,H,K];have:c*((iV (t.f.get k):Rat)*g (k+1)+t.f.val (up g (k+1) 0))+d*((iV (l[i].f.get k):Rat)*g (k+1)+l[i].f.val (up g (k+1) 0))=c*((iV (t.f.get k):Rat)*x+t.f.val (up g (k+1) 0)):=by
    generalize(iV (t.f.get k):Rat)=a at*;generalize(iV (l[i].f.get k):Rat)=b at*;generalize t.f.val (up g (k+1) 0)=p at*;generalize l[i].f.val (up g (k+1) 0)=q at*;generalize g (k+1)=y at*;have e1:d*(b*y)=-(c*a)*y:=by rw[<-g2];grind
    have e2:d*q=c*a*x:=by
     have:d*(b*x)=-(c*a)*x:=by rw[<-g2];grind
     rw[e]at this;grind
    grind
   rw[this];exact Df g1
  constructor
  ·intro h t m;obtain⟨u,C,rfl⟩:=b_.1 m;obtain⟨j,R,rfl⟩:=Iw C;by_cases B:j=i
   ·subst B;show hK (l[j].aJ) _;rw[D.1];show hK 0 ((iV (l[j].f.get k):Rat)*x+l[j].f.val (up g (k+1) 0));rw[e];unfold hK;rw[aM rfl];grind
   ·exact(G _ C).1 (h _ ((aae E).2 ⟨j,R,B,_,cN R,rfl⟩))
  ·intro h t m;obtain⟨j,R,B,u,C,rfl⟩:=(aae E).1 m;have L:=bM C;exact(G u L).2 (h _ (b_.2 ⟨u,L,rfl⟩))
 |none=>
  have T:=List.findIdx?_eq_none_iff.1 hf;have hz:∀t∈l.map (zH g k),t.k=0->t.a=0:=λt m hk=>by obtain⟨r,n,rfl⟩:=b_.1 m;have:=T r n;unfold iC at this;have w:r.aJ=0:=hk;rw[w]at this;simp at this;exact(Mi ((o r n).get k)).1 this
  rw[atU hz];show nw g (vL k l l.length)↔_;unfold vL;rw[im];have H:∀r∈l,(iV (r.f.get k):Rat)=0->(qv g r↔hK r.aJ (r.f.val (up g (k+1) 0))):=λr n h=>by unfold qv;rw[aJv z A h g]
  have X:∀r∈l,∀t∈l,∀q:Int,qv g ⟨q,.fC (iD (-iV (t.f.get k))) r.f (r.f.get k) t.f⟩↔hK q (-(iV (t.f.get k):Rat)*r.f.val (up g (k+1) 0)+(iV (r.f.get k):Rat)*t.f.val (up g (k+1) 0)):=λr n t m q=>by
   unfold qv;show hK q (a_.val g _)↔_;have a1:=r.f.Ek g z A (g (k+1));have a2:=t.f.Ek g z A (g (k+1));rw[HO]at a1 a2;rw[a_.ajc,fU,N3,a1,a2];have:∀x y:Rat,x=y->(hK q x↔hK q y):=λx y h=>by rw[h]
   exact this _ _ ah
  constructor
  ·intro h;refine⟨λt m w=>?_,λt m u C w U=>?_⟩
   ·obtain⟨r,n,rfl⟩:=b_.1 m;refine(H r n w).1 (h r (kV.2 ⟨r,n,?_⟩));unfold s_;rw[aM ((Mi ((o r n).get k)).2 w)];exact cq.2 (.inl (cL.2 rfl))
   ·obtain⟨r,n,rfl⟩:=b_.1 m;obtain⟨s,I,rfl⟩:=b_.1 C;refine(X r n s I _).1 (h _ (kV.2 ⟨r,n,?_⟩));unfold s_;refine cq.2 (.inr (kV.2 ⟨s,by rw[im];exact I,?_⟩));unfold sk;rw[aM ⟨(Tq ((o r n).get k)).2 w,(ag3 ((o s I).get k)).2 U⟩];exact cL.2 rfl
  ·rintro⟨w,U⟩ t m;obtain⟨r,n,m⟩:=kV.1 m;unfold s_ at m;rcases cq.1 m with m|m
   ·split at m
    ·rename_i h;rw[cL.1 m];have:=(Mi ((o r n).get k)).1 h;exact(H r n this).2 (w _ (b_.2 ⟨r,n,rfl⟩) this)
    ·cases m
   ·obtain⟨s,I,m⟩:=kV.1 m;rw[im]at I;unfold sk at m;split at m
    ·rename_i h;rw[cL.1 m];exact(X r n s I _).2 (U _ (b_.2 ⟨r,n,rfl⟩) _ (b_.2 ⟨s,I,rfl⟩) ((Tq ((o r n).get k)).1 h.1) ((ag3 ((o s I).get k)).1 h.2))
    ·cases m
theorem aaK(f:ay){k:Int}(j:0<=k)(i:k<=3){b:Bool}:∀{l a:List (List aR)},N9 l->(qf k b l a).dw=false->b=false/\(eR f (qf k b l a).l↔eR f a\/∃v,eR (up f (k+1) v) l)
 |[],a,_,h=>⟨h,⟨.inl,λh=>h.elim id λ⟨v,e⟩=>absurd e (DZ _)⟩⟩
 |c::l,a,g,h=>by
  rw[qf]at h⊢;split at h
  ·cases h
  ·rename_i m;rw[Z m];obtain⟨p,o⟩:=aaK f j i (l:=l) (λd n=>g d (cv _ n)) h;refine⟨p,?_⟩;rw[o,ag5,Ho,atr f j i (g c (b6 ..))];have:∀v,eR (up f (k+1) v) (c::l)↔nw (up f (k+1) v) c\/eR (up f (k+1) v) l:=λv=>by unfold eR;simp
   simp only[this];constructor
   ·rintro((h|⟨v,e⟩)|⟨v,e⟩)
    ·exact .inl h
    ·exact .inr ⟨v,.inl e⟩
    ·exact .inr ⟨v,.inr e⟩
   ·rintro(h|⟨v,e|e⟩)
    ·exact .inl (.inl h)
    ·exact .inl (.inr ⟨v,e⟩)
    ·exact .inr ⟨v,e⟩
def aaL(b:ay)(c:0<=k)(d:k<=3)(I:N9 a.l)(h:(k8 a k).dw=false):a.dw=false/\(eR b (k8 a k).l↔∃v,eR (up b (k+1) v) a.l):=by obtain⟨e,f⟩:=aaK b c d I h;refine⟨e,?_⟩;unfold k8;rw[f];have:=DZ b;grind
def ab3(h:r.f.Ok)(hk:r.aJ=0\/r.aJ=1\/r.aJ=2):py r=true↔qv (λ_=>0) r:=by
 have e:r.f.val (λ_=>0)=(iV r.f.a4:Rat):=by unfold a_.val;simp;try grind
 have I:=Mw h.c4;unfold qv;rw[e];generalize(iV r.f.a4:Rat)=y at*;rcases pM y with⟨a,b⟩|⟨a,b⟩|⟨a,b⟩<;>rw[b]at I<;>rcases hk with hk|hk|hk<;>simp[py,hK,hk,I]<;>grind
def aeH(h:bQ L p)(a:cP p=false):si p=true:=by
 cases h with
 |const n=>rw[xG]at a;have d:n≠0:=cQ a;have:cT n.natAbs≠[]:=PP O;have b:0<(cT n.natAbs).length:=List.length_pos_iff.2 this;unfold si kP iD;simp[J.aC,b]
 |node e cs f b g i j=>unfold si;have:0<cs.length:=O;simp[J.aL,this]
theorem aiO:∀(l:List J)(i:Nat)(a:Int),a<=mj l i a
 |[],i,a=>by rw[mj];exact tY _
 |c::r,i,a=>by
  rw[mj];have:=aiO r (i+1) (if si c then max a ((i:Int)+h_ c)else a);refine yu ?_ this;split
  ·exact Int.le_max_left _ _
  ·exact tY _
theorem aiM:∀(l:List J)(i:Nat)(a:Int){j:Nat}{c:J},l[j]?=some c->si c=true->(i:Int)+j+h_ c<=mj l i a
 |[],i,a,j,c,h,_=>by simp at h
 |d::r,i,a,0,c,h,b=>by have h:d=c:=an h;subst h;rw[mj,b];have:=aiO r (i+1) (max a ((i:Int)+h_ d));simp only[gT];omega
 |d::r,i,a,j+1,c,h,b=>by rw[mj];have:=aiM r (i+1) (if si d then max a ((i:Int)+h_ d)else a) (j:=j) (c:=c) (an h) b;omega
def aiQ{l:Int}{n:Bool}{a:ao}{cs:List J}{j:Nat}{c:J}(h:cs[j]?=some c)(b:si c=true):(j:Int)+h_ c<=h_ (.mk l n a cs):=by have:=aiM cs 0 0 h b;rw[h_];omega
def aiR{f:Nat}(g:2<=U.length)(i:∀c∈U,bQ L c)(j:∀c,U.getLast?=some c->cP c=false)(q:h_ (.mk f false [] U)<=k)(r:k<=1):∃a b,U=[a,b]/\h_ b<=k-1/\cP b=false:=by
 obtain⟨c,d⟩:∃c,U.getLast?=some c:=by
  cases e:U.getLast? with
  |none=>rw[List.getLast?_eq_none_iff]at e;rw[e]at g;simp at g
  |some c=>exact⟨c,rfl⟩
 have h:=j c d;have m:=i c (NO d);rw[rJ]at d;have o:=aiQ (l:=f) (n:=false) (a:=[]) d (aeH m h);have s:=(MV c).1;have p:U.length=2:=O
 match U,p with
 |[a,b],_=>have e:b=c:=an d;subst e;refine⟨a,b,rfl,?_,h⟩;simp at o;omega
def aIL(h:bQ L p)(c:h_ p<=0):∃n,p=kP n:=by
 cases h with
 |const n=>exact⟨n,rfl⟩
 |node g i j k d e f=>exfalso;obtain⟨a,b,rfl,l,m⟩:=aiR d e f c O;have:=(MV b).1;omega
def aiL(h:bQ L p):L<=4->h_ p<=1->kR p/\DL 1 p:=by
 induction h with
 |const n=>exact λ_ _=>⟨.const n,.const 1 n⟩
 |node o cs f w q g r s=>
  intro x u;obtain⟨a,b,rfl,v,y⟩:=aiR q g r u O;have d:=g a ai;have i:=g b ai;obtain⟨n,rfl⟩:=aIL i v;have k:kR a/\DL 1 a:=by
   cases e:cP a with
   |true=>rw[y7 d e];exact⟨.zero,.zero 1⟩
   |false=>have:=aiQ (l:=o) (n:=false) (a:=[]) (cs:=[a,kP n]) (j:=0) (c:=a) rfl (aeH d e);exact s a ai O O
  refine⟨λz A t=>?_,.mk _ _ _ _ ai λc m=>?_⟩
  ·rw[ph _ _ f O,ph _ _ f O,ph _ _ f O];simp only[dy,jw];rw[k.1];grind
  ·simp at m;rcases m with rfl|rfl
   ·exact k.2
   ·exact .const 1 n
def bQ.lvl{q:J}(h:bQ L q)(b:q.aK<=n):bQ n q:=by
 cases h with
 |const m=>exact .const m
 |node a c d i e f g=>have:(a:Int)<=n:=b;exact .node a c d O e f g
def TN(n:Nat):Int->Prop:=λw=>(n:Int)<w
def bQ.ixn{q:J}(h:bQ L q)(a:q.aK<=n)(b:TN n k):Ix k q:=by unfold TN at b;have:=(h.lvl a).fr (v:=k.toNat) O;rw[show((k.toNat:Nat):Int)=k by omega]at this;exact this.ix
structure RL(n:Nat)(p:J):Prop where
 np:b8 p
 nr:LX 140 (TN n) (dT p)
 sn:LX 140 (TN n) (eQ p)
 lv:(cY p).aK≠0->(eQ p).aK≠0
def aFA(h:RF p)(x:h_ (dT p)<=1)(l:(dT p).aK<=n):RL n p:=by
 obtain⟨o,r⟩:=h;have b:=Qh (dg:=4) r o O O;have A:=aa6 (dg:=4) r o;have d:fh p<2^140:=by have s:=aDS A.1;have B:nP p<=40:=O;have M:=jS (2^(32*4)) B;have N:40*2^(32*4)<2^140:=ae;omega
 have u:=s7 b;obtain⟨z,f⟩:=Bt b;have e:=sh b;have a:bQ 4 (dT p):=by rw[e];exact u.bR
 obtain⟨v,c⟩:=aiL a (bK 4) x;have C:Sz 1 140 (dT p):=⟨a,c,by rw[e];exact rL u.nm d⟩;have D:Sz 1 140 (eQ p):=⟨f.bR,f.dl 1 (by rw[<-e];exact c),rL f.nm d⟩;have j:kR p:=λg E t=>by have:=v g E t;rw[wj b,wj b,wj b]at this;exact this
 have k:∀w,TN n w->Ix w p:=λw i g y=>by have:=a.ixn l i g y;rw[wj b,wj b]at this;exact this
 refine⟨b,⟨⟨C,v⟩,λw i=>a.ixn l i⟩,⟨⟨D,j.sn b⟩,λw i=>(k w i).sn b⟩,λG s=>G ?_⟩;have H:∃m,eQ p=kP m:=⟨_,f.bR.sX s⟩;obtain⟨m,K⟩:=H;rw[<-e];obtain⟨q,L,_⟩:=J2 a c (z:=(z:Rat)*m) λg=>by rw[wj b,<-f.ev g,K,jw]
 rw[L];rfl
def X4(b:ay)(a:Int):Rat:=if a=0 then b 1 else if a=1 then b 2 else if a=2 then b 3 else if a=3 then b 4 else 1
def aGX(b:ay)(f:a_){a:Int}(c:0<=a)(d:a<5)(x:aY):(f.set a x).val b=f.val b+((iV x:Rat)-(iV (f.get a):Rat))*X4 b a:=by
 obtain rfl|rfl|rfl|rfl|rfl:a=0\/a=1\/a=2\/a=3\/a=4:=O
 all_goals
  unfold a_.val a_.set a_.get X4;simp;grind
def aIz(f:ay)(h:MB 1000000 t.mono)(l:¬1<oH t 4):tV f 4 t=(iV t.cw:Rat)*X4 f (bV t 4):=by
 have m:t.e1+t.e2+t.e3+t.e4<=1:=by unfold oH at l;simp at l;omega
 unfold MB at h;simp only[S.mono]at h;unfold tV;congr 1;have e:∀a b c d:Int,mV f 4 ⟨a,b,c,d⟩=pw (f 1) a.toNat*pw (f 2) b.toNat*pw (f 3) c.toNat*pw (f 4) d.toNat:=λa b c d=>by simp[mV,cg];try grind
 unfold S.mono;rw[e];have n:∀x:Rat,pw x (0:Int).toNat=1:=λx=>rfl
 have o:∀x:Rat,pw x (1:Int).toNat=x:=λx=>by show x*pw x 0=x;rw[pw];grind
 have p:(t.e1=0/\t.e2=0/\t.e3=0/\t.e4=0)\/(t.e1=1/\t.e2=0/\t.e3=0/\t.e4=0)\/(t.e1=0/\t.e2=1/\t.e3=0/\t.e4=0)\/(t.e1=0/\t.e2=0/\t.e3=1/\t.e4=0)\/(t.e1=0/\t.e2=0/\t.e3=0/\t.e4=1):=O;unfold bV X4;rcases p with⟨g,i,j,k⟩|⟨g,i,j,k⟩|⟨g,i,j,k⟩|⟨g,i,j,k⟩|⟨g,i,j,k⟩<;>rw[g,i,j,k]<;>simp only[n,o]<;>simp<;>try grind
def abt{f:a_}(h:f.Ok)(t:S)(d:Dg t.cw.aC):(ux f t).Ok/\∀k,iV ((ux f t).get k)=iV (f.get k)\/iV ((ux f t).get k)=iV (f.get k)+iV t.cw:=by
 have j:=R_ t 4;have g:Dg (f.get (bV t 4)).aC:=by rw[h.get (bV t 4)];exact iv _
 have e:=Cm g d;unfold ux;rw[e];generalize bV t 4=a at*;have b:iV (iD (iV (f.get a)+iV t.cw))=iV (f.get a)+iV t.cw:=fU _;have c:Cn (iD (iV (f.get a)+iV t.cw)):=.i _;generalize iD (iV (f.get a)+iV t.cw)=x at*;obtain rfl|rfl|rfl|rfl|rfl:a=0\/a=1\/a=2\/a=3\/a=4:=O
 ·refine⟨⟨c,h.c1,h.c2,h.c3,h.c4⟩,λk=>?_⟩;unfold a_.get a_.set at*;simp at b⊢;split<;>simp_all
 ·refine⟨⟨h.c0,c,h.c2,h.c3,h.c4⟩,λk=>?_⟩;unfold a_.get a_.set at*;simp at b⊢;split<;>(try split)<;>simp_all
 ·refine⟨⟨h.c0,h.c1,c,h.c3,h.c4⟩,λk=>?_⟩;unfold a_.get a_.set at*;simp at b⊢;split<;>(try split)<;>(try split)<;>simp_all
 ·refine⟨⟨h.c0,h.c1,h.c2,c,h.c4⟩,λk=>?_⟩;unfold a_.get a_.set at*;simp at b⊢;split<;>(try split)<;>(try split)<;>(try split)<;>simp_all
 ·refine⟨⟨h.c0,h.c1,h.c2,h.c3,c⟩,λk=>?_⟩;unfold a_.get a_.set at*;simp at b⊢;split<;>(try split)<;>(try split)<;>(try split)<;>simp_all
def awo(a:ay){f:a_}(h:f.Ok)(c:Dg t.cw.aC)(d:MB 1000000 t.mono)(e:¬1<oH t 4):(ux f t).val a=f.val a+tV a 4 t:=by
 have b:=R_ t 4;have g:Dg (f.get (bV t 4)).aC:=by rw[h.get (bV t 4)];exact iv _
 unfold ux;rw[aGX a f b.1 b.2,Cm g c,fU,aIz a d e,N1];congr 2;grind
theorem abH(a:ay):∀{L:List S}{f:a_},(∀t∈L,Dg t.cw.aC/\MB 1000000 t.mono)->f.Ok->(nM L f).2=true->(nM L f).1.val a=f.val a+dC a 4 L
 |[],f,_,_,_=>by rw[nM,dC];grind
 |t::r,f,e,d,h=>by
  have b:=e t (b6 ..);rw[nM]at h⊢;split at h
  ·cases h
  ·rename_i c;rw[Z c,abH a (λu g=>e u (cv _ g)) (abt d t b.1).1 h,awo a d b.1 b.2 c,dC];grind
structure FS(M:Nat)(f:a_):Prop where
 ok:f.Ok
 b:∀k,(iV (f.get k)).natAbs<=M
theorem FS.z:FS 0 .z:=by
 have a:iV (⟨false,[]⟩:aY)=0:=rfl;refine⟨⟨.z,.z,.z,.z,.z⟩,λk=>?_⟩;have:a_.z.get k=⟨false,[]⟩:=by unfold a_.get a_.z;simp
 rw[this,a];decide
def FS.s{f:a_}(h:FS L f)(c:Dg t.cw.aC):FS (L+(iV t.cw).natAbs) (ux f t):=by obtain⟨a,b⟩:=abt h.ok t c;refine⟨a,λk=>?_⟩;have:=h.b k;rcases b k with e|e<;>rw[e]<;>omega
def FS.up{f:a_}(h:FS L f)(a:L<=n):FS n f:=⟨h.ok,λk=>dH (h.b k) a⟩
def FS.fb{k:Nat}{f:a_}(h:FS L f)(a:L<2^k):FB k f:=by
 have b:=λi=>rL (h.b i) a
 exact⟨⟨h.ok.c0,b 0⟩,⟨h.ok.c1,b 1⟩,⟨h.ok.c2,b 2⟩,⟨h.ok.c3,b 3⟩,⟨h.ok.c4,b 4⟩⟩
theorem FS.abx:∀{L:List S}{M:Nat}{f:a_},(∀t∈L,Dg t.cw.aC)->FS M f->FS (M+dL L) (L.foldl ux f)
 |[],M,f,_,h=>by rw[dL];exact h
 |t::r,M,f,a,h=>by rw[vk,dL];have:=FS.abx (L:=r) (λu c=>a u (cv _ c)) (h.s (a t (b6 ..)));exact this.up O
theorem FS.frm:∀{L:List S}{M:Nat}{f:a_},(∀t∈L,Dg t.cw.aC)->FS M f->FS (M+dL L) (nM L f).1
 |[],M,f,_,h=>by rw[dL];exact h
 |t::r,M,f,a,h=>by
  rw[nM,dL];split
  ·exact h.up O
  ·have:=FS.frm (L:=r) (λu c=>a u (cv _ c)) (h.s (a t (b6 ..)));exact this.up O
def aCs(L:List S)(x:Nat):dL (L.take x)<=dL L:=by have:=GZ (L.drop x) (L.take x);rw[o0]at this;omega
theorem aeg{t:S}:∀{L:List S},t∈L->(iV t.cw).natAbs<=dL L
 |u::r,h=>by
  rw[dL];rcases da.1 h with rfl|h
  ·omega
  ·have:=aeg h;omega
structure yq(k:Nat)(p:J):Prop where
 fm:rC (dM p)
 fb:FB k (l9 p).1
 ok:(l9 p).1.Ok
 val:(l9 p).2=true->∀ρ,(l9 p).1.val ρ=ev ρ p
def awy{k:Nat}(f:b8 p)(o:fh p<2^k)(i:k<=3000):yq k p:=by
 have d:=f.tt;have j:=HI f;have c:∀t∈dM p,Dg t.cw.aC:=d.ct.dg;have g:=FS.frm c FS.z;have l:∀e,a_.z.val e=0:=λe=>by unfold a_.val a_.z;have m:iV (⟨false,[]⟩:aY)=0:=rfl;simp only[m];have:((0:Int):Rat)=0:=rfl;rw[this];grind
 have b:l9 p=nM (dM p) .z:=by unfold l9;rfl
 refine⟨?_,by rw[b];exact g.fb O,by rw[b];exact g.ok,λh e=>?_⟩
 ·unfold rC;refine⟨d.len,λt a=>?_,λt a=>⟨?_,c t a⟩,λx q=>?_⟩
  ·have:=d.eb t a;unfold MB at this;simp only[S.mono]at this;omega
  ·obtain⟨z,_,n⟩:=d.ct.co t a;have r:=aeg a;have:IB k t.cw:=⟨by rw[n,fU],O⟩;have:=this.len;show t.cw.aC.length<=_;omega
  ·have:=FS.abx (L:=(dM p).take x) (λt d=>c t (nE d)) FS.z;have s:=aCs (dM p) x;unfold FN b7;exact(this.fb (k:=k) O).up i
 ·rw[b]at h⊢;rw[abH e (λt a=>⟨c t a,d.eb t a⟩) FS.z.ok h,l,MU f];grind
end Go.Proofs.YtfbmhjooliccnaaGreatDoor
namespace Go.Proofs.YtfbmhjooliccnaaGreatDoor
open Go Go.Ab Go.Proofs.Tryz
variable {p:dK}{x:Nat}{b:Bool}{s:bO}{c:List aR}
def RH(h:(!b)=true):b=false:=an h
def nbm(h:(!b)=false):b=true:=an h
@[irreducible] def yx(p:dK):=iz p.aP/\mA (b9 p.aP)/\kX 200 (fk (b9 p.aP)).1/\p.all.length<=3
def Io{p:dK}(h:yx p):=(yx.eq_1 ..).mp h
@[irreducible] def gb(p:dK)(n:Nat)(s:bO):=n<=p.all.length/\uF p=tq p.all (fk (b9 p.aP)).2 n s/\kX (xo n) s
def vi{p:dK}{n:Nat}{s:bO}(h:gb p n s):=(gb.eq_1 ..).mp h
def OK(n:Nat):xo n<=1607:=by unfold xo;split;omega;split;omega;split<;>omega
def Ji{n:Nat}(h:n+1<=3):2*xo (n+1)+1<=xo n/\xo (n+1)<=1000:=by
 obtain rfl|rfl|rfl:n=0\/n=1\/n=2:=O
 all_goals(unfold xo;simp)
theorem kX.up{n m:Nat}{s:bO}(h:kX n s)(d:n<=m):kX m s:=by have u:=An h;unfold kX;exact⟨u.1,λc a=>⟨(u.2 c a).1,λr b=>((u.2 c a).2 r b).up d⟩⟩
def alz{p:dK}(h:yx p):gb p p.all.length (fk (b9 p.aP)).1:=by have u:=Io h;unfold gb;refine⟨bK _,rfl,u.2.2.1.up ?_⟩;unfold xo;split;omega;split;omega;split<;>omega
section
variable {p:dK}(h:yx p){n:Nat}{s:bO}(g:gb p n s)
include g
theorem gb.ng:yC s:=(vi g).2.2.ng (by have:=OK n;omega)
def gb.e2(a:s.dw=true):uF p=s:=by
 rw[(vi g).2.1];cases n with
 |zero=>rfl
 |succ n=>rw[tq,Z (by rw[a];simp)]
def gb.e3(hn:decide (0<=(n:Int)-1)=false):uF p=s:=by have hn:=cQ hn;obtain rfl:n=0:=O;rw[(vi g).2.1];rfl
include h
def gb.le:n<=3:=by have:=(vi g).1;have:=(Io h).2.2.2;omega
variable (hn:decide (0≤(n:Int)-1)=true)
include hn
omit h in
theorem gb.pI:∃k,n=k+1:=⟨n-1,by have:=dO hn;omega⟩
theorem gb.xp:tW s ((n:Int)-1):=by obtain⟨k,rfl⟩:=gb.pI g hn;have:=gb.le h g;exact(vi g).2.2.xp (Ji O).2 O O
def gb.xpn:tW (lR s) ((n:Int)-1):=by obtain⟨k,rfl⟩:=gb.pI g hn;have:=gb.le h g;exact(vi g).2.2.not.xp (Ji O).2 O O
def gb.ngx:yC (k8 (lR s) ((n:Int)-1)):=by obtain⟨k,rfl⟩:=gb.pI g hn;have:=gb.le h g;have b:=Ji (n:=k) O;have:=OK k;exact((vi g).2.2.not.ex _).ng O
def gb.nx(f:(fk (b9 p.aP)).2=true)(i:s.dw=false)(a:p.all[((n:Int)-1).toNat]?=some b):gb p (n-1) (if b then lR (k8 (lR s) ((n:Int)-1))else k8 s ((n:Int)-1)):=by
 obtain⟨k,rfl⟩:=gb.pI g hn;have:=gb.le h g;have c:=Ji (n:=k) O;obtain⟨l,j,d⟩:=vi g;have e:(((k+1:Nat):Int)-1)=(k:Int):=O;rw[e]at a⊢;rw[bt]at a;unfold gb;refine⟨O,?_,?_⟩
 ·rw[j,tq,aM ⟨f,i⟩,a];rfl
 ·show kX (xo k) _;cases b with
  |true=>exact(d.not.ex _).not.up c.1
  |false=>exact(d.ex _).up c.1
def gb.nt(c:(fk (b9 p.aP)).2=true)(d:s.dw=false)(e:p.all[((n:Int)-1).toNat]?=some b)(a:b=true):gb p (n-1) (lR (k8 (lR s) ((n:Int)-1))):=by have:=gb.nx h g hn c d e;rw[a]at this;exact this
def gb.nf(c:(fk (b9 p.aP)).2=true)(d:s.dw=false)(e:p.all[((n:Int)-1).toNat]?=some b)(a:b=false):gb p (n-1) (k8 s ((n:Int)-1)):=by have:=gb.nx h g hn c d e;rw[a]at this;exact this
end
def ay_{p:dK}(h:(fk (b9 p.aP)).2=false):nq p=(false,false):=by unfold nq;rw[aM (.inl h)]
def ac9{p:dK}{s:bO}(e:uF p=s)(h:s.dw=true):nq p=(false,false):=by unfold nq;rw[aM (.inr (.inl (by rw[e];exact h)))]
def aza{p:dK}(h:decide (0<p.iP)=true):nq p=(false,false):=by unfold nq;rw[aM (.inr (.inr (dO h)))]
@[irreducible] def mr(p:dK)(s:bO)(x:Nat):Prop:=x<=s.l.length/\nq p=((s.l.drop x).any (λc=>c.all py),true)/\kX 1607 s
def B2{p:dK}{s:bO}{x:Nat}(h:mr p s x):=(mr.eq_1 ..).mp h
def alA{p:dK}{n:Nat}{s:bO}(g:gb p n s)(e:uF p=s)(a:(fk (b9 p.aP)).2=true)(b:s.dw=false)(c:decide (0<p.iP)=false):mr p s 0:=by unfold mr nq;refine⟨dz _,?_,(vi g).2.2.up (OK n)⟩;rw[Z (by rw[e,a,b];have:=cQ c;simp;omega),e];rfl
def mr.ll{p:dK}{s:bO}(g:mr p s x)(a:s.l[(x:Int).toNat]?=some c):LL c:=by have:=((An (B2 g).2.2).2 c (bM a)).1;unfold LL;omega
def mr.t{p:dK}{s:bO}(g:mr p s x)(a:s.l[(x:Int).toNat]?=some c)(b:c.all py=true):nq p=(true,true):=by rw[bt]at a;rw[(B2 g).2.1,JZ a,List.any_cons,b];rfl
def mr.n{p:dK}{s:bO}(g:mr p s x)(a:s.l[(x:Int).toNat]?=some c)(b:c.all py=false):mr p s (x+1):=by rw[bt]at a;have d:=(du.1 a).1;obtain⟨j,f,i⟩:=B2 g;unfold mr;refine⟨d,?_,i⟩;rw[f,JZ a,List.any_cons,b,z6]
def mr.e{p:dK}{s:bO}(g:mr p s x)(a:decide ((x:Int)<s.l.length)=false):nq p=(false,true):=by have a:=cQ a;rw[(B2 g).2.1,mU O];rfl
theorem azc(e:BS)(p:dK)(h:yx p):bh 22 [wE .pre p] (tT [bE (nq p).1,bE (nq p).2]):=by
 refine vF func22 rfl [Pr,asM,aso,arQ e,ar4] [(3,⟨Nat×bO,λy=>⟨[(1,br 0),(4,br 1),(5,bT (fk (b9 p.aP)).2),(6,iT ((y.1:Int)-1))],[(0,cj .pre p),(1,.cells ((eF .fD y.2).map .d))],2⟩,λy=>gb p y.1 y.2/\True,λy=>y.1⟩),(1000011,⟨Nat×bO,λz=>⟨[(1,br 0),(4,br 1),(57,iT z.2.l.length),(58,iT z.1)],[(0,cj .pre p),(1,.cells ((eF .fD z.2).map .d))],2⟩,λz=>mr p z.2 z.1/\True,λz=>z.2.l.length-z.1⟩)] ?_;repeat' (first
  |((with_reducible show mt _ _ _ _ _);(conv=>whnf);(fail_if_success with_reducible show mt _ _ _ _ _))
  |intro _|apply aQ
  |refine @aS (Nat×bO) _ (z.1+1,z.2) ?_
  |refine @aS (Nat×bO->Prop) _ (λv=>v.2=y.2) (@aS (Nat×bO) _ (0,y.2) (aQ ?_ λ(z:Nat×bO)(b:mr p z.2 z.1/\True)(c:z.2=y.2)=>?_))
  |refine @aS (Nat×bO) _ (y.1-1,?_) ?_
  |refine @aS (Nat×bO) _ (p.all.length,(fk (b9 p.aP)).1) (aQ ?_ λ(y:Nat×bO)(a:gb p y.1 y.2/\True)=>?_)
  |fail)
 all_goals(try simp only[AF,bz,fI]at*)
 all_goals first| (with_reducible first|show Int|show List J|show List F|show Nat|show bO)|exact bj|with_reducible rfl|omega| (with_reducible first|exact alz h|exact gb.ng a.1|exact gb.xp h a.1 Y|exact gb.xpn h a.1 Y|exact gb.ngx h a.1 Y|exact mr.ll b.1 Y|exact mr.n b.1 Y Y)|exact gb.nt h a.1 Y Y (RH Y) Y Y|exact gb.nf h a.1 Y Y (RH Y) Y Y|exact alA a.1 (gb.e3 a.1 Y) Y (RH Y) Y|rw[ac9 (gb.e2 a.1 (nbm Y)) (nbm Y)]<;>rfl|rw[ay_ Y]<;>rfl|rw[ac9 (gb.e2 a.1 Y) Y]<;>rfl|rw[aza Y]<;>rfl|rw[mr.t b.1 Y Y]<;>rfl|rw[mr.e b.1 Y]<;>rfl|have g:=(Io h).1;exact g|exact(Io h).2.1|have g:=gb.le h a.1;have f:=(vi a.1).1;simp only[be,bc]at*;omega|have g:=(B2 b.1).1;have f:=(An (B2 b.1).2.2).1;simp only[be,bc]at*;omega|exfalso;simp_all;done
def asf(a:BS):Ct prog Un:=ot Vw 22 (.el W.pre) (λ(p:dK)=>yx p) (λ(p:dK)=>tT [bE (nq p).1,bE (nq p).2]) (λp h=>azc a p h)
end Go.Proofs.YtfbmhjooliccnaaGreatDoor
namespace Go.Proofs.YtfbmhjooliccnaaGreatDoor
open Go Go.Ab Go.Ab.VS Go.Proofs.Tryz
variable {s a:bO}{X:Int→Rat}{K:Int}{f:a_}
def RK(r:aR):=(r.aJ=0\/r.aJ=1\/r.aJ=2)/\r.f.Ok
def RK.ng{r:aR}(h:RK r):eJ RK (kL r):=by
 unfold kL;split
 ·exact eJ.or (.row ⟨.inr (.inl rfl),h.2⟩) (.row ⟨.inr (.inl rfl),.neg _⟩)
 ·split
  ·exact .row ⟨.inr (.inr rfl),.neg _⟩
  ·exact .row ⟨.inr (.inl rfl),.neg _⟩
def RK.no(h:eJ RK s):eJ RK (lR s):=eJ.not (P:=RK) (λr a=>a.ng) h
def RK.ex(h:eJ RK s)(k:Int):eJ RK (k8 s k):=
 eJ.P_ (P:=RK) (λc b=>aaf (P:=RK) (Q:=RK) (λr d=>d) (λr t d e=>⟨e.1,.fC _ _ _ _⟩) (λr t d e q a=>by
  unfold sk at a;split at a
  ·rw[cL.1 a];refine⟨?_,.fC _ _ _ _⟩;show(if _ then(1:Int)else 2)=0\/(if _ then(1:Int)else 2)=1\/(if _ then(1:Int)else 2)=2;split
   ·exact .inr (.inl rfl)
   ·exact .inr (.inr rfl)
  ·cases a) c b) s.l [] h λc b=>by cases b
def eJ.sm(h:eJ RK s):N9 s.l:=λc a r b=>(h c a r b).2
def aod{p:J}(a:f.val X=ev X p)(r:Int):eR X (lY r f).l↔rH r (dx (ev X p))=true:=by
 unfold lY;split
 ·rename_i h;rw[uW,h,rH1,a];unfold hK;simp
 split
 ·rename_i h;rw[uW,h,rH2,a];unfold hK;simp
 split
 ·rename_i h;rw[LU,uW,uW,a_.Ej,h,rH4,a];unfold hK;simp;grind
 split
 ·rename_i h;rw[uW,a_.Ej,h,rH5,a];unfold hK;simp;grind
 split
 ·rename_i h;rw[uW,a_.Ej,h,rH6,a];unfold hK;simp;grind
 ·rename_i b c d g i;have e:rH r (dx (ev X p))=rH 3 (dx (ev X p)):=by unfold rH;simp[b,c,d,g,i]
  rw[uW,e,rH3,a];unfold hK;simp
def axV(h:(pz K a s).dw=false):a.dw=false/\s.dw=false:=by
 unfold pz at h;split at h
 ·have:=Oi h;exact⟨this.1,this.2.1⟩
 ·exact aDY h
def axW{b:bO}(h:(pz K a b).dw=false):eR X (pz K a b).l↔if K=3 then eR X a.l/\eR X b.l else eR X a.l\/eR X b.l:=by
 unfold pz at*;split
 ·rename_i c;rw[aM c]at h;rw[(Oi h).2.2,ag6]
 ·exact LU
mutual
theorem ahY {k:Nat} (b:ay):∀{m:F},RM (yq k) m->(fk m).2=true->(fk m).1.dw=false->(eR b (fk m).1.l↔tr b m=true)
 |.mk kd r p o,i,f,g=>by
  rw[fk]at*
  by_cases j:kd=1
  ·rw[aM j]at*
   rw[yf b (show(F.mk kd r p o).aJ=1 from j)]
   exact⟨λ_=>rfl,λ_=>Ho.2 (Mm b)⟩
  rw[Z j]at*
  by_cases e:kd=2
  ·rw[aM e]at*
   cases i with
   |mk _ _ _ _ v _=>
    rw[aod ((v e).val f b) r,BE]
    show _↔(if kd=1 then true else if kd=2 then rH r (dx (ev b p))else _)=true
    rw[Z j,aM e]
  rw[Z e]at*
  by_cases d:kd=3\/kd=4
  ·rw[aM d]at*
   have q:∀c∈o,RM (yq k) c:=by
    cases i with
    |mk _ _ _ _ _ q=>exact q d
   obtain⟨_,_,B⟩:=ahX b (K:=kd) d (l:=o) (a:=(qu kd,true)) q f g
   rw[B,qF b d]
   unfold jg qu
   by_cases n:kd=3
   ·simp only[n,gT]
    have:=Ho.2 (Mm b)
    exact⟨λh=>h.2,λh=>⟨this,h⟩⟩
   ·simp only[n,lM]
    have:=DZ b
    exact⟨λh=>h.resolve_left this,.inr⟩
  ·rw[Z d]at*
   have n:kd≠3:=λh=>d (.inl h)
   have x:kd≠4:=λh=>d (.inr h)
   rw[BE]
   show _↔(if kd=1 then true else if kd=2 then rH r (dx (ev b p))else if kd=3 then _ else if kd=4 then _ else false)=true
   rw[Z j,Z e,Z n,Z x]
   exact⟨λh=>absurd h (DZ b),λh=>by cases h⟩
theorem ahX {k:Nat} (b:ay) {K:Int} (hK:K=3\/K=4):∀{l:List F}{a:bO×Bool},(∀c∈l,RM (yq k) c)->(kx K l a).2=true->(kx K l a).1.dw=false->a.2=true/\a.1.dw=false/\(eR b (kx K l a).1.l↔if K=3 then eR b a.1.l/\eV b l=true else eR b a.1.l\/fq b l=true)
 |[],a,_,f,g=>by
  rw[kx]at*
  refine⟨f,g,?_⟩
  rw[eV,fq]
  split
  ·exact⟨λh=>⟨h,rfl⟩,λh=>h.1⟩
  ·exact⟨.inl,λh=>h.resolve_right ai⟩
 |m::r,a,i,f,g=>by
  rw[kx]at f g⊢
  obtain⟨s,u,A⟩:=ahX b hK (l:=r) (λc w=>i c (cv _ w)) f g
  rw[ej]at s
  obtain⟨z,y⟩:=axV u
  refine⟨s.1,z,?_⟩
  have t:=ahY b (i m (b6 ..)) s.2 y
  rw[A,axW u,eV,fq,ej,wO]
  split
  ·rw[t,and_assoc]
  ·rw[t,or_assoc]
end
def aoc{P:aR->Prop}(h:∀k,k=0\/k=1\/k=2->P ⟨k,f⟩/\P ⟨k,f.neg⟩)(r:Int):eJ P (lY r f):=by have c:=h 0 (.inl rfl);have a:=h 1 (.inr (.inl rfl));have b:=h 2 (.inr (.inr rfl));unfold lY;split;exact .row a.1;split;exact .row b.1;split;exact .or (.row a.1) (.row a.2);split;exact .row b.2;split;exact .row a.2;exact .row c.1
mutual
theorem TV {P:aR->Prop} {R:J->Prop} (h:∀p,R p->∀k,k=0\/k=1\/k=2->P ⟨k,(l9 p).1⟩/\P ⟨k,(l9 p).1.neg⟩):∀{m:F},RM R m->eJ P (fk m).1
 |.mk kd r p j,d=>by
  have one:eJ P ⟨[[]],false⟩:=λc e r n=>by rw[cL.1 e]at n;cases n
  have nil:∀b,eJ P ⟨[],b⟩:=λb c e=>by cases e
  rw[fk]
  split
  ·exact one
  ·split
   ·rename_i s
    cases d with
    |mk _ _ _ _ q _=>exact aoc (h p (q s)) r
   ·split
    ·rename_i i
     have g:∀c∈j,RM R c:=by
      cases d with
      |mk _ _ _ _ _ g=>exact g i
     refine ahV h j _ g ?_
     unfold qu
     split
     ·exact one
     ·exact nil _
    ·exact nil _
theorem ahV {P:aR->Prop} {R:J->Prop} (h:∀p,R p->∀k,k=0\/k=1\/k=2->P ⟨k,(l9 p).1⟩/\P ⟨k,(l9 p).1.neg⟩) {K:Int}:∀(l:List F)(a:bO×Bool),(∀c∈l,RM R c)->eJ P a.1->eJ P (kx K l a).1
 |[],a,_,f=>by rw[kx];exact f
 |m::r,a,o,f=>by
  rw[kx]
  refine ahV h r _ (λc e=>o c (cv _ e)) ?_
  have d:=TV h (o m (b6 ..))
  show eJ P (pz K a.1 (fk m).1)
  unfold pz
  split
  ·exact f.and d
  ·exact f.or d
end
def aHD{m:F}(h:RM (λp=>b8 p/\yq 140 p) m):I0 m:=by
 induction h with
 |mk k r p b a d c=>exact .mk k r p b (λe=>⟨(a e).1,(a e).2.fm,by unfold FN;exact(a e).2.fb.up O⟩) c
theorem ac_{a:List Bool}{b:Bool}(h:s.dw=true):∀n,tq a b n s=s
 |0=>rfl
 |n+1=>by rw[tq,Z (by rw[h];simp)]
theorem ada{all:List Bool}{n0:Nat}(o:n0<=4)(f:Nat->(Int->Rat)->Prop)(step:∀n,n<n0->∀ρ,f n ρ↔if(all[n]?).getD false=true then∀v,f (n+1) (up ρ ((n:Int)+1) v)else∃v,f (n+1) (up ρ ((n:Int)+1) v)):
 ∀(n:Nat)(s:bO),n<=n0->eJ RK s->(∀ρ,eR ρ s.l↔f n ρ)->(tq all true n s).dw=false->eJ RK (tq all true n s)/\∀ρ,eR ρ (tq all true n s).l↔f 0 ρ
 |0,s,_,h,I,_=>⟨h,I⟩
 |n+1,s,r,h,I,d=>by
  rw[tq]at d⊢;by_cases b:s.dw=false
  ·rw[aM ⟨rfl,b⟩]at d⊢;have a:(if(all[n]?).getD false=true then lR (k8 (lR s) n)else k8 s n).dw=false:=by
    cases e:(if(all[n]?).getD false=true then lR (k8 (lR s) n)else k8 s n).dw with
    |false=>rfl
    |true=>rw[ac_ e,e]at d;cases d
   refine ada o f step n _ O ?_ (λρ=>?_) d
   ·split
    ·exact RK.no (RK.ex (RK.no h) _)
    ·exact RK.ex h _
   ·rw[step n O ρ];have j:(n:Int)<=3:=O;split
    ·rename_i g;rw[aM g]at a;obtain⟨q,p⟩:=aeu (ρ:=ρ) a;obtain⟨k,i⟩:=aaL ρ O j (RK.no h).sm q;have c:=λm=>(aeu (ρ:=m) k).2
     rw[p,i];simp only[c,I];grind
    ·rename_i g;rw[Z g]at a;obtain⟨k,i⟩:=aaL ρ O j h.sm a;rw[i];simp only[I]
  ·rw[Z (λe=>b e.2)]at d;exact absurd d b
def anT{l:List (List aR)}(h:∀c∈l,∀r∈c,RK r):(l.any λc=>c.all py)=true↔eR (λ_=>0) l:=by
 rw[rF];unfold eR nw;constructor
 ·rintro⟨c,a,d⟩;rw[eW]at d;exact⟨c,a,λr b=>(ab3 (h c a r b).2 (h c a r b).1).1 (d r b)⟩
 ·rintro⟨c,a,d⟩;refine⟨c,a,?_⟩;rw[eW];exact λr b=>(ab3 (h c a r b).2 (h c a r b).1).2 (d r b)
end Go.Proofs.YtfbmhjooliccnaaGreatDoor
namespace Go.Proofs.YtfbmhjooliccnaaGreatDoor
open Go Go.Ab Go.Proofs.Tryz
variable {p:dK}{j:Nat}
@[irreducible] def ve(m:F)(a:Int):Prop:=1<=a/\a<=4/\∃(k:Nat)(T:Int->Prop),k<=1490/\CM (LX k T) m/\ba m<=20000
def Ia:Prop:=∀(m:F)(a:Int),ve m a->bh 11 [wE .aP m,wI .i64 a] (tT [.agg ((eF .aP (oW cR m a)).map .d),iE 0])
def HZ:Prop:=∀(m:F)(a:Int),ve m a->bh 12 [wE .aP m,wI .i64 a] (tT [.agg ((eF .aP (wN cR m a)).map .d),iE 0])
def arq(h:Ia):Ct prog Un:=uq Vw 11 (.el W.aP) (.int .i64) (λ(m:F)(a:Int)=>ve m a) (λ(m:F)(a:Int)=>tT [.agg ((eF .aP (oW cR m a)).map .d),iE 0]) (λm a g=>h m a g)
def arp(h:HZ):Ct prog Un:=uq Vw 12 (.el W.aP) (.int .i64) (λ(m:F)(a:Int)=>ve m a) (λ(m:F)(a:Int)=>tT [.agg ((eF .aP (wN cR m a)).map .d),iE 0]) (λm a g=>h m a g)
def nh(p:dK):Nat->F
 |0=>bF p.aP
 |j+1=>if(p.all[p.all.length-1-j]?).getD false then wN cR (nh p j) ((p.all.length-j:Nat):Int)else oW cR (nh p j) ((p.all.length-j:Nat):Int)
@[irreducible] def l7(p:dK)(j:Nat):F:=nh p j
@[irreducible] def yo(p:dK):=sW p/\nB p=true/\p.iP=0/\p.all.length<=3/\OF p.aP/\∀j,j<p.all.length->ve (l7 p j) ((p.all.length-j:Nat):Int)
def z_{p:dK}(h:yo p):=(yo.eq_1 ..).mp h
@[irreducible] def nc(p:dK)(j:Nat):List Bool:=p.all.take (p.all.length-j)
def atO(p:dK):p.all=nc p 0:=by unfold nc;simp
def C6{p:dK}{j:Nat}(h:j<=p.all.length):(nc p j).length=p.all.length-j:=by unfold nc;simp
def atP(p:dK):bF p.aP=l7 p 0:=by unfold l7;rfl
section
variable {p:dK}(h:yo p){j:Nat}(hj:j≤p.all.length)
include h hj
def EL.a:(nc p j).length<=3:=by rw[C6 hj];have:=(z_ h).2.2.2.1;omega
variable (hn:decide (0<((nc p j).length:Int))=true)
include hn
theorem EL.lt:j<p.all.length:=by have:=dO hn;rw[C6 hj]at this;omega
theorem EL.lv:p.iP+((nc p j).length:Int)=((p.all.length-j:Nat):Int):=by rw[C6 hj,(z_ h).2.2.1];omega
def EL.x:ve (l7 p j) (p.iP+((nc p j).length:Int)):=by rw[EL.lv h hj hn];exact(z_ h).2.2.2.2.2 j (EL.lt h hj hn)
def EL.s:(nc p j).take (((nc p j).length:Int)-1).toNat=nc p (j+1):=by have c:=EL.lt h hj hn;rw[C6 hj];unfold nc;rw[List.take_take];congr 1;omega
variable {b:Bool}(hb:(nc p j)[(((nc p j).length:Int)-1).toNat]?=some b)
include hb
def EL.bb:p.all[p.all.length-1-j]?=some b:=by have c:=EL.lt h hj hn;rw[C6 hj]at hb;unfold nc at hb;rw[NN O]at hb;rw[<-hb];congr 1;omega
def EL.t(c:b=true):wN cR (l7 p j) (p.iP+((nc p j).length:Int))=l7 p (j+1):=by rw[EL.lv h hj hn];unfold l7;rw[nh,EL.bb h hj hn hb,c];rfl
def EL.f(c:b=false):oW cR (l7 p j) (p.iP+((nc p j).length:Int))=l7 p (j+1):=by rw[EL.lv h hj hn];unfold l7;rw[nh,EL.bb h hj hn hb,c];rfl
end
def EL.e{p:dK}{j:Nat}(hj:j<=p.all.length)(hn:decide (0<((nc p j).length:Int))=false):l7 p j=l7 p p.all.length:=by have:=cQ hn;rw[C6 hj]at this;rw[show j=p.all.length by omega]
def elv{p:dK}(h:yo p)(a:(!nB p)=true):False:=by rw[(z_ h).2.1]at a;cases a
theorem atQ(c:Ia)(e:HZ)(p:dK)(h:yo p):bh 18 [wE .pre p] (tT [.agg ((eF .aP (l7 p p.all.length)).map .d),iE 0]):=by
 refine vF func18 rfl [asS,CL,arq c,arp e] [(5,⟨Nat,λy=>⟨[(1,br 0),(2,br 1),(4,br 2),(5,lT .bool (nc p y))],[(0,cj .pre p),(1,cj .aP zM),(2,cj .aP (l7 p y))],3⟩,λy=>y<=p.all.length/\True,λy=>p.all.length-y⟩)] ?_;repeat' (first
  |exact(A9 ‹((0:Int) !=0)=true›).elim
  |((with_reducible show mt _ _ _ _ _);(conv=>whnf);(fail_if_success with_reducible show mt _ _ _ _ _))
  |intro _|apply aQ
  |refine @aS Nat _ (y+1) ?_
  |refine @aS Nat _ 0 (aQ ?_ λ(y:Nat)(a:y<=p.all.length/\True)=>?_)
  |fail)
 all_goals(try simp only[bz,fI]at*)
 all_goals first|exact bj|omega| (with_reducible first|exact(z_ h).1|exact(z_ h).2.2.2.2.1|exact atO p|exact EL.x h a.1 Y|exact EL.s h a.1 Y)|rw[EL.t h a.1 Y Y Y]|rw[EL.f h a.1 Y Y Y]|rw[EL.e a.1 Y]|rw[atP]|exact(elv h Y).elim|have g:=EL.lt h a.1 Y;have i:=EL.a h a.1;have f:=(z_ h).2.2.1;simp only[be]at*;omega|rfl
def arN(a:Ia)(c:HZ):Ct prog Un:=ot Vw 18 (.el W.pre) (λ(p:dK)=>yo p) (λ(p:dK)=>tT [.agg ((eF .aP (l7 p p.all.length)).map .d),iE 0]) (λp h=>atQ a c p h)
def att:BS:=λl k h=>by
 have g:=(yk h).2.2;have e:k=0\/k=1\/k=2:=O;rcases e with rfl|rfl|rfl
 ·exact ato l h
 ·exact atp l h
 ·exact atq l h
end Go.Proofs.YtfbmhjooliccnaaGreatDoor
