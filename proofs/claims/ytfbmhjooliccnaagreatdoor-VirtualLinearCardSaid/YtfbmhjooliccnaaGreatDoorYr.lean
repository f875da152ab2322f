/- A part of the proof of VirtualLinear: Kp2 to Ke. No condition. -/
import Derived.Test.YtfbmhjooliccnaaGreatDoorYp
import Derived.Test.YtfbmhjooliccnaaGreatDoorYq
set_option linter.all false
set_option maxRecDepth 100000
set_option maxHeartbeats 60000000
noncomputable section
namespace Go.Proofs.YtfbmhjooliccnaaGreatDoor
open Go Go.Ab Go.Proofs.Tryz
variable {p c:J}{x:Int}{i:Nat}{l:List J}
def aul:gv prog 242:=gY func242 af rfl
def agz(H:List (Nat×aZ Un))(args:List (SE Un))(K:iA Un->Prop):Prop:=
 match H,args with
 |[],[.agg [.d (.sc (.int .i64 l)),.d (.cK g),.d (.bN W.u32 a),.d (.bN W.aF b)],.c (.d (.sc (.int .i64 lv))),.c (.d (.sc (.int .i64 n)))]=>(CF (.mk l g a b) lv/\0<=n/\n<=2)/\
  K ⟨.e (.c (.aX 0 W.aF (cC lv n.toNat (.mk l g a b)).length)),[(0,.aW W.aF (cC lv n.toNat (.mk l g a b)))],[],[]⟩
 |_,_=>False
def aDh:gy prog Un where
 f:=276
 iu:=aus
 run:=agz
 ok H args K h:=by
  unfold agz at h;split at h
  ·rename_i l g a i lv n;obtain⟨⟨d,m,k⟩,c⟩:=h;refine⟨_,?_,λu b j=>absurd b (oi _),c⟩;have e:n=((n.toNat:Nat):Int):=O;have:=aq2 n.toNat O lv (.mk l g a i) d;rw[<-e]at this;rw[kE];exact dA.gL (stay':=λu=>u<0/\¬u∈[]) this λu b=>absurd b.1 (oi _)
  ·cases h
@[irreducible] def ke(p:J)(lv:Int):=ZL p lv/\ez p lv<=2
def ke.z{p:J}{lv:Int}(h:ke p lv):ZL p lv:=by unfold ke at h;exact h.1
def ke.d{p:J}{lv:Int}(h:ke p lv):ez p lv<=2:=by unfold ke at h;exact h.2
def ke.of{p:J}{lv:Int}(h:ZL p lv)(a:ez p lv<=2):ke p lv:=by unfold ke;exact⟨h,a⟩
def x8(p:J)(lv:Int):List J:=cC lv (gh lv p).toNat p
@[irreducible] def nZ(p:J)(lv:Int)(x:Nat):List J:=((x8 p lv).take x).map dT++(x8 p lv).drop x
def zv(p:J)(lv:Int)(x:Nat):(nZ p lv x).length=(gh lv p).toNat+1:=by have:=kE lv (gh lv p).toNat p;unfold nZ x8;simp;omega
def aCh(p:J)(lv:Int):cC lv (gh lv p).toNat p=nZ p lv 0:=by unfold nZ x8;simp
def aed{p:J}{lv:Int}{x:Nat}(h:(nZ p lv x)[(x:Int).toNat]?=some c):(x8 p lv)[x]?=some c:=by
 rw[bt]at h;have a:=ns h;rw[zv]at a;have e:((x8 p lv).take x).length=x:=by have:=kE lv (gh lv p).toNat p;unfold x8;simp;omega
 unfold nZ at h;rw[B4 (by rw[eh];omega),eh,e,rM,nD]at h;simpa using h
def aCi{p:J}{lv:Int}{x:Nat}(h:(nZ p lv x)[(x:Int).toNat]?=some c):(nZ p lv x).set (x:Int).toNat (dT c)=nZ p lv (x+1):=by
 have a:=aed h;have b:=ns a;have e:(((x8 p lv).take x).map dT).length=x:=by simp;omega
 rw[bt];unfold nZ;rw[yB _ _ O,e,rM,fy,a,ia,gM,kB b,xc];rfl
section
variable {p:J}{lv:Int}(h:ke p lv)
include h
def ke.nz:dT p=p:=by have a:=h.z.a;unfold CZ at a;obtain⟨d,k,b,c,hz⟩:=a;exact hz.cB b O
def ke.cf:CF p lv:=by have a:=h.z.a;have b:=h.z.b;unfold CF;exact⟨a,b⟩
def ke.np(b:(nZ p lv i)[(i:Int).toNat]?=some c):b8 c:=by have f:=bM (aed b);have a:=h.z.a;unfold CZ at a;obtain⟨d,k,g,j,hz⟩:=a;exact(Tf g O hz c f).1
variable (hz:cP p=false)
include hz
def ke.dg:0<=gh lv p/\gh lv p<=2:=by have d:=h.d;have l:=h.z.b.u;unfold ez at d;rw[hz]at d;exact⟨PM h.z.a.bR (lv:=lv.toNat) O|>λg=>by rwa [Int.toNat_of_nonneg O]at g,d⟩
theorem ke.e(a:decide ((i:Int)<((nZ p lv i).length:Int))=false):nZ p lv i=bk p lv:=by have a:=cQ a;have g:=zv p lv i;have b:(x8 p lv).length=(gh lv p).toNat+1:=kE lv _ p;unfold bk;rw[Z (by rw[hz];decide)];unfold nZ;rw[eL O,mU O,lB];rfl
end
def ke.e0{p:J}{lv:Int}(hz:cP p=true):bk p lv=[]:=by unfold bk;rw[aM hz]
theorem Vc(p:J)(lv:Int)(h:ke p lv):dA prog 242 (bX (cy (U:=Un) [])) ([wE .aF p,wI .i64 lv].map SE.aI) (bX (cy [(0,aZ.aW (U:=Un) W.aF (bk p lv))])) (·∈[]) (ST.e (U:=Un) (.c (.aX 0 W.aF (bk p lv).length))).aI:=by
 refine vO func242 rfl ⟨[y5,JT,JS,Zc],[aDh]⟩ [(8,⟨Nat,λx=>⟨[(5,.e (.c (.aX 1 W.aF (nZ p lv x).length))),(25,iT (nZ p lv x).length),(26,iT x)],[(1,.aW (U:=Un) W.aF (nZ p lv x))],2⟩,λx=>x<=3/\True,λx=>(nZ p lv 0).length-x⟩)] [] ⟨[(4,.e (.c (.aX 0 W.aF (bk p lv).length)))],[(0,.aW (U:=Un) W.aF (bk p lv))],2⟩ ?_;repeat' first|intro _|apply aQ|refine aS 0 (aQ ?_ λ(x:Nat)(d:x<=3/\True)=>?_)|refine aS (x+1) ?_
 all_goals(have a:=h.nz)
 all_goals(try simp only[bz,a]at*)
 all_goals first|exact bj|omega|((with_reducible show(_&&_)=true);kernel_rfl)|exact(h.z.b.d Y).elim|exact h.z.a.cs|exact h.z.a.np|exact h.cf|exact h.np Y|exact(h.dg Y).1|exact(h.dg Y).2|exact aCh _ _|rw[kE,zv]|exact aCi Y|rw[zv,zv]|exact ke.e h Y Y|rw[ke.e h Y Y]|rw[ke.e0 Y]<;>rfl|have g:=h.dg Y;have b:=zv p lv x;simp only[be]at*;omega|have b:=zv p lv x;have g3:=zv p lv 0;simp only[be]at*;omega
def aj5(p:J)(lv:Int)(h:ke p lv):bh 242 [wE .aF p,wI .i64 lv] (lT .aF (bk p lv)):=by show lW _ _ _ _;rw[<-ae8];exact lW.aeR (Vc p lv h)
def JN:=eI (.el W.aF) (.int .i64) aj5
def agt(H:List (Nat×aZ Un))(args:List (SE Un))(K:iA Un->Prop):Prop:=
 match H,args with
 |[],[.agg [.d (.sc (.int .i64 l)),.d (.cK g),.d (.bN W.u32 a),.d (.bN W.aF b)],.c (.d (.sc (.int .i64 lv)))]=>ke (.mk l g a b) lv/\
  K ⟨.e (.c (.aX 0 W.aF (bk (.mk l g a b) lv).length)),[(0,.aW W.aF (bk (.mk l g a b) lv))],[],[]⟩
 |_,_=>False
def aDc:gy prog Un where
 f:=242
 iu:=aul
 run:=agt
 ok H args K h:=by
  unfold agt at h;split at h
  ·rename_i l g a c lv;refine⟨_,?_,λu b d=>absurd b (oi _),h.2⟩;exact dA.gL (stay':=λu=>u<0/\¬u∈[]) (Vc (.mk l g a c) lv h.1) λu b=>absurd b.1 (oi _)
  ·cases h
def b8.tp(h:b8 p):TP (dM p):=by
 have b:=aeq h.nb;have d:=RV h.nb;have e:=JJ p ⟨0,0,0,0⟩;have c:=h;unfold b8 at c;unfold TP;refine⟨h.tt,λt a=>?_,?_⟩
 ·unfold dM at a;have g:=b t a;exact⟨g.2,O⟩
 ·unfold dM;omega
def b8.ts(h:b8 p):TP (tF (dM p)):=by have a:=h.tp;have u:=lF a;obtain⟨c,d⟩:=TJ u.1.ct;rw[HA u.1];unfold TP;refine⟨Z7 c u.1 d,λt f=>?_,by rw[eh];exact u.2.2⟩;obtain⟨v,g,rfl⟩:=b_.1 f;have b:=FM a g;have e:(iV v.cw/qy (dM p) (kj (dM p))).natAbs<=(iV v.cw).natAbs:=Int.natAbs_ediv_le_natAbs _ _;exact⟨iv _,xF (k:=2000000) ⟨O,O⟩⟩
def b8.ss(h:b8 p):kY (cH ((di (tF (dM p))).length+4) (di (tF (dM p))) 4):=by have d:=h.tp;have u:=lF d;have I:=h.ts;have b:=lF I;rw[I.id];refine(Jl (m:=2000000) (B:=1000000) O O _ _ _ (λt a=>⟨(b.2.1 t a).2,(b.2.1 t a).1⟩) ?_).sm O;rw[HA u.1];intro t a;obtain⟨v,c,rfl⟩:=b_.1 a;have:=LD h.eb v (by unfold dM at c;exact c);exact this
def aHG(h:b8 p):LN (tF (dM p))=eQ p:=by unfold eQ LN;rw[h.ts.id]
theorem aHF(p:J)(h:b8 p):bh 94 [wE .aF p] (eT .aF (eQ p)):=by
 refine vF func94 rfl [asN,asI,asp] [] ?_;repeat' first|intro _|apply aQ
 all_goals first|exact bj|(simp only[bz];first|exact h.tp|exact h.ts|exact⟨h.ts,h.ss⟩|exact h.ss|exact h|done)|simp only[bz];rw[aHG h];done
def asH:=dj (.el W.aF) aHF
def YE(h:b8 p):b8 (.mk p.aK p.neg p.aC p.aL):=by rw[bz];exact h
def cnI(h:b8 p)(a:(cY p).aK=0):jE ⟨(cY p).neg,(cY p).aC⟩=iD (cV (cY p)):=by
 have b:=(s7 h).bR.sX a;have c:Dg (cY p).aC:=by rw[b];exact iv _
 exact wi c
def XY(h:(x !=0)=true):x≠0:=an h
def OO(h:(x !=0)=false):x=0:=an h
def cnS(h:b8 p):Sm (cY p).aC:=(np4 h).aC
theorem are(p:J)(h:b8 p):bh 93 [wE .aF p] (tT [.agg ((eF .cM (if(cY p).aK=0 then iD (cV (cY p))else⟨false,[]⟩)).map .d),bE (decide ((cY p).aK=0))]):=by
 refine vF func93 rfl [Za,F1] [] ?_;repeat' first|intro _|apply aQ
 all_goals first|exact bj|with_reducible exact YE h|show Sm _;simp only[bz];exact cnS h|(simp only[bz]at*;rename_i a;first|rw[Z (XY a)];done|rw[rX (XY a)];done|rw[aM (OO a),cnI h (OO a)];done|rw[qd (OO a)];done)
def arI:=dj (.el W.aF) are
def atE(h:b8 p)(r:Int)(a:decide ((cY p).aK=0)=true):dB p r=tM (I (jl r) (sv (cV (cY p)))):=by unfold dB;rw[aM (dO a)]
def atN(h:b8 p)(r:Int)(a:decide ((cY p).aK=0)=false):dB p r=.mk 2 (lu (if gm 4 (dT p)<0 then G4 (jl r)else jl r)).1 (eQ p) []:=by unfold dB;rw[Z (cQ a)]
def aol{z:Int}:bm ⟨(iD z).neg,(iD z).aC⟩=sv z:=by
 have:=qz (x:=iD z) (iv z);rw[fU]at this;show bm (iD z)=_;rw[this];unfold sv;split
 ·rfl
 ·split<;>split<;>omega
def aok(r s:Int):(IntKind.i64.wrap ((BitVec.ofInt IntKind.i64.bits ((jl r:Nat):Int) &&& BitVec.ofInt IntKind.i64.bits ((xq s:Nat):Int)).toNat:Int) !=0)=I (jl r) s:=by
 rw[OI _ (pN r) _ (apl s)];unfold I;cases h:(jl r &&& xq s)with
 |zero=>rfl
 |succ n=>simp;omega
def aoh(h:b8 p):bQ 4 (dT p):=by rw[sh h];exact(s7 h).bR
def aoj:decide (sv x<0)=decide (x<0):=by unfold sv;split<;>(try split)<;>simp<;>omega
def aof(r:Int):B6 ((jl r:Nat):Int):=B6.of (pN r)
theorem aou(p:J)(r:Int)(h:b8 p):bh 66 [wE .aF p,wI .i64 r] (eT .aP (dB p r)):=by
 refine vF func66 rfl [arI,JW,vC,arC,Zv,y5,arW,ass,Px,asH] [] ?_;repeat' first|intro _|apply aQ
 all_goals first|exact bj|((with_reducible show(_&&_)=true);kernel_rfl)|omega|with_reducible exact YE h|show bQ 4 _;simp only[bz];exact aoh h|exact aof r|simp only[bz]at*;rename_i a;rw[atE h r a,aM (dO a),aol,aok];done|(simp only[bz]at*;rename_i a c;have b:=c;rw[aoj]at b;rw[atN h r a];first|done|with_reducible rfl|simp only[F.aJ];done|simp only[F.bU];rw[aM (dO b),bt,bt];done|simp only[F.bU];rw[Z (cQ b),bt];done|simp only[F.aF];done|simp only[F.aO];done)
def FX:=eI (.el W.aF) (.int .i64) aou
def aql{a:Int}{x:J}(h:(bk p a)[i]?=some x):dV p a i=x:=by unfold dV;rw[h];rfl
def aqm{i:Int}(h:decide (((bk p x).length:Int)<=i)=true):dV p x i.toNat=zP:=by have h:=dO h;unfold dV;rw[iM O];rfl
theorem aqV(p:J)(a i:Int)(h:ke p a/\0<=i):bh 199 [wE .aF p,wI .i64 a,wI .i64 i] (eT .aF (dV p a i.toNat)):=by
 refine vF func199 rfl [JN] [] ?_;repeat' first|intro _|apply aQ
 all_goals(try simp only[bz]at*)
 all_goals first|exact bj|omega|exact h.1|exfalso;have b:=h.2;rename_i g;have g:decide (i<0)=true:=g;have g:=dO g;omega|rw[aql Y]|rw[aqm Y]<;>rfl|simp only[bc]at*;omega
def arG:=wK (.el W.aF) (.int .i64) (.int .i64) aqV
theorem anQ(l:List F):bh 239 [wL .aP l] (eT .aP (df l)):=by
 refine vF func239 rfl [] [] ?_;repeat' first|intro _|apply aQ
 all_goals first|exact bj|rfl
def Pm:=dj (.ls W.aP) λl (_:True)=>anQ l
theorem aDW(l:List F):bh 253 [wL .aP l] (eT .aP (kq l)):=by
 refine vF func253 rfl [] [] ?_;repeat' first|intro _|apply aQ
 all_goals first|exact bj|rfl
def Zn:=dj (.ls W.aP) λl (_:True)=>aDW l
def nlE:SE Un:=.c (.d (.sc (.slice none 0 0)))
def Xf:ST Un:=.e (.agg [.d (.sc (.int .i64 3)),.d (.sc (.int .i64 0)),.d (.sc (.int .i64 0)),.d (.sc (.bool false)),.d (.sc (.slice none 0 0)),.d (.sc (.slice none 0 0)),.d (.sc (.slice none 0 0))])
theorem anL:dA prog 239 (bX (cy (U:=Un) [])) ([nlE].map SE.aI) (bX (cy (U:=Un) [])) (·∈[]) Xf.aI:=by
 refine ajk (V:=Vw) (reg:=⟨[],[]⟩) (ls:=[]) (aN:=[]) (τ:=⟨[(2,.e (.c (.ptr 0 0)))],[(0,.cells [.d (.sc (.int .i64 3)),.d (.sc (.int .i64 0)),.d (.sc (.int .i64 0)),.d (.sc (.bool false)),.d (.sc (.slice none 0 0)),.d (.sc (.slice none 0 0)),.d (.sc (.slice none 0 0))])],1⟩) mixed func239 rfl af (js rfl) rfl rfl rfl rfl (λ_ _ h=>by cases h) ?_;repeat' first|intro _|apply aQ
 all_goals first|exact bj|rfl
def auk:gv prog 239:=gY func239 af rfl
def agw(H:List (Nat×aZ Un))(args:List (SE Un))(K:iA Un->Prop):Prop:=
 match H,args with
 |[],[.c (.d (.sc (.slice none 0 0)))]=>K ⟨Xf,[],[],[]⟩
 |_,_=>False
def aDf:gy prog Un where
 f:=239
 iu:=auk
 run:=agw
 ok H args K h:=by
  unfold agw at h;split at h
  ·refine⟨_,?_,λu a b=>?_,h⟩
   ·exact anL.gL λu a=>by simp at a
   ·simp at a
  ·cases h
@[irreducible] def VP(l:List J):=(∀c∈l,b8 c)/\l.length<=1000000
def Oa{l:List J}(h:VP l):=(VP.eq_1 ..).mp h
@[irreducible] def pR(l:List J)(i:Nat):List F:=(l.take i).map λc=>dB c 3
def ajo(l:List J):pR l 0=[]:=by unfold pR;rfl
def aJO(l:List J):(pR l 0).length=0:=by rw[ajo];rfl
def ajq(h:l[(i:Int).toNat]?=some c):pR l i++[dB c 3]=pR l (i+1):=by rw[bt]at h;unfold pR;rw[fy,h,ia];rfl
def aJR(h:l[(i:Int).toNat]?=some c):(pR l i).length+[dB c 3].length=(pR l (i+1)).length:=by rw[<-ajq h];simp
def aJQ(l:List J)(i:Nat):(pR l i).length<=l.length:=by unfold pR;simp;omega
def aJP(h:decide ((i:Int)<l.length)=false):pR l i=l.map λc=>dB c 3:=by simp only[bc]at h;unfold pR;rw[eL O]
def ajp(h:VP l)(i:Nat)(x:F):((pR l i).length+[x].length)*oR.dF<=140737488355328/\(pR l i).length+[x].length<=140737488355328:=by have b:=aJQ l i;have c:=(Oa h).2;have e:oR.dF=104:=rfl;have a:[x].length=1:=rfl;rw[e,a];omega
theorem aJy(l:List J)(h:VP l):bh 252 [wL .aF l] (eT .aP (j_ l)):=by
 refine vG func252 rfl ⟨[FX],[aDf]⟩ [(3,⟨Nat,λx=>⟨[(2,br 0),(3,br 1),(7,lT .aF l),(8,iT l.length),(9,iT x)],[(0,cj .aP zM),(1,.cells [cG 3,cG 0,cG 0,iB,fL,fL,.aX 2 W.aP (pR l x).length]),(2,.aW (U:=Un) W.aP (pR l x))],3⟩,λx=>x<=l.length/\True,λx=>l.length-x⟩)] ?_;repeat' first|intro _|apply aQ|refine aS 0 (aQ ?_ λ(x:Nat)(a:x<=l.length/\True)=>?_)|refine aS (x+1) ?_
 all_goals(try simp only[bz,fI]at*)
 all_goals first|exact bj|omega|((with_reducible show(_&&_)=true);kernel_rfl)| (with_reducible first|exact ajo l|exact aJO l)|exact(Oa h).1 _ (bM Y)| (with_reducible first|exact(ajp h _ _).1|exact(ajp h _ _).2|exact ajq Y|exact aJR Y)|rw[aJP Y]<;>rfl|have:=(Oa h).2;have g:=a.1;simp only[be,bc]at*;omega|rfl
def Zw:=dj (.ls W.aF) aJy
end Go.Proofs.YtfbmhjooliccnaaGreatDoor
