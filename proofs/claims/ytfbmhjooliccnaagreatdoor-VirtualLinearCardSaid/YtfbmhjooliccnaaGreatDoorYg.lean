/- A part of the proof of VirtualLinear: Fc to Fk. No condition. -/
import Derived.Test.YtfbmhjooliccnaaGreatDoorYf
set_option linter.all false
set_option maxRecDepth 100000
set_option maxHeartbeats 60000000
noncomputable section
namespace Go.Proofs.YtfbmhjooliccnaaGreatDoor
open Go Go.Ab Go.Proofs.Tryz
variable {k n:Nat}{A B:ao}{l:List ByteArray}{x d v c:Int}{s t:az}{y U:aY}{R Q:Bool}{X P:Type}
def J.lt{c p:J}(h:c∈p.aL):SizeOf.sizeOf c<SizeOf.sizeOf p:=by
 cases p with
 |mk l n a b=>have:=Wx (show c∈b from h);simp only[J.mk.sizeOf_spec];omega
def F.lt{c p:F}(h:c∈p.aO):SizeOf.sizeOf c<SizeOf.sizeOf p:=by
 cases p with
 |mk l n a b=>have:=Wx (show c∈b from h);simp only[F.mk.sizeOf_spec];omega
def J.at{p c:J}(h:p.aL[(k:Int).toNat]?=some c):J.mk c.aK c.neg c.aC c.aL∈p.aL:=by rw[J.pf];exact bM h
def F.at{p c:F}(h:p.aO[(k:Int).toNat]?=some c):F.mk c.aJ c.bU (J.mk c.aF.aK c.aF.neg c.aF.aC c.aF.aL) c.aO∈p.aO:=by rw[F.pf];exact bM h
def Xb(f:X->Bool){l:List X}{c:X}(h:l[k]?=some c):(l.drop k).all f=(f c&&(l.drop (k+1)).all f):=by obtain⟨a,rfl⟩:=du.1 h;rw[kB a,w_]
mutual
def adi (d:Int):J->Bool
 |.mk _ _ _ a=>!decide (d+1<a.length)&&GK d a
def GK (d:Int):List J->Bool
 |[]=>true
 |p::r=>adi d p&&GK d r
end
theorem azm(d:Int):∀l,GK d l=l.all (adi d)
 |[]=>by simp[GK]
 |p::r=>by rw[GK,azm d r,w_]
inductive kY:J->Prop where
 |mk (l:Int) (n:Bool) (a:ao) (cs:List J) (h1:Sm a) (h2:cs.length<=1000000000) (h3:∀c∈cs,kY c):kY (.mk l n a cs)
theorem kY.aC{p:J}(h:kY p):Sm p.aC:=by cases h;assumption
def kY.len{p:J}(h:kY p):p.aL.length<=1000000000:=by cases h;assumption
def kY.bu{p:J}(h:kY p):∀c∈p.aL,kY c:=by cases h;assumption
mutual
def l6:J->J
 |.mk l n a b=>if l=0 then .mk 0 (jE ⟨n,a⟩).neg (jE ⟨n,a⟩).aC []else .mk l false [] (FV b)
def FV:List J->List J
 |[]=>[]
 |p::r=>l6 p::FV r
end
theorem Ph:∀l,FV l=l.map l6
 |[]=>by simp[FV]
 |p::r=>by rw[FV,Ph r,de]
def Y4(p:J):l6 p=if p.aK=0 then .mk 0 (jE ⟨p.neg,p.aC⟩).neg (jE ⟨p.neg,p.aC⟩).aC []else .mk p.aK false [] (p.aL.map l6):=by cases p;rw[l6,Ph];rfl
def TH{f:X->P}{l:List X}{z:P}{c:X}(a:decide ((k:Int)<l.length)=true)(b:l[(k:Int).toNat]?=some c):
 ((l.take k).map f++List.replicate (l.length-k) z).set (k:Int).toNat (f c)=(l.take (k+1)).map f++List.replicate (l.length-(k+1)) z:=by
 rw[bt]at b⊢;have a:k<l.length:=an a;have e:l.length-k=(l.length-(k+1))+1:=O;rw[e,vp,yB _ _ (by simp;omega)];have:k-((l.take k).map f).length=0:=by simp;omega
 rw[this,xc,fy,b];simp
def Ql{f:X->P}{l:List X}{z:P}(a:decide ((k:Int)<l.length)=false)(b:k<=l.length):(l.take k).map f++List.replicate (l.length-k) z=l.map f:=by have a:¬k<l.length:=an a;have:k=l.length:=O;subst this;simp
def zP:J:=.mk 0 false [] []
def arj(p:J)(h:kY p):bh 80 [wE .aF p] (eT .aF (l6 p)):=by
 generalize g:SizeOf.sizeOf p=D
 induction D using Nat.strongRecOn generalizing p
 rename_i D b;subst g;refine vF func80 rfl [F1,ot Vw 80 (.el W.aF) (λ(q:J)=>q∈p.aL) (λ(q:J)=>eT .aF (l6 q)) (λq a=>b _ (J.lt a) q (h.bu q a) rfl)] [(5,⟨Nat,λx=>⟨[(1,br 0),(2,br 1),(3,.e (.c (.aX 2 (U:=Un) W.aF p.aL.length))),(18,lT .aF p.aL),(19,iT p.aL.length),(20,iT x)],[(0,cj .aF p),(1,cj .aF zP),(2,.aW (U:=Un) W.aF ((p.aL.take x).map l6++List.replicate (p.aL.length-x) zP))],3⟩,λx=>x<=p.aL.length/\True,λx=>p.aL.length-x⟩)] ?_;have f:=Y4 p;have i:=h.len;have j:=h.aC;repeat' first|intro _|apply aQ|refine aS 0 (aQ ?_ λ(x:Nat)(d:x<=p.aL.length/\True)=>?_)|refine aS (x+1) ?_
 all_goals try first|exact bj|rfl|assumption|omega|exact J.at Y|simp only[J.pf];exact TH Y Y|simp only[mi];omega|simp at*;omega|rw[Ql Y d.1,f,Z (by simpa using‹(p.aK==0)=false›)];rfl|simp_all[J.aK,J.neg,J.aC,J.aL];done
 all_goals trace_state
def CK:=dj (.el W.aF) arj
def xJ(a:ao):Int:=(a[a.length-1]?).getD 0
def cP(p:J):Bool:=decide (p.aK=0/\p.aC.length=0)
def vY(a:List J):Bool:=match a[a.length-1]? with|some c=>cP c|none=>false
mutual
def gB:J->Bool
 |.mk l n a b=>if l=0 then decide (b.length=0)&&((decide (a.length=0)&& !n)||(decide (0<a.length)&&decide (xJ a≠0)))
  else decide (1<=l/\l<=4)&&decide (a.length=0)&& !n&&decide (2<=b.length)&&FH l b&& !vY b
def FH (l:Int):List J->Bool
 |[]=>true
 |c::r=>(!decide (l<=c.aK)&&gB c)&&FH l r
end
theorem Js(l:Int):∀a,FH l a=a.all (λc=>!decide (l<=c.aK)&&gB c)
 |[]=>by simp[FH]
 |p::r=>by rw[FH,Js l r,w_]
def OW(p:J):gB p=if p.aK=0 then decide (p.aL.length=0)&&((decide (p.aC.length=0)&& !p.neg)||(decide (0<p.aC.length)&&decide (xJ p.aC≠0)))
 else decide (1<=p.aK/\p.aK<=4)&&decide (p.aC.length=0)&& !p.neg&&decide (2<=p.aL.length)&&p.aL.all (λc=>!decide (p.aK<=c.aK)&&gB c)&& !vY p.aL:=by
 cases p;rw[gB,Js];rfl
def ayQ(h:A[((A.length:Int)-1).toNat]?=some x):xJ A=x:=by have:((A.length:Int)-1).toNat=A.length-1:=O;rw[this]at h;simp[xJ,h]
def Yi{f:J->Bool}{l:List J}{c:J}(h:((l.drop k).all f&&Q)=R)(a:l[(k:Int).toNat]?=some c)(b:f c=false):false=R:=by rw[bt]at a;rw[Xb f a,b]at h;exact h
def ap8{f:J->Bool}{l:List J}{c:J}(h:((l.drop k).all f&&Q)=R)(a:l[(k:Int).toNat]?=some c)(b:f c=true):((l.drop (k+1)).all f&&Q)=R:=by rw[bt]at a;rw[Xb f a,b,wQ]at h;exact h
def ayS{a:List J}{x:J}(h:a[((a.length:Int)-1).toNat]?=some x):vY a=cP x:=by have:((a.length:Int)-1).toNat=a.length-1:=O;rw[this]at h;simp[vY,h]
def ap7{p:J}(a:(p.aK==0)=true)(b:decide (0<((p.aL.length:Nat):Int))=false)(c:decide (0<((p.aC.length:Nat):Int))=true)(d:p.aC[((p.aC.length:Int)-1).toNat]?=some x):(x !=0)=gB p:=by
 rw[OW,aM (an a),ayQ d];simp only[be,bc]at b c;have f:decide (p.aL.length=0)=true:=by simp only[be];omega
 have g:decide (p.aC.length=0)=false:=by simp only[bc];omega
 have h:decide (0<p.aC.length)=true:=by simp only[be];omega
 rw[f,g,h];by_cases e:x=0<;>simp[e]
def ap9{f:J->Bool}{l:List J}{c:J}(h:((l.drop k).all f&& !vY l)=R)(a:decide ((k:Int)<l.length)=false)(b:l[((l.length:Int)-1).toNat]?=some c):
 (!decide ((J.mk c.aK c.neg c.aC c.aL).aK=0/\(J.mk c.aK c.neg c.aC c.aL).aC.length=0))=R:=by
 have a:¬k<l.length:=an a;rw[mU O,ayS b]at h;rw[J.pf];exact h
def axE(p:J):bh 126 [wE .aF p] (bT (gB p)):=by
 generalize h:SizeOf.sizeOf p=D
 induction D using Nat.strongRecOn generalizing p
 rename_i D g;subst h;refine vF func126 rfl [Zh,JU,ot Vw 126 (.el W.aF) (λ(q:J)=>q∈p.aL) (λ(q:J)=>bT (gB q)) (λq i=>g _ (J.lt i) q rfl)] [(10,⟨Nat,λx=>⟨[(1,br 0),(4,iT p.aL.length),(61,lT .aF p.aL),(62,iT p.aL.length),(63,iT x)],[(0,cj .aF p)],1⟩,λx=>x<=p.aL.length/\p.aL.length<=9223372036854775807/\2<=p.aL.length/\((p.aL.drop x).all (λc=>!decide (p.aK<=c.aK)&&gB c)&& !vY p.aL)=gB p,λx=>p.aL.length-x⟩)] ?_;have b:=OW p;have f:decide (0<((p.aL.length:Nat):Int))=true->decide (p.aL.length=0)=false:=by intro e;simp only[be,bc]at*;omega
 have k:decide (0<((p.aL.length:Nat):Int))=false->decide (p.aL.length=0)=true:=by intro e;simp only[be,bc]at*;omega
 have d:decide (0<((p.aC.length:Nat):Int))=true->decide (p.aC.length=0)=false:=by intro e;simp only[be,bc]at*;omega
 have j:decide (0<((p.aC.length:Nat):Int))=true->decide (0<p.aC.length)=true:=by intro e;simp only[be,bc]at*;omega
 repeat' first|intro _|apply aQ|refine aS 0 (aQ ?_ λ(x:Nat) (a:x<=p.aL.length/\p.aL.length<=9223372036854775807/\2<=p.aL.length/\((p.aL.drop x).all (λc=>!decide (p.aK<=c.aK)&&gB c)&& !vY p.aL)=gB p)=>?_)|refine aS (x+1) ?_
 all_goals first|exact bj|rfl|assumption|omega|exact J.at Y|exact ap9 a.2.2.2 Y Y|exact Yi a.2.2.2 Y (by have:=‹(!gB _)=true›;simp_all[J.pf])|exact Yi a.2.2.2 Y (by have:=‹decide (p.aK<=_)=!false›;simp_all)|exact ap8 a.2.2.2 Y (by have:=‹(!gB _)=false›;simp_all[J.pf])|rw[b,aM (by simpa using‹(p.aK==0)=true›),f Y];rfl|exact ap7 Y Y Y Y|rw[b,Z (by simpa using‹(p.aK==0)=false›),d Y];simp;done|simp at*;omega|simp_all[J.pf];done|simp_all[J.pf];omega|rw[oV];simp_all[J.pf];omega
def Zg:=dj (.el W.aF) λp (_:True)=>axE p
def qZ:List ByteArray->Nat->Bool
 |[],_=>true
 |s::r,i=>if 8<=i\/40<s.size then false else qZ r (i+1)
def uw(p:dK)(n:Int):Bool:=qZ p.bx 0&&(decide (p.all.length<=8)&&xA p.aP n)
def Qg(h:l[k]?=some s):qZ (l.drop k) k=if 8<=k\/40<s.size then false else qZ (l.drop (k+1)) (k+1):=by obtain⟨a,rfl⟩:=du.1 h;rw[kB a,qZ]
def awp(h:(qZ (l.drop k) k&&Q)=R)(a:decide ((k:Int)<l.length)=true)(b:decide (8<=(k:Int))=!false):false=R:=by have a:k<l.length:=an a;have b:(8:Int)<=k:=an b;rw[Qg (cN a),aM (.inl O)]at h;exact h
def awr(h:(qZ (l.drop k) k&&Q)=R)(a:l[(k:Int).toNat]?=some s)(b:decide (40<((s.size:Nat):Int))=true):false=R:=by rw[bt]at a;have b:(40:Int)<s.size:=an b;rw[Qg a,aM (.inr O)]at h;exact h
def awq(h:(qZ (l.drop k) k&&Q)=R)(a:l[(k:Int).toNat]?=some s)(b:decide (40<((s.size:Nat):Int))=false)(c:decide (8<=(k:Int))=false):(qZ (l.drop (k+1)) (k+1)&&Q)=R:=by rw[bt]at a;have b:¬(40:Int)<s.size:=an b;have c:¬(8:Int)<=k:=an c;rw[Qg a,Z (by rintro(h|h)<;>omega)]at h;exact h
def abw(h:(qZ (l.drop k) k&&Q)=R)(a:decide ((k:Int)<l.length)=false):Q=R:=by have a:¬k<l.length:=an a;rw[mU O,qZ,wQ]at h;exact h
def av5(p:dK)(n:Int)(h:0<=n/\n<=1000000):bh 16 [wE .pre p,wI .i64 n] (bT (uw p n)):=by
 refine vF func16 rfl [arS] [(2,⟨Nat,λx=>⟨[(2,br 0),(1,iT n),(8,iT p.bx.length),(9,iT x)],[(0,cj .pre p)],1⟩,λx=>x<=p.bx.length/\p.bx.length<=9223372036854775807/\(qZ (p.bx.drop x) x&&(decide (p.all.length<=8)&&xA p.aP n))=uw p n,λx=>p.bx.length-x⟩)] ?_;have b:(qZ p.bx 0&&(decide (p.all.length<=8)&&xA p.aP n))=uw p n:=rfl;repeat' first|intro _|apply aQ|refine aS 0 (aQ ?_ λ(x:Nat) (a:x<=p.bx.length/\p.bx.length<=9223372036854775807/\(qZ (p.bx.drop x) x&&(decide (p.all.length<=8)&&xA p.aP n))=uw p n)=>?_)|refine aS (x+1) ?_
 all_goals first|exact bj|rfl|assumption|omega|exact awp a.2.2 Y Y|exact awr a.2.2 Y Y|exact awq a.2.2 Y Y Y|rw[<-abw a.2.2 Y,F.pf,show decide (p.all.length<=8)=true from by have:=‹decide (((p.all.length:Nat):Int)<=8)=true›;simp only[be]at*;omega];rfl|rw[<-abw a.2.2 Y];simp at*;omega|simp at*;omega
def arT:=eI (.el W.pre) (.int .i64) av5
@[irreducible] def b5(d:Int):=0<=d/\d<4294967296
def cD:b5 d↔0<=d/\d<4294967296:=by unfold b5;exact Iff.rfl
def Dg(l:ao):=∀d∈l,b5 d
def uE(n:Int):SE Un:=.c (.d (.sc (.int .u32 n)))
def tT(l:List (SE Un)):ST Un:=.cE l
def lE(k:W)(l:List (mq k)):SE Un:=.c (.d (.bN (U:=Un) k l))
def bE(b:Bool):SE Un:=.c (.d (.cK b))
def lL(A B:ao):Nat->Int
 |0=>0
 |k+1=>((A[k]?).getD 0+(B[k]?).getD 0+lL A B k)/4294967296
def Yb(A B:ao):lL A B 0=0:=rfl
def Jq(A B:ao)(k:Nat):lL A B (k+1)=((A[k]?).getD 0+(B[k]?).getD 0+lL A B k)/4294967296:=rfl
def pc(A B:ao)(k:Nat):Int:=((A[k]?).getD 0+(B[k]?).getD 0+lL A B k)%4294967296
def qV(A B:ao):List Int:=(List.range A.length).map (pc A B)++[lL A B A.length]
def rY(h:∀d∈A,b5 d)(k:Nat):b5 ((A[k]?).getD 0):=by
 cases e:A[k]? with
 |none=>exact cD.2 ⟨ae,ae⟩
 |some x=>exact h x (bM e)
theorem Jp{A B:ao}(b:∀d∈A,b5 d)(a:∀d∈B,b5 d):∀k,0<=lL A B k/\lL A B k<=1
 |0=>by simp[Yb]
 |k+1=>by have e:=rY b k;have c:=rY a k;have f:=Jp b a k;rw[cD]at e c;rw[Jq];omega
def Ke{f:Nat->Int}(b:k<n)(a:v=f k):((List.range k).map f++List.replicate (n-k) 0).set k v=(List.range (k+1)).map f++List.replicate (n-(k+1)) 0:=by have e:n-k=(n-(k+1))+1:=O;rw[e,vp,yB _ _ ai];simp[sP,a]
def Dg.at(h:Dg A)(a:A[k]?=some x):b5 x:=h x (bM a)
def Dg.fe(h:Dg A):Dg (aT A):=λd a=>h d (nE a)
def qk(a b:ao):List Int:=if a.length<b.length then b else a
def u5(a b:ao):List Int:=if a.length<b.length then a else b
def vt(a b:ao):List Int:=aT (qV (qk (aT a) (aT b)) (u5 (aT a) (aT b)))
def amT(x y c:Int)(h:b5 x/\b5 y/\0<=c/\c<=1):bh 216 [wI .u32 x,wI .u32 y,wI .u32 c] (tT [uE ((x+y+c)%4294967296),uE ((x+y+c)/4294967296)]):=by
 refine vF func216 rfl [] [] ?_;obtain⟨i,g,m⟩:=h;rw[cD]at i g;have f:IntKind.u64.wrap x=x:=IntWalk.u64_in _ O;have e:IntKind.u64.wrap y=y:=IntWalk.u64_in _ O;have d:IntKind.u64.wrap c=c:=IntWalk.u64_in _ O;have b:IntKind.u64.wrap (x+y)=x+y:=IntWalk.u64_in _ O;have a:IntKind.u64.wrap (x+y+c)=x+y+c:=IntWalk.u64_in _ O;have l:IntKind.u32.wrap (x+y+c)=(x+y+c)%4294967296:=by rw[IntKind.wrap_u32]
 have k:(x+y+c).fdiv (2^min (Int.toNat 32) IntKind.u64.bits)=(x+y+c)/4294967296:=by show(x+y+c).fdiv 4294967296=_;rw[yt _ O]
 have j:IntKind.u32.wrap ((x+y+c)/4294967296)=(x+y+c)/4294967296:=IntWalk.u32_in _ O;repeat' first|intro _|apply aQ
 all_goals first|exact bj|omega|rw[f,e,d,b,a,l];done|rw[f,e,d,b,a,k,j];done
def FW:=wK (.int .u32) (.int .u32) (.int .u32) amT
def aH_(x y c:Int)(h:b5 x/\b5 y/\0<=c/\c<=1):dA prog 215 (bX (cy [(0,aZ.cells (U:=Un) [.d (.sc (.int .u32 c))])])) ([uE x,uE y,.c (.ptr 0 0)].map SE.aI) (bX (cy [(0,aZ.cells (U:=Un) [.d (.sc (.int .u32 ((x+y+c)/4294967296)))])])) (·∈[0]) (uT ((x+y+c)%4294967296)).aI:=by
 refine vO func215 rfl ⟨[FW],[]⟩ [] [0] ⟨[(5,uT ((x+y+c)%4294967296))],[(0,.cells [.d (.sc (.int .u32 ((x+y+c)/4294967296)))])],1⟩ ?_;repeat' first|exact h|intro _|apply aQ
 all_goals first|exact bj|rfl
def aug:gv prog 215:=gY func215 af rfl
def agX(H:List (Nat×aZ Un))(args:List (SE Un))(K:iA Un->Prop):Prop:=
 match H,args with
 |[(0,.cells [.d (.sc (.int .u32 c))])],[.c (.d (.sc (.int .u32 x))),.c (.d (.sc (.int .u32 y))),.c (.ptr 0 0)]=>(b5 x/\b5 y/\0<=c/\c<=1)/\K ⟨uT ((x+y+c)%4294967296),[(0,.cells [.d (.sc (.int .u32 ((x+y+c)/4294967296)))])],[],[0]⟩
 |_,_=>False
def aDu:gy prog Un where
 f:=215
 iu:=aug
 run:=agX
 ok H args K h:=by
  unfold agX at h;split at h
  ·rename_i c x y;obtain⟨e,d⟩:=h;refine⟨_,?_,λu a b=>?_,d⟩
   ·exact(aH_ x y c e).gL λu a=>by have:u<1:=a.1;simp;omega
   ·have:u<1:=a;simp at b;omega
  ·cases h
def ade(a b:ao):(u5 a b).length<=(qk a b).length:=by unfold qk u5;split<;>omega
def azl(c:Sm A)(d:Sm B):Sm (qk A B):=by unfold qk;split<;>assumption
def Re(c:Dg A)(d:Dg B):Dg (qk A B):=by unfold qk;split<;>assumption
def TK(c:Dg A)(d:Dg B):Dg (u5 A B):=by unfold u5;split<;>assumption
def r5(h:A[(k:Int).toNat]?=some x):(A[k]?).getD 0=x:=by rw[bt]at h;simp[h]
def Kr(h:A.length<=k):(A[k]?).getD 0=0:=by rw[iM h];rfl
def Dg.Cr(h:Dg A)(a:A[(k:Int).toNat]?=some x):b5 x:=by rw[bt]at a;exact h.at a
def apP(a:A[(k:Int).toNat]?=some x)(b:B[(k:Int).toNat]?=some d):(x+d+lL A B k)/4294967296=lL A B (k+1):=by rw[Jq,r5 a,r5 b]
def apQ(a:A[(k:Int).toNat]?=some x)(b:B.length<=k):(x+0+lL A B k)/4294967296=lL A B (k+1):=by rw[Jq,r5 a,Kr b]
def awf(a:A[(k:Int).toNat]?=some x)(b:B[(k:Int).toNat]?=some d)(c:k<n):
 ((List.range k).map (pc A B)++List.replicate (n-k) 0).set (k:Int).toNat ((x+d+lL A B k)%4294967296)=(List.range (k+1)).map (pc A B)++List.replicate (n-(k+1)) 0:=by
 rw[bt];exact Ke c (by rw[pc,r5 a,r5 b])
def awg(a:A[(k:Int).toNat]?=some x)(b:B.length<=k)(c:k<n):
 ((List.range k).map (pc A B)++List.replicate (n-k) 0).set (k:Int).toNat ((x+0+lL A B k)%4294967296)=(List.range (k+1)).map (pc A B)++List.replicate (n-(k+1)) 0:=by
 rw[bt];exact Ke c (by rw[pc,r5 a,Kr b])
def Kc(f:Nat->Int)(n k:Nat)(a:k<=n):((List.range k).map f++List.replicate (n-k) 0).length=n:=by simp;omega
def awe(a:k=A.length):((List.range k).map (pc A B)++List.replicate (A.length+1-k) 0).set ((A.length:Nat):Int).toNat (lL A B k)=qV A B:=by subst a;rw[bt,yB _ _ ai];have:A.length+1-A.length=1:=O;rw[this];simp[qV]
def J0(h:k<=n)(a:decide ((k:Int)<(n:Int))=false):k=n:=by simp only[bc]at a;omega
def Gw:b5 0:=cD.2 ⟨ae,ae⟩
def am8(a b A B:ao)(r:Sm a)(q:Sm b)(p:Dg A)(o:Dg B)(l:A.length<=1099511627776)(hlen:B.length<=A.length)(g:decide (((aT a).length:Int)<((aT b).length:Int))=true->aT b=A/\aT a=B)(f:decide (((aT a).length:Int)<((aT b).length:Int))=false->aT a=A/\aT b=B)(n:∀k,0<=lL A B k/\lL A B k<=1):bh 170 [wL .u32 a,wL .u32 b] (lT .u32 (aT (qV A B))):=by
 refine vG func170 rfl ⟨[vE],[aDu]⟩ [(8,⟨Nat,λx=>⟨[(0,lT .u32 A),(1,lT .u32 B),(5,br 0),(6,.e (.c (.db 215 [(0,0)]))),(7,.e (.c (.aX 1 (U:=Un) W.u32 (A.length+1)))),(27,lT .u32 B),(28,iT B.length),(29,iT x)],[(0,.cells [.d (.sc (.int .u32 (lL A B x)))]),(1,.aW (U:=Un) W.u32 ((List.range x).map (pc A B)++List.replicate (A.length+1-x) 0))],2⟩,λx=>x<=B.length/\True,λx=>B.length-x⟩),(13,⟨Nat,λx=>⟨[(0,lT .u32 A),(5,br 0),(6,.e (.c (.db 215 [(0,0)]))),(7,.e (.c (.aX 1 (U:=Un) W.u32 (A.length+1)))),(10,iT x)],[(0,.cells [.d (.sc (.int .u32 (lL A B x)))]),(1,.aW (U:=Un) W.u32 ((List.range x).map (pc A B)++List.replicate (A.length+1-x) 0))],2⟩,λx=>B.length<=x/\x<=A.length/\True,λx=>A.length-x⟩)] ?_;have m:∀y,decide ((y:Int)<A.length)=false->A.length<=y.toNat\/y<0:=by intro y j;simp only[bc]at j;omega
 repeat' first|intro _|apply aQ|refine aS 0 (aQ ?_ λ(x:Nat)(h:x<=B.length/\True)=>?_)|refine aS B.length (aQ ?_ λ(x:Nat)(h:B.length<=x/\x<=A.length/\True)=>?_)|refine aS (x+1) ?_
 all_goals first|exact bj|rfl|omega|have:=n x;omega|exact Dg.Cr p Y|exact Dg.Cr o Y|exact Gw|exact(g Y).1|exact(g Y).2|exact(f Y).1|exact(f Y).2|exact apP Y Y|exact apQ Y h.1|exact awf Y Y (by simp only[be,bc]at*;omega)|exact awg Y h.1 (by simp only[be,bc]at*;omega)|rw[Kc _ _ _ O];simp only[be,bc]at*;omega|simp only[be,bc]at*;omega|have e:=g Y;rw[e.1];simp only[BC];omega|have e:=f Y;rw[e.1];simp only[BC];omega|have e:=g Y;rw[e.2]|have e:=f Y;rw[e.2]|have e:=g Y;have i:((A.length:Int)+1).toNat=A.length+1:=O;rw[e.1,i];rfl|have e:=f Y;have i:((A.length:Int)+1).toNat=A.length+1:=O;rw[e.1,i];rfl|have e:=J0 h.1 Y;rw[e]|rw[rK,Kc _ _ _ O]|rw[awe (J0 h.2.1 Y)]
def am9(a b:ao)(h:Sm a/\Sm b/\Dg a/\Dg b):bh 170 [wL .u32 a,wL .u32 b] (lT .u32 (vt a b)):=by
 obtain⟨g,f,d,c⟩:=h;have j:=Re d.fe c.fe;have i:=TK d.fe c.fe;refine am8 a b (qk (aT a) (aT b)) (u5 (aT a) (aT b)) g f j i (azl (MY g) (MY f)) (ade _ _) (λe=>?_) (λe=>?_) (Jp j i)
 ·simp only[be]at e;unfold qk u5;rw[aM O,aM O];exact⟨rfl,rfl⟩
 ·simp only[bc]at e;unfold qk u5;rw[Z O,Z O];exact⟨rfl,rfl⟩
def arw:=eI (.ls W.u32) (.ls W.u32) am9
def o_(A B:ao):Nat->Int
 |0=>0
 |k+1=>if(A[k]?).getD 0<(B[k]?).getD 0 then-1 else if(B[k]?).getD 0<(A[k]?).getD 0 then 1 else o_ A B k
def ir(a b:ao):Int:=
 if(aT a).length<(aT b).length then-1 else if(aT b).length<(aT a).length then 1 else o_ (aT a) (aT b) (aT a).length
def aqv{R:Int}(h:o_ A B k=R)(f:0<k)(a:A[((k:Int)-1).toNat]?=some x)(b:B[((k:Int)-1).toNat]?=some d)(c:decide (x<d)=true):-1=R:=by obtain⟨j,rfl⟩:∃j,k=j+1:=⟨k-1,O⟩;have e:(((j+1:Nat):Int)-1).toNat=j:=O;rw[e]at a b;rw[o_,a,b,ib,ib,aM (an c)]at h;exact h
def aqu{R:Int}(h:o_ A B k=R)(f:0<k)(b:A[((k:Int)-1).toNat]?=some x)(c:B[((k:Int)-1).toNat]?=some d)(a:decide (d<x)=true):1=R:=by obtain⟨j,rfl⟩:∃j,k=j+1:=⟨k-1,O⟩;have e:(((j+1:Nat):Int)-1).toNat=j:=O;rw[e]at b c;have a:d<x:=an a;rw[o_,b,c,ib,ib,Z O,aM a]at h;exact h
def aqt{y R:Int}(h:o_ A B k=R)(l:0<k)(c:A[((k:Int)-1).toNat]?=some x)(f:B[((k:Int)-1).toNat]?=some y)(g:decide (x<y)=false)(a:A[((k:Int)-1).toNat]?=some d)(b:B[((k:Int)-1).toNat]?=some v)(i:decide (v<d)=false):o_ A B (k-1)=R:=by rw[c]at a;rw[f]at b;cases a;cases b;obtain⟨j,rfl⟩:∃j,k=j+1:=⟨k-1,O⟩;have e:(((j+1:Nat):Int)-1).toNat=j:=O;rw[e]at c f;have i:¬v<x:=an i;have g:¬x<v:=an g;rw[o_,c,f,ib,ib,Z g,Z i]at h;exact h
def aqs{R:Int}(h:o_ A B k=R)(a:decide (0<=(k:Int)-1)=false):0=R:=by
 have:k=0:=by simp only[bc]at a;omega
 subst this;exact h
def aqJ(a b:ao):bh 171 [wL .u32 a,wL .u32 b] (iT (ir a b)):=by
 refine vF func171 rfl [vE] [(7,⟨Nat,λx=>⟨[(0,lT .u32 (aT a)),(1,lT .u32 (aT b)),(5,iT ((x:Int)-1))],[],0⟩,λx=>x<=(aT a).length/\(aT a).length=(aT b).length/\(aT a).length<=9223372036854775807/\o_ (aT a) (aT b) x=ir a b,λx=>x⟩)] ?_;have n:ir a b=if(aT a).length<(aT b).length then-1 else if(aT b).length<(aT a).length then 1 else o_ (aT a) (aT b) (aT a).length:=rfl;repeat' first|intro _|apply aQ|refine aS (aT a).length (aQ ?_ λ(x:Nat) (c:x<=(aT a).length/\(aT a).length=(aT b).length/\(aT a).length<=9223372036854775807/\o_ (aT a) (aT b) x=ir a b)=>?_)|refine aS (x-1) ?_
 all_goals first|exact bj|rfl|omega|simp only[be,bc]at*;omega|exact aqv c.2.2.2 (by(simp only[be,bc]at*;omega)) Y Y Y|exact aqu c.2.2.2 (by(simp only[be,bc]at*;omega)) Y Y Y|exact aqs c.2.2.2 Y|rename_i j d k e f l g m h i;exact aqt c.2.2.2 (by(simp only[be,bc]at*;omega)) d e f g h i
def JR:=eI (.ls W.u32) (.ls W.u32) λa b (_:True)=>aqJ a b
def apB(v:BitVec 32):IntKind.u32.wrap (v.toNat:Int)=(v.toNat:Int):=IntWalk.u32_in _ (by have:=v.isLt;omega)
def apz(v:BitVec 32):BitVec.ofInt 32 (v.toNat:Int)=v:=ai
def apC(v:BitVec IntKind.u32.bits):IntKind.u32.wrap (v.toNat:Int)=(v.toNat:Int):=apB v
def apA(v:BitVec IntKind.u32.bits):BitVec.ofInt IntKind.u32.bits (v.toNat:Int)=v:=apz v
def apy(v:BitVec 32):(v.toNat:Int).fdiv 2147483648=if v.msb then 1 else 0:=by
 have h:=v.isLt;rw[yt _ O,BitVec.msb_eq_decide];by_cases a:2147483648<=v.toNat
 ·rw[aM (an a)];omega
 ·rw[Z (an a)];omega
def Sh(a:0<=x/\x<4294967296):(BitVec.ofInt 32 x).msb=decide (2147483648<=x):=by
 rw[BitVec.msb_eq_decide];have e:((BitVec.ofInt 32 x).toNat:Int)=x:=by rw[H0];omega
 have:(2^(32-1)<=(BitVec.ofInt 32 x).toNat)↔2147483648<=x:=O;exact decide_eq_decide.2 this
def apt(b:0<=x/\x<4294967296)(f:0<=v/\v<4294967296)(j:0<=c/\c<=1)(k:d=(x-v-c)%4294967296):
 (((((BitVec.ofInt 32 4294967295 ^^^ BitVec.ofInt 32 x) &&& BitVec.ofInt 32 v) ||| ((BitVec.ofInt 32 4294967295 ^^^ (BitVec.ofInt 32 x ^^^ BitVec.ofInt 32 v)) &&& BitVec.ofInt 32 d)).toNat:Int)).fdiv 2147483648=if x<v+c then 1 else 0:=by
 rw[apy];have e:(BitVec.ofInt 32 4294967295).msb=true:=rfl;have a:0<=d/\d<4294967296:=O;rw[BitVec.msb_or,BitVec.msb_and,BitVec.msb_and,BitVec.msb_xor,BitVec.msb_xor,BitVec.msb_xor,e,Sh b,Sh f,Sh a];by_cases g:2147483648<=x<;>by_cases h:2147483648<=v<;>by_cases i:2147483648<=d<;>simp only[g,h,i,decide_true,decide_false,Bool.xor_true,Bool.xor_false,rA,sC,wQ,Bool.false_and,H3,Bool.and_false,Bool.or_true,Bool.or_false,Bool.true_or,z6,gT,jq,lM];all_goals first|rw[aM O];done|rw[Z O];done
def aH4(x y c:Int)(h:b5 x/\b5 y/\0<=c/\c<=1):bh 218 [wI .u32 x,wI .u32 y,wI .u32 c] (tT [uE ((x-y-c)%4294967296),uE (if x<y+c then 1 else 0)]):=by
 refine vF func218 rfl [] [] ?_;obtain⟨b,a,d⟩:=h;rw[cD]at b a;have f:IntKind.u32.wrap (IntKind.u32.wrap (x-y)-c)=(x-y-c)%4294967296:=by rw[IntKind.wrap_u32,IntKind.wrap_u32];omega
 have i:IntKind.u32.bits=32:=rfl;have e:(if IntKind.u32.signed=true then-1 else IntKind.u32.max)=4294967295:=rfl;have g:(2:Int)^min (Int.toNat 31) 32=2147483648:=rfl;repeat' first|intro _|apply aQ
 all_goals first|exact bj|omega|rw[e];simp only[apC,apA,f];exact apt b a d rfl
def Zu:=wK (.int .u32) (.int .u32) (.int .u32) aH4
def ath(x y c:Int)(h:b5 x/\b5 y/\0<=c/\c<=1):dA prog 217 (bX (cy [(0,aZ.cells (U:=Un) [.d (.sc (.int .u32 c))])])) ([uE x,uE y,.c (.ptr 0 0)].map SE.aI) (bX (cy [(0,aZ.cells (U:=Un) [.d (.sc (.int .u32 (if x<y+c then 1 else 0)))])])) (·∈[0]) (uT ((x-y-c)%4294967296)).aI:=by
 refine vO func217 rfl ⟨[Zu],[]⟩ [] [0] ⟨[(5,uT ((x-y-c)%4294967296))],[(0,.cells [.d (.sc (.int .u32 (if x<y+c then 1 else 0)))])],1⟩ ?_;repeat' first|exact h|intro _|apply aQ
 all_goals first|exact bj|rfl
def auh:gv prog 217:=gY func217 af rfl
def agE(H:List (Nat×aZ Un))(args:List (SE Un))(K:iA Un->Prop):Prop:=
 match H,args with
 |[(0,.cells [.d (.sc (.int .u32 c))])],[.c (.d (.sc (.int .u32 x))),.c (.d (.sc (.int .u32 y))),.c (.ptr 0 0)]=>(b5 x/\b5 y/\0<=c/\c<=1)/\K ⟨uT ((x-y-c)%4294967296),[(0,.cells [.d (.sc (.int .u32 (if x<y+c then 1 else 0)))])],[],[0]⟩
 |_,_=>False
def aDj:gy prog Un where
 f:=217
 iu:=auh
 run:=agE
 ok H args K h:=by
  unfold agE at h;split at h
  ·rename_i c x y;obtain⟨e,d⟩:=h;refine⟨_,?_,λu a b=>?_,d⟩
   ·exact(ath x y c e).gL λu a=>by have:u<1:=a.1;simp;omega
   ·have:u<1:=a;simp at b;omega
  ·cases h
def lJ(A B:ao):Nat->Int
 |0=>0
 |k+1=>if(A[k]?).getD 0<(B[k]?).getD 0+lJ A B k then 1 else 0
def XF(A B:ao):lJ A B 0=0:=rfl
def Jg(A B:ao)(k:Nat):lJ A B (k+1)=if(A[k]?).getD 0<(B[k]?).getD 0+lJ A B k then 1 else 0:=rfl
def pe(A B:ao)(k:Nat):Int:=((A[k]?).getD 0-(B[k]?).getD 0-lJ A B k)%4294967296
def oO(A B:ao):List Int:=(List.range A.length).map (pe A B)
def qD(a b:ao):List Int:=if ir a b<0 then []else aT (oO (aT a) (aT b))
theorem OD(A B:ao):∀k,0<=lJ A B k/\lJ A B k<=1
 |0=>by rw[XF];omega
 |k+1=>by rw[Jg];split<;>omega
def aoE(a:A[(k:Int).toNat]?=some x)(b:B[(k:Int).toNat]?=some d):(if x<d+lJ A B k then 1 else 0)=lJ A B (k+1):=by rw[Jg,r5 a,r5 b]
def aoF(a:A[(k:Int).toNat]?=some x)(b:B.length<=k):(if x<0+lJ A B k then 1 else 0)=lJ A B (k+1):=by rw[Jg,r5 a,Kr b]
def aGZ(a:A[(k:Int).toNat]?=some x)(b:B[(k:Int).toNat]?=some d)(c:k<n):
 ((List.range k).map (pe A B)++List.replicate (n-k) 0).set (k:Int).toNat ((x-d-lJ A B k)%4294967296)=(List.range (k+1)).map (pe A B)++List.replicate (n-(k+1)) 0:=by
 rw[bt];exact Ke c (by rw[pe,r5 a,r5 b])
def aG0(a:A[(k:Int).toNat]?=some x)(b:B.length<=k)(c:k<n):
 ((List.range k).map (pe A B)++List.replicate (n-k) 0).set (k:Int).toNat ((x-0-lJ A B k)%4294967296)=(List.range (k+1)).map (pe A B)++List.replicate (n-(k+1)) 0:=by
 rw[bt];exact Ke c (by rw[pe,r5 a,Kr b])
def aGY(a:k=A.length):(List.range k).map (pe A B)++List.replicate (A.length-k) 0=oO A B:=by subst a;rw[rM];simp[oO]
def aH7(a b A B:ao)(o:Sm a)(n:Sm b)(m:Dg A)(l:Dg B)(i:A.length<=1099511627776)(hlen:decide (ir (aT a) (aT b)<0)=false->B.length<=A.length)(g:aT a=A)(h:aT b=B)(j:∀k,0<=lJ A B k/\lJ A B k<=1):bh 172 [wL .u32 a,wL .u32 b] (tT [lE .u32 (if ir A B<0 then []else aT (oO A B)),bE (decide (0<=ir A B))]):=by
 refine vG func172 rfl ⟨[vE,JR],[aDj]⟩ [(8,⟨Nat,λx=>⟨[(0,lT .u32 A),(1,lT .u32 B),(6,br 0),(7,.e (.c (.db 217 [(0,0)]))),(8,.e (.c (.aX 1 (U:=Un) W.u32 A.length))),(24,lT .u32 B),(25,iT B.length),(26,iT x)],[(0,.cells [.d (.sc (.int .u32 (lJ A B x)))]),(1,.aW (U:=Un) W.u32 ((List.range x).map (pe A B)++List.replicate (A.length-x) 0))],2⟩,λx=>x<=B.length/\True,λx=>B.length-x⟩),(13,⟨Nat,λx=>⟨[(0,lT .u32 A),(6,br 0),(7,.e (.c (.db 217 [(0,0)]))),(8,.e (.c (.aX 1 (U:=Un) W.u32 A.length))),(11,iT x)],[(0,.cells [.d (.sc (.int .u32 (lJ A B x)))]),(1,.aW (U:=Un) W.u32 ((List.range x).map (pe A B)++List.replicate (A.length-x) 0))],2⟩,λx=>B.length<=x/\x<=A.length/\True,λx=>A.length-x⟩)] ?_;repeat' first|intro _|apply aQ|refine aS 0 (aQ ?_ λ(x:Nat)(f:x<=B.length/\True)=>?_)|refine aS B.length (aQ ?_ λ(x:Nat)(f:B.length<=x/\x<=A.length/\True)=>?_)|refine aS (x+1) ?_
 all_goals first|exact bj|rfl|omega|rw[Kc _ _ _ f.2.1];done|(have e:¬ir (aT a) (aT b)<0:=(by simpa using‹decide (ir (aT a) (aT b)<0)=false›);rw[g,h]at e;first|rw[aGY (J0 f.2.1 Y),Z e];done|rw[qd O];done)|have:=hlen Y;simp only[be,bc]at*;omega|have:=hlen Y;rw[Kc _ _ _ O];simp only[be,bc]at*;omega|rw[h];done|rw[g];rfl|have e:=J0 f.1 Y;rw[e];done|(have e:ir (aT a) (aT b)<0:=(by simpa using‹decide (ir (aT a) (aT b)<0)=true›);rw[g,h]at e;first|rw[aM e];done|rw[rX O];done)|rw[g];simp only[BC];omega|have:=j x;omega|exact Dg.Cr m Y|exact Dg.Cr l Y|exact Gw|exact aoE Y Y|exact aoF Y f.1|exact aGZ Y Y (by simp only[be,bc]at*;omega)|exact aG0 Y f.1 (by simp only[be,bc]at*;omega)
theorem aiD(l:ao):∀k,jP l k=0\/∃j,jP l k=j+1/\l[j]? ≠some 0
 |0=>Or.inl rfl
 |k+1=>by
  rw[jP];by_cases h:l[k]?=some 0
  ·rw[aM h];exact aiD l k
  ·rw[Z h];exact Or.inr ⟨k,rfl,h⟩
def ai1(l:ao):aT (aT l)=aT l:=by
 have a:=MS l l.length;have hlen:(aT l).length=jP l l.length:=by simp[aT];omega
 rcases aiD l l.length with h|⟨j,h,b⟩
 ·have:aT l=[]:=by rw[aT,h];rfl
  rw[this];rfl
 ·have e:jP (aT l) (aT l).length=j+1:=by rw[hlen,h,jP,Z];rw[aT,h,sO,aM O];exact b
  have:aT (aT l)=(aT l).take (j+1):=by rw[<-e];rfl
  rw[this,eL O]
def YD(a b:ao):ir (aT a) (aT b)=ir a b:=by unfold ir;rw[ai1,ai1]
def YC(h:¬ir A B<0):(aT B).length<=(aT A).length:=by
 unfold ir at h;by_cases c:(aT A).length<(aT B).length
 ·rw[aM c]at h;omega
 ·omega
def aH8(a b:ao)(h:Sm a/\Sm b/\Dg a/\Dg b):bh 172 [wL .u32 a,wL .u32 b] (tT [lE .u32 (qD a b),bE (decide (0<=ir a b))]):=by
 obtain⟨f,g,d,c⟩:=h;have:=aH7 a b (aT a) (aT b) f g d.fe c.fe (MY f) (λe=>?_) rfl rfl (OD _ _)
 ·rw[YD]at this;exact this
 ·rw[YD]at e;exact YC (an e)
def asJ:=eI (.ls W.u32) (.ls W.u32) aH8
@[irreducible] def eX(x y:aY):aY:=
  if x.neg=y.neg then iL x.neg (vt x.aC y.aC)
  else if 0<=ir x.aC y.aC then iL x.neg (qD x.aC y.aC)
  else iL y.neg (qD y.aC x.aC)
def W1(h:(U.neg==y.neg)=true):iL U.neg (vt U.aC y.aC)=eX U y:=by unfold eX;rw[aM (an h)]
def W2(h:(U.neg==y.neg)=false)(a:decide (0<=ir U.aC y.aC)=true):iL U.neg (qD U.aC y.aC)=eX U y:=by unfold eX;rw[Z (an h),aM (an a)]
def W3(h:(U.neg==y.neg)=false)(a:decide (0<=ir U.aC y.aC)=false):iL y.neg (qD y.aC U.aC)=eX U y:=by unfold eX;rw[Z (an h),Z (an a)]
def amX(h:(U.neg==y.neg)=true):(iL U.neg (vt U.aC y.aC)).neg=(eX U y).neg:=by rw[W1 h]
def amW(h:(U.neg==y.neg)=true):(iL U.neg (vt U.aC y.aC)).aC=(eX U y).aC:=by rw[W1 h]
def amZ(h:(U.neg==y.neg)=false)(a:decide (0<=ir U.aC y.aC)=true):(iL U.neg (qD U.aC y.aC)).neg=(eX U y).neg:=by rw[W2 h a]
def amY(h:(U.neg==y.neg)=false)(a:decide (0<=ir U.aC y.aC)=true):(iL U.neg (qD U.aC y.aC)).aC=(eX U y).aC:=by rw[W2 h a]
def am2(h:(U.neg==y.neg)=false)(a:decide (0<=ir U.aC y.aC)=false):(iL y.neg (qD y.aC U.aC)).neg=(eX U y).neg:=by rw[W3 h a]
def am1(h:(U.neg==y.neg)=false)(a:decide (0<=ir U.aC y.aC)=false):(iL y.neg (qD y.aC U.aC)).aC=(eX U y).aC:=by rw[W3 h a]
def am3(x y:aY)(h:Sm x.aC/\Sm y.aC/\Dg x.aC/\Dg y.aC):bh 124 [wE .cM x,wE .cM y] (eT .cM (eX x y)):=by
 refine vF func124 rfl [arw,asJ,JR,Py] [] ?_;obtain⟨g,f,(e:∀d∈x.aC,b5 d),(c:∀d∈y.aC,b5 d)⟩:=h;repeat' first|intro _|apply aQ
 all_goals first|exact bj|((with_reducible show(_&&_)=true);kernel_rfl)| (with_reducible first|exact g|exact f)|rename_i a;with_reducible exact e _ a|rename_i a;with_reducible exact c _ a|rename_i a;with_reducible exact amX a|rename_i a;with_reducible exact amW a|(rename_i a b;with_reducible first|exact amZ a b|exact amY a b|exact am2 a b|exact am1 a b)
def JQ:=eI (.el W.cM) (.el W.cM) am3
def je(q:bf):Bool:=decide (q.e1<0\/q.e2<0\/q.e3<0\/q.e4<0)
def ab1(q:bf)(x:Nat):=(0<x->0<=q.e1)/\(1<x->0<=q.e2)/\(2<x->0<=q.e3)/\(3<x->0<=q.e4)
def aBn(q:bf):bh 220 [wE .mono q] (bT (je q)):=by
 refine vF func220 rfl [] [(2,⟨Nat,λx=>⟨[(5,.e (.agg [cG q.e1,cG q.e2,cG q.e3,cG q.e4])),(6,iT x)],[],0⟩,λx=>x<=4/\ab1 q x,λx=>4-x⟩)] ?_;unfold ab1;repeat' first|intro _|apply aQ|refine aS 0 (aQ ?_ λ(x:Nat) (a:x<=4/\((0<x->0<=q.e1)/\(1<x->0<=q.e2)/\(2<x->0<=q.e3)/\(3<x->0<=q.e4)))=>?_)|refine aS (x+1) ?_
 all_goals first|exact bj|rfl|omega|simp only[be,bc]at*;omega|(symm;unfold je;simp only[be,bc]at*;omega)
def asm:=dj (.el W.mono) λq (_:True)=>aBn q
@[irreducible] def wy(x y:aY):Bool:=decide (x.neg=y.neg/\x.aC=y.aC)
@[irreducible] def ie(l:List ByteArray)(s:az):Bool:=l.any λt=>t.toList==s.toList
def aw8(h:l[(k:Int).toNat]?=some t)(e:(t.toList==s.toList)=true):true=ie l s:=by unfold ie;exact(rF.2 ⟨t,bM h,e⟩).symm
def aw7(a:ie (l.take k) s=false)(h:l[(k:Int).toNat]?=some t)(e:(t.toList==s.toList)=false):ie (l.take (k+1)) s=false:=by unfold ie at*;rw[bt]at h;rw[fy,h,List.any_append,a];simp[e]
def aw9:ie (l.take 0) s=false:=by unfold ie;rfl
def aw6(a:k<=l.length/\ie (l.take k) s=false)(h:decide ((k:Int)<l.length)=false):false=ie l s:=by
 have e:k=l.length:=by simp only[bc]at h;omega
 rw[e,im]at a;exact a.2.symm
def aw5(l:List ByteArray)(s:az):bh 130 [wL .eU l,wS s] (bT (ie l s)):=by
 refine vF func130 rfl [] [(2,⟨Nat,λi=>⟨[(0,lT .eU l),(1,.e (.c (.d (.sc (.string s))))),(7,iT l.length),(8,iT i)],[],0⟩,λi=>i<=l.length/\ie (l.take i) s=false,λi=>l.length-i⟩)] ?_;repeat' first|intro _|apply aQ|refine aS 0 (aQ ?_ λ(i:Nat) (f:i<=l.length/\ie (l.take i) s=false)=>?_)|refine aS (i+1) ?_
 all_goals first|exact bj|rfl|omega|with_reducible exact aw9|rename_i b a;with_reducible exact aw8 b a|rename_i b a;with_reducible exact aw7 f.2 b a|with_reducible exact aw6 f Y|simp only[be,bc]at*;omega
def ar3:=eI (.ls W.eU) (.eU) λl s (_:True)=>aw5 l s
def tN:List ByteArray:=[⟨#[116,114,117,101]⟩,⟨#[102,97,108,115,101]⟩,⟨#[97,110,100]⟩,⟨#[111,114]⟩,⟨#[110,111,116]⟩,⟨#[105,109,112,108,105,101,115]⟩,⟨#[105,102,102]⟩,⟨#[102,111,114,97,108,108]⟩,⟨#[101,120,105,115,116,115]⟩]
@[irreducible] def q9(l:List ByteArray)(s:az):Nat->Int
  |0=>-1
  |k+1=>if((l[k]?).getD ByteArray.empty).toList==s.toList then k else q9 l s k
def AZ(l:List ByteArray)(s:az):Int:=q9 l s l.length
def ayO{R:Int}(a:q9 l s k=R)(b:decide (0<=(k:Int)-1)=true)(h:l[((k:Int)-1).toNat]?=some t)(e:(t.toList==s.toList)=true):(k:Int)-1=R:=by simp only[be]at b;obtain⟨j,rfl⟩:∃j,k=j+1:=⟨k-1,O⟩;have c:(((j+1:Nat):Int)-1).toNat=j:=O;rw[c]at h;rw[q9,h,ib,aM e]at a;omega
def ayN{R:Int}(a:q9 l s k=R)(b:decide (0<=(k:Int)-1)=true)(h:l[((k:Int)-1).toNat]?=some t)(e:(t.toList==s.toList)=false):q9 l s (k-1)=R:=by simp only[be]at b;obtain⟨j,rfl⟩:∃j,k=j+1:=⟨k-1,O⟩;have c:(((j+1:Nat):Int)-1).toNat=j:=O;rw[c]at h;rw[q9,h,ib,Z (by simp[e])]at a;exact a
def ayM{R:Int}(a:q9 l s k=R)(b:decide (0<=(k:Int)-1)=false):-1=R:=by
 have:k=0:=by simp only[bc]at b;omega
 subst this;rw[q9]at a;exact a
def ayR(l:List ByteArray)(s:az):bh 83 [wL .eU l,wS s] (iT (AZ l s)):=by
 refine vF func83 rfl [] [(2,⟨Nat,λk=>⟨[(0,lT .eU l),(1,.e (.c (.d (.sc (.string s))))),(5,iT ((k:Int)-1))],[],0⟩,λk=>k<=l.length/\l.length<=9223372036854775807/\q9 l s k=AZ l s,λk=>k⟩)] ?_;repeat' first|intro _|apply aQ|refine aS l.length (aQ ?_ λ(k:Nat)(a:k<=l.length/\l.length<=9223372036854775807/\q9 l s k=AZ l s)=>?_)|refine aS (k-1) ?_
 all_goals first|exact bj|rfl|omega|rename_i g _ f b;with_reducible exact ayO a.2.2 g f b|rename_i g _ f b;with_reducible exact ayN a.2.2 g f b|with_reducible exact ayM a.2.2 Y|simp only[be,bc]at*;omega
def asa:=eI (.ls W.eU) (.eU) λl s (_:True)=>ayR l s
end Go.Proofs.YtfbmhjooliccnaaGreatDoor
