/- Part of VirtualWitness. No condition. -/
import Derived.Test.YtfbmhjooliccnaaGreatDoorYn
import Derived.Lib.ItoaNum
import Derived.Shelf.Strconv.Itoa3
import Derived.Lib.Walk
import Derived.BigCall
import Derived.BigGuard
import Derived.RegionTactic
import Derived.Lib.UnsafeStr
set_option linter.all false
set_option maxRecDepth 100000
set_option maxHeartbeats 60000000
noncomputable section
namespace Go.Proofs.YtfbmhjooliccnaaGreatDoor
open Go Go.Ab Go.Proofs.Tryz
variable {r n:Int}{p u v:J}{i x:Nat}{t:bi}{l:zJ0}{m c:F}{Q:J→Prop}{Z:zF0}
def agE(H:List (Nat×aV S))(args:zS0)(K:f_ S->Prop):Prop:=
 match H,args with
 |[(0,.cells [.cr 66 []]),(1,.cells [.d (.sc (.int .i64 m)),.d (.b8 l),.d (.bf W.u32 o),.d (.bf W.aH n)]),(2,.cells [.d (.sc (.int .i64 f)),.d (.b8 b),.d (.bf W.u32 k),.d (.bf W.aH i)]),(3,.cells [.d (.sc (.int .i64 e)),.d (.b8 a),.d (.bf W.u32 j),.d (.bf W.aH c3)])],[.c (.ptr 0 0),.c (.ptr 1 0),.c (.ptr 2 0),.c (.ptr 3 0)]=>(bO (.mk m l o n)/\dF (.mk f b k i) (.mk e a j c3)/\bO (bn (.mk f b k i) (.mk e a j c3)))/\K ⟨eT .aQ (qT (.mk f b k i) (.mk e a j c3) (.mk m l o n)),[(0,.cells [.cr 66 []]),(1,.cells [.d (.sc (.int .i64 m)),.d (.b8 l),.d (.bf W.u32 o),.d (.bf W.aH n)]),(2,.cells [.d (.sc (.int .i64 f)),.d (.b8 b),.d (.bf W.u32 k),.d (.bf W.aH i)]),(3,.cells [.d (.sc (.int .i64 e)),.d (.b8 a),.d (.bf W.u32 j),.d (.bf W.aH c3)])],[],[]⟩
 |_,_=>False
def aAq:fk prog S where
 f:=256
 fX:=aug
 run:=agE
 ok H args K h:=by
  unfold agE at h;split at h
  ·rename_i j d r n i c q m e b o c3;obtain⟨l,k⟩:=h;refine⟨_,?_,λu a s=>rfl,k⟩;exact(aou (.mk i c q m) (.mk e b o c3) (.mk j d r n) l).fK λu a=>by have:u<4:=a.1;simp;omega
  ·cases h
def agF(H:List (Nat×aV S))(args:zS0)(K:f_ S->Prop):Prop:=
 match H,args with
 |[(0,.cells [.cr 66 []]),(1,.cells [.d (.sc (.int .i64 b)),.d (.b8 a),.d (.bf W.u32 f),.d (.bf W.aH e)])],[.agg [.d (.sc (.int .i64 l)),.d (.b8 j),.d (.bf W.u32 o),.d (.bf W.aH m)],.agg [.d (.sc (.int .i64 k)),.d (.b8 i),.d (.bf W.u32 n),.d (.bf W.aH c3)],.c (.ptr 0 0),.c (.ptr 1 0)]=>(bO (.mk b a f e)/\bO (.mk l j o m)/\bO (.mk k i n c3))/\K ⟨eT .aQ (tC (.mk l j o m) (.mk k i n c3) (.mk b a f e)),[(0,.cells [.cr 66 []]),(1,.cells [.d (.sc (.int .i64 b)),.d (.b8 a),.d (.bf W.u32 f),.d (.bf W.aH e)])],[],[]⟩
 |_,_=>False
def aAr:fk prog S where
 f:=257
 fX:=auh
 run:=agF
 ok H args K h:=by
  unfold agF at h;split at h
  ·rename_i j d r n i c q m e b o c3;obtain⟨l,k⟩:=h;refine⟨_,?_,λu a s=>rfl,k⟩;exact(aov (.mk i c q m) (.mk e b o c3) (.mk j d r n) l).fK λu a=>by have:u<2:=a.1;simp;omega
  ·cases h
def agG(H:List (Nat×aV S))(args:zS0)(K:f_ S->Prop):Prop:=
 match H,args with
 |[(0,.cells [.cr 66 []]),(1,.cells [.d (.sc (.int .i64 b)),.d (.b8 a),.d (.bf W.u32 f),.d (.bf W.aH e)])],[.agg [.d (.sc (.int .i64 l)),.d (.b8 j),.d (.bf W.u32 o),.d (.bf W.aH m)],.agg [.d (.sc (.int .i64 k)),.d (.b8 i),.d (.bf W.u32 n),.d (.bf W.aH c3)],.c (.ptr 0 0),.c (.ptr 1 0)]=>(bO (.mk b a f e)/\bO (.mk l j o m)/\bO (.mk k i n c3))/\K ⟨eT .aQ (tB (.mk l j o m) (.mk k i n c3) (.mk b a f e)),[(0,.cells [.cr 66 []]),(1,.cells [.d (.sc (.int .i64 b)),.d (.b8 a),.d (.bf W.u32 f),.d (.bf W.aH e)])],[],[]⟩
 |_,_=>False
def aAs:fk prog S where
 f:=258
 fX:=aui
 run:=agG
 ok H args K h:=by
  unfold agG at h;split at h
  ·rename_i j d r n i c q m e b o c3;obtain⟨l,k⟩:=h;refine⟨_,?_,λu a s=>rfl,k⟩;exact(aow (.mk i c q m) (.mk e b o c3) (.mk j d r n) l).fK λu a=>by have:u<2:=a.1;simp;omega
  ·cases h
section
variable {p:J}{lv:Int}{t:bi}(h:VQ p lv t)
include h
def jb:SF 6 1300 lv (dW p lv t).1/\SF 4 1300 lv (dW p lv t).2:=by have a:=nj h;have b:=j8 h;obtain⟨v,rfl,d,c⟩:=Cc a;have:=ajb d c (N:=300) O b (yA a).1 (EC a);exact⟨this.1.up O O,this.2.up O O⟩
def aoR:dF (dW p lv t).1 (dW p lv t).1:=(jb h).1.sz.mu (jb h).1.sz O O
def aoW:dF (dW p lv t).2 (dW p lv t).2:=(jb h).2.sz.mu (jb h).2.sz O O
def aoV:dF (bn (dW p lv t).2 (dW p lv t).2) t.c:=((jb h).2.sz.mul (jb h).2.sz).mu (j8 h).c.sz O O
def aoF:jh (bn (dW p lv t).1 (dW p lv t).1) (bn (bn (dW p lv t).2 (dW p lv t).2) t.c):=by have a:=(jb h).1.sz.mul (jb h).1.sz;have b:=((jb h).2.sz.mul (jb h).2.sz).mul (j8 h).c.sz;unfold jh;exact⟨_,_,_,_,a,b,O,O,O,O⟩
def aoX:bO (wP (dW p lv t).1 (dW p lv t).2 t.c):=by have a:=(jb h).1.sz.mul (jb h).1.sz;have b:=((jb h).2.sz.mul (jb h).2.sz).mul (j8 h).c.sz;have:=a.sub b;exact this.np O O
def aoQ:bO (dW p lv t).1:=(jb h).1.sz.np O O
def aoU:bO (dW p lv t).2:=(jb h).2.sz.np O O
def aoJ:CS (dW p lv t).2:=((jb h).2.sz.cz O O).cs
def aoS:dF (dW p lv t).1 (dW p lv t).2:=(jb h).1.sz.mu (jb h).2.sz O O
def aoT:bO (bn (dW p lv t).1 (dW p lv t).2):=((jb h).1.sz.mul (jb h).2.sz).np O O
def XJ:dF (dW p lv t).1 (kP (-1))/\bO (jl (dW p lv t).1):=⟨(jb h).1.sz.mu (Sz.const (k:=1) 0 ae) O O,(jb h).1.sz.neg.np O O⟩
def XK:dF (dW p lv t).2 (kP (-1))/\bO (jl (dW p lv t).2):=⟨(jb h).2.sz.mu (Sz.const (k:=1) 0 ae) O O,(jb h).2.sz.neg.np O O⟩
def aoN:iF (qT (dW p lv t).1 (dW p lv t).2 (wP (dW p lv t).1 (dW p lv t).2 t.c)):=by
 have a:=(jb h).1.sz.mul (jb h).1.sz;have b:=((jb h).2.sz.mul (jb h).2.sz).mul (j8 h).c.sz;have w:=a.sub b;have e:=(jb h).1.sz.mul (jb h).2.sz;unfold qT dA;refine .mk _ _ _ _ MD ai λc d=>?_
 simp only[dC,List.not_mem_nil,or_false]at d;rcases d with rfl|rfl
 ·exact Nr ((w.sn O O).np O O) 3
 ·exact Nr ((e.sn O O).np O O) 2
end
def am0{p:J}{lv:Int}{t:bi}(h:bM (dW p lv t).2=true):nK p r lv t=dP (dW p lv t).1 r:=by unfold nK;rw[aK h]
def Cl{p:J}{lv:Int}{t:bi}(h:bM (dW p lv t).2=false):nK p r lv t=nJ (dW p lv t).1 (dW p lv t).2 (wP (dW p lv t).1 (dW p lv t).2 t.c) r:=by unfold nK;rw[g (by rw[h];decide)]
def af1{w:J}(h:(r==1)=true):nJ u v w r=tC u v w:=by unfold nJ;rw[aK (an h)]
def af2{w:J}(a:(r==1)=false)(h:(r==2)=true):nJ u v w r=tB u v w:=by unfold nJ;rw[g (an a),aK (an h)]
def af4{w:J}(a:(r==1)=false)(b:(r==2)=false)(h:(r==4)=true):nJ u v w r=dy (qT u v w):=by unfold nJ;rw[g (an a),g (an b),aK (an h)]
def af5{w:J}(a:(r==1)=false)(b:(r==2)=false)(c:(r==4)=false)(h:(r==5)=true):nJ u v w r=tB (jl u) (jl v) w:=by unfold nJ;rw[g (an a),g (an b),g (an c),aK (an h)]
def af6{w:J}(a:(r==1)=false)(b:(r==2)=false)(c:(r==4)=false)(d:(r==5)=false)(h:(r==6)=true):nJ u v w r=tC (jl u) (jl v) w:=by unfold nJ;rw[g (an a),g (an b),g (an c),g (an d),aK (an h)]
def af3{w:J}(a:(r==1)=false)(b:(r==2)=false)(c:(r==4)=false)(d:(r==5)=false)(e:(r==6)=false):nJ u v w r=qT u v w:=by unfold nJ;rw[g (an a),g (an b),g (an c),g (an d),g (an e)]
def aHh(u v c:J):u7 (bn u u) (bn (bn v v) c)=wP u v c:=rfl
def aoH(p:J)(r lv:Int)(t:bi)(h:VQ p lv t):bh 208 [wE .aH p,wI .i64 r,wI .i64 lv,wE .ee t] (eT .aQ (nK p r lv t)):=by
 refine vG func208 rfl ⟨[asU,CE,Ay,Aw,OL,Jm,Fu],[aAq,aAr,aAs]⟩ [] ?_;repeat' first|intro _|apply aP
 all_goals(try simp only[bm,e_,aHh]at*)
 all_goals first|exact aZ|omega|((with_reducible show(_&&_)=true);kernel_rfl)| (with_reducible first|exact aoR h|exact aoW h|exact aoV h|exact aoF h|exact aoX h|exact aoQ h|exact aoU h|exact aoJ h|exact aoS h|exact aoT h|exact aoN h|exact(XJ h).1|exact(XJ h).2|exact(XK h).1|exact(XK h).2)|rw[am0 I]|rw[Cl ‹bM _=false›,af1 ak]|rw[Cl ‹bM _=false›,af2 ak ak]|rw[Cl ‹bM _=false›,af4 ak ak ak]|rw[Cl ‹bM _=false›,af5 ak ak ak ak]|rw[Cl ‹bM _=false›,af6 ak ak ak ak ak]|rw[Cl ‹bM _=false›,af3 ak ak ak ak ak]
def Zq:=MA (.el W.aH) (.int .i64) (.int .i64) (.el W.ee) aoH
def OF.q(h:CM QO m)(Y:bc m<=1000000):OF m:=by unfold OF;exact⟨h.rm.imp λp a=>⟨(QO.rq p a).1,Sz.cz (QO.rq p a).2 O O⟩,Y⟩
@[irreducible] def PJ(p:J)(lv:Int):=Sz 2 140 p/\1<=lv/\lv<=4
section
variable {p:J}{lv:Int}(h:PJ p lv)
include h
def yx:=(PJ.eq_1 ..).to_iff.1 h
def Cb:PQ p lv:=by unfold PQ;have:=yx h;exact⟨this.1.up O O,this.2⟩
def Ie:jt p lv:=EA (Cb h)
def yy:∃v:Nat,lv=(v:Int)/\1<=v/\v<=4:=Cc (Cb h)
def yw(i:Nat):SF 2 140 lv (bG p lv i):=by obtain⟨v,rfl,b,a⟩:=yy h;exact Cy b a (yx h).1 O i
def wS(i:Nat):Sz 2 140 (bG p lv i):=(yw h i).sz
def Ey(i:Nat):GA lv (bG p lv i):=(yw h i).up O O
def Ez(i:Nat):bO (bG p lv i):=(Ey h i).np
def Nx(i:Nat):dF (bG p lv i) (kP (-1)):=(Ey h i).mm
def Wu(i:Nat)(r:Int):CM QO (dP (bG p lv i) r):=by obtain⟨v,rfl,c,b⟩:=yy h;exact((Ey h i).at c b r).imp λp a=>GA.qo a
end
@[irreducible] def WH(lv:Int)(w:F):=CM (GA lv) w/\bc w<=10
def WH.q{lv:Int}(h:WH lv m):CM QO m/\bc m<=10:=by unfold WH at h;exact⟨h.1.imp λp a=>GA.qo a,h.2⟩
def axv{p:J}{lv:Int}(h:PJ p lv)(a:WH lv m):OF (dA [m,dP (bG p lv 1) 4]):=by refine .q (.qM a.q.1 (Wu h 1 4)) ?_;rw[rv,nL];have:=a.q.2;omega
def aE5(n:Int)(h:n.natAbs<=4):bh 241 [wI .i64 n] (eT .aH (kP n)):=by
 refine vF func241 rfl [uA,OM] [] ?_;repeat' first|intro _|apply aP
 all_goals(try simp only[bm,e_]at*)
 all_goals(try simp only[F7])
 all_goals first|exact aZ|omega|exact Qb h|exact fA _ _ I
def OZ:=dR (.int .i64) aE5
def axw(p:J)(lv:Int)(w:F)(h:PJ p lv/\WH lv w):bh 198 [wE .aH p,wI .i64 lv,wE .aQ w] (eT .ee (tD p lv w)):=by
 refine vF func198 rfl [Jh,Ay,Ax,CI,Fu,OZ] [] ?_;repeat' first|intro _|apply aP
 all_goals(try simp only[bm,e_]at*)
 all_goals first|exact aZ|omega|((with_reducible show(_&&_)=true);kernel_rfl)|with_reducible exact Ie h.1|exact Ez h.1 1|exact Nx h.1 0|exact axv h.1 h.2|rfl
def asn:=vb (.el W.aH) (.int .i64) (.el W.aQ) axw
def aud:fh prog 246:=fH func246 af rfl
def JV(a r:J):F:=bS (dA [dP a 4,dP r 5])
def avQ(a r:J)(h:(bO a/\bO r)/\OF (dA [dP a 4,dP r 5])):cN prog 246 (bJ (bP (U:=S) [(0,.cells ((cQ .aH a).map .d)),(1,.cells ((cQ .aH r).map .d))])) (([.c (.ptr 0 0),.c (.ptr 1 0)]:zS0).map SE.den) (bJ (bP (U:=S) [(0,.cells ((cQ .aH a).map .d)),(1,.cells ((cQ .aH r).map .d))])) (·∈[0,1]) (eT .aQ (JV a r)).den:=by
 refine DY (V:=Vw) (reg:=⟨[Ax,Ay,CI],[]⟩) (ls:=[]) (aN:=[0,1]) (τ:=⟨[(2,.e (.c (.ptr 2 0)))],[(0,.cells ((cQ .aH a).map .d)),(1,.cells ((cQ .aH r).map .d))]++[(2,.cells ((cQ .aQ (JV a r)).map .d))],3⟩) mixed func246 rfl af (ic rfl) rfl rfl rfl rfl (Me _ _) ?_;repeat' first|intro _|apply aP
 all_goals(try simp only[bm,e_]at*)
 all_goals first|exact aZ|((with_reducible show(_&&_)=true);kernel_rfl)|exact h.1.1|exact h.1.2|exact h.2|rfl
def agV(H:List (Nat×aV S))(args:zS0)(K:f_ S->Prop):Prop:=
 match H,args with
 |[(0,.cells [.d (.sc (.int .i64 f)),.d (.b8 b),.d (.bf W.u32 l),.d (.bf W.aH j)]),(1,.cells [.d (.sc (.int .i64 e)),.d (.b8 a),.d (.bf W.u32 k),.d (.bf W.aH i)])],[.c (.ptr 0 0),.c (.ptr 1 0)]=>((bO (.mk f b l j)/\bO (.mk e a k i))/\OF (dA [dP (.mk f b l j) 4,dP (.mk e a k i) 5]))/\K ⟨eT .aQ (JV (.mk f b l j) (.mk e a k i)),[(0,.cells [.d (.sc (.int .i64 f)),.d (.b8 b),.d (.bf W.u32 l),.d (.bf W.aH j)]),(1,.cells [.d (.sc (.int .i64 e)),.d (.b8 a),.d (.bf W.u32 k),.d (.bf W.aH i)])],[],[]⟩
 |_,_=>False
def aes:fk prog S where
 f:=246
 fX:=aud
 run:=agV
 ok H args K h:=by
  unfold agV at h;split at h
  ·rename_i e c n l d b m k;obtain⟨j,i⟩:=h;refine⟨_,?_,λu a o=>rfl,i⟩;exact(avQ (.mk e c n l) (.mk d b m k) j).fK λu a=>by have:u<2:=a.1;simp;omega
  ·cases h
def A'(p:J)(lv:Int):=bG p lv 2
def uX(a b c:J)(s:Int):bi:=⟨2,jl b,kP s,k8 a b c,bn a (kP 2),nv a b c⟩
@[irreducible] def gJ(a b c:J)(x:Nat):List bi:=[uX a b c (-1),uX a b c 1].take x
def afz(a b c:J):gJ a b c 0=[]:=by unfold gJ;rfl
def afA(a b c:J):(gJ a b c 0).length=0:=by unfold gJ;rfl
def aCo(a b c:J):gJ a b c 0++[uX a b c (-1)]=gJ a b c 1:=by unfold gJ;rfl
def aCp(a b c:J):gJ a b c 1++[uX a b c 1]=gJ a b c 2:=by unfold gJ;rfl
def afD(a b c:J)(h:(x:Int)=((0:Nat):Int)):gJ a b c x++[uX a b c (-1)]=gJ a b c (x+1):=by have e:x=0:=O;subst e;exact aCo a b c
def afE(a b c:J)(h:(x:Int)=((1:Nat):Int)):gJ a b c x++[uX a b c 1]=gJ a b c (x+1):=by have e:x=1:=O;subst e;exact aCp a b c
def aCr(a b c:J)(h:x<=2)(t:bi):(gJ a b c x).length+[t].length=(gJ a b c (x+1)).length\/x=2:=by unfold gJ;have:x=0\/x=1\/x=2:=O;rcases this with rfl|rfl|rfl<;>simp
def afG(a b c:J){x:Nat}(h:decide ((x:Int)<2)=true)(t:bi):(gJ a b c x).length+[t].length=(gJ a b c (x+1)).length:=by
 simp only[be]at h;rcases aCr a b c (x:=x) O t with h|h
 ·exact h
 ·omega
def Sv(a b c:J)(d:x<=2/\True)(h:decide ((x:Int)<2)=false):x=2:=by simp only[bj]at h;omega
def aCq(a b c:J):(gJ a b c 2).length=2:=by unfold gJ;rfl
def afB(a b c:J)(h:(gJ a b c 2)[0]?=some t):t=uX a b c (-1):=by unfold gJ at h;exact(vo h).symm
def afC(a b c:J)(t:bi):((gJ a b c 2).set 0 t).take 1=[t]/\((gJ a b c 2).set 0 t).length=2:=by unfold gJ;exact⟨rfl,rfl⟩
def Lt(a b c:J)(x:Nat)(t:bi):((gJ a b c x).length+[t].length)*BA.dT<=140737488355328/\(gJ a b c x).length+[t].length<=140737488355328:=by
 have:(gJ a b c x).length<=2:=by unfold gJ;simp;omega
 have e:BA.dT=368:=rfl;have d:[t].length=1:=rfl;rw[e,d];omega
section
variable {p:J}{lv:Int}(h:PJ p lv)
include h
def afJ(i j:Nat):dF (bG p lv i) (bG p lv j):=(wS h i).mu (wS h j) O O
def aCt:dF (bn (bG p lv 2) (bG p lv 0)) (kP 4):=((wS h 2).mul (wS h 0)).mu (Sz.const (k:=3) 0 ae) O O
def aCs:dF (bG p lv 2) (kP 2):=(wS h 2).mu (Sz.const (k:=2) 0 ae) O O
def afH:jh (bn (bG p lv 1) (bG p lv 1)) (bn (bn (bG p lv 2) (bG p lv 0)) (kP 4)):=((wS h 1).mul (wS h 1)).ad (((wS h 2).mul (wS h 0)).mul (Sz.const (k:=3) 0 ae)) O O O O
def Sw:GA lv (k8 (bG p lv 2) (bG p lv 1) (bG p lv 0)):=by obtain⟨v,rfl,a,b⟩:=yy h;exact(SP a (yw h 2) (yw h 1) (yw h 0)).1.up O O
def afK:CS (k8 (bG p lv 2) (bG p lv 1) (bG p lv 0)):=(Sw h).cz.cs
def afL:bO (k8 (bG p lv 2) (bG p lv 1) (bG p lv 0)):=(Sw h).np
def afM:OF (dA [dP (bG p lv 2) 4,dP (k8 (bG p lv 2) (bG p lv 1) (bG p lv 0)) 5]):=by
 refine .q (.qM (Wu h 2 4) ?_) ?_
 ·obtain⟨v,rfl,c,b⟩:=yy h;exact((Sw h).at c b 5).imp λp a=>GA.qo a
 ·rw[rv,nL,nL];omega
end
def qq0{p:J}{lv:Int}(h:((nv (bG p lv 2) (bG p lv 1) (bG p lv 0)).aM==0)=true):lz p lv=[]:=by unfold lz zv;rw[aK (an h)]
def qq1{p:J}{lv:Int}(h:((nv (bG p lv 2) (bG p lv 1) (bG p lv 0)).aM==0)=false)(a:bM (k8 (bG p lv 2) (bG p lv 1) (bG p lv 0))=true):lz p lv=[uX (bG p lv 2) (bG p lv 1) (bG p lv 0) 0]:=by unfold lz zv;rw[g (an h),aK a];rfl
def qq2{p:J}{lv:Int}(h:((nv (bG p lv 2) (bG p lv 1) (bG p lv 0)).aM==0)=false)(a:bM (k8 (bG p lv 2) (bG p lv 1) (bG p lv 0))=false):lz p lv=gJ (bG p lv 2) (bG p lv 1) (bG p lv 0) 2:=by unfold lz zv gJ;rw[g (an h),g (by rw[a];decide)];rfl
def TY:Int.toNat 2=2:=rfl
def TX:Int.toNat 1=1:=rfl
def TW:Int.toNat 0=0:=rfl
def Lu{p:J}{lv:Int}(h:PJ p lv):nh (bn (bG p lv 2) (bG p lv 0)) ⟨(iD 4).neg,(iD 4).aF⟩/\nh (bG p lv 2) ⟨(iD 2).neg,(iD 2).aF⟩:=by
 have e:∀n:Int,kP (iV ⟨(iD n).neg,(iD n).aF⟩)=kP n:=λn=>F7 n
 have s:∀n:Int,n.natAbs<=4->wX ⟨(iD n).neg,(iD n).aF⟩:=λn a=>⟨Qb a,fA n⟩
 exact⟨.of (by rw[e];exact aCt h) (s 4 ae),.of (by rw[e];exact aCs h) (s 2 ae)⟩
def Lv(p:J)(lv:Int):List bi:=[uX (bG p lv 2) (bG p lv 1) (bG p lv 0) 0,uX (bG p lv 2) (bG p lv 1) (bG p lv 0) 1]
def aCz{p:J}{lv:Int}(h:(gJ (bG p lv 2) (bG p lv 1) (bG p lv 0) 2)[0]?=some t):(gJ (bG p lv 2) (bG p lv 1) (bG p lv 0) 2).set 0 ⟨t.aM,t.a,kP 0,t.c,t.d,t.g⟩=Lv p lv:=by obtain rfl:=afB _ _ _ h;unfold gJ;rfl
def Fy(p:J)(lv:Int):=((nv (bG p lv 2) (bG p lv 1) (bG p lv 0)).aM==0)=false/\bM (k8 (bG p lv 2) (bG p lv 1) (bG p lv 0))=true
instance (p:J) (lv:Int):Decidable (Fy p lv):=by unfold Fy;infer_instance
def agx(a b c:J):u7 (bn b b) (bn (bn a c) (kP 4))=k8 a b c:=rfl
def abF(a b c:J):JV a (k8 a b c)=nv a b c:=rfl
def aCv(p:J)(lv:Int)(h:PJ p lv)(b:¬Fy p lv):cN prog 200 (bJ (bP (U:=S) [])) ([wE .aH p,wI .i64 lv].map SE.den) (bJ (bP (U:=S) [(0,.aU W.ee (lz p lv))])) (·∈[]) (ST.e (U:=S) (.c (.aW 0 W.ee (lz p lv).length))).den:=by
 refine vO func200 rfl ⟨[Jh,Aw,uA,Jd,OL,Fu,OZ,OS,CE],[aes]⟩ [(8,⟨Nat,λx=>⟨[(5,bQ 1),(6,bQ 2),(8,bQ 4),(9,.e (.c (.cr 246 [(1,0),(4,0)]))),(10,.e (.c (.aW 5 W.ee (gJ (bG p lv 2) (bG p lv 1) (bG p lv 0) x).length))),(37,.e (.agg [.d (.sc (.int .i64 (-1))),cw 1])),(38,iT x)],[(1,dh .aH (bG p lv 2)),(2,dh .aH (bG p lv 1)),(4,.cells ((cQ .aH (k8 (bG p lv 2) (bG p lv 1) (bG p lv 0))).map .d)),(5,.aU (U:=S) W.ee (gJ (bG p lv 2) (bG p lv 1) (bG p lv 0) x))],6⟩,λx=>x<=2/\True,λx=>2-x⟩)] [] ⟨[(4,.e (.c (.aW 0 W.ee (lz p lv).length)))],[(0,.aU W.ee (lz p lv))],1⟩ ?_;repeat' first|intro _|apply aP|refine aX 0 (aP ?_ λ(x:Nat)(a:x<=2/\True)=>?_)|refine aX (x+1) ?_
 all_goals(try simp only[bm,e_,F7,TY,TX,TW,agx,abF]at*)
 all_goals first|exact aZ|omega|((with_reducible show(_&&_)=true);kernel_rfl)|exfalso;exact b ⟨I,I⟩|rw[qq0 I];done|rw[qq0 I];rfl|obtain rfl:=Sv (bG p lv 2) (bG p lv 1) (bG p lv 0) a I;rw[qq2 I I];done| (with_reducible first|exact Ie h|exact afJ h _ _|exact afH h|exact afK h|exact afL h|exact afM h|exact Ez h _|exact Nx h _|exact afz _ _ _|exact afA _ _ _|exact(Lt _ _ _ _ _).1|exact(Lt _ _ _ _ _).2|exact(Lu h).1|exact(Lu h).2)|simp only[be,bj,jw,lN,jC]at*;omega|exact afD _ _ _ I|exact afE _ _ _ I|with_reducible exact afG _ _ _ I _|decide
def aCw(p:J)(lv:Int)(h:PJ p lv)(b:Fy p lv):cN prog 200 (bJ (bP (U:=S) [])) ([wE .aH p,wI .i64 lv].map SE.den) (bJ (bP (U:=S) [(0,.aU W.ee (Lv p lv))])) (·∈[]) (ST.e (U:=S) (.c (.sub 0 W.ee 0 1))).den:=by
 refine vO func200 rfl ⟨[Jh,Aw,uA,Jd,OL,Fu,OZ,OS,CE],[aes]⟩ [(8,⟨Nat,λx=>⟨[(5,bQ 1),(6,bQ 2),(8,bQ 4),(9,.e (.c (.cr 246 [(1,0),(4,0)]))),(10,.e (.c (.aW 5 W.ee (gJ (bG p lv 2) (bG p lv 1) (bG p lv 0) x).length))),(37,.e (.agg [.d (.sc (.int .i64 (-1))),cw 1])),(38,iT x)],[(1,dh .aH (bG p lv 2)),(2,dh .aH (bG p lv 1)),(4,.cells ((cQ .aH (k8 (bG p lv 2) (bG p lv 1) (bG p lv 0))).map .d)),(5,.aU (U:=S) W.ee (gJ (bG p lv 2) (bG p lv 1) (bG p lv 0) x))],6⟩,λx=>x<=2/\True,λx=>2-x⟩)] [] ⟨[(4,.e (.c (.sub 0 W.ee 0 1)))],[(0,.aU W.ee (Lv p lv))],1⟩ ?_;repeat' first|intro _|apply aP|refine aX 0 (aP ?_ λ(x:Nat)(a:x<=2/\True)=>?_)|refine aX (x+1) ?_
 all_goals(try simp only[bm,e_,F7,TY,TX,TW,agx,abF]at*)
 all_goals first|exact aZ|omega|((with_reducible show(_&&_)=true);kernel_rfl)|exfalso;exact absurd ‹(F.aM _==0)=true› (by rw[b.1];decide)|exfalso;exact absurd ‹bM _=false› (by rw[b.2];decide)|obtain rfl:=Sv (bG p lv 2) (bG p lv 1) (bG p lv 0) a I;exact aCz I| (with_reducible first|exact Ie h|exact afJ h _ _|exact afH h|exact afK h|exact afL h|exact afM h|exact Ez h _|exact Nx h _|exact afz _ _ _|exact afA _ _ _|exact(Lt _ _ _ _ _).1|exact(Lt _ _ _ _ _).2|exact(Lu h).1|exact(Lu h).2)|simp only[be,bj,jw,lN,jC]at*;omega|exact afD _ _ _ I|exact afE _ _ _ I|with_reducible exact afG _ _ _ I _|(obtain rfl:=Sv (bG p lv 2) (bG p lv 1) (bG p lv 0) a I;first|rw[aCq];decide|rw[(afC _ _ _ _).2];decide|rw[qq1 I I];obtain rfl:=afB _ _ _ I;exact(afC _ _ _ _).1|rw[qq2 I I];done)|decide
def asW(k:S.K)(a b:S.El k):(aV.aU (U:=S) k [a]).den=((aV.aU (U:=S) k [a,b]).den).take (S.w k):=by have e:(S.dt k a).length=S.w k:=Vw.len k a;simp only[aV.den,bx,dc,gL,Af,List.flatten_nil,l4];rw[<-uh,B7 (Nat.le_of_eq e.symm),eQ (Nat.le_of_eq e)]
def aCx(p:J)(lv:Int)(h:PJ p lv):cN prog 200 (bJ (bP (U:=S) [])) ([wE .aH p,wI .i64 lv].map SE.den) (bJ (bP (U:=S) [(0,.aU W.ee (lz p lv))])) (·∈[]) (ST.e (U:=S) (.c (.aW 0 W.ee (lz p lv).length))).den:=by
 by_cases a:Fy p lv
 ·have e:lz p lv=[uX (bG p lv 2) (bG p lv 1) (bG p lv 0) 0]:=qq1 a.1 a.2;rw[e];refine(aCw p lv h a).aGe (n:=S.w W.ee) λs=>?_
  cases s with
  |zero=>exact .inr ⟨_,rfl,(λd b=>by unfold Lv at b;cases b),aY some (asW W.ee _ _)⟩
  |succ s=>exact .inl rfl
 ·exact aCv p lv h a
def atY:fh prog 200:=fH func200 af rfl
def ag7(H:List (Nat×aV S))(args:zS0)(K:f_ S->Prop):Prop:=
 match H,args with
 |[],[.agg [.d (.sc (.int .i64 b)),.d (.b8 a),.d (.bf W.u32 i),.d (.bf W.aH f)],.c (.d (.sc (.int .i64 lv)))]=>PJ (.mk b a i f) lv/\K ⟨.e (.c (.aW 0 W.ee (lz (.mk b a i f) lv).length)),[(0,.aU W.ee (lz (.mk b a i f) lv))],[],[]⟩
 |_,_=>False
def aAF:fk prog S where
 f:=200
 fX:=atY
 run:=ag7
 ok H args K h:=by
  unfold ag7 at h;split at h
  ·rename_i c b j i lv;obtain⟨e,d⟩:=h;refine⟨_,?_,λu a k=>absurd a (l6 _),d⟩;exact(aCx (.mk c b j i) lv e).fK λu a=>absurd a.1 (l6 _)
  ·cases h
def aGg(lv:Int):WH lv (.mk 1 0 zP []):=by unfold WH;exact⟨.tt,ae⟩
section
variable {p:J}{lv:Int}(h:PJ p lv)
include h
def Wv:ZL p lv:=Nz (Cb h)
def Nw:cK p lv<=2:=EC (Cb h)
def aDz:WH lv (dP (bG p lv 2) 3):=by obtain⟨v,rfl,b,a⟩:=yy h;unfold WH;exact⟨(Ey h 2).at b a 3,by rw[nL];decide⟩
def aCW(a:cK p lv=2):ZL (oM p lv) lv:=by obtain⟨v,rfl,d,c⟩:=yy h;have:=(af_ d c (yx h).1 O a).1;have l:=(Wv h).b;exact .of (this.cz O O) l
def agw:da (bG p lv 2)=bG p lv 2:=by have a:=Ez h 2;have e:=qh a;rw[(Ey h 2).cH]at e;exact e.symm
def aCu:(lz p lv).length<=2:=by obtain⟨v,rfl,b,a⟩:=yy h;exact(afQ b a O (yw h 2) (yw h 1) (yw h 0)).2.1
def afI(t:bi):((lz p lv).length+[t].length)*BA.dT<=140737488355328/\(lz p lv).length+[t].length<=140737488355328:=by have:=aCu h;have e:BA.dT=368:=rfl;have a:[t].length=1:=rfl;rw[e,a];omega
omit h in
theorem rs0(a:decide (cK p lv<1)=true):fq p lv=[]:=by unfold fq;rw[aK (eD a)]
omit h in
theorem rs1(a:(cK p lv==1)=true):fq p lv=[tD p lv (.mk 1 0 zP [])]:=by have a:cK p lv=1:=an a;unfold fq;rw[g O,aK a]
def LJ(d:decide (cK p lv<1)=false)(c:(cK p lv==1)=false):cK p lv=2:=by have a:cK p lv≠1:=an c;have b:=fg d;have:=Nw h;omega
def rs3(c:decide (cK p lv<1)=false)(b:(cK p lv==1)=false)(a:decide ((da (bG p lv 2)).aJ=0)=true):fq p lv=lz p lv:=by have e:=LJ h c b;rw[agw h]at a;unfold fq;rw[g O,g O,g (λZ=>Z.1 (eD a)),l4]
def rs4(c:decide (cK p lv<1)=false)(b:(cK p lv==1)=false)(a:(cK (oM p lv) lv==1)=false):fq p lv=lz p lv:=by have e:=LJ h c b;have a:cK (oM p lv) lv≠1:=an a;unfold fq;rw[g O,g O,g (λZ=>a Z.2),l4]
def rs5(d:decide (cK p lv<1)=false)(c:(cK p lv==1)=false)(b:decide ((da (bG p lv 2)).aJ=0)=false)(a:(cK (oM p lv) lv==1)=true):fq p lv=lz p lv++[tD p lv (dP (bG p lv 2) 3)]:=by have e:=LJ h d c;rw[agw h]at b;have a:cK (oM p lv) lv=1:=an a;unfold fq;rw[g O,g O,aK ⟨fg b,a⟩]
end
def aDm(p:J)(lv:Int)(h:PJ p lv):bh 160 [wE .aH p,wI .i64 lv] (tT [.c (.d (.bf W.ee (fq p lv))),iE 0]):=by
 refine vG func160 rfl ⟨[CC,asn,Jh,Zu,asB,Ay],[aAF]⟩ [] ?_;repeat' first|intro _|apply aP
 all_goals(try simp only[bm,e_,TY,TX,TW]at*)
 all_goals first|exact aZ|omega|((with_reducible show(_&&_)=true);kernel_rfl)| (with_reducible first|exact Wv h|exact Ie h|exact Ez h _)|exact aGg _|with_reducible exact aDz h|exact aCW h (LJ h I I)|rw[rs0 I];done|rw[rs1 I];rfl|rw[rs3 h I I (by simpa using‹(!decide ((da (bG p lv 2)).aJ=0))=!true›)];done|rw[rs4 h I I I];done|(rw[rs5 h I I (by simpa using‹(!decide ((da (bG p lv 2)).aJ=0))=true›) I];first|done|rfl)|exfalso;have u:=yx h;have e:=‹decide (lv<1)=!false›;simp at e;omega|exfalso;have u:=yx h;have d:=Nw h;simp only[be,bj,jw,lN,jC]at*;omega| (with_reducible first|exact(afI h _).1|exact(afI h _).2)|rw[c_];done
def asE:=eO (.el W.aH) (.int .i64) aDm
def xk(p:J)(lv:Int)(i:Nat):J:=bn (((a_ p lv)[i+1]?).getD zP) (kP ((i:Int)+1))
@[irreducible] def ke(p:J)(lv:Int)(y:Nat):List J:=(List.range y).map (xk p lv)++(a_ p lv).drop y
def aab(p:J)(lv:Int):a_ p lv=ke p lv 0:=by unfold ke;simp
def AD{p:J}{lv:Int}(h:i<=(a_ p lv).length):(ke p lv i).length=(a_ p lv).length:=by unfold ke;simp;omega
def aac{p:J}{lv:Int}(a:i<=(a_ p lv).length){c:J}(h:(ke p lv i)[((i:Int)+1).toNat]?=some c):(a_ p lv)[i+1]?=some c:=by have e:((i:Int)+1).toNat=i+1:=O;rw[e]at h;unfold ke at h;rw[yq ai,dS,oh,m_]at h;rw[<-h];congr 1;omega
def atr{p:J}{lv:Int}{y:Nat}(a:(a_ p lv)[y+1]?=some u):(ke p lv y).set y (bn u (kP ((y:Int)+1)))=ke p lv (y+1):=by have b:=lp a;have e:((List.range y).map (xk p lv)).length=y:=ai;unfold ke;rw[vl _ _ O,e,rT,oW,gB,gh,mZ (show y<(a_ p lv).length by omega),vm];show _=_++([xk p lv y]++_);unfold xk;rw[a];rfl
def att{p:J}{lv:Int}(b:i<(a_ p lv).length)(h:(ke p lv i)[((i:Int)+1).toNat]?=some u){e:bk}(a:iV e=(i:Int)+1):(ke p lv i).set ((i:Int)+1-1).toNat (bn u (kP (iV e)))=ke p lv (i+1):=by rw[a,show((i:Int)+1-1).toNat=i by omega];exact atr (aac O h)
def aEf(h:n.natAbs<=100):wX ⟨(iD n).neg,(iD n).aF⟩:=⟨eZ (qR (k:=1) (by show((n.natAbs:Nat):Int)<4294967296^1;omega):(iD n).aF.length<=1) O,fA _⟩
section
variable {p:J}{lv:Int}(h:PQ p lv)
include h
def atz(e:i<(a_ p lv).length)(b:(ke p lv i)[((i:Int)+1).toNat]?=some u):nh u ⟨(iD ((i:Int)+1)).neg,(iD ((i:Int)+1)).aF⟩:=by have a:=lH h;have d:=a.2 u (bF (aac O b));refine .of ?_ (aEf O);rw[y6];exact d.sz.mu (Sz.const (k:=3) 0 O) O O
def atw(a:a_ p lv≠[]):JP ((List.range ((a_ p lv).length-1)).map (xk p lv)) lv:=by obtain⟨v,rfl,c,b⟩:=Cc h;have:=(CJ c b (yA h).1 O (EC h)).2.2.2 a;unfold JP lh;exact⟨O,this⟩
end
def atA{p:J}{lv:Int}{y:Nat}(b:(((a_ p lv).length:Int)==0)=false)(a:decide ((y:Int)+1<((ke p lv y).length:Int))=false)(c:y<(a_ p lv).length):(ke p lv y).take ((a_ p lv).length-1)=(List.range ((a_ p lv).length-1)).map (xk p lv):=by have a:=fg a;rw[AD O]at a;have e:y=(a_ p lv).length-1:=O;have d:((List.range y).map (xk p lv)).length=y:=ai;rw[<-e];unfold ke;rw[B7 O,eQ O]
def dvT{p:J}{lv:Int}(a:(((a_ p lv).length:Int)==0)=false)(b:decide ((i:Int)+1<((ke p lv i).length:Int))=false)(c:i<(a_ p lv).length):List.take (((ke p lv i).length:Int)-1).toNat (List.drop 0 (ke p lv i))=(List.range ((a_ p lv).length-1)).map (xk p lv):=by
 have e:(((ke p lv i).length:Int)-1).toNat=(a_ p lv).length-1:=by rw[AD O];omega
 rw[e,rK];exact atA a b c
def atv{p:J}{lv:Int}(a:(((a_ p lv).length:Int)==0)=false):kG ((List.range ((a_ p lv).length-1)).map (xk p lv)) lv=fU p lv:=by have a:¬((a_ p lv).length:Int)=0:=an a;unfold fU;rw[g (λe=>by rw[e]at a;exact a rfl)];rfl
def atu{p:J}{lv:Int}(a:(((a_ p lv).length:Int)==0)=true):fU p lv=zP:=by have a:((a_ p lv).length:Int)=0:=an a;unfold fU;rw[aK (fc O)]
def azh(a:((l.length:Int)==0)=false):l≠[]:=λe=>by rw[e]at a;simp at a
def atx(a:((l.length:Int)==0)=false):0<l.length:=by have a:¬(l.length:Int)=0:=an a;omega
def atb(p:J)(lv:Int)(h:PQ p lv):bh 259 [wE .aH p,wI .i64 lv] (eT .aH (fU p lv)):=by
 refine vG func259 rfl ⟨[Jj,uA,Jd,Zo],[aAk]⟩ [(7,⟨Nat,λy=>⟨[(1,iT lv),(4,bQ 0),(5,.e (.c (.aW 1 W.aH (ke p lv y).length))),(6,iT ((y:Int)+1))],[(0,dh .aH zP),(1,.aU (U:=S) W.aH (ke p lv y))],2⟩,λy=>y<(a_ p lv).length/\True,λy=>(a_ p lv).length-y⟩)] ?_;repeat' first|intro _|apply aP|refine aX 0 (aP ?_ λ(x:Nat) (a:x<(a_ p lv).length/\True)=>?_)|refine aX (x+1) ?_
 all_goals(try simp only[bm,e_]at*)
 all_goals first|exact aZ|omega|((with_reducible show(_&&_)=true);kernel_rfl)|exact(Nz h).b.d I |>.elim|with_reducible exact EA h|exact aab _ _|exact aY List.length (aab _ _)|exact atx I|rw[dvT I I a.1];exact atw h (azh I)|rw[dvT I I a.1,atv I];done|exact atz h a.1 I|exact att a.1 I (y6 _)|rw[atu I]<;>rfl|with_reducible exact eD (show decide ((x:Int)+1<((ke p lv x).length:Int))=true by with_reducible assumption)|have Z:=eD (show decide ((x:Int)+1<((ke p lv x).length:Int))=true by with_reducible assumption);omega|rw[AD O,AD (by have Z:=eD (show decide ((x:Int)+1<((ke p lv x).length:Int))=true by with_reducible assumption);rw[AD O]at Z;omega)]|have Z:=eD (show decide ((x:Int)+1<((ke p lv x).length:Int))=true by with_reducible assumption);have d:=a.1;rw[AD O]at Z;omega|have Z:=(lH h).1;have d:=a.1;rw[AD O];omega|have Z:=(lH h).1;have d:=a.1;omega|rfl
def ar5:=eO (.el W.aH) (.int .i64) atb
@[irreducible] def SB(p:J)(lv:Int)(t:bi):=PJ p lv/\TG 300 lv t/\(t.aM=1\/t.aM=2\/t.aM=3)
def wW{p:J}{lv:Int}{t:bi}(h:SB p lv t):=(SB.eq_1 ..).to_iff.1 h
@[irreducible] def DE(lv:Int)(p:J)(n:Nat)(cur:J)(ds:zJ0):Prop:=
  n<=2/\cK cur lv<=2-(n:Int)/\Sz 2 (140+6*n) cur/\ds.length=n+1/\(∃d0,ds=d0++[cur])/\(∀d∈ds,PQ d lv)/\o8 lv 3 p=ds.dropLast++o8 lv (3-n) cur
def vg{lv:Int}{p:J}{n:Nat}{cur:J}{ds:zJ0}(h:DE lv p n cur ds):=(DE.eq_1 ..).to_iff.1 h
def aj8{lv:Int}{p:J}(h:PJ p lv):DE lv p 0 p [p]:=by unfold DE;exact⟨O,Nw h,(yx h).1,rfl,⟨[],rfl⟩,λd a=>by rw[dZ.1 a];exact Cb h,rfl⟩
section
variable {lv:Int}{p:J}{n:Nat}{cur:J}{ds:zJ0}(hl:1≤lv∧lv≤4)(h:DE lv p n cur ds)
include hl h
def DEz:ZL cur lv:=by have u:=vg h;refine .of (u.2.2.1.cz O O) ?_;unfold lh;exact hl
def DEp:PQ cur lv:=by have u:=vg h;unfold PQ;exact⟨u.2.2.1.up O O,hl⟩
def U8(b:decide (0<cK cur lv)=true):DE lv p (n+1) (fU cur lv) (ds++[fU cur lv]):=by
 have b:=eD b;have u:=vg h;obtain⟨v,rfl⟩:∃v:Nat,lv=(v:Int):=⟨lv.toNat,O⟩;have dk:=CJ (lv:=v) O O u.2.2.1 O (by have:=u.2.1;omega);have c:Sz 2 (140+6*(n+1)) (fU cur v):=dk.1.up (bu _) O;unfold DE;refine⟨by have:=u.2.1;omega,by have:=dk.2.1;have:=u.2.1;omega,c,by rw[c_,u.2.2.2.1];rfl,⟨ds,rfl⟩,λd a=>?_,?_⟩
 ·rcases dd.1 a with e|e
  ·exact u.2.2.2.2.2.1 d e
  ·rw[dZ.1 e];unfold PQ;exact⟨c.up O (by have:=u.1;have:=u.2.1;omega),hl⟩
 ·have j:=u.2.2.2.2.2.2;obtain⟨d0,i⟩:=u.2.2.2.2.1;have f:3-n=(3-(n+1))+1:=by have:=u.2.1;omega
  rw[j,f,o8,aK b,i,List.dropLast_concat,List.dropLast_concat,gh];rfl
omit hl in
theorem aj9(a:decide (0<cK cur lv)=false):o8 lv 3 p=ds:=by have a:=fg a;have u:=vg h;obtain⟨d0,c⟩:=u.2.2.2.2.1;have b:3-n=(3-(n+1))+1:=O;rw[u.2.2.2.2.2.2,b,o8,g a,c,List.dropLast_concat]
omit hl in
theorem U7(q:J):(ds.length+[q].length)*lC.dT<=140737488355328/\ds.length+[q].length<=140737488355328:=by have u:=vg h;have e:lC.dT=64:=rfl;have a:[q].length=1:=rfl;rw[e,a];omega
end
@[irreducible] def DF(lv:Int)(p:J)(t:bi)(ds:zJ0)(z:Nat):=o8 lv 3 p=ds/\(∀d∈ds,VQ d lv t)/\z+1<=ds.length/\ds.length<=3
def D7{lv:Int}{p:J}{t:bi}{ds:zJ0}{z:Nat}(h:DF lv p t ds z):=(DF.eq_1 ..).to_iff.1 h
def akd{lv:Int}{p:J}(Y:SB p lv t){n:Nat}{cur:J}{ds:zJ0}(h:DE lv p n cur ds)(b:decide (0<cK cur lv)=false):DF lv p t ds 0:=by have u:=vg h;unfold DF;refine⟨aj9 h b,λd a=>?_,O,O⟩;unfold VQ;exact⟨u.2.2.2.2.2.1 d a,(wW Y).2.1⟩
def anP{lv:Int}{ds:zJ0}(hl:ds≠[])(h:ds[((ds.length:Int)-1).toNat]?=some u):nK u r lv t=mH r lv t (ds.drop (ds.length-1)):=by
 have b:0<ds.length:=List.length_pos_iff.2 hl;have e:((ds.length:Int)-1).toNat=ds.length-1:=O;rw[e]at h;have a:=lp h;rw[mZ a,ca a]at*;injection h with h
 rw[h,pR O,mH]
def anQ{lv:Int}{ds:zJ0}(l:i+1<=ds.length)(c:decide (0<=(ds.length:Int)-2-(i:Int))=true)(h:ds[((ds.length:Int)-2-(i:Int)).toNat]?=some u):kY [nK u (rk r) lv t,dA [nK u 3 lv t,mH r lv t (ds.drop (ds.length-1-i))]]=mH r lv t (ds.drop (ds.length-1-(i+1))):=by
 have c:=eD c;have e:((ds.length:Int)-2-(i:Int)).toNat=ds.length-1-(i+1):=O;rw[e]at h;have f:=lp h;have j:ds.drop (ds.length-1-(i+1))=u::ds.drop (ds.length-1-i):=by
  rw[mZ f];rw[ca f]at h;injection h with h
  rw[h];congr 2;omega
 rw[j];cases k:ds.drop (ds.length-1-i)with
 |nil=>have:=aY List.length k;rw[qC]at this;simp at this;omega
 |cons a b=>rw[mH]
def ch3(h:l[i]?=some u):l≠[]:=λe=>by rw[e]at h;simp at h
def an8{p:J}{lv:Int}(a:(r==1)=false)(b:(r==2)=false)(c:(r==5)=false)(d:(r==6)=false)(e:(r==4)=true):r8 p r lv t=dy (pJ (a_ p lv)):=by unfold r8;rw[g (K4 a b c d),aK (an e)]
def an7{p:J}{lv:Int}(a:(r==1)=false)(b:(r==2)=false)(c:(r==5)=false)(d:(r==6)=false)(e:(r==4)=false):r8 p r lv t=pJ (a_ p lv):=by unfold r8;rw[g (K4 a b c d),g (an e)]
def an6{p:J}{lv:Int}{ds:zJ0}(h:nC r)(b:DF lv p t ds i)(a:decide (0<=(ds.length:Int)-2-(i:Int))=false):mH r lv t (ds.drop (ds.length-1-i))=r8 p r lv t:=by have u:=D7 b;have a:=fg a;unfold r8;rw[aK h,u.1,show ds.length-1-i=0 by omega,rK]
def ake{lv:Int}{p:J}{ds:zJ0}(h:DF lv p t ds i)(a:decide (0<=(ds.length:Int)-2-(i:Int))=true):DF lv p t ds (i+1):=by have u:=D7 h;have a:=eD a;unfold DF;exact⟨u.1,u.2.1,O,u.2.2.2⟩
def akf{lv:Int}{p:J}{ds:zJ0}(h:DF lv p t ds i)(a:ds[x]?=some u):VQ u lv t:=(D7 h).2.1 u (bF a)
def aj_{lv:Int}{p:J}(Y:SB p lv t){n:Nat}{cur:J}{ds:zJ0}(h:DE lv p n cur ds)(a:ds[i]?=some u):VQ u lv t:=by unfold VQ;exact⟨(vg h).2.2.2.2.2.1 u (bF a),(wW Y).2.1⟩
def Ao{p:J}{lv:Int}(h:SB p lv t):1<=lv/\lv<=4:=(yx (wW h).1).2
def SBj{p:J}{lv:Int}(h:SB p lv t):PJ p lv:=(wW h).1
def EH{p:J}{lv:Int}(h:SB p lv t):PQ p lv:=Cb (wW h).1
def SBv{p:J}{lv:Int}(h:SB p lv t):VQ p lv t:=by unfold VQ;exact⟨EH h,(wW h).2.1⟩
def DEl{lv:Int}{p:J}{n:Nat}{cur:J}{ds:zJ0}(h:DE lv p n cur ds):ds.length=n+1/\n<=2:=⟨(vg h).2.2.2.1,(vg h).1⟩
def anR(p:J)(r lv:Int)(t:bi)(h:SB p lv t):bh 209 [wE .aH p,wI .i64 r,wI .i64 lv,wE .ee t] (eT .aQ (r8 p r lv t)):=by
 refine vF func209 rfl [Fx 32,Fs,ZR,Jm,CC,ar5,Zq,ZN,Ax,Fw] [(10,⟨Nat×J×List J,λx=>⟨[(1,iT r),(2,iT lv),(4,bQ 0),(7,bQ 1),(8,bQ 2),(9,.e (.c (.aW 3 W.aH x.2.2.length)))],[(0,.cells ((cQ .aH x.2.1).map .d)),(1,dh .ee t),(2,dh .aQ zM),(3,.aU (U:=S) W.aH x.2.2)],4⟩,λx=>DE lv p x.1 x.2.1 x.2.2/\True,λx=>2-x.1⟩),(16,⟨List J×Nat,λx=>⟨[(1,iT r),(2,iT lv),(7,bQ 0),(8,bQ 1),(9,.e (.c (.aW 2 W.aH x.1.length))),(11,bQ 3),(12,iT ((x.1.length:Int)-2-(x.2:Int)))],[(0,dh .ee t),(1,dh .aQ zM),(2,.aU (U:=S) W.aH x.1),(3,.cells ((cQ .aQ (mH r lv t (x.1.drop (x.1.length-1-x.2)))).map .d))],4⟩,λx=>DF lv p t x.1 x.2/\True,λx=>x.1.length-x.2⟩)] ?_;repeat' (first
  |((with_reducible show mt _ _ _ _ _);(conv=>whnf);(fail_if_success with_reducible show mt _ _ _ _ _))
  |intro _|apply aP
  |refine @aX (Nat×J×List J) _ (0,p,[p]) (aP ?_ λ(x:Nat×J×List J)(a:DE lv p x.1 x.2.1 x.2.2/\True)=>?_)
  |refine @aX (Nat×J×List J) _ (x.1+1,fU x.2.1 lv,x.2.2++[fU x.2.1 lv]) ?_
  |refine @aX (List J×Nat) _ (x.2.2,0) (aP ?_ λ(w:List J×Nat)(b:DF lv p t w.1 w.2/\True)=>?_)
  |refine @aX (List J×Nat) _ (w.1,w.2+1) ?_
  |fail)
 all_goals(try simp only[bm,e_]at*)
 all_goals first|exact aZ|omega|((with_reducible show(_&&_)=true);kernel_rfl)| (with_reducible first|exact EA (EH h)|exact Wy (EH h)|exact Wz (EH h))|rw[an8 I I I I I];done|rw[an7 I I I I I];done| (with_reducible first|exact aj8 (SBj h)|exact DEz (Ao h) a.1|exact DEp (Ao h) a.1)|exact U8 (Ao h) a.1 I| (with_reducible first|exact(U7 a.1 _).1|exact(U7 a.1 _).2)|exact aj_ h a.1 I|exact akd h a.1 I|rw[anP (ch3 I) I]<;>rfl|exact akf b.1 I|exact ake b.1 I|rw[anQ (D7 b.1).2.2.1 I I]<;>rfl|rw[an6 (by first|exact RK I|exact xG I|exact RL I|exact RN I) b.1 I]<;>rfl|rw[c_];done|have Z:=DEl a.1;simp only[be,bj]at*;omega|have Z:=(D7 b.1).2.2;simp only[be,bj]at*;omega|show 2-(x.1+1)<2-x.1;have Z:=vg (U8 (Ao h) a.1 I);omega|rfl|exfalso;simp_all;done
def arV:=MA (.el W.aH) (.int .i64) (.int .i64) (.el W.ee) anR
def Cf{lv:Int}(h:SB p lv t):(cK t.a lv<=0/\cK t.b lv<=0/\cK t.c lv<=0/\cK t.d lv<=0)/\ZL t.a lv/\ZL t.b lv/\ZL t.c lv/\ZL t.d lv:=by
 have e:=(wW h).2.1;have l:=Ao h;have z:∀q:J,SF 4 300 lv q->cK q lv<=0/\ZL q lv:=λq f=>by refine⟨f.fr.ub,.of (f.sz.cz O O) ?_⟩;unfold lh;exact l
 have a:=z _ (e.a.up O O);have b:=z _ (e.b.up O O);have c:=z _ (e.c.up O O);have d:=z _ (e.d.up O O);exact⟨⟨a.1,b.1,c.1,d.1⟩,a.2,b.2,c.2,d.2⟩
def su1{lv:Int}(h:(t.aM==1)=true):ob p r lv t=pZ p r lv:=by unfold ob;rw[aK (an h)]
def su2(a:(t.aM==1)=false)(h:(t.aM==2)=true):ob p r n t=nK p r n t:=by unfold ob;rw[g (an a),aK (an h)]
def su3(a:(t.aM==1)=false)(h:(t.aM==2)=false):ob p r n t=r8 p r n t:=by unfold ob;rw[g (an a),g (an h)]
def aFB(p:J)(r a:Int)(t:bi)(h:SB p a t):bh 162 [wE .aH p,wI .i64 r,wI .i64 a,wE .ee t] (tT [.agg ((cQ .aQ (ob p r a t)).map .d),iE 0]):=by
 refine vF func162 rfl [CC,arZ,Zq,arV] [(4,⟨Nat,λx=>⟨[(1,iT r),(2,iT a),(4,bQ 0),(7,bQ 1),(8,bQ 2),(37,.e (.agg [cw t.a.aJ,.d (.b8 t.a.neg),.d (.bf (U:=S) W.u32 t.a.aF),.d (.bf (U:=S) W.aH t.a.aG),cw t.b.aJ,.d (.b8 t.b.neg),.d (.bf (U:=S) W.u32 t.b.aF),.d (.bf (U:=S) W.aH t.b.aG),cw t.c.aJ,.d (.b8 t.c.neg),.d (.bf (U:=S) W.u32 t.c.aF),.d (.bf (U:=S) W.aH t.c.aG),cw t.d.aJ,.d (.b8 t.d.neg),.d (.bf (U:=S) W.u32 t.d.aF),.d (.bf (U:=S) W.aH t.d.aG)])),(38,iT x)],[(0,dh .aH p),(1,dh .ee t),(2,dh .aQ zM)],3⟩,λx=>x<=4/\True,λx=>4-x⟩)] ?_;repeat' first|intro _|apply aP|refine aX 0 (aP ?_ λ(x:Nat)(b:x<=4/\True)=>?_)|refine aX (x+1) ?_
 all_goals(try simp only[bm,e_]at*)
 all_goals first|exact aZ|omega| (with_reducible first|exact(Cf h).2.1|exact(Cf h).2.2.1|exact(Cf h).2.2.2.1|exact(Cf h).2.2.2.2|exact EH h|exact SBv h)|rw[su1 I];done|rw[su2 I I];done|rw[su3 I I];done|exfalso;have l:=Ao h;have k:=(wW h).2.2;have d:=(Cf h).1;simp only[be,bj]at*;omega|exfalso;have l:=Ao h;have k:=(wW h).2.2;have d:=(Cf h).1;simp at*;omega|simp only[be,bj,jw,lN,jC]at*;omega|rfl
def asQ:=MA (.el W.aH) (.int .i64) (.int .i64) (.el W.ee) aFB
def aan:fh prog 108:=fH func108 af rfl
@[irreducible] def nf(l:zJ0)(m:F):=iF m/\l.length+bc m<=10000000
def ED(h:nf l m):iF m:=by unfold nf at h;exact h.1
def NC(h:nf l m):l.length+bc m<=10000000:=by unfold nf at h;exact h.2
@[irreducible] def sD(m:F)(i:Nat):List J:=mn (m.aO.take i)
def afw(m:F):sD m 0=[]:=by unfold sD;rw[iC,mn]
def afy(h:m.aO[(i:Int).toNat]?=some c):sD m i++eB c=sD m (i+1):=by rw[bI]at h;unfold sD;rw[h_,h,Ak,ae6,mn,mn,l4]
def afx(a:KG m)(h:decide ((i:Int)<m.aO.length)=false):sD m i=eB m:=by simp only[bj]at h;rw[pl3 a];unfold sD;rw[eQ O]
theorem aiB{c:F}:∀{l:zF0}{i:Nat},l[i]?=some c->cy (l.take i)+bc c<=cy l
 |[],i,h=>by simp at h
 |d::l,0,h=>by simp only[jH,cY]at h;subst h;rw[iC,gV,eE];omega
 |d::l,i+1,h=>by rw[yr]at h;have:=aiB h;rw[pT,eE,eE];omega
def WE(h:nf l m)(a:m.aO[(i:Int).toNat]?=some c):nf (l++sD m i) c:=by have b:=ED h;have d:=NC h;rw[bI]at a;have e:=aiB a;have f:=Sh (m.aO.take i);rw[kM]at d;unfold nf;refine⟨b.bz c (bF a),?_⟩;rw[c_];unfold sD;omega
def WD(h:nf l m)(x:J):(l.length+[x].length)*lC.dT<=140737488355328/\l.length+[x].length<=140737488355328:=by have b:=NC h;have e:lC.dT=64:=rfl;have a:[x].length=1:=rfl;rw[e,a];omega
def aCm(x:J):[x].length*lC.dT<=140737488355328:=by have e:lC.dT=64:=rfl;rw[e];simp
def aCn(x:J):[x].length<=140737488355328:=ai
def WC(l:zJ0)(m:F):Prop:=cN prog 108 (bJ (bP [(0,aV.aU (U:=S) W.aH l)])) ([.c (.aW 0 W.aH l.length),wE .aQ m].map SE.den) (bJ (bP [(1,aV.aU (U:=S) W.aH (l++eB m))])) (·∈[]) (ST.e (U:=S) (.c (.aW 1 W.aH (l++eB m).length))).den
def ag4(Q:F->Prop)(H:List (Nat×aV S))(args:zS0)(K:f_ S->Prop):Prop:=
 match H,args with
 |[(0,.aU W.aH l)],[.c (.aW 0 W.aH n),.agg [.d (.sc (.int .i64 k)),.d (.sc (.int .i64 r)),.d (.sc (.int .i64 b)),.d (.b8 a),.d (.bf W.u32 i),.d (.bf W.aH h),.d (.bf W.aQ f)]]=>(n=l.length/\Q (.mk k r (.mk b a i h) f)/\nf l (.mk k r (.mk b a i h) f))/\K ⟨.e (.c (.aW 1 W.aH (l++eB (.mk k r (.mk b a i h) f)).length)),[(1,.aU W.aH (l++eB (.mk k r (.mk b a i h) f)))],[0],[0]⟩
 |_,_=>False
def aev(Q:F->Prop)(b:∀l m,Q m->nf l m->WC l m):fk prog S where
 f:=108
 fX:=aan
 run:=ag4 Q
 ok H args K h:=by
  unfold ag4 at h;split at h
  ·rename_i l n k r p o v t q;obtain⟨⟨rfl,j,i⟩,e⟩:=h;refine⟨_,?_,λu a c=>?_,e⟩
   ·exact(b l _ j i).fK λu a=>by have s:u<1:=a.1;have d:=a.2;simp at d;omega
   ·have:u<1:=a;simp at c;omega
  ·cases h
def aBw(m:F):∀(l:zJ0),nf l m->WC l m:=by
 generalize i:SizeOf.sizeOf m=D
 induction D using Nat.strongRecOn generalizing m
 rename_i D a;subst i;intro l h;refine vO func108 rfl ⟨[Jk,yT],[aev (λc=>c∈m.aO) (λl c f=>a _ (F.lt f) c rfl l)]⟩ [(7,⟨Nat,λx=>⟨[(0,.e (.c (.aW 0 W.aH (l++sD m x).length))),(3,bQ 1),(21,lT .aQ m.aO),(22,iT m.aO.length),(23,iT x)],[(0,.aU W.aH (l++sD m x)),(1,.cells [cw m.aM,cw m.bW,cw m.aH.aJ,.d (.b8 m.aH.neg),.d (.bf (U:=S) W.u32 m.aH.aF),.d (.bf (U:=S) W.aH m.aH.aG),.d (.bf (U:=S) W.aQ m.aO)])],2⟩,λx=>(x<=m.aO.length/\KG m)/\True,λx=>m.aO.length-x⟩)] [] ⟨[(4,.e (.c (.aW 1 W.aH (l++eB m).length)))],[(1,.aU W.aH (l++eB m))],2⟩ ?_;repeat' first|intro _|apply aP|refine aX 0 (aP ?_ λ(x:Nat) (b:(x<=m.aO.length/\KG m)/\True)=>?_)|refine aX (x+1) ?_
 all_goals(try clear a)
 all_goals(try simp only[bm,e_]at*)
 all_goals first|exact aZ|omega|(rw[pl2 ak]<;>first|rfl|simp;done)|(rw[pl0 ak ak ak]<;>first|rfl|simp;done)|with_reducible exact(ED h).np|exact zm (.inl ak)|exact zm (.inr ak)| (with_reducible first|exact(WD h _).1|exact(WD h _).2)|(rw[afw]<;>first|rfl|simp;done)|exact WE h I|exact bF I|(rw[<-afy I]<;>first|rfl|simp only[gh];done|simp;done)|rw[afx b.1.2 I]|have:=(ED h).len;have Z:=b.1.1;simp only[be,bj]at*;omega|exfalso;simp_all;done
def aBu(m:F)(h:nf [] m):cN prog 108 (bJ (bP (U:=S) [])) ([.c (.d (.sc (.slice none 0 0))),wE .aQ m].map SE.den) (bJ (bP [(0,aV.aU (U:=S) W.aH (eB m))])) (·∈[]) (ST.e (U:=S) (.c (.aW 0 W.aH (eB m).length))).den:=by
 refine vO func108 rfl ⟨[Jk,yT],[aev (λ_=>True) (λl m _ h=>aBw m l h)]⟩ [(7,⟨Nat,λx=>⟨[(0,.e (.c (.aW 0 W.aH (([]:zJ0)++sD m x).length))),(3,bQ 1),(21,lT .aQ m.aO),(22,iT m.aO.length),(23,iT x)],[(0,.aU W.aH (([]:zJ0)++sD m x)),(1,.cells [cw m.aM,cw m.bW,cw m.aH.aJ,.d (.b8 m.aH.neg),.d (.bf (U:=S) W.u32 m.aH.aF),.d (.bf (U:=S) W.aH m.aH.aG),.d (.bf (U:=S) W.aQ m.aO)])],2⟩,λx=>(x<=m.aO.length/\KG m)/\True,λx=>m.aO.length-x⟩)] [] ⟨[(4,.e (.c (.aW 0 W.aH (eB m).length)))],[(0,.aU W.aH (eB m))],1⟩ ?_;repeat' first|intro _|apply aP|refine aX 0 (aP ?_ λ(x:Nat) (a:(x<=m.aO.length/\KG m)/\True)=>?_)|refine aX (x+1) ?_
 all_goals(try simp only[bm,e_]at*)
 all_goals(try rw[gi])
 all_goals first|exact aZ|omega| (with_reducible first|exact aCm _|exact aCn _)|(rw[pl2 ak]<;>first|rfl|simp;done)|(rw[pl0 ak ak ak]<;>first|rfl|simp;done)|with_reducible exact(ED h).np|exact zm (.inl ak)|exact zm (.inr ak)|(rw[afw]<;>first|rfl|simp;done)|exact WE h I|(rw[<-afy I]<;>first|rfl|simp only[gh];done|simp;done)|rw[afx a.1.2 I]|have:=(ED h).len;have Z:=a.1.1;simp only[be,bj]at*;omega|exfalso;simp_all;done
def ag5(H:List (Nat×aV S))(args:zS0)(K:f_ S->Prop):Prop:=
 match H,args with
 |[],[.c (.d (.sc (.slice none 0 0))),.agg [.d (.sc (.int .i64 k)),.d (.sc (.int .i64 r)),.d (.sc (.int .i64 b)),.d (.b8 a),.d (.bf W.u32 i),.d (.bf W.aH h),.d (.bf W.aQ f)]]=>nf [] (.mk k r (.mk b a i h) f)/\K ⟨.e (.c (.aW 0 W.aH (eB (.mk k r (.mk b a i h) f)).length)),[(0,.aU W.aH (eB (.mk k r (.mk b a i h) f)))],[],[]⟩
 |_,_=>False
def aAE:fk prog S where
 f:=108
 fX:=aan
 run:=ag5
 ok H args K h:=by
  unfold ag5 at h;split at h
  ·rename_i k r c b l j d;obtain⟨i,e⟩:=h;refine⟨_,?_,λu a m=>?_,e⟩
   ·exact(aBu (.mk k r (.mk c b l j) d) i).fK λu a=>by simp at a
   ·simp at a
  ·cases h
def amf(h:nf [] m):nf [] (F.mk m.aM m.bW (J.mk m.aH.aJ m.aH.neg m.aH.aF m.aH.aG) m.aO):=by rw[CR];exact h
def aBC(m:F)(h:nf [] m):bh 62 [wE .aQ m] (lT .aH (eB m)):=by
 refine vG func62 rfl ⟨[],[aAE]⟩ [] ?_;repeat' first|intro _|apply aP
 all_goals first|exact aZ| (with_reducible first|rfl|exact amf h)|simp only[bm,e_]
def OV:=dR (.el W.aQ) aBC
@[irreducible] def HP(m:F)(a:Int):=nf [] m/\(∀p∈eB m,CZ p)/\lh a
def BX{m:F}{a:Int}(h:HP m a):=(HP.eq_1 ..).to_iff.1 h
def mg(l:zJ0)(a:Int):Bool:=l.any λp=>decide (0<cK p a)
def M7{lv:Int}(h:HP m lv)(a:(eB m)[i]?=some p):ZL p lv:=.of ((BX h).2.1 p (bF a)) (BX h).2.2
def z6(h:HP m r):(eB m).length<=10000000/\1<=r/\r<=4:=by have u:=BX h;have l:=u.2.2;unfold lh at l;have a:=ae5 m;have b:=NC u.1;exact⟨O,l⟩
@[irreducible] def HG(l:zJ0)(a:Int)(x:Nat):=x<=l.length/\mg (l.take x) a=false
def akS(l:zJ0)(a:Int):HG l a 0:=by unfold HG;exact⟨dD _,rfl⟩
def HGx(h:HG l r x):x<=l.length:=by unfold HG at h;exact h.1
def akU(h:HG l r x)(a:l[(x:Int).toNat]?=some p)(b:decide (0<cK p r)=false):HG l r (x+1):=by rw[bI]at a;unfold HG at h⊢;refine⟨lp a,?_⟩;unfold mg at*;rw[h_,a,List.any_append,h.2];simpa using b
def akV(a:l[(x:Int).toNat]?=some p)(b:decide (0<cK p r)=true):mg l r=true:=by rw[bI]at a;unfold mg;rw[uf];exact⟨p,bF a,b⟩
def akT(h:HG l r x)(a:decide ((x:Int)<l.length)=false):mg l r=false:=by simp only[bj]at a;unfold HG at h;have:=h.2;rwa [eQ O]at this
@[irreducible] def HC(m:F)(a:Int):=HP m a/\∀p∈eB m,cK p a<=2
def vi{lv:Int}(h:HC m lv):HP m lv:=by unfold HC at h;exact h.1
def Vr(h:HC m r)(a:(eB m)[i]?=some p)(b:decide (2<cK p r)=true):False:=by unfold HC at h;have:=h.2 p (bF a);have:=eD b;omega
def av3(m:F)(a:Int)(h:HP m a):bh 63 [wE .aQ m,wI .i64 a] (bT (mg (eB m) a)):=by
 refine vF func63 rfl [OV,CC] [(2,⟨Nat,λx=>⟨[(1,iT a),(8,lT .aH (eB m)),(9,iT (eB m).length),(10,iT x)],[],0⟩,λx=>HG (eB m) a x/\True,λx=>(eB m).length-x⟩)] ?_;repeat' first|intro _|apply aP|refine aX 0 (aP ?_ λ(x:Nat) (b:HG (eB m) a x/\True)=>?_)|refine aX (x+1) ?_
 all_goals(try simp only[bm,e_]at*)
 all_goals first|omega|with_reducible exact(BX h).1|exact M7 h I|with_reducible exact akS _ _|rw[akV I I];done|exact akU b.1 I I|rw[akT b.1 I];done|have Z:=HGx b.1;have c:=z6 h;simp only[be,bj]at*;omega
def asd:=eO (.el W.aQ) (.int .i64) av3
def aqR(m:F)(a:Int)(h:HC m a):bh 31 [wE .aQ m,wI .i64 a] (iT 0):=by
 refine vF func31 rfl [OV,CC] [(4,⟨Nat,λx=>⟨[(1,iT a),(14,lT .aH (eB m)),(15,iT (eB m).length),(16,iT x)],[],0⟩,λx=>x<=(eB m).length/\True,λx=>(eB m).length-x⟩)] ?_;repeat' first|intro _|apply aP|refine aX 0 (aP ?_ λ(x:Nat) (c:x<=(eB m).length/\True)=>?_)|refine aX (x+1) ?_
 all_goals(try simp only[bm,e_]at*)
 all_goals first|omega|with_reducible exact(BX (vi h)).1|exact M7 (vi h) I|exfalso;exact Vr h I I|exfalso;have b:=z6 (vi h);simp only[be,bj]at*;omega|have b:=z6 (vi h);have Z:=c.1;simp only[be,bj]at*;omega|exfalso;have b:=z6 (vi h);simp at*;omega
def Zt:=eO (.el W.aQ) (.int .i64) aqR
inductive tZ(lv:Int)(t:bi):F->Prop where
 |mk (k r:Int) (p:J) (ks:zF0) (hp:k=2->SB p lv t) (hk:k=3\/k=4->∀c∈ks,tZ lv t c) (hl:k=3\/k=4->ks.length<=1000000):tZ lv t (.mk k r p ks)
def tZ.sb(h:tZ r t m)(b:(m.aM==2)=true):SB m.aH r t:=by
 cases h with
 |mk k a p d c _ _=>exact c (show k=2 by simpa using(show(k==2)=true from b))
def tZ.kd(h:tZ r t m)(b:KG m):(∀c∈m.aO,tZ r t c)/\m.aO.length<=1000000:=by
 cases h with
 |mk k a p f _ d e=>exact⟨d b,e b⟩
def N4(a:Int)(t:bi)(m:F):gO a t m=if m.aM=2 then ob m.aH m.bW a t else if m.aM=3\/m.aM=4 then .mk m.aM 0 zP (m.aO.map (gO a t))else m:=by cases m;rw[gO,XD];rfl
def ap2(h:(m.aM==2)=true):gO r t m=ob m.aH m.bW r t:=by rw[N4,aK (an h)]
def ap0(a:(m.aM==2)=false)(b:(m.aM==3)=false)(c:(m.aM==4)=false):gO r t m=m:=by rw[N4,g (an a),g (by intro h;rcases h with h|h;exact absurd h (an b);exact absurd h (an c))]
def Xo(h:KG m):gO r t m=.mk m.aM 0 zP (m.aO.map (gO r t)):=by unfold KG at h;rw[N4,g O,aK h]
def Ix(h:(m.aM==3)=true\/(m.aM==4)=true):KG m:=by unfold KG;simpa using h
@[irreducible] def ou(a:Int)(t:bi)(m:F)(i:Nat):List F:=(m.aO.take i).map (gO a t)
def Xs(a:Int)(t:bi)(m:F):ou a t m 0=[]:=by unfold ou;rfl
def aoe(a:Int)(t:bi)(m:F):(ou a t m 0).length=0:=by rw[Xs];rfl
def Xu(h:m.aO[(i:Int).toNat]?=some c):ou r t m i++[gO r t c]=ou r t m (i+1):=by rw[bI]at h;unfold ou;rw[h_,h,gB];rfl
def aog(h:m.aO[(i:Int).toNat]?=some c):(ou r t m i).length+[gO r t c].length=(ou r t m (i+1)).length:=by rw[<-Xu h];simp
def Xt(h:m.aO.length<=1000000)(i:Nat)(x:F):((ou r t m i).length+[x].length)*oP.dT<=140737488355328/\(ou r t m i).length+[x].length<=140737488355328:=by
 have b:(ou r t m i).length<=m.aO.length:=by unfold ou;simp;omega
 have e:oP.dT=104:=rfl;have a:[x].length=1:=rfl;rw[e,a];omega
def aof(h:decide ((i:Int)<m.aO.length)=false)(a:KG m):ou r t m i=(gO r t m).aO:=by simp only[bj]at h;rw[Xo a];show ou r t m i=m.aO.map (gO r t);unfold ou;rw[eQ O]
def Dh(h:((0:Int) !=0)=true):False:=absurd h ae
def aoB(m:F)(a:Int)(t:bi)(h:tZ a t m):bh 111 [wE .aQ m,wI .i64 a,wE .ee t] (tT [.agg ((cQ .aQ (gO a t m)).map .d),iE 0]):=by
 generalize i:SizeOf.sizeOf m=D
 induction D using Nat.strongRecOn generalizing m
 rename_i D e;subst i;refine vF func111 rfl [asQ,CA Vw 111 (.el W.aQ) (.int .i64) (.el W.ee) (λ(c:F)(l:Int)(u:bi)=>c∈m.aO/\tZ a t c/\l=a/\u=t) (λ(c:F)(l:Int)(u:bi)=>tT [.agg ((cQ .aQ (gO l u c)).map .d),iE 0]) (λc l u f=>by obtain⟨k,j,rfl,rfl⟩:=f;exact e _ (F.lt k) c j rfl)] [(8,⟨Nat,λx=>⟨[(1,iT a),(3,bQ 0),(5,bQ 1),(6,bQ 2),(8,bQ 3),(33,lT .aQ m.aO),(34,iT m.aO.length),(35,iT x)],[(0,dh .aQ m),(1,dh .ee t),(2,dh .aQ zM),(3,.cells [cw m.aM,cw 0,cw 0,iG,fv,fv,.aW 4 W.aQ (ou a t m x).length]),(4,.aU (U:=S) W.aQ (ou a t m x))],5⟩,λx=>(x<=m.aO.length/\KG m)/\True,λx=>m.aO.length-x⟩)] ?_;repeat' first|exact(Dh ‹((0:Int) !=0)=true›).elim|intro _|apply aP|refine aX 0 (aP ?_ λ(x:Nat) (b:(x<=m.aO.length/\KG m)/\True)=>?_)|refine aX (x+1) ?_
 all_goals(try clear e)
 all_goals(try simp only[bm,e_]at*)
 all_goals first|exact aZ|omega|rw[ap2 I]<;>rfl|rw[ap0 I I I]<;>rfl|rw[Xo b.1.2]<;>rfl|with_reducible exact h.sb I|exact Ix (.inl I)|exact Ix (.inr I)| (with_reducible first|exact Xs _ _ _|exact aoe _ _ _|exact(Xt (h.kd b.1.2).2 _ _).1|exact(Xt (h.kd b.1.2).2 _ _).2|exact Xu I|exact aog I|exact aof I b.1.2)|exact(h.kd b.1.2).1 _ (bF I)|exact bF I|have:=(h.kd (Ix (.inl I))).2;omega|have:=(h.kd (Ix (.inr I))).2;omega|have:=(h.kd b.1.2).2;have Z:=b.1.1;simp only[be,bj]at*;omega|rfl|exfalso;simp_all;done
def arW:=vb (.el W.aQ) (.int .i64) (.el W.ee) aoB
def vN(x:UInt8):Bool:=decide (48<=x.toNat)&&decide (x.toNat<=57)
def zN{k:Nat}(h:k<10):(UInt8.ofNat (48+k)).toNat=48+k:=by rw[UInt8.toNat_ofNat'];omega
def ab6(h:i<10):vN (UInt8.ofNat (48+i))=true:=by unfold vN;rw[zN h];simp;omega
def ZU:∀(u:Nat),∀x∈Lib.decDigits u,vN x=true:=by
 intro u
 induction u using Nat.strongRecOn with
 |_ u b=>
  intro x a;rw[Lib.decDigits]at a;split at a
  ·rw[dZ]at a;subst a;exact ab6 O
  ·rcases dd.1 a with a|a
   ·exact b (u/10) O x a
   ·rw[dZ]at a;subst a;exact ab6 O
def dvl(l:List UInt8):Nat:=l.foldl (λa x=>10*a+(x.toNat-48)) 0
def aah(u:Nat):dvl (Lib.decDigits u)=u:=by
 induction u using Nat.strongRecOn with
 |_ u a=>
  rw[Lib.decDigits];split
  ·rename_i h;show 10*0+((UInt8.ofNat (48+u)).toNat-48)=u;rw[zN h];omega
  ·have:=a (u/10) O;unfold dvl at this⊢;rw[List.foldl_append,this,Ni,List.foldl_nil,zN O];omega
def as6{v:Nat}(h:Lib.decDigits i=Lib.decDigits v):i=v:=by rw[<-aah i,h,aah]
theorem aif:∀{a b:List UInt8}{c e:UInt8}{r f:List UInt8},(∀x∈a,vN x=true)->(∀x∈b,vN x=true)->vN c=false->vN e=false->a++c::r=b++e::f->a=b/\c::r=e::f
 |[],[],c,e,r,f,_,_,_,_,h=>⟨rfl,h⟩
 |[],y::b,c,e,r,f,_,l,d,_,h=>by
  injection h with i n
  rw[i,l y (bZ ..)]at d;cases d
 |x::a,[],c,e,r,f,m,_,_,d,h=>by
  injection h with i n
  rw[<-i,m x (bZ ..)]at d;cases d
 |x::a,y::b,c,e,r,f,m,l,d,k,h=>by
  injection h with i n
  have:=aif (λz j=>m z (cE _ j)) (λz j=>l z (cE _ j)) d k n;exact⟨by rw[i,this.1],this.2⟩
def as7{c a:UInt8}{r r':List UInt8}(d:vN c=false)(b:vN a=false)(h:Lib.decDigits i++c::r=Lib.decDigits x++a::r'):i=x/\c::r=a::r':=by have:=aif (ZU i) (ZU x) d b h;exact⟨as6 this.1,this.2⟩
def xp(a:0<=n)(b:n<10):Lib.itoa n=[UInt8.ofNat (48+n.toNat)]:=by unfold Lib.itoa;rw[g O,Lib.decDigits,dif_pos O]
def Ju{m:Int}(a:0<=n)(b:n<10)(c:0<=m)(d:m<10)(h:UInt8.ofNat (48+n.toNat)=UInt8.ofNat (48+m.toNat)):n=m:=by have:=aY UInt8.toNat h;rw[zN O,zN O]at this;omega
def dk:List Int->List UInt8
 |[]=>[]
 |d::l=>32::(Lib.decDigits d.toNat++dk l)
mutual
def pk:J->List UInt8
 |.mk l n a b=>91::(Lib.itoa l++((if l=0 then(if n then [45]else [])++dk a else [])++(g_ b++[93])))
def g_:List J->List UInt8
 |[]=>[]
 |c::r=>pk c++g_ r
end
theorem O9:∀{a b:ao}{r f:List UInt8},Dg a->Dg b->dk a++93::r=dk b++93::f->a=b/\r=f
 |[],[],r,f,_,_,h=>by rw[dk]at h;injection h with _ h;exact⟨rfl,h⟩
 |[],e::b,r,f,_,_,h=>by rw[dk,dk]at h;injection h with h _;exact absurd h ae
 |d::a,[],r,f,_,_,h=>by rw[dk,dk]at h;injection h with h _;exact absurd h ae
 |d::a,e::b,r,f,m,k,h=>by
  rw[dk,dk,ei,ei,gh,gh]at h;injection h with _ h
  have s:=m.cons.1;have q:=k.cons.1;rw[cg]at s q;have i:∀(l:ao)(r:List UInt8),∃c t,dk l++93::r=c::t/\vN c=false:=λl r=>by
   cases l with
   |nil=>exact⟨93,r,rfl,ae⟩
   |cons x l=>exact⟨32,_,by rw[dk,ei],ae⟩
  obtain⟨c,t,p,u⟩:=i a r;obtain⟨A,y,o,j⟩:=i b f;rw[p,o]at h;obtain⟨z,n⟩:=as7 u j h;rw[<-p,<-o]at n;obtain⟨w,v⟩:=O9 m.cons.2 k.cons.2 n;refine⟨?_,v⟩;rw[w];have:d=e:=O;rw[this]
def Lm(p:J):∃t,pk p=91::t:=by cases p;exact⟨_,by rw[pk]⟩
def Ll(n:Int):pk (kP n)=91::48::((if(iD n).neg then [45]else [])++(dk (iD n).aF++[93])):=by unfold kP;rw[pk,aK rfl,g_,xp ae ae,gi,gh];rfl
def Ln(a:1<=r)(b:r<=4):pk (.mk r false [] l)=91::UInt8.ofNat (48+r.toNat)::(g_ l++[93]):=by rw[pk,g O,xp O O];rfl
theorem ae0{L:Nat}:∀{a b:zJ0}{r f:List UInt8},(∀c∈a,∀(M:Nat)(q:J),br M q->M<=4->∀r f,pk c++r=pk q++f->c=q/\r=f)->(∀c∈b,∃M,br M c/\M<=4)->g_ a++93::r=g_ b++93::f->a=b/\r=f
 |[],[],r,f,_,_,h=>by rw[g_]at h;injection h with _ h;exact⟨rfl,h⟩
 |[],e::b,r,f,_,_,h=>by obtain⟨t,i⟩:=Lm e;rw[g_,g_,i]at h;injection h with h _;exact absurd h ae
 |d::a,[],r,f,_,_,h=>by obtain⟨t,i⟩:=Lm d;rw[g_,g_,i]at h;injection h with h _;exact absurd h ae
 |d::a,e::b,r,f,m,l,h=>by rw[g_,g_,gh,gh]at h;obtain⟨M,n,k⟩:=l e (bZ ..);obtain⟨u,s⟩:=m d (bZ ..) M e n k _ _ h;obtain⟨p,o⟩:=ae0 (L:=L) (λc j=>m c (cE _ j)) (λc j=>l c (cE _ j)) s;exact⟨by rw[u,p],o⟩
def aez(a:1<=n)(b:n<10):(48:UInt8)≠UInt8.ofNat (48+n.toNat):=λh=>by have:=aY UInt8.toNat h;rw[zN O]at this;have e:(48:UInt8).toNat=48:=rfl;omega
def GJ{L:Nat}(h:br L p):L<=4->∀(M:Nat)(q:J),br M q->M<=4->∀r r',pk p++r=pk q++r'->p=q/\r=r':=by
 induction h with
 |const n=>
  intro _ M q i k r r' a;cases i with
  |const m=>
   rw[Ll,Ll,ei,ei,ei,ei]at a;injection a with _ a
   injection a with _ a
   have d:(iD n).neg=(iD m).neg/\(iD n).aF=(iD m).aF/\r=r':=by
    have b:∀x:Int,∀r:List UInt8,(dk (iD x).aF++[93]++r)=dk (iD x).aF++93::r:=λx r=>by rw[gh];rfl
    cases f:(iD n).neg with
    |true=>
     cases e:(iD m).neg with
     |true=>
      rw[f,e]at a;simp only[oC,HW,ei]at a;injection a with _ a
      simp only[gi]at a;rw[b,b]at a;have:=O9 (fA n) (fA m) a;exact⟨rfl,this.1,this.2⟩
     |false=>
      rw[f,e]at a;simp only[oC,HW,ei,iN,mK,gi]at a;rw[b,b]at a;cases j:(iD m).aF with
      |nil=>rw[j,dk]at a;injection a with a _;exact absurd a ae
      |cons x l=>rw[j,dk]at a;injection a with a _;exact absurd a ae
    |false=>
     cases e:(iD m).neg with
     |true=>
      rw[f,e]at a;simp only[oC,HW,ei,iN,mK,gi]at a;rw[b,b]at a;cases j:(iD n).aF with
      |nil=>rw[j,dk]at a;injection a with a _;exact absurd a ae
      |cons x l=>rw[j,dk]at a;injection a with a _;exact absurd a ae
     |false=>rw[f,e]at a;simp only[iN,mK,gi]at a;rw[b,b]at a;have:=O9 (fA n) (fA m) a;exact⟨rfl,this.1,this.2⟩
   refine⟨?_,d.2.2⟩;unfold kP;rw[d.1,d.2.1]
  |node t u v w y z A=>
   rw[Ll,Ln O O,ei,ei,ei,ei]at a;injection a with _ a
   injection a with a _
   exact absurd a (aez O O)
 |node t u v w y z A B=>
  intro Q M q i k r r' a;cases i with
  |const m=>
   rw[Ll,Ln O O,ei,ei,ei,ei]at a;injection a with _ a
   injection a with a _
   exact absurd a.symm (aez O O)
  |node C D E G H o K=>
   rw[Ln O O,Ln O O,ei,ei,ei,ei]at a;injection a with _ a
   injection a with f a
   have e:=Ju O O O O f;rw[gh,gh]at a;obtain⟨N,P⟩:=ae0 (L:=0) (λc s M q i k r r' h=>B c s O M q i k r r' h) (λc s=>⟨_,o c s,O⟩) a;exact⟨by rw[e,N],P⟩
mutual
def mk':F->List UInt8
 |.mk k r p a=>40::(Lib.itoa k++((if k=2 then 32::(Lib.itoa r++pk p)else [])++(im a++[41])))
def im:List F->List UInt8
 |[]=>[]
 |c::r=>mk' c++im r
end
def KH(p:F):∃t,mk' p=40::t:=by cases p;exact⟨_,by rw[mk']⟩
def KE(a:R6 r):mk' (.mk 2 r p [])=40::50::32::UInt8.ofNat (48+r.toNat)::(pk p++[41]):=by unfold R6 at a;rw[mk',aK rfl,xp (n:=2) ae ae,xp O O,im,gi];simp only[ei,gi];rfl
def KJ(a:0<=r)(b:r<10)(c:r≠2):mk' (.mk r n p Z)=40::UInt8.ofNat (48+r.toNat)::(im Z++[41]):=by rw[mk',g c,xp a b];rfl
theorem adx{Q:J->Prop}:∀{a b:zF0}{r f:List UInt8},(∀c∈a,∀q:F,CM Q q->∀r f,mk' c++r=mk' q++f->c=q/\r=f)->(∀c∈b,CM Q c)->im a++41::r=im b++41::f->a=b/\r=f
 |[],[],r,f,_,_,h=>by rw[im]at h;injection h with _ h;exact⟨rfl,h⟩
 |[],e::b,r,f,_,_,h=>by obtain⟨t,i⟩:=KH e;rw[im,im,i]at h;injection h with h _;exact absurd h ae
 |d::a,[],r,f,_,_,h=>by obtain⟨t,i⟩:=KH d;rw[im,im,i]at h;injection h with h _;exact absurd h ae
 |d::a,e::b,r,f,l,k,h=>by rw[im,im,gh,gh]at h;obtain⟨p,o⟩:=l d (bZ ..) e (k e (bZ ..)) _ _ h;obtain⟨n,m⟩:=adx (Q:=Q) (λc j=>l c (cE _ j)) (λc j=>k c (cE _ j)) o;exact⟨by rw[p,n],m⟩
def adu(h:CM Q m):(∃r p,R6 r/\Q p/\m=.mk 2 r p [])\/∃k a,(k=0\/k=1\/k=3\/k=4)/\m=.mk k 0 zP a/\∀c∈a,CM Q c:=by
 cases h with
 |tt=>exact .inr ⟨1,[],O,rfl,λc b=>by simp at b⟩
 |ff=>exact .inr ⟨0,[],O,rfl,λc b=>by simp at b⟩
 |j_ r p d e=>exact .inl ⟨r,p,d,e,rfl⟩
 |node K a i f=>exact .inr ⟨K,a,O,rfl,f⟩
def QY(u:r=0\/r=1\/r=3\/r=4)(i:∀c∈Z,∀q:F,CM Q q->∀a r',mk' c++a=mk' q++r'->c=q/\a=r'):
 ∀d:F,CM Q d->∀a r',mk' (.mk r 0 zP Z)++a=mk' d++r'->.mk r 0 zP Z=d/\a=r':=by
 intro d j a r' b;rcases adu j with⟨v,w,f,l,rfl⟩|⟨x,m,n,rfl,h⟩
 ·rw[KE f,KJ O O O]at b;simp only[ei]at b;injection b with _ b
  injection b with b _
  have:=aY UInt8.toNat b;rw[zN O]at this;have e:(50:UInt8).toNat=50:=rfl;omega
 ·rw[KJ O O O,KJ O O O]at b;simp only[ei,gh,gi]at b;injection b with _ b
  injection b with o b
  have p:=Ju O O O O o;obtain⟨s,t⟩:=adx i h b;exact⟨by rw[p,s],t⟩
def ax_(l:∀p,Q p->br 4 p)(h:CM Q m):∀d:F,CM Q d->∀r r',mk' m++r=mk' d++r'->m=d/\r=r':=by
 induction h with
 |tt=>exact QY (.inr (.inl rfl)) λc f=>by simp at f
 |ff=>exact QY (.inl rfl) λc f=>by simp at f
 |node K z A B o=>exact QY O o
 |j_ C p i q=>
  intro d s r r' a;rcases adu s with⟨D,n,b,j,rfl⟩|⟨E,t,u,rfl,v⟩
  ·rw[KE i,KE b]at a;simp only[ei,gh,gi]at a;injection a with _ a
   injection a with _ a
   injection a with _ a
   injection a with w a
   unfold R6 at i b;have x:=Ju O O O O w;obtain⟨y,k⟩:=GJ (l p q) (bu _) 4 n (l n j) (bu _) _ _ a;injection k with _ k
   exact⟨by rw[x,y],k⟩
  ·rw[KE i,KJ O O O]at a;simp only[ei]at a;injection a with _ a
   injection a with a _
   have:=aY UInt8.toNat a;rw[zN O]at this;have e:(50:UInt8).toNat=50:=rfl;omega
def gl(t:bi):List UInt8:=Lib.itoa t.aM++(pk t.a++(pk t.b++(pk t.c++(pk t.d++mk' t.g))))
def c9(t:bi):ByteArray:=⟨(gl t).toArray⟩
def acz(t:bi):(c9 t).toList=gl t:=by unfold c9;rw[ByteArray.toList_eq]
def Gc{lv:Nat}(q:lv<=4):KI c9 i lv:=λt d c b a=>by
 rw[acz,acz]at a;unfold gl at a;have k1:=c.p.kd;have k2:=b.p.kd;rw[xp O O,xp O O,HW,HW]at a;injection a with n a
 have f:=Ju O O O O n;obtain⟨h,a⟩:=GJ c.p.tg.a.sz.bw (bu _) 4 _ b.p.tg.a.sz.bw (bu _) _ _ a;obtain⟨j,a⟩:=GJ c.p.tg.b.sz.bw (bu _) 4 _ b.p.tg.b.sz.bw (bu _) _ _ a;obtain⟨k,a⟩:=GJ c.p.tg.c.sz.bw (bu _) 4 _ b.p.tg.c.sz.bw (bu _) _ _ a;obtain⟨l,a⟩:=GJ c.p.tg.d.sz.bw (bu _) 4 _ b.p.tg.d.sz.bw (bu _) _ _ a;have e:mk' t.g++[]=mk' d.g++[]:=by rw[l4,l4];exact a
 obtain⟨m,_⟩:=ax_ (Q:=GA lv) (λp o=>o.sz.bw) c.p.g d.g b.p.g [] [] e;cases t;cases d;simp only at f h j k l m;subst f h j k l m;rfl
end Go.Proofs.YtfbmhjooliccnaaGreatDoor
namespace Go.Proofs.YtfbmhjooliccnaaGreatDoor
open Go Go.Shelf Go.RowKit Go.Lib Go.Sort Go.Proofs.Tryz
def SL:Go.Shelf.Ren:=⟨λn=>match n with|129=>292|283=>295|284=>296|285=>297|317=>304|318=>305|n=>n,λn=>match n with|46=>191|53=>138|212=>323|37=>228|51=>168|171=>312|n=>n,λn=>match n with|17=>1|n=>n⟩
theorem acJ:Lays.n283 prog SL where
 mixed:=af
 f283:=Tryz.func295.trans (aY some af)
 t3:=Tryz.underlying3
 a3:=Tryz.isAgg3
 z3:=Tryz.sizeOf3
 v3:=Tryz.zeroValue3
 t4:=Tryz.underlying4
 a4:=Tryz.isAgg4
 z4:=Tryz.sizeOf4
 v4:=Tryz.zeroValue4
 t9:=Tryz.underlying9
 a9:=Tryz.isAgg9
 z9:=Tryz.sizeOf9
 v9:=Tryz.zeroValue9
theorem axg:Lays.n285 prog SL where
 mixed:=af
 f285:=Tryz.func297.trans (aY some af)
 t0:=Tryz.underlying0
 a0:=Tryz.isAgg0
 z0:=Tryz.sizeOf0
 v0:=Tryz.zeroValue0
 t3:=Tryz.underlying3
 a3:=Tryz.isAgg3
 z3:=Tryz.sizeOf3
 v3:=Tryz.zeroValue3
 t4:=Tryz.underlying4
 a4:=Tryz.isAgg4
 z4:=Tryz.sizeOf4
 v4:=Tryz.zeroValue4
 t5:=Tryz.underlying5
 a5:=Tryz.isAgg5
 z5:=Tryz.sizeOf5
 v5:=Tryz.zeroValue5
 t9:=Tryz.underlying9
 a9:=Tryz.isAgg9
 z9:=Tryz.sizeOf9
 v9:=Tryz.zeroValue9
 t37:=Tryz.underlying228
 a37:=Tryz.isAgg228
 z37:=Tryz.sizeOf228
 v37:=Tryz.zeroValue228
 t51:=Tryz.underlying168
 a51:=Tryz.isAgg168
 z51:=Tryz.sizeOf168
 v51:=Tryz.zeroValue168
 t53:=Tryz.underlying138
 a53:=Tryz.isAgg138
 z53:=Tryz.sizeOf138
 v53:=Tryz.zeroValue138
theorem acI:LaysM.n284 prog SL where
 mixed:=af
 f129:=Tryz.func292.trans (aY some af)
 f284:=Tryz.func296.trans (aY some af)
 f317:=Tryz.func304.trans (aY some af)
 f318:=Tryz.func305.trans (aY some af)
 t0:=Tryz.underlying0
 a0:=Tryz.isAgg0
 z0:=Tryz.sizeOf0
 v0:=Tryz.zeroValue0
 t3:=Tryz.underlying3
 a3:=Tryz.isAgg3
 z3:=Tryz.sizeOf3
 v3:=Tryz.zeroValue3
 t4:=Tryz.underlying4
 a4:=Tryz.isAgg4
 z4:=Tryz.sizeOf4
 v4:=Tryz.zeroValue4
 t5:=Tryz.underlying5
 a5:=Tryz.isAgg5
 z5:=Tryz.sizeOf5
 v5:=Tryz.zeroValue5
 t9:=Tryz.underlying9
 a9:=Tryz.isAgg9
 z9:=Tryz.sizeOf9
 v9:=Tryz.zeroValue9
 t46:=Tryz.underlying191
 a46:=Tryz.isAgg191
 z46:=Tryz.sizeOf191
 v46:=Tryz.zeroValue191
 t53:=Tryz.underlying138
 a53:=Tryz.isAgg138
 z53:=Tryz.sizeOf138
 v53:=Tryz.zeroValue138
 t212:=Tryz.underlying323
 a212:=Tryz.isAgg323
 z212:=Tryz.sizeOf323
 v212:=Tryz.zeroValue323
 g17:=af
 i0:=af
 i3:=af
 i4:=af
 i5:=af
 i9:=af
 i46:=af
 i53:=af
 i212:=af
 m17:=af
end Go.Proofs.YtfbmhjooliccnaaGreatDoor
namespace Go.Proofs.YtfbmhjooliccnaaGreatDoor
open Go Go.Shelf Go.RowKit Go.Sort Go.Lib Go.Proofs.Tryz
def av7(w:World)(T:TypeId)(nd:Nat)(Y:nd<=24):Holds (λ(b:UInt8)=>Value.int .u8 (b.toNat:Int)) (w.alloc (.cells Lib.zeros24 T)) w.heap.size 0 (Array.replicate nd (0:UInt8)):=λj a=>by have c:j<nd:=an a;refine⟨?_,World.frozen?_alloc_new _ _ _ _⟩;rw[World.cell?_alloc_new,Lib.zeros24_at _ O,getElem!_pos _ j a];simp
def avg(w:World)(o:Obj)(c:Array UInt8)(k:Nat):∃os,(putRow (λ(b:UInt8)=>Value.int .u8 (b.toNat:Int)) (w.alloc o) w.heap.size 0 c).drewN k=grow (w.drewN k) os:=by rw[alloc_eq_grow];obtain⟨a,_,e⟩:=putRow_grow_new (λ(b:UInt8)=>Value.int .u8 (b.toNat:Int)) w #[o] w.heap.size 0 c (bu _);exact⟨a,by rw[e];rfl⟩
def aai:∀args w,(callFunc 295 args).run prog w=.ok (.enter 295 args) w:=enters_of func295 af rfl
def aaj:∀args w,(callFunc 296 args).run prog w=.ok (.enter 296 args) w:=enters_of func296 af rfl
def aak:∀args w,(callFunc 297 args).run prog w=.ok (.enter 297 args) w:=enters_of func297 af rfl
def avy(u:Nat)(a:u<18446744073709551616)(w:World)(i:Lib.TabIs prog w "internal/strconv.uint64pow10" .u64 Lib.pow10Tab):
 Calls prog 279 #[.int .u64 u,.int .i64 10] w λe m=>e=.returned (.string ⟨(Lib.decDigits u).toArray⟩)/\∃k os,m=grow (w.drewN k) os:=by
 have aai:=aai;have aaj:=aaj;have aak:=aak;by_cases Y:u<100
 ·go_enter func279,Tryz.ntmps279
  go_wp2_with (go_at_fn 295;refine(Any.internal_strconv_small acJ u Y _).mono ?_;rintro e m ⟨rfl,rfl⟩)
  go_ret
  exact⟨rfl,0,#[],by simp[World.drewN_zero]⟩
 ·have f:1<=u:=by omega
  have n:Lib.nDigits u<=20:=by have:=Lib.numDigits_eq u f a;split at this<;>omega
  have s:Lib.nDigits u<=24:=O;have l:Tryz.prog.arrayLen 312=24:=by simp[Program.arrayLen,Tryz.underlying312]
  have q:∀W,(Instr.sliceAt 312 (.pointer (some ⟨w.heap.size,0,none⟩)) none (some (.int .i64 (Lib.nDigits u:Int))) none).run prog W=.ok (.slice (some ⟨w.heap.size,0,none⟩) (Lib.nDigits u) 24) W:=λW=>by
   rw[run_sliceAt_array_h W 312 ⟨w.heap.size,0,none⟩ (by simp[Program.arrayLen,Program.elem,Tryz.underlying312]) .i64 (Lib.nDigits u:Int) O (by rw[l];omega)]
   go_simp
  have d:=av7 w 312 (Lib.nDigits u) O;have c:=Any.internal_strconv_formatBase10 axg w.heap.size 0 24 u (Array.replicate (Lib.nDigits u) 0) (w.alloc (.cells Lib.zeros24 312)) d (by rw[MO];exact Lib.lt_pow_nDigits u) a (by rw[MO];omega);rw[MO]at c;have HH0:=Lib.hid d;clear d l
  go_enter func279,Tryz.ntmps279
  go_wp2_with (first
   |(go_at_fn 296;refine(Any.internal_strconv_numDigits acI u f a _ (Lib.tabIs_alloc i _)).mono ?_;rintro e m ⟨rfl,rfl⟩))
  go_at_fn 297
  refine c.mono ?_;rintro e m ⟨rfl,k,v,dk,rfl,p⟩;have r:(convert 228 9 (.slice (some ⟨w.heap.size,0,none⟩) (Lib.nDigits u) 24)).run prog ((putRow (λ(b:UInt8)=>Value.int .u8 (b.toNat:Int)) (w.alloc (.cells Lib.zeros24 312)) w.heap.size 0 dk).drewN k)=.ok (.string ⟨(Lib.decDigits u).toArray⟩) ((putRow (λ(b:UInt8)=>Value.int .u8 (b.toNat:Int)) (w.alloc (.cells Lib.zeros24 312)) w.heap.size 0 dk).drewN k):=by
   have h:=run_convert_bytes_back (P:=prog) ((putRow (λ(b:UInt8)=>Value.int .u8 (b.toNat:Int)) (w.alloc (.cells Lib.zeros24 312)) w.heap.size 0 dk).drewN k) 228 9 5 ⟨w.heap.size,0,none⟩ 24 (Lib.decDigits u) Tryz.underlying228 Tryz.underlying5 Tryz.underlying9 (λj o=>by rw[Lib.row_is_numeral p j o,Lib.add_plain,World.cell?_drewN];exact cell?_putRow (λ(b:UInt8)=>Value.int .u8 (b.toNat:Int)) _ w.heap.size 0 _ dk HH0.out (by rw[p.size,MO]) j (by rw[p.size];rw[Lib.decDigits_length]at o;exact o))
   rw[Lib.decDigits_length]at h;exact h
  go_wp2
  go_ret
  obtain⟨os,t⟩:=avg w (.cells Lib.zeros24 312) dk k;exact⟨rfl,k,os,t⟩
end Go.Proofs.YtfbmhjooliccnaaGreatDoor
namespace Go.Proofs.YtfbmhjooliccnaaGreatDoor
open Go Go.Ab Go.Proofs.Tryz
variable {x d:Nat}{p:J}{m:F}{n:Int}{Q:J→Prop}{w:World}{o:Oper}
open Go.Sort in
theorem acx{mG:aq}(w:World)(k:Nat)(a:Array Obj):fL mG w (grow (w.drewN k) a):=
 ⟨rfl,rfl,rfl,Nat.le_add_right _ _,by simp[grow,World.drewN],λb c _=>heap_grow_old (w.drewN k) a c,λb cells t h=>⟨cells,(heap_grow_old (w.drewN k) a (jA h)).trans h,rfl⟩⟩
def afs{f:FuncId}(x:fh prog f){args:zS0}{vs:av}{v:Value}(y:v.oneCell'=true)(z:args.map SE.den=vs.map λv=>.c (.d (.sc v)))
 (h:∀w:World,Lib.TabIs prog w "internal/strconv.uint64pow10" .u64 Lib.pow10Tab->Calls prog f vs.toArray w λe o=>e=.returned v/\∃k l,o=Go.Sort.grow (w.drewN k) l):li prog f (args.map SE.den) (ST.e (U:=S) (.c (.d (.sc v)))).den:=by
 refine⟨x,λM p w j q m=>?_⟩;have n:Lib.TabIs prog w "internal/strconv.uint64pow10" .u64 Lib.pow10Tab:=by obtain⟨_,t,r,A⟩:=q.iU;unfold Lib.TabIs World.var?;rw[acI.m17];show(match w.heap[1]? with|some (.cells B _ _)=>some B|_=>none)=_;rw[A];rfl
 have e:j=vs:=by
  rw[z]at m;refine ug λi=>?_
  obtain⟨C,D⟩:=m;rw[dS]at C;by_cases u:i<vs.length
  ·have a:=D i (.c (.d (.sc vs[i]))) (j[i]' O) (by rw[dU,ca u];rfl) (ca O);rw[ca O,ca u];congr 1;exact gK (show b6 w M p (.e (.c (.d (.sc vs[i])))) _ from a)
  ·rw[gp O,gp O]
 subst e;refine(h w n).mono ?_;rintro e o ⟨rfl,k,l,rfl⟩;have E:fL q_ w (Go.Sort.grow (w.drewN k) l):=acx w k l;exact⟨v,p,rfl,q.F_ E,dE.sc _ y,acx w k l,λs b Y=>.inl ⟨s,Y⟩,λ_ h=>h.elim⟩
def iH(n:Int):ByteArray:=⟨(Lib.decDigits n.toNat).toArray⟩
def sT(s:aA):ST S:=.e (.c (.d (.sc (.string s))))
def awo(n:Int)(h:0<=n/\n<100):bh 295 [wI .i64 n] (sT (iH n)):=by
 obtain⟨i,rfl⟩:∃i:Nat,n=i:=⟨n.toNat,O⟩;refine afs (args:=[wI .i64 (i:Int)]) (vs:=[.int .i64 i]) (fH func295 af rfl) rfl rfl λw _=>?_
 refine(Any.internal_strconv_small acJ i O w).mono ?_;rintro e a ⟨rfl,rfl⟩;exact⟨by unfold iH;rw[bI],0,#[],by simp[World.drewN_zero]⟩
def ash:=dR (.int .i64) awo
def avz(n b:Int)(h:0<=n/\n<18446744073709551616/\b=10):bh 279 [wI .u64 n,wI .i64 b] (sT (iH n)):=by
 obtain⟨i,f,rfl⟩:=h;obtain⟨u,rfl⟩:∃u:Nat,n=u:=⟨n.toNat,O⟩;refine afs (args:=[wI .u64 (u:Int),wI .i64 (10:Int)]) (vs:=[.int .u64 u,.int .i64 10]) (fH func279 af rfl) rfl rfl λw c=>?_
 refine(avy u O w c).mono ?_;rintro e d ⟨rfl,k,a,rfl⟩;exact⟨by unfold iH;rw[bI],k,a,rfl⟩
def asb:=eO (.int .u64) (.int .i64) avz
def au7(n b:Int)(h:0<=n/\n<100/\b=10):bh 278 [wI .i64 n,wI .i64 b] (sT (iH n)):=by
 refine vF func278 rfl [ash] [] ?_;repeat' first|intro _|apply aP
 all_goals first|exact aZ|with_reducible rfl|exfalso;obtain⟨d,c,a⟩:=h;simp only[Hw,be,bj,jw,lN,jC]at*;omega|exact h.1|exact h.2.1
def ar_:=eO (.int .i64) (.int .i64) au7
def awn(n:Int)(h:0<=n/\n<100):bh 249 [wI .i64 n] (sT (iH n)):=by
 refine vF func249 rfl [ar_] [] ?_;repeat' first|intro _|apply aP
 all_goals first|exact aZ|with_reducible rfl|exact h.1|exact h.2
def asg:=dR (.int .i64) awn
def awp(n:Int)(h:0<=n/\n<100):bh 203 [wI .i64 n] (sT (iH n)):=by
 refine vF func203 rfl [asg] [] ?_;repeat' first|intro _|apply aP
 all_goals first|exact aZ|with_reducible rfl|exact h.1|exact h.2
def OO:=dR (.int .i64) awp
def avA(n b:Int)(h:0<=n/\n<18446744073709551616/\b=10):bh 251 [wI .u64 n,wI .i64 b] (sT (iH n)):=by
 refine vF func251 rfl [asb] [] ?_;repeat' first|intro _|apply aP
 all_goals first|exact aZ|with_reducible rfl|exact h.1|exact h.2.1|exact h.2.2
def asc:=eO (.int .u64) (.int .i64) avA
def HB(b:Nat)(a:ao):List (Nat×aV S):=[(0,.cells [.ptr 0 0,.ty b 5 (.inr a.length)]),(b,.aU W.u8 a)]
def HN:List (Nat×aV S):=[(0,.cells [.d (.sc (.pointer Option.none)),.d (.sc (.slice Option.none 0 0))])]
def jx(s:aA):List Int:=s.data.toList.map λx=>(x.toNat:Int)
def Aq(s:aA):(jx s).length=s.size:=by unfold jx;rw[dS];rfl
def Yi(s:aA):(bx (U:=S) W.u8 (jx s)).map Ab.V.d=s9 s:=by
 unfold jx s9 bx;generalize s.data.toList=l
 induction l with
 |nil=>rfl
 |cons a r b=>simp only[dc,Af,gB]at b⊢;rw[b];rfl
def afr:NA prog 227:=by obtain⟨j,a⟩:=Nt.1 (show(Tryz.prog.info? 230).isSome=true by kernel_rfl);exact⟨230,j,af,a⟩
def auA:M2 prog 277:=⟨Tryz.f277,func277,af,af,af,af⟩
def ab2:∃j,Tryz.prog.info? 230=some j/\j.size≠0:=by
 have h:(match Tryz.prog.info? 230 with|some j=>decide (j.size≠0)|Option.none=>false)=true:=af;split at h
 ·rename_i j a;exact⟨j,a,eD h⟩
 ·cases h
def cvA:Hz prog 227 298 230 2:=by obtain⟨j,a,Y⟩:=ab2;exact⟨j,a,.inl ⟨af,af,Y,O⟩⟩
def cvB:Hz prog 298 227 230 2:=by obtain⟨j,a,Y⟩:=ab2;exact⟨j,a,.inr ⟨af,af,af⟩⟩
def arQ(a:ao):cN prog 248 (bJ (bP (HB 1 a))) (([.c (.ptr 0 0)]:zS0).map SE.den) (bJ (bP (HB 1 a))) (·∈[0,1]) (ST.cn (U:=S) []).den:=by
 refine vO func248 rfl ⟨[],[]⟩ [] [0,1] ⟨[],HB 1 a,2⟩ ?_;repeat' first|intro _|apply aP
 all_goals first|exact aZ|with_reducible rfl|exact afr
def arO:cN prog 248 (bJ (bP HN)) (([.c (.ty 0 230 (.inl 2))]:zS0).map SE.den) (bJ (bP (U:=S) [(0,.cells [.ptr 0 0,.d (.sc (.slice Option.none 0 0))])])) (·∈[0]) (ST.cn (U:=S) []).den:=by
 refine vO func248 rfl ⟨[],[]⟩ [] [0] ⟨[],[(0,.cells [.ptr 0 0,.d (.sc (.slice Option.none 0 0))])],1⟩ ?_;repeat' first|intro _|apply aP
 all_goals first|exact aZ|exact afr|exact auA|exact cvA|exact cvB
def aue:fh prog 248:=fH func248 af rfl
def agO(H:List (Nat×aV S))(args:zS0)(K:f_ S->Prop):Prop:=
 match H,args with
 |[(0,.cells [.ptr 0 0,.ty 1 5 (.inr n)]),(1,.aU W.u8 a)],[.c (.ptr 0 0)]=>n=a.length/\K ⟨.cn [],HB 1 a,[],[]⟩
 |[(0,.cells [.d (.sc (.pointer Option.none)),.d (.sc (.slice Option.none 0 0))])],[.c (.ty 0 230 (.inl 2))]=>K ⟨.cn [],[(0,.cells [.ptr 0 0,.d (.sc (.slice Option.none 0 0))])],[],[0]⟩
 |_,_=>False
def Rn:fk prog S where
 f:=248
 fX:=aue
 run:=agO
 ok H args K h:=by
  unfold agO at h;split at h
  ·rename_i n d;obtain⟨rfl,c⟩:=h;refine⟨_,?_,λu a b=>rfl,c⟩;exact(arQ d).fK λu a=>by have:u<2:=a.1;simp;omega
  ·refine⟨_,?_,λu a b=>?_,h⟩
   ·exact arO.fK λu a=>by have:u<1:=a.1;simp;omega
   ·have:u<1:=a;simp at b;omega
  ·cases h
noncomputable def IB:Code:=(Tryz.f202.body).getD .skip
noncomputable def IC:Code:=(Tryz.f250.body).getD .skip
def wk0:Code:=kq IB
def wk1:Code:=kq (fJ IB)
def Hq:Array Oper:=Bo (kq (fJ (fJ IB)))
def wk3:Code:=kq (fJ (fJ (fJ IB)))
def wL1:List Oper:=Hq.toList.take 6
def wA:Oper:=Hq[6]!
def wL2:List Oper:=Hq.toList.drop 7
def vk0:Code:=kq IC
def vk1:Code:=kq (fJ IC)
def Hj:Array Oper:=Bo (kq (fJ (fJ IC)))
def vk3:Code:=kq (fJ (fJ (fJ IC)))
def vL1:List Oper:=Hj.toList.take 7
def Mw:Oper:=Hj[7]!
def vL2:List Oper:=Hj.toList.drop 8
def XT:Tryz.f202.body=some (.seq wk0 (.seq wk1 (.seq (.region 2 Hq false) (.seq wk3 .ret)))):=af
def ao1:Tryz.f250.body=some (.seq vk0 (.seq vk1 (.seq (.region 2 Hj false) (.seq vk3 .ret)))):=af
def ajw:Hq.toList=wL1++wA::wL2:=af
def aGJ:Hj.toList=vL1++Mw::vL2:=af
def aju:wA.guard=Option.none:=af
def aGB:Mw.guard=Option.none:=af
def ajv:wA.op=.call { callee:=.builtin .append,args:=#[.tmp 12,.tmp 13],argTypes:=#[228,9]}:=af
def aGC:Mw.op=.call { callee:=.builtin .append,args:=#[.tmp 11,.tmp 13],argTypes:=#[228,228]}:=af
def ajt:wA.dst=some 14:=af
def aGA:Mw.dst=some 14:=af
def ts9:rB prog 9=true:=af
def TU:jF prog 228=some 5:=af
def Uj:fb prog 5=some 1:=af
def TQ:oc prog 5=some 1:=af
def Uf:jZ prog 5=some [.d (.sc (.int .u8 0))]:=af
def Iw:ST S:=.cn [.c .any,.c .any]
def aHs(a:ao)(s:aA)(h:a.length+s.size<=140737488355328):cN prog 202 (bJ (bP (HB 1 a))) (([.c (.ptr 0 0),.c (.d (.sc (.string s)))]:zS0).map SE.den) (bJ (bP (HB 2 (a++jx s)))) (·∈[0]) Iw.den:=by
 refine LU (V:=Vw) (aN:=[0]) (τ:=⟨[(4,.e (.c .any)),(5,.e (.c .any))],HB 2 (a++jx s),3⟩) func202 XT af (ic rfl) rfl rfl rfl rfl (λ_ _ h=>h) (Qa (reg:=⟨[],[Rn]⟩) mixed ajw aju ?_);repeat' first|intro _|apply aP|refine @aX (SS S) _ _ (aP (aok Vw W.u8 a (jx s) (sb:=s) ajv ajt ts9 TU Uj TQ Uf rfl rfl rfl rfl (Yi s) rfl h ae (ic rfl)) ?_)
 all_goals first|exact aZ|with_reducible rfl|rw[c_,Aq];done
def aHi(a:ao)(x:Int)(h:a.length+1<=140737488355328):cN prog 250 (bJ (bP (HB 1 a))) (([.c (.ptr 0 0),.c (.d (.sc (.int .u8 x)))]:zS0).map SE.den) (bJ (bP (HB 2 (a++[x])))) (·∈[0]) (ST.e (U:=S) (.c .any)).den:=by
 refine LU (V:=Vw) (aN:=[0]) (τ:=⟨[(4,.e (.c .any))],HB 2 (a++[x]),3⟩) func250 ao1 af (ic rfl) rfl rfl rfl rfl (λ_ _ h=>h) (Qa (reg:=⟨[],[Rn]⟩) mixed aGJ aGB ?_);repeat' first|intro _|apply aP|refine @aX (SS S) _ _ (aP (aoi Vw W.u8 a [x] aGC aGA TU Uj TQ Uf rfl rfl rfl rfl rfl h ae (ic rfl)) ?_)
 all_goals first|exact aZ|with_reducible rfl|rw[c_];done
def aoj{σ:SS S}{n:Nat}{aN:au}{c:Nat}{s:aA}(k:o.op=.call { callee:=.builtin .append,args:=#[.tmp 12,.tmp 13],argTypes:=#[228,9]})(b:o.dst=some d)(l:σ.ev (.tmp 12)=.e (.c (.d (.sc (.slice Option.none 0 0)))))(m:σ.ev (.tmp 13)=.e (.c (.d (.sc (.string s)))))(p:s.size≠0)
 (f:s.size<=140737488355328)(q:bX σ.heap c=Option.none)(h:¬c∈aN)(r:d<n):eX prog n (·∈aN) o σ.st (⟨(d,.e (.c (.ty c 5 (.inr s.size))))::σ.aT,(c,.aU W.u8 (jx s))::σ.heap,σ.bV+1⟩:SS S).st:=by
 have a:=eX.aom (P:=prog) (n:=n) (aS:=(·∈aN)) (σ:=σ.st) (.tmp 12) (.tmp 13) 228 9 ts9 s k (s9 s) s.size rfl rfl (by rw[c8,l];rfl) (by rw[c8,m];rfl) p 5 1 _ TU Uj TQ Uf rfl O f c (by rw[fZ,q];rfl) h (λj i=>by rw[b]at i;injection i with i;omega);refine cast (aY (eX prog n (·∈aN) o σ.st) ?_) a;rw[b];unfold SS.st;congr 1;funext u;show(if u=c then some (s9 s)else _)=if u=c then some ((bx (U:=S) W.u8 (jx s)).map Ab.V.d)else _;rw[Yi];rfl
def aHo(s:aA)(h:s.size<=140737488355328)(a:s.size≠0):cN prog 202 (bJ (bP HN)) (([.c (.ty 0 230 (.inl 2)),.c (.d (.sc (.string s)))]:zS0).map SE.den) (bJ (bP (HB 1 (jx s)))) (·∈[0]) Iw.den:=by
 refine LU (V:=Vw) (aN:=[0]) (τ:=⟨[(4,.e (.c .any)),(5,.e (.c .any))],HB 1 (jx s),2⟩) func202 XT af (ic rfl) rfl rfl rfl rfl (λ_ _ h=>h) (Qa (reg:=⟨[],[Rn]⟩) mixed ajw aju ?_);repeat' first|intro _|apply aP|refine @aX (SS S) _ _ (aP (aoj (c:=1) ajv ajt rfl rfl a h rfl ae (ic rfl)) ?_)
 all_goals first|exact aZ|with_reducible rfl|rw[Aq];done
def atZ:fh prog 202:=fH func202 af rfl
def auf:fh prog 250:=fH func250 af rfl
def gY:Nat:=140737488355328
def ahe(H:List (Nat×aV S))(args:zS0)(K:f_ S->Prop):Prop:=
 match H,args with
 |[(0,.cells [.ptr 0 0,.ty 1 5 (.inr n)]),(1,.aU W.u8 a)],[.c (.ptr 0 0),.c (.d (.sc (.string s)))]=>(n=a.length/\a.length+s.size<=gY)/\K ⟨Iw,HB 2 (a++jx s),[1],[0,1]⟩
 |[(0,.cells [.d (.sc (.pointer Option.none)),.d (.sc (.slice Option.none 0 0))])],[.c (.ty 0 230 (.inl 2)),.c (.d (.sc (.string s)))]=>(s.size<=gY/\s.size≠0)/\K ⟨Iw,HB 1 (jx s),[],[0]⟩
 |_,_=>False
def Rs:fk prog S where
 f:=202
 fX:=atZ
 run:=ahe
 ok H args K h:=by
  unfold ahe at h;split at h
  ·rename_i n j s;obtain⟨⟨rfl,d⟩,c⟩:=h;refine⟨_,?_,λu a b=>?_,c⟩
   ·exact(aHs j s d).fK λu a=>by have k:u<2:=a.1;have e:=a.2;simp at e⊢;omega
   ·have:u<2:=a;simp at b;omega
  ·rename_i s;obtain⟨⟨d,i⟩,c⟩:=h;refine⟨_,?_,λu a b=>?_,c⟩
   ·exact(aHo s d i).fK λu a=>by have:u<1:=a.1;simp;omega
   ·have:u<1:=a;simp at b;omega
  ·cases h
def ahd(H:List (Nat×aV S))(args:zS0)(K:f_ S->Prop):Prop:=
 match H,args with
 |[(0,.cells [.ptr 0 0,.ty 1 5 (.inr n)]),(1,.aU W.u8 a)],[.c (.ptr 0 0),.c (.d (.sc (.int .u8 x)))]=>(n=a.length/\a.length+1<=gY)/\K ⟨.e (.c .any),HB 2 (a++[x]),[1],[0,1]⟩
 |_,_=>False
def aex:fk prog S where
 f:=250
 fX:=auf
 run:=ahd
 ok H args K h:=by
  unfold ahd at h;split at h
  ·rename_i n i x;obtain⟨⟨rfl,e⟩,d⟩:=h;refine⟨_,?_,λu a b=>?_,d⟩
   ·exact(aHi i x e).fK λu a=>by have j:u<2:=a.1;have c:=a.2;simp at c⊢;omega
   ·have:u<2:=a;simp at b;omega
  ·cases h
def jQ(l:List UInt8):List Int:=l.map λx=>(x.toNat:Int)
def ai6(a b:List UInt8):jQ (a++b)=jQ a++jQ b:=gB
def sL(a:List UInt8):(jQ a).length=a.length:=dS _
def uq(h:0<=n):jx (iH n)=jQ (Lib.itoa n):=by unfold jx iH jQ Lib.itoa;rw[g O]
theorem O8:∀a b:List Int,dk (a++b)=dk a++dk b
 |[],b=>by rw[gi,dk,gi]
 |d::a,b=>by rw[ei,dk,dk,O8 a b,ei,gh]
theorem GK:∀a b:List J,g_ (a++b)=g_ a++g_ b
 |[],b=>by rw[gi,g_,gi]
 |c::a,b=>by rw[ei,g_,g_,GK a b,gh]
inductive KP:J->Prop where
 |mk (l:Int) (n:Bool) (a:ao) (cs:zJ0) (h0:0<=l) (h1:l<100) (hd:Dg a) (hc:∀c∈cs,KP c):KP (.mk l n a cs)
def KP.lv{p:J}(h:KP p):0<=p.aJ/\p.aJ<100:=by cases h;exact⟨I,I⟩
def KP.dg{p:J}(h:KP p):Dg p.aF:=by cases h;assumption
def KP.bz{p:J}(h:KP p):∀c∈p.aG,KP c:=by cases h;assumption
def br.kp{p:J}(h:br x p):x<=4->KP p:=by
 induction h with
 |const n=>intro _;exact .mk _ _ _ _ O O (fA n) (λc a=>by simp at a)
 |node f i j k l m o b=>intro hl;exact .mk _ _ _ _ O O (λd e=>by simp at e) (λc a=>b c a O)
def zr(p:J)(x:Nat):List UInt8:=91::(Lib.itoa p.aJ++((if p.neg then [45]else [])++dk (p.aF.take x)))
def sB(p:J)(x:Nat):List UInt8:=91::(Lib.itoa p.aJ++((if p.aJ=0 then(if p.neg then [45]else [])++dk p.aF else [])++g_ (p.aG.take x)))
@[irreducible] def pQ(p:J)(bs:ao)(x:Nat):List Int:=bs++jQ (zr p x)
@[irreducible] def oU(p:J)(bs:ao)(x:Nat):List Int:=bs++jQ (sB p x)
@[irreducible] def qz(p:J)(bs:ao):List Int:=bs++jQ (pk p)
def Eg(p:J)(bs:ao):(qz p bs).length=bs.length+(pk p).length:=by unfold qz;rw[c_,sL]
def aeY(p:J):pk p=sB p p.aG.length++[93]:=by
 cases p with
 |mk l n a b=>rw[pk];unfold sB;simp only[J.aJ,J.neg,J.aF,J.aG,i_,ei,gh];rfl
def Dq(p:J)(h:x<=p.aG.length):(sB p x).length+1<=(pk p).length:=by
 rw[aeY];unfold sB;have e:p.aG=p.aG.take x++p.aG.drop x:=(om x _).symm;have a:(g_ p.aG).length=(g_ (p.aG.take x)).length+(g_ (p.aG.drop x)).length:=by rw[<-c_,<-GK,<-e]
 simp only[i_,c_,fD,rP];omega
def aeW{p:J}(a:p.aJ=0)(h:x<=p.aF.length):(zr p x).length<=(sB p 0).length:=by
 unfold zr sB;have e:p.aF=p.aF.take x++p.aF.drop x:=(om x _).symm;have b:(dk p.aF).length=(dk (p.aF.take x)).length+(dk (p.aF.drop x)).length:=by rw[<-c_,<-O8,<-e]
 rw[aK a];simp only[c_,fD];omega
section
variable {p:J}{bs:ao}
def V9(h:KP p)(a:p.neg=true):bs++[91]++jx (iH p.aJ)++[45]=pQ p bs 0:=by rw[uq h.lv.1];unfold pQ zr;rw[a,iC,dk];simp[jQ]
def V_(h:KP p)(a:p.neg=false):bs++[91]++jx (iH p.aJ)=pQ p bs 0:=by rw[uq h.lv.1];unfold pQ zr;rw[a,iC,dk];simp[jQ]
def Nf(h:KP p){d:Int}(b:p.aF[(x:Int).toNat]?=some d):pQ p bs x++[32]++jx (iH (IntKind.u64.wrap d))=pQ p bs (x+1):=by
 rw[bI]at b;have a:=h.dg d (bF b);unfold bY at a;have e:IntKind.u64.wrap d=d:=by rw[IntKind.wrap_u64];omega
 rw[e];have c:jx (iH d)=jQ (Lib.decDigits d.toNat):=rfl;rw[c];unfold pQ zr;rw[h_,b,Ak,O8,dk,dk];simp[jQ]
def ale(h:KP p)(a:p.aJ=0):pQ p bs p.aF.length=oU p bs 0:=by unfold pQ oU zr sB;rw[aK a,i_,iC,g_,l4]
def V7(h:KP p)(a:p.aJ≠0):bs++[91]++jx (iH p.aJ)=oU p bs 0:=by rw[uq h.lv.1];unfold oU sB;rw[g a,iC,g_];simp[jQ]
def Nd{c:J}(a:p.aG[(x:Int).toNat]?=some c):qz c (oU p bs x)=oU p bs (x+1):=by rw[bI]at a;unfold qz oU sB;rw[h_,a,Ak,GK,g_,g_];simp[jQ]
def ali:oU p bs p.aG.length++[93]=qz p bs:=by unfold oU qz;rw[aeY,ai6];simp[jQ]
theorem Z_:∀a:List Int,a.length<=(dk a).length
 |[]=>dD _
 |d::a=>by have:=Z_ a;rw[dk];simp only[fD,c_];omega
theorem aeZ:∀a:List J,a.length<=(g_ a).length
 |[]=>dD _
 |c::a=>by
  have:=aeZ a;have Z:1<=(pk c).length:=by obtain⟨t,b⟩:=Lm c;rw[b];simp
  rw[g_];simp only[fD,c_];omega
def V5(h:KP p)(b:p.aJ=0)(c:x<=p.aF.length)(a:decide ((x:Int)<p.aF.length)=false):pQ p bs x=oU p bs 0:=by have a:=fg a;obtain rfl:x=p.aF.length:=O;exact ale h b
def Wa(b:x<=p.aG.length)(a:decide ((x:Int)<p.aG.length)=false):oU p bs x++[93]=qz p bs:=by have a:=fg a;obtain rfl:x=p.aG.length:=O;exact ali
def zi{n:Nat}(h:decide ((x:Int)<(n:Int))=true):x<n:=by have:=eD h;omega
variable (hl:bs.length+(pk p).length≤gY)
include hl
theorem V6(h:x<=p.aG.length):(oU p bs x).length+1<=gY:=by unfold oU;rw[c_,sL];have:=Dq p h;omega
theorem V8(a:p.aJ=0)(h:x<=p.aF.length):(pQ p bs x).length+1<=gY:=by unfold pQ;rw[c_,sL];have:=Dq p (dD p.aG.length);have:=aeW a h;omega
def alh(h:KP p)(a:p.aJ=0){x:Nat}(c:x<p.aF.length)(b:p.aF[(x:Int).toNat]?=some n):(pQ p bs x++[32]).length+(iH (IntKind.u64.wrap n)).size<=gY:=by have e:=aY List.length (Nf (bs:=bs) h b);rw[c_,Aq]at e;have:=V8 hl a (x:=x+1) O;omega
theorem ald(b:decide ((x:Int)<p.aG.length)=true):(x:Int)+1<=9223372036854775807:=by have:=Dq p (bu p.aG.length);have a:=aeZ p.aG;have:=zi b;unfold sB at*;rw[i_]at*;simp only[c_,fD,gY]at*;omega
theorem alg(b:p.aJ=0)(c:decide ((x:Int)<p.aF.length)=true):(x:Int)+1<=9223372036854775807:=by have:=Dq p (dD p.aG.length);have:=aeW b (bu p.aF.length);have a:=Z_ p.aF;have:=zi c;unfold zr at*;rw[i_]at*;simp only[c_,fD,gY]at*;omega
theorem alk:bs.length+1<=gY:=by
 have:1<=(pk p).length:=by obtain⟨t,a⟩:=Lm p;rw[a];simp
 omega
theorem alm(h:KP p):(bs++[91]).length+(iH p.aJ).size<=gY:=by
 have e:(iH p.aJ).size=(Lib.itoa p.aJ).length:=by have:=aY List.length (uq h.lv.1);rw[Aq,sL]at this;exact this
 have:=Dq p (dD p.aG.length);unfold sB at this;simp only[c_,fD,rP]at this⊢;omega
theorem aln(h:KP p):(bs++[91]++jx (iH p.aJ)).length+1<=gY:=by have e:=aY List.length (uq h.lv.1);have:=Dq p (dD p.aG.length);rw[sL]at e;unfold sB at this;simp only[c_,fD,rP]at this⊢;omega
def alf{x:Nat}{c:J}(b:x<p.aG.length)(a:p.aG[(x:Int).toNat]?=some c):(oU p bs x).length+(pk c).length<=gY:=by have e:=aY List.length (Nd (bs:=bs) a);rw[Eg]at e;have:=V6 hl (x:=x+1) O;omega
end
def at2:fh prog 204:=fH func204 af rfl
def Ii(p:J)(a:ao):Prop:=cN prog 204 (bJ (bP (HB 1 a))) (([.c (.ptr 0 0),wE .aH p]:zS0).map SE.den) (bJ (bP (HB 2 (qz p a)))) (·∈[0]) (ST.cn (U:=S) []).den
def ag3(G:J->List Int->Prop)(H:List (Nat×aV S))(args:zS0)(K:f_ S->Prop):Prop:=
 match H,args with
 |[(0,.cells [.ptr 0 0,.ty 1 5 (.inr n)]),(1,.aU W.u8 b)],[.c (.ptr 0 0),.agg [.d (.sc (.int .i64 l)),.d (.b8 e),.d (.bf W.u32 a),.d (.bf W.aH f)]]=>(n=b.length/\G (.mk l e a f) b)/\K ⟨.cn [],HB 2 (qz (.mk l e a f) b),[1],[0,1]⟩
 |_,_=>False
def Rq(G:J->List Int->Prop)(e:∀p c,G p c->Ii p c):fk prog S where
 f:=204
 fX:=at2
 run:=ag3 G
 ok H args K h:=by
  unfold ag3 at h;split at h
  ·rename_i n c l m a q;obtain⟨⟨rfl,k⟩,j⟩:=h;refine⟨_,?_,λu b d=>?_,j⟩
   ·exact cN.fK (e _ _ k) λu b=>by have o:u<2:=b.1;have i:=b.2;simp at i⊢;omega
   ·have:u<2:=b;simp at d;omega
  ·cases h
def aeX(p:J)(bs:ao):KP p->bs.length+(pk p).length<=gY->Ii p bs:=by
 generalize i:SizeOf.sizeOf p=D
 induction D using Nat.strongRecOn generalizing p bs
 rename_i D d;subst i;intro h b;have f:∀(c:J)(s:ao),(c∈p.aG/\s.length+(pk c).length<=gY)->Ii c s:=λc s e=>d _ (J.lt e.1) c s rfl (h.bz c e.1) e.2
 clear d
 rename _=>d
 unfold Ii;refine vO func204 rfl ⟨[OO,asc],[aex,Rs,Rq (λc s=>c∈p.aG/\s.length+(pk c).length<=gY) d]⟩ [(7,⟨Nat,λx=>⟨[(0,bQ 0),(3,bQ 1),(25,lT .u32 p.aF),(26,iT p.aF.length),(27,iT x)],[(0,.cells [.ptr 0 0,.ty 2 5 (.inr (pQ p bs x).length)]),(1,dh .aH p),(2,.aU (U:=S) W.u8 (pQ p bs x))],3⟩,λx=>(x<=p.aF.length/\p.aJ=0)/\True,λx=>p.aF.length-x⟩),(13,⟨Nat,λx=>⟨[(0,bQ 0),(40,lT .aH p.aG),(41,iT p.aG.length),(42,iT x)],[(0,.cells [.ptr 0 0,.ty 2 5 (.inr (oU p bs x).length)]),(2,.aU (U:=S) W.u8 (oU p bs x))],3⟩,λx=>x<=p.aG.length/\True,λx=>p.aG.length-x⟩)] [0] ⟨[],HB 2 (qz p bs),3⟩ ?_;repeat' (first
  |((with_reducible show mt _ _ _ _ _);(conv=>whnf);(fail_if_success with_reducible show mt _ _ _ _ _))
  |intro _|apply aP
  |refine @aX Nat _ 0 (aP ?_ λ(x:Nat) (a:(x<=p.aF.length/\p.aJ=0)/\True)=>?_)
  |refine @aX Nat _ 0 (aP ?_ λ(x:Nat)(a:x<=p.aG.length/\True)=>?_)
  |refine @aX Nat _ (x+1) ?_
  |fail)
 all_goals(try clear d)
 all_goals(try simp only[bm,jw,lN,jC]at*)
 all_goals first|exact aZ|with_reducible assumption|omega| (with_reducible first|exact alk b|exact h.lv.1|exact h.lv.2|exact alm b h|exact aln b h|exact V9 h I|exact aY (λl:List Int=>(Sum.inr l.length:Nat ⊕ Nat)) (V9 h I)|exact V_ h I|exact aY (λl:List Int=>(Sum.inr l.length:Nat ⊕ Nat)) (V_ h I)|exact V8 b a.1.2 a.1.1)|rw[IntKind.wrap_u64];omega| (with_reducible first|exact alh b h a.1.2 (zi I) I|exact Nf h I|exact aY (λl:List Int=>(Sum.inr l.length:Nat ⊕ Nat)) (Nf h I)|exact alg b a.1.2 I|exact ald b I|exact V5 h a.1.2 a.1.1 I|exact aY (λl:List Int=>(Sum.inr l.length:Nat ⊕ Nat)) (V5 h a.1.2 a.1.1 I)|exact V7 h I|exact aY (λl:List Int=>(Sum.inr l.length:Nat ⊕ Nat)) (V7 h I)|exact bF I|exact alf b (zi I) I|exact Nd I|exact aY (λl:List Int=>(Sum.inr l.length:Nat ⊕ Nat)) (Nd I)|exact V6 b a.1|exact Wa a.1 I|exact aY (λl:List Int=>(Sum.inr l.length:Nat ⊕ Nat)) (Wa a.1 I))|have Z:=zi I;omega
theorem QZ:∀a b:List F,im (a++b)=im a++im b
 |[],b=>by rw[gi,im,gi]
 |c::a,b=>by rw[ei,im,im,QZ a b,gh]
theorem adw:∀a:List F,a.length<=(im a).length
 |[]=>dD _
 |c::a=>by
  have:=adw a;have Z:1<=(mk' c).length:=by obtain⟨t,b⟩:=KH c;rw[b];simp
  rw[im];simp only[fD,c_];omega
inductive KM:F->Prop where
 |mk (k r:Int) (p:J) (ks:zF0) (h0:0<=k) (h1:k<100) (hr:0<=r/\r<100) (hp:KP p) (hc:∀c∈ks,KM c):KM (.mk k r p ks)
def KM.kd{m:F}(h:KM m):0<=m.aM/\m.aM<100:=by cases h;exact⟨I,I⟩
def KM.rl{m:F}(h:KM m):0<=m.bW/\m.bW<100:=by cases h;assumption
def KM.po{m:F}(h:KM m):KP m.aH:=by cases h;assumption
def KM.bz{m:F}(h:KM m):∀c∈m.aO,KM c:=by cases h;assumption
theorem KP.zP:KP zP:=.mk _ _ _ _ O O (λd a=>by simp at a) (λc b=>by simp at b)
def CM.km(b:∀p,Q p->KP p){m:F}(h:CM Q m):KM m:=by
 induction h with
 |tt=>exact .mk _ _ _ _ O O O KP.zP (λc a=>by simp at a)
 |ff=>exact .mk _ _ _ _ O O O KP.zP (λc a=>by simp at a)
 |j_ r p d e=>unfold R6 at d;exact .mk _ _ _ _ O O O (b p e) (λc a=>by simp at a)
 |node K i j k f=>exact .mk _ _ _ _ O O O KP.zP (λc a=>f c a)
def vU(m:F)(x:Nat):List UInt8:=40::(Lib.itoa m.aM++((if m.aM=2 then 32::(Lib.itoa m.bW++pk m.aH)else [])++im (m.aO.take x)))
@[irreducible] def qD(m:F)(bs:ao)(x:Nat):List Int:=bs++jQ (vU m x)
@[irreducible] def ui(m:F)(bs:ao):List Int:=bs++jQ (mk' m)
def Wk(m:F)(bs:ao):(ui m bs).length=bs.length+(mk' m).length:=by unfold ui;rw[c_,sL]
def adt(m:F):mk' m=vU m m.aO.length++[41]:=by
 cases m with
 |mk k r p a=>rw[mk'];unfold vU;simp only[F.aM,F.bW,F.aH,F.aO,i_,ei,gh];rfl
def QW(m:F)(h:x<=m.aO.length):(vU m x).length+1<=(mk' m).length:=by
 rw[adt];unfold vU;have e:m.aO=m.aO.take x++m.aO.drop x:=(om x _).symm;have a:(im m.aO).length=(im (m.aO.take x)).length+(im (m.aO.drop x)).length:=by rw[<-c_,<-QZ,<-e]
 simp only[i_,c_,fD,rP];omega
section
variable {m:F}{bs:ao}
def Ep(h:KM m)(a:m.aM=2):qz m.aH (bs++[40]++jx (iH m.aM)++[32]++jx (iH m.bW))=qD m bs 0:=by rw[uq h.kd.1,uq h.rl.1];unfold qz qD vU;rw[aK a,iC,im];simp[jQ]
def Wi(h:KM m)(a:m.aM≠2):bs++[40]++jx (iH m.aM)=qD m bs 0:=by rw[uq h.kd.1];unfold qD vU;rw[g a,iC,im];simp[jQ]
def Nq{c:F}(a:m.aO[(x:Int).toNat]?=some c):ui c (qD m bs x)=qD m bs (x+1):=by rw[bI]at a;unfold ui qD vU;rw[h_,a,Ak,QZ,im,im];simp[jQ]
def Wj(b:x<=m.aO.length)(a:decide ((x:Int)<m.aO.length)=false):qD m bs x++[41]=ui m bs:=by have a:=fg a;obtain rfl:x=m.aO.length:=O;unfold qD ui;rw[adt,ai6];simp[jQ]
variable (hl:bs.length+(mk' m).length≤gY)
include hl
theorem Er(h:x<=m.aO.length):(qD m bs x).length+1<=gY:=by unfold qD;rw[c_,sL];have:=QW m h;omega
theorem alt(b:decide ((x:Int)<m.aO.length)=true):(x:Int)+1<=9223372036854775807:=by have:=QW m (bu m.aO.length);have a:=adw m.aO;have:=zi b;unfold vU at*;rw[i_]at*;simp only[c_,fD,gY]at*;omega
def alu{x:Nat}{c:F}(b:x<m.aO.length)(a:m.aO[(x:Int).toNat]?=some c):(qD m bs x).length+(mk' c).length<=gY:=by have e:=aY List.length (Nq (bs:=bs) a);rw[Wk]at e;have:=Er hl (x:=x+1) O;omega
theorem alG:bs.length+1<=gY:=by
 have:1<=(mk' m).length:=by obtain⟨t,a⟩:=KH m;rw[a];simp
 omega
theorem dcs(h:0<=n):(iH n).size=(Lib.itoa n).length:=by have:=aY List.length (uq h);rw[Aq,sL]at this;exact this
def alH(h:KM m):(bs++[40]).length+(iH m.aM).size<=gY:=by have e:=dcs hl h.kd.1;have:=QW m (dD m.aO.length);unfold vU at this;simp only[c_,fD,rP]at this⊢;omega
variable (h:KM m)
include h
def alI(a:m.aM=2):(bs++[40]++jx (iH m.aM)).length+1<=gY:=by have:=aY List.length (Ep (bs:=bs) h a);have Z:=Er hl (dD m.aO.length);rw[Eg]at this;simp only[c_,fD,rP]at this⊢;omega
def alJ(a:m.aM=2):(bs++[40]++jx (iH m.aM)++[32]).length+(iH m.bW).size<=gY:=by have:=aY List.length (Ep (bs:=bs) h a);have Z:=Er hl (dD m.aO.length);rw[Eg]at this;simp only[c_,fD,rP,Aq]at this⊢;omega
def alK(a:m.aM=2):(bs++[40]++jx (iH m.aM)++[32]++jx (iH m.bW)).length+(pk m.aH).length<=gY:=by have:=aY List.length (Ep (bs:=bs) h a);have Z:=Er hl (dD m.aO.length);rw[Eg]at this;omega
end
def at3:fh prog 205:=fH func205 af rfl
def HY(m:F)(bs:ao):Prop:=cN prog 205 (bJ (bP (HB 1 bs))) (([.c (.ptr 0 0),wE .aQ m]:zS0).map SE.den) (bJ (bP (HB 2 (ui m bs)))) (·∈[0]) (ST.cn (U:=S) []).den
def agY(G:F->List Int->Prop)(H:List (Nat×aV S))(args:zS0)(K:f_ S->Prop):Prop:=
 match H,args with
 |[(0,.cells [.ptr 0 0,.ty 1 5 (.inr n)]),(1,.aU W.u8 bs)],[.c (.ptr 0 0),.agg [.d (.sc (.int .i64 k)),.d (.sc (.int .i64 r)),.d (.sc (.int .i64 l)),.d (.b8 b),.d (.bf W.u32 a),.d (.bf W.aH f),.d (.bf W.aQ e)]]=>(n=bs.length/\G (.mk k r (.mk l b a f) e) bs)/\K ⟨.cn [],HB 2 (ui (.mk k r (.mk l b a f) e) bs),[1],[0,1]⟩
 |_,_=>False
def aeu(G:F->List Int->Prop)(d:∀p bs,G p bs->HY p bs):fk prog S where
 f:=205
 fX:=at3
 run:=agY G
 ok H args K h:=by
  unfold agY at h;split at h
  ·rename_i n bs k r l o a t q;obtain⟨⟨rfl,j⟩,i⟩:=h;refine⟨_,?_,λu b c=>?_,i⟩
   ·exact cN.fK (d _ _ j) λu b=>by have s:u<2:=b.1;have e:=b.2;simp at e⊢;omega
   ·have:u<2:=b;simp at c;omega
  ·cases h
def ax9(m:F)(bs:ao):KM m->bs.length+(mk' m).length<=gY->HY m bs:=by
 generalize f:SizeOf.sizeOf m=D
 induction D using Nat.strongRecOn generalizing m bs
 rename_i D a;subst f;intro h hl;have e:∀(c:F)(s:ao),(c∈m.aO/\s.length+(mk' c).length<=gY)->HY c s:=λc s d=>a _ (F.lt d.1) c s rfl (h.bz c d.1) d.2
 clear a
 rename _=>a
 unfold HY;refine vO func205 rfl ⟨[OO],[aex,Rs,Rq (λp s=>KP p/\s.length+(pk p).length<=gY) (λp s h=>aeX p s h.1 h.2),aeu (λc s=>c∈m.aO/\s.length+(mk' c).length<=gY) a]⟩ [(8,⟨Nat,λx=>⟨[(0,bQ 0),(28,lT .aQ m.aO),(29,iT m.aO.length),(30,iT x)],[(0,.cells [.ptr 0 0,.ty 2 5 (.inr (qD m bs x).length)]),(2,.aU (U:=S) W.u8 (qD m bs x))],3⟩,λx=>x<=m.aO.length/\True,λx=>m.aO.length-x⟩)] [0] ⟨[],HB 2 (ui m bs),3⟩ ?_;repeat' (first
  |((with_reducible show mt _ _ _ _ _);(conv=>whnf);(fail_if_success with_reducible show mt _ _ _ _ _))
  |intro _|apply aP
  |refine @aX Nat _ 0 (aP ?_ λ(x:Nat)(b:x<=m.aO.length/\True)=>?_)
  |refine @aX Nat _ (x+1) ?_
  |fail)
 all_goals(try clear a)
 all_goals(try simp only[bm,e_,jw,lN,jC]at*)
 all_goals first|exact aZ|omega| (with_reducible first|exact alG hl|exact h.kd.1|exact h.kd.2|exact h.rl.1|exact h.rl.2|exact h.po|exact alH hl h|exact alI hl h I|exact alJ hl h I|exact alK hl h I|exact Ep h I|exact aY (λl:List Int=>(Sum.inr l.length:Nat ⊕ Nat)) (Ep h I)|exact Wi h I|exact aY (λl:List Int=>(Sum.inr l.length:Nat ⊕ Nat)) (Wi h I)|exact Er hl b.1|exact alt hl I|exact bF I|exact alu hl (zi I) I|exact Nq I|exact aY (λl:List Int=>(Sum.inr l.length:Nat ⊕ Nat)) (Nq I)|exact Wj b.1 I|exact aY (λl:List Int=>(Sum.inr l.length:Nat ⊕ Nat)) (Wj b.1 I))|have Z:=zi I;omega
def ZV(u:Nat)(h:u<4294967296):(Lib.decDigits u).length<=10:=by
 have a:∀k n:Nat,n<10^(k+1)->(Lib.decDigits n).length<=k+1:=by
  intro k
  induction k with
  |zero=>intro n b;rw[Lib.decDigits,dif_pos O];simp
  |succ k c=>
   intro n b;rw[Lib.decDigits];split
   ·simp
   ·rw[c_];have:=c (n/10) (by rw[H5]at b;omega);simp only[fD,rP];omega
 exact a 9 u O
def J3(a:0<=n)(b:n<100):(Lib.itoa n).length<=10:=by
 have:Lib.itoa n=Lib.decDigits n.toNat:=by unfold Lib.itoa;rw[g O]
 rw[this];exact ZV _ O
theorem Z9:∀{a:ao},Dg a->(dk a).length<=11*a.length
 |[],_=>by rw[dk];simp
 |d::a,h=>by have c:=h d (bZ ..);unfold bY at c;have f:=Z9 (a:=a) (λx b=>h x (cE _ b));have e:=ZV d.toNat O;rw[dk];simp only[fD,c_];omega
def aBs{m:Nat}(h:ja m p):KP p->(pk p).length<=nP p*(11*m+20):=by
 induction h with
 |mk l n a k o q w y s=>
  intro f;have i:=f.lv;have z:=Z9 q;have u:=J3 i.1 i.2;have aO:∀l:List J,(∀c∈l,(pk c).length<=nP c*(11*m+20))->(g_ l).length<=je l*(11*m+20):=by
   intro l
   induction l with
   |nil=>intro _;rw[g_,je];simp
   |cons c r b=>
    intro j;have A:=j c (bZ ..);have B:=b λx v=>j x (cE _ v)
    rw[g_,je,c_,jS];omega
  have d:=aO k λc d=>s c d (f.bz c d)
  have e:(if l=0 then(if n=true then [(45:UInt8)]else [])++dk a else []).length<=1+11*m:=by
   split
   ·rw[c_];have:(if n=true then [(45:UInt8)]else []).length<=1:=by split<;>simp
    have:11*a.length<=11*m:=Nat.mul_le_mul_left 11 o;omega
   ·simp
  rw[pk,nP,jS,Nat.one_mul];simp only[fD,c_,rP,J.aJ]at u⊢;omega
def Sz.Dr(h:Sz d x p)(b:d<=12)(a:x<=60000):KP p/\(pk p).length<=26000000000:=by have c:=(Sz.Gw h.bw (bu _) h.dl h.nm O).up a;have e:=KR b h.bw h.dl;have a:=h.bw.kp (bu _);have f:=aBs c a;have i:nP p*(11*60000+20)<=38416*(11*60000+20):=jI _ e;exact⟨a,O⟩
def ax8(j:∀p,Q p->KP p/\(pk p).length<=26000000000)(h:CM Q m):(mk' m).length<=bc m*26000000100:=by
 have b:(pk zP).length<=26000000000:=((Sz.zero 0 0).Dr O O).2;have aO:∀l:List F,(∀c∈l,(mk' c).length<=bc c*26000000100)->(im l).length<=cy l*26000000100:=by
  intro l
  induction l with
  |nil=>intro _;rw[im,cy];simp
  |cons c r d=>
   intro f;have w:=f c (bZ ..);have y:=d λx n=>f x (cE _ n)
   rw[im,cy,c_,jS];omega
 have one:∀(k r:Int)(p:J)(a:zF0),0<=k->k<100->0<=r->r<100->(pk p).length<=26000000000->(im a).length<=cy a*26000000100->(mk' (.mk k r p a)).length<=bc (.mk k r p a)*26000000100:=by
  intro k r p a k0 k1 o q i Y;have z:=J3 k0 k1;have A:=J3 o q;have e:(if k=2 then 32::(Lib.itoa r++pk p)else []).length<=26000000011:=by
   split
   ·simp only[fD,c_];omega
   ·simp
  rw[mk',bc,jS,Nat.one_mul];simp only[fD,c_,rP];omega
 have nil:(im []).length<=cy []*26000000100:=by rw[im,cy];simp
 induction h with
 |tt=>exact one _ _ _ _ O O O O b nil
 |ff=>exact one _ _ _ _ O O O O b nil
 |j_ r p s i=>unfold R6 at s;exact one _ _ _ _ O O O O (j p i).2 nil
 |node K a B C u=>exact one _ _ _ _ O O O O b (aO a λc v=>u c v)
@[irreducible] def yk(t:bi):Prop:=∃v:Nat,PG 284 v t
structure KY(t:bi):Prop where
 k0:0<=t.aM
 k1:t.aM<10
 a:KP t.a
 b:KP t.b
 c:KP t.c
 d:KP t.d
 g:KM t.g
 l:(gl t).length<=gY
def yk.ky{t:bi}(h:yk t):KY t:=by
 unfold yk at h;obtain⟨v,h⟩:=h;have a:=h.p.tg.a.sz.Dr O O;have b:=h.p.tg.b.sz.Dr O O;have c:=h.p.tg.c.sz.Dr O O;have d:=h.p.tg.d.sz.Dr O O;have kd:=h.p.kd;have j:∀p,GA v p->KP p/\(pk p).length<=26000000000:=λp f=>f.qo.Dr O O
 have e:=ax8 j h.p.g;have k:=h.p.sz;have l:bc t.g*26000000100<=10*26000000100:=jI _ k;have i:=J3 (n:=t.aM) O O;refine⟨O,O,a.1,b.1,c.1,d.1,h.p.g.km λp f=>(j p f).1,?_⟩;unfold gl gY;simp only[c_];omega
def xb(t:bi):List J:=[t.a,t.b,t.c,t.d]
@[irreducible] def qA(t:bi)(x:Nat):List Int:=jQ (Lib.itoa t.aM++g_ ((xb t).take x))
@[irreducible] def wK(t:bi):List Int:=jQ (gl t)
section
variable {t:bi}
def Wc(h:KY t):jx (iH t.aM)=qA t 0:=by rw[uq h.k0];unfold qA;rw[iC,g_,l4]
def wM(a:(xb t)[x]?=some p):qz p (qA t x)=qA t (x+1):=by unfold qz qA;rw[h_,a,Ak,GK,g_,g_];simp[jQ]
def Ng:ui t.g (qA t 4)=wK t:=by unfold ui qA wK gl xb;simp[jQ,g_]
variable (h:KY t)
include h
def Wb:(qA t 4).length+(mk' t.g).length<=gY:=by have:=aY List.length (Ng (t:=t));rw[Wk]at this;rw[this];unfold wK;rw[sL];exact h.l
theorem alo(a:x<=4):(qA t x).length<=(qA t 4).length:=by
 unfold qA;have e:(xb t).take 4=(xb t).take x++((xb t).take 4).drop x:=by
  have:(xb t).take x=((xb t).take 4).take x:=by rw[List.take_take,ju a]
  rw[this,om]
 rw[e,GK,sL,sL,c_,c_,c_];omega
def HM{x:Nat}(b:x<4)(a:(xb t)[x]?=some p):(qA t x).length+(pk p).length<=gY:=by have e:=aY List.length (wM (t:=t) a);rw[Eg]at e;have d:=alo h (x:=x+1) O;have f:=Wb h;omega
def Wd:(iH t.aM).size<=gY/\(iH t.aM).size≠0:=by have e:=aY List.length (uq h.k0);rw[Aq,sL,xp h.k0 h.k1]at e;rw[e];unfold gY;simp
def alj:gl t≠[]:=by unfold gl;rw[xp h.k0 h.k1];simp
end
noncomputable def Cp:Code:=(Tryz.f161.body).getD .skip
def y0:Code:=kq Cp
def y1:Code:=kq (fJ Cp)
def y2:Code:=kq (fJ (fJ Cp))
def y3:Code:=kq (fJ (fJ (fJ Cp)))
def y8:Code:=kq (fJ (fJ (fJ (fJ Cp))))
def yD:Array Oper:=Bo (kq (fJ (fJ (fJ (fJ (fJ Cp))))))
def yS:Oper:=yD[0]!
def yM:Oper:=yD[1]!
def aoZ:Tryz.f161.body=some (.seq y0 (.seq y1 (.seq y2 (.seq y3 (.seq y8 (.seq (.region 9 yD false) .ret)))))):=af
def aHt:yD=[yS,yM].toArray:=af
def aHy:yS.guard=Option.none:=af
def aHv:yM.guard=Option.none:=af
def aHx:yS.dst=some 28:=af
def aHu:yM.dst=some 2:=af
def aHz:∃a,yS.op=.call { callee:=.value (.func 206),args:=#[.tmp 3],argTypes:=a}:=⟨#[230],af⟩
def aHw:yM.op=.assign (.tmp 28):=af
def atS:fh prog 161:=fH func161 af rfl
def atC:∀args w,(callFunc 206 args).run prog w=.ok (.enter 206 args) w:=enters_of func206 af rfl
def az8:Tryz.f161.ntmps=29:=af
def aDs:Tryz.f161.results.toList=[.tmp 2]:=af
def sK(t:bi):SS S:=⟨[(3,.e (.c (.ptr 0 0)))],HB 1 (wK t),2⟩
def awW(t:bi)(h:KY t)(a:jT prog S)(i:a=⟨[OO,⟨1000003,λ_ _=>False,λ_ _ h=>h.elim⟩],[Rs,Rq (λp s=>KP p/\s.length+(pk p).length<=gY) (λp s h=>aeX p s h.1 h.2),aeu (λc s=>KM c/\s.length+(mk' c).length<=gY) (λc s h=>ax9 c s h.1 h.2)]⟩)(f:List (Nat×mE S))(j:f=[(4,⟨Nat,λx=>⟨[(1,.e (.c (.ptr 1 0))),(3,.e (.c (.ptr 0 0))),(18,.e (.agg ((cQ .aH t.a).map .d++(cQ .aH t.b).map .d++(cQ .aH t.c).map .d++(cQ .aH t.d).map .d))),(19,iT x)],[(0,.cells [.ptr 0 0,.ty 2 5 (.inr (qA t x).length)]),(1,.cells ((cQ .ee t).map .d)),(2,.aU (U:=S) W.u8 (qA t x))],3⟩,λx=>x<=4/\True,λx=>4-x⟩)]):
 fw Vw 29 [] a f y0 ⟨tY 0 [wE .ee t],[],0⟩ (jW mN λb=>fw Vw 29 [] a f y1 b (jW mN λb=>fw Vw 29 [] a f y2 b (jW mN λb=>fw Vw 29 [] a f y3 b (jW mN λb=>fw Vw 29 [] a f y8 b (jW mN λb=>mt Vw [] b (sK t) True))))):=by
 subst i;subst j;repeat' (first
  |((with_reducible show mt _ _ _ _ _);(conv=>whnf);(fail_if_success with_reducible show mt _ _ _ _ _))
  |intro _|apply aP
  |refine @aX Nat _ 0 (aP ?_ λ(x:Nat)(k:x<=4/\True)=>?_)
  |refine @aX Nat _ (x+1) ?_
  |fail)
 all_goals(try simp only[bm,e_]at*)
 all_goals first|exact aZ|omega|with_reducible exact h.k0|have Z:=h.k1;omega|with_reducible exact(Wd h).1|exact absurd ‹(iH _).size=0› (Wd h).2| (with_reducible first|exact Wc h|exact aY (λl:List Int=>(Sum.inr l.length:Nat ⊕ Nat)) (Wc h))|have Z:=eD ‹decide ((x:Int)<4)=true›;omega| (with_reducible first|exact h.a|exact h.b|exact h.c|exact h.d|exact h.g)|(obtain rfl:x=0:=O;first|exact HM h O rfl|exact wM (t:=t) (x:=0) rfl|exact aY (λl:List Int=>(Sum.inr l.length:Nat ⊕ Nat)) (wM (t:=t) (x:=0) rfl)|show 4-(0+1)<4-0;omega)|(obtain rfl:x=1:=O;first|exact HM h O rfl|exact wM (t:=t) (x:=1) rfl|exact aY (λl:List Int=>(Sum.inr l.length:Nat ⊕ Nat)) (wM (t:=t) (x:=1) rfl)|show 4-(1+1)<4-1;omega)|(obtain rfl:x=2:=O;first|exact HM h O rfl|exact wM (t:=t) (x:=2) rfl|exact aY (λl:List Int=>(Sum.inr l.length:Nat ⊕ Nat)) (wM (t:=t) (x:=2) rfl)|show 4-(2+1)<4-2;omega)|(obtain rfl:x=3:=O;first|exact HM h O rfl|exact wM (t:=t) (x:=3) rfl|exact aY (λl:List Int=>(Sum.inr l.length:Nat ⊕ Nat)) (wM (t:=t) (x:=3) rfl)|show 4-(3+1)<4-3;omega)|(have Z:=fg ‹decide ((x:Int)<4)=false›;obtain rfl:x=4:=O;first|exact Wb h|exact Ng|exact aY (λl:List Int=>(Sum.inr l.length:Nat ⊕ Nat)) Ng)
def yN(x:UInt8):Value:=.int .u8 x.toNat
def avt(w:World)(Z:Addr)(n:Nat):(w.freeze Z n).heap.size=w.heap.size:=by unfold World.freeze;split<;>simp
def avs(w:World)(Z:Addr)(n:Nat):(w.freeze Z n).os=w.os/\(w.freeze Z n).tape=w.tape/\(w.freeze Z n).output=w.output/\(w.freeze Z n).drawn=w.drawn:=by unfold World.freeze;split<;>exact⟨rfl,rfl,rfl,rfl⟩
def abt(w:World)(Z:Addr)(n x:Nat)(h:x≠Z.block):(w.freeze Z n).heap[x]?=w.heap[x]? :=by
 unfold World.freeze;split
 ·rfl
 ·simp[MM,Ne.symm h]
open Go.RowKit in
theorem aFr{f:Nat}{bs:List UInt8}{c:Array Value}(r:w.cell? ⟨x,1,Option.none⟩=some (.slice (some ⟨d,0,Option.none⟩) bs.length f))(l:w.heap[d]?=some (.cells c 5 (0,0)))(hlen:bs.length<=f)(m:f<=maxLen)(o:f<=c.size)(i:c.toList.take bs.length=bs.map yN)(p:bs≠[]):
 Calls prog 206 #[.pointer (some ⟨x,0,Option.none⟩)] w (λe s=>e=.returned (.string ⟨bs.toArray⟩)/\s=w.drew.freeze ⟨d,0,Option.none⟩ bs.length):=by
 have u:bs.length≠0:=an p;have B:w.drew.cell? ⟨x,1,Option.none⟩=some (.slice (some ⟨d,0,Option.none⟩) bs.length f):=r
 have v:(Builtin.unsafeSliceData_ #[228] 279 #[.slice (some ⟨d,0,Option.none⟩) bs.length f]).run prog w.drew=.ok (.pointer (some ⟨d,0,Option.none⟩)) w.drew:=
  Lib.run_unsafeSliceData_row _ _ _ _ _ _ O
 have y:(Builtin.unsafeString_ #[279,3] 9 #[.pointer (some ⟨d,0,Option.none⟩),.int .i64 bs.length]).run prog w.drew=.ok (.string ⟨bs.toArray⟩) (w.drew.freeze ⟨d,0,Option.none⟩ bs.length):=by
  refine Lib.run_unsafeString_row w.drew 279 3 9 5 af af d c.size (by have k:w.drew.heap[d]?=some (.cells c 5 (0,0)):=l;simp[World.shape?,k]) bs p O (by unfold maxLen at m;omega) ?_;intro j a q;have k:w.drew.heap[d]?=some (.cells c 5 (0,0)):=l;have z:j<bs.length:=(dM.1 q).1;have A:c.toList[j]?=some (yN a):=by
   have n:(c.toList.take bs.length)[j]?=some (yN a):=by rw[i];simp[q]
   rw[rM]at n;rw[aK z]at n;exact n
  rw[uQ,oo,Lib.cell_of_heap k];simpa[yN]using A
 go_enter func206,Tryz.ntmps206
 go_wp2
 go_region
 all_goals(go_wp2;go_ret;exact⟨rfl,rfl⟩)
def ajx{b:aw}{l:List Oper}{a:Act}{Q:Exit->Act->World->Prop}(c:o.guard=Option.none)(h:o.wp prog a w (wpList prog b Q l) Q):wpList prog b Q (o::l) a w:=by simp only[wpList];rw[aK (by simp[Region.wanted,c])];exact .inl h
theorem ai7{w:World}{M:aq}{a:G}:∀{bs:List UInt8}{vs:av},bR w M a ((bx (U:=S) W.u8 (jQ bs)).map .d) vs->vs=bs.map yN
 |[],vs,h=>fc (by rw[<-h.1];rfl)
 |x::bs,[],h=>by have:=h.1;cases this
 |x::bs,v::vs,h=>by have k:v=yN x:=gK (show b6 w M a (.e (.c (.d (.sc (yN x))))) v from h.2 0 _ v rfl rfl);have j:=ai7 (bs:=bs) (vs:=vs) ⟨Nat.succ.inj h.1,λi x u b f=>h.2 (i+1) x u b f⟩;rw[dc,<-j,k]
def awV(t:bi)(hk:yk t):bh 161 [wE .ee t] (sT (c9 t)):=by
 have h:=hk.ky;refine⟨atS,λM γ w m hm z=>?_⟩;have hγ:γ=iw:=funext λs=>hm.fW s rfl
 subst hγ;refine calls_of_wp func161 aoZ ?_;have R0:gN (dY.jc M iw w (·∈[]) 29) (⟨tY 0 [wE .ee t],[],0⟩:SS S).st { tmps:=m.toArray++Array.replicate (Tryz.f161.ntmps-m.toArray.size) undef,defers:=[]} w:=by
  have:=dz.jc (aT:=nH [(wE .ee t).den]) (a:= { tmps:=m.toArray++Array.replicate (Tryz.f161.ntmps-m.toArray.size) undef,defers:=[]}) hm (Qg z _) rfl (·∈[]);refine⟨iw,?_⟩;have e:(m.toArray++Array.replicate (Tryz.f161.ntmps-m.toArray.size) undef).size=29:=by have:=z.1;rw[az8];simp at this⊢;omega
  rw[<-e];exact this
 refine wp_seq (pO (pK mixed (awW t h _ rfl _ rfl) (Q:=λs=>∃y:SS S,y.st=s/\fw Vw 29 [] _ _ y1 y _) λn k=>⟨n,rfl,k⟩) rfl rfl R0 λa1 w1 s1 R1 ⟨σ1,e1,k1⟩=>?_);subst e1;refine wp_seq (pO (pK mixed k1 (Q:=λs=>∃y:SS S,y.st=s/\fw Vw 29 [] _ _ y2 y _) λn k=>⟨n,rfl,k⟩) rfl rfl R1 λa2 w2 s2 R2 ⟨σ2,e2,k2⟩=>?_);subst e2;refine wp_seq (pO (pK mixed k2 (Q:=λs=>∃y:SS S,y.st=s/\fw Vw 29 [] _ _ y3 y _) λn k=>⟨n,rfl,k⟩) rfl rfl R2 λa3 w3 s3 R3 ⟨σ3,e3,k3⟩=>?_);subst e3;refine wp_seq (pO (pK mixed k3 (Q:=λs=>∃y:SS S,y.st=s/\fw Vw 29 [] _ _ y8 y _) λn k=>⟨n,rfl,k⟩) rfl rfl R3 λa4 w4 s4 R4 ⟨σ4,e4,k4⟩=>?_);subst e4;refine wp_seq (pO (pK mixed k4 (Q:=λs=>dm 29 (·∈[]) s (sK t).st) λn k=>(nY k 29).2) rfl rfl R4 λB w6 s5 R5 hw=>?_);obtain⟨C,R6⟩:=hw _ rfl rfl B w6 R5;have r3:b6 w6 M C (.e (.c (.ptr 0 0))) (B.tmps.getD 3 undef):=R6.aT 3;obtain⟨b,hb,hv3⟩:=r3;have hH0:(sK t).st.heap 0=some [.ptr 0 0,.ty 1 5 (.inr (wK t).length)]:=rfl;have hH1:(sK t).st.heap 1=some ((bx (U:=S) W.u8 (wK t)).map .d):=rfl;have ek:wK t=jQ (gl t):=by unfold wK;rfl
 have el:(wK t).length=(gl t).length:=by rw[ek,sL]
 rw[el]at hH0;rw[ek]at hH1;obtain⟨g,cur,o,hg,L,N,hlc,hcm,H⟩:∃(g:Nat)(cur:Array Value)(o:Nat),C 1=some (some g)/\w6.heap[g]?=some (.cells cur 5 (0,0))/\w6.cell? ⟨b,1,Option.none⟩=some (.slice (some ⟨g,0,Option.none⟩) (gl t).length o)/\(gl t).length<=o/\o<=maxLen/\o<=cur.size:=by
  rcases R6.mem.fe 0 _ hH0 with⟨b',t',vs,sp,f,hb',l⟩|⟨f,_⟩|⟨b',en,clk,f,hb',l⟩
  ·rw[hb]at f;injection f with f;injection f with f;subst f
   match vs,l with
   |[u,v],l=>obtain⟨g,cur,A,h2,o,h3,h4,h5,h6⟩:=l.2 1 _ v rfl rfl;refine⟨g,cur,o,A,h2,?_,h4,h5,h6⟩;rw[yP hb',h3];simp
   |[],l=>have:=l.1;cases this
   |[_],l=>have:=l.1;cases this
   |_::_::_::_,l=>have:=l.1;cases this
  ·rw[hb]at f;injection f with f;cases f
  ·cases l
 have E:cur.toList.take (gl t).length=(gl t).map yN:=by
  obtain⟨t0,vs,sp,p,hc0⟩:=R6.IH hH1 hg L;rw[L]at p;injection p with p;injection p with p _;subst p
  have e:=ai7 hc0;subst e;simp
 have kx:=aFr N L hlc hcm H E (alj h);refine wp_seq ?_;rw[aHt];refine wp_region_lit ?_;refine ajx aHy ?_;unfold Oper.wp;obtain⟨ts,hop⟩:=aHz;have G:(execOp B.eval yS).run prog w6=.ok (.enter 206 #[.pointer (some ⟨b,0,Option.none⟩)]) w6:=by simp only[execOp,hop,resolve,Act.eval,Deferred.ofValue,Sem.run_bind,Sem.run_pure,Result.andThen_ok,invoke];rw[atC];congr 2;apply mW;have R:B.eval (.tmp 3)=.pointer (some ⟨b,0,Option.none⟩):=hv3;simp[R]
 rw[G];refine kx.mono λe w7 he=>?_
 obtain⟨rfl,rfl⟩:=he;have V:B.tmps.size=29:=R6.size;have h28:(B.put yS.dst (.string ⟨(gl t).toArray⟩)).eval (.tmp 28)=.string ⟨(gl t).toArray⟩:=by show(B.put yS.dst (.string ⟨(gl t).toArray⟩)).tmps.getD 28 undef=_;rw[aHx,vK _ _ _ _ (by intro j K;injection K with K;subst K;omega)];simp
 refine ajx aHv (my (v:=.string ⟨(gl t).toArray⟩) (by simp only[execOp,aHw,h28];rfl) ?_);show Code.wp prog .ret _ _ _;refine wp_ret ?_;have aW:∀s x,C s=some (some x)->w.heap.size<=x:=λs x Y=>by
  rcases R6.aW s x Y with⟨u,hu⟩|h2
  ·cases hu
  ·exact h2
 have hgw:w.heap.size<=g:=aW 1 g hg;have Z:((B.put yS.dst (.string ⟨(gl t).toArray⟩)).put yM.dst (.string ⟨(gl t).toArray⟩)).defers=[]:=by rw[wi,wi];exact R6.defers
 have h2v:((B.put yS.dst (.string ⟨(gl t).toArray⟩)).put yM.dst (.string ⟨(gl t).toArray⟩)).tmps.getD 2 undef=.string ⟨(gl t).toArray⟩:=by rw[aHu,vK _ _ _ _ (by intro j K;injection K with K;subst K;rw[uW];omega)];simp
 have T:((B.put yS.dst (.string ⟨(gl t).toArray⟩)).put yM.dst (.string ⟨(gl t).toArray⟩)).tmps.size=29:=by rw[uW,uW];exact V
 have P:fL (λx=>∃s,iw s=some (some x)) w (w6.drew.freeze ⟨g,0,Option.none⟩ (gl t).length):=by
  have hz:=avs w6.drew ⟨g,0,Option.none⟩ (gl t).length;refine⟨hz.1.trans R6.aN.os,hz.2.1.trans R6.aN.tape,hz.2.2.1.trans R6.aN.output,by rw[hz.2.2.2];exact eZ R6.aN.drawn (Nat.le_succ _),by rw[avt];exact R6.aN.size,λx q hn=>?_,λx cells t q=>?_⟩
  ·have D:x≠g:=by omega
   exact(abt _ _ _ x D).trans (R6.aN.same x q (λ⟨s,Y⟩=>by cases Y))
  ·have hlt:=jA q;have D:x≠g:=O;obtain⟨c1,A,z1⟩:=R6.aN.iK x cells t q;exact⟨c1,(abt _ _ _ x D).trans A,z1⟩
 have m7:Mem M iw tI (w6.drew.freeze ⟨g,0,Option.none⟩ (gl t).length):=⟨λx q=>l5 (hm.gG x q) P.size,(λs t x A=>by cases A),(λs x A=>by cases A),(λ_ _=>rfl),(λs cs Y=>by cases Y),hm.iU.to (λx q=>⟨l5 q.1 P.size,q.2.1,q.2.2⟩) (λx q=>P.same x q.1 (λ⟨s,Y⟩=>by cases Y))⟩;have Rf:dz (dY.jc M iw w (λ_=>False) 29) iw ⟨λi=>if i=2 then .e (.c (.d (.sc (.string ⟨(gl t).toArray⟩))))else .any,tI⟩ ((B.put yS.dst (.string ⟨(gl t).toArray⟩)).put yM.dst (.string ⟨(gl t).toArray⟩)) (w6.drew.freeze ⟨g,0,Option.none⟩ (gl t).length):=by
  refine⟨m7,λi=>?_,P,(λs x A=>by cases A),λ_ h=>h.elim,Z,T⟩;show b6 _ M iw (if i=2 then _ else _) _;split
  ·rename_i e;subst e;rw[h2v];exact dE.sc _ rfl
  ·trivial
 obtain⟨v,hv,X⟩:=LI (r:=.e (.c (.d (.sc (.string ⟨(gl t).toArray⟩))))) Rf Tryz.f161 (by rw[aDs];rfl);exact⟨Z,v,hv,v,iw,rfl,m7,X,P,(λs x A=>by cases A),λ_ h=>h.elim⟩
def asi:=dR (.el W.ee) awV
