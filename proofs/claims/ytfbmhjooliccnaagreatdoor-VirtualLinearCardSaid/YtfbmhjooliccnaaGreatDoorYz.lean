/- A part of the proof of VirtualLinear: Wm0 to Wm4. No condition. -/
import Derived.Lib.LaidTab
import Derived.LaidSub
import Derived.MakeChecks
import Derived.Test.YtfbmhjooliccnaaGreatDoorYx
import Derived.Test.YtfbmhjooliccnaaGreatDoorYw
import Derived.OpenShut
import Derived.ProofKit
import Derived.LaidMore
import Derived.Stop.Joined
import Derived.Test.YtfbmhjooliccnaaGreatDoorYy
import Derived.SevenTiedAt
import Derived.Test.YtfbmhjooliccnaaGreatDoorTie
import Derived.Test.YtfbmhjooliccnaaGreatDoorCards
set_option linter.all false
set_option maxRecDepth 100000
set_option maxHeartbeats 60000000
noncomputable section
namespace Go.Proofs.YtfbmhjooliccnaaGreatDoor
open Go Go.Ab Go.Proofs.Tryz
variable {i f:Nat}{m c:F}{X:Int}{U:Bool}{l:List F}{R:Int→Prop}
def acB(x:String×DataW Unit):Bool:=x.1== "internal/strconv.uint64pow10"
def ayi:Rows.virtualLinearRow.laid.filter acB=[("internal/strconv.uint64pow10",Lib.tabData .u64 Lib.pow10Tab)]:=af
def aIw{a:World}(h:laidMetH prog Rows.virtualLinearRow.laid a):1<a.heap.size/\S9 a.heap[1]? :=by
 have c:=h.filter acB;rw[ayi,MakeChecks.laidMetH_plain _ _ _ af]at c;have d:Tryz.prog.globalNamed "internal/strconv.uint64pow10" =some 1:=af;have b:Lib.TabIs prog a "internal/strconv.uint64pow10" .u64 Lib.pow10Tab:=Lib.tabIs_of_head d (t:=323) (e:=138) (n:=20) af af af af af c;unfold Lib.TabIs World.var? at b;rw[d]at b;simp only[Cb]at b;split at b
 ·rename_i g t r f;injection b with b
  refine⟨(M_.1 f).1,t,r,?_⟩;rw[f,b];congr 2
 ·cases b
@[irreducible] def PX(m:F)(a:Int):=HC m a/\xi a m/\ba m<=100000
def Cf{lv:Int}(h:PX m lv):HC m lv:=by unfold PX at h;exact h.1
def PXv(h:PX m X):mY m X ⟨[v8],[]⟩:=by unfold PX at h;unfold mY;exact⟨h.2.1,by simp;omega⟩
theorem aEt(m:F)(a:Int)(h:PX m a):bh 109 [wE .aP m,wI .i64 a] (tT [.c (.d (.bN W.gi (jM cR m a))),iE 0]):=by
 refine vG func109 rfl ⟨[F2 31,Pv,CI],[aeN (λc l s=>mY c l s) (λc l s f=>aJF l c s f)]⟩ [(4,⟨Nat,λx=>⟨[(2,br 0),(3,br 1),(18,lT .aF (eG m)),(19,iT (eG m).length),(20,iT x)],[(0,cj .aP m),(1,.cells [cG a])],2⟩,λx=>x<=(eG m).length/\True,λx=>(eG m).length-x⟩)] ?_;repeat' (first
  |((with_reducible show mt _ _ _ _ _);(conv=>whnf);(fail_if_success with_reducible show mt _ _ _ _ _))
  |intro _|apply aQ
  |refine @aS Nat _ 0 (aQ ?_ λ(x:Nat) (e:x<=(eG m).length/\True)=>?_)
  |refine @aS Nat _ (x+1) ?_
  |refine @aS (List ByteArray) _ [] ?_
  |fail)
 all_goals(try simp only[bz,fI,AE]at*)
 all_goals first|exact bj|omega|with_reducible exact(BW (vg (Cf h))).1|exact Nz (vg (Cf h)) Y|exfalso;exact VH (Cf h) Y Y|exfalso;have b:=Aa (vg (Cf h));simp only[be,bc]at*;omega|have b:=Aa (vg (Cf h));have g:=e.1;simp only[be,bc]at*;omega|exfalso;have b:=Aa (vg (Cf h));simp at*;omega|exact PXv h|rfl
def asu:=eI (.el W.aP) (.int .i64) aEt
def atX:gv prog 110:=gY func110 af rfl
def pY(p:F)(l:List F):List F:=if p.aJ≠0 then l++[p]else l
def rT(p:F)(b:Bool):Bool:=b||decide (p.aJ=1)
@[irreducible] def AL(l:List F):=l.length<=1000000000
def AL.b(h:AL l)(x:F):(l.length+[x].length)*oR.dF<=140737488355328/\l.length+[x].length<=140737488355328:=by unfold AL at h;have e:oR.dF=104:=rfl;have a:[x].length=1:=rfl;rw[e,a];omega
def WY(h:(m.aJ !=0)=true):pY m l=l++[m]:=by unfold pY;rw[aM (an h)]
def ad0(h:(m.aJ !=0)=false):pY m l=l:=by unfold pY;rw[Z (an h)]
def amS(h:U=true):rT m U=true:=by unfold rT;rw[h];rfl
def amR(h:U=false):rT m U=(m.aJ==1):=by unfold rT;rw[h];simp[Bool.beq_eq_decide_eq]
theorem anc(p:F)(b:Bool)(l:List F)(h:AL l):dA prog 110 (bX (cy [(0,.cells [.d (.cK b)]),(1,.cells [.d (.sc (.int .i64 4)),.d (.sc (.int .i64 0)),.d (.sc (.int .i64 0)),.d (.sc (.bool false)),.d (.sc (.slice none 0 0)),.d (.sc (.slice none 0 0)),.aX 2 W.aP (l).length]),(2,.aW (U:=Un) W.aP l)])) ([wE .aP p,.c (.ptr 0 0),.c (.ptr 1 0)].map SE.aI) (bX (cy [(0,.cells [.d (.cK (rT p b))]),(1,.cells [.d (.sc (.int .i64 4)),.d (.sc (.int .i64 0)),.d (.sc (.int .i64 0)),.d (.sc (.bool false)),.d (.sc (.slice none 0 0)),.d (.sc (.slice none 0 0)),.aX 3 W.aP ((pY p l)).length]),(3,.aW (U:=Un) W.aP (pY p l))])) (·∈[0,1]) (ST.cE (U:=Un) []).aI:=by
 refine vO func110 rfl ⟨[],[]⟩ [] [0,1] ⟨[],[(0,.cells [.d (.cK (rT p b))]),(1,.cells [cG 4,cG 0,cG 0,iB,fL,fL,.aX 3 W.aP ((pY p l)).length]),(3,.aW (U:=Un) W.aP (pY p l))],4⟩ ?_;repeat' first|intro _|apply aQ
 all_goals(try simp only[bz,fI]at*)
 all_goals first|exact bj|omega|((with_reducible show(_&&_)=true);kernel_rfl)| (with_reducible first|exact(h.b _).1|exact(h.b _).2)|(rw[ad0 Y];first|done|rfl)|rw[amS Y];done|rw[amR Y];done|show(l.length:Int)<((l.length+1:Nat):Int);omega|show(l.length:Int).toNat<(l++_).length;rw[cX];show _<l.length+1;omega|rw[WY Y,cX];rfl|rw[WY Y,bt,yB _ _ (bK _),rM];rfl
def agv(H:List (Nat×aZ Un))(args:List (SE Un))(K:iA Un->Prop):Prop:=
 match H,args with
 |[(0,.cells [.d (.cK b)]),(1,.cells [.d (.sc (.int .i64 4)),.d (.sc (.int .i64 0)),.d (.sc (.int .i64 0)),.d (.sc (.bool false)),.d (.sc (.slice none 0 0)),.d (.sc (.slice none 0 0)),.aX 2 W.aP n]),(2,.aW W.aP l)],[.agg [.d (.sc (.int .i64 k1)),.d (.sc (.int .i64 a)),.d (.sc (.int .i64 g)),.d (.cK f),.d (.bN W.u32 i),.d (.bN W.aF h),.d (.bN W.aP e)],.c (.ptr 0 0),.c (.ptr 1 0)]=>(n=l.length/\AL l)/\K ⟨.cE [],[(0,.cells [.d (.cK (rT (.mk k1 a (.mk g f i h) e) b))]),(1,.cells [.d (.sc (.int .i64 4)),.d (.sc (.int .i64 0)),.d (.sc (.int .i64 0)),.d (.sc (.bool false)),.d (.sc (.slice none 0 0)),.d (.sc (.slice none 0 0)),.aX 3 W.aP ((pY (.mk k1 a (.mk g f i h) e) l)).length]),(3,.aW (U:=Un) W.aP (pY (.mk k1 a (.mk g f i h) e) l))],[2],[0,1,2]⟩
 |_,_=>False
def aDe:gy prog Un where
 f:=110
 iu:=atX
 run:=agv
 ok H args K h:=by
  unfold agv at h;split at h
  ·rename_i b n l k1 c g e p o d;obtain⟨⟨rfl,m⟩,k⟩:=h;refine⟨_,?_,λu a i=>?_,k⟩
   ·exact(anc (.mk k1 c (.mk g e p o) d) b l m).gL λu a=>by have q:u<3:=a.1;have j:=a.2;simp at j⊢;omega
   ·have:u<3:=a;simp at i;omega
  ·cases h
def HW:J.mk 0 false [] []=zP:=rfl
@[irreducible] def XP(lv:Int)(m:F):=CM (LX 1490 NT) m/\ba m<=20000/\1<=lv/\lv<=4
def jd{lv:Int}{m:F}(h:XP lv m):=(XP.eq_1 ..).mp h
theorem H4.sz{k:Nat}{T:Int->Prop}{m:F}(h:CM (LX k T) m):CM (Sz 1 k) m:=h.imp λp a=>a.ln.sz
def KC{lv:Nat}{T:Int->Prop}:wY cR i lv T:=λt l ht a c=>by
 rw[acF,acF]at c;unfold gn at c;have k1:=ht.kd;have k2:=a.kd;rw[Dj O O,Dj O O,IH,IH]at c;injection c with n c
 have d:=Z6 O O O O n;obtain⟨e,c⟩:=afm ht.a.ln.bR (bK _) 4 _ a.a.ln.bR (bK _) _ _ c;rw[ht.b,a.b,ht.c,a.c,ht.g,a.g]at c;have c:=List.append_cancel_left (List.append_cancel_left c);obtain⟨f,c⟩:=afm ht.d.bR (bK _) 4 _ a.d.bR (bK _) _ _ c;have g:=ht.b.trans a.b.symm;have j:=ht.c.trans a.c.symm;have k:=ht.g.trans a.g.symm;cases t;cases l;simp only at d e g j f k;subst d e g j f k;rfl
def CM.Du{d k:Nat}(j:d<=12)(e:k<=90000){m:F}(h:CM (Sz d k) m):ba m<=1000000000->iz m:=by
 have z:b8 zP:=(Sz.zero 2 140).np O O
 induction h with
 |tt=>intro _;exact .mk _ _ _ _ z ai (λc a=>by simp at a)
 |ff=>intro _;exact .mk _ _ _ _ z ai (λc a=>by simp at a)
 |gE r p l f=>intro _;exact .mk _ _ _ _ (f.np O O) ai (λc a=>by simp at a)
 |node K g hK e i=>intro I;rw[ba]at I;have:=rj g;exact .mk _ _ _ _ z O λc a=>i c a (by have:=wz a;omega)
def afw(e:i<=12)(g:f<=90000){m:F}(h:CM (Sz i f) m):eG m=dY m:=by
 induction h with
 |tt=>rfl
 |ff=>rfl
 |gE r p o l=>rw[eG,dY,aM rfl,aM rfl,l.cB O O]
 |node K n hK g j=>
  rw[eG,dY,Z O,aM hK,Z O];clear g
  induction n with
  |nil=>rfl
  |cons c r a=>rw[n9,iS,j c (b6 ..),a λi e=>j i (cv _ e)]
def aEv{Q:J->Prop}{m:F}(h:CM Q m):∀p∈dY m,Q p:=by
 induction h with
 |tt=>intro p hp;exact absurd hp (by rw[dY,Z ae,iS];simp)
 |ff=>intro p hp;exact absurd hp (by rw[dY,Z ae,iS];simp)
 |gE r p k hp=>intro q e;rw[dY,aM rfl]at e;rw[cL.1 e];exact hp
 |node K g hK i f=>
  intro p hp;rw[dY,Z O]at hp;clear i
  induction g with
  |nil=>rw[iS]at hp;simp at hp
  |cons c r a=>
   rw[iS]at hp;rcases cq.1 hp with hp|hp
   ·exact f c (b6 ..) p hp
   ·exact a (λd j=>f d (cv _ j)) hp
section
variable {lv:Int}{m:F}(h:XP lv m)
include h
def XPl:my lv:=by unfold my;exact(jd h).2.2
def I6:∃v:Nat,lv=v/\1<=v/\v<=4:=⟨lv.toNat,by have:=(jd h).2.2;omega,by have:=(jd h).2.2;omega,by have:=(jd h).2.2;omega⟩
def WT:∀p∈eG m,LX 1490 NT p:=by rw[afw O O (H4.sz (jd h).1)];exact aEv (jd h).1
def XP.hp:HP m lv:=by unfold HP nG;refine⟨⟨(H4.sz (jd h).1).Du O O (by have:=(jd h).2.1;omega),by have:=(jd h).2.1;simp;omega⟩,λp a=>(WT h p a).ln.sz.cz O O,XPl h⟩
def XP.hc:HC m lv:=by unfold HC;obtain⟨v,rfl,d,c⟩:=I6 h;exact⟨h.hp,λp a=>yu ((WT h p a).ln.sz.vd v) ae⟩
def XP.px:PX m lv:=by
 have a:∀{n:F},CM (LX 1490 NT) n->xi lv n:=by
  intro n f;have l:=(jd h).2.2
  induction f with
  |tt=>exact .mk _ _ _ _ (λe=>O) (λe=>O)
  |ff=>exact .mk _ _ _ _ (λe=>O) (λe=>O)
  |gE r p i d=>exact .mk _ _ _ _ (λ_=>by unfold PJ;exact⟨d.ln,l⟩) (λe=>O)
  |node K g hK j c=>exact .mk _ _ _ _ (λe=>O) λ_=>c
 unfold PX;exact⟨h.hc,a (jd h).1,by have:=(jd h).2.1;omega⟩
def XP.Kv:l_ (eG m) lv=fJ m lv:=by unfold l_ fJ;rw[afw O O (H4.sz (jd h).1)]
theorem XP.bu:∀c∈m.aO,XP lv c:=λc a=>by have u:=jd h;unfold XP;refine⟨u.1.bu c a,?_,u.2.2⟩;have e:=wz a;have d:=j8 m;omega
def XP.len:m.aO.length<=20000:=by have c:=rj m.aO;have a:=j8 m;have:=(jd h).2.1;omega
def XP.eZ:∃v:Nat,lv=v/\(∀t∈jM cR m lv,LT 1490 v NT t)/\(jM cR m lv).length<=20001:=by
 have u:=jd h;obtain⟨v,rfl,d,c⟩:=I6 h;have p:=L9 (k:=1490) d c O KC λx a=>(Ja u.1 x a).2
 exact⟨v,rfl,p.1,by have:=p.2.2.2;omega⟩
end
def anZ{lv:Nat}(i:1<=lv)(j:lv<=4){t:bw}(ht:LP lv t){m:F}(h:CM (LX 1490 NT) m):ba m<=20000->tQ lv t m:=by
 induction h with
 |tt=>intro _;exact .mk _ _ _ _ (λe=>O) (λe=>O) (λe=>O)
 |ff=>intro _;exact .mk _ _ _ _ (λe=>O) (λe=>O) (λe=>O)
 |gE r p k d=>intro _;refine .mk _ _ _ _ (λ_=>?_) (λe=>O) (λe=>O);unfold SB PJ;exact⟨⟨d.ln,O,O⟩,ht⟩
 |node K f hK l g=>intro I;rw[ba]at I;have:=rj f;exact .mk _ _ _ _ (λe=>O) (λ_ c a=>g c a (by have:=wz a;omega)) (λ_=>O)
abbrev LO(p:J):Prop:=Ln 4484 p
def NL{lv:Nat}{p:J}(h:LX (3*1490+14) (TL R lv) p):LO p:=h.ln
def LO.rq:∀p,LO p->b8 p/\LO (eQ p):=λp h=>⟨h.np O,h.sn O⟩
def LO.qo:∀p,LO p->QO p:=λp h=>h.sz.up O O
@[irreducible] def XQ(lv:Int)(m:F)(acc:List F)(x:Nat)(b:Bool):Prop:=
  x<=(jM cR m lv).length/\b=false/\(∀c∈acc,CM LO c)/\ck acc<=x*20002/\jI cR m lv=qW m lv ((jM cR m lv).drop x) acc
def Ff{lv:Int}{m:F}{acc:List F}{x:Nat}{b:Bool}(h:XQ lv m acc x b):=(XQ.eq_1 ..).mp h
def amC(lv:Int)(m:F):XQ lv m [] 0 false:=by unfold XQ;exact⟨dz _,rfl,λc a=>by simp at a,by rw[e_];omega,rfl⟩
def uR(lv:Int)(m:F)(t:bw):F:=bF (.mk 3 0 zP [t.g,fG lv t m])
def Xk(m:F)(lv:Int)(t:bw)(l:List bw)(acc:List F):qW m lv (t::l) acc=if(uR lv m t).aJ=1 then .mk 1 0 zP []else qW m lv l (pY (uR lv m t) acc):=by rw[qW];unfold pY uR df;rfl
section
variable {lv:Int}{m:F}(hm:XP lv m){acc:List F}{x:Nat}{b:Bool}(h:XQ lv m acc x b)
include hm h
def Oc:(jM cR m lv).length<=20001/\x<=(jM cR m lv).length/\acc.length<=900000000:=by obtain⟨v,rfl,_,p⟩:=hm.eZ;have u:=Ff h;have:=rj acc;refine⟨p,u.1,?_⟩;have:x*20002<=20001*20002:=jS _ O;omega
def amD:AL acc:=by unfold AL;have:=Oc hm h;omega
def amI:OF (.mk 4 0 zP acc):=by have u:=Ff h;have l:=Oc hm h;have:x*20002<=20001*20002:=jS _ O;exact OF.q (.node 4 acc (.inr rfl) λc a=>(u.2.2.1 c a).imp LO.qo) (by rw[ba];omega)
theorem amF(a:decide ((x:Int)<((jM cR m lv).length:Int))=false):bF (.mk 4 0 zP acc)=jI cR m lv:=by have a:=cQ a;rw[(Ff h).2.2.2.2,mU O,qW];rfl
variable {t:bw}(ht:(jM cR m lv)[((x:Nat):Int).toNat]?=some t)
include ht
theorem WW:∃v:Nat,lv=v/\LT 1490 v NT t:=by obtain⟨v,e,p,_⟩:=hm.eZ;exact⟨v,e,p t (bM ht)⟩
def amE:tQ lv t m:=by obtain⟨v,rfl,p⟩:=WW hm h ht;have u:=jd hm;exact anZ O O (p.lp (bK _)) u.1 u.2.1
def WU:CM LO (.mk 3 0 zP [t.g,fG lv t m])/\ba (.mk 3 0 zP [t.g,fG lv t m])<=200000/\ba (uR lv m t)<=20002:=by
 obtain⟨v,rfl,p⟩:=WW hm h ht;have u:=jd hm;have a:=Ov (k:=1490) (K:=1490) O O O p u.1;have d:CM (LX (3*1490+14) (TL NT v)) t.g:=by rw[p.g];exact .tt
 have e:=CM.Ar d a.cm;have g:=MN t.g (fG v t m);have j:ba t.g=1:=by rw[p.g,ba,e_]
 have:=Si (LX.rq (T:=TL NT v) (show 3*1490+14<=100000 by omega)) (K:=3) (.inl rfl) (l:=[t.g,fG v t m]) (λc hc=>by
  rcases da.1 hc with rfl|hc
  ·exact d.rm
  ·rw[cL.1 hc];exact a.cm.rm) 0 zP
 simp only[zQ]at this;have i:ba (bF t.g)=1:=by rw[p.g,bF,aM rfl];unfold tM;simp[ba,e_]
 have:=a.sz;have:=a.hY;unfold df at e g;unfold uR;exact⟨e.imp λp f=>NL f,O,O⟩
def amH:OF (.mk 3 0 zP [t.g,fG lv t m]):=by have a:=WU hm h ht;exact OF.q (a.1.imp LO.qo) O
theorem WV:(jM cR m lv).drop x=t::(jM cR m lv).drop (x+1):=by rw[bt]at ht;have a:=ns ht;rw[kB a];rw[cN a]at ht;injection ht with ht;rw[ht]
def amG(f:rT (uR lv m t) b=false):XQ lv m (pY (uR lv m t) acc) (x+1) (rT (uR lv m t) b):=by
 have u:=Ff h;have d:=WV hm h ht;have g:x<(jM cR m lv).length:=by rw[bt]at ht;exact ns ht
 unfold rT at f;rw[u.2.1,z6,bc]at f;have c:CM LO (uR lv m t)/\ba (uR lv m t)<=20002:=by have a:=WU hm h ht;exact⟨(tB LO.rq a.1.rm).1,a.2.2⟩
 unfold XQ;refine⟨g,?_,?_,?_,?_⟩
 ·unfold rT;rw[u.2.1,z6,bc];exact f
 ·unfold pY;split
  ·intro e he;rcases cq.1 he with he|he
   ·exact u.2.2.1 e he
   ·rw[cL.1 he];exact c.1
  ·exact u.2.2.1
 ·have:=u.2.2.2.1;unfold pY;split
  ·rw[zO,dW,e_];omega
  ·exact dH this (jS _ (Nat.le_succ x))
 ·refine Eq.trans u.2.2.2.2 ?_;rw[d,Xk,Z f]
def amJ(a:rT (uR lv m t) b=true):jI cR m lv=.mk 1 0 zP []:=by have u:=Ff h;have d:=WV hm h ht;unfold rT at a;rw[u.2.1,z6,be]at a;rw[u.2.2.2.2,d,Xk,aM a]
end
theorem Xy(m:F)(a:Int)(h:XP a m):bh 64 [wE .aP m,wI .i64 a] (tT [.agg ((eF .aP (jI cR m a)).map .d),iE 0]):=by
 refine vG func64 rfl ⟨[asu,arz,CL],[aDe]⟩ [(8,⟨List F×Nat×Bool,λx=>⟨[(1,iT a),(2,br 0),(4,br 1),(8,br 2),(9,br 3),(10,.e (.c (.db 110 [(3,0),(2,0)]))),(27,lT .gi (jM cR m a)),(28,iT (jM cR m a).length),(29,iT x.2.1)],[(0,cj .aP m),(1,cj .aP zM),(2,.cells [cG 4,cG 0,cG 0,iB,fL,fL,.aX 4 W.aP x.1.length]),(3,.cells [.d (.cK x.2.2)]),(4,.aW (U:=Un) W.aP x.1)],5⟩,λx=>XQ a m x.1 x.2.1 x.2.2/\True,λx=>(jM cR m a).length-x.2.1⟩)] ?_;repeat' (first
  |exact(A9 ‹((0:Int) !=0)=true›).elim
  |((with_reducible show mt _ _ _ _ _);(conv=>whnf);(fail_if_success with_reducible show mt _ _ _ _ _))
  |intro _|apply aQ
  |refine @aS (List F×Nat×Bool) _ ([],0,false) (aQ ?_ λ(x:List F×Nat×Bool)(b:XQ a m x.1 x.2.1 x.2.2/\True)=>?_)
  |refine @aS (List F×Nat×Bool) _ (?_,x.2.1+1,?_) ?_
  |fail)
 all_goals(try simp only[bz,fI,HW,AE]at*)
 all_goals first| (with_reducible first|show Int|show List J|show List F|show Nat)|exact bj|with_reducible rfl|omega| (with_reducible first|show Bool|exact h.px|exact amC _ _|exact amD h b.1)|exact amE h b.1 Y|exact amH h b.1 Y|simp only[bz,fI,HW,AE]at*;exact amG h b.1 Y Y|rw[amJ h b.1 Y Y]<;>rfl|with_reducible exact amI h b.1|rw[amF h b.1 Y]<;>rfl|have g:=Oc h b.1;simp only[be,bc]at*;omega|rfl
def jh(lv:Int)(f:Nat)(m:F):F:=mG cR lv f m
theorem J6(lv:Int)(f:Nat)(m:F):jh lv (f+1) m=if fJ m lv=false then m else if m.aJ=4 then bF (kq (m.aO.map (jh lv f)))else if m.aJ=3 then
 (match m.aO.filter (λc=>fJ c lv)with
 |[c]=>if c.aJ=4 then bF (df (m.aO.filter (λc=>!fJ c lv)++[jh lv f c]))else bF (df (m.aO.filter (λc=>!fJ c lv)++[jI cR (df [c]) lv]))
 |inner=>bF (df (m.aO.filter (λc=>!fJ c lv)++[jI cR (df inner) lv])))
 else jI cR m lv:=by unfold jh;rw[mG];rfl
def J7{lv:Int}{f:Nat}{m:F}(h:XP lv m)(a:ba m<=f):CM QO (jh lv f m)/\ba (jh lv f m)<=lZ (ba m):=by have u:=jd h;obtain⟨v,rfl,b,c⟩:=I6 h;have e:=J5 (k:=1490) b c O KC f u.1 a;exact⟨e.cm.imp λp d=>LO.qo p (NL d),e.sz⟩
@[irreducible] def ni(lv:Int)(f:Nat)(m:F)(i:Nat):List F:=(m.aO.take i).map (jh lv f)
@[irreducible] def dm(lv:Int)(m:F)(b:Bool)(i:Nat):List F:=(m.aO.take i).filter λc=>fJ c lv==b
def aaN(lv:Int)(f:Nat)(m:F):ni lv f m 0=[]:=by unfold ni;rfl
def au5(lv:Int)(f:Nat)(m:F):(ni lv f m 0).length=0:=by rw[aaN];rfl
def aaP{lv:Int}{f:Nat}{m:F}(h:m.aO[(i:Int).toNat]?=some c):ni lv f m i++[jh lv f c]=ni lv f m (i+1):=by rw[bt]at h;unfold ni;rw[fy,h,ia];rfl
def au6{lv:Int}{f:Nat}{m:F}(h:m.aO[(i:Int).toNat]?=some c):(ni lv f m i).length+[jh lv f c].length=(ni lv f m (i+1)).length:=by rw[<-aaP h];simp
def abf(lv:Int)(m:F)(b:Bool):dm lv m b 0=[]:=by unfold dm;rfl
def awk(lv:Int)(m:F)(b:Bool):(dm lv m b 0).length=0:=by rw[abf];rfl
def abi{lv:Int}{m:F}(h:m.aO[(i:Int).toNat]?=some c)(a:l_ (eG c) lv=U)(d:XP lv m):dm lv m U i++[c]=dm lv m U (i+1):=by rw[(d.bu c (bM h)).Kv]at a;rw[bt]at h;unfold dm;rw[fy,h,Ir];simp[a]
def awm{lv:Int}{m:F}(h:m.aO[(i:Int).toNat]?=some c)(a:l_ (eG c) lv=U)(d:XP lv m):(dm lv m U i).length+[c].length=(dm lv m U (i+1)).length:=by rw[<-abi h a d];simp
def Qm{lv:Int}{m:F}{b:Bool}(h:m.aO[(i:Int).toNat]?=some c)(a:l_ (eG c) lv=!b)(d:XP lv m):dm lv m b i=dm lv m b (i+1):=by rw[(d.bu c (bM h)).Kv]at a;rw[bt]at h;unfold dm;rw[fy,h,Ir];cases b<;>simp[a]
def abh{lv:Int}{m:F}{b:Bool}(h:m.aO[(i:Int).toNat]?=some c)(a:l_ (eG c) lv=!b)(d:XP lv m):(dm lv m b i).length=(dm lv m b (i+1)).length:=by rw[<-Qm h a d]
section
variable {lv:Int}{m:F}(h:XP lv m)
include h
def aaO(f i:Nat)(x:F):((ni lv f m i).length+[x].length)*oR.dF<=140737488355328/\(ni lv f m i).length+[x].length<=140737488355328:=by
 have c:(ni lv f m i).length<=m.aO.length:=by unfold ni;simp;omega
 have b:=h.len;have e:oR.dF=104:=rfl;have a:[x].length=1:=rfl;rw[e,a];omega
def awl(b:Bool)(i:Nat):(dm lv m b i).length<=20000:=by
 have c:=h.len;have a:(dm lv m b i).length<=(m.aO.take i).length:=by unfold dm;exact Iy _ _
 rw[gw]at a;omega
def abg(b:Bool)(i:Nat)(x:F):((dm lv m b i).length+[x].length)*oR.dF<=140737488355328/\(dm lv m b i).length+[x].length<=140737488355328:=by have c:=awl h b i;have e:oR.dF=104:=rfl;have a:[x].length=1:=rfl;rw[e,a];omega
theorem Kg(a:c∈dm lv m U i):c∈m.aO:=by unfold dm at a;exact nE (jr.1 a).1
def AK{f:Nat}(hv:(!l_ (eG m) lv)=true):jh lv (f+1) m=m:=by rw[h.Kv]at hv;rw[J6,aM (an hv)]
variable {f:Nat}(hv:(!l_ (eG m) lv)=false)
include hv
def P8:¬fJ m lv=false:=by rw[h.Kv]at hv;simpa using hv
def AJ(b:(m.aJ==4)=true)(a:decide ((i:Int)<m.aO.length)=false):bF (.mk 4 0 zP (ni lv f m i))=jh lv (f+1) m:=by have a:=cQ a;rw[J6,Z (P8 h hv),aM (an b)];unfold ni;rw[eL O];rfl
def AI(a:(m.aJ==4)=false)(b:(m.aJ==3)=false):jh lv (f+1) m=jI cR m lv:=by rw[J6,Z (P8 h hv),Z (an a),Z (an b)]
theorem abj{b:Bool}(a:decide ((i:Int)<m.aO.length)=false):dm lv m b i=m.aO.filter λc=>fJ c lv==b:=by have a:=cQ a;unfold dm;rw[eL O]
theorem P6(b:(m.aJ==4)=false)(d:(m.aJ==3)=true)(a:decide ((i:Int)<m.aO.length)=false):jh lv (f+1) m=(match dm lv m true i with
 |[c]=>if c.aJ=4 then bF (df (dm lv m false i++[jh lv f c]))else bF (df (dm lv m false i++[jI cR (df [c]) lv]))
 |inner=>bF (df (dm lv m false i++[jI cR (df inner) lv]))):=by
 have e:(λc=>fJ c lv==true)=λc=>fJ c lv:=by funext c;cases fJ c lv<;>rfl
 have g:(λc=>fJ c lv==false)=λc=>!fJ c lv:=by funext c;cases fJ c lv<;>rfl
 rw[J6,Z (P8 h hv),Z (an b),aM (an d),abj h hv a,abj h hv a,e,g]
def au7(e:(m.aJ==4)=false)(g:(m.aJ==3)=true)(j:decide ((i:Int)<m.aO.length)=false)(b:(((dm lv m true i).length:Int)==1)=true)(a:(dm lv m true i)[(0:Int).toNat]?=some c)(k:(c.aJ==4)=true):
 bF (.mk 3 0 zP (dm lv m false i++[jh lv f c]))=jh lv (f+1) m:=by
 have b:((dm lv m true i).length:Int)=1:=an b;rw[P6 h hv e g j];generalize dm lv m true i=l at*
 match l,b,a with
 |[d],_,a=>have a:d=c:=an a;subst a;simp only;rw[aM (an k)];rfl
def au8(b:(m.aJ==4)=false)(e:(m.aJ==3)=true)(g:decide ((i:Int)<m.aO.length)=false)(a:(dm lv m true i)[(0:Int).toNat]?=some c)(j:(c.aJ==4)=false):
 bF (.mk 3 0 zP (dm lv m false i++[jI cR (.mk 3 0 zP (dm lv m true i)) lv]))=jh lv (f+1) m:=by
 rw[P6 h hv b e g];generalize dm lv m true i=l at*;split
 ·rename_i d;have a:d=c:=an a;subst a;rw[Z (an j)];rfl
 ·rfl
def au9(b:(m.aJ==4)=false)(c:(m.aJ==3)=true)(d:decide ((i:Int)<m.aO.length)=false)(a:(((dm lv m true i).length:Int)==1)=false):
 bF (.mk 3 0 zP (dm lv m false i++[jI cR (.mk 3 0 zP (dm lv m true i)) lv]))=jh lv (f+1) m:=by
 have a:¬((dm lv m true i).length:Int)=1:=an a;rw[P6 h hv b c d];generalize dm lv m true i=l at*;split
 ·exact absurd rfl a
 ·rfl
end
section
variable {lv:Int}{m:F}(h:XP lv m)
include h
def aaS:CM QO m:=(jd h).1.imp λp a=>a.ln.sz.up O O
def aDH(n:(m.aJ==4)=true){f:Nat}(o:ba m<=f+1)(i:Nat):OF (.mk 4 0 zP (ni lv f m i)):=by
 have j:=j8 m;have e:∀c∈m.aO.take i,XP lv c/\ba c<=f:=λc a=>by have g:=nE a;have:=wz g;exact⟨h.bu c g,O⟩
 have b:=OL (l:=m.aO.take i) (f:=jh lv f) λc a=>(J7 (e c a).1 (e c a).2).2
 have g:ck (m.aO.take i)+ck (m.aO.drop i)=ck m.aO:=by rw[<-zO,o0]
 have q:=(jd h).2.1;have p:(ck (m.aO.take i)+3)*(ck (m.aO.take i)+3)<=20003*20003:=yF O O;unfold ni;refine OF.q (.node 4 _ (.inr rfl) λd k=>?_) ?_
 ·obtain⟨c,a,rfl⟩:=b_.1 k;exact(J7 (e c a).1 (e c a).2).1
 ·rw[ba];omega
def abl(b:Bool)(i:Nat):ck (dm lv m b i)<=19999:=by
 have e:ck (m.aO.take i)+ck (m.aO.drop i)=ck m.aO:=by rw[<-zO,o0]
 have a:=(jd h).2.1;rw[j8]at a;have d:=Uc (λc=>fJ c lv==b) (m.aO.take i);unfold dm;omega
def ajC(b:Bool)(i:Nat):XP lv (.mk 3 0 zP (dm lv m b i)):=by have u:=jd h;unfold XP;exact⟨.node 3 _ (.inl rfl) λc a=>u.1.bu c (Kg h a),by rw[ba];have:=abl h b i;omega,u.2.2⟩
def aeT(i:Nat)(b:CM QO c)(I:ba c<=900000000):OF (.mk 3 0 zP (dm lv m false i++[c])):=by
 refine OF.q (.node 3 _ (.inl rfl) λa hc=>?_) ?_
 ·rcases cq.1 hc with hc|hc
  ·exact(aaS h).bu a (Kg h hc)
  ·rw[cL.1 hc];exact b
 ·have:=abl h false i;rw[ba,zO,dW,e_];omega
def abk{j:Nat}(a:(dm lv m U i)[j]?=some c):XP lv c:=h.bu c (Kg h (bM a))
def abm{j:Nat}(a:(dm lv m U i)[j]?=some c):ba c+1<=ba m:=by have d:=wz (Kg h (bM a));rw[j8 m];omega
theorem ayp(a:m.aO[i]?=some c):ba c+1<=ba m:=by have b:=wz (bM a);rw[j8 m];omega
def aDG(a:Nat){f:Nat}(d:ba m<=f+1)(b:(dm lv m true a)[i]?=some c):OF (.mk 3 0 zP (dm lv m false a++[jh lv f c])):=by have k:=abk h b;have s:=abm h b;have e:=J7 (f:=f) k O;refine aeT h a e.1 (dH e.2 ?_);have:=(jd k).2.1;unfold lZ;exact dH (yF (show ba c+2<=20002 by omega) (show ba c+2<=20002 by omega)) O
def aeU(i:Nat):OF (.mk 3 0 zP (dm lv m false i++[jI cR (.mk 3 0 zP (dm lv m true i)) lv])):=by have k:=jd (ajC h true i);obtain⟨v,rfl,c,b⟩:=I6 h;have e:=Ow (k:=1490) c b O KC k.1;refine aeT h i (e.cm.imp λp a=>LO.qo p (NL a)) (dH e.sz ?_);have:=k.2.1;unfold lZ;generalize ba (.mk 3 0 zP (dm (v:Int) m true i))=s at*;exact dH (yF (show s+2<=20002 by omega) (show s+2<=20002 by omega)) O
def aw2(a:m.aO[i]?=some c):HP c lv:=(h.bu c (bM a)).hp
end
def aD4(l:List F):(SV.aX (U:=Un) 0 W.aP l.length).aI.cA 0 (bG (U:=Un) W.aP l)=(SV.d (U:=Un) (.bN W.aP l)).aI:=(G2 Vw (φ:=True) (show zy (U:=Un) 0 W.aP l (.aX 0 W.aP l.length) True from⟨rfl,trivial⟩)).2.symm
def Xr(k lv:Int)(n:Nat):List (SE Un):=[.agg [.d (.sc (.int .i64 k)),.d (.sc (.int .i64 0)),.d (.sc (.int .i64 0)),.d (.sc (.bool false)),.d (.sc (.slice none 0 0)),.d (.sc (.slice none 0 0)),.aX 0 W.aP n],.c (.d (.sc (.int .i64 lv)))]
def an6(k lv:Int)(l:List F):(((Xr k lv l.length).map SE.aI).map (E.cA 0 (bG (U:=Un) W.aP l))).map E.cB=[(wE .aP (.mk k 0 zP l)).aI,(wI .i64 lv).aI]:=by have e:=aD4 l;unfold Xr;simp only[de,gW,SE.aI,E.cA,E.cB,e];rfl
def aut:gv prog 64:=gY func64 af rfl
def agx(H:List (Nat×aZ Un))(args:List (SE Un))(K:iA Un->Prop):Prop:=
 match H,args with
 |[],[.agg [.d (.sc (.int .i64 k)),.d (.sc (.int .i64 r)),.d (.sc (.int .i64 a)),.d (.cK b),.d (.bN W.u32 c),.d (.bN W.aF d),.d (.bN W.aP q)],.c (.d (.sc (.int .i64 lv)))]=>XP lv (.mk k r (.mk a b c d) q)/\K ⟨tT [.agg ((eF .aP (jI cR (.mk k r (.mk a b c d) q) lv)).map .d),iE 0],[],[],[]⟩
 |[(0,.aW W.aP l)],[.agg [.d (.sc (.int .i64 k)),.d (.sc (.int .i64 0)),.d (.sc (.int .i64 0)),.d (.sc (.bool false)),.d (.sc (.slice none 0 0)),.d (.sc (.slice none 0 0)),.aX 0 W.aP n],.c (.d (.sc (.int .i64 lv)))]=>(n=l.length/\XP lv (.mk k 0 zP l))/\K ⟨tT [.agg ((eF .aP (jI cR (.mk k 0 zP l) lv)).map .d),iE 0],[],[0],[0]⟩
 |_,_=>False
def aDg:gy prog Un where
 f:=64
 iu:=aut
 run:=agx
 ok H args K h:=by
  unfold agx at h;split at h
  ·rename_i k r a b c d q lv;refine⟨_,?_,λu j o=>absurd j (oi _),h.2⟩;exact dA.gL (stay':=λu=>u<0/\¬u∈[]) (Xy (.mk k r (.mk a b c d) q) lv h.1) λu j=>absurd j.1 (oi _)
  ·rename_i l k n lv;obtain⟨⟨t,s⟩,p⟩:=h;subst t;refine⟨_,?_,λu j o=>?_,p⟩
   ·have g:lW prog 64 [(wE .aP (.mk k 0 zP l)).aI,(wI .i64 lv).aI] _:=Xy (.mk k 0 zP l) lv s;rw[<-an6]at g;exact dA.arf (aU:=λu=>u<1/\¬u∈[0]) (λu j e=>j.2 (by rw[e];simp)) g
   ·have h3:u<1:=j;simp at o;omega
  ·cases h
@[irreducible] def xX(lv:Int)(f:Nat)(m:F)(x:Nat):F:=jh lv f (((dm lv m true x)[(0:Int).toNat]?).getD zM)
@[irreducible] def wv(lv:Int)(m:F)(x:Nat):F:=jI cR (.mk 3 0 zP (dm lv m true x)) lv
def zD{lv:Int}{f:Nat}{m:F}{x:Nat}(a:(dm lv m true x)[(0:Int).toNat]?=some c):jh lv f c=xX lv f m x:=by unfold xX;rw[a];rfl
def xY(lv:Int)(m:F)(x:Nat):jI cR (.mk 3 0 zP (dm lv m true x)) lv=wv lv m x:=by unfold wv;rfl
@[irreducible] def PK(lv:Int)(f:Nat)(m:F)(x:Nat)(q:F):Prop:=OF (.mk 3 0 zP (dm lv m false x++[q]))/\bF (.mk 3 0 zP (dm lv m false x++[q]))=jh lv (f+1) m
def PKo{lv:Int}{f:Nat}{m:F}{x:Nat}(h:PK lv f m x c):OF (.mk 3 0 zP (dm lv m false x++[c])):=by unfold PK at h;exact h.1
def Al{lv:Int}{f:Nat}{m:F}{x:Nat}(h:PK lv f m x c):bF (.mk 3 0 zP (dm lv m false x++[c]))=jh lv (f+1) m:=by unfold PK at h;exact h.2
section
variable {lv:Int}{m:F}(h:XP lv m){f:Nat}(hv:(!l_ (eG m) lv)=false)(h4:(m.aJ==4)=false)(h3:(m.aJ==3)=true){i:Nat}(hx:decide ((i:Int)<(m.aO.length:Int))=false)
include h hv h4 h3 hx
def alY(b:(((dm lv m true i).length:Int)==1)=true)(d:(c.aJ==4)=true)(a:(dm lv m true i)[(0:Int).toNat]?=some c)(I:ba m<=f+1):PK lv f m i (xX lv f m i):=by unfold PK;rw[<-zD a];exact⟨aDG h i I a,au7 h hv h4 h3 hx b a d⟩
def alZ(a:(dm lv m true i)[(0:Int).toNat]?=some c)(b:(c.aJ==4)=false):PK lv f m i (wv lv m i):=by unfold PK;rw[<-xY];exact⟨aeU h i,au8 h hv h4 h3 hx a b⟩
def al0(a:(((dm lv m true i).length:Int)==1)=false):PK lv f m i (wv lv m i):=by unfold PK;rw[<-xY];exact⟨aeU h i,au9 h hv h4 h3 hx a⟩
end
theorem avb(lv:Int)(f:Nat)(m:F)(h:XP lv m)(I:ba m<=f):bh 32 [wE .aP m,wI .i64 lv] (tT [.agg ((eF .aP (jh lv f m)).map .d),iE 0]):=by
 induction f generalizing m
 case zero=>have:=zN m;omega
 rename_i f j;have e:∀(c:F)(l:Int),(XP lv c/\ba c<=f/\l=lv)->bh 32 [wE .aP c,wI .i64 l] (tT [.agg ((eF .aP (jh l f c)).map .d),iE 0]):=λc l n=>by obtain⟨p,o,rfl⟩:=n;exact j c p o
 clear j;obtain⟨q,a⟩:∃q,q=jh lv (f+1) m:=⟨_,rfl⟩;rw[<-a];refine vG func32 rfl ⟨[ar1,CL,uq Vw 32 (.el W.aP) (.int .i64) (λ(c:F)(l:Int)=>XP lv c/\ba c<=f/\l=lv) (λ(c:F)(l:Int)=>tT [.agg ((eF .aP (jh l f c)).map .d),iE 0]) e],[aDg]⟩ [(7,⟨Nat,λx=>⟨[(1,iT lv),(2,br 0),(4,br 1),(6,br 2),(30,lT .aP m.aO),(31,iT m.aO.length),(32,iT x)],[(0,cj .aP m),(1,cj .aP zM),(2,.cells [cG 4,cG 0,cG 0,iB,fL,fL,.aX 3 W.aP (ni lv f m x).length]),(3,.aW (U:=Un) W.aP (ni lv f m x))],4⟩,λx=>x<=m.aO.length/\True,λx=>m.aO.length-x⟩),(19,⟨Nat,λx=>⟨[(1,iT lv),(2,br 0),(4,br 1),(11,br 2),(12,br 3),(60,lT .aP m.aO),(61,iT m.aO.length),(62,iT x)],[(0,cj .aP m),(1,cj .aP zM),(2,.cells [cG 3,cG 0,cG 0,iB,fL,fL,.aX 4 W.aP (dm lv m false x).length]),(3,.cells [cG 3,cG 0,cG 0,iB,fL,fL,.aX 5 W.aP (dm lv m true x).length]),(4,.aW (U:=Un) W.aP (dm lv m false x)),(5,.aW (U:=Un) W.aP (dm lv m true x))],6⟩,λx=>x<=m.aO.length/\True,λx=>m.aO.length-x⟩),(4000029,⟨Nat,λx=>⟨[(4,br 1),(11,br 2),(15,br 3)],[(1,cj .aP zM),(2,.cells [cG 3,cG 0,cG 0,iB,fL,fL,.aX 4 W.aP (dm lv m false x).length]),(3,cj .aP (xX lv f m x)),(4,.aW (U:=Un) W.aP (dm lv m false x))],5⟩,λx=>PK lv f m x (xX lv f m x)/\True,λ_=>0⟩),(6000014,⟨Nat,λx=>⟨[(4,br 1),(6,br 2)],[(1,cj .aP zM),(2,.cells [cG 4,cG 0,cG 0,iB,fL,fL,.d (.bN W.aP (ni lv f m x))])],3⟩,λx=>decide ((x:Int)<m.aO.length)=false/\True,λ_=>0⟩),(6000030,⟨Nat,λx=>⟨[(4,br 1),(11,br 2)],[(1,cj .aP zM),(2,.cells [cG 3,cG 0,cG 0,iB,fL,fL,.d (.bN W.aP (dm lv m false x++[xX lv f m x]))])],3⟩,λx=>PK lv f m x (xX lv f m x)/\True,λ_=>0⟩),(4000034,⟨Nat,λx=>⟨[(4,br 1),(11,br 2),(17,br 3)],[(1,cj .aP zM),(2,.cells [cG 3,cG 0,cG 0,iB,fL,fL,.aX 4 W.aP (dm lv m false x).length]),(3,cj .aP (wv lv m x)),(4,.aW (U:=Un) W.aP (dm lv m false x))],5⟩,λx=>PK lv f m x (wv lv m x)/\True,λ_=>0⟩),(6000035,⟨Nat,λx=>⟨[(4,br 1),(11,br 2)],[(1,cj .aP zM),(2,.cells [cG 3,cG 0,cG 0,iB,fL,fL,.d (.bN W.aP (dm lv m false x++[wv lv m x]))])],3⟩,λx=>PK lv f m x (wv lv m x)/\True,λ_=>0⟩)] ?_;repeat' (first
  |exact(A9 ‹((0:Int) !=0)=true›).elim
  |((with_reducible show mt _ _ _ _ _);(conv=>whnf);(fail_if_success with_reducible show mt _ _ _ _ _))
  |intro _|apply aQ
  |refine @aS (Nat->Prop) _ (λ_=>True) (@aS Nat _ u (aQ ?_ λ(v:Nat) (hv:PK lv f m v (xX lv f m v)/\True) _=>?_))
  |refine @aS (Nat->Prop) _ (λ_=>True) (@aS Nat _ u (aQ ?_ λ(v:Nat) (hv:PK lv f m v (wv lv m v)/\True) _=>?_))
  |refine @aS (Nat->Prop) _ (λ_=>True) (@aS Nat _ x (aQ ?_ λ(u:Nat) (k:PK lv f m u (xX lv f m u)/\True) _=>?_))
  |refine @aS (Nat->Prop) _ (λ_=>True) (@aS Nat _ x (aQ ?_ λ(u:Nat) (k:PK lv f m u (wv lv m u)/\True) _=>?_))
  |refine @aS (Nat->Prop) _ (λ_=>True) (@aS Nat _ x (aQ ?_ λ(v:Nat) (hv:decide ((v:Int)<m.aO.length)=false/\True) _=>?_))
  |refine @aS Nat _ 0 (aQ ?_ λ(x:Nat)(hx:x<=m.aO.length/\True)=>?_)
  |refine @aS Nat _ (x+1) ?_
  |fail)
 all_goals(try clear e)
 all_goals(try simp only[bz,fI,HW,AE]at*)
 all_goals first|exact bj|omega|with_reducible exact h.hp|exact bi (λq:F=>q.aJ) ((a.trans (AK h Y)).symm)|exact bi (λq:F=>q.bU) ((a.trans (AK h Y)).symm)|exact bi (λq:F=>q.aF.aK) ((a.trans (AK h Y)).symm)|exact bi (λq:F=>q.aF.neg) ((a.trans (AK h Y)).symm)|exact bi (λq:F=>q.aF.aC) ((a.trans (AK h Y)).symm)|exact bi (λq:F=>q.aF.aL) ((a.trans (AK h Y)).symm)|exact bi (λq:F=>q.aO) ((a.trans (AK h Y)).symm)| (with_reducible first|exact aaN _ _ _|exact au5 _ _ _|exact abf _ _ _|exact awk _ _ _|exact aaP Y|exact au6 Y|exact(aaO h _ _ _).1|exact(aaO h _ _ _).2|exact(abg h _ _ _).1|exact(abg h _ _ _).2|exact abi Y Y h|exact awm Y Y h)|exact Qm (b:=false) Y ‹l_ _ _=true› h|exact abh (b:=false) Y ‹l_ _ _=true› h|exact Qm (b:=true) Y ‹l_ _ _=false› h|exact abh (b:=true) Y ‹l_ _ _=false› h| (with_reducible first|exact aw2 h Y|exact abk h Y|exact h.bu _ (bM Y)|exact ajC h _ _)|have g:=abm h Y;omega|have g:=ayp h Y;omega|with_reducible exact aDH h Y I _|exact bi (λq:F=>q.aJ) ((AJ h Y Y hv.1).trans a.symm)|exact bi (λq:F=>q.bU) ((AJ h Y Y hv.1).trans a.symm)|exact bi (λq:F=>q.aF.aK) ((AJ h Y Y hv.1).trans a.symm)|exact bi (λq:F=>q.aF.neg) ((AJ h Y Y hv.1).trans a.symm)|exact bi (λq:F=>q.aF.aC) ((AJ h Y Y hv.1).trans a.symm)|exact bi (λq:F=>q.aF.aL) ((AJ h Y Y hv.1).trans a.symm)|exact bi (λq:F=>q.aO) ((AJ h Y Y hv.1).trans a.symm)|exact alY h Y Y Y Y Y Y Y I|exact alZ h Y Y Y Y Y Y|exact al0 h Y Y Y Y Y| (with_reducible first|exact k.1|exact PKo hv.1)|exact bi (λq:F=>q.aJ) (zD Y)|exact bi (λq:F=>q.bU) (zD Y)|exact bi (λq:F=>q.aF.aK) (zD Y)|exact bi (λq:F=>q.aF.neg) (zD Y)|exact bi (λq:F=>q.aF.aC) (zD Y)|exact bi (λq:F=>q.aF.aL) (zD Y)|exact bi (λq:F=>q.aO) (zD Y)|exact bi (λq:F=>q.aJ) (xY _ _ _)|exact bi (λq:F=>q.bU) (xY _ _ _)|exact bi (λq:F=>q.aF.aK) (xY _ _ _)|exact bi (λq:F=>q.aF.neg) (xY _ _ _)|exact bi (λq:F=>q.aF.aC) (xY _ _ _)|exact bi (λq:F=>q.aF.aL) (xY _ _ _)|exact bi (λq:F=>q.aO) (xY _ _ _)|exact bi (λq:F=>q.aJ) ((Al hv.1).trans a.symm)|exact bi (λq:F=>q.bU) ((Al hv.1).trans a.symm)|exact bi (λq:F=>q.aF.aK) ((Al hv.1).trans a.symm)|exact bi (λq:F=>q.aF.neg) ((Al hv.1).trans a.symm)|exact bi (λq:F=>q.aF.aC) ((Al hv.1).trans a.symm)|exact bi (λq:F=>q.aF.aL) ((Al hv.1).trans a.symm)|exact bi (λq:F=>q.aO) ((Al hv.1).trans a.symm)|exact bi (λq:F=>q.aJ) ((a.trans (AI h Y Y Y)).symm)|exact bi (λq:F=>q.bU) ((a.trans (AI h Y Y Y)).symm)|exact bi (λq:F=>q.aF.aK) ((a.trans (AI h Y Y Y)).symm)|exact bi (λq:F=>q.aF.neg) ((a.trans (AI h Y Y Y)).symm)|exact bi (λq:F=>q.aF.aC) ((a.trans (AI h Y Y Y)).symm)|exact bi (λq:F=>q.aF.aL) ((a.trans (AI h Y Y Y)).symm)|exact bi (λq:F=>q.aO) ((a.trans (AI h Y Y Y)).symm)|have g:=h.len;simp only[be,bc]at*;omega|rw[cX];done|simp only[gQ]at*;omega|rfl
def Zf:Ct prog Un:=uq Vw 32 (.el W.aP) (.int .i64) (λ(m:F)(lv:Int)=>XP lv m) (λ(m:F)(lv:Int)=>tT [.agg ((eF .aP (jh lv (ba m) m)).map .d),iE 0]) (λm lv h=>avb lv (ba m) m h (bK _))
def aaM(m:F)(lv:Int):jh lv (ba (bF m)) (bF m)=oW cR m lv:=rfl
@[irreducible] def XR(m:F)(lv:Int):=XP lv m
def Aq{m:F}{lv:Int}(h:XR m lv):=(XR.eq_1 ..).mp h
def ao_(h:i<=20000):lZ i<=900000000:=by unfold lZ;exact dH (yF (show i+2<=20002 by omega) (show i+2<=20002 by omega)) O
def XP.so{m:F}{lv:Int}(h:XP lv m):XP lv (bF m):=by have u:=jd h;obtain⟨a,_,c⟩:=tB (LX.rq (T:=NT) (show 1490<=100000 by omega)) u.1.rm;unfold XP;exact⟨a,O,u.2.2⟩
def XP.sn{m:F}{lv:Int}(h:XP lv m):XP lv (dS m):=by have u:=jd h;obtain⟨a,_,c⟩:=DA (LX.rn (T:=NT) (show 1490<=100000 by omega)) u.1.rm;unfold XP;exact⟨a,O,u.2.2⟩
def XP.of{m:F}{lv:Int}(h:XP lv m):OF m:=OF.q (aaS h) (by have:=(jd h).2.1;omega)
section
variable {m:F}{lv:Int}(h:XR m lv)
include h
theorem XR.hc:HC m lv:=(Aq h).hc
theorem XR.of:OF m:=(Aq h).of
def XR.ex:XP lv (bF m):=(Aq h).so
def XR.mk:iz m:=(H4.sz (jd (Aq h)).1).Du O O (by have:=(jd (Aq h)).2.1;omega)
def XR.ofn:OF (dS m):=(Aq h).sn.of
def XR.Qa:XP lv (bF (dS m)):=(Aq h).sn.so
theorem XR.e:CM QO (oW cR (dS m) lv)/\ba (oW cR (dS m) lv)<=900000000:=by have e:=J7 (f:=ba (bF (dS m))) h.Qa (bK _);exact⟨e.1,dH e.2 (ao_ (jd h.Qa).2.1)⟩
def XR.mkr:iz (oW cR (dS m) lv):=CM.Du (d:=12) (k:=60000) O O h.e.1 (dH h.e.2 ae)
def XR.ofr:OF (dS (oW cR (dS m) lv)):=by obtain⟨b,c,a⟩:=DA QO.rn h.e.1.rm;exact OF.q b (dH a (dH h.e.2 ae))
end
theorem VC(m:F)(lv:Int)(h:XR m lv):bh 11 [wE .aP m,wI .i64 lv] (tT [.agg ((eF .aP (oW cR m lv)).map .d),iE 0]):=by
 refine vF func11 rfl [Zb,CL,Zf] [] ?_;repeat' first|exact(A9 ‹((0:Int) !=0)=true›).elim|intro _|apply aQ
 all_goals(try simp only[bz,fI,HW,AE,aaM]at*)
 all_goals first|exact bj| (with_reducible first|exact h.hc|exact h.of|exact h.ex)
def ars:=eI (.el W.aP) (.int .i64) VC
theorem VD(m:F)(lv:Int)(h:XR m lv):bh 12 [wE .aP m,wI .i64 lv] (tT [.agg ((eF .aP (wN cR m lv)).map .d),iE 0]):=by
 refine vF func12 rfl [Zb,CL,Zf,Pt] [] ?_;repeat' first|exact(A9 ‹((0:Int) !=0)=true›).elim|intro _|apply aQ
 all_goals(try simp only[bz,fI,HW,AE,aaM]at*)
 all_goals first|exact bj| (with_reducible first|exact h.hc|exact h.mk|exact h.ofn|exact h.Qa|exact h.mkr|exact h.ofr)|rfl
def art:=eI (.el W.aP) (.int .i64) VD
def ve.xr{lv:Int}(h:ve m lv):XR m lv:=by unfold ve at h;obtain⟨a,b,k,T,c,d,I⟩:=h;unfold XR XP;exact⟨d.imp λp e=>(e.ln.up c).nt,I,a,b⟩
def exC:Ia:=λm a h=>VC m a h.xr
def alC:HZ:=λm a h=>VD m a h.xr
def arO:Ct prog Un:=arN exC alC
end Go.Proofs.YtfbmhjooliccnaaGreatDoor
namespace Go.Proofs.YtfbmhjooliccnaaGreatDoor
open Go Go.Ab Go.Ab.VS Go.Proofs.Tryz
variable {k a:Nat}{R Q:J→Prop}{m:F}
def LX.tm{T a:Int->Prop}{p:J}(h:LX k T p)(b:∀w,a w->T w):LX k a p:=⟨h.ln,λw c=>h.ix w (b w c)⟩
def OJ{b:Nat}(h:a<=b):lZ a<=lZ b:=by unfold lZ;exact yF O O
structure EL(k:Nat)(T:Int->Prop)(s:Nat)(m:F):Prop where
 cm:CM (LX k T) m
 sz:ba m<=s
 MD:rR m
def P9{lv:Nat}(g:1<=lv)(i:lv<=4)(j:3*k+14<=50000){T:Int->Prop}(f:CM (LX k T) m):EL (3*k+14) (TL T lv) (lZ (ba m)) (oW cR m lv)/\∀d,tr d (oW cR m lv)=true↔∃v,tr (up d lv v) m=true:=by obtain⟨a,b,c⟩:=tB (LX.rq (T:=T) (show k<=100000 by omega)) f.rm;have e:=J5 g i j KC (ba (bF m)) a (bK _);have s:=DC (show k<=100000 by omega) f.rm;refine⟨⟨e.cm,dH e.sz (OJ c),e.MD s⟩,λd=>?_⟩;have:=e.tr d;simp only[b]at this;exact this
def W_{lv:Nat}(d:1<=lv)(f:lv<=4)(g:3*k+14<=50000){T:Int->Prop}(i:CM (LX k T) m):EL (3*k+14) (TL T lv) (lZ (ba m)) (wN cR m lv)/\∀a,tr a (wN cR m lv)=true↔∀v,tr (up a lv v) m=true:=by
 obtain⟨j,l,n⟩:=DA (LX.rn (T:=T) (show k<=100000 by omega)) i.rm;obtain⟨e,o⟩:=P9 d f g j;obtain⟨b,q,r⟩:=DA (LX.rn (T:=TL T lv) (show 3*k+14<=100000 by omega)) e.cm.rm;obtain⟨t,u,w⟩:=tB (LX.rq (T:=TL T lv) (show 3*k+14<=100000 by omega)) b.rm;have s:=DC (show 3*k+14<=100000 by omega) b.rm;refine⟨⟨t,dH w (dH r (dH e.sz (OJ n))),s⟩,λa=>?_⟩;show tr a (bF (dS (oW cR (dS m) lv)))=true↔_;rw[u,q,BM,Bool.eq_false_iff,Ne,o];simp only[l,BM];constructor
 ·intro h v;cases e:tr (up a lv v) m with
  |true=>rfl
  |false=>exact absurd ⟨v,e⟩ h
 ·rintro h ⟨v,c⟩;rw[h v]at c;cases c
def aCx(o:∀p,R p->b8 p)(d:ay):∀{m:F},RM R m->tr d (b9 m)=tr d m:=by
 intro m h
 induction h with
 |mk k r p q s v t=>
  rw[b9];by_cases e:k=1
  ·rw[aM e,tr,tr,aM rfl,aM e]
  rw[Z e];by_cases f:k=2
  ·rw[aM f,tr,tr,Z ae,aM rfl,Z e,aM f,af6,wj (o p (s f))]
  rw[Z f];by_cases g:k=3\/k=4
  ·have i:∀l:List F,(∀c∈l,tr d (b9 c)=tr d c)->eV d (qn l)=eV d l/\fq d (qn l)=fq d l:=by
    intro l
    induction l with
    |nil=>intro _;rw[qn];exact⟨rfl,rfl⟩
    |cons m r j=>
     intro n;have a:=n m (b6 ..);have b:=j λc u=>n c (cv _ u)
     rw[qn,eV,eV,fq,fq,a,b.1,b.2];exact⟨rfl,rfl⟩
   have k2:=i q (t g);rw[aM g,tr,tr,k2.1,k2.2];simp only[e,f,lM]
  ·rw[Z g];unfold zM;rw[tr,tr,Z ae,Z ae,Z ae,Z ae,Z e,Z f,Z O,Z O]
def aCw(h:∀p,R p->Q (dT p))(b:RM R m):RM Q (b9 m):=by
 induction b with
 |mk k r p n f o g=>
  rw[b9];split
  ·exact .mk _ _ _ _ (λe=>O) λe=>by omega
  ·split
   ·rename_i i;exact .mk _ _ _ _ (λ_=>h p (f i)) λe=>by omega
   ·split
    ·rename_i j;refine .mk _ _ _ _ (λe=>O) λ_ c a=>?_
     rw[GY]at a;obtain⟨d,l,rfl⟩:=b_.1 a;exact g j d l
    ·exact .mk _ _ _ _ (λe=>O) λe=>by omega
def aFR(g:RM R m):(∀p∈dY (b9 m),Q p)->RM (λp=>R p/\Q (dT p)) m:=by
 induction g with
 |mk k r p i j n l=>
  intro b;refine .mk k r p i (λd=>⟨j d,b _ ?_⟩) λe c f=>l e c f λq a=>b q ?_
  ·subst d;rw[b9,Z ae,aM rfl,dY,aM rfl];exact cL.2 rfl
  ·rw[b9,Z O,Z O,aM e,dY,Z O,GY];exact S6 a (b_.2 ⟨c,f,rfl⟩)
theorem adL{p:J}:∀{l:List J},p∈l->p.aK<=nX l
 |q::r,h=>by
  rw[nX];rcases da.1 h with rfl|h
  ·exact Int.le_max_left _ _
  ·exact yu (adL h) (Int.le_max_right _ _)
structure og(p:dK):Prop where
 dg:qJ p.aP
 few:uw p 7=true
 val:nB p=true
 iP:p.iP<=0
 all:p.all.length<=3
 tot:∀q∈dY (b9 p.aP),h_ q<=1
section
variable {p:dK}(h:og p)
include h
def og.fm:iz p.aP/\ba p.aP<=7/\RM RF p.aP:=by have:=h.few;unfold uw at this;simp only[ej]at this;have b:=aa5 O this.2.2 h.dg;have a:=this.2.2;unfold xA at a;simp only[be]at a;exact⟨b.1,O,Ti _ _ _ a h.dg⟩
def og.f0:p.iP=0/\oI p.aP<=(p.all.length:Int):=by have v:=h.val;unfold nB at v;simp only[ej,be,gQ]at v;have b:=h.iP;have a:p.iP=0:=O;have c:=h.all;obtain⟨_,_,v3,v4⟩:=v;rw[a,Int.zero_add,IntWalk.i64_in _ O]at v3;exact⟨a,O⟩
def og.rm:RM (RL p.all.length) p.aP:=by
 have b:=h.f0.2;rw[<-Q_]at b;have:=aFR (Q:=λq=>h_ q<=1/\q.aK<=(p.all.length:Nat)) h.fm.2.2 λq a=>⟨h.tot q a,yu (adL a) b⟩
 exact this.imp λq a=>aFA a.1 a.2.1 a.2.2
def og.fo:RM (λq=>b8 q/\yq 140 q) (b9 p.aP):=aCw (λq a=>⟨a.nr.ln.np O,awy (a.nr.ln.np O) a.nr.ln.sz.nm O⟩) h.rm
def og.lip:yx p:=by
 have e:=h.fm;have f:=Lw p.aP;unfold yx;refine⟨e.1,?_,?_,h.all⟩
 ·unfold mA;exact⟨aHD h.fo,O⟩
 ·have z:=Mz (b9 p.aP);have a:eJ (λr=>FB 200 r.f) (fk (b9 p.aP)).1:=TV (R:=λq=>b8 q/\yq 140 q) (λq b k _=>⟨b.2.fb.up O,(b.2.fb.up O).neg⟩) h.fo;unfold kX;exact⟨by have:=z.1;omega,λc d=>⟨by have:=z.2 c d;omega,a c d⟩⟩
def og.of:OF p.aP:=by unfold OF;exact⟨h.rm.imp λq a=>⟨a.np,a.sn.ln.sz.cz O O⟩,by have:=h.fm.2.1;omega⟩
def kk:Nat->Nat|0=>140|j+1=>3*kk j+14
def ss:Nat->Nat|0=>7|j+1=>lZ (ss j)
def og.el0:EL 140 (TN p.all.length) 7 (nh p 0)/\∀e,tr e (nh p 0)=tr e (b9 p.aP):=by obtain⟨a,b,c⟩:=tB (R:=RL p.all.length) (Q:=LX 140 (TN p.all.length)) (λq d=>⟨d.np,d.sn⟩) h.rm;refine⟨⟨a,dH c h.fm.2.1,Sg (λq d=>d.lv) h.rm⟩,λe=>?_⟩;rw[aCx (R:=RL p.all.length) (λq d=>d.np) e h.rm];exact b e
theorem og.el:∀j,j<=p.all.length->EL (kk j) (TN (p.all.length-j)) (ss j) (nh p j)
 |0,_=>h.el0.1
 |j+1,g=>by
  have i:=h.all;have a:=og.el j O;have d:3*kk j+14<=50000:=by have:j=0\/j=1\/j=2:=O;rcases this with rfl|rfl|rfl<;>decide
  have c:∀m,EL (3*kk j+14) (TL (TN (p.all.length-j)) ((p.all.length-j:Nat):Int)) (lZ (ba (nh p j))) m->EL (kk (j+1)) (TN (p.all.length-(j+1))) (ss (j+1)) m:=λm b=>⟨b.cm.imp λq f=>f.tm λw e=>by unfold TN at e;unfold TL TN;omega,dH b.sz (OJ a.sz),b.MD⟩
  rw[nh];split
  ·exact c _ (W_ (lv:=p.all.length-j) O O d a.cm).1
  ·exact c _ (P9 (lv:=p.all.length-j) O O d a.cm).1
def og.elp:yo p:=by
 have b:=h.all;have f:=h.fm;unfold yo;refine⟨by unfold sW;exact⟨f.1,O⟩,h.val,h.f0.1,b,h.of,λj c=>?_⟩;have e:=h.el j O;unfold ve l7;have a:kk j<=1490/\ss j<=20000:=by have:j=0\/j=1\/j=2:=O;rcases this with rfl|rfl|rfl<;>decide
 exact⟨O,O,kk j,_,a.1,e.cm,dH e.sz a.2⟩
theorem og.aJ:(nh p p.all.length).aJ=0\/(nh p p.all.length).aJ=1:=by have e:=h.el p.all.length (bK _);rw[rM]at e;exact aHC (λw b a=>by unfold TN;omega) e.cm e.MD
def og.step{j:Nat}(d:j<p.all.length)(a:ay):tr a (nh p (j+1))=true↔if(p.all[p.all.length-1-j]?).getD false=true then∀v,tr (up a ((p.all.length-j:Nat):Int) v) (nh p j)=true else∃v,tr (up a ((p.all.length-j:Nat):Int) v) (nh p j)=true:=by
 have e:=h.all;have b:=h.el j O;have c:3*kk j+14<=50000:=by have:j=0\/j=1\/j=2:=O;rcases this with rfl|rfl|rfl<;>decide
 rw[nh];split
 ·exact(W_ (lv:=p.all.length-j) O O c b.cm).2 a
 ·exact(P9 (lv:=p.all.length-j) O O c b.cm).2 a
def og.law(b:(nq p).2=true):(nh p p.all.length).aJ=1↔(nq p).1=true:=by
 have s:=h.all;have t:=h.f0.1;unfold nq at b⊢;split at b
 ·cases b
 ·rename_i c;rw[Z c];obtain⟨g,d,_⟩:(fk (b9 p.aP)).2=true/\(uF p).dw=false/\¬0<p.iP:=by
   refine⟨?_,?_,λe=>c (.inr (.inr e))⟩
   ·cases e:(fk (b9 p.aP)).2 with
    |true=>rfl
    |false=>exact absurd (.inl e) c
   ·cases e:(uF p).dw with
    |false=>rfl
    |true=>exact absurd (.inr (.inl e)) c
  have m:uF p=tq p.all true p.all.length (fk (b9 p.aP)).1:=by unfold uF;rw[g]
  rw[m]at d⊢;have l:(fk (b9 p.aP)).1.dw=false:=by
   cases e:(fk (b9 p.aP)).1.dw with
   |false=>rfl
   |true=>rw[ac_ e,e]at d;cases d
  have i:eJ RK (fk (b9 p.aP)).1:=TV (R:=λq=>b8 q/\yq 140 q) (λq f k b=>⟨⟨b,f.2.ok⟩,b,.neg _⟩) h.fo;obtain⟨r,o⟩:=ada (all:=p.all) (n0:=p.all.length) O (λn a=>tr a (nh p (p.all.length-n))=true) (λn c a=>by have:=h.step (j:=p.all.length-(n+1)) O a;rw[show p.all.length-(n+1)+1=p.all.length-n by omega,show p.all.length-1-(p.all.length-(n+1))=n by omega,show p.all.length-(p.all.length-(n+1))=n+1 by omega]at this;exact this) p.all.length _ (bK _) i (λa=>by rw[rM,h.el0.2 a];exact ahY (k:=140) a (h.fo.imp λq f=>f.2) g l) d
  rw[anT r,o];show _↔tr _ (nh p p.all.length)=true;rcases h.aJ with e|e
  ·rw[Ed _ e,e];simp
  ·rw[yf _ e,e];simp
end
end Go.Proofs.YtfbmhjooliccnaaGreatDoor
namespace Go.Proofs.YtfbmhjooliccnaaGreatDoor
open Go Go.Ab Go.Proofs.Tryz
variable {x:Nat}{l:List J}{X:au}{p:dK}{U:World}{q:J}
def zW:J:=.mk 1 false [] [.mk 0 false [] [],.mk 0 (iD 1).neg (iD 1).aC []]
def Zm:F:=.mk 2 3 zW []
def aKn:(oW cR Zm 1).aJ=1:=af
def aKm:(wN cR Zm 1).aJ=0:=af
def ajB:bQ 4 zW:=by
 have:bQ 4 (.mk ((1:Nat):Int) false [] [zP,kP 1]):=.node 1 [zP,kP 1] O O ai (λc a=>by
  simp at a;rcases a with rfl|rfl
  ·exact .zero _
  ·exact .const 1) λc a=>by
  have e:kP 1=c:=an a;rw[<-e,xG];rfl
 exact this
def aJ7:fh zW<2^1490:=by have e:fh zW=1:=af;rw[e];exact mz (show 1<2^1 by decide) (BF (d:=1) (b:=1490) O)
def aKo:XR Zm 1:=by obtain⟨a,b⟩:=aiL ajB (bK 4) (by rw[show h_ zW=1 by kernel_rfl];exact tY 1);unfold XR XP;exact⟨.gE 3 zW (by unfold R6;omega) ⟨⟨⟨ajB,b,aJ7⟩,a⟩,λw h=>h.elim⟩,ae,O,O⟩
theorem aJB:bh 27 [iE 1] (eT .aF zW):=by
 refine vF func27 rfl [Zh,CN] [] ?_;repeat' first|intro _|apply aQ
 all_goals first|exact bj|omega|rfl|exfalso;simp_all;done
def asV:Ct prog Un:=ot Vw 27 (.int .i64) (λ(n:Int)=>n=1) (λ(n:Int)=>eT .aF zW) (λn h=>by subst h;exact aJB)
theorem aov:bh 8 [] (bT true):=by
 refine vF func8 rfl [asV,ars,art] [] ?_;repeat' first|intro _|apply aQ
 all_goals first|exact bj|with_reducible rfl|exact aKo|show((wN cR Zm 1).aJ==0)=true;rw[aKm];rfl|exfalso;have k:((0:Int)==0)=!true:=ak;exact absurd k ae|exfalso;have k:((oW cR Zm 1).aJ==1)=!true:=Y;rw[aKn]at k;exact absurd k ae
def arA:Ct prog Un where
 f:=8
 run:=λargs K=>match args with|[]=>K (bT true)|_=>False
 ok:=λargs K h=>by
  split at h
  ·exact⟨_,aov,h⟩
  ·cases h
@[irreducible] def L5(l:List J)(x:Nat):=x<=l.length/\∀q∈l.take x,h_ q<=1
def als(l:List J):L5 l 0:=by unfold L5;exact⟨dz _,λq a=>by simp at a⟩
def L5x{x:Nat}(h:L5 l x):x<=l.length:=by unfold L5 at h;exact h.1
def alu{x:Nat}(h:L5 l x)(b:l[(x:Int).toNat]?=some q)(c:decide (1<h_ q)=false):L5 l (x+1):=by
 rw[bt]at b;have c:=cQ c;unfold L5 at h⊢;refine⟨ns b,λr a=>?_⟩;rw[fy,b]at a;rcases cq.1 a with a|a
 ·exact h.2 r a
 ·have:r=q:=by simpa using a
  rw[this];omega
def alt{x:Nat}(h:L5 l x)(hx:decide ((x:Int)<l.length)=false):∀q∈l,h_ q<=1:=by have hx:=cQ hx;unfold L5 at h;have:=h.2;rwa [eL O]at this
mutual
theorem aac:∀p:J,DL (nP p) p
 |.mk l n a b=>by
  rw[nP]
  have:=aad b
  exact .mk _ _ _ _ (by have:=Lq b;omega) λc e=>(this c e).up O
theorem aad:∀l:List J,∀c∈l,DL (iR l) c
 |[]=>λc h=>by cases h
 |d::r=>by
  have g:=aac d
  have f:=aad r
  intro c h
  rw[xL]
  rcases da.1 h with rfl|h
  ·exact g.up O
  ·exact(f c h).up O
end
theorem afz{q:J}:∀{l:List F},q∈iS l->∃m∈l,q∈dY m
 |[],h=>by rw[iS]at h;cases h
 |c::r,h=>by
  rw[iS]at h;rcases cq.1 h with h|h
  ·exact⟨c,b6 ..,h⟩
  ·obtain⟨m,b,a⟩:=afz h;exact⟨m,cv _ b,a⟩
def aCv{R Q:J->Prop}(h:∀p,R p->Q (dT p)){m:F}(b:RM R m):∀q∈dY (b9 m),Q q:=by
 induction b with
 |mk k r p l e n f=>
  intro q a;rw[b9]at a;split at a
  ·rw[dY,Z ae,iS]at a;cases a
  ·split at a
   ·rename_i g;rw[dY,aM rfl]at a;rw[cL.1 a];exact h p (e g)
   ·split at a
    ·rename_i i;rw[dY,Z O,GY]at a;obtain⟨c,j,a⟩:=afz a;obtain⟨d,hd,rfl⟩:=b_.1 j;exact f i d hd q a
    ·rw[zM,dY,Z ae,iS]at a;cases a
section
variable {p:dK}(hd:qJ p.aP)(hf:(!uw p 7)=false)
include hd hf
def QZ:iz p.aP/\ba p.aP<=7:=by have:uw p 7=true:=an hf;unfold uw at this;simp only[ej]at this;have a:=aa5 O this.2.2 hd;exact⟨a.1,O⟩
def ayJ:sW p:=by have:=QZ hd hf;unfold sW;exact⟨this.1,O⟩
def ayH:iz p.aP:=(QZ hd hf).1
def acP:SZ (b9 p.aP):=by have:=QZ hd hf;have:=Lw p.aP;unfold SZ;omega
def ayG:(dY (b9 p.aP)).length<=1000000:=dH (S7 _) (acP hd hf).le
def ayI{i:Nat}(e:(dY (b9 p.aP))[i]?=some q):o8 q:=by
 have a:RM RF p.aP:=by have:uw p 7=true:=an hf;unfold uw at this;simp only[ej]at this;have a:=this.2.2;unfold xA at a;simp only[be]at a;exact Ti _ _ _ a hd
 refine aCv (R:=RF) (Q:=o8) (λr c=>?_) a q (bM e)
 ·have b:=Qh (dg:=4) c.2 c.1 O O;have d:=b;unfold b8 at d;unfold o8;refine⟨by rw[sh b];exact(s7 b).bR,RT b (λt f v _ _=>?_) λ_=>(aac r).up d.2⟩;exact P7 (b.eb t f) v
variable (hv:(!nB p)=false)(h0:decide (0<p.iP)=false)(ha:decide (3<(p.all.length:Int))=false){x:Nat}(hl:L5 (dY (b9 p.aP)) x)(hx:decide ((x:Int)<((dY (b9 p.aP)).length:Int))=false)
include hv h0 ha hl hx
def KE:og p:=⟨hd,by simpa using hf,by simpa using hv,by have:=cQ h0;omega,by have:=cQ ha;omega,alt hl hx⟩
end
def ePr(p:dK):dK.mk p.iP p.all p.bx p.aP=p:=rfl
def ayE{p:dK}(g:og p)(h:(!(nq p).2)=false):(((l7 p p.all.length).aJ==1)==(nq p).1)=true:=by have e:=g.law (an h);unfold l7;rw[gQ,oV,gQ];exact e
def ayF{p:dK}(g:og p)(a:((l7 p p.all.length).aJ==1)=false)(h0:((l7 p p.all.length).aJ==0)=!true):False:=by
 have e:=g.aJ;unfold l7 at a h0;rcases e with e|e
 ·rw[e]at h0;exact absurd h0 ae
 ·rw[e]at a;exact absurd a ae
theorem ayU(p:dK)(hd:qJ p.aP):bh 5 [wE .pre p] (bT true):=by
 refine vF func5 rfl [arA,arT,asT,Pr,Zp,asP,arO,asf att] [(5,⟨Nat,λx=>⟨[(1,br 0),(3,lT .aF (dY (b9 p.aP))),(38,iT (dY (b9 p.aP)).length),(39,iT x)],[(0,cj .pre p)],1⟩,λx=>L5 (dY (b9 p.aP)) x/\True,λx=>(dY (b9 p.aP)).length-x⟩)] ?_;repeat' (first
  |exact(A9 ‹((0:Int) !=0)=true›).elim
  |((with_reducible show mt _ _ _ _ _);(conv=>whnf);(fail_if_success with_reducible show mt _ _ _ _ _))
  |intro _|apply aQ
  |refine @aS Nat _ (x+1) ?_
  |refine @aS Nat _ 0 (aQ ?_ λ(x:Nat) (hx:L5 (dY (b9 p.aP)) x/\True)=>?_)
  |fail)
 all_goals(try simp only[bz,fI,ePr]at*)
 all_goals first|omega|exact ayJ hd Y|exact ayH hd Y|exact acP hd Y|exact ayI hd Y Y|with_reducible exact als _|exact alu hx.1 Y Y|exact(KE hd Y Y Y Y hx.1 Y).elp|exact(KE hd Y Y Y Y hx.1 Y).lip|have g:=ayG hd Y;have a:=L5x hx.1;simp only[be,bc]at*;omega|exact ayE (KE hd Y Y Y Y hx.1 Y) Y|exact(ayF (KE hd Y Y Y Y hx.1 Y) Y Y).elim|exact absurd (show((0:Int)==0)=!true by with_reducible assumption) ae
section
variable {H:Type}{dh:TypeId×Value→H}{w:World}{base:Nat}{sp:Nat→Bool}{held:Bool}
def c47:Tryz.prog.cellsOf 47=1:=af
def c48:Tryz.prog.cellsOf 48=1:=af
def aEH{cs:au}{d:DataW H}{l:List MemPlace}(h:DataW.trod dh prog w base sp held x 50 cs=some (d,l)):∃j:dK,qJ j.aP/\gz w (uk j) cs:=by
 obtain⟨f,rfl⟩:=u6 h;obtain⟨k,K,L,q⟩:=r4 (i:=0) (off:=0) (ft:=3) h af;obtain⟨_,M,N,o⟩:=r4 (i:=1) (off:=1) (ft:=47) h af;obtain⟨_,P,Q,r⟩:=r4 (i:=2) (off:=2) (ft:=48) h af;obtain⟨_,R,T,s⟩:=r4 (i:=3) (off:=3) (ft:=32) h af;rw[c50]at k;rw[c3]at q;rw[c47]at o;rw[c48]at r;rw[Jo]at s;obtain⟨j,y,z,a,b,c,d,e,u,g,rfl⟩:=ayZ k;obtain⟨n,t,_⟩:=Gu (show Tryz.prog.underlying 3=some (.int .i64)by kernel_rfl) q;simp at t;subst t;obtain⟨m,A,B⟩:=azy f (cs:=[a,b,c,d,e,u,g]) s;obtain⟨U,rfl⟩:=u6 o;obtain⟨C,_,D⟩:=zK (X:=Bool) (v:=y) OS (λ_=>True) (show Tryz.prog.underlying 47=some (.slice 4)by kernel_rfl) (by rw[c4];decide) (λj=>by rw[c4];rfl) (λcs d l p k=>by obtain⟨b,rfl⟩:=XZ (show Tryz.prog.underlying 4=some .bool by kernel_rfl) p;exact⟨b,trivial,gz.cons (.sc _ rfl) gz.nil⟩) o
 obtain⟨E,_,G⟩:=zK (X:=ByteArray) (v:=z) OT (λ_=>True) (show Tryz.prog.underlying 48=some (.slice 9)by kernel_rfl) (by rw[c9];decide) (λj=>by rw[c9];rfl) (λcs d l p k=>by obtain⟨b,rfl⟩:=aHW (show Tryz.prog.underlying 9=some .string by kernel_rfl) p;exact⟨b,trivial,gz.cons (.sc _ rfl) gz.nil⟩) r
 exact⟨⟨n,C,E,m⟩,A,gz.cons (.sc _ rfl) (gz.cons D (gz.cons G B))⟩
end
def ata(p:dK):(wE .pre p).aI=.agg ((uk p).map .d):=by show E.agg (((eF .pre p).map _).map _)=_;rw[show uk p=(eF .pre p).map SD.aI from(acy .pre p).symm,jc,jc];rfl
def gz.es{r:List D}(h:gz U r X):eK U (λ_=>False) iJ (.agg (r.map .d)) (.agg X.toArray):=by refine⟨X,rfl,by simpa using h.1,λj y v b c=>?_⟩;rw[eC,gN]at b;obtain⟨y0,a,rfl⟩:=b;exact h.2 j y0 v a c
def azd(m:qJ p.aP)(n:gz U (uk p) X)(l:1<U.heap.size/\S9 U.heap[1]?):
 Calls prog 5 #[.agg X.toArray] U λe W'=>e=.returned (.bool true)/\fY q_ U W':=by
 have:=(ayU p m).2 (λ_=>False) iJ U [.agg X.toArray] ⟨λb h=>h.elim,(λs t b h=>by cases h),(λs b h=>by cases h),(λ_ _=>rfl),(λs X h=>by cases h),⟨⟨l.1,λh=>h,λs h=>by cases h⟩,l.2⟩⟩ ⟨rfl,λi x u f g=>by
  match i,f,g with
  |0,f,g=>simp only[List.map,kg,cS]at f g;subst f;subst g;rw[ata];exact n.es
  |i+1,f,g=>simp at f⟩
 refine this.mono λe W' o=>?_
 obtain⟨v,j,rfl,_,q,a,_⟩:=o;have k:cr W' (λ_=>False) j (.e (.c (.d (.sc (.bool true))))) v:=q;refine⟨by rw[iw k],⟨a.os,a.tape,a.output,a.drawn,a.size,λb r _=>a.same b r (λ⟨s,h⟩=>by cases h),a.jb⟩⟩
end Go.Proofs.YtfbmhjooliccnaaGreatDoor
namespace Go.Proofs.YtfbmhjooliccnaaGreatDoor
open Go Go.ChangeShapes Go.WideShapes Go.ChangeAt Go.WideMaps Go.WideElems Go.RowKit Go.Ab Go.Proofs.Tryz
def aD3:ownKnob Tryz.prog.godebug=Option.none:=af
def atm(a:Os)(args:Array Value):laidMetH prog Rows.virtualLinearRow.laid ((World.doorLaid prog 24 a).forCall (λ_ _=>0) ⟨#[],args,[]⟩).memory:=
 laidMetH_of_parts3 (fuel:=8) (laidMet_of_run' 8 af af) af af
def ayL:laidOutB prog=true:=af
def aKh:Value:=.agg #[.int .i64 0,.slice Option.none 0 0,.slice Option.none 0 0,.int .i64 0,.int .i64 0,.int .i64 0,.bool false,.slice Option.none 0 0,.slice Option.none 0 0,.slice Option.none 0 0]
def azb(os:Os)(started:os.Started)(H:Type)(dh:TypeId×Value->H):
 ReturnsInHanded {} Tryz.checked os 5 .any (λw args=>(Rows.virtualLinearSpec.pre dh prog Tryz.f5 [] false w args/\laidMetH prog Rows.virtualLinearRow.laid w)/\sizedMet dh prog Tryz.f5 (OpenSpec.ofChange Rows.virtualLinearSpec) false w args)
  (Rows.virtualLinearSpec.post dh prog Tryz.f5 false true false false):=by
 refine returnsInHanded_of_change_and (C:=Tryz.checked) (X:=λw _=>laidMetH prog Rows.virtualLinearRow.laid w) (λ_ _ _ u h=>h.of_heap u) aD3 started af func5
  (ChangeSpec.witness_shaped (enc:=dh) (C:=Tryz.checked) (os:=os) (X:=λw _=>laidMetH prog Rows.virtualLinearRow.laid w) false (World.doorLaid prog 24 os) #[aKh] 8 rfl (World.shaped_of_RefB af af) af af af (atm os _)) ?_
 intro V base args N P before g n G E L D;have f:=n;obtain⟨p,q,i,K,rfl,z,t⟩:=n;have o:DataW.TrodAll dh prog V 0 (λ_=>true) true Tryz.f5.params.toList args.toList N p:=i;rw[Tryz.params5]at o;obtain⟨v,d,rfl,rfl,B⟩:=trodAll_one o;obtain⟨rfl,rfl⟩:=trodVars_none K;have a:=f.lt;obtain⟨M,c⟩:=B;obtain⟨x,s,l⟩:=aEH c;have j:v=.agg v.cells.toList.toArray:=by have:=l.1;cases v<;>first|rfl|simp[Value.cells,uk,rW]at this
 rw[j];refine(azd s l (aIw L)).mono λe W' ⟨A,b⟩=>?_
 subst A;have m:Below V.heap.size V W':=⟨b.os,b.tape,b.output,b.size,λk a=>b.same k a (λh=>h)⟩;rw[<-j];refine⟨_,rfl,[d],[],p++[],[],p,[],f,trodAll_mk1 (shut_bool Tryz.underlying4 _),?_,rfl,m.frame _,λh=>by cases h⟩;rw[Tryz.params5];exact trodAll_mk1 (Below.trod ayL af (dO af) ⟨M,c⟩ m (λy r=>a y (by simp[r])))
def azf:Rows.VirtualLinearSaid:=
 OpenClaim.holds_of_wide 5 Tryz.f5 rfl rfl rfl rfl rfl rfl rfl ⟨rfl,rfl,rfl,rfl,rfl⟩ rfl rfl rfl rfl rfl adX func5 aqr
  (dO af) (by unfold Func.isWrapper;first|rw[aM (by decide+kernel)];kernel_rfl|rw[Z (by decide+kernel)];exact⟨rfl,rfl⟩)
  (λa started H dh _=>azb a started H dh)
end Go.Proofs.YtfbmhjooliccnaaGreatDoor
namespace Go.Proofs.YtfbmhjooliccnaaGreatDoor
open Go Go.Ab Go.Proofs.Tryz
def virtualLinear_holds:Rows.VirtualLinearCardSaid:=
 Claim7.holds_tied_plain_at .later [] [.data,.data,.data] true (true,"ffe9ceefb557b52154a28d4dc554f870c58cc5083fb02db3ba38105c270fb25b") false
  azf (λ_ h=>by cases h) af (λ_ h=>by cases h) virtualLinear_row_tie rfl ⟨rfl,rfl⟩ af rfl
  (λf g e b=>by
    obtain rfl:f=5:=yG (adX.symm.trans e) |>.symm
    obtain rfl:g=Tryz.f5:=(yG (Tryz.func5.symm.trans b)).symm;exact⟨af,λj t c=>by
     rw[Tryz.params5]at c;have d:t∈[50]:=by simpa using U8 c
     have a:([50].all λu=>!Tryz.prog.wantsStandIn u)=true:=af;exact(show Tryz.prog.wantsStandIn t=false by simpa using eW.1 a t d)⟩)
  af
#print axioms virtualLinear_holds
end Go.Proofs.YtfbmhjooliccnaaGreatDoor
