/- A part of the proof of VirtualLinear: Ab31 to Sy26. No condition. -/
import Derived.Test.YtfbmhjooliccnaaGreatDoorYn
import Derived.Test.YtfbmhjooliccnaaGreatDoorYk
import Derived.RangeFuncLeaves
import Derived.RangeFuncRecord
import Derived.OrdersIn
import Derived.TacticsIn
import Derived.Shelf.Strconv.Itoa3
import Derived.Lib.Walk
import Derived.Lib.ItoaMem
import Derived.BigCall
import Derived.BigGuard
set_option linter.all false
set_option maxRecDepth 100000
set_option maxHeartbeats 60000000
noncomputable section
namespace Go.Ab
open Go Go.RowKit
variable {M:Nat→Prop}{X:List E}{s:Nat}{P:ax}{f:FuncId}{U:List D}{w:World}{R:G}{r:T}
def wo(s:Nat)(a:List V):fF:=λu=>if u=s then some a else none
def Sr{a:List V}(h:Mem M R (wo s a) w):kZ R s=iJ:=by
 funext u;unfold kZ;split
 ·rfl
 ·rename_i e;exact h.ic u (by unfold wo;rw[Z e])
def Ss{H:fF}(h:Mem M R H w):Mem M iJ uM w:=
 ⟨h.iF,(λs t b a=>by cases a),(λs b a=>by cases a),(λ_ _=>rfl),(λs d I=>by cases I),h.jO.to (λb c=>⟨c.1,c.2.1,λ_ h=>by cases h⟩) (λ_ _=>rfl)⟩
theorem kS.cA{w:World}{M:ap}{b:G}{H:fF}(j:Mem M b H w){s:Nat}{f:List D}(I:H s=some (f.map .d)){c:List E}{vs:au}(h:kS w M b c vs):kS w M (kZ b s) (c.map (E.cA s f)) vs:=by
 refine⟨by rw[eh];exact h.1,λi x u a g=>?_⟩;rw[eC]at a;cases e:c[i]? with
 |none=>rw[e]at a;cases a
 |some y=>
  rw[e]at a;injection a with a
  subst a;exact(h.2 i y u e g).cA j I
def dA.aKp{y:Value}{aU:ap}(h:lW P f (X.map (E.cA s U)) (.e (.c (.d (.sc y))))):
 dA P f (wo s (U.map .d)) X (wo s (U.map .d)) aU (.e (.c (.d (.sc y)))):=by
 refine⟨h.1,λM p w g j q=>?_⟩;have I:wo s (U.map .d) s=some (U.map .d):=aM rfl;have i:=kS.cA j I q;rw[Sr j]at i;refine(h.2 M iJ w g (Ss j) i).mono λe w' r=>?_
 obtain⟨v,l,t,z,m,a,_,_⟩:=r;have k:fY q_ w w':=⟨a.os,a.tape,a.output,a.drawn,a.size,λb n _=>a.same b n (λ⟨u,o⟩=>by cases o),a.jb⟩;refine⟨v,p,t,j.Gy k,?_,⟨k.os,k.tape,k.output,k.drawn,k.size,λb n _=>k.same b n (λh=>h),k.jb⟩,λu b o=>.inl ⟨u,o⟩,λ_ _=>rfl⟩;have m:dN w' (dc w' M l) (.sc y) v:=m;show dN w' (dc w' M p) (.sc y) v;cases m with
 |sc _ x=>exact .sc _ x
def lW.aeR{aU:ap}(h:dA P f uM X (wo s (U.map .d)) aU r):lW P f X (r.cA s U):=by refine⟨h.1,λM j w a k l=>(h.2 M j w a k l).mono λe t m=>?_⟩;obtain⟨v,n,o,c,p,q,x,_⟩:=m;have I:wo s (U.map .d) s=some (U.map .d):=aM rfl;have i:=cr.cA c I p;rw[Sr c]at i;exact⟨v,iJ,o,Ss c,i,q,(λu b g=>by cases g),λ_ g=>g.elim⟩
def kS.aCC{vs:au}(h:kS w M R X vs):kS w M R (X.map E.cB) vs:=by
 refine⟨by rw[eh];exact h.1,λi x u a c=>?_⟩;rw[eC]at a;cases b:X[i]? with
 |none=>rw[b]at a;cases a
 |some y=>
  rw[b]at a;injection a with a
  subst a;exact(h.2 i y u b c).cB
def dA.arf{aU:ap}(k:∀u,aU u->u≠s)(h:lW P f ((X.map (E.cA s U)).map E.cB) r):dA P f (wo s (U.map .d)) X uM aU r:=by
 refine⟨h.1,λM B w c j n=>?_⟩;have I:wo s (U.map .d) s=some (U.map .d):=aM rfl;have g:=kS.aCC (kS.cA j I n);rw[Sr j]at g;refine(h.2 M iJ w c (Ss j) g).mono λe C o=>?_
 obtain⟨v,l,p,m,q,a,x,_⟩:=o;refine⟨v,l,p,m,q,⟨a.os,a.tape,a.output,a.drawn,a.size,λb y G=>a.same b y (λ⟨u,i⟩=>by cases i),a.jb⟩,λu b i=>?_,λu i=>?_⟩
 ·rcases x u b i with⟨t,z⟩|A
  ·cases z
  ·exact .inr A
 ·rw[m.ic u rfl];exact(j.ic u (by unfold wo;rw[Z (k u i)])).symm
end Go.Ab
namespace Go.Proofs.YtfbmhjooliccnaaGreatDoor
open Go Go.Ab Go.Proofs.Tryz
variable {l:List S}{x y:aY}
def axq(n:Int):iV ⟨(iD n).neg,(iD n).aC⟩=n:=fU n
@[irreducible] def EX(x y:aY):=QP x y/\iV y∣iV x
def EXq(h:EX x y):QP x y:=by unfold EX at h;exact h.1
def VA(h:EX x y):(iV x).tdiv (iV y)=iV x/iV y/\(iV x).tmod (iV y)=0:=by unfold EX at h;exact⟨Int.tdiv_eq_ediv_of_dvd h.2,Int.tmod_eq_zero_of_dvd h.2⟩
def au_(x y:aY)(h:EX x y):bh 179 [wE .cM x,wE .cM y] (tT [Di (iD (iV x/iV y)),iE2 0]):=by
 refine vF func179 rfl [asw,Zi] [] ?_;repeat' first|intro _|apply aQ
 all_goals first|exact bj| (with_reducible first|rfl|exact EXq h)|exact iv _ _ Y|rw[(VA h).1]|exfalso;have k:=(VA h).2;rename_i g;rw[axq,k]at g;exact absurd g ae|exfalso;rename_i g;exact absurd g ae
def arR:=eI (.el W.cM) (.el W.cM) au_
def aaw:gv prog 128:=gY func128 af rfl
def aeo(p:List S)(n:Nat)(h:NB n p):dA prog 128 (bX (cy (U:=Un) [])) (([wL .bn p]:List (SE Un)).map SE.aI) (bX (cy [(0,aZ.aW (U:=Un) W.bn (di p))])) (·∈[]) (ST.e (U:=Un) (.c (.aX 0 W.bn (di p).length))).aI:=by
 refine vO func128 rfl ⟨[],[Sc,Sb,Se]⟩ [(3,⟨Nat,λx=>⟨[(3,br 0),(7,lT .bn p),(8,iT p.length),(9,iT x)],gH 0 1 2 (gS p x),3⟩,λx=>x<=p.length/\True,λx=>p.length-x⟩)] [] ⟨[(2,.e (.c (.aX 0 W.bn (di p).length)))],[(0,aZ.aW (U:=Un) W.bn (di p))],4⟩ ?_;repeat' first|intro _|apply aQ|refine aS 0 (aQ ?_ λ(x:Nat)(a:x<=p.length/\True)=>?_)|refine aS (x+1) ?_
 all_goals first|exact bj| (with_reducible first|rfl|exact Qr p|exact Qs p|exact Qt p|exact Qy h a.1)|exact bi List.length (Gl a.1 Y)|(rename_i b;with_reducible first|exact Gl a.1 b|exact Qx h a.1 b|exact Qv b|exact Qw b|exact uz b)|simp only[be,bc]at*;have:=a.1;omega|omega
def aCG(p:List S)(n:Nat)(h:NB n p):dA prog 128 (bX (cy (U:=Un) [(0,aZ.aW (U:=Un) W.bn p)])) (([.c (.aX 0 W.bn p.length)]:List (SE Un)).map SE.aI) (bX (cy [(0,aZ.aW (U:=Un) W.bn p),(1,aZ.aW (U:=Un) W.bn (di p))])) (·∈[0]) (ST.e (U:=Un) (.c (.aX 1 W.bn (di p).length))).aI:=by
 refine vO func128 rfl ⟨[],[Sc,Sb,Se]⟩ [(3,⟨Nat,λx=>⟨[(3,br 1),(7,.e (.c (.aX 0 W.bn p.length))),(8,iT p.length),(9,iT x)],(0,.aW (U:=Un) W.bn p)::gH 1 2 3 (gS p x),4⟩,λx=>x<=p.length/\True,λx=>p.length-x⟩)] [0] ⟨[(2,.e (.c (.aX 1 W.bn (di p).length)))],[(0,aZ.aW (U:=Un) W.bn p),(1,aZ.aW (U:=Un) W.bn (di p))],4⟩ ?_;repeat' first|intro _|apply aQ|refine aS 0 (aQ ?_ λ(x:Nat)(a:x<=p.length/\True)=>?_)|refine aS (x+1) ?_
 all_goals first|exact bj| (with_reducible first|rfl|exact Qr p|exact Qs p|exact Qt p|exact Qy h a.1)|exact bi List.length (Gl a.1 Y)|(rename_i b;with_reducible first|exact Gl a.1 b|exact Qx h a.1 b|exact Qv b|exact Qw b|exact uz b)|simp only[be,bc]at*;have:=a.1;omega|omega|unfold NB at h;simp only[be]at*;omega
def aIH(p:J):di (cJ (.mk p.aK p.neg p.aC p.aL) ⟨0,0,0,0⟩)=dM p:=by rw[bz];unfold dM;rfl
@[irreducible] def TP(l:List S):=TT l/\(∀t∈l,Dg t.aC/\t.aC.length<=2000000)/\l.length<=2000000
def lF{l:List S}(h:TP l):=(TP.eq_1 ..).mp h
def TP.nb(h:TP l):NB 2000000 l:=by have u:=lF h;unfold NB LB;exact⟨λt a=>⟨(u.2.1 t a).2,(u.2.1 t a).1⟩,O,O⟩
theorem TP.id{l:List S}(h:TP l):di l=l:=(lF h).1.id
def LN(l:List S):J:=l6 (cH (l.length+4) l 4)
theorem TP.bp{l:List S}(h:TP l):BL (di l) 4:=by rw[h.id];unfold BL;exact⟨rfl,(lF h).1.bp⟩
def aDE(h:TP l):l6 (cH ((di l).length+4) (di l) 4)=LN l:=by rw[h.id];rfl
def aiJ(p:J)(h:b8 p):bh 135 [wE .aF p] (lT .bn (dM p)):=by
 refine vG func135 rfl ⟨[Ps],[aeJ]⟩ [] ?_;repeat' first|intro _|apply aQ
 all_goals first|exact bj| (with_reducible first|rfl|exact np1 h|exact np2 h|exact aIH _)
def asN:=dj (.el W.aF) aiJ
def aDD(l:List S)(h:TP l/\kY (cH ((di l).length+4) (di l) 4)):bh 139 [wL .bn l] (eT .aF (LN l)):=by
 refine vF func139 rfl [Ps,Y_,CK] [] ?_;repeat' first|intro _|apply aQ
 all_goals first|exact bj|with_reducible exact h.1.nb.e|exact h.1.bp|simp only[bz]at*;exact h.2|simp only[bz];rw[aDE h.1];done
def asp:=dj (.ls W.bn) aDD
def agO(H:List (Nat×aZ Un))(args:List (SE Un))(K:iA Un->Prop):Prop:=
 match H,args with
 |[(0,.aW W.bn p)],[.c (.aX 0 W.bn n)]=>(n=p.length/\TP p)/\K ⟨.e (.c (.aX 1 W.bn (di p).length)),[(0,.aW W.bn p),(1,.aW W.bn (di p))],[],[1]⟩
 |[],[.c (.d (.bN W.bn p))]=>TP p/\K ⟨.e (.c (.aX 0 W.bn (di p).length)),[(0,.aW W.bn (di p))],[],[]⟩
 |_,_=>False
def aDo:gy prog Un where
 f:=128
 iu:=aaw
 run:=agO
 ok H args K h:=by
  unfold agO at h;split at h
  ·obtain⟨⟨rfl,c⟩,b⟩:=h;refine⟨_,?_,λu a d=>?_,b⟩
   ·exact(aCG _ _ c.nb).gL λu a=>by have:u<1:=a.1;simp;omega
   ·have e:u<1:=a;obtain rfl:u=0:=O;rfl
  ·obtain⟨c,b⟩:=h;refine⟨_,?_,λu a d=>absurd a (oi _),b⟩;exact dA.gL (stay':=λu=>u<0/\¬u∈[]) (aeo _ _ c.nb) λu a=>absurd a.1 (oi _)
  ·cases h
def auj:gv prog 224:=gY func224 af rfl
def aIA(p:List S)(h:TP p):dA prog 224 (bX (cy (U:=Un) [(0,aZ.aW (U:=Un) W.bn p)])) (([.c (.aX 0 W.bn p.length)]:List (SE Un)).map SE.aI) (bX (cy (U:=Un) [(0,.aW W.bn p),(1,.cells [.aX 2 W.bn (di p).length]),(2,.aW W.bn (di p))])) (·∈[0]) (ST.e (U:=Un) (.c (.db 271 [(1,0)]))).aI:=by
 refine vO func224 rfl ⟨[],[aDo]⟩ [] [0] ⟨[(2,.e (.c (.db 271 [(1,0)])))],[(0,.aW W.bn p),(1,.cells [.aX 2 W.bn (di p).length]),(2,.aW W.bn (di p))],3⟩ ?_;repeat' first|intro _|apply aQ
 all_goals first|exact bj| (with_reducible first|rfl|exact h)|rfl
end Go.Proofs.YtfbmhjooliccnaaGreatDoor
namespace Go.Ab
open Go Go.RowKit
variable {Q p:Exit→Act→World→Prop}{w q:World}{M:Nat→Prop}{K:Act→World→Prop}{l n:Nat}{X:av}{a:Act}{U:St→Prop}{o:Oper}{c s r:Code}{R m:G}{P:Nat→T}{N:ax}{L:List Oper}{f g:FuncId}{x:Option (Option Nat)}{H:List (List Bool)}{C:Array Value}{B k:fF}{b:Option Nat}{A:St}{y:List E}{v:Value}{u:Func}{t j:Obj}
def mP(a:Option Nat):Fence:= { Fence.wide with round:=a}
def UX{ro:Option Nat}{n:Nat}{P:ax}(g:∀c,o.op≠.defer c)(h:o.wp P a w K Q):o.wpIn (mP ro) n P a w K Q:=by
 refine⟨λf _=>trivial,?_⟩;rw[show(mP ro).round=ro from rfl,Oper.semAt_eq ro a.eval o g];unfold Oper.wp at h;generalize(execOp a.eval o).run P w=r at h;cases r with
 |ok x i=>
  cases x<;>simp only[Oper.upon,Oper.uponIn]at h⊢ <;>try exact h
  ·refine⟨(λh=>by cases h),?_⟩;have j:=(callsIn_wide (n:=n-1)).2 h;exact⟨trivial,λb l=>by obtain⟨e,d,k,r,s,x⟩:=j.2 b (room_wide _);exact⟨e,d,k,by cases e<;>exact r,s,x⟩⟩
  ·refine⟨(λh=>by cases h),λc b _=>?_⟩;obtain⟨v,d,r,s⟩:=h c b;exact⟨v,d,r,stepsIn_wide.2 s⟩
 |halt x i=>cases x<;>exact h
theorem HV{i:Option Nat}{n:Nat}{P:ax}{b:av}{Q:Exit->Act->World->Prop}(g:¬LetsOut Q):∀(l:List Oper)(a:Act)(w:World),(∀o∈l,∀c,o.op≠.defer c)->wpList P b Q l a w->wpListIn (mP i) n P b Q l a w
 |[],a,w,_,h=>h
 |o::l,a,w,f,h=>by
  simp only[wpList]at h;simp only[wpListIn];split
  ·rename_i d;rw[aM d]at h;rcases h with h|⟨_,h⟩
   ·exact Oper.wpIn_mono (λa w h=>HV g l a w (λo e=>f o (by simp[e])) h) (UX (f o ai) h)
   ·exact absurd h g
  ·rename_i d;rw[Z d]at h;exact⟨λ_ _=>trivial,HV g l _ w (λo e=>f o (by simp[e])) h⟩
def pZ(b:List Deferred)(a:Act):Act:= { a with defers:=a.defers++b}
def WZ(b:List Deferred)(a:Act):(pZ b a).eval=a.eval:=by funext x;cases x<;>rfl
def Cl(b:List Deferred)(a:Act)(d:Option Tmp)(v:Value):(pZ b a).put d v=pZ b (a.put d v):=by cases d<;>rfl
def QD(c:List Deferred)(Q:Exit->Act->World->Prop):Exit->Act->World->Prop:=λe d b=>∃a,d=pZ c a/\Q e a b
def aJ5{b:List Deferred}{P:ax}(h:o.wp P a w K Q):o.wp P (pZ b a) w (λl i=>∃j,l=pZ b j/\K j i) (QD b Q):=by
 unfold Oper.wp at*;rw[WZ];generalize(execOp a.eval o).run P w=r at*;cases r with
 |ok x i=>
  cases x with
  |value v=>exact⟨_,Cl _ _ _ _,h⟩
  |skip=>exact⟨_,Cl _ _ _ _,h⟩
  |defer d=>refine⟨_,?_,h⟩;exact Cl b { a with defers:=d::a.defers} _ _
  |enter f args=>
   refine Calls.mono h λe m g=>?_
   cases e with
   |returned v=>exact⟨_,Cl _ _ _ _,g⟩
   |panicked c=>exact⟨_,rfl,g⟩
   |outgrown=>obtain⟨k,n,p⟩:=g;exact⟨pZ b k,n,k,rfl,p⟩
  |row r args=>exact Rows.mono h λv m g=>⟨_,Cl _ _ _ _,g⟩
  |_=>exact h
 |halt x i=>cases x<;>simp only[Oper.upon]at h⊢ <;>first|exact h|exact⟨_,rfl,h⟩
def UZ{P:ax}{g:Act->World->Prop}(h:∀a w,K a w->g a w)(b:o.wp P a w K Q):o.wp P a w g Q:=by
 unfold Oper.wp at*;generalize(execOp a.eval o).run P w=r at*;cases r with
 |ok x i=>
  cases x with
  |value v=>exact h _ _ b
  |skip=>exact h _ _ b
  |defer d=>exact h _ _ b
  |enter f args=>exact Calls.mono b λe j c=>by cases e<;>first|exact h _ _ c|exact c
  |row r args=>exact Rows.mono b λv j c=>h _ _ c
  |_=>exact b
 |halt x i=>cases x<;>simp only[Oper.upon]at b⊢ <;>exact b
theorem UY{c:List Deferred}{P:ax}{b:av}{Q:Exit->Act->World->Prop}:∀(l:List Oper)(a:Act)(w:World),wpList P b Q l a w->wpList P b (QD c Q) l (pZ c a) w
 |[],a,w,h=>⟨a,rfl,h⟩
 |o::l,a,w,h=>by
  simp only[wpList]at h⊢;rw[show(pZ c a).tmps=a.tmps from rfl];split
  ·rename_i d;rw[aM d]at h;rcases h with h|⟨h,e,f,i⟩
   ·refine .inl (UZ ?_ (aJ5 h));rintro k g ⟨j,rfl,h⟩;exact UY l j g h
   ·refine .inr ⟨?_,pZ c e,f,e,rfl,i⟩;unfold Oper.asks at*;rw[WZ];exact h
  ·rename_i d;rw[Z d]at h;rw[Cl];exact UY l _ w h
structure wR(M M':ap)(γ γ':G)(w w':World):Prop where
 dc:∀b,dc w M γ b->Ab.dc w' M' γ' b
 same:∀b,Ab.dc w M γ b->w'.heap[b]?=w.heap[b]?
 jb:∀(b:Nat)(cells:Array Value)(t:TypeId),w.heap[b]?=some (.cells cells t (0,0))->∃cells':Array Value,w'.heap[b]?=some (.cells cells' t (0,0))/\cells'.size=cells.size
def dQ.l5{L:ap}{w:World}(h:wR M L R m w q){x:V}(l:dQ w M R x v)
 (r:∀s,x.bx s->m s=R s):dQ q L m x v:=by
 cases x with
 |d x=>exact dN.mono l h.dc h.same
 |ptr s B=>obtain⟨b,n,e⟩:=l;exact⟨b,(r s rfl).trans n,e⟩
 |sub s k B U=>
  rcases l with⟨b,C,cells,t,n,e,y,z,D,h4⟩|⟨y,z⟩|⟨b,o,y,z⟩
  ·obtain⟨g,E,N⟩:=h.jb b cells t D;exact .inl ⟨b,C,g,t,(r s rfl).trans n,e,y,z,E,O⟩
  ·exact .inr (.inl ⟨(r s rfl).trans y,z⟩)
  ·exact .inr (.inr ⟨b,o,(r s rfl).trans y,z⟩)
 |gU ds=>
  obtain⟨a,e,H,A,hd⟩:=l;refine⟨a,e,H,h.dc _ A,λj x hj=>?_⟩;obtain⟨u,X,hr⟩:=hd j x hj;refine⟨u,?_,dN.mono hr h.dc h.same⟩;rw[OY (w:=w)]
  ·exact X
  ·rw[Cw];exact h.same _ A
 |db f Q=>obtain⟨cs,e,hl,hc⟩:=l;refine⟨cs,e,hl,λi p c T K=>?_⟩;obtain⟨b,n,e'⟩:=hc i p c T K;exact⟨b,(r p.1 ⟨p,bM T,rfl⟩).trans n,e'⟩
 |mp s=>obtain⟨b,n,e⟩:=l;exact⟨b,(r s rfl).trans n,e⟩
 |ty s t sl=>obtain⟨b,cells,n,D,e⟩:=l;obtain⟨g,E,N⟩:=h.jb b cells t D;exact⟨b,g,(r s rfl).trans n,E,N▸e⟩
 |eY es=>cases l
 |any=>exact l
theorem bW.l5{M g:ap}{b a:G}{w d:World}(h:wR M g b a w d){c:List V}{vs:au}(e:bW w M b c vs)
 (k:∀s,(∃x∈c,x.bx s)->a s=b s):bW d g a c vs:=
 ⟨e.1,λi x u f j=>(e.2 i x u f j).l5 h λs I=>k s ⟨x,bM f,I⟩⟩
theorem eK.l5{M i:ap}{b a:G}{w d:World}(h:wR M i b a w d){x:E}{v:Value}(f:eK w M b x v)
 (g:∀s,x.bx s->a s=b s):eK d i a x v:=by
 cases x with
 |c x=>exact dQ.l5 h f g
 |agg l=>obtain⟨j,e,k⟩:=f;exact⟨j,e,k.l5 h g⟩
theorem cr.l5{M j:ap}{b a:G}{w c:World}(h:wR M j b a w c){x:T}{v:Value}(d:cr w M b x v)
 (f:∀s,x.bx s->a s=b s):cr c j a x v:=by
 cases x with
 |e x=>exact eK.l5 h d f
 |cE o=>obtain⟨k,e,m,n⟩:=d;exact⟨k,e,m,λi x u g l=>(n i x u g l).l5 h λs I=>f s ⟨x,bM g,I⟩⟩
 |any=>trivial
theorem Mem.l5{M f:ap}{a:G}{H:fF}{w d:World}(e:Mem M a H w)(h:wR M f a a w d)(k:∀s b,a s=some (some b)->d.heap[b]?=w.heap[b]?)(o:∀b,f b->b<d.heap.size)(n:∀s b,a s=some (some b)->¬f b):Mem f a H d where
 iF:=o
 jO:=e.jO.to h.dc h.same
 inj:=e.inj
 nm:=n
 ic:=e.ic
 gR s r I:=by
  rcases e.gR s r I with⟨b,t,l,m,c,i,g⟩|p|⟨b,q,j,c,i,g⟩
  ·exact .inl ⟨b,t,l,m,c,(k s b c).trans i,g.l5 h λ_ _=>rfl⟩
  ·exact .inr (.inl p)
  ·exact .inr (.inr ⟨b,q,j,c,(k s b c).trans i,g⟩)
def dD.world{C:ef}(c:dD C R A a w){d:ap}{w':World}(e:wR C.M d R R w w')(f:∀s b,R s=some (some b)->w'.heap[b]?=w.heap[b]?)(g:∀b,d b->b<w'.heap.size)
 (h:∀s b,R s=some (some b)->¬d b)(j:fY C.mX C.w0 w'):dD { C with M:=d} R A a w':=
 ⟨c.mem.l5 e f g h,λi=>(c.aV i).l5 e λ_ _=>rfl,j,c.aX,c.aU,c.defers,c.size⟩
def Jt{γ:G}{new:Obj}(d:M l)(f:w.heap[l]?=some t)(hold:∀cells a r,t≠.cells cells a r):wR M M γ γ w (w.putObj l new):=
 ⟨λb c=>⟨by simpa using c.1,c.2.1,c.2.2⟩,λb c=>World.putObj_heap_other (λe=>c.2.1 (e▸d)),λb cells a c=>⟨cells,(World.putObj_heap_other (λe=>by subst e;rw[f]at c;injection c with c;exact hold _ _ _ c)).trans c,rfl⟩⟩
def dD.XS{C:ef}{aV:Nat->T}{H:fF}(c:dD C R ⟨aV,H⟩ a w){w':World}(k:Mem C.M m B w')(e:fY (λb=>∃s,R s=some (some b)) w w')
 (j:∀s b,m s=some (some b)->(∃t,R t=some (some b))\/w.heap.size<=b)(I:∀s,(∃i,(aV i).bx s)\/C.aU s->m s=R s):dD C m ⟨aV,B⟩ a w':=by
 have l:lz C.M R m w w':=⟨e.size,λb d=>e.same b d.1 (λ⟨s,h⟩=>d.2.2 s h),λb d s h=>by
  rcases j s b h with⟨t,f⟩|n
  ·exact d.2.2 t f
  ·have:=d.1;omega,e.jb⟩
 refine⟨k,λi=>(c.aV i).dR l λs g=>I s (.inl ⟨i,g⟩),c.aN.trans e (λx _ h=>h) (λx o ⟨s,h⟩=>?_),λs b h=>?_,λs h=>(I s (.inr h)).trans (c.aU s h),c.defers,c.size⟩
 ·rcases c.aX s x h with h|h
  ·exact h
  ·omega
 ·rcases j s b h with⟨t,f⟩|n
  ·exact c.aX t b f
  ·have:=c.aN.size;exact .inr O
def ef.jC(M:ap)(a:G)(w:World)(aU:ap)(c:Nat):ef:=⟨M,λb=>∃s,a s=some (some b),w,a,aU,c⟩
theorem dD.jC{M:ap}{c:G}{H:fF}{w:World}(d:Mem M c H w){aV:Nat->T}{a:Act}(e:∀i,cr w M c (aV i) (a.tmps.getD i undef))(f:a.defers=[])(aU:ap):dD (ef.jC M c w aU a.tmps.size) c ⟨aV,H⟩ a w:=
 ⟨d,e,fY.refl _ _,λs b h=>.inl ⟨s,h⟩,λ_ _=>rfl,f,rfl⟩
def ac6(a:av):Nat->List (List Bool)->List (List Bool)
 |0,X=>X
 |n+1,X=>X++ac6 a n ((X.flatMap λl=>(Region.ready .any a l.toArray).map λi=>l.set i true).eraseDups)
def Hy(a:av)(k:Nat)(X:List (List Bool)):Bool:=X.contains (List.replicate k false)&&X.all λl=>
 let r:=Region.ready .any (a.extract 0 k) l.toArray
 decide (l.length=k)&&(if r.isEmpty then l.all (λb=>b)else decide (Region.ready .any a (l++[false,false]).toArray=r)&&r.all (λi=>decide (i<k)&&X.contains (l.set i true)))
def aEI{P:ax}{n:Nat}{ops:av}{S:List (List Bool)}{Q6:Exit->Act->World->Prop}(hsz:ops.size=l+2)(I:Hy ops l S=true)(hg:∀o∈ops.toList,o.guard=none)(hd:∀o∈ops.toList,∀c,o.op≠.defer c)
 (t:∀e a w,e≠.normal->¬Q6 e a w)
 (L:∀a w,Q6 .normal a w->∀f,wpAnyIn (mP none) n P .any ops Q (f+2) (List.replicate l true++[false,false]).toArray a w):
 ∀(g:Nat)(d:List Bool)(a:Act)(w:World),d∈S->wpAny P .any (ops.extract 0 l) Q6 g d.toArray a w->wpAnyIn (mP none) n P .any ops Q (g+2) (d++[false,false]).toArray a w:=by
 have m:∀d:List Bool,d∈S->d.length=l/\(Region.ready .any (ops.extract 0 l) d.toArray=[]->d=List.replicate l true)/\(Region.ready .any (ops.extract 0 l) d.toArray≠[]->Region.ready .any ops (d++[false,false]).toArray=Region.ready .any (ops.extract 0 l) d.toArray/\∀i∈Region.ready .any (ops.extract 0 l) d.toArray,i<l/\d.set i true∈S):=by
  intro d B;unfold Hy at I;rw[ej]at I;have p:=eW.1 I.2 d B;simp only[ej,be]at p;obtain⟨M,p⟩:=p;refine⟨M,?_⟩;split at p
  ·rename_i j;rw[List.isEmpty_iff]at j;refine⟨λ_=>?_,λh=>absurd j h⟩;rw[<-M];apply List.eq_replicate_of_mem;intro b hb;simpa using eW.1 p b hb
  ·rename_i j;rw[List.isEmpty_iff]at j;simp only[ej,be,eW,List.contains_iff_mem]at p;exact⟨λh=>absurd h j,λ_=>p⟩
 intro g
 induction g with
 |zero=>intro d a w B h;obtain⟨p,E⟩:=h;rw[(m d B).2.1 p];exact L a w E 0
 |succ g V=>
  intro d a w B h;obtain⟨p,E⟩:=h;by_cases j:Region.ready .any (ops.extract 0 l) d.toArray=[]
  ·rw[(m d B).2.1 j];exact L a w (p j) (g+1)
  ·obtain⟨hlen,_,G⟩:=m d B;obtain⟨N,R⟩:=G j;show wpAnyIn (mP none) n P .any ops Q ((g+2)+1) (d++[false,false]).toArray a w;refine⟨λh=>absurd (N▸h) j,λi D=>?_⟩;rw[N]at D;have H:=(R i D).1;have u:=E i D;have ho:ops[i]?=some (ops[i]' O):=Es _;have K:(ops.extract 0 l)[i]?=some (ops[i]' O):=by rw[Array.getElem?_extract_of_lt O];simp
   have z:ops[i]' O∈ops.toList:=ai;unfold wpOp at u;unfold wpOpIn;simp only[K]at u;simp only[ho];have T:∀y,Region.wanted (ops[i]' O) y=true:=λy=>by simp[Region.wanted,hg _ z]
   rw[aM (T _)]at u;rw[aM (T _)];have C:(d++[false,false]).toArray.setIfInBounds i true=(d.set i true++[false,false]).toArray:=by apply mQ;simp[List.set_append,hlen,H]
   have A:d.toArray.setIfInBounds i true=(d.set i true).toArray:=ai;have q:¬LetsOut Q6:=λ⟨a,w,h⟩=>t _ a w ai h
   rcases u with u|⟨_,u⟩
   ·have U:=UX (ro:=none) (n:=n) (hd _ z) u;have h5:(ops[i]' O).wpIn (mP none) n P a w (wpAny P .any (ops.extract 0 l) Q6 g (d.toArray.setIfInBounds i true)) Q:=by
     refine⟨U.1,?_⟩;have s:=U.2;generalize((ops[i]' O).semAt (mP none).round a.eval).run P w=r at s;cases r with
     |ok x X=>
      cases x<;>simp only[Oper.uponIn]at s⊢ <;>try exact s
      ·exact⟨s.1,CallsIn.mono s.2 λe w2 j=>by
        cases e with
        |returned v=>exact j
        |panicked c=>exact absurd j (t _ _ _ ai)
        |outgrown=>exact absurd j q⟩
      ·exact⟨s.1,RoundIn.mono s.2 λe w2 j=>by
        cases e with
        |returned v=>exact j
        |panicked c=>exact absurd j (t _ _ _ ai)
        |outgrown=>exact absurd j q⟩
     |halt x X=>cases x<;>simp only[Oper.uponIn]at s⊢ <;>first|exact s|exact absurd s (t _ _ _ ai)
    refine Oper.wpIn_mono (λa w h=>?_) h5;rw[C];rw[A]at h;exact V (d.set i true) a w (R i D).2 h
   ·exact absurd u q
section
variable {P:ax}
def Dz(h:(L.all λo=>match o.op with|.defer _=>false|_=>true)=true):∀o∈L,∀c,o.op≠.defer c:=λo a c e=>by have:=eW.1 h o a;rw[e]at this;simp at this
def ja(eM eD:av)(a:FuncId)(b:Array Value)(D:Nat):Loop:= { state:=.ready,pending:=Option.none,fn:=a,tmps:=b,params:=#[9,10],assign:=.region 3 eM false,body:=.block 1 (.region 4 eD false),defers:=D}
def LI(r:Loop):∀cells t x,(Obj.loop r)≠.cells cells t x:=λ_ _ _ h=>by cases h
def aew(r:Option (List Deferred)):∀cells t x,(Obj.deferred r)≠.cells cells t x:=λ_ _ _ h=>by cases h
def ahu(t:Array Value)(j:Nat)(v:Value)(a:j<t.size)(i:Nat):(t.setIfInBounds j v).getD i undef=if i=j then v else t.getD i undef:=by
 simp only[M9,Array.getElem?_setIfInBounds];by_cases h:j=i
 ·subst h;simp[a]
 ·rw[Z h,Z (λe=>h e.symm)]
def U4(a:Array Value)(x y:Value):(((#[9,10]:Array Tmp).zip #[x,y]).foldl (λt (p:Tmp×Value)=>t.setIfInBounds p.1 p.2) a)=(a.setIfInBounds 9 x).setIfInBounds 10 y:=by rw[<-Array.foldl_toList,Array.toList_zip];rfl
def aJ3{b:Fence}{Q':Exit->Act->World->Prop}(i:∀e a w,e≠.normal->¬Q' e a w)(h:o.wpIn b n P a w K Q'):o.wpIn b n P a w K Q:=by
 refine⟨h.1,?_⟩;have d:=h.2;have f:¬LetsOut Q':=λ⟨a,w,h⟩=>i _ a w ai h
 generalize(o.semAt b.round a.eval).run P w=r at d;cases r with
 |ok x j=>
  cases x<;>simp only[Oper.uponIn]at d⊢ <;>try exact d
  ·exact⟨d.1,CallsIn.mono d.2 λe k g=>by
    cases e with
    |returned v=>exact g
    |panicked c=>exact absurd g (i _ _ _ ai)
    |outgrown=>exact absurd g f⟩
  ·exact⟨d.1,RoundIn.mono d.2 λe k g=>by
    cases e with
    |returned v=>exact g
    |panicked c=>exact absurd g (i _ _ _ ai)
    |outgrown=>exact absurd g f⟩
 |halt x j=>cases x<;>simp only[Oper.uponIn]at d⊢ <;>first|exact d|exact absurd d (i _ _ _ ai)
def aDU(d:∀c,o.op≠.defer c)(f:o.guard=Option.none)(g:X[l]?=some o)
 (h:wpList P X (λe a w=>e=.normal/\K a w) [o] a w):wpOpIn (mP Option.none) n P X Q l K a w:=by
 unfold wpOpIn;simp only[g];simp only[wpList]at h;have b:∀y,Region.wanted o y=true:=λy=>by simp[Region.wanted,f]
 rw[aM (b _)]at h;rw[aM (b _)];rcases h with h|⟨_,_,_,h,_⟩
 ·exact aJ3 (Q':=λe a w=>e=.normal/\K a w) (λe a w j h=>j h.1) (UX d (UZ (λa w h=>h.2) h))
 ·cases h
def QN{args:List E}{vals:au}(h:kS w M R args vals)(k i:Nat):cr w M R (nJ args i) ((vals.toArray++Array.replicate k undef).getD i undef):=by
 rw[Xs];cases b:args[i]? with
 |none=>trivial
 |some x=>
  have c:vals.length=args.length:=h.1.symm;have e:i<args.length:=(du.1 b).1;have d:vals[i]?=some (vals[i]' O):=cN O;have:((vals.toArray++Array.replicate k undef).getD i undef)=vals[i]' O:=by have a:i<vals.length:=O;simp[Array.getElem?_append,a]
  rw[this];exact h.2 i x _ b d
def acE{mX:ap}(h:fY mX q w)(f:w.heap[l]?=some t)(hold:∀cells a r,t≠.cells cells a r)(g:q.heap.size<=l):fY mX q (w.putObj l j):=
 ⟨h.os,h.tape,h.output,h.drawn,by simpa using h.size,λb d i=>(World.putObj_heap_other O).trans (h.same b d i),λb cells a d=>by obtain⟨k,c,m⟩:=h.jb b cells a d;exact⟨k,(World.putObj_heap_other (λe=>by subst e;rw[f]at c;injection c with c;exact hold _ _ _ c)).trans c,m⟩⟩
end
def Lj(N:Nat)(v:Value):Nat:=match v with|.int _ i=>((N:Int)-i).toNat|_=>0
def oF(K:St->Prop):nF:=⟨K,λ_ _=>False,λ_=>False⟩
section
variable {P:ax}{aN:aq}{eM eD:av}
def qH{aU:ap}(h:WP P n aU c A (oF U)){C:ef}(j:C.nt=n)(I:C.aU=aU)(R:gO C A a w)(k:∀f g b,gO C b f g->U b->Q .normal f g):c.wp P Q a w:=
 wp_mono (h C j I a w R) λe f g ⟨b,m,d⟩=>by
  cases e with
  |normal=>exact k f g b m d
  |exit i=>cases d
  |ret=>cases d
  |goto l=>cases d
  |panic o=>cases d
  |outgrown=>cases d
theorem aFV{kH d:Nat->T}{H:fF}(nS:∀i s,(kH i).bx s->s∈aN)(nQ:∀i s,(d i).bx s->s∈aN)
 (F6:(eM.toList.all λo=>match o.op with|.defer _=>false|_=>true)=true)(F7:(eD.toList.all λo=>match o.op with|.defer _=>false|_=>true)=true)
 (body:gA P 15 (·∈aN) eM eM.toList ⟨gV (gV kH 9 (d 13)) 10 (d 16),H⟩ λσ=>gA P 15 (·∈aN) eD eD.toList σ λg=>g.heap=B)
 {n:Nat}{D:Nat}{M:ap}{γ:G}{w:World}
 (hM:M l)(U:C.size=15)(hnm2:∀s b,R s=some (some b)->¬M b)
 (E:∀i,cr q M R (kH i) (C.getD i undef))(hl:q.heap[l]?=some (.loop (ja eM eD f C D)))
 (c:dD (ef.jC M R q (·∈aN) 20) γ ⟨d,H⟩ a w):
 w.heap[l]?=some (.loop (ja eM eD f C D))/\
 RoundIn Fence.wide n P l f (((#[9,10]:Array Tmp).zip #[a.eval (.tmp 13),a.eval (.tmp 16)]).foldl (λt (p:Tmp×Value)=>t.setIfInBounds p.1 p.2) C) (.region 3 eM false) (.block 1 (.region 4 eD false)) w
  (λe y=>e=.returned (.bool true)/\∃γ',dD (ef.jC M R q (·∈aN) 20) γ' ⟨d,B⟩ a y):=by
 have j:∀{γ:G}{H:fF}{w:World},Mem M γ H w->¬ ∃s,γ s=some (some l):=λhm ⟨s,h⟩=>hm.nm s l h hM
 have v:w.heap[l]?=some (.loop (ja eM eD f C D)):=(c.aN.same l (jy hl) (λ⟨s,h⟩=>hnm2 s l h hM)).trans hl;refine⟨v,?_⟩;have hc:lz M R γ q w:=⟨c.aN.size,λb m=>c.aN.same b m.1 (λ⟨s,h⟩=>m.2.2 s h),λb m s h=>by
  rcases c.aX s b h with⟨t,ht⟩|h2
  ·exact m.2.2 t ht
  ·have:=m.1;have h3:q.heap.size<=b:=h2;omega,c.aN.jb⟩
 have E':∀i,cr w M γ (kH i) (C.getD i undef):=λi=>(E i).dR hc λs I=>c.aU s (nS i s I)
 obtain⟨u,z⟩:∃u:Act,u= { tmps:=(((#[9,10]:Array Tmp).zip #[a.eval (.tmp 13),a.eval (.tmp 16)]).foldl (λt (p:Tmp×Value)=>t.setIfInBounds p.1 p.2) C),defers:=[]}:=⟨_,rfl⟩;have V:u.tmps=(C.setIfInBounds 9 (a.eval (.tmp 13))).setIfInBounds 10 (a.eval (.tmp 16)):=by rw[z];exact U4 _ _ _
 have hsz:u.tmps.size=15:=by rw[V];simp[U]
 have henv:∀i,cr w M γ (gV (gV kH 9 (d 13)) 10 (d 16) i) (u.tmps.getD i undef):=by
  intro i;rw[V,ahu _ _ _ (by simp[U]),ahu _ _ _ O];simp only[gV];split
  ·exact c.aV 16
  ·split
   ·exact c.aV 13
   ·exact E' i
 have R4:dD (ef.jC M γ w (·∈aN) u.tmps.size) γ ⟨gV (gV kH 9 (d 13)) 10 (d 16),H⟩ u w:=
  dD.jC (H:=H) c.mem henv (by rw[z]) (·∈aN)
 refine roundIn_of_wpIn (F:=Fence.wide) trivial ?_;rw[<-z]
 have step1:=wpIn_region_list (F:=mP (some l)) (n:=n) (id:=3) (ops:=eM) (Q:=λe a' y=>e=.normal/\∃g,gO (ef.jC M γ w (·∈aN) u.tmps.size) g a' y/\gA P 15 (·∈aN) eD eD.toList g λg=>g.heap=B)
  (HV (by rintro⟨_,_,h,_⟩;cases h) eM.toList u w (Dz F6)
    (body _ hsz rfl u w ⟨γ,R4⟩ _ (λa' y g R' hk=>⟨rfl,g,R',hk⟩)))
 refine wpIn_mono (F:=mP (some l)) step1 ?_;rintro e A wA ⟨rfl,X,⟨r,k⟩,hkA⟩;have x:wA.heap[l]?=some (.loop (ja eM eD f C D)):=(k.aN.same l (jy v) (j c.mem)).trans v;refine⟨wA.putObj l (.loop { ja eM eD f C D with state:=.busy}),run_beginRound x rfl,?_⟩;have cp:=Jt (M:=M) (γ:=r) (w:=wA) (new:=.loop { ja eM eD f C D with state:=.busy}) hM x (LI _)
 have RB:dD (ef.jC M r (wA.putObj l (.loop { ja eM eD f C D with state:=.busy})) (·∈aN) A.tmps.size) r X A (wA.putObj l (.loop { ja eM eD f C D with state:=.busy})):=
  dD.jC (H:=X.heap) (k.mem.l5 cp (λs b I=>World.putObj_heap_other (λe=>j k.mem ⟨s,e▸I⟩)) (λb m=>by have:=k.mem.iF b m;simpa using this) k.mem.nm) (λi=>(k.aV i).l5 cp λ_ _=>rfl) k.defers _
 have hsz1:A.tmps.size=15:=k.size.trans hsz;have hlB:(wA.putObj l (.loop { ja eM eD f C D with state:=.busy})).heap[l]?=some (.loop { ja eM eD f C D with state:=.busy}):=World.putObj_heap_same (jy x)
 have step2:=wpIn_region_list (F:=mP (some l)) (n:=n) (id:=4) (ops:=eD) (Q:=λe a' y=>e=.normal/\∃g,gO (ef.jC M r (wA.putObj l (.loop { ja eM eD f C D with state:=.busy})) (·∈aN) A.tmps.size) g a' y/\g.heap=B)
  (HV (by rintro⟨_,_,h,_⟩;cases h) eD.toList A _ (Dz F7)
    (hkA _ hsz1 rfl A _ ⟨r,RB⟩ _ (λa' y g R' hk=>⟨rfl,g,R',hk⟩)))
 refine wpIn_block (F:=mP (some l)) (wpIn_mono (F:=mP (some l)) step2 ?_);rintro e a2 wC ⟨rfl,σC,⟨K,RC⟩,hkC⟩;have L:wC.heap[l]?=some (.loop { ja eM eD f C D with state:=.busy}):=(RC.aN.same l (jy hlB) (j RB.mem)).trans hlB;have hend:=run_endRound (P:=P) Option.none L;refine⟨.bool true,wC.putObj l (.loop (ja eM eD f C D)),hend,rfl,K,?_⟩;have cp2:=Jt (M:=M) (γ:=K) (w:=wC) (new:=.loop (ja eM eD f C D)) hM L (LI _);have N:(wA.putObj l (.loop { ja eM eD f C D with state:=.busy})).heap.size=wA.heap.size:=ai;have k1:w.heap.size<=wA.heap.size:=k.aN.size;have k2:wA.heap.size<=wC.heap.size:=by have:=RC.aN.size;have h3:(wA.putObj l (.loop { ja eM eD f C D with state:=.busy})).heap.size<=wC.heap.size:=this;omega
 have mC:Mem M K B wC:=hkC▸RC.mem;refine dD.XS (aV:=d) (H:=H) c (mC.l5 cp2 (λs b I=>World.putObj_heap_other (λe=>j RC.mem ⟨s,e▸I⟩)) (λb m=>by have:=mC.iF b m;simpa using this) mC.nm) ?_ ?_ ?_
 ·refine⟨RC.aN.os.trans k.aN.os,RC.aN.tape.trans k.aN.tape,RC.aN.output.trans k.aN.output,dH k.aN.drawn RC.aN.drawn,by simp;omega,λb m hn=>?_,λb cells t m=>?_⟩
  ·by_cases e:b=l
   ·subst e;exact(World.putObj_heap_same (jy L)).trans v.symm
   ·refine(World.putObj_heap_other e).trans ((RC.aN.same b (by show b<_;rw[show(ef.jC M r (wA.putObj l (.loop { ja eM eD f C D with state:=.busy})) (·∈aN) A.tmps.size).w0.heap.size=wA.heap.size from N];omega) ?_).trans ((World.putObj_heap_other e).trans (k.aN.same b m hn)));rintro⟨s,I⟩;rcases k.aX s b I with h|h
    ·exact hn h
    ·have h3:w.heap.size<=b:=h;omega
  ·obtain⟨c1,h1,z1⟩:=k.aN.jb b cells t m;have e:b≠l:=λe=>by subst e;rw[x]at h1;cases h1
   obtain⟨c2,h2,z2⟩:=RC.aN.jb b c1 t ((World.putObj_heap_other e).trans h1);exact⟨c2,(World.putObj_heap_other e).trans h2,z2.trans z1⟩
 ·intro s b I;rcases RC.aX s b I with⟨t,ht⟩|h
  ·rcases k.aX t b ht with h|h
   ·exact .inl h
   ·exact .inr h
  ·have h3:(wA.putObj l (.loop { ja eM eD f C D with state:=.busy})).heap.size<=b:=h;exact .inr O
 ·intro s I;have hlt:s∈aN:=by
   rcases I with⟨i,hi⟩|h
   ·exact nQ i s hi
   ·exact h
  exact(RC.aU s hlt).trans (k.aU s hlt)
theorem axM(fC:P.follows .mixedOrders=true){kH:Nat->T}{A:Nat->St}{EQ:Nat->Nat->T}{Hp:Nat->fF}{N:Nat}(nS:∀i z,(kH i).bx z->z∈aN)(nQ:∀x,x<N->∀i z,(EQ x i).bx z->z∈aN)
 (F6:(eM.toList.all λk=>match k.op with|.defer _=>false|_=>true)=true)(F7:(eD.toList.all λk=>match k.op with|.defer _=>false|_=>true)=true)
 (body:∀x,x<N->gA P 15 (·∈aN) eM eM.toList ⟨gV (gV kH 9 (EQ x 13)) 10 (EQ x 16),Hp x⟩ λK=>gA P 15 (·∈aN) eD eD.toList K λσ'=>σ'.heap=Hp (x+1))
   (hf:P.funcs[f]?=some u){zg j2 Dl j4:Code}{iQ:av}(hb:u.body=some (.seq c (.block 0 (.loop (.seq s (.seq zg (.seq (.block 1 (.seq j2 (.seq (.region 3 iQ true) Dl))) j4)))))))(hnt:u.ntmps=20)(hres:u.results.toList=[])
 {LL:Nat}(start:WP P 20 (·∈aN) c ⟨nJ [.c (.d (.sc (.func (.yield l) #[] #[]))),.c (.ptr LL 0)],Hp 0⟩ (oF λK=>d_ 20 (·∈aN) K (A 0)))
 (step:∀x,x<N->WP P 20 (·∈aN) s (A x) (oF λK=>WP P 20 (·∈aN) zg K (oF λK=>WP P 20 (·∈aN) j2 K (oF λK=>∀H:ef,H.nt=20->H.aU=(·∈aN)->∀a w,gO H K a w->wpAny P .any (iQ.extract 0 6) (λe a w=>e=.normal/\gO H ⟨EQ x,Hp x⟩ a w) 6 (List.replicate 6 false).toArray a { w with drawn:=w.drawn+1}))))
 {o7:Oper}(ho6:iQ[6]?=some o)(ho7:iQ[7]?=some o7)(hop6:∃ts,o.op=.call { callee:=.value (.tmp 11),args:=#[.tmp 13,.tmp 16],argTypes:=ts})(Q:o.dst=some 17)
 (after:∀x,x<N->gA P 20 (·∈aN) iQ [o7] ⟨gV (EQ x) 17 (.e (.c (.d (.sc (.bool true))))),Hp (x+1)⟩ λK=>WP P 20 (·∈aN) Dl K (oF λK=>WP P 20 (·∈aN) j4 K (oF λK=>d_ 20 (·∈aN) K (A (x+1)))))
 (stop:WP P 20 (·∈aN) s (A N) (oF λK=>WP P 20 (·∈aN) zg K ⟨λ_=>False,λi K=>i=0/\K.heap=Hp N,λ_=>False⟩))
 (e7:∀x,(A x).aV 7=.e (.c (.d (.sc (.int .i64 x)))))(e11:∀x,x<N->EQ x 11=.e (.c (.d (.sc (.func (.yield l) #[] #[])))))
 {S3:List (List Bool)}(D7:Hy iQ 6 S3=true)(MM:iQ.size=8)(F5:(iQ.toList.all λk=>match k.op with|.defer _=>false|_=>true)=true)(g3:(iQ.toList.all λk=>k.guard.isNone)=true)(Jv:Region.ready .any iQ #[true,true,true,true,true,true,false,false]=[6])(Jw:Region.ready .any iQ #[true,true,true,true,true,true,true,false]=[7])(O2:Region.ready .any iQ #[true,true,true,true,true,true,true,true]=[])
 {n:Nat}{D:Nat}{w2:World}(hM:M l)(hta:C.size=15)(hm2:Mem M R (Hp 0) w2)
 (E:∀i,cr w2 M R (kH i) (C.getD i undef))(hl:w2.heap[l]?=some (.loop (ja eM eD g C D)))(hpv:ud R LL 0 v):
 CallsIn Fence.wide n P f #[.func (.yield l) #[] #[],v] w2 (λe w'=>∃B γ',e=.returned B/\Mem M γ' (Hp N) w'/\fY (λb=>∃z,R z=some (some b)) w2 w'/\(∀z b,γ' z=some (some b)->(∃t,R t=some (some b))\/w2.heap.size<=b)/\∀z,z∈aN->γ' z=R z):=by
 refine callsIn_of_wp (F:=Fence.wide) hf hb trivial ?_;have hes:kS w2 M R [.c (.d (.sc (.func (.yield l) #[] #[]))),.c (.ptr LL 0)] [.func (.yield l) #[] #[],v]:=by
  refine⟨rfl,λi x y hx hu=>?_⟩
  match i,hx,hu with
  |0,hx,hu=>simp at hx hu;subst hx;subst hu;exact dN.sc _ rfl
  |1,hx,hu=>simp at hx hu;subst hx;subst hu;exact hpv
  |i+2,hx,hu=>simp at hx
 have R0:gO (ef.jC M R w2 (·∈aN) 20) ⟨nJ [.c (.d (.sc (.func (.yield l) #[] #[]))),.c (.ptr LL 0)],Hp 0⟩ { tmps:=#[.func (.yield l) #[] #[],v]++Array.replicate (u.ntmps-(#[.func (.yield l) #[] #[],v]:Array Value).size) undef,defers:=[]} w2:=by
  have:=dD.jC (aV:=nJ [.c (.d (.sc (.func (.yield l) #[] #[]))),.c (.ptr LL 0)]) (a:= { tmps:=#[.func (.yield l) #[] #[],v]++Array.replicate (u.ntmps-(#[.func (.yield l) #[] #[],v]:Array Value).size) undef,defers:=[]}) hm2 (QN hes _) rfl (·∈aN);refine⟨R,?_⟩;have e:(#[.func (.yield l) #[] #[],v]++Array.replicate (u.ntmps-(#[.func (.yield l) #[] #[],v]:Array Value).size) undef).size=20:=by rw[hnt];simp
  rw[<-e];exact this
 refine wpIn_seq (wpIn_wide.2 (qH start rfl rfl R0 λa1 w1 σ1 R1 hW1=>?_));refine wpIn_block ?_;refine wpIn_loop (λa w=>∃x,x<=N/\gO (ef.jC M R w2 (·∈aN) 20) (A x) a w) (λa _=>Lj N (a.tmps.getD 7 undef)) ⟨0,dz _,hW1 _ rfl rfl _ _ R1⟩ ?_;rintro a w ⟨x,hx,q⟩;have hmu:Lj N (a.tmps.getD 7 undef)=N-x:=by obtain⟨γ,q⟩:=q;have:=q.aV 7;rw[e7]at this;rw[iw this];show((N:Int)-(x:Int)).toNat=N-x;omega
 rcases B9 x N with U|hge
 ·refine wpIn_seq (wpIn_wide.2 (qH (step x U) rfl rfl q λa2 w2' σ2 R2 h2=>?_));refine wpIn_seq (wpIn_wide.2 (qH h2 rfl rfl R2 λa3 w3 σ3 R3 h3=>?_));refine wpIn_seq (wpIn_block (wpIn_seq (wpIn_wide.2 (qH h3 rfl rfl R3 λa4 w4 σ4 R4 h4=>?_))));refine wpIn_seq ?_;have hany:=h4 _ rfl rfl a4 w4 R4;refine wpIn_region_any (F:=Fence.wide) fC ?_;rw[MM];have hin0:List.replicate 6 false∈S3:=by unfold Hy at D7;rw[ej]at D7;simpa using D7.1
  refine aEI (n:=n) (S:=S3) (Q6:=λe a w=>e=.normal/\gO (ef.jC M R w2 (·∈aN) 20) ⟨EQ x,Hp x⟩ a w) MM D7 (λk ho=>by simpa using eW.1 g3 k ho) (Dz F5) (λe a w he h=>he h.1) ?_ 6 (List.replicate 6 false) a4 _ hin0 hany;rintro L w5 ⟨_,γ5,R5⟩ f6;show wpAnyIn (mP Option.none) n P .any iQ _ (f6+1+1) #[true,true,true,true,true,true,false,false] L w5;refine⟨(λh=>by rw[Jv]at h;cases h),λi hi=>?_⟩;rw[Jv]at hi;simp only[cL]at hi;subst hi;obtain⟨ts,hop⟩:=hop6;have hv:L.eval (.tmp 11)=.func (.yield l) #[] #[]:=by have h:cr w5 M γ5 (EQ x 11) (L.tmps.getD 11 undef):=R5.aV 11;rw[e11 x U]at h;exact iw h
  obtain⟨hlw,hround⟩:=aFV (n:=n-1) nS (nQ x U) F6 F7 (body x U) hM hta hm2.nm E hl R5;have V:o∈iQ.toList:=by simpa using U8 ho6
  have X:o7∈iQ.toList:=by simpa using U8 ho7
  unfold wpOpIn;simp only[ho6];have hg6:o.guard=Option.none:=by simpa using eW.1 g3 o V
  have hg7:o7.guard=Option.none:=by simpa using eW.1 g3 o7 X
  rw[aM (by simp[Region.wanted,hg6])];refine⟨λ_ _=>trivial,?_⟩;have hrun:(o.semAt (mP Option.none).round L.eval).run P w5=.ok (.round l g (((#[9,10]:Array Tmp).zip #[L.eval (.tmp 13),L.eval (.tmp 16)]).foldl (λt (p:Tmp×Value)=>t.setIfInBounds p.1 p.2) C) (.region 3 eM false) (.block 1 (.region 4 eD false))) w5:=by
   rw[Oper.semAt_eq _ _ _ (Dz F5 o V)];have hy:(Instr.yield l #[L.eval (.tmp 13),L.eval (.tmp 16)]).run P w5=.ok (.round l g ((C.setIfInBounds 9 (L.eval (.tmp 13))).setIfInBounds 10 (L.eval (.tmp 16))) (.region 3 eM false) (.block 1 (.region 4 eD false))) w5:=by rw[run_yield (P:=P) (args:=#[L.eval (.tmp 13),L.eval (.tmp 16)]) hlw (by rfl),<-U4];rfl
   rw[U4];simp only[execOp,hop,resolve,hv,Deferred.ofValue,Sem.run_bind,Sem.run_pure,Result.andThen_ok,invoke];simpa using hy
  rw[hrun,Oper.uponIn_round];refine⟨(λh=>by cases h),RoundIn.mono hround ?_⟩;rintro e w6 ⟨rfl,γ6,R6⟩;have R6':dD (ef.jC M R w2 (·∈aN) 20) γ6 ⟨gV (EQ x) 17 (.e (.c (.d (.sc (.bool true))))),Hp (x+1)⟩ (L.put o.dst (.bool true)) w6:=by have:=R6.Br o.dst (by rw[Q];intro j hj;injection hj with hj;subst hj;show 17<20;omega) (.bool true) (.e (.c (.d (.sc (.bool true))))) (dN.sc _ rfl);rw[Q]at this⊢;exact this
  show wpAnyIn (mP Option.none) n P .any iQ _ (f6+1) #[true,true,true,true,true,true,true,false] (L.put o.dst (.bool true)) w6;refine⟨(λh=>by rw[Jw]at h;cases h),λi hi=>?_⟩;rw[Jw]at hi;simp only[cL]at hi;subst hi;refine aDU (Dz F5 o7 X) hg7 ho7 (after x U _ rfl rfl _ _ ⟨γ6,R6'⟩ _ (λa7 w7 σ7 R7 h7=>⟨rfl,?_⟩));show wpAnyIn (mP Option.none) n P .any iQ _ f6 #[true,true,true,true,true,true,true,true] a7 w7;refine wpAnyIn_done O2 ?_ f6;show Code.wpIn Fence.wide n P Dl _ a7 w7;refine wpIn_wide.2 (qH h7 rfl rfl R7 λa8 w8 σ8 R8 h8=>?_);show Code.wpIn Fence.wide n P j4 _ a8 w8;refine wpIn_wide.2 (qH h8 rfl rfl R8 λa9 w9 σ9 R9 h9=>?_);have R9':=h9 _ rfl rfl _ _ R9;refine⟨⟨x+1,O,R9'⟩,?_⟩;obtain⟨γ9,R9'⟩:=R9';have:=R9'.aV 7;rw[e7]at this;show Lj N (a9.tmps.getD 7 undef)<Lj N (a.tmps.getD 7 undef);rw[hmu,iw this];show((N:Int)-((x+1:Nat):Int)).toNat<N-x;omega
 ·obtain rfl:x=N:=by omega
  refine wpIn_seq (wpIn_wide.2 (qH stop rfl rfl q λa2 w2' σ2 R2 h2=>?_));refine wpIn_seq (wpIn_wide.2 (wp_mono (h2 _ rfl rfl _ _ R2) λe a' w' ⟨σ',R3,hq⟩=>?_));cases e with
  |normal=>cases hq
  |ret=>cases hq
  |goto l=>cases hq
  |panic ch=>cases hq
  |outgrown=>cases hq
  |exit i=>obtain⟨rfl,hH⟩:=hq;obtain⟨γ3,R3⟩:=R3;obtain⟨B,hv,_⟩:=Mf (r:=.cE []) R3 u (by rw[hres];rfl);exact⟨R3.defers,B,hv,B,γ3,rfl,hH▸R3.mem,R3.aN,R3.aX,λz I=>R3.aU z I⟩
def zc(x:Option (Option Nat)):G:=λs=>if s=0 then x else Option.none
def Gk(h:zc x l=some b):l=0/\x=some b:=by
 unfold zc at h;split at h
 ·rename_i e;exact⟨e,h⟩
 ·cases h
def Qu(x:Option (Option Nat)):zc x 0=x:=by simp[zc]
def abI(h:l≠0):zc x l=Option.none:=by simp[zc,h]
theorem aFx(hf:P.funcs[f]?=some u)(hname:(u.name== "runtime.NumGoroutine")=false){k0 k1 k2:Code}{q6:av}
 (j:u.body=some (.seq k0 (.seq k1 (.seq (.seq k2 (.block 0 (.rangeFunc (.tmp 8) #[9,10] (.region 3 eM false) (.block 1 (.region 4 eD false))))) (.seq (.region 5 q6 false) .ret)))))(hnt:u.ntmps=15)(hg:gv P g)
 {args:List E}{cs0:List V}(hal:args.length<=15){kH:Nat->T}{H1 H8:fF}(nS:∀i s,(kH i).bx s->s∈aN)(h0:0∈aN)
 (start:WP P 15 (·∈[0]) k0 ⟨nJ args,bX [(0,cs0)]⟩ (oF λN=>WP P 15 (·∈[0]) k1 N (oF λN=>WP P 15 (·∈[0]) k2 N (oF λN=>d_ 15 (·∈[0]) N ⟨kH,H1⟩))))
 {LL:Nat}(e8:kH 8=.e (.c (.db g [(LL,0)])))
 (iter:∀{n l:Nat}{d:FuncId}{D:Nat}{M:ap}{z:G}{R:World}{ta:Array Value},M l->ta.size=15->Mem M z H1 R->
   (∀i,cr R M z (kH i) (ta.getD i undef))->R.heap[l]?=some (.loop (ja eM eD d ta D))->∀{pv:Value},ud z LL 0 pv->
   CallsIn Fence.wide n P g #[.func (.yield l) #[] #[],pv] R (λe w'=>∃v U,e=.returned v/\Mem M U H8 w'/\fY (λb=>∃s,z s=some (some b)) R w'/\(∀s b,U s=some (some b)->(∃t,z t=some (some b))\/R.heap.size<=b)/\∀s,s∈aN->U s=z s))
 {r:T}(post:gA P 15 (·∈[0]) q6 q6.toList ⟨kH,H8⟩ λN=>∃r',tD P u.results.toList N=some r'/\qT r' r/\N.heap 0=some cs0)(PN:(q6.toList.all λo=>match o.op with|.defer _=>false|_=>true)=true)
 (hrn:∀s,¬r.bx s)(hcn:∀s,¬ ∃x∈cs0,x.bx s)(hnm7:∀es,cs0≠[.eY es]):dA P f (bX [(0,cs0)]) args (bX [(0,cs0)]) (·∈[0]) r:=by
 refine⟨gY hf hname j,λM γ w k hm A=>?_⟩;refine(callsIn_wide (n:=2)).1 (callsIn_of_wp_marks (F:=Fence.wide) hf j trivial ?_);have R0:gO (ef.jC M γ w (·∈[0]) 15) ⟨nJ args,bX [(0,cs0)]⟩ { tmps:=k.toArray++Array.replicate (u.ntmps-k.toArray.size) undef,defers:=[]} w:=by
  have:=dD.jC (aV:=nJ args) (a:= { tmps:=k.toArray++Array.replicate (u.ntmps-k.toArray.size) undef,defers:=[]}) hm (QN A _) rfl (·∈[0]);refine⟨γ,?_⟩;have e:(k.toArray++Array.replicate (u.ntmps-k.toArray.size) undef).size=15:=by have:=A.1;rw[hnt];simp;omega
  rw[<-e];exact this
 refine wpIn_seq (wpIn_wide.2 (qH start rfl rfl R0 λa1 w1 σ1 R1 h1=>?_));refine wpIn_seq (wpIn_wide.2 (qH h1 rfl rfl R1 λa2 R σ2 R2 h2=>?_));refine wpIn_seq (wpIn_seq (wpIn_wide.2 (qH h2 rfl rfl R2 λa w3 σ3 y h3=>?_)));refine wpIn_block (wpIn_rangeFunc λd _=>?_);obtain⟨m,y⟩:=h3 _ rfl rfl _ _ y;have h8:cr w3 M m (kH 8) (a.tmps.getD 8 undef):=y.aV 8;rw[e8]at h8;obtain⟨cs,hv,hlen,hcs⟩:=h8;obtain⟨pv,rfl⟩:∃pv,cs=[pv]:=by
  match cs,hlen with
  |[pv],_=>exact⟨pv,rfl⟩
 have hpv:ud m LL 0 pv:=hcs 0 (LL,0) pv rfl rfl;obtain⟨W,hW⟩:∃W,W=(w3.alloc (.deferred (some []))).alloc (.loop (ja eM eD d a.tmps w3.heap.size)):=⟨_,rfl⟩;have hWs:W.heap.size=w3.heap.size+2:=by rw[hW];simp
 have hWl:W.heap[w3.heap.size+1]?=some (.loop (ja eM eD d a.tmps w3.heap.size)):=by rw[hW];have:=World.alloc_heap_new (w3.alloc (.deferred (some []))) (.loop (ja eM eD d a.tmps w3.heap.size));rwa [World.size_alloc]at this
 have kW:fY q_ w3 W:=by rw[hW];exact(q7 w3 _).trans (q7 _ _) (λ_ _ h=>h) (λ_ _ h=>h)
 have hWd:W.heap[w3.heap.size]?=some (.deferred (some [])):=by rw[hW];exact((q7 (w3.alloc (.deferred (some []))) _).same w3.heap.size ai (λh=>h)).trans (World.alloc_heap_new w3 _)
 have hM2:∀s b,m s=some (some b)->¬(M b\/b=w3.heap.size\/b=w3.heap.size+1):=by
  rintro s b I (h|h|h)
  ·exact y.mem.nm s b I h
  ·have:=y.mem.lt I;omega
  ·have:=y.mem.lt I;omega
 have cW:wR M (λb=>M b\/b=w3.heap.size\/b=w3.heap.size+1) m m w3 W:=
  ⟨λb j=>⟨by have:=j.1;omega,λh=>by
    rcases h with h|h|h
    ·exact j.2.1 h
    ·have:=j.1;omega
    ·have:=j.1;omega,j.2.2⟩,λb j=>kW.same b j.1 (λh=>h),kW.jb⟩
 have RW:dD { ef.jC M γ w (·∈[0]) 15 with M:=λb=>M b\/b=w3.heap.size\/b=w3.heap.size+1} m ⟨kH,H1⟩ a W:=
  y.world cW (λs b I=>kW.same b (y.mem.lt I) (λh=>h)) (λb j=>by
   rcases j with h|h|h
   ·have:=y.mem.iF b h;omega
   ·omega
   ·omega) hM2 (y.aN.trans kW (λ_ _ h=>h) (λ_ _ h=>h.elim))
 refine⟨w3.heap.size+1,[{ target:=.collected w3.heap.size,args:=#[]}],W,{ target:=.fn (.func g) #[pv],args:=#[.func (.yield (w3.heap.size+1)) #[] #[]]},W,g,#[.func (.yield (w3.heap.size+1)) #[] #[],pv],W,?_,?_,λ_ _=>trivial,?_,(λh=>by cases h),?_⟩
 ·rw[hW];exact run_enterLoop_outer _ _ _ _ _
 ·have hv':a.eval (.tmp 8)=.func (.func g) #[] #[pv]:=hv;simp only[resolve,hv'];simp[go_sem]
 ·have:=hg #[.func (.yield (w3.heap.size+1)) #[] #[],pv] W;simp[invoke,this]
 refine CallsIn.mono (iter (M:=λb=>M b\/b=w3.heap.size\/b=w3.heap.size+1) (.inr (.inr rfl)) (y.size) RW.mem RW.aV hWl hpv) ?_;rintro e K ⟨v,p,rfl,m6,k6,o6,s6⟩;have nI:∀{x:Nat},(x=w3.heap.size\/x=w3.heap.size+1)->¬ ∃s,m s=some (some x):=λhx ⟨s,h⟩=>hM2 s _ h (.inr hx)
 have hl6:K.heap[w3.heap.size+1]?=some (.loop (ja eM eD d a.tmps w3.heap.size)):=(k6.same _ O (nI (.inr rfl))).trans hWl;have hd6:K.heap[w3.heap.size]?=some (.deferred (some [])):=(k6.same _ O (nI (.inl rfl))).trans hWd;refine⟨Option.none,K.putObj (w3.heap.size+1) (.loop { ja eM eD d a.tmps w3.heap.size with state:=.exhausted}),run_endLoop hl6 (by simp[ja]),?_⟩;have R6:=dD.XS (aV:=kH) (H:=H1) RW m6 k6 o6 (λs I=>s6 s (by
  rcases I with⟨i,hi⟩|h
  ·exact nS i s hi
  ·have h3:s∈[0]:=h;rw[cL]at h3;exact h3▸h0))
 have hws:w.heap.size<=w3.heap.size:=y.aN.size;have cp:=Jt (M:=λb=>M b\/b=w3.heap.size\/b=w3.heap.size+1) (γ:=p) (w:=K) (new:=.loop { ja eM eD d a.tmps w3.heap.size with state:=.exhausted}) (.inr (.inr rfl)) hl6 (LI _);have m7:=m6.l5 cp (λs b I=>World.putObj_heap_other (λe=>m6.nm s b I (.inr (.inr e)))) (λb j=>by have:=m6.iF b j;simpa using this) m6.nm;have k7:fY (ef.jC M γ w (·∈[0]) 15).mX w (K.putObj (w3.heap.size+1) (.loop { ja eM eD d a.tmps w3.heap.size with state:=.exhausted})):=acE R6.aN hl6 (LI _) (by show w.heap.size<=_;omega)
 have R7:dD (ef.jC (λb=>M b\/b=w3.heap.size\/b=w3.heap.size+1) p (K.putObj (w3.heap.size+1) (.loop { ja eM eD d a.tmps w3.heap.size with state:=.exhausted})) (·∈[0]) a.tmps.size) p ⟨kH,H8⟩ a (K.putObj (w3.heap.size+1) (.loop { ja eM eD d a.tmps w3.heap.size with state:=.exhausted})):=
  dD.jC m7 (λi=>(R6.aV i).l5 cp λ_ _=>rfl) R6.defers _
 have hd7:(K.putObj (w3.heap.size+1) (.loop { ja eM eD d a.tmps w3.heap.size with state:=.exhausted})).heap[w3.heap.size]?=some (.deferred (some [])):=(World.putObj_heap_other O).trans hd6;obtain⟨w7,hw7⟩:∃w7,w7=K.putObj (w3.heap.size+1) (.loop { ja eM eD d a.tmps w3.heap.size with state:=.exhausted}):=⟨_,rfl⟩;rw[<-hw7]at R7 hd7 k7 m7⊢;have hadd:({ a with defers:=[{ target:=.collected w3.heap.size,args:=#[]}]++a.defers}:Act)=pZ [{ target:=.collected w3.heap.size,args:=#[]}] a:=by have:=y.defers;simp[pZ,this]
 rw[hadd];show Code.wpIn Fence.wide 2 P (.seq (.region 5 q6 false) .ret) _ _ _;refine wpIn_seq ?_
 have X:=wpIn_region_list (F:=mP Option.none) (n:=2) (id:=5) (ops:=q6) (Q:=QD [{ target:=.collected w3.heap.size,args:=#[]}] λe a' w'=>e=.normal/\∃B,gO (ef.jC (λb=>M b\/b=w3.heap.size\/b=w3.heap.size+1) p w7 (·∈[0]) a.tmps.size) B a' w'/\∃r',tD P u.results.toList B=some r'/\qT r' r/\B.heap 0=some cs0)
  (HV (by rintro⟨_,_,_,_,h,_⟩;cases h) q6.toList _ w7 (Dz PN) (UY _ a w7
    (post _ y.size rfl a w7 ⟨p,R7⟩ _ (λa' w' B R' hk=>⟨rfl,B,R',hk⟩))))
 refine wpIn_mono (F:=mP Option.none) X ?_;rintro e aD w9 ⟨a9,rfl,rfl,σ9,⟨q,C⟩,r',hr',hle,h90⟩;refine wpIn_ret ?_;have hdef:(pZ [{ target:=.collected w3.heap.size,args:=#[]}] a9).defers=[{ target:=.collected w3.heap.size,args:=#[]}]:=by have:=C.defers;simp[pZ,this]
 show LeavesInM Fence.wide 2 P u a9.tmps _ (pZ [{ target:=.collected w3.heap.size,args:=#[]}] a9).defers .returning w9;rw[hdef];have hd9:w9.heap[w3.heap.size]?=some (.deferred (some [])):=(C.aN.same _ (jy hd7) (λ⟨s,h⟩=>m7.nm s _ h (.inr (.inl rfl)))).trans hd7;refine⟨ai,.inl ⟨w3.heap.size,_,rfl,run_takeDeferred hd9,?_⟩⟩;have cp9:=Jt (M:=λb=>M b\/b=w3.heap.size\/b=w3.heap.size+1) (γ:=q) (w:=w9) (new:=.deferred Option.none) (.inr (.inl rfl)) hd9 (aew _);have L:=C.mem.l5 cp9 (λs b I=>World.putObj_heap_other (λe=>C.mem.nm s b I (.inr (.inl e)))) (λb j=>by have:=C.mem.iF b j;simpa using this) C.mem.nm;have R10:dD (ef.jC (λb=>M b\/b=w3.heap.size\/b=w3.heap.size+1) q (w9.putObj w3.heap.size (.deferred Option.none)) (·∈[0]) a9.tmps.size) q σ9 a9 (w9.putObj w3.heap.size (.deferred Option.none)):=dD.jC (H:=σ9.heap) L (λi=>(C.aV i).l5 cp9 λ_ _=>rfl) C.defers _;obtain⟨v2,hv2,hr2'⟩:=Mf R10 u hr';have hr2:=hle _ _ _ _ hr2';refine⟨v2,hv2,?_⟩;have g7:q 0=γ 0:=by have x1:q 0=p 0:=C.aU 0 (by show 0∈[0];simp);have x2:p 0=m 0:=s6 0 h0;have x3:m 0=γ 0:=y.aU 0 (by show 0∈[0];simp);rw[x1,x2,x3]
 have cF:wR (λb=>M b\/b=w3.heap.size\/b=w3.heap.size+1) M q (zc (q 0)) (w9.putObj w3.heap.size (.deferred Option.none)) (w9.putObj w3.heap.size (.deferred Option.none)):=
  ⟨λb j=>⟨j.1,λh=>j.2.1 (.inl h),λs I=>j.2.2 0 (Gk I).2⟩,λ_ _=>rfl,λb cells t h=>⟨cells,h,rfl⟩⟩
 have k9:fY (λb=>∃s,γ s=some (some b)) w w9:=by
  refine fY.trans (P2:=λb=>∃s,p s=some (some b)) k7 C.aN (λ_ _ h=>h) (λx hx ⟨s,h⟩=>?_);rcases R6.aX s x h with h|h
  ·exact h
  ·have h3:w.heap.size<=x:=h;omega
 refine⟨v2,zc (q 0),rfl,⟨λb j=>L.iF b (.inl j),λs t b I ht=>(Gk I).1.trans (Gk ht).1.symm,λs b I h=>C.mem.nm 0 b (Gk I).2 (.inl h),λs I=>?_,λs cs I=>?_,L.jO.to cF.dc cF.same⟩,hr2.l5 cF (λs I=>(hrn s I).elim),acE k9 hd9 (aew _) hws,λs b I=>.inl ⟨0,by rw[<-g7];exact(Gk I).2⟩,λs I=>?_⟩
 ·refine abI λe=>?_
  subst e;simp[bX]at I
 ·have e:s=0/\cs=cs0:=by
   simp only[bX]at I;split at I
   ·rename_i e;injection I with I;exact⟨e,I.symm⟩
   ·cases I
  obtain⟨rfl,rfl⟩:=e;rcases L.gR 0 cs h90 with⟨b,t,vs,sp,hg,j,hc⟩|⟨hg,hc⟩|⟨b,en,clk,hg,j,hc⟩
  ·exact .inl ⟨b,t,vs,sp,by rw[Qu];exact hg,j,hc.l5 cF (λs I=>(hcn s I).elim)⟩
  ·exact .inr (.inl ⟨by rw[Qu];exact hg,hc⟩)
  ·exact(hnm7 _ hc).elim
 ·by_cases e:s=0
  ·rw[e,Qu];exact g7
  ·rw[abI e,hm.ic s];simp[bX,e]
end
section
variable {P:ax}{U:gD}{V:bY P U}{n:Nat}{aN:aq}{reg:kh P U}{ls:List (Nat×oh U)}
def n4(_:pW)(_:SS U):=False
theorem qG(f:P.follows .mixedOrders=true){b:SS U}{N:SS U->Prop}(h:gu V n aN reg ls c b (mh n4 N)){Q:St->Prop}(g:∀a,N a->Q a.st):WP P n (·∈aN) c b.st (oF Q):=
 M3 f c b _ h _ λd a e=>by
  cases d with
  |f_=>exact g _ e
  |ext i=>cases e
  |ret=>cases e
def UM(V:bY P U)(n:Nat)(aN:aq)(reg:kh P U)(d c b:Code)(a:SS U)(N:SS U->Prop):Prop:=
 gu V n aN reg [] d a (mh n4 λa=>gu V n aN reg [] c a (mh n4 λa=>gu V n aN reg [] b a (mh n4 N)))
theorem aje(d:P.follows .mixedOrders=true){e:SS U}{N:SS U->Prop}(h:UM V n aN reg c s r e N){Q:St->Prop}(f:∀b,N b->Q b.st):
 WP P n (·∈aN) c e.st (oF λa=>WP P n (·∈aN) s a (oF λa=>WP P n (·∈aN) r a (oF Q))):=
 qG d h λ_ h=>qG d h λ_ h=>qG d h f
def gA.post{aU:ap}{K K':St->Prop}(h:gA P n aU X L A K)(g:∀s,K s->∃b,d_ n aU s b/\K' b):gA P n aU X L A K':=
 λC d I a w R Q i=>h C d I a w R Q λe f s j k=>by obtain⟨b,m,c⟩:=g s k;exact i e f b (m C d I e f j) c
theorem M5{b:SS U}{N:SS U->Prop}(h:ry V n X aN reg L b N){Q:St->Prop}(d:∀a,N a->∃c,d_ n (·∈aN) a.st c/\Q c):gA P n (·∈aN) X L b.st Q:=
 (Em L b _ h).post λs ⟨a,e,k⟩=>by subst e;exact d a k
def Xt(args:List (SE U))(H:List (Nat×aZ U))(c:Nat):(⟨nJ (args.map SE.aI),bX (cy H)⟩:St)=(⟨tO 0 args,H,c⟩:SS U).st:=by unfold SS.st nJ;simp only[M7]
def adY{b:SS U}(h:(b.aV.all λp=>p.2.dd.all λs=>aN.contains s)=true)(i s:Nat)(I:(b.st.aV i).bx s):s∈aN:=by
 have e:b.st.aV i=(gG b.aV i).aI:=uI b.aV i;rw[e]at I;have f:=T.oz I;rw[ST.ow]at f;rw[eW]at h;have c:∀l:List (Nat×ST U),(∀p∈l,(p.2.dd.all λs=>aN.contains s)=true)->s∈(gG l i).dd->s∈aN:=by
  intro l
  induction l with
  |nil=>intro _ h;cases h
  |cons p r g=>
   obtain⟨j,t⟩:=p;intro d a;simp only[gG]at a;split at a
   ·have:=d (j,t) (b6 ..);rw[eW]at this;simpa using this s a
   ·exact g (λp k=>d p (cv _ k)) a
 exact c _ h f
end
end Go.Ab
namespace Go.Proofs.YtfbmhjooliccnaaGreatDoor
open Go Go.Ab Go.Proofs.Tryz
variable {x:Nat}{t:S}{l:List S}
def agY(H:List (Nat×aZ Un))(args:List (SE Un))(K:iA Un->Prop):Prop:=
 match H,args with
 |[(0,.aW W.bn p)],[.c (.aX 0 W.bn n)]=>(n=p.length/\TP p)/\K ⟨.e (.c (.db 271 [(1,0)])),[(0,.aW W.bn p),(1,.cells [.aX 2 W.bn p.length]),(2,.aW W.bn p)],[],[1,2]⟩
 |_,_=>False
def aDv:gy prog Un where
 f:=224
 iu:=auj
 run:=agY
 ok H args K h:=by
  unfold agY at h;split at h
  ·rename_i p n;obtain⟨⟨rfl,b⟩,c⟩:=h;have g:=aIA p b;rw[b.id]at g;refine⟨_,?_,λu a d=>?_,c⟩
   ·exact g.gL λu a=>by have:u<1:=a.1;simp;omega
   ·have e:u<1:=a;obtain rfl:u=0:=O;rfl
  ·cases h
def j6:Code->Code
 |.seq a _=>a
 |c=>c
def fP:Code->Code
 |.seq _ b=>b
 |c=>c
def Fl:Code->Code
 |.block _ c=>c
 |.loop c=>c
 |c=>c
def rfA:Code->Code
 |.rangeFunc _ _ a _=>a
 |c=>c
def rfB:Code->Code
 |.rangeFunc _ _ _ b=>b
 |c=>c
def Bl:Code->Array Oper
 |.region _ a _=>a
 |_=>#[]
def Fj:Code:=(Tryz.f178.body).getD .skip
def k0:Code:=j6 Fj
def k1:Code:=j6 (fP Fj)
def k2:Code:=j6 (j6 (fP (fP Fj)))
def kRf:Code:=Fl (fP (j6 (fP (fP Fj))))
def eM:Array Oper:=Bl (rfA kRf)
def eD:Array Oper:=Bl (Fl (rfB kRf))
def q6:Array Oper:=Bl (j6 (fP (fP (fP Fj))))
def XD:Code:=(Tryz.f271.body).getD .skip
def j0:Code:=j6 XD
def K1:Code:=Fl (Fl (fP XD))
def j1:Code:=j6 K1
def zg:Code:=j6 (fP K1)
def QT:Code:=Fl (j6 (fP (fP K1)))
def j2:Code:=j6 QT
def iQ:Array Oper:=Bl (j6 (fP QT))
def Dl:Code:=fP (fP QT)
def j4:Code:=fP (fP (fP K1))
def QS:Array Oper:=iQ.extract 0 6
def o6:Oper:=iQ[6]!
def o7:Oper:=iQ[7]!
def aox:Tryz.f178.body=some (.seq k0 (.seq k1 (.seq (.seq k2 (.block 0 (.rangeFunc (.tmp 8) #[9,10] (.region 3 eM false) (.block 1 (.region 4 eD false))))) (.seq (.region 5 q6 false) .ret)))):=af
def aoz:Tryz.f271.body=some (.seq j0 (.block 0 (.loop (.seq j1 (.seq zg (.seq (.block 1 (.seq j2 (.seq (.region 3 iQ true) Dl))) j4)))))):=af
def aC9:iQ[6]?=some o6:=af
def aDb:iQ[7]?=some o7:=af
def aDa:∃a,o6.op=.call { callee:=.value (.tmp 11),args:=#[.tmp 13,.tmp 16],argTypes:=a}:=⟨#[165,26],af⟩
def aC_:o6.dst=some 17:=af
def Jv:Region.ready .any iQ #[true,true,true,true,true,true,false,false]=[6]:=af
def Jw:Region.ready .any iQ #[true,true,true,true,true,true,true,false]=[7]:=af
def O2:Region.ready .any iQ #[true,true,true,true,true,true,true,true]=[]:=af
def aC1:Tryz.f271.ntmps=20:=af
def aF4:Tryz.f271.results.toList=[]:=af
def aCZ:Tryz.f178.ntmps=15:=af
def aF2:Tryz.f178.results.toList=[.cell 2 26]:=af
def aCd:(Tryz.f178.name== "runtime.NumGoroutine")=false:=af
def S3c:List (List Bool):=ac6 (iQ.extract 0 6) 7 [List.replicate 6 false]
def D7:Hy iQ 6 S3c=true:=af
def MM:iQ.size=8:=af
def szP:QS.size=6:=af
def F5:(iQ.toList.all λo=>match o.op with|.defer _=>false|_=>true)=true:=af
def F6:(eM.toList.all λo=>match o.op with|.defer _=>false|_=>true)=true:=af
def F7:(eD.toList.all λo=>match o.op with|.defer _=>false|_=>true)=true:=af
def PN:(q6.toList.all λo=>match o.op with|.defer _=>false|_=>true)=true:=af
def g3:(iQ.toList.all λo=>o.guard.isNone)=true:=af
def aur:gv prog 271:=gY func271 af rfl
@[irreducible] def gP(l:List S)(x:Nat):Nat:=kj (l.take x)
@[irreducible] def jG(l:List S)(x:Nat):S:=(l[x]?).getD ⟨false,[],0,0,0,0⟩
def Ue{l:List S}{x:Nat}(h:l[(x:Int).toNat]?=some t):t=jG l x:=by rw[bt]at h;unfold jG;rw[h];rfl
def aiz{l:List S}{x:Nat}(h:x<l.length):l[x]?=some (jG l x):=by unfold jG;rw[cN h];rfl
def abJ(l:List S):iD ((gP l 0:Nat):Int)=iD 0:=by unfold gP;rfl
def awJ(l:List S):gP l l.length=kj l:=by unfold gP;rw[eL (bK _)]
def Nd{l:List S}(h:CT l)(t:S)(a:t∈l):iV t.cw≠0:=by obtain⟨z,b,e⟩:=h.co t a;rw[e,fU];exact b
def FM{l:List S}(h:TP l)(a:t∈l):-pB 2000000<iV t.cw/\iV t.cw<pB 2000000:=ab9 (x:=t.cw) ((lF h).2.1 t a).1 ((lF h).2.1 t a).2
section
variable {l:List S}(h:TP l){x:Nat}(hx:x<l.length)
include h hx
theorem MQ:jG l x∈l:=bM (aiz hx)
def aiA:jE ⟨(jG l x).neg,(jG l x).aC⟩=(jG l x).cw:=by obtain⟨z,b,e⟩:=(lF h).1.ct.co _ (MQ h hx);have a:(⟨(jG l x).neg,(jG l x).aC⟩:aY)=(jG l x).cw:=rfl;rw[a,e,wi (iv z),fU]
def aIs:Sm (aY.mk (jG l x).neg (jG l x).aC).aC:=by have q:=(lF h).2.1 _ (MQ h hx);show(jG l x).aC.length<=_;omega
def aIt(a:l[(x:Int).toNat]?=some t):Sm (aY.mk t.neg t.aC).aC:=by rw[Ue a];exact aIs h hx
def abK:iD ((Int.gcd (iV ⟨(iD ((gP l x:Nat):Int)).neg,(iD ((gP l x:Nat):Int)).aC⟩) (iV ⟨(jE ⟨(jG l x).neg,(jG l x).aC⟩).neg,(jE ⟨(jG l x).neg,(jG l x).aC⟩).aC⟩):Nat):Int)=iD ((gP l (x+1):Nat):Int):=by rw[aiA h hx];have b:iV ⟨(iD ((gP l x:Nat):Int)).neg,(iD ((gP l x:Nat):Int)).aC⟩=((gP l x:Nat):Int):=fU ((gP l x:Nat):Int);have a:iV ⟨(jG l x).cw.neg,(jG l x).cw.aC⟩=iV (jG l x).cw:=rfl;rw[b,a];congr 2;unfold gP kj;rw[fy,aiz hx,yH,EJ,vk,List.foldl_nil];rfl
def awI:(iD ((gP l x:Nat):Int)).aC.length<=2000000:=by
 have b:=FM h (MQ h hx);have c:gP l x=0\/∃t∈l,gP l x<=(iV t.cw).natAbs:=by
  unfold gP;cases e:l.take x with
  |nil=>exact .inl rfl
  |cons u r=>have a:u∈l:=nE (i:=x) (by rw[e];exact b6 ..);have g:=(Ko (u::r) 0).2 u (b6 ..);have f:=Nd (lF h).1.ct u a;exact .inr ⟨u,a,Nat.le_of_dvd O g⟩
 rcases c with e|⟨t,d,e⟩
 ·rw[e];exact xF ⟨O,O⟩
 ·have j:=FM h d;exact xF ⟨O,O⟩
def awH:GP ⟨(iD ((gP l x:Nat):Int)).neg,(iD ((gP l x:Nat):Int)).aC⟩ ⟨(jE ⟨(jG l x).neg,(jG l x).aC⟩).neg,(jE ⟨(jG l x).neg,(jG l x).aC⟩).aC⟩:=by rw[aiA h hx];have q:=(lF h).2.1 _ (MQ h hx);unfold GP;refine⟨iv _,q.1,dH (awI h hx) O,by show(jG l x).aC.length<=_;omega⟩
end
def YF(y:Nat):ST Un:=.e (.c (.d (.sc (.func (.yield y) #[] #[]))))
def wU(l:List S)(x:Nat):List (Nat×aZ Un):=[(0,.aW W.bn l),(1,.cells [.d (.sc (.bool false)),.d (.sc (.slice Option.none 0 0))]),(2,.cells ((eF .cM (iD ((gP l x:Nat):Int))).map .d)),(3,.cells [.aX 4 W.bn l.length]),(4,.aW W.bn l)]
def sS(l:List S)(x:Nat):SS Un:=⟨[(2,.e (.c (.ptr 1 0))),(3,.e (.c (.ptr 2 0))),(8,.e (.c (.db 271 [(3,0)])))],wU l x,5⟩
def sA(l:List S)(y x:Nat):SS Un:=⟨[(0,YF y),(5,.e (.c (.aX 4 (U:=Un) W.bn l.length))),(6,iT l.length),(7,iT x)],wU l x,5⟩
def inN(t:S):ST Un:=eT .cM (jE ⟨t.neg,t.aC⟩)
def sQ(l:List S)(y x:Nat):SS Un:=⟨[(0,YF y),(5,.e (.c (.aX 4 (U:=Un) W.bn l.length))),(6,iT l.length),(7,iT x),(11,YF y),(16,inN (jG l x))],wU l x,5⟩
def sE(l:List S)(x:Nat):SS Un:=⟨[],wU l x,5⟩
abbrev nT:List Nat:=[0,1,2,3,4]
def tC:kh prog Un:=⟨[CN,F1,ar0],[aDv]⟩
def fnl(l:List S)(y:Nat)(a:pW)(b:SS Un):Prop:=match a with|.ext i=>i=0/\b.heap=wU l l.length|_=>False
section
variable {l:List S}(h:TP l)
include h
def apZ:UM Vw 15 [0] tC k0 k1 k2 ⟨tO 0 [.c (.aX 0 W.bn l.length)],[(0,.aW W.bn l)],1⟩ (λa=>mt Vw [0] a (sS l 0) True):=by
 repeat' first|intro _|apply aQ
 all_goals first|exact bj| (with_reducible first|rfl|exact h)|omega|exact bi aY.neg (abJ l).symm|exact bi aY.aC (abJ l).symm|rfl
theorem apX(y:Nat):gu Vw 20 nT tC [] j0 ⟨tO 0 [.c (.d (.sc (.func (.yield y) #[] #[]))),.c (.ptr 3 0)],wU l 0,5⟩ (mh n4 λa=>mt Vw nT a (sA l y 0) True):=by
 repeat' first|intro _|apply aQ
 all_goals first|exact bj|with_reducible rfl|omega
def ap1(y x:Nat)(hx:x<l.length):UM Vw 20 nT tC j1 zg j2 (sA l y x) (λa=>wJ Vw 20 QS nT tC QS.toList a [] [] (λa=>mt Vw nT a (sQ l y x) True)):=by
 repeat' first|intro _|apply aQ
 all_goals first|exact bj|with_reducible rfl|((with_reducible show(_&&_)=true);kernel_rfl)|omega|exact aIt h hx Y|rename_i t b;exact bi (λt:S=>(jE ⟨t.neg,t.aC⟩).neg) (Ue b)|rename_i t b;exact bi (λt:S=>(jE ⟨t.neg,t.aC⟩).aC) (Ue b)|have g:=‹decide (_<_)=false›;simp only[bc]at g;omega
def apW(x:Nat)(hx:x<l.length):ry Vw 15 eM nT tC eM.toList ⟨(10,inN (jG l x))::(9,.any)::(sS l x).aV,wU l x,5⟩ (λa=>ry Vw 15 eD nT tC eD.toList a (λa=>mt Vw nT a (sE l (x+1)) True)):=by
 repeat' first|intro _|apply aQ
 all_goals first|exact bj|with_reducible rfl|exact awH h hx|exact bi aY.neg (abK h hx)|exact bi aY.aC (abK h hx)
def apV(y x:Nat)(hx:x<l.length):ry Vw 20 iQ nT tC [o7] ⟨(17,.e (.c (.d (.sc (.bool true)))))::(sQ l y x).aV,wU l (x+1),5⟩ (λa=>gu Vw 20 nT tC [] Dl a (mh n4 λa=>gu Vw 20 nT tC [] j4 a (mh n4 λa=>mt Vw nT a (sA l y (x+1)) True))):=by
 repeat' first|intro _|apply aQ
 all_goals first|exact bj|with_reducible rfl|omega|exact absurd ‹(!true)=true› ae|have g:=(lF h).2.2;omega
theorem ap4(y:Nat):gu Vw 20 nT tC [] j1 (sA l y l.length) (mh n4 λa=>gu Vw 20 nT tC [] zg a (fnl l y)):=by
 repeat' first|intro _|apply aQ
 all_goals first|with_reducible rfl|have g:=‹decide (_<_)=true›;simp only[be]at g;omega|rfl
theorem apY:ry Vw 15 q6 [0] tC q6.toList (sS l l.length) (λa=>zG Vw a [.cell 2 26]=some (.e (Di (iD ((gP l l.length:Nat):Int))))/\cd a.heap 0=some (.aW W.bn l)):=by
 repeat' first|intro _|apply aQ
 all_goals first|rfl
end
def aHV(a:SS Un):a.st.heap=bX (cy a.heap):=rfl
def axj(l:List S):∀b,(aZ.aW (U:=Un) W.bn l).aI≠[.eY b]:=by
 intro b e;cases l with
 |nil=>cases e
 |cons a r=>injection e with e _;cases e
def UW{n:Nat}{aU:ap}(σ:St):d_ n aU σ σ:=λ_ _ _ _ _ R=>R
def arh(l:List S)(h:TP l):dA prog 178 (bX (cy (U:=Un) [(0,aZ.aW (U:=Un) W.bn l)])) (([.c (.aX 0 W.bn l.length)]:List (SE Un)).map SE.aI) (bX (cy (U:=Un) [(0,aZ.aW (U:=Un) W.bn l)])) (·∈[0]) (ST.e (U:=Un) (Di (iD (kj l:Int)))).aI:=by
 have u:∀i s,((sS l 0).st.aV i).bx s->s∈nT:=adY rfl;rw[<-awJ l]
 refine aFx (P:=prog) (aN:=nT) (eM:=eM) (eD:=eD) (g:=271) (k0:=k0) (k1:=k1) (k2:=k2) (q6:=q6) func178 aCd aox aCZ aur (cs0:=(aZ.aW (U:=Un) W.bn l).aI) (args:=([.c (.aX 0 W.bn l.length)]:List (SE Un)).map SE.aI) (js rfl) (kH:=(sS l 0).st.aV) (H1:=(sE l 0).st.heap) (H8:=(sE l l.length).st.heap) u ae ?_ (LL:=3) rfl
  (λ{n y L D M z w2 ta} K q t E H {pv} r=>?_) ?_ PN (G0 rfl) (λs ⟨x,hx,j⟩=>Hm hx s j) (axj l)
 ·have e:=Xt (U:=Un) [.c (.aX 0 W.bn l.length)] [(0,.aW W.bn l)] 1;have g:=aje (V:=Vw) mixed (apZ h) (Q:=λs=>d_ 15 (·∈[0]) s (sS l 0).st) (λb k=>(pG k 15).2);rw[<-e]at g;exact g
 ·refine axM (P:=prog) (aN:=nT) (eM:=eM) (eD:=eD) mixed (kH:=(sS l 0).st.aV) (A:=λx=>(sA l y x).st) (EQ:=λx=>(sQ l y x).st.aV) (Hp:=λx=>(sE l x).st.heap) (N:=l.length) u (λx hx=>adY rfl) F6 F7 (λx hx=>?_) func271 aoz aC1 aF4 (l:=y) (LL:=3) ?_ (λx hx=>?_) aC9 aDb aDa aC_ (λx hx=>?_) ?_ (λx=>rfl) (λx hx=>rfl) D7 MM F5 g3 Jv Jw O2 K q t E H r
  ·exact M5 (apW h x hx) (λb k=>⟨b.st,UW _,M5 k (λf k2=>⟨(sE l (x+1)).st,(pG k2 15).2,rfl⟩)⟩)
  ·have e:=Xt (U:=Un) [.c (.d (.sc (.func (.yield y) #[] #[]))),.c (.ptr 3 0)] (wU l 0) 5;have g:=qG mixed (apX h y) (Q:=λs=>d_ 20 (·∈nT) s (sA l y 0).st) (λb k=>(pG k 20).2);rw[<-e]at g;exact g
  ·refine aje mixed (ap1 h y x hx) (λb k C j I a w R=>?_);have g:=ajh k j I R (Q:=λe a w=>e=.normal/\gO C (sQ l y x).st a w) (λf k2 T B X=>⟨rfl,(pG k2 20).2 C j I T B X⟩);rw[szP]at g;exact g
  ·exact M5 (apV h y x hx) (λb k=>⟨b.st,UW _,qG mixed k λo k2=>qG mixed k2 λv G=>(pG G 20).2⟩)
  ·refine qG mixed (ap4 h y) λb k=>M3 mixed zg b _ k _ λp o m=>?_
   cases p with
   |f_=>cases m
   |ext i=>exact⟨m.1,by rw[aHV,m.2];rfl⟩
   |ret=>cases m
 ·exact M5 (apY h) (λb k=>⟨b.st,UW _,_,by rw[aF2];exact Tg k.1,qT.refl _,by rw[ga,k.2];rfl⟩)
def agN(H:List (Nat×aZ Un))(args:List (SE Un))(K:iA Un->Prop):Prop:=
 match H,args with
 |[],[.c (.d (.bN W.bn p))]=>TP p/\K ⟨.e (.c (.aX 0 W.bn p.length)),[(0,.aW W.bn p)],[],[]⟩
 |_,_=>False
def aDn:gy prog Un where
 f:=128
 iu:=aaw
 run:=agN
 ok H args K h:=by
  unfold agN at h;split at h
  ·rename_i p;obtain⟨b,c⟩:=h;refine⟨_,?_,λu a d=>absurd a (oi _),c⟩;have g:=aeo p _ b.nb;rw[b.id]at g;exact dA.gL (stay':=λu=>u<0/\¬u∈[]) g λu a=>absurd a.1 (oi _)
  ·cases h
def aub:gv prog 178:=gY func178 af rfl
def agC(H:List (Nat×aZ Un))(args:List (SE Un))(K:iA Un->Prop):Prop:=
 match H,args with
 |[(0,.aW W.bn l)],[.c (.aX 0 W.bn n)]=>(n=l.length/\TP l)/\K ⟨.e (Di (iD (kj l:Int))),[(0,.aW W.bn l)],[],[]⟩
 |_,_=>False
def aDi:gy prog Un where
 f:=178
 iu:=aub
 run:=agC
 ok H args K h:=by
  unfold agC at h;split at h
  ·obtain⟨⟨rfl,c⟩,b⟩:=h;refine⟨_,?_,λu a d=>?_,b⟩
   ·exact(arh _ c).gL λu a=>by have:u<1:=a.1;simp;omega
   ·have e:u<1:=a;obtain rfl:u=0:=O;rfl
  ·cases h
def ltS{b:Type}{l:List b}{a:b}(h:l[x]?=some a):x<l.length:=(du.1 h).1
def QR(n:Int):iV ⟨(iD n).neg,(iD n).aC⟩=n:=fU n
def dv(l:List S):Int:=qy l (kj l)
@[irreducible] def mL(l:List S)(x:Nat):List S:=(l.take x).map (qe (dv l))++l.drop x
def TE(l:List S):l=mL l 0:=by unfold mL;simp
def Ht(l:List S)(x:Nat):(mL l x).length=l.length:=by unfold mL;simp;omega
def ahl{l:List S}(h:(mL l x)[(x:Int).toNat]?=some t):l[x]?=some t:=by
 rw[bt]at h;have a:=ltS h;rw[Ht]at a;have e:((l.take x).map (qe (dv l))).length=x:=by simp;omega
 unfold mL at h;rw[B4 O,e,rM,nD]at h;simpa using h
def aGM{l:List S}(h:l[x]?=some t):(mL l x).set (x:Int).toNat (qe (dv l) t)=mL l (x+1):=by
 have a:=ltS h;have e:((l.take x).map (qe (dv l))).length=x:=by simp;omega
 rw[bt];unfold mL;rw[yB _ _ O,e,rM,fy,h,ia,gM,kB a,xc];rfl
section
variable {l:List S}(h:TP l)
include h
def atD:dv l≠0/\∀t∈l,dv l∣iV t.cw:=TJ (lF h).1.ct
def aGL(a:decide ((x:Int)<((mL l x).length:Int))=false):mL l x=tF l:=by have a:=cQ a;rw[Ht]at a;rw[HA (lF h).1];unfold mL dv;rw[eL O,mU O,lB]
def awS(a:t∈l):kj l<=(iV t.cw).natAbs:=by have g:=(Ko l 0).2 t a;have u:=Nd (lF h).1.ct t a;exact Nat.le_of_dvd O g
def abP(d:l[Int.toNat 0]?=some t):Dg (iD (kj l:Int)).aC/\(iD (kj l:Int)).aC.length<=2000000:=by have c:=bM d;have a:=awS h c;have b:=FM h c;exact⟨iv _,xF ⟨O,O⟩⟩
def aam(b:l[Int.toNat 0]?=some t)(I:decide (bm ⟨t.neg,t.aC⟩<0)=true):iD (-iV ⟨(iD (kj l:Int)).neg,(iD (kj l:Int)).aC⟩)=iD (dv l):=by
 have c:=bM b;have I:=dO I;rw[qz (x:=⟨t.neg,t.aC⟩) ((lF h).2.1 t c).1]at I;have d:iV t.cw<0:=by
  by_cases e:iV t.cw<0
  ·exact e
  ·have f:¬iV (⟨t.neg,t.aC⟩:aY)<0:=e;rw[Z f]at I;split at I<;>omega
 rw[QR];cases l with
 |nil=>simp at b
 |cons a r=>have e:a=t:=an b;unfold dv qy;simp only;rw[e,aM d]
def aan(b:l[Int.toNat 0]?=some t)(I:decide (bm ⟨t.neg,t.aC⟩<0)=false):iD (kj l:Int)=iD (dv l):=by
 have c:=bM b;have I:=cQ I;rw[qz (x:=⟨t.neg,t.aC⟩) ((lF h).2.1 t c).1]at I;have d:¬iV t.cw<0:=λe=>by have f:iV (⟨t.neg,t.aC⟩:aY)<0:=e;rw[aM f]at I;exact I ae
 cases l with
 |nil=>simp at b
 |cons a r=>have e:a=t:=an b;unfold dv qy;simp only;rw[e,Z d]
def aGN(c:(mL l x)[(x:Int).toNat]?=some t):EX ⟨t.neg,t.aC⟩ ⟨(iD (dv l)).neg,(iD (dv l)).aC⟩:=by
 have a:=bM (ahl c);have d:=atD h;have b:=FM h a;have q:=(lF h).2.1 t a;have e:(dv l).natAbs<=(iV t.cw).natAbs:=by have u:=Nd (lF h).1.ct t a;exact Nat.le_of_dvd O (Int.natAbs_dvd_natAbs.2 (d.2 t a))
 unfold EX QP;rw[QR];exact⟨⟨q.1,iv _,dH q.2 O,dH (xF (k:=2000000) ⟨O,O⟩) O,d.1⟩,d.2 t a⟩
omit h in
theorem aGQ{u:S}(b:(mL l x)[(x:Int).toNat]?=some t)(a:(mL l x)[(x:Int).toNat]?=some u):(mL l x).set (x:Int).toNat ⟨(iD (iV ⟨t.neg,t.aC⟩/iV ⟨(iD (dv l)).neg,(iD (dv l)).aC⟩)).neg,(iD (iV ⟨t.neg,t.aC⟩/iV ⟨(iD (dv l)).neg,(iD (dv l)).aC⟩)).aC,u.e1,u.e2,u.e3,u.e4⟩=mL l (x+1):=by
 have e:u=t:=by rw[b]at a;injection a with a;exact a.symm
 subst e;rw[QR];exact aGM (ahl b)
def aHJ(a:((l.length:Int)==0)=true):l=tF l:=by have a:(l.length:Int)=0:=an a;have e:l=[]:=fR O;rw[HA (lF h).1,e];rfl
end
def aHI(l:List S)(h:TP l):bh 140 [wL .bn l] (lT .bn (tF l)):=by
 refine vG func140 rfl ⟨[vC,F0,arR],[aDn,aDi]⟩ [(8,⟨Nat,λx=>⟨[(3,.e (.c (.aX 0 W.bn (mL l x).length))),(4,br 1),(23,iT (mL l x).length),(24,iT x)],[(0,.aW (U:=Un) W.bn (mL l x)),(1,.cells ((eF .cM (iD (dv l))).map .d))],2⟩,λx=>x<=l.length/\True,λx=>l.length-x⟩)] ?_;repeat' first|intro _|apply aQ|refine aS 0 (aQ ?_ λ(x:Nat)(b:x<=l.length/\True)=>?_)|refine aS (x+1) ?_
 all_goals first
  |exact bj
  |with_reducible rfl
  |omega
  |((with_reducible show(_&&_)=true);kernel_rfl)
  |exact aHJ h Y
  |exact dH (abP h Y).2 O
  |exact(abP h Y).1 _ Y
  |exact bi aY.neg (aam h Y Y)
  |exact bi aY.aC (aam h Y Y)
  |exact bi aY.neg (aan h Y Y)
  |exact bi aY.aC (aan h Y Y)
  |exact aGN h Y
  |exact aGQ Y Y
  |exact bi (λl:List S=>(l.length:Int)) (TE _)
  |(have g:=‹((l.length:Int)==0)=false›;have a:¬(l.length:Int)=0:=by simpa using g
    omega)
  |have g:=(lF h).2.2;have a:=b.1;have g3:=Ht l x;simp only[be]at*;omega
  |have g:=Ht l x;have a:=Ht l (x+1);omega
  |exact TE _
  |exact bi List.length (TE _)
  |exact aGL h Y
def asI:=dj (.ls W.bn) aHI
end Go.Proofs.YtfbmhjooliccnaaGreatDoor
namespace Go.Proofs.YtfbmhjooliccnaaGreatDoor
open Go Go.Shelf Go.RowKit Go.Lib Go.Sort Go.Proofs.Tryz
def Th:Go.Shelf.Ren:=⟨λn=>match n with|129=>292|283=>295|284=>296|285=>297|317=>304|318=>305|n=>n,λn=>match n with|46=>191|53=>138|212=>323|37=>228|51=>168|171=>312|n=>n,λn=>match n with|17=>1|n=>n⟩
theorem acU:Lays.n283 prog Th where
 mixed:=af
 f283:=Tryz.func295.trans (bi some af)
 t3:=Tryz.underlying3
 a3:=Tryz.isAgg3
 z3:=Tryz.sizeOf3
 v3:=Tryz.zeroValue3
 t4:=Tryz.underlying4
 a4:=Tryz.isAgg4
 z4:=Tryz.sizeOf4
 v4:=Tryz.zeroValue4
 t9:=Tryz.underlying9
 a9:=Tryz.isAgg9
 z9:=Tryz.sizeOf9
 v9:=Tryz.zeroValue9
theorem ayV:Lays.n285 prog Th where
 mixed:=af
 f285:=Tryz.func297.trans (bi some af)
 t0:=Tryz.underlying0
 a0:=Tryz.isAgg0
 z0:=Tryz.sizeOf0
 v0:=Tryz.zeroValue0
 t3:=Tryz.underlying3
 a3:=Tryz.isAgg3
 z3:=Tryz.sizeOf3
 v3:=Tryz.zeroValue3
 t4:=Tryz.underlying4
 a4:=Tryz.isAgg4
 z4:=Tryz.sizeOf4
 v4:=Tryz.zeroValue4
 t5:=Tryz.underlying5
 a5:=Tryz.isAgg5
 z5:=Tryz.sizeOf5
 v5:=Tryz.zeroValue5
 t9:=Tryz.underlying9
 a9:=Tryz.isAgg9
 z9:=Tryz.sizeOf9
 v9:=Tryz.zeroValue9
 t37:=Tryz.underlying228
 a37:=Tryz.isAgg228
 z37:=Tryz.sizeOf228
 v37:=Tryz.zeroValue228
 t51:=Tryz.underlying168
 a51:=Tryz.isAgg168
 z51:=Tryz.sizeOf168
 v51:=Tryz.zeroValue168
 t53:=Tryz.underlying138
 a53:=Tryz.isAgg138
 z53:=Tryz.sizeOf138
 v53:=Tryz.zeroValue138
theorem acT:LaysM.n284 prog Th where
 mixed:=af
 f129:=Tryz.func292.trans (bi some af)
 f284:=Tryz.func296.trans (bi some af)
 f317:=Tryz.func304.trans (bi some af)
 f318:=Tryz.func305.trans (bi some af)
 t0:=Tryz.underlying0
 a0:=Tryz.isAgg0
 z0:=Tryz.sizeOf0
 v0:=Tryz.zeroValue0
 t3:=Tryz.underlying3
 a3:=Tryz.isAgg3
 z3:=Tryz.sizeOf3
 v3:=Tryz.zeroValue3
 t4:=Tryz.underlying4
 a4:=Tryz.isAgg4
 z4:=Tryz.sizeOf4
 v4:=Tryz.zeroValue4
 t5:=Tryz.underlying5
 a5:=Tryz.isAgg5
 z5:=Tryz.sizeOf5
 v5:=Tryz.zeroValue5
 t9:=Tryz.underlying9
 a9:=Tryz.isAgg9
 z9:=Tryz.sizeOf9
 v9:=Tryz.zeroValue9
 t46:=Tryz.underlying191
 a46:=Tryz.isAgg191
 z46:=Tryz.sizeOf191
 v46:=Tryz.zeroValue191
 t53:=Tryz.underlying138
 a53:=Tryz.isAgg138
 z53:=Tryz.sizeOf138
 v53:=Tryz.zeroValue138
 t212:=Tryz.underlying323
 a212:=Tryz.isAgg323
 z212:=Tryz.sizeOf323
 v212:=Tryz.zeroValue323
 g17:=af
 i0:=af
 i3:=af
 i4:=af
 i5:=af
 i9:=af
 i46:=af
 i53:=af
 i212:=af
 m17:=af
end Go.Proofs.YtfbmhjooliccnaaGreatDoor
namespace Go.Proofs.YtfbmhjooliccnaaGreatDoor
open Go Go.Shelf Go.RowKit Go.Sort Go.Lib Go.Proofs.Tryz
def axi(w:World)(T:TypeId)(nd:Nat)(I:nd<=24):Holds (λ(b:UInt8)=>Value.int .u8 (b.toNat:Int)) (w.alloc (.cells Lib.zeros24 T)) w.heap.size 0 (Array.replicate nd (0:UInt8)):=λj a=>by have c:j<nd:=an a;refine⟨?_,World.frozen?_alloc_new _ _ _ _⟩;rw[World.cell?_alloc_new,Lib.zeros24_at _ O,getElem!_pos _ j a];simp
def awh(w:World)(o:Obj)(c:Array UInt8)(k:Nat):∃os,(putRow (λ(b:UInt8)=>Value.int .u8 (b.toNat:Int)) (w.alloc o) w.heap.size 0 c).drewN k=grow (w.drewN k) os:=by rw[alloc_eq_grow];obtain⟨a,_,e⟩:=putRow_grow_new (λ(b:UInt8)=>Value.int .u8 (b.toNat:Int)) w #[o] w.heap.size 0 c (bK _);exact⟨a,by rw[e];rfl⟩
def aaq:∀args w,(callFunc 295 args).run prog w=.ok (.enter 295 args) w:=enters_of func295 af rfl
def aar:∀args w,(callFunc 296 args).run prog w=.ok (.enter 296 args) w:=enters_of func296 af rfl
def aas:∀args w,(callFunc 297 args).run prog w=.ok (.enter 297 args) w:=enters_of func297 af rfl
def awE(u:Nat)(a:u<18446744073709551616)(w:World)(g:Lib.TabIs prog w "internal/strconv.uint64pow10" .u64 Lib.pow10Tab):
 Calls prog 279 #[.int .u64 u,.int .i64 10] w λe l=>e=.returned (.string ⟨(Lib.decDigits u).toArray⟩)/\∃k os,l=grow (w.drewN k) os:=by
 have aaq:=aaq;have aar:=aar;have aas:=aas;by_cases I:u<100
 ·go_enter func279,Tryz.ntmps279
  go_wp2_with (go_at_fn 295;refine(Any.internal_strconv_small acU u I _).mono ?_;rintro e l ⟨rfl,rfl⟩)
  go_ret
  exact⟨rfl,0,#[],by simp[World.drewN_zero]⟩
 ·have f:1<=u:=by omega
  have m:Lib.nDigits u<=20:=by have:=Lib.numDigits_eq u f a;split at this<;>omega
  have r:Lib.nDigits u<=24:=O;have i:Tryz.prog.arrayLen 312=24:=by simp[Program.arrayLen,Tryz.underlying312]
  have p:∀W,(Instr.sliceAt 312 (.pointer (some ⟨w.heap.size,0,none⟩)) none (some (.int .i64 (Lib.nDigits u:Int))) none).run prog W=.ok (.slice (some ⟨w.heap.size,0,none⟩) (Lib.nDigits u) 24) W:=λW=>by
   rw[run_sliceAt_array_h W 312 ⟨w.heap.size,0,none⟩ (by simp[Program.arrayLen,Program.elem,Tryz.underlying312]) .i64 (Lib.nDigits u:Int) O (by rw[i];omega)]
   go_simp
  have d:=axi w 312 (Lib.nDigits u) O;have c:=Any.internal_strconv_formatBase10 ayV w.heap.size 0 24 u (Array.replicate (Lib.nDigits u) 0) (w.alloc (.cells Lib.zeros24 312)) d (by rw[Nb];exact Lib.lt_pow_nDigits u) a (by rw[Nb];omega);rw[Nb]at c;have HH0:=Lib.hid d;clear d i
  go_enter func279,Tryz.ntmps279
  go_wp2_with (first
   |(go_at_fn 296;refine(Any.internal_strconv_numDigits acT u f a _ (Lib.tabIs_alloc g _)).mono ?_;rintro e l ⟨rfl,rfl⟩))
  go_at_fn 297
  refine c.mono ?_;rintro e l ⟨rfl,k,t,dk,rfl,o⟩;have q:(convert 228 9 (.slice (some ⟨w.heap.size,0,none⟩) (Lib.nDigits u) 24)).run prog ((putRow (λ(b:UInt8)=>Value.int .u8 (b.toNat:Int)) (w.alloc (.cells Lib.zeros24 312)) w.heap.size 0 dk).drewN k)=.ok (.string ⟨(Lib.decDigits u).toArray⟩) ((putRow (λ(b:UInt8)=>Value.int .u8 (b.toNat:Int)) (w.alloc (.cells Lib.zeros24 312)) w.heap.size 0 dk).drewN k):=by
   have h:=run_convert_bytes_back (P:=prog) ((putRow (λ(b:UInt8)=>Value.int .u8 (b.toNat:Int)) (w.alloc (.cells Lib.zeros24 312)) w.heap.size 0 dk).drewN k) 228 9 5 ⟨w.heap.size,0,none⟩ 24 (Lib.decDigits u) Tryz.underlying228 Tryz.underlying5 Tryz.underlying9 (λj n=>by rw[Lib.row_is_numeral o j n,Lib.add_plain,World.cell?_drewN];exact cell?_putRow (λ(b:UInt8)=>Value.int .u8 (b.toNat:Int)) _ w.heap.size 0 _ dk HH0.out (by rw[o.size,Nb]) j (by rw[o.size];rw[Lib.decDigits_length]at n;exact n))
   rw[Lib.decDigits_length]at h;exact h
  go_wp2
  go_ret
  obtain⟨os,s⟩:=awh w (.cells Lib.zeros24 312) dk k;exact⟨rfl,k,os,s⟩
end Go.Proofs.YtfbmhjooliccnaaGreatDoor
namespace Go.Proofs.YtfbmhjooliccnaaGreatDoor
open Go Go.Ab Go.Proofs.Tryz
open Go.Sort in
theorem acD{mX:ap}(w:World)(k:Nat)(a:Array Obj):fY mX w (grow (w.drewN k) a):=
 ⟨rfl,rfl,rfl,Nat.le_add_right _ _,by simp[grow,World.drewN],λb c _=>heap_grow_old (w.drewN k) a c,λb cells t h=>⟨cells,(heap_grow_old (w.drewN k) a (jy h)).trans h,rfl⟩⟩
def afL{f:FuncId}(z:gv prog f){args:List (SE Un)}{vs:au}{v:Value}(u:v.oneCell'=true)(A:args.map SE.aI=vs.map λv=>.c (.d (.sc v)))
 (h:∀w:World,Lib.TabIs prog w "internal/strconv.uint64pow10" .u64 Lib.pow10Tab->Calls prog f vs.toArray w λe o=>e=.returned v/\∃k j,o=Go.Sort.grow (w.drewN k) j):lW prog f (args.map SE.aI) (ST.e (U:=Un) (.c (.d (.sc v)))).aI:=by
 refine⟨z,λM n w a p m=>?_⟩;have l:Lib.TabIs prog w "internal/strconv.uint64pow10" .u64 Lib.pow10Tab:=by obtain⟨_,t,r,y⟩:=p.jO;unfold Lib.TabIs World.var?;rw[acT.m17];show(match w.heap[1]? with|some (.cells D _ _)=>some D|_=>none)=_;rw[y];rfl
 have e:a=vs:=by
  rw[A]at m;refine vj λi=>?_
  obtain⟨C,B⟩:=m;rw[eh]at C;by_cases q:i<vs.length
  ·have g:=B i (.c (.d (.sc vs[i]))) (a[i]' O) (by rw[eC,cN q];rfl) (cN O);rw[cN O,cN q];congr 1;exact iw (show cr w M n (.e (.c (.d (.sc vs[i])))) _ from g)
  ·rw[iM O,iM O]
 subst e;refine(h w l).mono ?_;rintro e o ⟨rfl,k,j,rfl⟩;have x:fY q_ w (Go.Sort.grow (w.drewN k) j):=acD w k j;exact⟨v,n,rfl,p.Gy x,dN.sc _ u,acD w k j,λs b I=>.inl ⟨s,I⟩,λ_ h=>h.elim⟩
def iO(n:Int):ByteArray:=⟨(Lib.decDigits n.toNat).toArray⟩
def sT(s:az):ST Un:=.e (.c (.d (.sc (.string s))))
def axO(n:Int)(h:0<=n/\n<100):bh 295 [wI .i64 n] (sT (iO n)):=by
 obtain⟨i,rfl⟩:∃i:Nat,n=i:=⟨n.toNat,O⟩;refine afL (args:=[wI .i64 (i:Int)]) (vs:=[.int .i64 i]) (gY func295 af rfl) rfl rfl λw _=>?_
 refine(Any.internal_strconv_small acU i O w).mono ?_;rintro e a ⟨rfl,rfl⟩;exact⟨by unfold iO;rw[bt],0,#[],by simp[World.drewN_zero]⟩
def ar9:=dj (.int .i64) axO
def awF(n b:Int)(h:0<=n/\n<18446744073709551616/\b=10):bh 279 [wI .u64 n,wI .i64 b] (sT (iO n)):=by
 obtain⟨g,f,rfl⟩:=h;obtain⟨u,rfl⟩:∃u:Nat,n=u:=⟨n.toNat,O⟩;refine afL (args:=[wI .u64 (u:Int),wI .i64 (10:Int)]) (vs:=[.int .u64 u,.int .i64 10]) (gY func279 af rfl) rfl rfl λw c=>?_
 refine(awE u O w c).mono ?_;rintro e d ⟨rfl,k,a,rfl⟩;exact⟨by unfold iO;rw[bt],k,a,rfl⟩
def arY:=eI (.int .u64) (.int .i64) awF
def av8(n b:Int)(h:0<=n/\n<100/\b=10):bh 278 [wI .i64 n,wI .i64 b] (sT (iO n)):=by
 refine vF func278 rfl [ar9] [] ?_;repeat' first|intro _|apply aQ
 all_goals first|exact bj|with_reducible rfl|exfalso;obtain⟨d,c,a⟩:=h;simp only[rA,be,bc,gQ,jJ,iI]at*;omega|exact h.1|exact h.2.1
def arV:=eI (.int .i64) (.int .i64) av8
def axN(n:Int)(h:0<=n/\n<100):bh 249 [wI .i64 n] (sT (iO n)):=by
 refine vF func249 rfl [arV] [] ?_;repeat' first|intro _|apply aQ
 all_goals first|exact bj|with_reducible rfl|exact h.1|exact h.2
def ar8:=dj (.int .i64) axN
def axP(n:Int)(h:0<=n/\n<100):bh 203 [wI .i64 n] (sT (iO n)):=by
 refine vF func203 rfl [ar8] [] ?_;repeat' first|intro _|apply aQ
 all_goals first|exact bj|with_reducible rfl|exact h.1|exact h.2
def Po:=dj (.int .i64) axP
def awG(n b:Int)(h:0<=n/\n<18446744073709551616/\b=10):bh 251 [wI .u64 n,wI .i64 b] (sT (iO n)):=by
 refine vF func251 rfl [arY] [] ?_;repeat' first|intro _|apply aQ
 all_goals first|exact bj|with_reducible rfl|exact h.1|exact h.2.1|exact h.2.2
def arZ:=eI (.int .u64) (.int .i64) awG
end Go.Proofs.YtfbmhjooliccnaaGreatDoor
namespace Go.Ab
open Go Go.RowKit
variable {d s t e:Nat}{X:av}{U:List Ab.V}{o:Oper}{l R:List Oper}{x y:aw}{P:ax}
def aJ4{P:ax}{Q:Exit->Act->World->Prop}(i:List Oper):∀(l:List Oper)(a:Act)(w:World),wpList P X (λe a w=>e=.normal/\wpList P X Q i a w) l a w->wpList P X Q (l++i) a w:=by
 intro l
 induction l with
 |nil=>intro a w h;exact h.2
 |cons o l j=>
  intro a w h;simp only[wpList,eB]at h⊢;split
  ·rename_i c;rw[aM c]at h;rcases h with h|⟨_,_,_,h,_⟩
   ·left;have b:=UZ (λa w h=>j a w h) h;unfold Oper.wp at*;generalize(execOp a.eval o).run P w=r at*;cases r with
    |ok x k=>
     cases x with
     |value v=>exact b
     |skip=>exact b
     |defer d=>exact b
     |enter f args=>
      refine Calls.mono b ?_;intro e m g;cases e
      ·exact g
      ·cases g.1
      ·obtain⟨_,_,h,_⟩:=g;cases h
     |row r args=>exact b
     |_=>exact b
    |halt x k=>cases x<;>first|exact b|cases b.1
   ·cases h
  ·rename_i c;rw[Z c]at h;exact j _ w h
def gA.then{P:ax}{n:Nat}{aU:ap}{c:St}{K:St->Prop}(h:gA P n aU X l c λs=>gA P n aU X R s K):gA P n aU X (l++R) c K:=
 λC d I a w b Q e=>aJ4 R l a w (h C d I a w b _ λf g s i k=>⟨rfl,k C d I f g i Q e⟩)
section
variable {P:ax}{U:gD}{V:bY P U}{n:Nat}{aN:aq}{reg:kh P U}
def acM{a:SS U}{v:ST U}{b:aZ U}{f:List Ab.V}(g:f=b.aI):d_ n (·∈aN) ⟨gV (λi=>(a.st.aV i).cu s) d v.aI,cZ (λu=>(a.st.heap u).map (List.map (Ab.V.cu s))) s (some f)⟩ (⟨(d,v)::vX s a.aV,(s,b)::r7 s a.heap,a.bZ⟩:SS U).st:=by
 subst g;have j:cZ (λu=>(a.st.heap u).map (List.map (Ab.V.cu s))) s (some b.aI)=bX (cy ((s,b)::r7 s a.heap)):=by
  funext u;rw[iG];simp only[cZ,cd];by_cases c:u=s
  ·subst c;rw[aM rfl,IL];rfl
  ·rw[Z c];have:Nat.beq u s=false:=by
    cases h:Nat.beq u s with
    |false=>rfl
    |true=>exact absurd (cU h) c
   rw[this];simp only;rw[Gq,Z c,ga,Option.map_map,Option.map_map];congr 1;funext b;exact(aZ.q8 s b).symm
 rw[j];refine d_.Ol (e:=Ab.mk (mF ((d,v)::vX s a.aV))) λi=>?_
 show(if i=d then v.aI else Ab.mk (mF (vX s a.aV)) i)=(if i=d then v.aI else(a.st.aV i).cu s)\/(if i=d then v.aI else Ab.mk (mF (vX s a.aV)) i)=.any;split
 ·exact .inl rfl
 ·rw[uI,Ks,oN];unfold ST.kl;have h:=ST.oE s (gG a.aV i);split
  ·exact .inr rfl
  ·rename_i e;rw[e]at h;exact .inl (T.xI (λk=>by rw[T.mK.2 k]at h;cases h)).symm
theorem an2(V:bY P U){σ:SS U}{j:Nat}(k:U.K)(a l:List (U.El k)){sb:az}{m:List Ab.V}(w:o.op=.call { callee:=.builtin .append,args:=#[x,y],argTypes:=#[t,j]})(f:o.dst=some d)(p:rr P j=true)
 (z:jA P t=some e)(A:fg P e=some 1)(B:oQ P e=some 1)(C:jQ P e=some m)(q:m.length=1)(D:σ.ev x=.e (.c (.ty s e (.inr a.length))))(E:σ.ev y=.e (.c (.d (.sc (.string sb)))))(I:cd σ.heap s=some (.aW k a))
 (G:(bG k l).map Ab.V.d=sZ sb)(H:U.w k=1)(i:a.length+sb.size<=140737488355328)(r:¬s∈aN)(K:d<n):
 fc P n (·∈aN) o σ.st (⟨(d,.e (.c (.ty s e (.inr (a.length+sb.size)))))::vX s σ.aV,(s,.aW k (a++l))::r7 s σ.heap,σ.bZ⟩:SS U).st:=by
 have g:=fc.an5 (P:=P) (n:=n) (aU:=(·∈aN)) (σ:=σ.st) x y t j p sb w d s a.length f ((bG k a).map .d) (sZ sb) sb.size rfl rfl e (by rw[c8,D];rfl) (by rw[ga,I];rfl) (by rw[eh,mH V,H,Nat.mul_one]) (by rw[c8,E];rfl) 1 m z A B C q
  (λv u=>by rw[b_]at u;obtain⟨_,_,rfl⟩:=u;exact λh=>h) O i r K
 exact g.u9 (acM (b:=.aW k (a++l)) (v:=.e (.c (.ty s e (.inr (a.length+sb.size))))) (by simp only[aZ.aI,Dd,ia,G]))
theorem an0(V:bY P U){σ:SS U}(k:U.K)(a l:List (U.El k)){j:List Ab.V}(w:o.op=.call { callee:=.builtin .append,args:=#[x,y],argTypes:=#[t,t]})(f:o.dst=some d)
 (z:jA P t=some e)(A:fg P e=some 1)(B:oQ P e=some 1)(C:jQ P e=some j)(p:j.length=1)(D:σ.ev x=.e (.c (.ty s e (.inr a.length))))(E:mN 1 σ.st.heap (σ.st.ev y)=some ((bG k l).map Ab.V.d,l.length))(I:cd σ.heap s=some (.aW k a))
 (G:U.w k=1)(i:a.length+l.length<=140737488355328)(q:¬s∈aN)(H:d<n):
 fc P n (·∈aN) o σ.st (⟨(d,.e (.c (.ty s e (.inr (a.length+l.length)))))::vX s σ.aV,(s,.aW k (a++l))::r7 s σ.heap,σ.bZ⟩:SS U).st:=by
 have r:∀m:List (U.El k),∀v∈(bG k m).map Ab.V.d,¬v.bx s:=λm v u=>by rw[b_]at u;obtain⟨_,_,rfl⟩:=u;exact λh=>h
 have g:=fc.an3 (P:=P) (n:=n) (aU:=(·∈aN)) (σ:=σ.st) x y t w d s a.length f ((bG k a).map .d) ((bG k l).map .d) l.length e (by rw[c8,D];rfl) (by rw[ga,I];rfl) (by rw[eh,mH V,G,Nat.mul_one]) E 1 j z A B C p
  (r a) (r l) O i q H
 exact g.u9 (acM (b:=.aW k (a++l)) (v:=.e (.c (.ty s e (.inr (a.length+l.length))))) (by simp only[aZ.aI,Dd,ia]))
theorem QI(m:P.follows .mixedOrders=true){x p j:Code}{id:Nat}(q:X.toList=l++o::R)(z:o.guard=none){b e:SS U}
 (h:gu V n aN reg [] x b (mh n4 λb=>gu V n aN reg [] p b (mh n4 λb=>ry V n X aN reg l b λb=>∃f:SS U,fc P n (·∈aN) o b.st f.st/\ry V n X aN reg R f λb=>gu V n aN reg [] j b (mh n4 λb=>mt V aN b e True)))):
 WP P n (·∈aN) (.seq x (.seq p (.seq (.region id X false) (.seq j .ret)))) b.st (DG V aN e):=by
 have lift:∀{c:Code}{s:St}{K:St->Prop},WP P n (·∈aN) c s (oF K)->(∀s,K s->WP P n (·∈aN) .ret s (DG V aN e))->WP P n (·∈aN) (.seq c .ret) s (DG V aN e):=λr t=>WP.seq (WP.mono r (λs k=>t s k) (λi s k=>k.elim) (λs k=>k.elim))
 have one:∀{c y:Code}{s:St}{K:St->Prop},WP P n (·∈aN) c s (oF K)->(∀s,K s->WP P n (·∈aN) y s (DG V aN e))->WP P n (·∈aN) (.seq c y) s (DG V aN e):=λr t=>WP.seq (WP.mono r (λs k=>t s k) (λi s k=>k.elim) (λs k=>k.elim))
 refine one (qG m h (Q:=λs=>∃b:SS U,b.st=s/\gu V n aN reg [] p b _) λd k=>⟨d,rfl,k⟩) ?_;rintro s ⟨A,rfl,h⟩;refine one (qG m h (Q:=λs=>∃b:SS U,b.st=s/\ry V n X aN reg l b _) λd k=>⟨d,rfl,k⟩) ?_;rintro s ⟨u,rfl,h⟩;have g:X=(l++o::R).toArray:=by apply mQ;simpa using q
 refine one (K:=λs=>∃b:SS U,b.st=s/\gu V n aN reg [] j b (mh n4 λb=>mt V aN b e True)) ?_ ?_
 ·have v:gA P n (·∈aN) X (l++o::R) u.st λs=>∃b:SS U,b.st=s/\gu V n aN reg [] j b (mh n4 λb=>mt V aN b e True):=by refine gA.then (gA.post (Em _ _ _ h) ?_);rintro s ⟨B,rfl,f,w,C⟩;exact⟨_,λ_ _ _ _ _ a=>a,gA.step z w (Em _ _ _ C)⟩
  subst g;exact WP.region v
 ·rintro s ⟨D,rfl,h⟩;exact one (qG m h (Q:=λs=>∃b:SS U,b.st=s/\mt V aN b e True) λd k=>⟨d,rfl,k⟩) λs k=>WP.ret k
end
end Go.Ab
