/- Part of VirtualWitness. No condition. -/
import Derived.RangeFuncLeaves
import Derived.RangeFuncRecord
import Derived.OrdersIn
import Derived.TacticsIn
import Derived.Test.YtfbmhjooliccnaaGreatDoorYb
import Derived.Laws.Externs
set_option linter.all false
set_option maxRecDepth 100000
set_option maxHeartbeats 60000000
noncomputable section
namespace Go.Ab
open Go Go.RowKit
variable {M z:Nat→Prop}{Q m:Exit→Act→World→Prop}{n s:Nat}{w A:World}{o:Oper}{P:ay}{K:Act→World→Prop}{a:Act}{Z u:G}{X:aw}{U:St}{H r:eh}{f l:FuncId}{R:List D}{v:Value}{b:Option Nat}{c q p:Code}{x:Option (Option Nat)}{N:List (List Bool)}{L:List Deferred}{C:Array Value}{B:av}{y:Func}{t k:Obj}
def mT(a:Option Nat):Fence:= { Fence.wide with round:=a}
def UG{ro:Option Nat}{n:Nat}{P:ay}(i:∀c,o.op≠.defer c)(h:o.wp P a w K Q):o.wpIn (mT ro) n P a w K Q:=by
 refine⟨λf _=>trivial,?_⟩;rw[show(mT ro).round=ro from rfl,Oper.semAt_eq ro a.eval o i];unfold Oper.wp at h;generalize(execOp a.eval o).run P w=r at h;cases r with
 |ok x j=>
  cases x<;>simp only[Oper.upon,Oper.uponIn]at h⊢ <;>try exact h
  ·refine⟨(λh=>by cases h),?_⟩;have k:=(callsIn_wide (n:=n-1)).2 h;exact⟨trivial,λb m=>by obtain⟨e,d,l,r,s,x⟩:=k.2 b (room_wide _);exact⟨e,d,l,by cases e<;>exact r,s,x⟩⟩
  ·refine⟨(λh=>by cases h),λc b _=>?_⟩;obtain⟨v,d,r,s⟩:=h c b;exact⟨v,d,r,stepsIn_wide.2 s⟩
 |halt x j=>cases x<;>exact h
theorem Hr{P:ay}(d:¬LetsOut Q):∀(l:List Oper)(a:Act)(w:World),(∀o∈l,∀c,o.op≠.defer c)->wpList P X Q l a w->wpListIn (mT b) n P X Q l a w
 |[],a,w,_,h=>h
 |o::l,a,w,e,h=>by
  simp only[wpList]at h;simp only[wpListIn];split
  ·rename_i f;rw[aK f]at h;rcases h with h|⟨_,h⟩
   ·exact Oper.wpIn_mono (λa w h=>Hr d l a w (λo i=>e o (by simp[i])) h) (UG (e o ai) h)
   ·exact absurd h d
  ·rename_i f;rw[g f]at h;exact⟨λ_ _=>trivial,Hr d l _ w (λo i=>e o (by simp[i])) h⟩
def pW(b:List Deferred)(a:Act):Act:= { a with defers:=a.defers++b}
def WZ(b:List Deferred)(a:Act):(pW b a).eval=a.eval:=by funext x;cases x<;>rfl
def Ck(b:List Deferred)(a:Act)(d:Option Tmp)(v:Value):(pW b a).put d v=pW b (a.put d v):=by cases d<;>rfl
def QD(c:List Deferred)(Q:Exit->Act->World->Prop):Exit->Act->World->Prop:=λe d b=>∃a,d=pW c a/\Q e a b
def aHr{P:ay}(h:o.wp P a w K Q):o.wp P (pW L a) w (λl i=>∃j,l=pW L j/\K j i) (QD L Q):=by
 unfold Oper.wp at*;rw[WZ];generalize(execOp a.eval o).run P w=r at*;cases r with
 |ok x i=>
  cases x with
  |value v=>exact⟨_,Ck _ _ _ _,h⟩
  |skip=>exact⟨_,Ck _ _ _ _,h⟩
  |defer d=>refine⟨_,?_,h⟩;exact Ck L { a with defers:=d::a.defers} _ _
  |enter f args=>
   refine Calls.mono h λe m b=>?_
   cases e with
   |returned v=>exact⟨_,Ck _ _ _ _,b⟩
   |panicked c=>exact⟨_,rfl,b⟩
   |outgrown=>obtain⟨k,n,p⟩:=b;exact⟨pW L k,n,k,rfl,p⟩
  |row r args=>exact Rows.mono h λv m b=>⟨_,Ck _ _ _ _,b⟩
  |_=>exact h
 |halt x i=>cases x<;>simp only[Oper.upon]at h⊢ <;>first|exact h|exact⟨_,rfl,h⟩
def UI{P:ay}{i:Act->World->Prop}(h:∀a w,K a w->i a w)(b:o.wp P a w K Q):o.wp P a w i Q:=by
 unfold Oper.wp at*;generalize(execOp a.eval o).run P w=r at*;cases r with
 |ok x j=>
  cases x with
  |value v=>exact h _ _ b
  |skip=>exact h _ _ b
  |defer d=>exact h _ _ b
  |enter f args=>exact Calls.mono b λe k c=>by cases e<;>first|exact h _ _ c|exact c
  |row r args=>exact Rows.mono b λv k c=>h _ _ c
  |_=>exact b
 |halt x j=>cases x<;>simp only[Oper.upon]at b⊢ <;>exact b
theorem UH{P:ay}:∀(l:List Oper)(a:Act)(w:World),wpList P X Q l a w->wpList P X (QD L Q) l (pW L a) w
 |[],a,w,h=>⟨a,rfl,h⟩
 |o::l,a,w,h=>by
  simp only[wpList]at h⊢;rw[show(pW L a).tmps=a.tmps from rfl];split
  ·rename_i b;rw[aK b]at h;rcases h with h|⟨h,c,d,e⟩
   ·refine .inl (UI ?_ (aHr h));rintro j f ⟨i,rfl,h⟩;exact UH l i f h
   ·refine .inr ⟨?_,pW L c,d,c,rfl,e⟩;unfold Oper.asks at*;rw[WZ];exact h
  ·rename_i b;rw[g b]at h;rw[Ck];exact UH l _ w h
structure wy(M M':aq)(γ γ':G)(w w':World):Prop where
 cS:∀b,cS w M γ b->Ab.cS w' M' γ' b
 same:∀b,Ab.cS w M γ b->w'.heap[b]?=w.heap[b]?
 iK:∀(b:Nat)(cells:Array Value)(t:TypeId),w.heap[b]?=some (.cells cells t (0,0))->∃cells':Array Value,w'.heap[b]?=some (.cells cells' t (0,0))/\cells'.size=cells.size
def dO.l9{w:World}(h:wy M z Z u w A){x:V}(n:dO w M Z x v)
 (r:∀s,x.bK s->u s=Z s):dO A z u x v:=by
 cases x with
 |d x=>exact dE.mono n h.cS h.same
 |ptr s D=>obtain⟨b,q,e⟩:=n;exact⟨b,(r s rfl).trans q,e⟩
 |sub s k D U=>
  rcases n with⟨b,E,cells,t,q,e,y,B,H,h4⟩|⟨y,B⟩|⟨b,o,y,B⟩
  ·obtain⟨m,K,Q⟩:=h.iK b cells t H;exact .inl ⟨b,E,m,t,(r s rfl).trans q,e,y,B,K,O⟩
  ·exact .inr (.inl ⟨(r s rfl).trans y,B⟩)
  ·exact .inr (.inr ⟨b,o,(r s rfl).trans y,B⟩)
 |gT ds=>
  obtain⟨a,e,L,C,hd⟩:=n;refine⟨a,e,L,h.cS _ C,λj x hj=>?_⟩;obtain⟨l,X,hr⟩:=hd j x hj;refine⟨l,?_,dE.mono hr h.cS h.same⟩;rw[Oj (w:=w)]
  ·exact X
  ·rw[Cr];exact h.same _ C
 |cr f R=>obtain⟨cs,e,hl,hc⟩:=n;refine⟨cs,e,hl,λi p c T N=>?_⟩;obtain⟨b,q,e'⟩:=hc i p c T N;exact⟨b,(r p.1 ⟨p,bF T,rfl⟩).trans q,e'⟩
 |mp s=>obtain⟨b,q,e⟩:=n;exact⟨b,(r s rfl).trans q,e⟩
 |ty s t sl=>obtain⟨b,cells,q,H,e⟩:=n;obtain⟨m,K,Q⟩:=h.iK b cells t H;exact⟨b,m,(r s rfl).trans q,K,Q▸e⟩
 |dV es=>cases n
 |any=>exact n
theorem bR.l9(h:wy M z Z u w A){b:List V}{vs:av}(c:bR w M Z b vs)
 (e:∀s,(∃x∈b,x.bK s)->u s=Z s):bR A z u b vs:=
 ⟨c.1,λi x a d f=>(c.2 i x a d f).l9 h λs Y=>e s ⟨x,bF d,Y⟩⟩
theorem eP.l9(h:wy M z Z u w A){x:E}(a:eP w M Z x v)
 (b:∀s,x.bK s->u s=Z s):eP A z u x v:=by
 cases x with
 |c x=>exact dO.l9 h a b
 |agg i=>obtain⟨d,e,f⟩:=a;exact⟨d,e,f.l9 h b⟩
theorem b6.l9(h:wy M z Z u w A){x:T}(b:b6 w M Z x v)
 (c:∀s,x.bK s->u s=Z s):b6 A z u x v:=by
 cases x with
 |e x=>exact eP.l9 h b c
 |cn m=>obtain⟨f,e,j,k⟩:=b;exact⟨f,e,j,λi x a d l=>(k i x a d l).l9 h λs Y=>c s ⟨x,bF d,Y⟩⟩
 |any=>trivial
theorem Mem.l9(c:Mem M Z H w)(h:wy M z Z Z w A)(i:∀s b,Z s=some (some b)->A.heap[b]?=w.heap[b]?)(j:∀b,z b->b<A.heap.size)(k:∀s b,Z s=some (some b)->¬z b):Mem z Z H A where
 gG:=j
 iU:=c.iU.to h.cS h.same
 inj:=c.inj
 nm:=k
 fW:=c.fW
 fe s l Y:=by
  rcases c.fe s l Y with⟨b,t,m,n,a,d,e⟩|o|⟨b,p,f,a,d,e⟩
  ·exact .inl ⟨b,t,m,n,a,(i s b a).trans d,e.l9 h λ_ _=>rfl⟩
  ·exact .inr (.inl o)
  ·exact .inr (.inr ⟨b,p,f,a,(i s b a).trans d,e⟩)
def dz.world{C:dY}(R:dz C Z U a w){w':World}(c:wy C.M z Z Z w w')(d:∀s b,Z s=some (some b)->w'.heap[b]?=w.heap[b]?)(e:∀b,z b->b<w'.heap.size)
 (f:∀s b,Z s=some (some b)->¬z b)(h:fL C.mG C.w0 w'):dz { C with M:=z} Z U a w':=
 ⟨R.mem.l9 c d e f,λi=>(R.aT i).l9 c λ_ _=>rfl,h,R.aW,R.aS,R.defers,R.size⟩
def IS{γ:G}{new:Obj}(d:M n)(f:w.heap[n]?=some t)(hold:∀cells a r,t≠.cells cells a r):wy M M γ γ w (w.putObj n new):=
 ⟨λb c=>⟨by simpa using c.1,c.2.1,c.2.2⟩,λb c=>World.putObj_heap_other (λe=>c.2.1 (e▸d)),λb cells a c=>⟨cells,(World.putObj_heap_other (λe=>by subst e;rw[f]at c;injection c with c;exact hold _ _ _ c)).trans c,rfl⟩⟩
def dz.X5{C:dY}{aT:Nat->T}(R:dz C Z ⟨aT,H⟩ a w){w':World}(k:Mem C.M u r w')(d:fL (λb=>∃s,Z s=some (some b)) w w')
 (j:∀s b,u s=some (some b)->(∃t,Z t=some (some b))\/w.heap.size<=b)(Y:∀s,(∃i,(aT i).bK s)\/C.aS s->u s=Z s):dz C u ⟨aT,r⟩ a w':=by
 have l:la C.M Z u w w':=⟨d.size,λb c=>d.same b c.1 (λ⟨s,h⟩=>c.2.2 s h),λb c s h=>by
  rcases j s b h with⟨t,e⟩|m
  ·exact c.2.2 t e
  ·have:=c.1;omega,d.iK⟩
 refine⟨k,λi=>(R.aT i).dI l λs f=>Y s (.inl ⟨i,f⟩),R.aN.trans d (λx _ h=>h) (λx n ⟨s,h⟩=>?_),λs b h=>?_,λs h=>(Y s (.inr h)).trans (R.aS s h),R.defers,R.size⟩
 ·rcases R.aW s x h with h|h
  ·exact h
  ·omega
 ·rcases j s b h with⟨t,e⟩|m
  ·exact R.aW t b e
  ·have:=R.aN.size;exact .inr O
def dY.jc(M:aq)(a:G)(w:World)(aS:aq)(c:Nat):dY:=⟨M,λb=>∃s,a s=some (some b),w,a,aS,c⟩
theorem dz.jc(c:Mem M Z H w){aT:Nat->T}(d:∀i,b6 w M Z (aT i) (a.tmps.getD i undef))(e:a.defers=[])(aS:aq):dz (dY.jc M Z w aS a.tmps.size) Z ⟨aT,H⟩ a w:=
 ⟨c,d,fL.refl _ _,λs b h=>.inl ⟨s,h⟩,λ_ _=>rfl,e,rfl⟩
def acX(a:aw):Nat->List (List Bool)->List (List Bool)
 |0,Z=>Z
 |n+1,Z=>Z++acX a n ((Z.flatMap λl=>(Region.ready .any a l.toArray).map λi=>l.set i true).eraseDups)
def G7(a:aw)(k:Nat)(Z:List (List Bool)):Bool:=Z.contains (List.replicate k false)&&Z.all λl=>
 let r:=Region.ready .any (a.extract 0 k) l.toArray
 decide (l.length=k)&&(if r.isEmpty then l.all (λb=>b)else decide (Region.ready .any a (l++[false,false]).toArray=r)&&r.all (λi=>decide (i<k)&&Z.contains (l.set i true)))
def aBF{P:ay}{n:Nat}{ops:aw}{S:List (List Bool)}{Q6:Exit->Act->World->Prop}(hsz:ops.size=s+2)(Y:G7 ops s S=true)(hg:∀o∈ops.toList,o.guard=none)(hd:∀o∈ops.toList,∀c,o.op≠.defer c)
 (u:∀e a w,e≠.normal->¬Q6 e a w)
 (M:∀a w,Q6 .normal a w->∀f,wpAnyIn (mT none) n P .any ops Q (f+2) (List.replicate s true++[false,false]).toArray a w):
 ∀(d:Nat)(l:List Bool)(a:Act)(w:World),l∈S->wpAny P .any (ops.extract 0 s) Q6 d l.toArray a w->wpAnyIn (mT none) n P .any ops Q (d+2) (l++[false,false]).toArray a w:=by
 have m:∀l:List Bool,l∈S->l.length=s/\(Region.ready .any (ops.extract 0 s) l.toArray=[]->l=List.replicate s true)/\(Region.ready .any (ops.extract 0 s) l.toArray≠[]->Region.ready .any ops (l++[false,false]).toArray=Region.ready .any (ops.extract 0 s) l.toArray/\∀i∈Region.ready .any (ops.extract 0 s) l.toArray,i<s/\l.set i true∈S):=by
  intro l C;unfold G7 at Y;rw[dB]at Y;have p:=eM.1 Y.2 l C;simp only[dB,be]at p;obtain⟨N,p⟩:=p;refine⟨N,?_⟩;split at p
  ·rename_i j;rw[List.isEmpty_iff]at j;refine⟨λ_=>?_,λh=>absurd j h⟩;rw[<-N];apply List.eq_replicate_of_mem;intro b hb;simpa using eM.1 p b hb
  ·rename_i j;rw[List.isEmpty_iff]at j;simp only[dB,be,eM,List.contains_iff_mem]at p;exact⟨λh=>absurd h j,λ_=>p⟩
 intro d
 induction d with
 |zero=>intro l a w C h;obtain⟨p,G⟩:=h;rw[(m l C).2.1 p];exact M a w G 0
 |succ d X=>
  intro l a w C h;obtain⟨p,G⟩:=h;by_cases j:Region.ready .any (ops.extract 0 s) l.toArray=[]
  ·rw[(m l C).2.1 j];exact M a w (p j) (d+1)
  ·obtain⟨hlen,_,H⟩:=m l C;obtain⟨R,T⟩:=H j;show wpAnyIn (mT none) n P .any ops Q ((d+2)+1) (l++[false,false]).toArray a w;refine⟨λh=>absurd (R▸h) j,λi E=>?_⟩;rw[R]at E;have K:=(T i E).1;have z:=G i E;have ho:ops[i]?=some (ops[i]' O):=D5 _;have L:(ops.extract 0 s)[i]?=some (ops[i]' O):=by rw[Array.getElem?_extract_of_lt O];simp
   have A:ops[i]' O∈ops.toList:=ai;unfold wpOp at z;unfold wpOpIn;simp only[L]at z;simp only[ho];have U:∀y,Region.wanted (ops[i]' O) y=true:=λy=>by simp[Region.wanted,hg _ A]
   rw[aK (U _)]at z;rw[aK (U _)];have D:(l++[false,false]).toArray.setIfInBounds i true=(l.set i true++[false,false]).toArray:=by apply mW;simp[List.set_append,hlen,K]
   have B:l.toArray.setIfInBounds i true=(l.set i true).toArray:=ai;have q:¬LetsOut Q6:=λ⟨a,w,h⟩=>u _ a w ai h
   rcases z with z|⟨_,z⟩
   ·have V:=UG (ro:=none) (n:=n) (hd _ A) z;have h5:(ops[i]' O).wpIn (mT none) n P a w (wpAny P .any (ops.extract 0 s) Q6 d (l.toArray.setIfInBounds i true)) Q:=by
     refine⟨V.1,?_⟩;have t:=V.2;generalize((ops[i]' O).semAt (mT none).round a.eval).run P w=r at t;cases r with
     |ok x Z=>
      cases x<;>simp only[Oper.uponIn]at t⊢ <;>try exact t
      ·exact⟨t.1,CallsIn.mono t.2 λe w2 j=>by
        cases e with
        |returned v=>exact j
        |panicked c=>exact absurd j (u _ _ _ ai)
        |outgrown=>exact absurd j q⟩
      ·exact⟨t.1,RoundIn.mono t.2 λe w2 j=>by
        cases e with
        |returned v=>exact j
        |panicked c=>exact absurd j (u _ _ _ ai)
        |outgrown=>exact absurd j q⟩
     |halt x Z=>cases x<;>simp only[Oper.uponIn]at t⊢ <;>first|exact t|exact absurd t (u _ _ _ ai)
    refine Oper.wpIn_mono (λa w h=>?_) h5;rw[D];rw[B]at h;exact X (l.set i true) a w (T i E).2 h
   ·exact absurd z q
section
variable {P:ay}
def Di{l:List Oper}(h:(l.all λo=>match o.op with|.defer _=>false|_=>true)=true):∀o∈l,∀c,o.op≠.defer c:=λo a c e=>by have:=eM.1 h o a;rw[e]at this;simp at this
def iR(eR eJ:aw)(a:FuncId)(b:Array Value)(D:Nat):Loop:= { state:=.ready,pending:=Option.none,fn:=a,tmps:=b,params:=#[9,10],assign:=.region 3 eR false,body:=.block 1 (.region 4 eJ false),defers:=D}
def K9(r:Loop):∀cells t x,(Obj.loop r)≠.cells cells t x:=λ_ _ _ h=>by cases h
def aeh(r:Option (List Deferred)):∀cells t x,(Obj.deferred r)≠.cells cells t x:=λ_ _ _ h=>by cases h
def ahE(t:Array Value)(j:Nat)(v:Value)(a:j<t.size)(i:Nat):(t.setIfInBounds j v).getD i undef=if i=j then v else t.getD i undef:=by
 simp only[MJ,Array.getElem?_setIfInBounds];by_cases h:j=i
 ·subst h;simp[a]
 ·rw[g h,g (λe=>h e.symm)]
def UO(a:Array Value)(x y:Value):(((#[9,10]:Array Tmp).zip #[x,y]).foldl (λt (p:Tmp×Value)=>t.setIfInBounds p.1 p.2) a)=(a.setIfInBounds 9 x).setIfInBounds 10 y:=by rw[<-Array.foldl_toList,Array.toList_zip];rfl
def aHp{b:Fence}{Q':Exit->Act->World->Prop}(j:∀e a w,e≠.normal->¬Q' e a w)(h:o.wpIn b n P a w K Q'):o.wpIn b n P a w K Q:=by
 refine⟨h.1,?_⟩;have d:=h.2;have f:¬LetsOut Q':=λ⟨a,w,h⟩=>j _ a w ai h
 generalize(o.semAt b.round a.eval).run P w=r at d;cases r with
 |ok x k=>
  cases x<;>simp only[Oper.uponIn]at d⊢ <;>try exact d
  ·exact⟨d.1,CallsIn.mono d.2 λe l i=>by
    cases e with
    |returned v=>exact i
    |panicked c=>exact absurd i (j _ _ _ ai)
    |outgrown=>exact absurd i f⟩
  ·exact⟨d.1,RoundIn.mono d.2 λe l i=>by
    cases e with
    |returned v=>exact i
    |panicked c=>exact absurd i (j _ _ _ ai)
    |outgrown=>exact absurd i f⟩
 |halt x k=>cases x<;>simp only[Oper.uponIn]at d⊢ <;>first|exact d|exact absurd d (j _ _ _ ai)
def aA9(d:∀c,o.op≠.defer c)(f:o.guard=Option.none)(j:X[s]?=some o)
 (h:wpList P X (λe a w=>e=.normal/\K a w) [o] a w):wpOpIn (mT Option.none) n P X Q s K a w:=by
 unfold wpOpIn;simp only[j];simp only[wpList]at h;have b:∀y,Region.wanted o y=true:=λy=>by simp[Region.wanted,f]
 rw[aK (b _)]at h;rw[aK (b _)];rcases h with h|⟨_,_,_,h,_⟩
 ·exact aHp (Q':=λe a w=>e=.normal/\K a w) (λe a w k h=>k h.1) (UG d (UI (λa w h=>h.2) h))
 ·cases h
def Qg{args:List E}{vals:av}(h:lb w M Z args vals)(k i:Nat):b6 w M Z (nH args i) ((vals.toArray++Array.replicate k undef).getD i undef):=by
 rw[Xz];cases b:args[i]? with
 |none=>trivial
 |some x=>
  have c:vals.length=args.length:=h.1.symm;have e:i<args.length:=(dM.1 b).1;have d:vals[i]?=some (vals[i]' O):=ca O;have:((vals.toArray++Array.replicate k undef).getD i undef)=vals[i]' O:=by have a:i<vals.length:=O;simp[Array.getElem?_append,a]
  rw[this];exact h.2 i x _ b d
def acy{mG:aq}(h:fL mG A w)(f:w.heap[n]?=some t)(hold:∀cells a r,t≠.cells cells a r)(i:A.heap.size<=n):fL mG A (w.putObj n k):=
 ⟨h.os,h.tape,h.output,h.drawn,by simpa using h.size,λb d j=>(World.putObj_heap_other O).trans (h.same b d j),λb cells a d=>by obtain⟨m,c,o⟩:=h.iK b cells a d;exact⟨m,(World.putObj_heap_other (λe=>by subst e;rw[f]at c;injection c with c;exact hold _ _ _ c)).trans c,o⟩⟩
end
def KO(N:Nat)(v:Value):Nat:=match v with|.int _ i=>((N:Int)-i).toNat|_=>0
def iy(K:St->Prop):lI:=⟨K,λ_ _=>False,λ_=>False⟩
section
variable {P:ay}{aN:au}{eR eJ:aw}
def pO{aS:aq}{K:St->Prop}(h:WP P n aS c U (iy K)){C:dY}(k:C.nt=n)(Y:C.aS=aS)(R:gN C U a w)(m:∀f j b,gN C b f j->K b->Q .normal f j):c.wp P Q a w:=
 wp_mono (h C k Y a w R) λe f j ⟨b,o,d⟩=>by
  cases e with
  |normal=>exact m f j b o d
  |exit i=>cases d
  |ret=>cases d
  |goto l=>cases d
  |panic p=>cases d
  |outgrown=>cases d
def aDn{kT d:Nat->T}{H:eh}(nS:∀i c,(kT i).bK c->c∈aN)(nQ:∀i c,(d i).bK c->c∈aN)
 (FA:(eR.toList.all λo=>match o.op with|.defer _=>false|_=>true)=true)(FB:(eJ.toList.all λo=>match o.op with|.defer _=>false|_=>true)=true)
 (body:fP P 15 (·∈aN) eR eR.toList ⟨iX (iX kT 9 (d 13)) 10 (d 16),H⟩ λσ=>fP P 15 (·∈aN) eJ eJ.toList σ λj=>j.heap=r)
 {n l:Nat}{M:aq}{γ:G}{w:World}
 (hM:M l)(V:C.size=15)(hnm2:∀c b,Z c=some (some b)->¬M b)
 (E:∀i,b6 A M Z (kT i) (C.getD i undef))(hl:A.heap[l]?=some (.loop (iR eR eJ f C s)))
 (R:dz (dY.jc M Z A (·∈aN) 20) γ ⟨d,H⟩ a w):
 w.heap[l]?=some (.loop (iR eR eJ f C s))/\
 RoundIn Fence.wide n P l f (((#[9,10]:Array Tmp).zip #[a.eval (.tmp 13),a.eval (.tmp 16)]).foldl (λt (p:Tmp×Value)=>t.setIfInBounds p.1 p.2) C) (.region 3 eR false) (.block 1 (.region 4 eJ false)) w
  (λe z=>e=.returned (.bool true)/\∃γ',dz (dY.jc M Z A (·∈aN) 20) γ' ⟨d,r⟩ a z):=by
 have k:∀{γ:G}{H:eh}{w:World},Mem M γ H w->¬ ∃c,γ c=some (some l):=λhm ⟨c,h⟩=>hm.nm c l h hM
 have x:w.heap[l]?=some (.loop (iR eR eJ f C s)):=(R.aN.same l (jA hl) (λ⟨c,h⟩=>hnm2 c l h hM)).trans hl;refine⟨x,?_⟩;have hc:la M Z γ A w:=⟨R.aN.size,λb q=>R.aN.same b q.1 (λ⟨c,h⟩=>q.2.2 c h),λb q c h=>by
  rcases R.aW c b h with⟨t,ht⟩|h2
  ·exact q.2.2 t ht
  ·have:=q.1;have h3:A.heap.size<=b:=h2;omega,R.aN.iK⟩
 have E':∀i,b6 w M γ (kT i) (C.getD i undef):=λi=>(E i).dI hc λc Y=>R.aS c (nS i c Y)
 obtain⟨v,B⟩:∃v:Act,v= { tmps:=(((#[9,10]:Array Tmp).zip #[a.eval (.tmp 13),a.eval (.tmp 16)]).foldl (λt (p:Tmp×Value)=>t.setIfInBounds p.1 p.2) C),defers:=[]}:=⟨_,rfl⟩;have X:v.tmps=(C.setIfInBounds 9 (a.eval (.tmp 13))).setIfInBounds 10 (a.eval (.tmp 16)):=by rw[B];exact UO _ _ _
 have hsz:v.tmps.size=15:=by rw[X];simp[V]
 have henv:∀i,b6 w M γ (iX (iX kT 9 (d 13)) 10 (d 16) i) (v.tmps.getD i undef):=by
  intro i;rw[X,ahE _ _ _ (by simp[V]),ahE _ _ _ O];simp only[iX];split
  ·exact R.aT 16
  ·split
   ·exact R.aT 13
   ·exact E' i
 have R4:dz (dY.jc M γ w (·∈aN) v.tmps.size) γ ⟨iX (iX kT 9 (d 13)) 10 (d 16),H⟩ v w:=
  dz.jc (H:=H) R.mem henv (by rw[B]) (·∈aN)
 refine roundIn_of_wpIn (F:=Fence.wide) trivial ?_;rw[<-B]
 have step1:=wpIn_region_list (F:=mT (some l)) (n:=n) (id:=3) (ops:=eR) (Q:=λe a' z=>e=.normal/\∃j,gN (dY.jc M γ w (·∈aN) v.tmps.size) j a' z/\fP P 15 (·∈aN) eJ eJ.toList j λj=>j.heap=r)
  (Hr (by rintro⟨_,_,h,_⟩;cases h) eR.toList v w (Di FA)
    (body _ hsz rfl v w ⟨γ,R4⟩ _ (λa' z j R' hk=>⟨rfl,j,R',hk⟩)))
 refine wpIn_mono (F:=mT (some l)) step1 ?_;rintro e K wA ⟨rfl,σA,⟨u,m⟩,hkA⟩;have y:wA.heap[l]?=some (.loop (iR eR eJ f C s)):=(m.aN.same l (jA x) (k R.mem)).trans x;refine⟨wA.putObj l (.loop { iR eR eJ f C s with state:=.busy}),run_beginRound y rfl,?_⟩;have cp:=IS (M:=M) (γ:=u) (w:=wA) (new:=.loop { iR eR eJ f C s with state:=.busy}) hM y (K9 _)
 have RB:dz (dY.jc M u (wA.putObj l (.loop { iR eR eJ f C s with state:=.busy})) (·∈aN) K.tmps.size) u σA K (wA.putObj l (.loop { iR eR eJ f C s with state:=.busy})):=
  dz.jc (H:=σA.heap) (m.mem.l9 cp (λc b Y=>World.putObj_heap_other (λe=>k m.mem ⟨c,e▸Y⟩)) (λb q=>by have:=m.mem.gG b q;simpa using this) m.mem.nm) (λi=>(m.aT i).l9 cp λ_ _=>rfl) m.defers _
 have hsz1:K.tmps.size=15:=m.size.trans hsz;have hlB:(wA.putObj l (.loop { iR eR eJ f C s with state:=.busy})).heap[l]?=some (.loop { iR eR eJ f C s with state:=.busy}):=World.putObj_heap_same (jA y)
 have step2:=wpIn_region_list (F:=mT (some l)) (n:=n) (id:=4) (ops:=eJ) (Q:=λe a' z=>e=.normal/\∃j,gN (dY.jc M u (wA.putObj l (.loop { iR eR eJ f C s with state:=.busy})) (·∈aN) K.tmps.size) j a' z/\j.heap=r)
  (Hr (by rintro⟨_,_,h,_⟩;cases h) eJ.toList K _ (Di FB)
    (hkA _ hsz1 rfl K _ ⟨u,RB⟩ _ (λa' z j R' hk=>⟨rfl,j,R',hk⟩)))
 refine wpIn_block (F:=mT (some l)) (wpIn_mono (F:=mT (some l)) step2 ?_);rintro e a2 wC ⟨rfl,σC,⟨L,RC⟩,hkC⟩;have N:wC.heap[l]?=some (.loop { iR eR eJ f C s with state:=.busy}):=(RC.aN.same l (jA hlB) (k RB.mem)).trans hlB;have hend:=run_endRound (P:=P) Option.none N;refine⟨.bool true,wC.putObj l (.loop (iR eR eJ f C s)),hend,rfl,L,?_⟩;have cp2:=IS (M:=M) (γ:=L) (w:=wC) (new:=.loop (iR eR eJ f C s)) hM N (K9 _);have U:(wA.putObj l (.loop { iR eR eJ f C s with state:=.busy})).heap.size=wA.heap.size:=ai;have k1:w.heap.size<=wA.heap.size:=m.aN.size;have k2:wA.heap.size<=wC.heap.size:=by have:=RC.aN.size;have h3:(wA.putObj l (.loop { iR eR eJ f C s with state:=.busy})).heap.size<=wC.heap.size:=this;omega
 have mC:Mem M L r wC:=hkC▸RC.mem;refine dz.X5 (aT:=d) (H:=H) R (mC.l9 cp2 (λc b Y=>World.putObj_heap_other (λe=>k RC.mem ⟨c,e▸Y⟩)) (λb q=>by have:=mC.gG b q;simpa using this) mC.nm) ?_ ?_ ?_
 ·refine⟨RC.aN.os.trans m.aN.os,RC.aN.tape.trans m.aN.tape,RC.aN.output.trans m.aN.output,eZ m.aN.drawn RC.aN.drawn,by simp;omega,λb q hn=>?_,λb cells t q=>?_⟩
  ·by_cases e:b=l
   ·subst e;exact(World.putObj_heap_same (jA N)).trans x.symm
   ·refine(World.putObj_heap_other e).trans ((RC.aN.same b (by show b<_;rw[show(dY.jc M u (wA.putObj l (.loop { iR eR eJ f C s with state:=.busy})) (·∈aN) K.tmps.size).w0.heap.size=wA.heap.size from U];omega) ?_).trans ((World.putObj_heap_other e).trans (m.aN.same b q hn)));rintro⟨c,Y⟩;rcases m.aW c b Y with h|h
    ·exact hn h
    ·have h3:w.heap.size<=b:=h;omega
  ·obtain⟨c1,h1,z1⟩:=m.aN.iK b cells t q;have e:b≠l:=λe=>by subst e;rw[y]at h1;cases h1
   obtain⟨c2,h2,z2⟩:=RC.aN.iK b c1 t ((World.putObj_heap_other e).trans h1);exact⟨c2,(World.putObj_heap_other e).trans h2,z2.trans z1⟩
 ·intro c b Y;rcases RC.aW c b Y with⟨t,ht⟩|h
  ·rcases m.aW t b ht with h|h
   ·exact .inl h
   ·exact .inr h
  ·have h3:(wA.putObj l (.loop { iR eR eJ f C s with state:=.busy})).heap.size<=b:=h;exact .inr O
 ·intro c Y;have hlt:c∈aN:=by
   rcases Y with⟨i,hi⟩|h
   ·exact nQ i c hi
   ·exact h
  exact(RC.aS c hlt).trans (m.aS c hlt)
def awm(mix:P.follows .mixedOrders=true){kT:Nat->T}{A:Nat->St}{EQ:Nat->Nat->T}{Hp:Nat->eh}{N:Nat}(nS:∀i z,(kT i).bK z->z∈aN)(nQ:∀x,x<N->∀i z,(EQ x i).bK z->z∈aN)
 (FA:(eR.toList.all λH=>match H.op with|.defer _=>false|_=>true)=true)(FB:(eJ.toList.all λH=>match H.op with|.defer _=>false|_=>true)=true)
 (body:∀x,x<N->fP P 15 (·∈aN) eR eR.toList ⟨iX (iX kT 9 (EQ x 13)) 10 (EQ x 16),Hp x⟩ λL=>fP P 15 (·∈aN) eJ eJ.toList L λσ'=>σ'.heap=Hp (x+1))
   (hf:P.funcs[f]?=some y){y9 C9 j4:Code}{iI:aw}(hb:y.body=some (.seq c (.block 0 (.loop (.seq q (.seq y9 (.seq (.block 1 (.seq p (.seq (.region 3 iI true) C9))) j4)))))))(hnt:y.ntmps=20)(hres:y.results.toList=[])
 {l LL:Nat}(start:WP P 20 (·∈aN) c ⟨nH [.c (.d (.sc (.func (.yield l) #[] #[]))),.c (.ptr LL 0)],Hp 0⟩ (iy λL=>dm 20 (·∈aN) L (A 0)))
 (step:∀x,x<N->WP P 20 (·∈aN) q (A x) (iy λL=>WP P 20 (·∈aN) y9 L (iy λL=>WP P 20 (·∈aN) p L (iy λL=>∀K:dY,K.nt=20->K.aS=(·∈aN)->∀a w,gN K L a w->wpAny P .any (iI.extract 0 6) (λe a w=>e=.normal/\gN K ⟨EQ x,Hp x⟩ a w) 6 (List.replicate 6 false).toArray a { w with drawn:=w.drawn+1}))))
 {o7:Oper}(ho6:iI[6]?=some o)(ho7:iI[7]?=some o7)(hop6:∃ts,o.op=.call { callee:=.value (.tmp 11),args:=#[.tmp 13,.tmp 16],argTypes:=ts})(U:o.dst=some 17)
 (after:∀x,x<N->fP P 20 (·∈aN) iI [o7] ⟨iX (EQ x) 17 (.e (.c (.d (.sc (.bool true))))),Hp (x+1)⟩ λL=>WP P 20 (·∈aN) C9 L (iy λL=>WP P 20 (·∈aN) j4 L (iy λL=>dm 20 (·∈aN) L (A (x+1)))))
 (stop:WP P 20 (·∈aN) q (A N) (iy λL=>WP P 20 (·∈aN) y9 L ⟨λ_=>False,λi L=>i=0/\L.heap=Hp N,λ_=>False⟩))
 (e7:∀x,(A x).aT 7=.e (.c (.d (.sc (.int .i64 x)))))(e11:∀x,x<N->EQ x 11=.e (.c (.d (.sc (.func (.yield l) #[] #[])))))
 {S3:List (List Bool)}(DK:G7 iI 6 S3=true)(Mg:iI.size=8)(Fz:(iI.toList.all λH=>match H.op with|.defer _=>false|_=>true)=true)(g3:(iI.toList.all λH=>H.guard.isNone)=true)(IV:Region.ready .any iI #[true,true,true,true,true,true,false,false]=[6])(IW:Region.ready .any iI #[true,true,true,true,true,true,true,false]=[7])(Oq:Region.ready .any iI #[true,true,true,true,true,true,true,true]=[])
 {n:Nat}{fnR:FuncId}{w2:World}(hM:M l)(hta:C.size=15)(hm2:Mem M Z (Hp 0) w2)
 (E:∀i,b6 w2 M Z (kT i) (C.getD i undef))(hl:w2.heap[l]?=some (.loop (iR eR eJ fnR C s)))(hpv:uk Z LL 0 v):
 CallsIn Fence.wide n P f #[.func (.yield l) #[] #[],v] w2 (λe w'=>∃m γ',e=.returned m/\Mem M γ' (Hp N) w'/\fL (λb=>∃z,Z z=some (some b)) w2 w'/\(∀z b,γ' z=some (some b)->(∃t,Z t=some (some b))\/w2.heap.size<=b)/\∀z,z∈aN->γ' z=Z z):=by
 refine callsIn_of_wp (F:=Fence.wide) hf hb trivial ?_;have hes:lb w2 M Z [.c (.d (.sc (.func (.yield l) #[] #[]))),.c (.ptr LL 0)] [.func (.yield l) #[] #[],v]:=by
  refine⟨rfl,λi x u hx hu=>?_⟩
  match i,hx,hu with
  |0,hx,hu=>simp at hx hu;subst hx;subst hu;exact dE.sc _ rfl
  |1,hx,hu=>simp at hx hu;subst hx;subst hu;exact hpv
  |i+2,hx,hu=>simp at hx
 have R0:gN (dY.jc M Z w2 (·∈aN) 20) ⟨nH [.c (.d (.sc (.func (.yield l) #[] #[]))),.c (.ptr LL 0)],Hp 0⟩ { tmps:=#[.func (.yield l) #[] #[],v]++Array.replicate (y.ntmps-(#[.func (.yield l) #[] #[],v]:Array Value).size) undef,defers:=[]} w2:=by
  have:=dz.jc (aT:=nH [.c (.d (.sc (.func (.yield l) #[] #[]))),.c (.ptr LL 0)]) (a:= { tmps:=#[.func (.yield l) #[] #[],v]++Array.replicate (y.ntmps-(#[.func (.yield l) #[] #[],v]:Array Value).size) undef,defers:=[]}) hm2 (Qg hes _) rfl (·∈aN);refine⟨Z,?_⟩;have e:(#[.func (.yield l) #[] #[],v]++Array.replicate (y.ntmps-(#[.func (.yield l) #[] #[],v]:Array Value).size) undef).size=20:=by rw[hnt];simp
  rw[<-e];exact this
 refine wpIn_seq (wpIn_wide.2 (pO start rfl rfl R0 λa1 w1 σ1 R1 hW1=>?_));refine wpIn_block ?_;refine wpIn_loop (λa w=>∃x,x<=N/\gN (dY.jc M Z w2 (·∈aN) 20) (A x) a w) (λa _=>KO N (a.tmps.getD 7 undef)) ⟨0,dD _,hW1 _ rfl rfl _ _ R1⟩ ?_;rintro a w ⟨x,hx,R⟩;have hmu:KO N (a.tmps.getD 7 undef)=N-x:=by obtain⟨γ,R⟩:=R;have:=R.aT 7;rw[e7]at this;rw[gK this];show((N:Int)-(x:Int)).toNat=N-x;omega
 rcases B8 x N with V|hge
 ·refine wpIn_seq (wpIn_wide.2 (pO (step x V) rfl rfl R λa2 w2' σ2 R2 h2=>?_));refine wpIn_seq (wpIn_wide.2 (pO h2 rfl rfl R2 λa3 w3 σ3 R3 h3=>?_));refine wpIn_seq (wpIn_block (wpIn_seq (wpIn_wide.2 (pO h3 rfl rfl R3 λa4 w4 σ4 R4 h4=>?_))));refine wpIn_seq ?_;have hany:=h4 _ rfl rfl a4 w4 R4;refine wpIn_region_any (F:=Fence.wide) mix ?_;rw[Mg];have hin0:List.replicate 6 false∈S3:=by unfold G7 at DK;rw[dB]at DK;simpa using DK.1
  refine aBF (n:=n) (S:=S3) (Q6:=λe a w=>e=.normal/\gN (dY.jc M Z w2 (·∈aN) 20) ⟨EQ x,Hp x⟩ a w) Mg DK (λH ho=>by simpa using eM.1 g3 H ho) (Di Fz) (λe a w he h=>he h.1) ?_ 6 (List.replicate 6 false) a4 _ hin0 hany;rintro Q w5 ⟨_,γ5,R5⟩ f6;show wpAnyIn (mT Option.none) n P .any iI _ (f6+1+1) #[true,true,true,true,true,true,false,false] Q w5;refine⟨(λh=>by rw[IV]at h;cases h),λi hi=>?_⟩;rw[IV]at hi;simp only[dZ]at hi;subst hi;obtain⟨ts,hop⟩:=hop6;have hv:Q.eval (.tmp 11)=.func (.yield l) #[] #[]:=by have h:b6 w5 M γ5 (EQ x 11) (Q.tmps.getD 11 undef):=R5.aT 11;rw[e11 x V]at h;exact gK h
  obtain⟨hlw,hround⟩:=aDn (n:=n-1) nS (nQ x V) FA FB (body x V) hM hta hm2.nm E hl R5;have X:o∈iI.toList:=by simpa using UX ho6
  have hmem7:o7∈iI.toList:=by simpa using UX ho7
  unfold wpOpIn;simp only[ho6];have hg6:o.guard=Option.none:=by simpa using eM.1 g3 o X
  have hg7:o7.guard=Option.none:=by simpa using eM.1 g3 o7 hmem7
  rw[aK (by simp[Region.wanted,hg6])];refine⟨λ_ _=>trivial,?_⟩;have hrun:(o.semAt (mT Option.none).round Q.eval).run P w5=.ok (.round l fnR (((#[9,10]:Array Tmp).zip #[Q.eval (.tmp 13),Q.eval (.tmp 16)]).foldl (λt (B:Tmp×Value)=>t.setIfInBounds B.1 B.2) C) (.region 3 eR false) (.block 1 (.region 4 eJ false))) w5:=by
   rw[Oper.semAt_eq _ _ _ (Di Fz o X)];have hy:(Instr.yield l #[Q.eval (.tmp 13),Q.eval (.tmp 16)]).run P w5=.ok (.round l fnR ((C.setIfInBounds 9 (Q.eval (.tmp 13))).setIfInBounds 10 (Q.eval (.tmp 16))) (.region 3 eR false) (.block 1 (.region 4 eJ false))) w5:=by rw[run_yield (P:=P) (args:=#[Q.eval (.tmp 13),Q.eval (.tmp 16)]) hlw (by rfl),<-UO];rfl
   rw[UO];simp only[execOp,hop,resolve,hv,Deferred.ofValue,Sem.run_bind,Sem.run_pure,Result.andThen_ok,invoke];simpa using hy
  rw[hrun,Oper.uponIn_round];refine⟨(λh=>by cases h),RoundIn.mono hround ?_⟩;rintro e w6 ⟨rfl,γ6,R6⟩;have R6':dz (dY.jc M Z w2 (·∈aN) 20) γ6 ⟨iX (EQ x) 17 (.e (.c (.d (.sc (.bool true))))),Hp (x+1)⟩ (Q.put o.dst (.bool true)) w6:=by have:=R6.Bu o.dst (by rw[U];intro j hj;injection hj with hj;subst hj;show 17<20;omega) (.bool true) (.e (.c (.d (.sc (.bool true))))) (dE.sc _ rfl);rw[U]at this⊢;exact this
  show wpAnyIn (mT Option.none) n P .any iI _ (f6+1) #[true,true,true,true,true,true,true,false] (Q.put o.dst (.bool true)) w6;refine⟨(λh=>by rw[IW]at h;cases h),λi hi=>?_⟩;rw[IW]at hi;simp only[dZ]at hi;subst hi;refine aA9 (Di Fz o7 hmem7) hg7 ho7 (after x V _ rfl rfl _ _ ⟨γ6,R6'⟩ _ (λa7 w7 σ7 R7 h7=>⟨rfl,?_⟩));show wpAnyIn (mT Option.none) n P .any iI _ f6 #[true,true,true,true,true,true,true,true] a7 w7;refine wpAnyIn_done Oq ?_ f6;show Code.wpIn Fence.wide n P C9 _ a7 w7;refine wpIn_wide.2 (pO h7 rfl rfl R7 λa8 w8 σ8 R8 h8=>?_);show Code.wpIn Fence.wide n P j4 _ a8 w8;refine wpIn_wide.2 (pO h8 rfl rfl R8 λa9 w9 σ9 R9 h9=>?_);have R9':=h9 _ rfl rfl _ _ R9;refine⟨⟨x+1,O,R9'⟩,?_⟩;obtain⟨γ9,R9'⟩:=R9';have:=R9'.aT 7;rw[e7]at this;show KO N (a9.tmps.getD 7 undef)<KO N (a.tmps.getD 7 undef);rw[hmu,gK this];show((N:Int)-((x+1:Nat):Int)).toNat<N-x;omega
 ·obtain rfl:x=N:=by omega
  refine wpIn_seq (wpIn_wide.2 (pO stop rfl rfl R λa2 w2' σ2 R2 h2=>?_));refine wpIn_seq (wpIn_wide.2 (wp_mono (h2 _ rfl rfl _ _ R2) λe a' w' ⟨σ',R3,hq⟩=>?_));cases e with
  |normal=>cases hq
  |ret=>cases hq
  |goto l=>cases hq
  |panic ch=>cases hq
  |outgrown=>cases hq
  |exit i=>obtain⟨rfl,hH⟩:=hq;obtain⟨γ3,R3⟩:=R3;obtain⟨m,hv,_⟩:=LI (r:=.cn []) R3 y (by rw[hres];rfl);exact⟨R3.defers,m,hv,m,γ3,rfl,hH▸R3.mem,R3.aN,R3.aW,λz Y=>R3.aS z Y⟩
def yZ(x:Option (Option Nat)):G:=λs=>if s=0 then x else Option.none
def FT(h:yZ x s=some b):s=0/\x=some b:=by
 unfold yZ at h;split at h
 ·rename_i e;exact⟨e,h⟩
 ·cases h
def PO(x:Option (Option Nat)):yZ x 0=x:=by simp[yZ]
def abv(h:s≠0):yZ x s=Option.none:=by simp[yZ,h]
def aCH{g:FuncId}(hf:P.funcs[f]?=some y)(R:(y.name== "runtime.NumGoroutine")=false){k0 k1 k2:Code}{qX:aw}
 (j:y.body=some (.seq k0 (.seq k1 (.seq (.seq k2 (.block 0 (.rangeFunc (.tmp 8) #[9,10] (.region 3 eR false) (.block 1 (.region 4 eJ false))))) (.seq (.region 5 qX false) .ret)))))(hnt:y.ntmps=15)(hg:fh P g)
 {args:List E}{cs0:List V}(hal:args.length<=15){kT:Nat->T}{H1 H8:eh}(nS:∀i s,(kT i).bK s->s∈aN)(h0:0∈aN)
 (start:WP P 15 (·∈[0]) k0 ⟨nH args,bJ [(0,cs0)]⟩ (iy λN=>WP P 15 (·∈[0]) k1 N (iy λN=>WP P 15 (·∈[0]) k2 N (iy λN=>dm 15 (·∈[0]) N ⟨kT,H1⟩))))
 {LL:Nat}(e8:kT 8=.e (.c (.cr g [(LL,0)])))
 (iter:∀{n l:Nat}{d:FuncId}{D:Nat}{M:aq}{z:G}{U:World}{ta:Array Value},M l->ta.size=15->Mem M z H1 U->
   (∀i,b6 U M z (kT i) (ta.getD i undef))->U.heap[l]?=some (.loop (iR eR eJ d ta D))->∀{pv:Value},uk z LL 0 pv->
   CallsIn Fence.wide n P g #[.func (.yield l) #[] #[],pv] U (λe w'=>∃v X,e=.returned v/\Mem M X H8 w'/\fL (λb=>∃s,z s=some (some b)) U w'/\(∀s b,X s=some (some b)->(∃t,z t=some (some b))\/U.heap.size<=b)/\∀s,s∈aN->X s=z s))
 {r:T}(post:fP P 15 (·∈[0]) qX qX.toList ⟨kT,H8⟩ λN=>∃r',sF P y.results.toList N=some r'/\pU r' r/\N.heap 0=some cs0)(O4:(qX.toList.all λo=>match o.op with|.defer _=>false|_=>true)=true)
 (hrn:∀s,¬r.bK s)(hcn:∀s,¬ ∃x∈cs0,x.bK s)(hnm7:∀es,cs0≠[.dV es]):cN P f (bJ [(0,cs0)]) args (bJ [(0,cs0)]) (·∈[0]) r:=by
 refine⟨fH hf R j,λM γ w k hm A=>?_⟩;refine(callsIn_wide (n:=2)).1 (callsIn_of_wp_marks (F:=Fence.wide) hf j trivial ?_);have R0:gN (dY.jc M γ w (·∈[0]) 15) ⟨nH args,bJ [(0,cs0)]⟩ { tmps:=k.toArray++Array.replicate (y.ntmps-k.toArray.size) undef,defers:=[]} w:=by
  have:=dz.jc (aT:=nH args) (a:= { tmps:=k.toArray++Array.replicate (y.ntmps-k.toArray.size) undef,defers:=[]}) hm (Qg A _) rfl (·∈[0]);refine⟨γ,?_⟩;have e:(k.toArray++Array.replicate (y.ntmps-k.toArray.size) undef).size=15:=by have:=A.1;rw[hnt];simp;omega
  rw[<-e];exact this
 refine wpIn_seq (wpIn_wide.2 (pO start rfl rfl R0 λa1 w1 σ1 R1 h1=>?_));refine wpIn_seq (wpIn_wide.2 (pO h1 rfl rfl R1 λa2 U σ2 R2 h2=>?_));refine wpIn_seq (wpIn_seq (wpIn_wide.2 (pO h2 rfl rfl R2 λa w3 σ3 u h3=>?_)));refine wpIn_block (wpIn_rangeFunc λd _=>?_);obtain⟨m,u⟩:=h3 _ rfl rfl _ _ u;have h8:b6 w3 M m (kT 8) (a.tmps.getD 8 undef):=u.aT 8;rw[e8]at h8;obtain⟨cs,hv,hlen,hcs⟩:=h8;obtain⟨pv,rfl⟩:∃pv,cs=[pv]:=by
  match cs,hlen with
  |[pv],_=>exact⟨pv,rfl⟩
 have hpv:uk m LL 0 pv:=hcs 0 (LL,0) pv rfl rfl;obtain⟨W,hW⟩:∃W,W=(w3.alloc (.deferred (some []))).alloc (.loop (iR eR eJ d a.tmps w3.heap.size)):=⟨_,rfl⟩;have hWs:W.heap.size=w3.heap.size+2:=by rw[hW];simp
 have hWl:W.heap[w3.heap.size+1]?=some (.loop (iR eR eJ d a.tmps w3.heap.size)):=by rw[hW];have:=World.alloc_heap_new (w3.alloc (.deferred (some []))) (.loop (iR eR eJ d a.tmps w3.heap.size));rwa [World.size_alloc]at this
 have kW:fL q_ w3 W:=by rw[hW];exact(qY w3 _).trans (qY _ _) (λ_ _ h=>h) (λ_ _ h=>h)
 have hWd:W.heap[w3.heap.size]?=some (.deferred (some [])):=by rw[hW];exact((qY (w3.alloc (.deferred (some []))) _).same w3.heap.size ai (λh=>h)).trans (World.alloc_heap_new w3 _)
 have hM2:∀s b,m s=some (some b)->¬(M b\/b=w3.heap.size\/b=w3.heap.size+1):=by
  rintro s b Y (h|h|h)
  ·exact u.mem.nm s b Y h
  ·have:=u.mem.lt Y;omega
  ·have:=u.mem.lt Y;omega
 have cW:wy M (λb=>M b\/b=w3.heap.size\/b=w3.heap.size+1) m m w3 W:=
  ⟨λb j=>⟨by have:=j.1;omega,λh=>by
    rcases h with h|h|h
    ·exact j.2.1 h
    ·have:=j.1;omega
    ·have:=j.1;omega,j.2.2⟩,λb j=>kW.same b j.1 (λh=>h),kW.iK⟩
 have RW:dz { dY.jc M γ w (·∈[0]) 15 with M:=λb=>M b\/b=w3.heap.size\/b=w3.heap.size+1} m ⟨kT,H1⟩ a W:=
  u.world cW (λs b Y=>kW.same b (u.mem.lt Y) (λh=>h)) (λb j=>by
   rcases j with h|h|h
   ·have:=u.mem.gG b h;omega
   ·omega
   ·omega) hM2 (u.aN.trans kW (λ_ _ h=>h) (λ_ _ h=>h.elim))
 refine⟨w3.heap.size+1,[{ target:=.collected w3.heap.size,args:=#[]}],W,{ target:=.fn (.func g) #[pv],args:=#[.func (.yield (w3.heap.size+1)) #[] #[]]},W,g,#[.func (.yield (w3.heap.size+1)) #[] #[],pv],W,?_,?_,λ_ _=>trivial,?_,(λh=>by cases h),?_⟩
 ·rw[hW];exact run_enterLoop_outer _ _ _ _ _
 ·have hv':a.eval (.tmp 8)=.func (.func g) #[] #[pv]:=hv;simp only[resolve,hv'];simp[go_sem]
 ·have:=hg #[.func (.yield (w3.heap.size+1)) #[] #[],pv] W;simp[invoke,this]
 refine CallsIn.mono (iter (M:=λb=>M b\/b=w3.heap.size\/b=w3.heap.size+1) (.inr (.inr rfl)) (u.size) RW.mem RW.aT hWl hpv) ?_;rintro e K ⟨v,p,rfl,m6,k6,o6,s6⟩;have nI:∀{x:Nat},(x=w3.heap.size\/x=w3.heap.size+1)->¬ ∃s,m s=some (some x):=λhx ⟨s,h⟩=>hM2 s _ h (.inr hx)
 have hl6:K.heap[w3.heap.size+1]?=some (.loop (iR eR eJ d a.tmps w3.heap.size)):=(k6.same _ O (nI (.inr rfl))).trans hWl;have hd6:K.heap[w3.heap.size]?=some (.deferred (some [])):=(k6.same _ O (nI (.inl rfl))).trans hWd;refine⟨Option.none,K.putObj (w3.heap.size+1) (.loop { iR eR eJ d a.tmps w3.heap.size with state:=.exhausted}),run_endLoop hl6 (by simp[iR]),?_⟩;have R6:=dz.X5 (aT:=kT) (H:=H1) RW m6 k6 o6 (λs Y=>s6 s (by
  rcases Y with⟨i,hi⟩|h
  ·exact nS i s hi
  ·have h3:s∈[0]:=h;rw[dZ]at h3;exact h3▸h0))
 have hws:w.heap.size<=w3.heap.size:=u.aN.size;have cp:=IS (M:=λb=>M b\/b=w3.heap.size\/b=w3.heap.size+1) (γ:=p) (w:=K) (new:=.loop { iR eR eJ d a.tmps w3.heap.size with state:=.exhausted}) (.inr (.inr rfl)) hl6 (K9 _);have m7:=m6.l9 cp (λs b Y=>World.putObj_heap_other (λe=>m6.nm s b Y (.inr (.inr e)))) (λb j=>by have:=m6.gG b j;simpa using this) m6.nm;have k7:fL (dY.jc M γ w (·∈[0]) 15).mG w (K.putObj (w3.heap.size+1) (.loop { iR eR eJ d a.tmps w3.heap.size with state:=.exhausted})):=acy R6.aN hl6 (K9 _) (by show w.heap.size<=_;omega)
 have R7:dz (dY.jc (λb=>M b\/b=w3.heap.size\/b=w3.heap.size+1) p (K.putObj (w3.heap.size+1) (.loop { iR eR eJ d a.tmps w3.heap.size with state:=.exhausted})) (·∈[0]) a.tmps.size) p ⟨kT,H8⟩ a (K.putObj (w3.heap.size+1) (.loop { iR eR eJ d a.tmps w3.heap.size with state:=.exhausted})):=
  dz.jc m7 (λi=>(R6.aT i).l9 cp λ_ _=>rfl) R6.defers _
 have hd7:(K.putObj (w3.heap.size+1) (.loop { iR eR eJ d a.tmps w3.heap.size with state:=.exhausted})).heap[w3.heap.size]?=some (.deferred (some [])):=(World.putObj_heap_other O).trans hd6;obtain⟨w7,hw7⟩:∃w7,w7=K.putObj (w3.heap.size+1) (.loop { iR eR eJ d a.tmps w3.heap.size with state:=.exhausted}):=⟨_,rfl⟩;rw[<-hw7]at R7 hd7 k7 m7⊢;have hadd:({ a with defers:=[{ target:=.collected w3.heap.size,args:=#[]}]++a.defers}:Act)=pW [{ target:=.collected w3.heap.size,args:=#[]}] a:=by have:=u.defers;simp[pW,this]
 rw[hadd];show Code.wpIn Fence.wide 2 P (.seq (.region 5 qX false) .ret) _ _ _;refine wpIn_seq ?_
 have Z:=wpIn_region_list (F:=mT Option.none) (n:=2) (id:=5) (ops:=qX) (Q:=QD [{ target:=.collected w3.heap.size,args:=#[]}] λe a' w'=>e=.normal/\∃B,gN (dY.jc (λb=>M b\/b=w3.heap.size\/b=w3.heap.size+1) p w7 (·∈[0]) a.tmps.size) B a' w'/\∃r',sF P y.results.toList B=some r'/\pU r' r/\B.heap 0=some cs0)
  (Hr (by rintro⟨_,_,_,_,h,_⟩;cases h) qX.toList _ w7 (Di O4) (UH _ a w7
    (post _ u.size rfl a w7 ⟨p,R7⟩ _ (λa' w' B R' hk=>⟨rfl,B,R',hk⟩))))
 refine wpIn_mono (F:=mT Option.none) Z ?_;rintro e aD w9 ⟨a9,rfl,rfl,σ9,⟨q,C⟩,r',hr',hle,h90⟩;refine wpIn_ret ?_;have hdef:(pW [{ target:=.collected w3.heap.size,args:=#[]}] a9).defers=[{ target:=.collected w3.heap.size,args:=#[]}]:=by have:=C.defers;simp[pW,this]
 show LeavesInM Fence.wide 2 P y a9.tmps _ (pW [{ target:=.collected w3.heap.size,args:=#[]}] a9).defers .returning w9;rw[hdef];have hd9:w9.heap[w3.heap.size]?=some (.deferred (some [])):=(C.aN.same _ (jA hd7) (λ⟨s,h⟩=>m7.nm s _ h (.inr (.inl rfl)))).trans hd7;refine⟨ai,.inl ⟨w3.heap.size,_,rfl,run_takeDeferred hd9,?_⟩⟩;have cp9:=IS (M:=λb=>M b\/b=w3.heap.size\/b=w3.heap.size+1) (γ:=q) (w:=w9) (new:=.deferred Option.none) (.inr (.inl rfl)) hd9 (aeh _);have L:=C.mem.l9 cp9 (λs b Y=>World.putObj_heap_other (λe=>C.mem.nm s b Y (.inr (.inl e)))) (λb j=>by have:=C.mem.gG b j;simpa using this) C.mem.nm;have R10:dz (dY.jc (λb=>M b\/b=w3.heap.size\/b=w3.heap.size+1) q (w9.putObj w3.heap.size (.deferred Option.none)) (·∈[0]) a9.tmps.size) q σ9 a9 (w9.putObj w3.heap.size (.deferred Option.none)):=dz.jc (H:=σ9.heap) L (λi=>(C.aT i).l9 cp9 λ_ _=>rfl) C.defers _;obtain⟨v2,hv2,hr2'⟩:=LI R10 y hr';have hr2:=hle _ _ _ _ hr2';refine⟨v2,hv2,?_⟩;have g7:q 0=γ 0:=by have x1:q 0=p 0:=C.aS 0 (by show 0∈[0];simp);have x2:p 0=m 0:=s6 0 h0;have x3:m 0=γ 0:=u.aS 0 (by show 0∈[0];simp);rw[x1,x2,x3]
 have cF:wy (λb=>M b\/b=w3.heap.size\/b=w3.heap.size+1) M q (yZ (q 0)) (w9.putObj w3.heap.size (.deferred Option.none)) (w9.putObj w3.heap.size (.deferred Option.none)):=
  ⟨λb j=>⟨j.1,λh=>j.2.1 (.inl h),λs Y=>j.2.2 0 (FT Y).2⟩,λ_ _=>rfl,λb cells t h=>⟨cells,h,rfl⟩⟩
 have k9:fL (λb=>∃s,γ s=some (some b)) w w9:=by
  refine fL.trans (P2:=λb=>∃s,p s=some (some b)) k7 C.aN (λ_ _ h=>h) (λx hx ⟨s,h⟩=>?_);rcases R6.aW s x h with h|h
  ·exact h
  ·have h3:w.heap.size<=x:=h;omega
 refine⟨v2,yZ (q 0),rfl,⟨λb j=>L.gG b (.inl j),λs t b Y ht=>(FT Y).1.trans (FT ht).1.symm,λs b Y h=>C.mem.nm 0 b (FT Y).2 (.inl h),λs Y=>?_,λs cs Y=>?_,L.iU.to cF.cS cF.same⟩,hr2.l9 cF (λs Y=>(hrn s Y).elim),acy k9 hd9 (aeh _) hws,λs b Y=>.inl ⟨0,by rw[<-g7];exact(FT Y).2⟩,λs Y=>?_⟩
 ·refine abv λe=>?_
  subst e;simp[bJ]at Y
 ·have e:s=0/\cs=cs0:=by
   simp only[bJ]at Y;split at Y
   ·rename_i e;injection Y with Y;exact⟨e,Y.symm⟩
   ·cases Y
  obtain⟨rfl,rfl⟩:=e;rcases L.fe 0 cs h90 with⟨b,t,vs,sp,hg,j,hc⟩|⟨hg,hc⟩|⟨b,en,clk,hg,j,hc⟩
  ·exact .inl ⟨b,t,vs,sp,by rw[PO];exact hg,j,hc.l9 cF (λs Y=>(hcn s Y).elim)⟩
  ·exact .inr (.inl ⟨by rw[PO];exact hg,hc⟩)
  ·exact(hnm7 _ hc).elim
 ·by_cases e:s=0
  ·rw[e,PO];exact g7
  ·rw[abv e,hm.fW s];simp[bJ,e]
end
def ajV(w:World)(e:TypeId)(b c m f:Nat)(h spare d:av)(k:Value)(i:World):Prop:=
 (k=.slice (some ⟨b,0,none⟩) (c+m) f/\c+m<=f/\((m=0/\i=w)\/(∃j t0,(some ⟨b,0,none⟩:Option Addr)=some ⟨j,0,none⟩/\w.heap[j]?=some (.cells (h++spare).toArray t0 (0,0))/\d.length<=spare.length/\i=w.setRow j ((h++d)++spare.drop d.length).toArray)))\/
 (∃a rest,k=.slice (some ⟨w.heap.size,0,none⟩) (c+m) a/\c+m<=a/\a<=maxLen/\a*1<=((h++d)++rest).length/\i=w.drew.alloc (.cells ((h++d)++rest).toArray e))
def eX.Xv{aS:aq}(x:ax)(d s l:Nat)(e:TypeId)(E:o.dst=some d)(y news:List V)(m:Nat)(hx:U.ev x=.e (.c (.ty s e (.inr l))))(Y:U.heap s=some y)(hcs:y.length=l)
 (hcn:∀v∈y,¬v.bK s)(hnn:∀v∈news,¬v.bK s)(hst:¬aS s)(hd:d<n)
 (run:∀{C:dY}{X:G}{a:Act}{w:World},dz C X U a w->∀(b f:Nat)(z spare:av),a.eval x=.slice (some ⟨b,0,none⟩) l f->w.heap[b]?=some (.cells (z++spare).toArray e (0,0))->f*1<=(z++spare).length->l<=f->f<=maxLen->z.length=l*1->
   ∃H,bR w C.M X news H/\H.length=m*1/\∃A w',(execOp a.eval o).run P w=.ok (.value A) w'/\ajV w e b l m f z spare H A w'):
 eX P n aS o U ⟨iX (λi=>(U.aT i).b_ s) d (.e (.c (.ty s e (.inr (l+m))))),cX (λu=>(U.heap u).map (List.map (V.b_ s))) s (some (y++news))⟩:=by
 intro C hn L a w ⟨X,R⟩ K Q hK;have h1:=R.ev x;rw[hx]at h1;obtain⟨b,cells,hg,hbb,f,hvx,hlc,M,p⟩:=h1;have hdd:jy C.nt o.dst:=by rw[E,hn];intro j hj;injection hj with hj;omega
 have k:=R.b_ s;have hkk:(∀i,¬((U.b_ s).aT i).bK s)/\∀u y,u≠s->(U.b_ s).heap u=some y->∀v∈y,¬v.bK s:=by refine⟨λi=>T.tA _ s,λu y _ hu v hv=>?_⟩;simp only[St.b_,gM]at hu;obtain⟨cs0,_,rfl⟩:=hu;simp only[cj]at hv;obtain⟨v0,_,rfl⟩:=hv;exact v0.tA s
 have hcns:∀v∈y++news,¬v.bK s:=by
  intro v hv;rcases dd.1 hv with h|h
  ·exact hcn v h
  ·exact hnn v h
 have me:∀(B:G)(A:Value)(w':World),dz C B ⟨(U.b_ s).aT,cX (U.b_ s).heap s (some (y++news))⟩ a w'->b6 w' C.M B (.e (.c (.ty s e (.inr (l+m))))) A->K (a.put o.dst A) w':=by intro B A w' R' hr;refine hK _ _ ⟨B,?_⟩;have:=R'.Bu o.dst hdd A _ hr;rw[E]at this⊢;exact this
 obtain⟨t0,z,spare,q,D⟩:=R.IH Y hg hbb;have r:=q;rw[hbb]at r;injection r with r;injection r with r hb2;subst r;subst hb2
 have hl0:=D.1;obtain⟨H,N,hul,A,w',hrun,hres⟩:=run R b f z spare hvx q (an p) hlc M O;refine my (v:=A) (w':=w') hrun ?_;rcases hres with⟨rfl,hle,⟨rfl,hw0⟩|⟨b1,t1,hA,r,hsl,rfl⟩⟩|⟨cap',rest,rfl,h1,h2,h3,rfl⟩
 ·have Z:H=[]:=fc (an hul);have hnw:news=[]:=fc (by rw[N.1,Z];rfl);subst Z;subst hnw;rw[hw0];refine me X _ _ ?_ ⟨b,_,hg,q,f,ai,by simpa using hlc,M,by simpa using p⟩;have:=k.zB (s:=s) (cs':=y++[]) (vs':=z) (spare:=spare) hg q ai (an D) (by simp[St.b_,Y]);rwa [setRow_self w b _ _ _ q]at this
 ·injection hA with hA;injection hA with hA;subst hA
  refine me X _ _ (k.zB (s:=s) (cs':=y++news) (vs':=z++H) (spare:=spare.drop H.length) hg q (by simp;omega) (D.append N) (by simp[St.b_,Y])) ?_;refine⟨b,_,hg,setRow_heap w b _ _ _ _ q,f,rfl,hle,M,?_⟩;simp at p⊢;omega
 ·have R':=k.adC (s:=s) (t:=e) (spare:=rest) w.drew (.inr rfl) (D.append N) hcns (by rw[L];exact hst) hkk;exact me _ _ _ R' ⟨w.heap.size,((z++H)++rest).toArray,by simp[ej],oB w.drew _,cap',rfl,h1,h2,by simpa using h3⟩
def eX.aom{P:ay}{aS:aq}{σ:St}(x y:ax)(t L:TypeId)(z:rB P L=true)(s:aA)(ho:o.op=.call { callee:=.builtin .append,args:=#[x,y],argTypes:=#[t,L]})
 (news:List V)(m:Nat)(b:news=s9 s)(M:m=s.size)(hx:σ.ev x=.e (.c (.d (.sc (.slice none 0 0)))))(U:σ.ev y=.e (.c (.d (.sc (.string s)))))(hm0:m≠0)
 (e:TypeId)(bytes:Nat)(N:List V)(ht:jF P t=some e)(hk:fb P e=some 1)(hb:oc P e=some bytes)(X:jZ P e=some N)(B:N.length=1)
 (i:m*bytes<=140737488355328)(T:m<=140737488355328)(c:Nat)(hc:σ.heap c=none)(D:¬aS c)(hd:jy n o.dst):
 eX P n aS o σ ⟨(σ.put o.dst (.e (.c (.ty c e (.inr m))))).aT,cX σ.heap c (some news)⟩:=by
 intro C hn f a w ⟨γ,R⟩ K Q hK;have u:=R.ev x;rw[hx]at u;have E:a.eval x=.slice none 0 0:=gK u;obtain⟨us,j,G,l,H⟩:=aij (k:=1) (news:=news) (m:=m) rfl b M U (R.ev y);have h:m<=maxLen:=by simp only[maxLen];omega
 obtain⟨Z,w',p,q⟩:=Xw (P:=P) (w:=w) o.type ht hk hb X B z s rfl M j (A:=none) (len:=0) (cap:=0) (vs:=[]) (spare:=[]) (m:=m) (us:=us)
  (.inr ⟨rfl,rfl⟩) (bu _) (dD _) ai H l.xE (an i) (an h)
 refine my (v:=Z) (w':=w') (aaM ho (by rw[E,G];exact p)) ?_;rcases q with⟨_,hle,_⟩|⟨r,rest,rfl,u,h2,h3,rfl⟩
 ·omega
 ·refine hK _ _ (R.adT (by rw[hn];exact hd) hc (by rw[f];exact D) (acw _ _) (bu _) (t:=e) (vs:=us) (spare:=rest) ?_ l ?_)
  ·have:=oB w.drew (.cells (([]++us)++rest).toArray e);simpa using this
  ·exact⟨w.heap.size,((([]:av)++us)++rest).toArray,by simp[ej],oB w.drew _,r,ai,by simpa using u,h2,by simpa using h3⟩
def eX.aon{P:ay}{aS:aq}{σ:St}(x y:ax)(t u0:TypeId)(H:rB P u0=true)(G:aA)(ho:o.op=.call { callee:=.builtin .append,args:=#[x,y],argTypes:=#[t,u0]})
 (d s len:Nat)(l:o.dst=some d)(p news:List V)(m:Nat)(f:news=s9 G)(hm:m=G.size)(e:TypeId)(hx:σ.ev x=.e (.c (.ty s e (.inr len))))(Y:σ.heap s=some p)(K:p.length=len)(hy:σ.ev y=.e (.c (.d (.sc (.string G)))))
 (bytes:Nat)(zs:List V)(ht:jF P t=some e)(hk:fb P e=some 1)(hb:oc P e=some bytes)(hz:jZ P e=some zs)(L:zs.length=1)
 (M:∀v∈p,¬v.bK s)(q:(len+m)*bytes<=140737488355328)(hmax:len+m<=140737488355328)(N:¬aS s)(hd:d<n):
 eX P n aS o σ ⟨iX (λi=>(σ.aT i).b_ s) d (.e (.c (.ty s e (.inr (len+m))))),cX (λu=>(σ.heap u).map (List.map (V.b_ s))) s (some (p++news))⟩:=by
 refine .Xv x d s len e l p news m hx Y K M (λv hv=>?_) N hd λ{C γ a w} R b cap vs spare Q hb0 j T U X=>?_
 ·subst f;simp only[s9,cj]at hv;obtain⟨_,_,rfl⟩:=hv;exact λh=>h
 ·obtain⟨us,r,Z,z,B⟩:=aij (k:=1) (news:=news) (m:=m) rfl f hm hy (R.ev y)
  obtain⟨v',w',D,E⟩:=Xw (P:=P) (w:=w) o.type ht hk hb hz L H G rfl hm r (A:=some ⟨b,0,none⟩) (len:=len) (cap:=cap) (vs:=vs) (spare:=spare) (m:=m) (us:=us)
   (.inl ⟨b,e,rfl,hb0,j⟩) T U X B z.xE q (by simp only[maxLen];omega)
  exact⟨us,z,B,v',w',aaM ho (by rw[Q,Z];exact D),E⟩
def eX.aol{P:ay}{aS:aq}{σ:St}(x y:ax)(t:TypeId)(ho:o.op=.call { callee:=.builtin .append,args:=#[x,y],argTypes:=#[t,t]})
 (d s len:Nat)(h:o.dst=some d)(j news:List V)(m:Nat)(e:TypeId)(hx:σ.ev x=.e (.c (.ty s e (.inr len))))(Y:σ.heap s=some j)(D:j.length=len)(hy:mS 1 σ.heap (σ.ev y)=some (news,m))
 (bytes:Nat)(X:List V)(ht:jF P t=some e)(hk:fb P e=some 1)(hb:oc P e=some bytes)(hz:jZ P e=some X)(E:X.length=1)
 (G:∀v∈j,¬v.bK s)(H:∀v∈news,¬v.bK s)(k:(len+m)*bytes<=140737488355328)(Z:len+m<=140737488355328)(K:¬aS s)(hd:d<n):
 eX P n aS o σ ⟨iX (λi=>(σ.aT i).b_ s) d (.e (.c (.ty s e (.inr (len+m))))),cX (λu=>(σ.heap u).map (List.map (V.b_ s))) s (some (j++news))⟩:=by
 refine .Xv x d s len e h j news m hx Y D G H K hd λ{C γ a w} R b cap vs spare L M f N Q T=>?_
 obtain⟨B,c,us,U,l,p,q⟩:=Mb R.mem hy (R.ev y)
 obtain⟨v',w',r,z⟩:=ER (P:=P) (w:=w) o.type ht hk hb hz E (A:=some ⟨b,0,none⟩) (len:=len) (cap:=cap) (vs:=vs) (spare:=spare) (m:=m) (us:=us) (B:=B) (c:=c)
  (.inl ⟨b,e,rfl,M,f⟩) N Q T p q l.xE k (by simp only[maxLen];omega)
 exact⟨us,l,p,v',w',FI ho (by rw[L,U];exact r),z⟩
def Hz(P:ay)(t u a:TypeId)(m:Nat):Prop:=
 ∃j,P.info? a=some j/\((P.underlying t=some (.pointer a)/\P.underlying u=some .unsafePointer/\j.size≠0/\0<m)\/
  (P.underlying t=some .unsafePointer/\P.underlying u=some (.pointer a)/\liesAt P P.depth a (m/P.cellsOf a) 0 a 1=true))
def aB3{P:ay}{p:Operand->T}(t u:TypeId)(x:ax)(k:o.op=.convert t u x)(s:Nat)(i:TypeId)(m:Nat)(z:p x=.e (.c (.ty s i (.inl m))))(A:Hz P t u i m):iu P o p (.e (.c (.ty s i (.inl m)))):=
 kJ λM D H w a _ h=>by
  have d:=h x (by simp[k,Op.operands]);rw[z]at d;obtain⟨b,cells,B,q,r,v⟩:=d;have f:w.shape? b=some (i,m):=by simp[World.shape?,q,v]
  refine⟨.pointer (some ⟨b,0,none⟩),?_,b,cells,B,q,rfl,v⟩;obtain⟨j,y,⟨d,l,n,C⟩|⟨d,l,n⟩⟩:=A
  ·have:=Lib.run_to_unsafe (P:=P) (w:=w) ⟨b,0,none⟩ d l y n f C;simp[execOp,k,r,this]
  ·have:=Lib.run_from_unsafe (P:=P) (w:=w) ⟨b,0,none⟩ d l y f n;simp[execOp,k,r,this]
def M2(P:ay)(Z:FuncId):Prop:=∃a,P.funcs[Z]?=some a/\(a.name== "runtime.NumGoroutine")=false/\a.body.isNone=true/\Extern.findNext a=none/\Extern.find a=some Extern.AbiNoEscape.same
def aB4{P:ay}{c:Operand->T}(b:FuncId)(x:ax)(f:Array TypeId)(d:o.op=.call { callee:=.value (.func b),args:=#[x],argTypes:=f})(i:M2 P b):iu P o c (c x):=
 kJ λM p H w a _ h=>by obtain⟨q,j,k,l,m,n⟩:=i;refine⟨a.eval x,?_,h x (by simp[d,Op.operands,Call.operands])⟩;have e:=run_callFunc_extern (P:=P) j k l m n #[a.eval x] w;rw[Lib.run_noEscape]at e;simp[execOp,d,resolve,Act.eval,Deferred.ofValue,invoke]at e⊢;rw[e]
def NA(P:ay)(t:TypeId):Prop:=∃a j,Hf P t=some a/\P.info? a=some j
def an2{ev:Operand->T}(t:TypeId)(l:o.op=.alloc t)(d:Nat)(f:List V)(m:jZ P t=some f):
 t_ P o ev d f (.e (.c (.ty d t (.inl f.length)))):=by
 intro M q H w a r h K Q n;obtain⟨k,i,rfl,p⟩:=DV m;obtain⟨z,j,b⟩:=Hi i w;refine my (v:=.pointer (some ⟨w.heap.size,0,none⟩)) (w':=w.alloc (.cells z.cells t)) ?_ ?_
 ·simp[execOp,l,Instr.alloc,j,newVar,newRow]
 ·refine n _ _ w.heap.size t k [] (qY _ _) (bu _) ?_ (Ht k p) ⟨w.heap.size,z.cells,by simp[ej],oB _ _,rfl,?_⟩
  ·rw[oB,<-b];simp
  ·rw[<-BL,b];simp
def uF(l:Nat):Option (List V)->V
 |none=>.d (.sc (.slice none 0 0))
 |some a=>.sub l 4 0 (a.length/4)
def yb(F:Nat->Option (List V))(N:Nat):List V:=(List.range N).map λm=>uF (1000+m) (F m)
def VH(Hb:eh)(F:Nat->Option (List V))(N:Nat):eh:=λu=>if u=3 then some (yb F N)else if 1000<=u then(if u-1000<N then F (u-1000)else none)else Hb u
def ri(Hb:eh)(a:av)(k l:Nat)(o:Option (List V)):eh:=λu=>if u=3 then some ((a.map λx=>V.d (.sc x)).set k (uF l o))else if u=l then o else Hb u
def My{F:Nat->Option (List V)}{N:Nat}(h:s<N):(yb F N)[s]?=some (uF (1000+s) (F s)):=by unfold yb;rw[dU,qB h];rfl
def Hk(F:Nat->Option (List V))(N:Nat):(yb F N).length=N:=by unfold yb;simp
def aGU(F:Nat->Option (List V))(N:Nat)(b:List (Value×Value)):yb F N≠[.dV b]:=by
 intro h;have a:N=1:=by have:=aY List.length h;rw[Hk]at this;exact this
 subst a;have:=aY (·[0]?) h;simp only[My (F:=F) (show 0<1 by omega),jH,cY]at this;cases hf:F 0<;>rw[hf]at this<;>cases this
structure amU(M:aq)(γ:G)(F:Nat->Option (List V))(N:Nat)(w:World)(vs:av):Prop where
 len:vs.length=N
 bW:∀m v,vs[m]?=some v->dO w M γ (uF (1000+m) (F m)) v
def aGV{C:dY}{aT:Nat->T}{Hb:eh}{F:Nat->Option (List V)}{N:Nat}(R:dz C Z ⟨aT,VH Hb F N⟩ a w)(r:0<N):
 ∃(b:Nat)(t:TypeId)(vs d:av),Z 3=some (some b)/\w.heap[b]?=some (.cells (vs++d).toArray t (0,0))/\amU C.M Z F N w vs:=by
 have i:VH Hb F N 3=some (yb F N):=by simp[VH]
 rcases R.mem.fe 3 _ i with⟨b,t,vs,d,j,l,f⟩|⟨_,e⟩|⟨b,s,o,_,_,e⟩
 ·have p:vs.length=N:=by rw[<-f.1,Hk]
  refine⟨b,t,vs,d,j,l,p,λm v h=>?_⟩;have q:m<N:=by have:=(dM.1 h).1;omega
  exact f.2 m _ v (My q) h
 ·have:=aY List.length e;rw[Hk]at this;simp at this;omega
 ·exact absurd e (aGU F N _)
section
variable {P:ay}{n:Nat}{c:Code}{aT env':Nat→T}{Hb:eh}{F:Nat→Option (List V)}{N k l':Nat}{o':Option (List V)}
def WP.focus(hN:0<N)(hk:k<N\/F k=none/\o'=none)(hbs:∀u,3<=u->Hb u=none)(hbn:∀u cs,Hb u=some cs->∀x∈cs,∀s,x.bK s->s<3)(hbm:∀u cs es,Hb u=some cs->cs≠[.dV es])(hF:∀m cs,F m=some cs->(∀x∈cs,∀s,¬x.bK s)/\∀es,cs≠[.dV es])
 (he:∀i s,(aT i).bK s->s<4)(he':∀i s,(env' i).bK s->s<4)(hl:4<=l')(ho:o'=none->F k=none)(hcs:∀cs,o'=some cs->(∀x∈cs,∀s,¬x.bK s)/\∀es,cs≠[.dV es])
 (h:∀Q:List Value,Q.length=N->WP P n (·∈[]) c ⟨aT,ri Hb Q k 4 (F k)⟩ (iy λs=>s=⟨env',ri Hb Q k l' o'⟩)):
 WP P n (·∈[]) c ⟨aT,VH Hb F N⟩ (iy λs=>s=⟨env',VH Hb (λm=>if m=k then o' else F m) N⟩):=by
 intro C hn Y a w ⟨v,R⟩;obtain⟨b3,t3,Q,sp3,hg3,hb3,hv⟩:=aGV R hN;have hHb:∀u,u<3->VH Hb F N u=Hb u:=λu f=>by unfold VH;rw[g O,g O]
 have hHh:∀m,m<N->VH Hb F N (1000+m)=F m:=λm K=>by unfold VH;rw[g O,aK O,show 1000+m-1000=m by omega,aK K]
 have hHn:∀u,VH Hb F N u≠none->u<4\/∃m,m<N/\u=1000+m/\F m≠none:=λu f=>by
  unfold VH at f;by_cases U:u=3
  ·exact .inl O
  ·rw[g U]at f;by_cases h1:1000<=u
   ·rw[aK h1]at f;by_cases D:u-1000<N
    ·rw[aK D]at f;exact .inr ⟨u-1000,D,O,f⟩
    ·rw[g D]at f;exact absurd rfl f
   ·rw[g h1]at f;by_cases B:3<=u
    ·exact absurd (hbs u B) f
    ·exact .inl O
 let HB:Nat->Prop:=λb=>∃m,m<N/\m≠k/\v (1000+m)=some (some b)
 let M':Nat->Prop:=λb=>C.M b\/HB b
 let j:G:=λu=>if u<4 then v u else if u=4 then((F k).elim none λ_=>v (1000+k))else none
 have gsd:∀u,j u=if u<4 then v u else if u=4 then((F k).elim none λ_=>v (1000+k))else none:=λ_=>rfl
 have gs:∀u,u<4->j u=v u:=λu f=>by rw[gsd,aK f]
 have gs4:F k≠none->j 4=v (1000+k):=λhf=>by
  rw[gsd,g O,aK rfl];cases hF2:F k with
  |none=>exact absurd hF2 hf
  |some cs=>rfl
 have gsi:∀u b,j u=some b->(u<4/\v u=some b)\/(u=4/\v (1000+k)=some b):=λu b f=>by
  rw[gsd]at f;split at f
  ·rename_i B;exact .inl ⟨B,f⟩
  ·split at f
   ·rename_i H;cases hF2:F k with
    |none=>rw[hF2]at f;cases f
    |some cs=>rw[hF2]at f;exact .inr ⟨H,f⟩
   ·cases f
 have L:∀u b,j u=some (some b)->∃Z,v Z=some (some b)/\(u<4/\Z=u\/u=4/\Z=1000+k):=λu b f=>by
  rcases gsi u _ f with⟨B,H⟩|⟨B,H⟩
  ·exact⟨u,H,.inl ⟨B,rfl⟩⟩
  ·exact⟨1000+k,H,.inr ⟨B,rfl⟩⟩
 have st1:∀b,cS w C.M v b->cS w M' j b:=λb A=>⟨A.1,λhM=>by
  rcases hM with hM|⟨m,_,_,K⟩
  ·exact A.2.1 hM
  ·exact A.2.2 _ K,λu f=>by obtain⟨Z,h1,_⟩:=L u b f;exact A.2.2 Z h1⟩
 have ms:Mem M' j (ri Hb Q k 4 (F k)) w:=by
  refine⟨λb A=>?_,λu u2 b h1 D=>?_,λu b h1 hM=>?_,λu f=>?_,λu cs f=>?_,R.mem.iU.to st1 (λ_ _=>rfl)⟩
  ·rcases A with A|⟨m,_,_,K⟩
   ·exact R.mem.gG b A
   ·exact R.mem.lt K
  ·obtain⟨x,q,e2⟩:=L u b h1;obtain⟨y,e3,X⟩:=L u2 b D;have:=R.mem.inj x y b q e3;omega
  ·obtain⟨x,q,e2⟩:=L u b h1;rcases hM with hM|⟨m,hm1,hm2,K⟩
   ·exact R.mem.nm x b q hM
   ·have:=R.mem.inj x _ b q K;omega
  ·unfold ri at f;split at f
   ·cases f
   ·rename_i U;split at f
    ·rename_i B;subst B;rw[gsd,g O,aK rfl,f];rfl
    ·rename_i B;by_cases H:u<3
     ·rw[gs u O];exact R.mem.fW u ((hHb u H).trans f)
     ·rw[gsd,g O,g B]
  ·unfold ri at f;split at f
   ·rename_i U;subst U;injection f with f
    subst f;refine .inl ⟨b3,t3,Q,sp3,by rw[gs 3 O];exact hg3,hb3,ai,λi x u p f=>?_⟩;rw[Ek]at p;split at p
    ·rename_i hi;subst hi;split at p
     ·injection p with p;subst p
      have h1:=hv.bW k u f;cases hf:F k with
      |none=>rw[hf]at h1;rw[gK (show b6 w C.M v (.e (.c (.d (.sc (.slice none 0 0))))) u from h1)];exact dE.sc _ rfl
      |some cs=>
       rw[hf]at h1;have X:=gs4 (by rw[hf];simp);rcases h1 with⟨b,cap,cells,t,o,l⟩|⟨o,l⟩|⟨b,off,o,l⟩
       ·exact .inl ⟨b,cap,cells,t,X.trans o,l⟩
       ·exact .inr (.inl ⟨X.trans o,l⟩)
       ·exact .inr (.inr ⟨b,off,X.trans o,l⟩)
     ·cases p
    ·rw[dU,f]at p;injection p with p;subst p
     exact dE.sc _ (hv.bW i u f).one
   ·rename_i U;split at f
    ·rename_i B;subst B;have X:=gs4 (by rw[f];simp);rcases R.mem.fe (1000+k) cs ((hHh k (by rcases hk with hk|⟨h1,_⟩;exact hk;rw[f]at h1;cases h1)).trans f)with⟨b,t,us,sp,o,l,g3⟩|⟨o,l⟩|⟨b,en,clk,_,_,g3⟩
     ·exact .inl ⟨b,t,us,sp,X.trans o,l,bR.shift g3 st1 λs ⟨x,p,hn⟩=>((hF k cs f).1 x p s hn).elim⟩
     ·exact .inr (.inl ⟨X.trans o,l⟩)
     ·exact absurd g3 ((hF k cs f).2 _)
    ·rename_i B;have H:u<3:=by
      by_cases H:u<3
      ·exact H
      ·rw[hbs u O]at f;cases f
     rcases R.mem.fe u cs ((hHb u H).trans f)with⟨b,t,us,sp,o,l,g3⟩|⟨o,l⟩|⟨b,en,clk,_,_,g3⟩
     ·exact .inl ⟨b,t,us,sp,(gs u O).trans o,l,bR.shift g3 st1 λs ⟨x,p,hn⟩=>gs s (by have:=hbn u cs f x p s hn;omega)⟩
     ·exact .inr (.inl ⟨(gs u O).trans o,l⟩)
     ·exact absurd g3 (hbm u cs _ f)
 have R':dz (dY.jc M' j w (·∈[]) C.nt) j ⟨aT,ri Hb Q k 4 (F k)⟩ a w:=by have:=dz.jc (a:=a) ms (λi=>b6.shift (R.aT i) st1 λs Y=>gs s (he i s Y)) R.defers (·∈[]);rw[R.size]at this;exact this
 have hw:=h Q hv.len;refine pO hw (C:=dY.jc M' j w (·∈[]) C.nt) hn rfl ⟨j,R'⟩ ?_;rintro a' w' σ' ⟨r,M⟩ rfl;refine⟨⟨env',VH Hb (λm=>if m=k then o' else F m) N⟩,?_,rfl⟩;have hid:∀m b,m<N->m≠k->v (1000+m)=some (some b)->w'.heap[b]?=w.heap[b]? :=λm b h1 D U=>M.aN.same b (R.mem.lt U) (λ⟨u,f⟩=>by have f:j u=some (some b):=f;obtain⟨x,q,e2⟩:=L u b f;have:=R.mem.inj x _ b q U;omega)
 have hidM:∀m b u,m<N->m≠k->v (1000+m)=some (some b)->r u≠some (some b):=λm b u h1 D U B=>M.mem.nm u b B (.inr ⟨m,h1,D,U⟩)
 let E:G:=λu=>if u<4 then r u else if 1000<=u then(if u=1000+k then(o'.elim (v u) λ_=>r l')else v u)else none
 have gbd:∀u,E u=if u<4 then r u else if 1000<=u then(if u=1000+k then(o'.elim (v u) λ_=>r l')else v u)else none:=λ_=>rfl
 have gb:∀u,u<4->E u=r u:=λu f=>by rw[gbd,aK f]
 have gbh:∀m,m≠k->E (1000+m)=v (1000+m):=λm K=>by rw[gbd,g O,aK O,g O]
 have gbk:∀cs,o'=some cs->E (1000+k)=r l':=λcs hc=>by rw[gbd,g O,aK O,aK rfl,hc];rfl
 have hfk:o'=none->v (1000+k)=none:=λhc=>R.mem.fW _ (by
  by_cases hkn:k<N
  ·exact(hHh k hkn).trans (ho hc)
  ·show VH Hb F N (1000+k)=none;unfold VH;rw[g O,aK O,g O])
 have gbk0:o'=none->E (1000+k)=none:=λhc=>by rw[gbd,g O,aK O,aK rfl,hc];exact hfk hc
 have gbo:∀u b,E u=some (some b)->(∃Z,r Z=some (some b)/\(u<4/\Z=u\/u=1000+k/\Z=l'))\/∃m,m<N/\m≠k/\u=1000+m/\v u=some (some b):=λu b f=>by
  by_cases B:u<4
  ·rw[gb u B]at f;exact .inl ⟨u,f,.inl ⟨B,rfl⟩⟩
  ·by_cases H:1000<=u
   ·by_cases T:u=1000+k
    ·subst T;cases hc:o' with
     |none=>rw[gbk0 hc]at f;cases f
     |some cs=>rw[gbk cs hc]at f;exact .inl ⟨l',f,.inr ⟨rfl,rfl⟩⟩
    ·obtain⟨m,rfl⟩:∃m,u=1000+m:=⟨u-1000,O⟩;rw[gbh m O]at f;have hne:VH Hb F N (1000+m)≠none:=λe=>by rw[R.mem.fW _ e]at f;cases f
     rcases hHn _ hne with h7|⟨m',h7,h8,_⟩
     ·omega
     ·exact .inr ⟨m,O,O,rfl,f⟩
   ·rw[gbd,g B,g H]at f;cases f
 have st2:∀b,cS w' M' r b->cS w' C.M E b:=λb A=>⟨A.1,λhM=>A.2.1 (.inl hM),λu f=>by
  rcases gbo u b f with⟨Z,h1,_⟩|⟨m,h1,D,rfl,U⟩
  ·exact A.2.2 Z h1
  ·exact A.2.1 (.inr ⟨m,h1,D,U⟩)⟩
 have hkeep:fL C.mG C.w0 w':=R.aN.trans M.aN (λ_ _ h=>h) λx p ⟨u,f⟩=>by
  have f:j u=some (some x):=f;obtain⟨y,q,_⟩:=L u x f;rcases R.aW y x q with h1|h1
  ·exact h1
  ·omega
 have hown:∀u b,r u=some (some b)->(∃y,v y=some (some b))\/w.heap.size<=b:=λu b f=>by
  rcases M.aW u b f with⟨y,hy⟩|h1
  ·have hy:j y=some (some b):=hy;obtain⟨z,q,_⟩:=L y b hy;exact .inl ⟨z,q⟩
  ·exact .inr h1
 have hcar:la C.M v E w w':=⟨M.aN.size,λb A=>M.aN.same b A.1 (λ⟨u,f⟩=>by
  have f:j u=some (some b):=f;obtain⟨y,q,_⟩:=L u b f;exact A.2.2 y q),λb A u f=>by
  rcases gbo u b f with⟨Z,h1,_⟩|⟨m,_,_,rfl,h1⟩
  ·rcases hown Z b h1 with⟨y,D⟩|D
   ·exact A.2.2 y D
   ·have:=A.1;omega
  ·exact A.2.2 _ h1,M.aN.iK⟩
 have hF':∀u,u<3->ri Hb Q k l' o' u=Hb u:=λu f=>by unfold ri;rw[g O,g O]
 refine⟨E,⟨λb A=>l5 (R.mem.gG b A) M.aN.size,λu u2 b h1 D=>?_,λu b h1 hM=>?_,λu f=>?_,λu cs f=>?_,R.mem.iU.dI hcar⟩,λi=>b6.shift (M.aT i) st2 λs Y=>gb s (he' i s Y),hkeep,λu b f=>?_,λu f=>?_,M.defers,M.size⟩
 ·rcases gbo u b h1 with⟨x,q,e2⟩|⟨m,m1,m2,rfl,q⟩<;>rcases gbo u2 b D with⟨y,e3,X⟩|⟨m',m3,m4,rfl,e3⟩
  ·have:=M.mem.inj x y b q e3;omega
  ·exact absurd q (hidM m' b x m3 m4 e3)
  ·exact absurd e3 (hidM m b y m1 m2 q)
  ·exact R.mem.inj _ _ b q e3
 ·rcases gbo u b h1 with⟨x,q,e2⟩|⟨m,m1,m2,rfl,q⟩
  ·exact M.mem.nm x b q (.inl hM)
  ·exact R.mem.nm _ b q hM
 ·have f:VH Hb (λm=>if m=k then o' else F m) N u=none:=f;unfold VH at f;split at f
  ·cases f
  ·rename_i U;split at f
   ·rename_i h1;obtain⟨m,rfl⟩:∃m,u=1000+m:=⟨u-1000,O⟩;rw[show 1000+m-1000=m by omega]at f;by_cases T:m=k
    ·subst T;by_cases hkn:m<N
     ·rw[aK hkn]at f;simp only[oC]at f;exact gbk0 f
     ·rcases hk with hk|⟨_,hk⟩
      ·exact absurd hk hkn
      ·exact gbk0 hk
    ·rw[gbh m T];refine R.mem.fW _ ?_;show VH Hb F N (1000+m)=none;unfold VH;rw[g O,aK O,show 1000+m-1000=m by omega];split at f
     ·rename_i h7;rw[aK h7];simp only[]at f;rw[g T]at f;exact f
     ·rename_i h7;rw[g h7]
   ·rename_i h1;by_cases H:u<3
    ·rw[gb u O];exact M.mem.fW u ((hF' u H).trans f)
    ·rw[gbd,g O,g h1]
 ·have f:VH Hb (λm=>if m=k then o' else F m) N u=some cs:=f;unfold VH at f;split at f
  ·rename_i U;subst U;injection f with f
   subst f;have hs3:ri Hb Q k l' o' 3=some ((Q.map λx=>V.d (.sc x)).set k (uF l' o')):=by unfold ri;rw[aK rfl]
   have xC:∀es,(Q.map λx=>V.d (.sc x)).set k (uF l' o')≠[.dV es]:=λes e=>by
    have K:V.dV es∈(Q.map λx=>V.d (.sc x)).set k (uF l' o'):=by rw[e];exact bZ ..
    rcases B4 K with h1|h1
    ·obtain⟨_,_,D⟩:=cj.1 h1;cases D
    ·cases o'<;>cases h1
   rcases M.mem.fe 3 _ hs3 with⟨b,t,us,sp,o,l,g3⟩|⟨_,l⟩|⟨b,en,clk,_,_,g3⟩
   ·have hul:us.length=N:=by rw[<-g3.1,oV,dS,hv.len]
    refine .inl ⟨b,t,us,sp,(gb 3 O).trans o,l,by rw[Hk,hul],λm x u p hv'=>?_⟩;have K:m<N:=by have:=(dM.1 hv').1;omega
    rw[My K]at p;injection p with p;subst p
    by_cases T:m=k
    ·subst T;have h7:=g3.2 m (uF l' o') u (by rw[Nj (by simpa[hv.len]using K)]) hv';rw[aK rfl];cases hc:o' with
     |none=>rw[hc]at h7;rw[gK (show b6 w' M' r (.e (.c (.d (.sc (.slice none 0 0))))) u from h7)];exact dE.sc _ rfl
     |some cs=>
      rw[hc]at h7;have X:=gbk cs hc;rcases h7 with⟨b,cap,cells,t,k1,k2⟩|⟨k1,k2⟩|⟨b,off,k1,k2⟩
      ·exact .inl ⟨b,cap,cells,t,X.trans k1,k2⟩
      ·exact .inr (.inl ⟨X.trans k1,k2⟩)
      ·exact .inr (.inr ⟨b,off,X.trans k1,k2⟩)
    ·rw[g T];obtain⟨v0,hv0⟩:∃v0,Q[m]?=some v0:=⟨Q[m]'(by rw[hv.len];exact K),ca _⟩;have h7:=g3.2 m (.d (.sc v0)) u (by rw[Ah (Ne.symm T),dU,hv0];rfl) hv';have h8:u=v0:=gK (show b6 w' M' r (.e (.c (.d (.sc v0)))) u from h7);subst h8;refine(hv.bW m u hv0).dI hcar λs Y=>?_
     cases hf:F m with
     |none=>rw[hf]at Y;cases Y
     |some cs=>rw[hf]at Y;have:1000+m=s:=Y;subst this;exact gbh m T
   ·have:=aY List.length l;rw[oV,dS,hv.len]at this;simp at this;omega
   ·exact absurd g3 (xC _)
  ·rename_i U;split at f
   ·rename_i h1;obtain⟨m,rfl⟩:∃m,u=1000+m:=⟨u-1000,O⟩;rw[show 1000+m-1000=m by omega]at f;split at f
    ·rename_i K;by_cases T:m=k
     ·subst T;simp only[oC]at f;have hs4:ri Hb Q m l' o' l'=some cs:=by unfold ri;rw[g O,aK rfl];exact f
      have X:=gbk cs f;rcases M.mem.fe l' cs hs4 with⟨b,t,us,sp,o,l,g3⟩|⟨o,l⟩|⟨b,en,clk,_,_,g3⟩
      ·exact .inl ⟨b,t,us,sp,X.trans o,l,bR.shift g3 st2 λs ⟨x,p,hn⟩=>((hcs cs f).1 x p s hn).elim⟩
      ·exact .inr (.inl ⟨X.trans o,l⟩)
      ·exact absurd g3 ((hcs cs f).2 _)
     ·simp only[g T]at f;rcases R.mem.fe (1000+m) cs ((hHh m K).trans f)with⟨b,t,us,sp,o,l,g3⟩|⟨o,l⟩|⟨b,en,clk,_,_,g3⟩
      ·exact .inl ⟨b,t,us,sp,(gbh m T).trans o,(hid m b K T o).trans l,bR.dI hcar g3 λs ⟨x,p,hn⟩=>((hF m cs f).1 x p s hn).elim⟩
      ·exact .inr (.inl ⟨(gbh m T).trans o,l⟩)
      ·exact absurd g3 ((hF m cs f).2 _)
    ·cases f
   ·rename_i h1;have H:u<3:=by
     by_cases H:u<3
     ·exact H
     ·rw[hbs u O]at f;cases f
    rcases M.mem.fe u cs ((hF' u H).trans f)with⟨b,t,us,sp,o,l,g3⟩|⟨o,l⟩|⟨b,en,clk,_,_,g3⟩
    ·exact .inl ⟨b,t,us,sp,(gb u O).trans o,l,bR.shift g3 st2 λs ⟨x,p,hn⟩=>gb s (by have:=hbn u cs f x p s hn;omega)⟩
    ·exact .inr (.inl ⟨(gb u O).trans o,l⟩)
    ·exact absurd g3 (hbm u cs _ f)
 ·rcases gbo u b f with⟨x,q,_⟩|⟨m,_,_,rfl,q⟩
  ·rcases hown x b q with⟨y,D⟩|D
   ·exact R.aW y b D
   ·have:=R.aN.size;exact .inr O
  ·exact R.aW _ b q
 ·rw[Y]at f;cases f
end
def V.tu{v:V}(h:¬v.bK s):v.cL s R=v:=by
 cases v with
 |sub t k c j=>simp only[V.cL];exact g λe=>h (by first|exact e|exact e.symm)
 |ptr t c=>simp only[V.cL];exact g λe=>h (by first|exact e|exact e.symm)
 |mp t=>simp only[V.cL];exact g λe=>h (by first|exact e|exact e.symm)
 |ty t a b=>simp only[V.cL];exact g λe=>h (by first|exact e|exact e.symm)
 |cr f i=>simp only[V.cL];rw[g];intro e;rw[uf]at e;obtain⟨p,l,e⟩:=e;exact h ⟨p,l,by simpa using e⟩
 |_=>rfl
theorem Vs.tu{vs:List V}(h:∀v∈vs,¬v.bK s):vs.map (V.cL s R)=vs:=by
 conv=>rhs;rw[<-En vs]
 exact lc λv a=>V.tu (h v a)
theorem E.tu{x:E}(h:¬x.bK s):x.cL s R=x:=by
 cases x with
 |c v=>simp only[E.cL];rw[V.tu h]
 |agg d=>simp only[E.cL];rw[Vs.tu λv a b=>h ⟨v,a,b⟩]
theorem T.tu{x:T}(h:¬x.bK s):x.cL s R=x:=by
 cases x with
 |e x=>simp only[T.cL];rw[E.tu h]
 |cn a=>
  simp only[T.cL];congr 1
  conv=>rhs;rw[<-En a]
  exact lc λv b=>E.tu λc=>h ⟨v,b,c⟩
 |any=>rfl
section
variable {n:Nat}{aS:Nat→Prop}{aT:Nat→T}{Hb:eh}{N:Nat}
def dm.awc(E:∀s,¬aS s)(hbs:∀u,3<=u->Hb u=none)(H:∀u cs,Hb u=some cs->∀x∈cs,∀s,x.bK s->s<3)(he:∀i s,(aT i).bK s->s<4):
 dm n aS ⟨aT,λu=>if u=3 then some (List.replicate N (.d (.sc (.slice none 0 0))))else Hb u⟩ ⟨aT,VH Hb (λ_=>some []) N⟩:=by
 intro C U Y a w ⟨k,R⟩
 let h:G:=λu=>if 1000<=u then(if u-1000<N then some none else none)else k u
 have gd:∀u,h u=if 1000<=u then(if u-1000<N then some none else none)else k u:=λ_=>rfl
 have A:∀u,u<4->h u=k u:=λu f=>by rw[gd,g O]
 have v:∀u b,h u=some (some b)->k u=some (some b):=λu b f=>by
  rw[gd]at f;split at f
  ·split at f<;>cases f
  ·exact f
 have B:∀b,cS w C.M k b->cS w C.M h b:=λb q=>⟨q.1,q.2.1,λu f=>q.2.2 u (v u b f)⟩
 have Z:∀u,u≠3->(λu=>if u=3 then some (List.replicate N (V.d (.sc (.slice none 0 0))))else Hb u) u=Hb u:=λu f=>g f
 refine⟨h,⟨R.mem.gG,λu Q b r h2=>R.mem.inj u Q b (v u b r) (v Q b h2),λu b r=>R.mem.nm u b (v u b r),λu f=>?_,λu cs f=>?_,R.mem.iU.to B (λ_ _=>rfl)⟩,λi=>b6.shift (R.aT i) B λs Y=>A s (he i s Y),R.aN,λu b f=>R.aW u b (v u b f),λu f=>?_,R.defers,R.size⟩
 ·have f:VH Hb (λ_=>some []) N u=none:=f;unfold VH at f;split at f
  ·cases f
  ·rename_i y;split at f
   ·rename_i o;split at f
    ·cases f
    ·rename_i M;rw[gd,aK o,g M]
   ·rename_i o;rw[gd,g o];exact R.mem.fW u ((Z u y).trans f)
 ·have f:VH Hb (λ_=>some []) N u=some cs:=f;unfold VH at f;split at f
  ·rename_i y;subst y;injection f with f
   subst f;rcases R.mem.fe 3 (List.replicate N (V.d (.sc (.slice none 0 0)))) rfl with⟨b,t,P,D,j,q,l⟩|⟨j,l⟩|⟨b,en,z,j,q,l⟩
   ·have hl:P.length=N:=by rw[<-l.1,na]
    refine .inl ⟨b,t,P,D,(A 3 O).trans j,q,by rw[Hk,hl],λm x u p T=>?_⟩;have X:m<N:=by have:=(dM.1 T).1;omega
    rw[My X]at p;injection p with p;subst p
    have h7:=l.2 m (.d (.sc (.slice none 0 0))) u (by rw[wO,aK X]) T;have h8:u=.slice none 0 0:=gK (show b6 w C.M k (.e (.c (.d (.sc (.slice none 0 0))))) u from h7);exact .inr (.inl ⟨by rw[gd,aK O,aK O],rfl,rfl,h8⟩)
   ·refine .inr (.inl ⟨(A 3 O).trans j,?_⟩);have:N=0:=an l;subst this;simp[yb]
   ·have:=aY (·[0]?) l;have r:=aY List.length l;simp only[na,fD,rP]at r;subst r;cases this
  ·rename_i y;split at f
   ·rename_i o;split at f
    ·rename_i M;injection f with f
     subst f;exact .inr (.inl ⟨by rw[gd,aK o,aK M],rfl⟩)
    ·cases f
   ·rename_i o;have j:h u=k u:=by rw[gd,g o]
    rcases R.mem.fe u cs ((Z u y).trans f)with⟨b,t,us,D,L,K,g3⟩|⟨L,K⟩|⟨b,en,z,k1,k2,g3⟩
    ·exact .inl ⟨b,t,us,D,j.trans L,K,bR.shift g3 B λs ⟨x,p,U⟩=>A s (by have:=H u cs f x p s U;omega)⟩
    ·exact .inr (.inl ⟨j.trans L,K⟩)
    ·exact .inr (.inr ⟨b,en,z,j.trans k1,k2,g3⟩)
 ·rw[Y]at f;exact absurd f (E u)
def rY(Hb:eh)(a:Nat->List D)(N j:Nat):eh:=λu=>if u=3 then some ((List.range N).map λm=>if m<j then .d (.sl (aU 4 0 ((a m).length/4) (a m)))else uF (1000+m) (some ((a m).map .d)))else if 1000<=u then(if u-1000<N then(if u-1000<j then none else some ((a (u-1000)).map .d))else none)else Hb u
def amR(a:Nat->List D):rY Hb a N 0=VH Hb (λm=>some ((a m).map .d)) N:=by
 funext u;unfold rY VH yb;split
 ·congr 1
 ·split
  ·split
   ·rw[g O]
   ·rfl
  ·rfl
def amS(b:Nat->List D)(a:∀u,3<=u->Hb u=none):rY Hb b N N=λu=>if u=3 then some ((List.range N).map λm=>.d (.sl (aU 4 0 ((b m).length/4) (b m))))else Hb u:=by
 funext u;unfold rY;split
 ·congr 1;refine lc λm c=>?_
  rw[aK (ol.1 c)]
 ·split
  ·rw[a u O];split
   ·rfl
   ·rfl
  ·rfl
def dm.avv(l:∀s,¬aS s)(o:∀u,3<=u->Hb u=none)(p:∀u c,Hb u=some c->∀x∈c,∀s,x.bK s->s<3)(z:∀i s,(aT i).bK s->s<4)(a:Nat->List D)(A:∀m,(a m).length/4*4<=(a m).length):
 dm n aS ⟨aT,VH Hb (λm=>some ((a m).map .d)) N⟩ ⟨aT,λu=>if u=3 then some ((List.range N).map λm=>.d (.sl (aU 4 0 ((a m).length/4) (a m))))else Hb u⟩:=by
 have f:∀j,j<=N->dm n aS ⟨aT,rY Hb a N 0⟩ ⟨aT,rY Hb a N j⟩:=by
  intro j
  induction j with
  |zero=>intro _;exact λ_ _ _ _ _ h=>h
  |succ j y=>
   intro E;refine(y O).trans ?_;have Y:rY Hb a N j (1000+j)=some ((a j).map .d):=by unfold rY;rw[g O,aK O,show 1000+j-1000=j by omega,aK O,g O]
   have r:=dm.freeze (n:=n) (aS:=aS) (σ:=⟨aT,rY Hb a N j⟩) (1000+j) (a j) Y (l _);have e:(⟨aT,rY Hb a N j⟩:St).cL (1000+j) (a j)=⟨aT,rY Hb a N (j+1)⟩:=by
    unfold St.cL;congr 1
    ·funext i;exact T.tu λb=>by have:=z i _ b;omega
    ·funext u;simp only[];split
     ·rename_i t;subst t;unfold rY;rw[g O,aK O,show 1000+j-1000=j by omega,aK O,aK O]
     ·rename_i t;unfold rY;split
      ·rw[dH,ir];congr 1;refine lc λm C=>?_
       simp only[Function.comp];by_cases w:m<j
       ·rw[aK w,aK O];rfl
       ·rw[g w];by_cases q:m=j
        ·subst q;rw[aK O];simp only[uF,V.cL,dS,oC];rw[aK (by have:=A m;omega)]
        ·rw[g O];exact V.tu λb=>by have b:1000+m=1000+j:=b;omega
      ·split
       ·split
        ·split
         ·rename_i q;rw[aK O];rfl
         ·rename_i q;rw[g O,dH];congr 1;exact Vs.tu λv k b=>by obtain⟨d,_,rfl⟩:=cj.1 k;exact b
        ·rfl
       ·cases B:Hb u with
        |none=>rfl
        |some c=>rw[dH];congr 1;exact Vs.tu λv k b=>by have:=p u c B v k _ b;omega
   rw[e]at r;exact r
 have:=f N (bu _);rw[amR,amS a o]at this;exact this
end
inductive Tr(α:Type)where
 |lf
 |nd (v:Option α) (l r:Tr α)
structure CS where
 aT:Tr T
 heap:List (Nat×List V)
 bV:Nat
 mv:List Nat
 wl:List Nat
section
variable (P:ay)(n:Nat)(ops:aw)(o:Oper)(c:CS)
def V.db:V->List Nat
 |.ptr s _=>[s]
 |.sub s _ _ _=>[s]
 |.cr _ a=>a.map (·.1)
 |.mp s=>[s]
 |.ty s _ _=>[s]
 |_=>[]
def E.db:E->List Nat
 |.c v=>v.db
 |.agg a=>a.flatMap V.db
def T.db:T->List Nat
 |.e x=>x.db
 |.cn a=>a.flatMap E.db
 |.any=>[]
end
section
variable {P:ay}{n:Nat}{ops:aw}{o:Oper}{c c':CS}{f:Ft}
def V.oE{x:V}(h:x.bK s):s∈x.db:=by
 cases x with
 |ptr t o=>cases h;simp[V.db]
 |sub t k o l=>cases h;simp[V.db]
 |cr a b=>obtain⟨p,e,rfl⟩:=h;exact cj.2 ⟨p,e,rfl⟩
 |mp t=>cases h;simp[V.db]
 |ty t _ _=>cases h;simp[V.db]
 |dV i=>cases h
 |d x=>cases h
 |gT j=>cases h
 |any=>cases h
theorem E.oE{x:E}(h:x.bK s):s∈x.db:=by
 cases x with
 |c v=>exact V.oE h
 |agg b=>obtain⟨v,a,h⟩:=h;exact vk.2 ⟨v,a,V.oE h⟩
theorem T.oE{x:T}(h:x.bK s):s∈x.db:=by
 cases x with
 |e v=>exact E.oE h
 |cn b=>obtain⟨v,a,h⟩:=h;exact vk.2 ⟨v,a,E.oE h⟩
 |any=>cases h
end
section
variable {P:ay}{n:Nat}{ops:aw}{o:Oper}{c c':CS}{f:Ft}
def cN.fK{P:ay}{f:FuncId}{d:eh}{args:List E}{aS stay':aq}{r:T}(h:cN P f H args d aS r)(Y:∀u,stay' u->aS u):cN P f H args d stay' r:=by refine⟨h.1,λM i w a j k=>(h.2 M i w a j k).mono λe z l=>?_⟩;obtain⟨v,b,m,p,q,t,x,y⟩:=l;exact⟨v,b,m,p,q,t,x,λs h=>y s (Y s h)⟩
end
def dm.Jb{aS:aq}{cs cs':List V}(Y:U.heap s=some cs)(f:lF cs cs'):dm n aS U ⟨U.aT,cX U.heap s (some cs')⟩:=by
 intro C r m a w ⟨l,R⟩;refine⟨l,⟨R.mem.gG,R.mem.inj,R.mem.nm,λu d=>?_,λu c d=>?_,R.mem.iU⟩,R.aT,R.aN,R.aW,R.aS,R.defers,R.size⟩
 ·simp only[cX]at d;split at d
  ·cases d
  ·exact R.mem.fW u d
 ·simp only[cX]at d;split at d
  ·rename_i e;subst e;injection d with d;subst d
   rcases R.mem.fe u cs Y with⟨b,t,o,p,h,i,j⟩|⟨h,i⟩|⟨b,q,k,h,i,j⟩
   rotate_left 2
   ·exact .inr (.inr ⟨b,q,k,h,i,f.2 _ j⟩)
   ·exact .inl ⟨b,t,o,p,h,i,f.1 _ _ _ _ j⟩
   ·refine .inr (.inl ⟨h,?_⟩);subst i;have:=(f.1 w C.M l [] bR.nil).1;exact fc (an this)
  ·exact R.mem.fe u c d
inductive mF where
 |fC
 |ext (i:Nat)
 |ret
def lI.out(Q:lI):mF->St->Prop
 |.fC=>Q.fC
 |.ext i=>Q.ext i
 |.ret=>Q.ret
def WP.post{aS:aq}{Q Q':lI}(h:WP P n aS c U Q)(q:∀U,Q.fC U->∃b,dm n aS U b/\Q'.fC b)(r:∀i U,Q.ext i U->∃b,dm n aS U b/\Q'.ext i b)(s:∀U,Q.ret U->∃b,dm n aS U b/\Q'.ret b):WP P n aS c U Q':=by
 intro C k Y a w R;refine wp_mono (h C k Y a w R) λe m o ⟨f,p,d⟩=>?_
 cases e with
 |normal=>obtain⟨b,j,d⟩:=q f d;exact⟨b,j C k Y m o p,d⟩
 |exit i=>obtain⟨b,j,d⟩:=r i f d;exact⟨b,j C k Y m o p,d⟩
 |ret=>obtain⟨b,j,d⟩:=s f d;exact⟨b,j C k Y m o p,d⟩
 |goto l=>cases d
 |panic t=>cases d
 |outgrown=>cases d
