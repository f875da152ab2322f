/- A part of the proof of VirtualLinear: Ab21 to Ab24. No condition. -/
import Derived.Test.YtfbmhjooliccnaaGreatDoorYb
set_option linter.all false
set_option maxRecDepth 100000
set_option maxHeartbeats 60000000
noncomputable section
namespace Go.Ab
open Go Go.RowKit
variable {P:ax}{v y:Value}{w:World}{M u:Nat→Prop}{e:TypeId}{R:aq}{s b:Nat}{X A:G}{k:IntKind}{U:Operand→T}{Q:List (Value×Value)}{N:Array MapEntry}{x:T}{o:Oper}{a:Act}{L:St}{K:List E}{H:V}{C:ef}{f:FuncId}{B:List V}
def dN.ah_{x:D}(h:dN w (dc w M X) x v)(I:∀b,dc w M X b->dc w u A b):dN w (dc w u A) x v:=h.mono I λ_ _=>rfl
def dQ.shift(h:dQ w M X H v)(I:∀b,dc w M X b->dc w u A b)(m:∀s,H.bx s->A s=X s):dQ w u A H v:=by
 cases H with
 |d H=>exact dN.ah_ h I
 |ptr s q=>obtain⟨b,l,e⟩:=h;exact⟨b,(m s rfl).trans l,e⟩
 |sub s k q K=>
  rcases h with⟨b,r,cells,t,l,n⟩|⟨n,y⟩|⟨b,o,n,y⟩
  ·exact .inl ⟨b,r,cells,t,(m s rfl).trans l,n⟩
  ·exact .inr (.inl ⟨(m s rfl).trans n,y⟩)
  ·exact .inr (.inr ⟨b,o,(m s rfl).trans n,y⟩)
 |gU ds=>obtain⟨a,e,z,B,L⟩:=h;refine⟨a,e,z,I _ B,λj H N=>?_⟩;obtain⟨g,P,Q⟩:=L j H N;exact⟨g,P,dN.ah_ Q I⟩
 |db f D=>obtain⟨R,e,T,U⟩:=h;refine⟨R,e,T,λi p c E C=>?_⟩;obtain⟨b,l,e'⟩:=U i p c E C;exact⟨b,(m p.1 ⟨p,bM E,rfl⟩).trans l,e'⟩
 |mp s=>obtain⟨b,l,e⟩:=h;exact⟨b,(m s rfl).trans l,e⟩
 |ty s t sl=>obtain⟨b,cells,l,e⟩:=h;exact⟨b,cells,(m s rfl).trans l,e⟩
 |eY es=>cases h
 |any=>exact h
theorem bW.shift{w:World}{M f:ap}{c a:G}{d:List V}{vs:au}(h:bW w M c d vs)(I:∀b,dc w M c b->dc w f a b)(j:∀s,(∃x∈d,x.bx s)->a s=c s):bW w f a d vs:=
 ⟨h.1,λi x u e g=>(h.2 i x u e g).shift I λs h=>j s ⟨x,bM e,h⟩⟩
theorem eK.shift{w:World}{M g:ap}{d a:G}{x:E}{v:Value}(h:eK w M d x v)(I:∀b,dc w M d b->dc w g a b)(f:∀s,x.bx s->a s=d s):eK w g a x v:=by
 cases x with
 |c x=>exact dQ.shift h I f
 |agg k=>obtain⟨i,e,j⟩:=h;exact⟨i,e,j.shift I f⟩
theorem cr.shift{w:World}{M g:ap}{c a:G}{x:T}{v:Value}(h:cr w M c x v)(I:∀b,dc w M c b->dc w g a b)(f:∀s,x.bx s->a s=c s):cr w g a x v:=by
 cases x with
 |e x=>exact eK.shift h I f
 |cE n=>obtain⟨j,e,l,m⟩:=h;exact⟨j,e,l,λi x u d k=>(m i x u d k).shift I λs h=>f s ⟨x,bM d,h⟩⟩
 |any=>trivial
def part(H:fF)(R:aq):fF:=λu=>if u∈R then H u else none
def r6(a:aq)(x:T):T:=if a.any (λs=>x.jD s)then .any else x
def mI(a:aq)(x:V):V:=if a.any (λs=>x.jD s)then .any else x
def acL(a:aq)(es:List (Value×Value)):mI a (.eY es)=.eY es:=by unfold mI;rw[Z (by simp[V.jD])]
def ayr(h:(r6 R x).bx s):s∉R/\x.bx s:=by
 unfold r6 at h;split at h
 ·cases h
 ·rename_i a;refine⟨λI=>a ?_,h⟩;rw[rF];exact⟨s,I,T.mK.2 h⟩
def ayt(h:(mI R H).bx s):s∉R/\H.bx s:=by
 unfold mI at h;split at h
 ·cases h
 ·rename_i a;refine⟨λI=>a ?_,h⟩;rw[rF];exact⟨s,I,V.mK.2 h⟩
def ays{ms:aq}(h:cr w M X x v):cr w M X (r6 ms x) v:=by
 unfold r6;split
 ·trivial
 ·exact h
def ayu(h:dQ w M X H v):dQ w M X (mI R H) v:=by
 unfold mI;split
 ·exact h.one
 ·exact h
def ayq{ms:aq}{vs:au}(h:bW w M X B vs):bW w M X (B.map (mI ms)) vs:=by refine⟨by simp[h.1],λi x u a b=>?_⟩;simp only[eC,gN]at a;obtain⟨y,c,rfl⟩:=a;exact ayu (h.2 i y u c b)
def vw(a:St)(d:Option Nat)(r:T)(R N b:aq)(c:fF):St:=
 ⟨((⟨λi=>r6 b (a.aV i),a.heap⟩:St).put d r).aV,λu=>if u∈R\/u∈N then c u else(a.heap u).map (List.map (mI b))⟩
structure IX(P:ax)(f:FuncId)(H:fF)(R N ms:aq)(args:List E)(H':fF)(r:T):Prop where
 sat:dA P f (part H R) args H' (λu=>u∈R/\u∉ms) r
 args:∀x∈args,∀s,x.bx s->s∈R
 YA:∀u∈R,∀cs,H u=some cs->∀x∈cs,∀s,x.bx s->s∈R
 ic:∀u,H' u≠none->u∈R\/u∈N
 abE:∀u∈N,H u=none
def fc.OV{n:Nat}{aU:ap}{ms N:aq}{H':fF}(h:IX P f L.heap R N ms K H' x)(hms:∀u∈ms,¬aU u)(hN:∀u∈N,¬aU u)(hd:jv n o.dst)
 (hcall:∀(C:ef)(H:G)(a:Act)(w:World),dD C H L a w->∃vals:List Value,(execOp a.eval o).run P w=.ok (.enter f vals.toArray) w/\kS w C.M H K vals):
 fc P n aU o L (vw L o.dst x R N ms H'):=by
 intro C hn hst a w ⟨H,l⟩ c Q hK;obtain⟨vals,hrun,hvals⟩:=hcall C H a w l;obtain⟨_,hsat⟩:=h.sat
 let A:G:=λu=>if u∈R then H u else none
 let M1:Nat->Prop:=λb=>C.M b\/∃u,u∉R/\H u=some (some b)
 have g1:∀u,u∈R->A u=H u:=λu j=>by simp[A,j]
 have m:∀u b,A u=some b->u∈R/\H u=some b:=by
  intro u b j;by_cases q:u∈R
  ·exact⟨q,by rw[<-g1 u q];exact j⟩
  ·simp[A,q]at j
 have st1:∀b,dc w C.M H b->dc w M1 A b:=by
  rintro b ⟨h1,h2,h3⟩;refine⟨h1,?_,λs I=>h3 s (m s _ I).2⟩;rintro(p|⟨u,_,p⟩)
  ·exact h2 p
  ·exact h3 u p
 have mem1:Mem M1 A (part L.heap R) w:=by
  refine⟨?_,λs t b g k=>l.mem.inj s t b (m s _ g).2 (m t _ k).2,?_,?_,?_,l.mem.jO.to st1 (λ_ _=>rfl)⟩
  ·rintro b (p|⟨u,_,p⟩)
   ·exact l.mem.iF b p
   ·exact l.mem.lt p
  ·rintro s b g (p|⟨u,j,p⟩)
   ·exact l.mem.nm s b (m s _ g).2 p
   ·have:=l.mem.inj s u b (m s _ g).2 p;subst this;exact j (m s _ g).1
  ·intro u j;by_cases q:u∈R
   ·rw[g1 u q];exact l.mem.ic u (by simpa[part,q]using j)
   ·simp[A,q]
  ·intro u cs j;by_cases q:u∈R
   ·have hu':L.heap u=some cs:=by simpa[part,q]using j
    rcases l.mem.gR u cs hu' with⟨b,t,vs,sp,g,k,X⟩|⟨g,k⟩|⟨b,en,clk,g,k,X⟩
    ·exact .inl ⟨b,t,vs,sp,(g1 u q).trans g,k,X.shift st1 λs ⟨d,U,I⟩=>g1 s (h.YA u q cs hu' d U s I)⟩
    ·exact .inr (.inl ⟨(g1 u q).trans g,k⟩)
    ·exact .inr (.inr ⟨b,en,clk,(g1 u q).trans g,k,X⟩)
   ·simp[part,q]at j
 have vals1:kS w M1 A K vals:=⟨hvals.1,λi d u U j=>(hvals.2 i d u U j).shift st1 λs I=>g1 s (h.args d (bM U) s I)⟩;unfold Oper.wp;rw[hrun];refine(hsat M1 A w vals mem1 vals1).mono λe w' he=>?_
 obtain⟨v,γ2,rfl,r8,rel2,z,own2,stay2⟩:=he
 let D:G:=λu=>if u∈R\/u∈N then γ2 u else H u
 have M:∀u,(u∈R\/u∈N)->D u=γ2 u:=λu j=>by simp only[D,aM j]
 have V:∀u,¬(u∈R\/u∈N)->D u=H u:=λu j=>by simp only[D,Z j]
 have dom2:∀u,γ2 u≠none->u∈R\/u∈N:=λu j=>h.ic u λhH=>j (r8.ic u hH)
 have dS:∀u b,¬(u∈R\/u∈N)->H u=some (some b)->M1 b:=λu b j p=>.inr ⟨u,λq=>j (.inl q),p⟩
 have nN:∀u∈N,H u=none:=λu j=>l.mem.ic u (h.abE u j)
 have same:∀b,b<w.heap.size->(∀s,A s≠some (some b))->w'.heap[b]?=w.heap[b]? :=λb p I=>z.same b p λ⟨s,e⟩=>I s e
 have st2:∀b,dc w' M1 γ2 b->dc w' C.M D b:=by
  rintro b ⟨h1,h2,h3⟩;refine⟨h1,λp=>h2 (.inl p),λs I=>?_⟩;by_cases B:s∈R\/s∈N
  ·exact h3 s (by rw[<-M s B];exact I)
  ·exact h2 (dS s b B (by rw[<-V s B];exact I))
 have dR:lz C.M H D w w':=by
  refine⟨z.size,λb p=>same b p.1 λs I=>p.2.2 s (m s _ I).2,λb p s I=>?_,z.jb⟩;by_cases B:s∈R\/s∈N
  ·rw[M s B]at I;rcases own2 s b I with⟨t,ht⟩|hge
   ·exact p.2.2 t (m t _ ht).2
   ·have:=p.1;omega
  ·rw[V s B]at I;exact p.2.2 s I
 have named:∀s,s∉ms->H s≠none->D s=H s:=by
  intro s I hne;by_cases q:s∈R
  ·rw[M s (.inl q),stay2 s ⟨q,I⟩,g1 s q]
  ·by_cases hNs:s∈N
   ·exact absurd (nN s hNs) hne
   ·exact V s (by rintro(h|h);exact q h;exact hNs h)
 refine hK _ _ ⟨D,⟨λb p=>mz (l.mem.iF b p) z.size,?_,?_,?_,?_,l.mem.jO.dR dR⟩,λi=>?_,?_,?_,?_,by rw[wx];exact l.defers,by rw[uS];exact l.size⟩
 ·intro s t b g k;by_cases I:s∈R\/s∈N<;>by_cases ht:t∈R\/t∈N
  ·rw[M s I]at g;rw[M t ht]at k;exact r8.inj s t b g k
  ·rw[M s I]at g;rw[V t ht]at k;exact absurd (dS t b ht k) (r8.nm s b g)
  ·rw[V s I]at g;rw[M t ht]at k;exact absurd (dS s b I g) (r8.nm t b k)
  ·rw[V s I]at g;rw[V t ht]at k;exact l.mem.inj s t b g k
 ·intro s b g p;by_cases I:s∈R\/s∈N
  ·rw[M s I]at g;exact r8.nm s b g (.inl p)
  ·rw[V s I]at g;exact l.mem.nm s b g p
 ·intro u j;simp only[vw]at j;by_cases I:u∈R\/u∈N
  ·rw[aM I]at j;rw[M u I];exact r8.ic u j
  ·rw[Z I]at j;rw[V u I];exact l.mem.ic u (an j)
 ·intro u cs j;simp only[vw]at j;by_cases I:u∈R\/u∈N
  ·rw[aM I]at j;rcases r8.gR u cs j with⟨b,t,vs,sp,g,k,X⟩|⟨g,k⟩|⟨b,en,clk,g,k,X⟩
   ·exact .inl ⟨b,t,vs,sp,(M u I).trans g,k,X.shift st2 λd U=>M d (dom2 d (X.named d U))⟩
   ·exact .inr (.inl ⟨(M u I).trans g,k⟩)
   ·exact .inr (.inr ⟨b,en,clk,(M u I).trans g,k,X⟩)
  ·rw[Z I,gN]at j;obtain⟨cs0,j,rfl⟩:=j;rcases l.mem.gR u cs0 j with⟨b,t,vs,sp,g,k,X⟩|⟨g,k⟩|⟨b,en,clk,g,k,X⟩
   rotate_left 2
   ·refine .inr (.inr ⟨b,en,clk,(V u I).trans g,?_,by rw[X];exact bi (· ::[]) (acL ms _)⟩);rw[same b (jy k) λs hs'=>?_]
    ·exact k
    ·have:=l.mem.inj s u b (m s _ hs').2 g;subst this;exact I (.inl (m s _ hs').1)
   ·refine .inl ⟨b,t,vs,sp,(V u I).trans g,?_,(ayq (ms:=ms) X).dR dR λd U=>?_⟩
    ·rw[same b (jy k) λs hs'=>?_]
     ·exact k
     ·have:=l.mem.inj s u b (m s _ hs').2 g;subst this;exact I (.inl (m s _ hs').1)
    ·obtain⟨y,hy,U⟩:=U;rw[b_]at hy;obtain⟨y0,hy0,rfl⟩:=hy;have:=ayt U;exact named d this.1 (X.named d ⟨y0,hy0,this.2⟩)
   ·exact .inr (.inl ⟨(V u I).trans g,by rw[k];rfl⟩)
 ·rw[vS _ _ _ _ (by rw[l.size,hn];exact hd)];show cr _ _ _ ((St.put _ o.dst x).aV i) _;rw[rf];split
  ·exact rel2.shift st2 λd U=>M d (dom2 d (rel2.named d U))
  ·refine(ays (ms:=ms) (l.aV i)).dR dR λd U=>?_
   have:=ayr U;exact named d this.1 ((l.aV i).named d this.2)
 ·refine l.aN.trans z (λ_ _ h=>h) λd U ⟨s,I⟩=>?_
  rcases l.aX s d (m s _ I).2 with h|h
  ·exact h
  ·omega
 ·intro s b I;by_cases B:s∈R\/s∈N
  ·rw[M s B]at I;rcases own2 s b I with⟨t,ht⟩|hge
   ·exact l.aX t b (m t _ ht).2
   ·have:=l.aN.size;exact .inr O
  ·rw[V s B]at I;exact l.aX s b I
 ·intro s I;rw[hst]at I;have h0:=l.aU s (by rw[hst];exact I);by_cases q:s∈R
  ·rw[M s (.inl q),stay2 s ⟨q,λhm=>hms s hm I⟩,g1 s q];exact h0
  ·by_cases hNs:s∈N
   ·exact absurd I (hN s hNs)
   ·rw[V s (by rintro(h|h);exact q h;exact hNs h)];exact h0
def yp(P:ax)(o:Oper)(d:Operand->T)(f:FuncId)(args:List E):Prop:=
 ∀(M:ap)(c:G)(w:World)(a:Act),(∀x∈o.op.operands.toList,cr w M c (d x) (a.eval x))->
  ∃b:List Value,(execOp a.eval o).run P w=.ok (.enter f b.toArray) w/\kS w M c args b
def yp.congr{b:Operand->T}{args:List E}(h:yp P o U f args)(d:∀x∈o.op.operands.toList,b x=U x):yp P o b f args:=
 λM e w a g=>h M e w a λx c=>by rw[<-d x c];exact g x c
def Xu{args:List E}(b:List Operand)(h:∀x∈b,cr w M X (U x) (a.eval x))(f:b.map U=args.map .e):
 kS w M X args (b.map a.eval):=by
 have k:b.length=args.length:=by have:=bi List.length f;simpa using this
 refine⟨by simp[k],λi x u m c=>?_⟩;simp only[eC]at c;cases d:b[i]? with
 |none=>simp[d]at c
 |some y=>simp[d]at c;subst c;have g:=h y (bM d);have j:=bi (λl=>l[i]?) f;simp only[eC,d,m,dP,cS]at j;rw[j]at g;exact g
def auv(f:FuncId)(c:Array Operand)(i:Array TypeId)(d:o.op=.call { callee:=.value (.func f),args:=c,argTypes:=i})(b:gv P f)
 (args:List E)(j:c.toList.map U=args.map .e):yp P o U f args:=by
 intro M k w a h;refine⟨c.toList.map a.eval,?_,Xu c.toList (λx g=>h x (by rw[d];simp only[Op.operands,Call.operands];simp at g⊢;exact .inr g)) j⟩;simp only[execOp,d,resolve,Act.eval,Deferred.ofValue,Sem.run_bind,Sem.run_pure,Result.andThen_ok,invoke];rw[b];congr 2;apply mQ;simp
def auu{ev:Operand->T}(f:FuncId)(x:aw)(l:Array Operand)(s:Array TypeId)(n:o.op=.call { callee:=.value x,args:=l,argTypes:=s})(j:gv P f)
 (b:List (Nat×Nat))(m:ev x=.e (.c (.db f b)))(args:List E)(t:l.toList.map ev=args.map .e):yp P o ev f (args++b.map λp=>.c (.ptr p.1 p.2)):=by
 intro M D w a h;have d:=Xu (a:=a) l.toList (λx m=>h x (by rw[n];simp only[Op.operands,Call.operands];simp at m⊢;exact .inr m)) t;have r:=h x (by rw[n];simp[Op.operands,Call.operands]);rw[m]at r;obtain⟨v,z,A,B⟩:=r;refine⟨l.toList.map a.eval++v,?_,?_,?_⟩
 ·simp only[execOp,n,resolve,z,Deferred.ofValue,Sem.run_bind,Sem.run_pure,Result.andThen_ok,invoke];rw[j];congr 2;apply mQ;simp
 ·simp[d.1,A]
 ·intro i y u k g;have hlen:=d.1;rw[B3]at k g;rw[<-hlen]at g;split at k
  ·rename_i q;rw[aM q]at g;exact d.2 i y u k g
  ·rename_i q;rw[Z q]at g;rw[eC,gN]at k;obtain⟨p,C,rfl⟩:=k;exact B _ p u C g
def acJ(h:∀s∈R,¬x.bx s):r6 R x=x:=by unfold r6;rw[Z];intro a;rw[rF]at a;obtain⟨s,I,b⟩:=a;exact h s I (T.mK.1 b)
def acK{x:V}(h:∀s∈R,¬x.bx s):mI R x=x:=by unfold mI;rw[Z];intro a;rw[rF]at a;obtain⟨s,I,b⟩:=a;exact h s I (V.mK.1 b)
theorem SQ.OV{P:ax}{n:Nat}{aU:ap}{ops:av}{o:Oper}{b:St}{f:FuncId}{R N c W ts us:aq}{args:List E}{H':fF}{r:T}(hg:fA ops o b)(h:IX P f b.heap R N c args H' r)
 (G:∀u∈c,¬aU u)(hN:∀u∈N,¬aU u)(hd:jv n o.dst)(U:yp P o b.ev f args)(hW:∀u∈R,u∉W->H' u=b.heap u)
 (M:∀i,o.dst≠some i->i∉ts->∀s∈c,¬(b.aV i).bx s)(L:∀u,u∉R->u∉N->u∉us->∀s∈c,∀cs,b.heap u=some cs->¬ ∃v∈cs,v.bx s):
 SQ P n aU ops o b (vw b o.dst r R N c H') ⟨lk ops o++jK R,dl o++pn ts++jK (W++N++us),c⟩where
 frame l hl:=by
  simp only[cq,re]at hl;unfold St.at;split
  ·rename_i e0;have X:l=2*(l/2):=O;rw[X,A5,r9]at hl;simp only[vw,rf,Z hl.1.1];rw[acJ (M _ hl.1.1 hl.1.2)]
  ·rename_i e0;have X:l=2*(l/2)+1:=O;have d:=hl.2;rw[X,nW,cq,cq,re,re]at d;simp only[vw];by_cases p:l/2∈R
   ·rw[aM (.inl p),hW _ p d.1.1]
   ·rw[Z (by rintro(h|h);exact p h;exact d.1.2 h)];cases D:b.heap (l/2)with
    |none=>rfl
    |some cs=>
     have:cs.map (mI c)=cs:=by
      have K:∀v∈cs,mI c v=v:=λv q=>acK λs I m=>L _ p d.1.2 d.2 s I cs D ⟨v,q,m⟩
      exact(mw K).trans (List.map_id' cs)
     simp[this]
 go j B h2:=by
  have y:∀t∈looks ops o,j.aV t=b.aV t:=v7 (f:=⟨lk ops o++jK R,dl o++pn ts++jK (W++N++us),c⟩) (λl h=>cq.2 (.inl h)) B;have Q:=pq y;have p:∀u∈R,j.heap u=b.heap u:=λu hu=>pu (B _ (.inl (cq.2 (.inr (nW.2 hu)))))
  have z:∀u,u∈W++N++us->j.heap u=b.heap u:=λu hu=>pu (B _ (.inr (cq.2 (.inr (nW.2 hu)))))
  have hp:IX P f j.heap R N c args H' r:=by
   have e:part j.heap R=part b.heap R:=by
    funext u;simp only[part];split
    ·rename_i hu;exact p u hu
    ·rfl
   exact⟨by rw[e];exact h.sat,h.args,λu hu cs V=>h.YA u hu cs (by rw[<-p u hu];exact V),h.ic,λu hu=>by rw[z u (by simp[hu])];exact h.abE u hu⟩
  have st:=fc.OV (n:=n) (aU:=aU) (o:=o) hp G hN hd (λC γ a w Rl=>(U.congr Q) C.M γ w a λx _=>Rl.ev x);refine .inl ⟨hg.congr y,?_⟩;have:ku j (vw b o.dst r R N c H') (dl o++pn ts++jK (W++N++us))=vw j o.dst r R N c H':=by
   simp only[ku,vw,St.mk.injEq];constructor
   ·funext i;simp only[cq,A5,r9,C9,or_false,rf];by_cases A:o.dst=some i
    ·simp[A]
    ·by_cases k:i∈ts
     ·have:j.aV i=b.aV i:=aaA (B _ (.inr (cq.2 (.inl (cq.2 (.inr (r9.2 k)))))));simp[A,k,this]
     ·simp only[A,k,or_self,lM];refine(acJ λs I m=>h2 s I (2*i) ?_ (by rw[As];exact m)).symm;simp only[cq,A5,r9];rintro((h|h)|h)
      ·exact A h
      ·exact k h
      ·exact C9 h
   ·funext u;simp only[cq,LJ,DB,nW,false_or];by_cases g:u∈R\/u∈N
    ·rw[aM g,aM g];split
     ·rfl
     ·rename_i m;rcases g with hu|hu
      ·rw[p u hu,hW u hu (λh=>m (.inl (.inl h)))]
      ·exact absurd (.inl (.inr hu)) m
    ·rw[Z g,Z g];split
     ·rename_i H;rw[z u (by simpa only[cq]using H)]
     ·rename_i H;cases D:j.heap u with
      |none=>rfl
      |some cs=>
       have:cs.map (mI c)=cs:=by
        have K:∀v∈cs,mI c v=v:=λv q=>acK λs I m=>h2 s I (2*u+1) (by simp only[cq,LJ,DB,nW,false_or];exact H) (by rw[Au,D];exact⟨v,q,m⟩)
        exact(mw K).trans (List.map_id' cs)
       simp[this]
  rw[this];exact st
inductive KF where
 |int (k:IntKind)
 |eU
 |qa (n:Nat) (k:IntKind)
 deriving DecidableEq
def uB(P:ax)(t:TypeId):Option KF:=
 match P.underlying t with
 |some (.int k)=>some (.int k)
 |some .string=>some .eU
 |some (.array n e)=>(match P.underlying e,fg P e with|some (.int k),some 1=>some (.qa n k)|_,_=>none)
 |_=>none
def nj(k:IntKind):Value->Bool
 |.int a _=>decide (a=k)
 |_=>false
def ig:KF->Value->Bool
 |.int k,v=>nj k v
 |.eU,.string _=>true
 |.qa n k,.agg a=>Nat.beq a.size n&&a.toList.all (nj k)
 |_,_=>false
def Bn:Value->Value->Bool
 |.int _ a,.int _ b=>a==b
 |_,_=>false
def pL:List Value->List Value->Bool
 |[],[]=>true
 |a::r,b::s=>Bn a b&&pL r s
 |_,_=>false
def ny:Value->Value->Bool
 |.int _ a,.int _ b=>a==b
 |.string a,.string b=>a.data.toList==b.data.toList
 |.agg d,.agg c=>pL d.toList c.toList
 |_,_=>false
def aF8(c:P.underlying e=some (.int k))(w:World)(d:Nat)(a:nj k v=true)(b:nj k y=true):
 (Op.equalIn (d+1) e v y).run P w=.ok (Bn v y) w:=by
 cases v<;>simp only[nj,jq,be]at a;cases y<;>simp only[nj,jq,be]at b;subst a;subst b;simp[Op.equalIn,run_underlying c,Bn]
def aF7{P:ax}(j:P.underlying e=some (.int k))(w:World)(d:Nat)(c f:au):
 ∀(n s:Nat),s+n=c.length->c.length=f.length->(c.drop s).all (nj k)=true->(f.drop s).all (nj k)=true->
  (forIn (m:=Sem) (List.range' s n) ((none,()):Option Bool×Unit) λi _=>do
    let a<-Go.part e c.toArray (i*1)
    let b<-Go.part e f.toArray (i*1)
    let q<-Op.equalIn (d+1) e a b
    if(!q)=true then pure (ForInStep.done (some false,()))else pure (ForInStep.yield (none,()))).run P w
    =.ok (if pL (c.drop s) (f.drop s)then(none,())else(some false,())) w:=by
 intro n
 induction n with
 |zero=>intro s I p _ _;rw[mU O,mU O];simp[pL]
 |succ n t=>
  intro s I p g h;obtain⟨x,l⟩:∃x,c[s]?=some x:=⟨c[s]' O,ai⟩;obtain⟨y,o⟩:∃y,f[s]?=some y:=⟨f[s]' O,ai⟩;have ex:c.drop s=x::c.drop (s+1):=by rw[kB O];congr 1;rw[du]at l;exact l.2
  have u:f.drop s=y::f.drop (s+1):=by rw[kB O];congr 1;rw[du]at o;exact o.2
  rw[ex]at g⊢;rw[u]at h⊢;simp only[w_,ej]at g h;have v:(Go.part e c.toArray (s*1)).run P w=.ok x w:=by simp[Go.part,isAgg,run_underlying j,l]
  have z:(Go.part e f.toArray (s*1)).run P w=.ok y w:=by simp[Go.part,isAgg,run_underlying j,o]
  have A:=aF8 (P:=P) j w d g.1 h.1;simp only[List.range'_succ,List.forIn_cons,Sem.run_bind,v,z,A,Result.andThen_ok];cases r:Bn x y with
  |true=>simp only[rA,jq,lM,Sem.run_pure,Result.andThen_ok,pL,r,wQ];exact t (s+1) O p g.2 h.2
  |false=>simp[pL,r]
def aF9{P:ax}(b:uB P e=some (.qa s k))(w:World)(f:ig (.qa s k) v=true)(g:ig (.qa s k) y=true):
 (Op.equal e v y).run P w=.ok (ny v y) w:=by
 unfold uB at b;split at b
 ·cases b
 ·cases b
 ·rename_i u a m;split at b
  ·rename_i z o I;injection b with b;injection b with p q
   subst p;subst q;cases v<;>simp only[ig,jq]at f;rename_i c;cases y<;>simp only[ig,jq]at g;rename_i h;simp only[ej]at f g;have i:=IM f.1;have r:=IM g.1;have j:∀d,(Op.equalIn (d+1+1) e (.agg c) (.agg h)).run P w=.ok (ny (.agg c) (.agg h)) w:=by intro d;have l:=aF7 (P:=P) o w d c.toList h.toList c.size 0 ai (by simp;omega) (an f.2) (an g.2);simp only[rG]at l;rw[Op.equalIn];simp only[Sem.run_bind,run_underlying m,Result.andThen_ok,nA I,ny];rw[Std.Legacy.Range.forIn_eq_forIn_range'];simp only[Std.Legacy.Range.size,Nat.sub_zero,yE,Nat.div_one,<-i];rw[l];cases pL c.toList h.toList<;>simp
   exact j 9998
  ·cases b
 ·cases b
def agy(a:P.underlying e=some (.int k))(w:World)(b:Bool)(d:Nat)(x:Value):(Instr.checkKey b (d+1) e x).run P w=.ok () w:=by rw[Instr.checkKey];simp[run_underlying a]
def aF5(a:P.underlying e=some .string)(w:World)(b:Bool)(d:Nat)(x:Value):(Instr.checkKey b (d+1) e x).run P w=.ok () w:=by rw[Instr.checkKey];simp[run_underlying a]
def aF6{P:ax}(c:P.underlying e=some (.int k))(I:fg P e=some 1)(w:World)(f:Bool)(d:Nat)(b:au):
 ∀(n s:Nat),s+n=b.length->
  (forIn (m:=Sem) (List.range' s n) PUnit.unit λi _=>do
    let q<-sizeOf e
    let a<-Go.part e b.toArray (i*q)
    Instr.checkKey f (d+1) e a
    pure (ForInStep.yield PUnit.unit)).run P w=.ok PUnit.unit w:=by
 intro n
 induction n with
 |zero=>intro s _;simp
 |succ n g=>
  intro s h;obtain⟨x,j⟩:∃x,b[s]?=some x:=⟨b[s]' O,ai⟩;have l:(Go.part e b.toArray (s*1)).run P w=.ok x w:=by simp[Go.part,isAgg,run_underlying c,j]
  have o:=agy (P:=P) c w f d x;simp only[List.range'_succ,List.forIn_cons,Sem.run_bind,l,o,Result.andThen_ok,nA I,Sem.run_pure];exact g (s+1) O
def Tn{P:ax}{f:KF}(b:uB P e=some f)(w:World)(c:Bool)(h:ig f v=true):(Instr.checkKey c 10000 e v).run P w=.ok () w:=by
 unfold uB at b;split at b
 ·rename_i k g;exact agy g w c 9999 v
 ·rename_i g;exact aF5 g w c 9999 v
 ·rename_i o a g;split at b
  ·rename_i p m I;injection b with b;subst b
   cases v<;>simp only[ig,jq]at h;rename_i i;simp only[ej]at h;have j:=IM h.1;have l:∀d,(Instr.checkKey c (d+1+1) e (.agg i)).run P w=.ok () w:=by intro d;have n:=aF6 (P:=P) m I w c d i.toList i.size 0 ai;rw[Instr.checkKey];simp only[Sem.run_bind,run_underlying g,Result.andThen_ok];rw[Std.Legacy.Range.forIn_eq_forIn_range'];simp only[Std.Legacy.Range.size,Nat.sub_zero,yE,Nat.div_one,<-j];rw[n];rfl
   exact l 9998
  ·cases b
 ·cases b
def g_(k:Value):List (Value×Value)->Nat->Option (Nat×Value)
 |[],_=>none
 |e::a,i=>match ny k e.1 with|true=>some (i,e.2)|false=>g_ k a (i+1)
def ji(a:List MapEntry):List (Value×Value):=a.map λe=>(e.key,e.val)
theorem agH{P:ax}{t:TypeId}{f:KF}{j:TypeDesc}(o:P.underlying t=some j)(c:uB P t=some f)(r:∀n k,f≠.qa n k){x:Value}(l:ig f x=true):
 ∀(g:List MapEntry)(i:Nat),(ji g).all (λp=>ig f p.1)=true->Instr.findNow j x g i=some (g_ x (ji g) i)
 |[],_,_=>rfl
 |e::g,i,h=>by
  simp only[ji,de,w_,ej]at h;have s:=agH o c r l g (i+1) h.2;have I:Instr.sameNow j x e.key=some (ny x e.key):=by
   unfold uB at c;rw[o]at c;cases j<;>simp only[reduceCtorEq,cS]at c
   case int k=>subst c;have d:=h.1;cases x<;>simp only[ig,nj,jq,be]at l;cases m:e.key<;>rw[m]at d<;>simp only[ig,nj,jq,be]at d;subst l;subst d;simp[Instr.sameNow,ny]
   case string=>
    subst c;have d:=h.1;cases x<;>simp only[ig,jq]at l;cases m:e.key<;>rw[m]at d<;>simp only[ig,jq]at d;rename_i a b;simp only[Instr.sameNow,ny];congr 1;cases a;cases b;rename_i a b;have:∀p q:Array UInt8,((⟨p⟩:az)==⟨q⟩)=(p.toList==q.toList):=λp q=>by show(p==q)=_;rw[oV];simp only[gQ];exact⟨λh=>by rw[h],λh=>mQ h⟩
    exact this a b
   case array n u=>
    split at c
    ·injection c with c;exact absurd c.symm (r _ _)
    ·cases c
  simp only[Instr.findNow,I,ji,de,g_];cases ny x e.key with
  |true=>rfl
  |false=>exact s
theorem agG{P:ax}{t:TypeId}{n:Nat}{k:IntKind}(c:uB P t=some (.qa n k))(w:World){x:Value}(b:ig (.qa n k) x=true):
 ∀(a:List MapEntry)(i:Nat),(ji a).all (λp=>ig (.qa n k) p.1)=true->(Instr.findAsking t x a i).run P w=.ok (g_ x (ji a) i) w
 |[],_,_=>by simp[Instr.findAsking,ji,g_]
 |e::a,i,h=>by
  simp only[ji,de,w_,ej]at h;have d:=agG c w b a (i+1) h.2;have f:=aF9 c w b h.1;simp only[Instr.findAsking,Sem.run_bind,f,Result.andThen_ok,ji,de,g_];cases ny x e.key with
  |true=>simp
  |false=>simpa[ji]using d
def To{f:KF}(c:uB P e=some f)(w:World)(g:ig f v=true)(b:List MapEntry)(h:(ji b).all (λp=>ig f p.1)=true):
 (Instr.findKey e v b).run P w=.ok (g_ v (ji b) 0) w:=by
 obtain⟨kd,d⟩:∃kd,P.underlying e=some kd:=by
  unfold uB at c;cases d:P.underlying e with
  |none=>simp[d]at c
  |some kd=>exact⟨kd,rfl⟩
 by_cases i:∀n k,f≠.qa n k
 ·simp[Instr.findKey,run_underlying d,agH d c i g b 0 h]
 ·have:∃n k,f=.qa n k:=by
   cases f with
   |int k=>exact absurd (λ_ _ h=>by cases h) i
   |eU=>exact absurd (λ_ _ h=>by cases h) i
   |qa n k=>exact⟨n,k,rfl⟩
  obtain⟨n,k,rfl⟩:=this;have l:=agG c w g b 0 h;cases b with
  |nil=>simp[Instr.findKey,run_underlying d,Instr.findNow,ji,g_]
  |cons a b=>
   have m:Instr.findNow kd v (a::b) 0=none:=by have j:=g;unfold uB at c;rw[d]at c;cases kd<;>simp only[reduceCtorEq,cS]at c;cases v<;>simp only[ig,jq]at j;simp[Instr.findNow,Instr.sameNow]
   simp only[Instr.findKey,Sem.run_bind,run_underlying d,Result.andThen_ok,m];exact l
def dD.aBo{σ:St}{w':World}(R:dD C X σ a w){d:Nat}(m:Option Nat)(hd:jv C.nt m)
 (hf:σ.heap d=none)(L:¬C.aU d)(u:fY q_ w w')(hb:w.heap.size<=b)
 (hblk:(∃(t:TypeId)(K spare:au),w'.heap[b]?=some (.cells (K++spare).toArray t (0,0))/\bW w' C.M (dZ X d (some b)) B K)\/
   (∃(p:Array MapEntry)(j:Nat),w'.heap[b]?=some (.map p j)/\B=[.eY (p.toList.map λe=>(e.key,e.val))]))
 (hr:cr w' C.M (dZ X d (some b)) x v):dD C (dZ X d (some b)) ⟨(σ.put m x).aV,cZ σ.heap d (some B)⟩ (a.put m v) w':=by
 have D:X d=none:=R.mem.ic d hf;have y:lz C.M X (dZ X d (some b)) w w':=by
  refine⟨u.size,λc z=>u.same c z.1 (λh=>h),λc z s=>?_,u.jb⟩;unfold dZ;split
  ·intro e;injection e with e;injection e with e;have:=z.1;omega
  ·exact z.2.2 s
 have k:∀s,X s≠none->dZ X d (some b) s=X s:=by intro s I;unfold dZ;rw[Z (by rintro rfl;exact I D)]
 refine⟨⟨λc z=>mz (R.mem.iF c z) u.size,?_,?_,?_,?_,R.mem.jO.dR y⟩,λi=>?_,R.aN.trans u (λ_ _ h=>h) (λ_ _ h=>h.elim),?_,?_,?_,?_⟩
 ·intro s M c f g;unfold dZ at f g;split at f<;>split at g
  ·omega
  ·injection f with f;injection f with f;have:=R.mem.lt g;omega
  ·injection g with g;injection g with g;have:=R.mem.lt f;omega
  ·exact R.mem.inj s M c f g
 ·intro s c f;unfold dZ at f;split at f
  ·injection f with f;injection f with f;intro hM;have:=R.mem.iF c hM;omega
  ·exact R.mem.nm s c f
 ·intro s I;simp only[cZ]at I;unfold dZ;split at I
  ·cases I
  ·rw[Z Y];exact R.mem.ic s I
 ·intro s N I;simp only[cZ]at I;split at I
  ·rename_i e;subst e;injection I with I;subst I
   rcases hblk with⟨t,K,sp,f,g⟩|⟨Q,j,f,g⟩
   ·exact .inl ⟨b,t,K,sp,by simp[dZ],f,g⟩
   ·exact .inr (.inr ⟨b,Q,j,by simp[dZ],f,g⟩)
  ·rename_i hne;rcases R.mem.gR s N I with⟨E,M,U,sp',q,l,A⟩|⟨q,A⟩|⟨E,Q,j,q,l,A⟩
   ·exact .inl ⟨E,M,U,sp',by rw[k s (by rw[q];simp)];exact q,(u.same E (jy l) (λh=>h)).trans l,A.dR y λs I=>k s (A.named s I)⟩
   ·exact .inr (.inl ⟨by rw[k s (by rw[q];simp)];exact q,A⟩)
   ·exact .inr (.inr ⟨E,Q,j,by rw[k s (by rw[q];simp)];exact q,(u.same E (jy l) (λh=>h)).trans l,A⟩)
 ·rw[vS _ _ _ _ (by rw[R.size];exact hd)];show cr _ _ _ ((σ.put m x).aV i) _;rw[rf];split
  ·exact hr
  ·exact(R.aV i).dR y λs I=>k s ((R.aV i).named s I)
 ·intro s c f;unfold dZ at f;split at f
  ·injection f with f;injection f with f;have:=R.aN.size;exact .inr O
  ·exact R.aX s c f
 ·intro s H;have:=R.aU s H;unfold dZ;rw[Z (by rintro rfl;exact L H)];exact this
 ·rw[wx];exact R.defers
 ·rw[uS];exact R.size
theorem fc.makeMap{P:ax}{n:Nat}{aU:ap}{o:Oper}{σ:St}(t:TypeId)(h:o.op=.makeMap t none)(d:Nat)(k:jv n o.dst)(j:σ.heap d=none)(f:¬aU d):
 fc P n aU o σ ⟨(σ.put o.dst (.e (.c (.mp d)))).aV,cZ σ.heap d (some [.eY []])⟩:=by
 intro C i b a w ⟨g,R⟩ K Q hK;refine mn (v:=.map (some w.heap.size)) (w':=w.alloc (.map #[] 0)) ?_ (hK _ _ ⟨dZ g d (some w.heap.size),?_⟩)
 ·simp[execOp,h,Instr.makeMap]
 ·exact R.aBo o.dst (by rw[i];exact k) j (by rw[b];exact f) (q7 _ _) (bK _) (.inr ⟨#[],0,ou _ _,rfl⟩) ⟨_,by simp[dZ],rfl⟩
def QF{P:ax}(a:w.heap[s]?=some (.map N b)):(getObj s).run P w=.ok (.map N b) w:=by simp[getObj,Sem.run,a]
def aho{P:ax}(o:Obj)(a:w.heap[s]?=some (.map N b)):(setObj s o).run P w=.ok () { w with heap:=w.heap.setIfInBounds s o}:=by simp[setObj,Sem.run,a]
structure MI where
 kt:TypeId
 et:TypeId
 kf:KF
 z:Value
structure vq(P:ax)(t:TypeId)(m:MI):Prop where
 u:P.underlying t=some (.map m.kt m.et)
 kf:uB P m.kt=some m.kf
 z:(P.info? m.et).bind (·.zero)=some m.z
 one:m.z.oneCell'=true
def vq.zero{P:ax}{t:TypeId}{m:MI}(h:vq P t m)(w:World):(zeroValue m.et).run P w=.ok m.z w:=by
 have a:=h.z;cases b:P.info? m.et with
 |none=>simp[b]at a
 |some i=>simp only[b,Cb]at a;simp[zeroValue,typeInfo,b,a]
def pF(f:KF)(a:List (Value×Value)):Bool:=a.all λp=>ig f p.1&&p.2.oneCell'
def K7{f:KF}(h:pF f Q=true):Q.all (λp=>ig f p.1)=true:=by simp only[pF,eW,ej]at h⊢;exact λp a=>(h p a).1
def dD.adq{σ:St}(R:dD C X σ a w)(I:σ.heap s=some [.eY Q])(h:X s=some (some b)):
 ∃(ents:Array MapEntry)(d:Nat),w.heap[b]?=some (.map ents d)/\Q=ji ents.toList:=by
 rcases R.mem.gR s _ I with⟨i,t,j,p,c,e,f⟩|⟨q,k⟩|⟨i,l,d,c,e,g⟩
 ·have m:=f.1;cases j with
  |nil=>simp at m
  |cons v r=>exact(f.2 0 (.eY Q) v rfl rfl).elim
 ·cases k
 ·rw[h]at c;injection c with c;injection c with c;subst c
  injection g with g _
  injection g with g
  exact⟨l,d,e,g⟩
def jz(z k:Value)(a:List (Value×Value)):Value×Bool:=match g_ k a 0 with|some (_,v)=>(v,true)|none=>(z,false)
theorem K_{k:Value}:∀{a:List (Value×Value)} {i j:Nat} {v:Value},g_ k a i=some (j,v)->∃p∈a,p.2=v
 |[],_,_,_,h=>by cases h
 |e::a,i,j,v,h=>by
  simp only[g_]at h;split at h
  ·injection h with h;injection h with f c;exact⟨e,ai,c⟩
  ·obtain⟨p,b,d⟩:=K_ h;exact⟨p,by simp[b],d⟩
def azC{k:Value}{f:KF}(b:v.oneCell'=true)(h:pF f Q=true):(jz v k Q).1.oneCell'=true:=by
 unfold jz;split
 ·rename_i j a c;obtain⟨p,d,e⟩:=K_ c;simp only[pF,eW,ej]at h;rw[<-e];exact(h p d).2
 ·exact b
def gn:List V->Option (List Value)
 |[]=>some []
 |.d (.sc v)::r=>(gn r).map (v:: ·)
 |_::_=>none
def zh:T->Option Value
 |.e (.c (.d (.sc v)))=>some v
 |.e (.agg a)=>(gn a).map λl=>.agg l.toArray
 |_=>none
theorem acH{w:World}{M:ap}{γ:G}:∀{vs:List V}{us l:au},bW w M γ vs us->gn vs=some l->us=l
 |[],us,l,h,a=>by simp only[gn,cS]at a;subst a;have:=h.1;cases us with|nil=>rfl|cons _ _=>simp at this
 |v::r,us,l,h,a=>by
  unfold gn at a;split at a
  ·rename_i e;cases e
  ·rename_i x m e;injection e with d c;subst d;subst c
   cases us with
   |nil=>have:=h.1;simp at this
   |cons u us=>rw[gN]at a;obtain⟨p,b,rfl⟩:=a;have k:=h.2 0 _ u rfl rfl;cases k;have f:=acH (us:=us) (vs:=r) (w:=w) (M:=M) (γ:=γ) ⟨by have:=h.1;simpa using this,λi x u g j=>h.2 (i+1) x u (an g) (an j)⟩ b;rw[f]
  ·cases a
def acI{k:Value}(h:cr w M X x v)(a:zh x=some k):v=k:=by
 unfold zh at a;split at a
 ·injection a with a;subst a;cases h;rfl
 ·rename_i d;rw[gN]at a;obtain⟨l,b,rfl⟩:=a;obtain⟨e,rfl,c⟩:=h;rw[acH c b]
 ·cases a
theorem fc.lookup{P:ax}{n:Nat}{aU:ap}{o:Oper}{σ:St}(t:TypeId)(x y:aw)(g:Bool)(L:o.op=.lookup t x y g)(m:MI)(q:vq P t m)(s:Nat)(r:List (Value×Value))(k:Value)
 (j:σ.ev x=.e (.c (.mp s)))(G:zh (σ.ev y)=some k)(I:σ.heap s=some [.eY r])(A:ig m.kf k=true)(B:pF m.kf r=true)(T:jv n o.dst):
 fc P n aU o σ (σ.put o.dst (if g then .cE [.c (.d (.sc (jz m.z k r).1)),.c (.d (.sc (.bool (jz m.z k r).2)))]else .e (.c (.d (.sc (jz m.z k r).1))))):=by
 intro C M _ a w ⟨E,R⟩ K Q hK;have D:=R.ev x;have V:=acI (R.ev y) G;rw[j]at D;obtain⟨b,N,H⟩:=D;obtain⟨f,X,U,rfl⟩:=R.adq I N;have h:=azC (k:=k) q.one B;have l:(Instr.lookup t (.map (some b)) k g).run P w=.ok (if g then .tuple #[(jz m.z k (ji f.toList)).1,.bool (jz m.z k (ji f.toList)).2]else(jz m.z k (ji f.toList)).1) w:=by
  simp only[Instr.lookup,Sem.run_bind,run_underlying q.u,Result.andThen_ok,QF U,Sem.run_pure,Tn q.kf w _ A,To q.kf w A _ (K7 B)];unfold jz;cases hf:g_ k (ji f.toList) 0 with
  |none=>cases g<;>simp[q.zero w]
  |some p=>cases g<;>simp
 refine mn (v:=if g then .tuple #[(jz m.z k (ji f.toList)).1,.bool (jz m.z k (ji f.toList)).2]else(jz m.z k (ji f.toList)).1) (w':=w) ?_ (hK _ _ ⟨E,R.Br o.dst (by rw[M];exact T) _ _ ?_⟩)
 ·simp only[execOp,L,H,V,Sem.run_bind,l,Result.andThen_ok,Sem.run_pure]
 ·cases g with
  |false=>exact dN.sc _ h
  |true=>
   refine⟨[_,_],rfl,rfl,λi x u j z=>?_⟩
   match i with
   |0=>simp only[kg,cS]at j z;subst j;subst z;exact dN.sc _ h
   |1=>simp only[B5,kg,cS]at j z;subst j;subst z;exact dN.sc _ rfl
   |i+2=>simp at j
def tw(k v:Value)(a:List (Value×Value)):List (Value×Value):=match g_ k a 0 with|some (i,_)=>a.set i (k,v)|none=>a++[(k,v)]
theorem ag9:∀(e c:au)(k:IntKind)(d:Nat),e.all (nj k)=true->c.all (nj k)=true->pL e c=true->(e.zip c).all (λ(x,y)=>Instr.sameBits d x y)=true/\e.length=c.length
 |[],[],_,_,_,_,_=>by simp
 |a::r,b::s,k,d,g,f,i=>by
  simp only[w_,ej,pL]at g f i;have j:=ag9 r s k d g.2 f.2 i.2;have m:Instr.sameBits d a b=true:=by cases a<;>simp only[nj,jq,be,false_and]at g;cases b<;>simp only[nj,jq,be,false_and]at f;have l:=i.1;simp only[Bn,gQ]at l;rw[g.1,f.1,l];simp[Instr.sameBits]
  simp[m,j.1,j.2]
 |[],_::_,_,_,_,_,h=>by simp[pL]at h
 |_::_,[],_,_,_,_,h=>by simp[pL]at h
def aGm{f:KF}{b:Value}(c:ig f v=true)(d:ig f b=true)(h:ny v b=true):Instr.sameBits 10000 b v=true:=by
 cases f with
 |int k=>cases v<;>simp only[ig,nj,jq,be]at c;cases b<;>simp only[ig,nj,jq,be]at d;simp only[ny,gQ]at h;subst h;rw[c,d];simp[Instr.sameBits]
 |eU=>
  cases v<;>simp only[ig,jq]at c;cases b<;>simp only[ig,jq]at d;rename_i v b;simp only[ny,gQ]at h;have:v=b:=by cases v;cases b;simp only[ByteArray.mk.injEq];exact mQ h
  subst this;have l:∀p:ByteArray,(p==p)=true:=λp=>by cases p;rename_i p;show(p==p)=true;simp
  simp[Instr.sameBits,l]
 |qa n k=>
  cases v<;>simp only[ig,jq]at c;cases b<;>simp only[ig,jq]at d;rename_i xs j;simp only[ej]at c d;simp only[ny]at h;have i:∀p q:List Value,pL p q=true->pL q p=true:=by
   intro p
   induction p with
   |nil=>intro q g;cases q with|nil=>rfl|cons _ _=>simp[pL]at g
   |cons x r m=>
    intro q g;cases q with
    |nil=>simp[pL]at g
    |cons y s=>simp only[pL,ej]at g⊢;refine⟨?_,m s g.2⟩;have:=g.1;cases x<;>simp only[Bn,jq]at this;cases y<;>simp only[jq]at this;simp only[Bn,gQ]at this⊢;exact this.symm
  have:=ag9 j.toList xs.toList k 9999 d.2 c.2 (i _ _ h);show Instr.sameBits (9999+1) _ _=true;have e:j.size=xs.size:=an this.2;simp only[Instr.sameBits,e,beq_self_eq_true,wQ];exact this.1
theorem adw{k:Value}:∀{a:List (Value×Value)} {i j:Nat} {v:Value},g_ k a i=some (j,v)->i<=j/\∃p,a[j-i]?=some p/\ny k p.1=true
 |[],_,_,_,h=>by cases h
 |e::a,i,j,v,h=>by
  simp only[g_]at h;split at h
  ·rename_i I;injection h with h;injection h with c g;subst c;exact⟨bK _,e,ai,I⟩
  ·obtain⟨f,p,b,d⟩:=adw h;refine⟨O,p,?_,d⟩;rw[show j-i=(j-(i+1))+1 by omega];simpa using b
def aEQ(a:Array MapEntry)(e:MapEntry):ji (a.push e).toList=ji a.toList++[(e.key,e.val)]:=by simp[ji]
def aEP(a:Array MapEntry)(i:Nat)(k v:Value):ji (a.modify i λe=> { e with key:=k,val:=v}).toList=(ji a.toList).set i (k,v):=by
 simp only[ji,Array.toList_modify];apply vj;intro j;simp only[eC,List.getElem?_modify,Iu,eh];by_cases b:i=j
 ·subst b;by_cases c:i<a.size
  ·simp[c]
  ·simp[c]
 ·simp[b]
def dD.ahp{σ:St}(R:dD C X σ a w){l:Nat}(c:Array MapEntry)(g:Nat)
 (u:X s=some (some b))(B:w.heap[b]?=some (.map N l))(y:σ.heap s≠none):
 dD C X ⟨σ.aV,cZ σ.heap s (some [.eY (ji c.toList)])⟩ a { w with heap:=w.heap.setIfInBounds b (.map c g)}:=by
 have z:=jy B;have d:∀x,x≠b->(w.heap.setIfInBounds b (.map c g))[x]?=w.heap[x]? :=λx f=>by rw[Array.getElem?_setIfInBounds_ne (Ne.symm f)]
 have m:(w.heap.setIfInBounds b (.map c g))[b]?=some (.map c g):=by rw[Array.getElem?_setIfInBounds_self_of_lt z]
 have k:lz C.M X X w { w with heap:=w.heap.setIfInBounds b (.map c g)}:=by refine⟨ai,λx f=>d x (by rintro rfl;exact f.2.2 s u),λx f=>f.2.2,λx cells A f=>?_⟩;refine⟨cells,(d x ?_).trans f,rfl⟩;rintro rfl;rw[B]at f;cases f
 refine⟨⟨λx f=>by simpa using R.mem.iF x f,R.mem.inj,R.mem.nm,λx f=>?_,λx cs f=>?_,R.mem.jO.dR k⟩,λi=>(R.aV i).dR k λ_ _=>rfl,?_,R.aX,R.aU,R.defers,R.size⟩
 ·simp only[cZ]at f;split at f
  ·cases f
  ·exact R.mem.ic x f
 ·simp only[cZ]at f;split at f
  ·rename_i e;subst e;injection f with f;subst f
   exact .inr (.inr ⟨b,c,g,u,m,rfl⟩)
  ·rename_i e;rcases R.mem.gR x cs f with⟨p,E,H,K,j,q,r⟩|L|⟨p,M,l,j,q,r⟩
   ·exact .inl ⟨p,E,H,K,j,(d p (by rintro rfl;exact e (R.mem.inj x s p j u))).trans q,r.dR k λ_ _=>rfl⟩
   ·exact .inr (.inl L)
   ·exact .inr (.inr ⟨p,M,l,j,(d p (by rintro rfl;exact e (R.mem.inj x s p j u))).trans q,r⟩)
 ·have t:=R.aN;have v:=R.aX s b u;refine⟨t.os,t.tape,t.output,t.drawn,by simpa using t.size,λx f D=>?_,λx cells A f=>?_⟩
  ·exact(d x (by rintro rfl;rcases v with h|h;exact D h;omega)).trans (t.same x f D)
  ·obtain⟨c1,Q,T⟩:=t.jb x cells A f;obtain⟨c2,U,V⟩:=k.jb x c1 A Q;exact⟨c2,U,V.trans T⟩
theorem fc.mapUpdate{P:ax}{n:Nat}{aU:ap}{o:Oper}{σ:St}(t:TypeId)(x y z:aw)(X:o.op=.mapUpdate t x y z)(h:o.dst=none)(m:MI)(l:vq P t m)(s:Nat)(T:List (Value×Value))(k v:Value)
 (hx:σ.ev x=.e (.c (.mp s)))(hy:zh (σ.ev y)=some k)(hz:σ.ev z=.e (.c (.d (.sc v))))(I:σ.heap s=some [.eY T])(B:ig m.kf k=true)(N:pF m.kf T=true):
 fc P n aU o σ ⟨σ.aV,cZ σ.heap s (some [.eY (tw k v T)])⟩:=by
 intro C hn _ a w ⟨U,R⟩ K Q hK;have h1:=R.ev x;have h2:=acI (R.ev y) hy;have h3:=R.ev z;rw[hx]at h1;rw[hz]at h3;obtain⟨b,M,V⟩:=h1;obtain⟨f,g,r,rfl⟩:=R.adq I M;have A:a.eval z=v:=by cases h3;rfl
 cases D:g_ k (ji f.toList) 0 with
 |none=>
  refine U0 (w':= { w with heap:=w.heap.setIfInBounds b (.map (f.push ⟨k,v,g⟩) (g+1))}) ?_ (hK _ _ ⟨U,?_⟩)
  ·simp only[execOp,X,V,h2,A,Instr.mapUpdate,Sem.run_bind,run_underlying l.u,Result.andThen_ok,QF r,Tn l.kf w _ B,To l.kf w B _ (K7 N),D,aho _ r,Sem.run_pure]
  ·have:=R.ahp (f.push ⟨k,v,g⟩) (g+1) M r (by rw[I];simp);rw[h];simp only[tw,D];rw[aEQ]at this;exact this
 |some p=>
  obtain⟨i,u⟩:=p;obtain⟨_,q,E,H⟩:=adw D;simp only[Nat.sub_zero]at E;have L:ig m.kf q.1=true:=by have:=(K7 N);rw[eW]at this;exact this q (bM E)
  have G:=aGm B L H;have hold:((f[i]?).map (·.key)).getD k=q.1:=by simp only[ji,eC,yh,gN]at E;obtain⟨e0,h0,rfl⟩:=E;simp[h0]
  have j:(Instr.keyThatStays q.1 k).run P w=.ok k w:=by simp[Instr.keyThatStays,G]
  refine U0 (w':= { w with heap:=w.heap.setIfInBounds b (.map (f.modify i λe=> { e with key:=k,val:=v}) g)}) ?_ (hK _ _ ⟨U,?_⟩)
  ·simp only[execOp,X,V,h2,A,Instr.mapUpdate,Sem.run_bind,run_underlying l.u,Result.andThen_ok,QF r,Tn l.kf w _ B,To l.kf w B _ (K7 N),D,hold,j,aho _ r,Sem.run_pure]
  ·have:=R.ahp (f.modify i λe=> { e with key:=k,val:=v}) g M r (by rw[I];simp);rw[h];simp only[tw,D];rw[aEP]at this;exact this
section
variable {P:ax}{n:Nat}{aU:Nat→Prop}{ops:av}{o:Oper}{σ:St}
theorem SQ.makeMap(g:fA ops o σ)(t:TypeId)(b:o.op=.makeMap t none)(d:Nat)(j:jv n o.dst)(a:¬aU d)(i:σ.heap d=none):
 SQ P n aU ops o σ ⟨(σ.put o.dst (.e (.c (.mp d)))).aV,cZ σ.heap d (some [.eY []])⟩ ⟨lk ops o,(2*d+1)::dl o,[]⟩:=
 SQ.block d (some [.eY []]) rfl (λ_ h=>h) λl k f=>.inl ⟨g.congr f,.makeMap t b d j (by rw[pu (k (2*d+1) (.inr ai)),i]) a⟩
theorem SQ.lookup(r:fA ops o σ)(t:TypeId)(x y:aw)(b:Bool)(f:o.op=.lookup t x y b)(m:MI)(p:vq P t m)(s:Nat)(a:List (Value×Value))(k:Value)
 (j:σ.ev x=.e (.c (.mp s)))(i:zh (σ.ev y)=some k)(I:σ.heap s=some [.eY a])(q:ig m.kf k=true)(u:pF m.kf a=true)(v:jv n o.dst):
 SQ P n aU ops o σ (σ.put o.dst (if b then .cE [.c (.d (.sc (jz m.z k a).1)),.c (.d (.sc (.bool (jz m.z k a).2)))]else .e (.c (.d (.sc (jz m.z k a).1))))) ⟨(2*s+1)::lk ops o,dl o,[]⟩where
 frame l hl:=DW σ o _ l hl
 go w g _:=by have hl:=v7 (λl h=>cv _ h) g;rw[G5];exact .inl ⟨r.congr hl,.lookup t x y b f m p s a k (by rw[pq hl x (by simp[f,Op.operands]),j]) (by rw[pq hl y (by simp[f,Op.operands]),i]) (by rw[pu (g (2*s+1) (.inl ai)),I]) q u v⟩
theorem SQ.mapUpdate(u:fA ops o σ)(t:TypeId)(x y z:aw)(g:o.op=.mapUpdate t x y z)(a:o.dst=none)(m:MI)(p:vq P t m)(s:Nat)(f:List (Value×Value))(k v:Value)
 (l:σ.ev x=.e (.c (.mp s)))(j:zh (σ.ev y)=some k)(i:σ.ev z=.e (.c (.d (.sc v))))(I:σ.heap s=some [.eY f])(q:ig m.kf k=true)(w:pF m.kf f=true):
 SQ P n aU ops o σ ⟨σ.aV,cZ σ.heap s (some [.eY (tw k v f)])⟩ ⟨lk ops o,(2*s+1)::dl o,[]⟩:=
 SQ.block (r:=.any) s (some [.eY (tw k v f)]) (by rw[a,L_]) (λ_ h=>h) λB A b=>by
  rw[a,L_];refine .inl ⟨u.congr b,.mapUpdate t x y z g a m p s f k v ?_ ?_ ?_ (by rw[pu (A (2*s+1) (.inr ai)),I]) q w⟩
  ·rw[pq b x (by simp[g,Op.operands]),l]
  ·rw[pq b y (by simp[g,Op.operands]),j]
  ·rw[pq b z (by simp[g,Op.operands]),i]
end
end Go.Ab
