/- Part of VirtualWitness. No condition. -/
import Derived.Test.YtfbmhjooliccnaaGreatDoorYa
import Derived.Orders
import Derived.Scope
import Derived.Lib.Builder
set_option linter.all false
set_option maxRecDepth 100000
set_option maxHeartbeats 60000000
noncomputable section
namespace Go.Ab
open Go Go.RowKit
variable {M K:Nat→Prop}{P:ay}{n s i:Nat}{o:Oper}{w B:World}{v y:Value}{Z:aw}{l b:au}{t e:TypeId}{X L:G}{U z:av}{a:Act}{k:IntKind}{f:FuncId}{H A:eh}{R:List (Value×Value)}{C:dY}{Q:Array MapEntry}{x u:ax}{N:List D}
def Bg(P:ay)(t:TypeId)(b:List V)(a:Nat):Option T:=mM P t b a
def aeT{e:List V}{r:T}(b:Bg P t e n=some r)(h:bR w M X e U):
 ∃v,(part t U.toArray n).run P w=.ok v w/\b6 w M X r v:=by
 unfold Bg mM at b;split at b
 ·rename_i c;split at b
  ·rename_i a i;split at b
   ·rename_i hlen;injection b with b;subst b
    refine⟨.agg (U.toArray.extract n (n+a)),?_,(U.drop n).take a,?_,(h.drop n).take a⟩
    ·simp[part,Mk c,od i]
    ·simp[List.extract_eq_take_drop]
   ·cases b
  ·cases b
 ·rename_i c;cases f:e[n]? with
  |none=>simp[f]at b
  |some x=>simp[f]at b;subst b;obtain⟨u,j,d⟩:=h.ET f;refine⟨u,?_,d⟩;simp[part,Mk c,j]
 ·cases b
def aB6{j:Operand->T}(t:TypeId)(x:ax)(f:Nat)(k:o.op=.field t x f)(b:Nat)(l:TypeId)(m:List V)(r:T)
 (p:wq P t f=some (b,l))(q:j x=.e (.agg m))(s:Bg P l m b=some r):iu P o j r:=
 kJ λM C H w a _ h=>by have n:=h x (by simp[k,Op.operands]);rw[q]at n;obtain⟨D,u,y⟩:=n;obtain⟨E,G,z,i,A,B⟩:=TR p;obtain⟨v,c,d⟩:=aeT s y;refine⟨v,?_,d⟩;simp[execOp,k,Instr.field,run_underlying z,i,u,asAgg,A,B,c]
def aB8{l:Operand->T}(t:TypeId)(x m:ax)(p:o.op=.index t x m)(b:Nat)(e:TypeId)(n:Nat)(k:IntKind)(i:Int)(q:List V)(r:T)
 (y:wo P t=some (b,e))(Y:fb P e=some n)(z:l x=.e (.agg q))(A:l m=.e (.c (.d (.sc (.int k i)))))(B:0<=i)(C:i<b)(D:Bg P e q (i.toNat*n)=some r):iu P o l r:=
 kJ λM K H w a _ h=>by have s:=h x (by simp[p,Op.operands]);have u:=h m (by simp[p,Op.operands]);rw[z]at s;rw[A]at u;obtain⟨L,E,G⟩:=s;obtain⟨v,f,j⟩:=aeT D G;refine⟨v,?_,j⟩;simp[execOp,p,Instr.index,gK u,asIntOf,run_underlying (TO y),E,B,C,od Y,f]
def aCa{b:Operand->T}(t:TypeId)(x f:ax)(j:o.op=.index t x f)(s:aA)(k:IntKind)(i:Int)
 (n:rB P t=true)(p:b x=.e (.c (.d (.sc (.string s)))))(q:b f=.e (.c (.d (.sc (.int k i)))))(r:0<=i)(c:UInt8)(u:s[i.toNat]?=some c):iu P o b (.e (.c (.d (.sc (.int .u8 c.toNat))))):=
 kJ λM v H w a _ h=>by have l:=h x (by simp[j,Op.operands]);have m:=h f (by simp[j,Op.operands]);rw[p]at l;rw[q]at m;refine⟨_,?_,.sc _ rfl⟩;simp[execOp,j,Instr.index,gK l,gK m,asIntOf,run_underlying (Ue n),r,u]
def yO(b:Operand->T):List Operand->Option (List (Nat×Nat))
 |[]=>some []
 |x::d=>match b x,yO b d with|.e (.c (.ptr s a)),some r=>some ((s,a)::r)|_,_=>none
theorem Yy{l:Operand->T}:∀(d:List Operand) (b:List (Nat×Nat)),(∀x∈d,b6 w M X (l x) (a.eval x))->yO l d=some b->
 (d.map a.eval).length=b.length/\∀(i:Nat)(p:Nat×Nat)(c:Value),b[i]?=some p->(d.map a.eval)[i]?=some c->uk X p.1 p.2 c
 |[],b,_,h=>by simp only[yO]at h;injection h with h;subst h;exact⟨rfl,λi p c e=>by simp at e⟩
 |x::d,b,m,h=>by
  simp only[yO]at h;split at h
  ·rename_i s n r o q;injection h with h;subst h
   obtain⟨f,j⟩:=Yy d r (λy t=>m y (by simp[t])) q;refine⟨by simpa using f,λi p c e k=>?_⟩;cases i with
   |zero=>simp at e k;subst e;subst k;have:=m x ai;rw[o]at this;exact this
   |succ i=>exact j i p c (an e) (an k)
  ·cases h
def aCe{i:Operand->T}(f:FuncId)(b:Array Operand)(j:o.op=.makeFunc (.func f) #[] b)(d:List (Nat×Nat))(k:yO i b.toList=some d):iu P o i (.e (.c (.cr f d))):=
 kJ λM p H w a _ h=>by
  obtain⟨l,m⟩:=Yy (a:=a) b.toList d (λx n=>h x (by simpa[j,Op.operands]using n)) k;refine⟨.func (.func f) #[] (b.toList.map a.eval).toArray,?_,b.toList.map a.eval,rfl,l,m⟩;have:Array.map a.eval b=(b.toList.map a.eval).toArray:=by apply mW;simp
  simp[execOp,j,Instr.makeFunc];exact this
def Qh:T->Bool
 |.e (.c (.ptr _ _))=>true
 |.e (.c (.ty _ _ (.inl _)))=>true
 |.e (.c (.gT _))=>true
 |_=>false
def aCi{f:Operand->T}(x:ax)(k:o.op=.nilCheck x)(i:Qh (f x)=true):iu P o f (f x):=
 kJ λM l H w a _ h=>by
  have c:=h x (by simp[k,Op.operands]);have:∃j,a.eval x=.pointer (some j):=by
   unfold Qh at i;split at i
   ·rename_i d;rw[d]at c;obtain⟨b,_,e⟩:=c;exact⟨_,e⟩
   ·rename_i d;rw[d]at c;obtain⟨b,_,_,_,e,_⟩:=c;exact⟨_,e⟩
   ·rename_i d;rw[d]at c;obtain⟨j,e,_⟩:=c;exact⟨_,e⟩
   ·cases i
  obtain⟨j,e⟩:=this;refine⟨_,?_,c⟩;simp[execOp,k,e]
def aCf{b:Operand->T}(x y:ax)(n:Array TypeId)(f:o.op=.call { callee:=.builtin .max,args:=#[x,y],argTypes:=n})(k p:IntKind)(i j:Int)
 (q:b x=.e (.c (.d (.sc (.int k i)))))(r:b y=.e (.c (.d (.sc (.int p j))))):iu P o b (.e (.c (.d (.sc (.int k (max i j)))))):=
 kJ λM t H w a _ h=>by
  have l:=h x (by simp[f,Op.operands,Call.operands]);have m:=h y (by simp[f,Op.operands,Call.operands]);rw[q]at l;rw[r]at m;refine⟨_,?_,.sc _ rfl⟩;have e:(if j>i then j else i)=max i j:=by by_cases s:i<j<;>simp[s]<;>omega
  simp[execOp,f,resolve,invoke,builtin,Builtin.max_,Builtin.max2,gK l,gK m,e]
def aCg{b:Operand->T}(x y:ax)(n:Array TypeId)(f:o.op=.call { callee:=.builtin .min,args:=#[x,y],argTypes:=n})(k p:IntKind)(i j:Int)
 (q:b x=.e (.c (.d (.sc (.int k i)))))(r:b y=.e (.c (.d (.sc (.int p j))))):iu P o b (.e (.c (.d (.sc (.int k (min i j)))))):=
 kJ λM t H w a _ h=>by
  have l:=h x (by simp[f,Op.operands,Call.operands]);have m:=h y (by simp[f,Op.operands,Call.operands]);rw[q]at l;rw[r]at m;refine⟨_,?_,.sc _ rfl⟩;have e:(if j<i then j else i)=min i j:=by by_cases s:j<i<;>simp[s]<;>omega
  simp[execOp,f,resolve,invoke,builtin,Builtin.min_,Builtin.min2,gK l,gK m,e]
def oN:T->Option Value
 |.e (.c (.d (.sc v)))=>some v
 |_=>none
def rh{x:T}(h:oN x=some v):x=.e (.c (.d (.sc v))):=by
 unfold oN at h;split at h
 ·injection h with h;subst h;rfl
 ·cases h
def sc(v:Value):T:=.e (.c (.d (.sc v)))
def RI(P:ay)(c:Call)(a:St):Option T:=
 match c.callee,c.args.toList,c.argTypes.toList with
 |.builtin .len,[x],[t]=>
  (match jF P t with
   |some _=>(uP (a.ev x)).map λ(n:Nat)=>sc (.int .i64 (n:Int))
   |none=>if rB P t then(match oN (a.ev x)with|some (.string s)=>some (sc (.int .i64 s.size))|_=>none)else none)
 |.builtin .max,[x,y],_=>(match oN (a.ev x),oN (a.ev y)with|some (.int k i),some (.int _ j)=>some (sc (.int k (max i j)))|_,_=>none)
 |.builtin .min,[x,y],_=>(match oN (a.ev x),oN (a.ev y)with|some (.int k i),some (.int _ j)=>some (sc (.int k (min i j)))|_,_=>none)
 |_,_,_=>none
def xc{b:Type}{a:Array b}{l:List b}(h:a.toList=l):a=l.toArray:=by apply mW;simpa using h
def jg(P:ay)(D:Op)(a:St):Option T:=
 match D with
 |.move x=>some (a.ev x)
 |.assign x=>some (a.ev x)
 |.pick c x y=>match oN (a.ev c)with|some (.bool t)=>some (if t then a.ev x else a.ev y)|_=>none
 |.binOp b t x y _=>match oN (a.ev x),oN (a.ev y)with|some q,some A=>(mI P b t q A).map sc|_,_=>none
 |.unOp u _ x=>match oN (a.ev x)with|some q=>(DW u q).map sc|none=>none
 |.convert s d x=>match zJ P s,zJ P d,oN (a.ev x)with|some _,some k,some (.int _ n)=>some (sc (.int k (k.wrap n)))|_,_,_=>none
 |.fieldAddr s x f=>match wq P s f with|some (j,v)=>(match fb P v with|some (_+1)=>vI j (a.ev x)|_=>none)|none=>none
 |.indexAddr t x r=>
  match oN (a.ev r)with
  |some (.int _ i)=>
   (match jF P t with
    |some e=>(match fb P e with|some n=>C8 n i (a.ev x)|none=>none)
    |none=>(match wo P t with
     |some (h,e)=>if 0<=i/\i<(h:Int)then(match fb P e with|some n=>vI (i.toNat*n) (a.ev x)|none=>none)else none
     |none=>none))
  |_=>none
 |.load t x=>
  match a.ev x with
  |.e (.c (.ptr s j))=>(match a.heap s with|some l=>mM P t l j|none=>none)
  |.e (.c (.gT N))=>mM P t (N.map .d) 0
  |_=>none
 |.extract x i=>match a.ev x with|.cn z=>(z[i]?).map .e|_=>none
 |.field t x f=>match wq P t f,a.ev x with|some (j,v),.e (.agg l)=>Bg P v l j|_,_=>none
 |.index t x r=>
  match oN (a.ev r),wo P t,a.ev x with
  |some (.int _ i),some (h,e),.e (.agg l)=>if 0<=i/\i<(h:Int)then(match fb P e with|some n=>Bg P e l (i.toNat*n)|none=>none)else none
  |some (.int _ i),none,.e (.c (.d (.sc (.string s))))=>if rB P t=true/\0<=i then(match s[i.toNat]? with|some c=>some (.e (.c (.d (.sc (.int .u8 c.toNat)))))|none=>none)else none
  |_,_,_=>none
 |.build t parts=>match He P t,jZ P t with|some C,some o=>(vJ (λi=>C[i]?) o (parts.toList.map λp=>(p.1,a.ev p.2))).map λl=>.e (.agg l)|_,_=>none
 |.buildSlice t h parts=>
  match jF P t with
  |some e=>(match fb P e,jZ P e with
   |some k,some o=>if o.length=k/\parts.size=h/\h*k<=16777216/\0<k/\0<h then(vS k a.ev 0 parts.toList).map λB=>.e (.c (.d (.sl B)))else none
   |_,_=>none)
  |none=>none
 |.slice t x G K E=>
  match jF P t,uP (a.ev x)with
  |some e,some h=>(match fb P e,lO a.ev K h,lO a.ev G 0,E with
   |some k,some L,some H,none=>mR k H L (a.ev x)
   |_,_,_,_=>none)
  |_,_=>none
 |.makeFunc M first w=>match M,first.toList with|.func f,[]=>(yO a.ev w.toList).map λm=>.e (.c (.cr f m))|_,_=>none
 |.nilCheck x=>if Qh (a.ev x)then some (a.ev x)else none
 |.call c=>RI P c a
 |_=>none
def RJ{σ:St}{r:T}(h:jg P o.op σ=some r):iu P o σ.ev r\/∃t x s p w,o.op=.load t x/\σ.ev x=.e (.c (.ptr s p))/\σ.heap s=some w/\mM P t w p=some r:=by
 generalize a:o.op=Z at h;unfold jg at h;split at h
 ·injection h with h;subst h;exact .inl (aCh _ a)
 ·injection h with h;subst h;exact .inl (aBX _ a)
 ·split at h
  ·rename_i t l;injection h with h;subst h;exact .inl (aCj _ _ _ a t (rh l))
  ·cases h
 ·split at h
  ·rename_i A K b d;cases z:mI P _ _ A K with
   |none=>rw[z]at h;simp at h
   |some v=>rw[z]at h;simp only[dH,cY]at h;subst h;exact .inl (aBY _ _ _ _ _ a A K v (rh b) (rh d) z)
  ·cases h
 ·split at h
  ·rename_i A b;cases z:DW _ A with
   |none=>rw[z]at h;simp at h
   |some v=>rw[z]at h;simp only[dH,cY]at h;subst h;exact .inl (aCk _ _ _ a A v (rh b) z)
  ·cases h
 ·split at h
  ·rename_i k0 k k1 n b d q;injection h with h;subst h;exact .inl (aB2 _ _ _ a _ _ _ (rh q) (by rw[b];rfl) d)
  ·cases h
 ·split at h
  ·rename_i p E b;split at h
   ·rename_i m d;exact .inl (aB7 _ _ _ a p E m b d r h)
   ·cases h
  ·cases h
 ·split at h
  ·rename_i k i b;split at h
   ·rename_i e d;split at h
    ·rename_i m q;exact .inl (aB9 _ _ _ a e m k i d q (rh b) r h)
    ·cases h
   ·split at h
    ·rename_i u e d;split at h
     ·rename_i l;split at h
      ·rename_i m q;exact .inl (aB_ _ _ _ a e m u k i d q (rh b) l.1 l.2 r h)
      ·cases h
     ·cases h
    ·cases h
  ·cases h
 ·split at h
  ·rename_i s p b;split at h
   ·rename_i w d;exact .inr ⟨_,_,s,p,w,rfl,b,d,h⟩
   ·cases h
  ·rename_i M b;exact .inl (aCd _ _ a M r b h)
  ·cases h
 ·split at h
  ·rename_i N b;rw[gM]at h;obtain⟨e,Q,rfl⟩:=h;exact .inl (aB5 _ _ a N e b Q)
  ·cases h
 ·split at h
  ·rename_i p E w b d;exact .inl (aB6 _ _ _ a p E w r b d h)
  ·cases h
 ·split at h
  ·rename_i k i u e w b d q;split at h
   ·rename_i l;split at h
    ·rename_i m B;exact .inl (aB8 _ _ _ a u e m k i w r d B q (rh b) l.1 l.2 h)
    ·cases h
   ·cases h
  ·rename_i k i s b d q;split at h
   ·rename_i l;split at h
    ·rename_i c B;injection h with h;subst h
     exact .inl (aCa _ _ _ a s k i l.1 q (rh b) l.2 c B)
    ·cases h
   ·cases h
  ·cases h
 ·split at h
  ·rename_i L D b d;cases hf:vJ (λi=>L[i]?) D _ with
   |none=>rw[hf]at h;simp at h
   |some w=>rw[hf]at h;simp only[dH,cY]at h;subst h;exact .inl (aBZ _ _ a L D w b d hf)
  ·cases h
 ·split at h
  ·rename_i e b;split at h
   ·rename_i k D d q;split at h
    ·rename_i l;cases hf:vS k σ.ev 0 _ with
     |none=>rw[hf]at h;simp at h
     |some R=>rw[hf]at h;simp only[dH,cY]at h;subst h;exact .inl (aB0 _ _ _ a e k D R b d q l.1 l.2.1 l.2.2.1 l.2.2.2.1 l.2.2.2.2 hf)
    ·cases h
   ·cases h
  ·cases h
 ·split at h
  ·rename_i e u b d;split at h
   ·rename_i k U V q B X;exact .inl (afu _ _ _ _ _ a e k u V U r b q d B X (.inl rfl) h)
   ·cases h
  ·cases h
 ·rename_i G;split at h
  ·rename_i f hf;rw[xc hf]at a;cases l:yO σ.ev G.toList with
   |none=>rw[l]at h;simp at h
   |some C=>rw[l]at h;simp only[dH,cY]at h;subst h;exact .inl (aCe _ _ a C l)
  ·cases h
 ·split at h
  ·rename_i l;injection h with h;subst h;exact .inl (aCi _ a l)
  ·cases h
 ·rename_i c;obtain⟨callee,args,argTypes⟩:=c;unfold RI at h;simp only at h;split at h
  ·rename_i x t b d;rw[xc b,xc d]at a;split at h
   ·rename_i e b;rw[gM]at h;obtain⟨m,l,rfl⟩:=h;exact .inl (aCb _ _ a e m b l)
   ·split at h
    ·rename_i b;split at h
     ·rename_i s d;injection h with h;subst h;exact .inl (aCc _ _ a s b (rh d))
     ·cases h
    ·cases h
  ·rename_i x y b;rw[xc b]at a;split at h
   ·rename_i k i H j b d;injection h with h;subst h;exact .inl (aCf _ _ _ a k H i j (rh b) (rh d))
   ·cases h
  ·rename_i x y b;rw[xc b]at a;split at h
   ·rename_i k i H j b d;injection h with h;subst h;exact .inl (aCg _ _ _ a k H i j (rh b) (rh d))
   ·cases h
  ·cases h
 ·cases h
def atp(h:s<n):jy n (some s):=λj a=>by injection a with a;subst a;exact h
section
variable {P:ay}{n:Nat}{aS:Nat→Prop}{ops:aw}{rest:List Oper}{l:List (Nat×T)}{H:eh}{K:St→Prop}
def aut{l:List (Nat×T)}{x:T}(h:mk l s=x):mk ((s,x)::l)=mk l:=by
 funext i;simp only[mk];split
 ·rename_i e;subst e;exact h.symm
 ·rfl
end
theorem dz.drawn{c:St}(R:dz C L c a w):dz C L c a { w with drawn:=w.drawn+1}:=by have b:fL q_ w { w with drawn:=w.drawn+1}:=⟨rfl,rfl,rfl,Nat.le_succ _,bu _,λ_ _ _=>rfl,λ_ cells _ h=>⟨cells,h,rfl⟩⟩;exact⟨R.mem.F_ b,λi=>(R.aT i).dI b.Fg λ_ _=>rfl,R.aN.trans b (λ_ _ h=>h) (λ_ _ h=>h.elim),R.aW,R.aS,R.defers,R.size⟩
def fF(a:aw)(o:Oper)(b:St):Prop:=o.guard=none\/∃j want t,o.guard=some (j,want)/\(a[j]?).bind (·.dst)=some t/\b.aT t=.e (.c (.d (.sc (.bool want))))
def looks(a:aw)(o:Oper):List Nat:=
 (o.op.operands.toList.filterMap λ|.tmp t=>some t|_=>none)++(match o.guard with|none=>[]|some (j,_)=>((a[j]?).bind (·.dst)).toList)
def auM{b c:St}(h:∀t,x=.tmp t->c.aT t=b.aT t):c.ev x=b.ev x:=by
 match x with
 |.tmp t=>exact h t rfl
 |.const v=>rfl
 |.func f=>rfl
 |.global a=>rfl
def fF.congr{a τ:St}(h:fF Z o a)(d:∀t∈looks Z o,τ.aT t=a.aT t):fF Z o τ:=by
 rcases h with h|⟨j,want,t,b,c,e⟩
 ·exact .inl h
 ·exact .inr ⟨j,want,t,b,c,by rw[d t (by simp[looks,b,c]),e]⟩
def vt:List Oper->List (List Nat)->List (List Nat)
 |[],a=>a
 |o::r,a=>vt r (a++[((o.after.toList.filter (Region.binds .any)).flatMap λe=>e.on::(a[e.on]?).getD []).eraseDups])
def Gj(a b:au):Bool:=a.any λx=>b.contains x
theorem NW(S:aq)(h:List Oper)(f:∀(j:Nat)(o:Oper),h[j]?=some o->S j->∀e∈o.after.toList,Region.binds .any e=true->S e.on):
 ∀(r c:List Oper) (a:List (List Nat)),c++r=h->a.length=c.length->(∀j i,i∈(a[j]?).getD []->S j->S i)->∀j i,i∈((vt r a)[j]?).getD []->S j->S i
 |[],_,a,_,_,k=>k
 |o::r,c,a,t,q,k=>by
  simp only[vt];refine NW S h f r (c++[o]) _ (an t) (by simp[q]) (λj i b s=>?_);rw[B2]at b;split at b
  ·exact k j i b s
  ·rename_i v;by_cases m:j=a.length
   ·subst m;simp only[rT,jH,ie]at b;rw[List.mem_eraseDups]at b;simp only[vk,iZ]at b;obtain⟨e,⟨p,n⟩,b⟩:=b;have u:h[a.length]?=some o:=by rw[<-t,q];simp
    have d:=f _ o u s e p n;rcases dC.1 b with rfl|b
    ·exact d
    ·exact k _ i b d
   ·rw[gp (by simp;omega)]at b;simp at b
def an9(d:List Oper)(k:∀(j:Nat)(o:Oper),d[j]?=some o->∀e∈o.after.toList,Region.binds .any e=true->e.on<j):∀(j i:Nat),i∈((vt d [])[j]?).getD []->i<j:=by
 have m:∀(r c:List Oper) (b:List (List Nat)),c++r=d->b.length=c.length->(∀(j i:Nat),i∈(b[j]?).getD []->i<j)->∀(j i:Nat),i∈((vt r b)[j]?).getD []->i<j:=by
  intro r
  induction r with
  |nil=>intro c b _ _ h;exact h
  |cons o r v=>
   intro c b u s t;simp only[vt];refine v (c++[o]) _ (an u) (by simp[s]) (λj i a=>?_);rw[B2]at a;split at a
   ·exact t j i a
   ·rename_i x;by_cases n:j=b.length
    ·subst n;simp only[rT,jH,ie]at a;rw[List.mem_eraseDups]at a;simp only[vk,iZ]at a;obtain⟨e,⟨q,p⟩,a⟩:=a;have w:d[b.length]?=some o:=by rw[<-u,s];simp
     have f:=k _ o w e q p;rcases dC.1 a with rfl|a
     ·exact f
     ·exact Nat.lt_trans (t _ i a) f
    ·rw[gp (by simp;omega)]at a;simp at a
 exact m d [] [] rfl rfl (λj i a=>by simp at a)
def Kw{a:au}(c:n∈a)(d:n∈b):Gj a b=true:=by simp only[Gj,uf,List.contains_iff_mem];exact⟨n,c,d⟩
section
variable (l:List Oper)(X:Nat→St)(S:Nat→Prop)[DecidablePred S]
def kT:Nat->Nat->T
 |0,i=>(X 0).aT i
 |m+1,i=>if S m/\(l[m]?).bind (·.dst)=some i then(X (m+1)).aT i else kT m i
end
def auX{P:ay}{w':World}(b:o.op=.call { callee:=.builtin .copy,args:=#[x,u],argTypes:=#[t,e]})
 (h:(Builtin.copy_ #[t,e] o.type #[a.eval x,a.eval u]).run P w=.ok v w'):(execOp a.eval o).run P w=.ok (.value v) w':=by
 simp[execOp,b,resolve,invoke,builtin,h]
theorem eX.copy{P:ay}{n:Nat}{aS:aq}{σ:St}(x y:ax)(t t':TypeId)(ho:o.op=.call { callee:=.builtin .copy,args:=#[x,y],argTypes:=#[t,t']})
 (s k f len:Nat)(D src:List V)(m:Nat)(hx:σ.ev x=.e (.c (.sub s k f len)))(Y:σ.heap s=some D)(hcs:f+len*k<=D.length)(hy:mS k σ.heap (σ.ev y)=some (src,m))
 (e:TypeId)(ht:jF P t=some e)(hk:fb P e=some k)(hd:jy n o.dst):
 eX P n aS o σ ⟨(σ.put o.dst (.e (.c (.d (.sc (.int .i64 (min m len:Nat))))))).aT,cX σ.heap s (some (kL D f (src.take (min m len*k))))⟩:=by
 intro C hn hstay a w ⟨γ,R⟩ K Q hK;have h1:=R.ev x;rw[hx]at h1;obtain⟨B,c,H,hvy,L,hul,M⟩:=Mb R.mem hy (R.ev y);have hdd:jy C.nt o.dst:=by rw[hn];exact hd
 have hu:=u9 ht;have N:=od hk w;have me:∀(w':World),dz C γ ⟨σ.aT,cX σ.heap s (some (kL D f (src.take (min m len*k))))⟩ a w'->K (a.put o.dst (.int .i64 (min m len:Nat))) w':=by
  intro w' R';refine hK _ _ ⟨γ,?_⟩;have:=R'.Bu o.dst hdd (.int .i64 (min m len:Nat)) (.e (.c (.d (.sc (.int .i64 (min m len:Nat)))))) (.sc _ rfl);have e1:(St.put ⟨σ.aT,cX σ.heap s (some (kL D f (src.take (min m len*k))))⟩ o.dst (.e (.c (.d (.sc (.int .i64 (min m len:Nat)))))))=⟨(σ.put o.dst (.e (.c (.d (.sc (.int .i64 (min m len:Nat))))))).aT,cX σ.heap s (some (kL D f (src.take (min m len*k))))⟩:=by cases o.dst<;>rfl
  rw[e1]at this;exact this
 have q:(H.take (min m len*k)).length=min m len*k:=by have:min m len*k<=m*k:=jI _ (Nat.min_le_left _ _);simp;omega
 have hmk:min m len*k<=len*k:=jI _ (Nat.min_le_right _ _);have l:(Builtin.firstCells k (min m len) (.slice B m c)).run P w=.ok (H.take (min m len*k)).toArray w:=by
  by_cases hm:m=0
  ·subst hm;have hus:H=[]:=fc (an hul);subst hus;cases B<;>simp[Builtin.firstCells,loadCells,loadCellsFrom]
  ·obtain⟨ad,rfl,E⟩:=M hm;have:=run_loadCells_list (P:=P) w ad (H.take (min m len*k)) (λj u Z=>E j u (by
    rw[rM]at Z;split at Z
    ·exact Z
    ·cases Z))
   rw[q]at this;simpa[Builtin.firstCells]using this
 have i:∀(A:Option Addr)(r:Nat)(w':World),a.eval x=.slice A len r->(match A with|some ad=>(storeCells ad (H.take (min m len*k))).run P w=.ok () w'|none=>w'=w)->
  (execOp a.eval o).run P w=.ok (.value (.int .i64 (min m len:Nat))) w':=by
  intro A r w' hv h;refine auX ho ?_;rw[hv,hvy];cases A with
  |none=>simp only at h;subst h;simp only[Builtin.copy_,HR,jH,yr,Sem.run_bind,run_underlying hu,Result.andThen_ok,Builtin.lenOf,Sem.run_pure,N];have:m.min len=min m len:=rfl;rw[this,l];simp[goInt]
  |some ad=>simp only at h;simp only[Builtin.copy_,HR,jH,yr,Sem.run_bind,run_underlying hu,Result.andThen_ok,Builtin.lenOf,Sem.run_pure,N];have:m.min len=min m len:=rfl;rw[this,l];simp[goInt,h]
 rcases h1 with⟨b,r,cells,ty,hg,p,hlc,hcm,hbb,hroom⟩|⟨hg,h0,T,p⟩|⟨b,off',hg,h0,p⟩
 ·obtain⟨t0,vs,spare,U,X⟩:=R.IH Y hg hbb;have T:=X.1;have h:=run_storeCells_at P b f t0 (H.take (min m len*k)) 0 (vs++spare).toArray w U (by rw[q];simp;omega) (λv hv=>L.xE v (oi hv));simp only[sV]at h;rw[aie vs _ spare f (by rw[q];omega)]at h;refine my (i _ r _ p h) (me _ ?_);refine R.zB hg U (by rw[c_,c_,c_,q];simp;omega) (Ty f X (L.take _)) (by rw[Y];simp)
 ·subst T;have z:min m 0=0:=O;refine my (i none 0 w p rfl) (me _ ?_);have G:cX σ.heap s (some (kL D f (src.take (min m 0*k))))=σ.heap:=by
   funext u;simp only[cX];split
   ·rename_i e;subst e;rw[z,Y];simp[kL]
   ·rfl
  rw[G];exact R
 ·subst h0;have z:min m 0=0:=O;refine my (i _ 0 w p (by simp[z,storeCells])) (me _ ?_);have G:cX σ.heap s (some (kL D f (src.take (min m 0*k))))=σ.heap:=by
   funext u;simp only[cX];split
   ·rename_i e;subst e;rw[z,Y];simp[kL]
   ·rfl
  rw[G];exact R
section
variable {P:ay}{n:Nat}{aS:Nat→Prop}{σ:St}{c:Code}{Q:lI}
def axr{b:List (List D)}(h:dE w M (.sl b) v):b.length<=9223372036854775807:=by
 cases h with
 |sl _ k e A U d a=>simp only[maxLen]at a;omega
end
inductive Pl where
 |t (x:T)
 |h (x:Option (List V))
def St.at(a:St)(l:Nat):Pl:=if l%2=0 then .t (a.aT (l/2))else .h (a.heap (l/2))
def Pl.bK:Pl->Nat->Prop
 |.t x,s=>x.bK s
 |.h (some a),s=>∃v∈a,v.bK s
 |.h none,_=>False
def Cn(a:St)(i:Nat):a.at (2*i)=.t (a.aT i):=by unfold St.at;rw[aK O,show 2*i/2=i by omega]
def Co(a:St)(s:Nat):a.at (2*s+1)=.h (a.heap s):=by unfold St.at;rw[g O,show(2*s+1)/2=s by omega]
def St.FJ{a τ:St}(h:∀l,a.at l=τ.at l):a=τ:=by
 obtain⟨e,H⟩:=a;obtain⟨e',H'⟩:=τ;have b:e=e':=funext λi=>by have:=h (2*i);rw[Cn,Cn]at this;injection this
 have c:H=H':=funext λs=>by have:=h (2*s+1);rw[Co,Co]at this;injection this
 rw[b,c]
def ly(b a:St)(c:au):St:=⟨λi=>if 2*i∈c then a.aT i else b.aT i,λs=>if 2*s+1∈c then a.heap s else b.heap s⟩
def Lg(b a:St)(c:au)(l:Nat):(ly b a c).at l=if l∈c then a.at l else b.at l:=by
 unfold St.at ly;by_cases h:l%2=0
 ·rw[aK h,aK h,aK h];have e:2*(l/2)=l:=O;simp only[e];split<;>rfl
 ·rw[g h,g h,g h];have e:2*(l/2)+1=l:=O;simp only[e];split<;>rfl
structure Ft where
 rd:List Nat
 wr:List Nat
 kl:List Nat
structure LQ(P:ay)(n:Nat)(aS:aq)(ops:aw)(j:Nat)(σ σ':St)(f:Ft):Prop where
 frame:∀l,l∉f.wr->σ'.at l=σ.at l
 go:∀τ:St,(∀l,l∈f.rd\/l∈f.wr->τ.at l=σ.at l)->(∀s∈f.kl,∀l,l∉f.wr->¬(τ.at l).bK s)->
  ∀C:dY,C.nt=n->C.aS=aS->∀a w,gN C τ a w->∀(K:Act->World->Prop)(Q:Exit->Act->World->Prop),(∀a' w',gN C (ly τ σ' f.wr) a' w'->K a' w')->wpOp P ops Q j K a w
def IY(b a:Ft):Bool:=Gj b.wr a.rd||Gj b.wr a.wr||Gj a.wr b.rd
def Au(a:aw)(fp:List Ft):Bool:=
 let l:=a.toList
 let A:=vt l []
 ((List.range l.length).all λj=>match l[j]? with|some o=>o.after.toList.all (λe=>!Region.binds .any e||decide (e.on<j))|none=>false)&&(List.range l.length).all λj=>(List.range j).all λi=>
   match fp[i]?,fp[j]? with
   |some c,some b=>!IY c b||((A[j]?).getD []).contains i
   |_,_=>false
def YO{ops:aw}{fp:List Ft}(h:Au ops fp=true){j:Nat}(a:ops.toList[j]?=some o){e:Edge}(b:e∈o.after.toList)(c:Region.binds .any e=true):e.on<j:=by
 unfold Au at h;simp only[dB,eM,ol]at h;have d:j<ops.toList.length:=(dM.1 a).1;have:=h.1 j d;rw[a]at this;simp only[eM,vd,be]at this;rcases this e b with h|h
 ·simp[c]at h
 ·exact h
def YN{fp:List Ft}(h:Au Z fp=true)(a:i<n)(b:n<Z.toList.length){e f:Ft}(c:fp[i]?=some e)(d:fp[n]?=some f)
 (k:IY e f=true):i∈((vt Z.toList [])[n]?).getD []:=by
 unfold Au at h;simp only[dB,eM,ol]at h;have:=h.2 n b i a;rw[c,d]at this;simp only[vd]at this;rcases this with h|h
 ·simp[k]at h
 ·simpa using h
section
variable (fp:List Ft)(X:Nat→St)(S:Nat→Prop)[DecidablePred S]
def oS(m:Nat):List Nat:=((fp[m]?).map (·.wr)).getD []
def oF:Nat->St
 |0=>X 0
 |m+1=>if S m then ly (oF m) (X (m+1)) (oS fp m)else oF m
end
def KA(fp:List Ft)(X:Nat->St)(S:aq) [DecidablePred S](m l:Nat):(oF fp X S (m+1)).at l=if S m/\l∈oS fp m then(X (m+1)).at l else(oF fp X S m).at l:=by
 simp only[oF];by_cases h:S m
 ·rw[aK h,Lg];simp[h]
 ·rw[g h,g (λa=>h a.1)]
theorem adr(fp:List Ft)(X:Nat->St)(S a:aq) [DecidablePred S] [DecidablePred a](l:Nat)(h:∀k,l∈oS fp k->(S k↔a k)):∀m,(oF fp X S m).at l=(oF fp X a m).at l
 |0=>rfl
 |m+1=>by
  rw[KA,KA,adr fp X S a l h m];by_cases b:l∈oS fp m
  ·simp only[b,and_true,h m b]
  ·simp only[b,and_false,mK]
theorem ads(fp:List Ft)(X:Nat->St)(S:aq) [DecidablePred S](l:Nat):∀m,∃k,k<=m/\(oF fp X S m).at l=(X k).at l
 |0=>⟨0,bu _,rfl⟩
 |m+1=>by
  rw[KA];split
  ·exact⟨m+1,bu _,rfl⟩
  ·obtain⟨k,b,a⟩:=ads fp X S l m;exact⟨k,O,a⟩
section
variable {fp:List Ft}{X:Nat→St}
theorem Gk(f:∀(m l:Nat),l∉oS fp m->m<fp.length->(X (m+1)).at l=(X m).at l)(S:aq) [DecidablePred S](l j:Nat)(i:∀k,k<j->l∈oS fp k->S k)(h:∀k,j<=k->l∈oS fp k->¬S k):
 ∀m,m<=fp.length->(oF fp X S m).at l=(X (min m j)).at l
 |0,_=>by simp[oF]
 |m+1,o=>by
  have c:=Gk f S l j i h m O;rw[KA];by_cases d:m<j
  ·rw[show min (m+1) j=m+1 by omega];rw[show min m j=m by omega]at c;split
   ·rfl
   ·rename_i n;rw[c];by_cases e:l∈oS fp m
    ·exact absurd ⟨i m d e,e⟩ n
    ·exact(f m l e O).symm
  ·rw[show min (m+1) j=j by omega];rw[show min m j=j by omega]at c;rw[g (by rintro⟨a,b⟩;exact h m O b a)];exact c
end
def aCZ{aS:aq}{ops:aw}{fp:List Ft}{X:Nat->St}(hlen:fp.length=ops.size)
 (hX:∀(j:Nat)(f:Ft),fp[j]?=some f->LQ P n aS ops j (X j) (X (j+1)) f)(hc:Au ops fp=true)
 (c:∀(j:Nat)(f:Ft),fp[j]?=some f->∀s∈f.kl,∀m,m<=ops.size->∀l,l∉f.wr->¬((X m).at l).bK s)
  (hn:C.nt=n)(Y:C.aS=aS){a:Act}(R:gN C (X 0) a w){Q:Exit->Act->World->Prop}(hQ:∀a' w',gN C (X ops.size) a' w'->Q .normal a' w'):wpAny P .any ops Q ops.size (Array.replicate ops.size false) a { w with drawn:=w.drawn+1}:=by
 have hsz:ops.toList.length=ops.size:=ai;have hF:∀(m l:Nat),l∉oS fp m->m<fp.length->(X (m+1)).at l=(X m).at l:=by intro m l G hml;have hf:fp[m]?=some fp[m]:=ca hml;refine(hX m _ hf).frame l ?_;simpa[oS,hf]using G
 have wr_lt:∀(k l:Nat),l∈oS fp k->k<ops.size:=by
  intro k l h;rcases B8 k ops.size with h'|h'
  ·exact h'
  ·simp[oS,gp (show fp.length<=k by omega)]at h
 have key:∀(p:Nat)(U:au)(listed:Array Bool)(a:Act)(w:World),U.length<=p->listed.size=ops.size->(∀i,i<ops.size->listed.getD i false=false->i∈U)->
  (∀(j:Nat)(o:Oper),ops.toList[j]?=some o->listed.getD j false=true->∀e∈o.after.toList,Region.binds .any e=true->listed.getD e.on false=true)->
  gN C (oF fp X (λi=>listed.getD i false=true) ops.size) a w->wpAny P .any ops Q p listed a w:=by
  intro p
  have allDone:∀(listed:Array Bool)(a:Act)(w:World),(∀i,i<ops.size->listed.getD i false=true)->
   gN C (oF fp X (λi=>listed.getD i false=true) ops.size) a w->Q .normal a w:=by
   intro listed a w r R;refine hQ a w ?_;have e1:oF fp X (λi=>listed.getD i false=true) ops.size=X ops.size:=by
    refine St.FJ λl=>?_
    have:=Gk hF (λi=>listed.getD i false=true) l ops.size (λk c _=>r k c) (λk c d=>by have:=wr_lt k l d;omega) ops.size O;rw[this,Nat.min_self]
   rw[e1]at R;exact R
  have noneReady:∀(listed:Array Bool),listed.size=ops.size->Region.ready .any ops listed=[]->∀i,i<ops.size->listed.getD i false=true:=by
   intro listed H hre i
   induction i using Nat.strongRecOn with
   |_ i ih=>
    intro q;cases V:listed.getD i false with
    |true=>rfl
    |false=>
     exfalso;have ho:ops[i]?=some ops[i]:=D5 q;have Z:i∈Region.ready .any ops listed:=by
      simp only[Region.ready,iZ,ol];refine⟨q,?_⟩;have hl1:listed.getD i true=false:=by have:i<listed.size:=O;simp[this]at V⊢;exact V
      rw[hl1,ho];simp only[Bool.not_false,BN,dH,ie,Array.all_eq_true'];intro e z;by_cases u:Region.binds .any e=true
      ·have hlt:=YO hc (j:=i) (o:=ops[i]) ai (an z) u;rw[ih e.on hlt O];simp
      ·simp at u;simp[u]
     rw[hre]at Z;simp at Z
  induction p with
  |zero=>
   intro U listed a w hU H K L R;have hU0:U=[]:=fc O;subst hU0;have r:∀i,i<ops.size->listed.getD i false=true:=λi q=>by
    cases V:listed.getD i false with
    |true=>rfl
    |false=>have:=K i q V;simp at this
   refine⟨?_,allDone listed a w r R⟩;simp only[Region.ready,Wg,ol];intro i q;have:i<listed.size:=O;have h1:=r i q;simp[this]at h1⊢;intro h2;rw[h1]at h2;cases h2
  |succ p ih=>
   intro U listed a w hU H K L R;refine⟨λhre=>allDone listed a w (noneReady listed H hre) R,λj hj=>?_⟩;simp only[Region.ready,iZ,ol]at hj;obtain⟨hjs,hjr⟩:=hj;have hoa:ops[j]?=some ops[j]:=D5 hjs;have ho:ops.toList[j]?=some ops[j]:=ai;rw[hoa]at hjr;simp only[dB,zX,dH,ie,Array.all_eq_true']at hjr;obtain⟨M,N⟩:=hjr;have A:j<listed.size:=O;have hjf:listed.getD j false=false:=by simp[A]at M⊢;exact M
   have B:∀e∈ops[j].after.toList,Region.binds .any e=true->listed.getD e.on false=true:=by intro e z u;have:=N e (an z);simpa[u]using this
   have hf:fp[j]?=some (fp[j]' O):=ca O;have hLS:=hX j _ hf;have D:∀i,i∈((vt ops.toList [])[j]?).getD []->listed.getD i false=true:=by
    intro i q;have:=NW (λk=>listed.getD k false=true\/k=j) ops.toList (λk o c hSk e z u=>by
     rcases hSk with h|rfl
     ·exact .inl (L k o c h e z u)
     ·rw[ho]at c;injection c with c;subst c;exact .inl (B e z u)) ops.toList [] [] rfl rfl (λk i q=>by simp at q) j i q (.inr rfl)
    rcases this with h|rfl
    ·exact h
    ·exfalso;have hlow:=an9 ops.toList (λk o c e z u=>YO hc c z u) i i q;omega
   have T:∀k,listed.getD k false=true->j∈((vt ops.toList [])[k]?).getD []->False:=by intro k c hjk;have:=NW (λk=>listed.getD k false=true) ops.toList L ops.toList [] [] rfl rfl (λk i q=>by simp at q) k j hjk c;rw[hjf]at this;cases this
   have hpl:∀t,(t∈(fp[j]' O).rd\/t∈(fp[j]' O).wr)->(∀k,k<j->t∈oS fp k->listed.getD k false=true)/\(∀k,j<k->t∈oS fp k->¬listed.getD k false=true):=by
    intro t y;refine⟨λk c d=>?_,λk c d G=>?_⟩
    ·have hkl:=wr_lt k t d;have E:fp[k]?=some (fp[k]' O):=ca O;simp only[oS,E,dH,ie]at d;refine D k (YN hc c O E hf ?_);unfold IY;rcases y with y|y
     ·rw[Kw d y];simp
     ·rw[Kw (a:=(fp[k]' O).wr) (b:=(fp[j]' O).wr) d y];simp
    ·have hkl:=wr_lt k t d;have E:fp[k]?=some (fp[k]' O):=ca O;simp only[oS,E,dH,ie]at d;refine T k G (YN hc c O hf E ?_);unfold IY;rcases y with y|y
     ·rw[Kw (a:=(fp[k]' O).wr) (b:=(fp[j]' O).rd) d y];simp
     ·rw[Kw (a:=(fp[j]' O).wr) (b:=(fp[k]' O).wr) y d];simp
   refine hLS.go (oF fp X (λi=>listed.getD i false=true) ops.size) (λt y=>?_) (λs Y l G hnm=>?_) C hn Y a w R _ Q λa' w' R'=>ih (U.erase j) (listed.setIfInBounds j true) a' w' ?_ (by simp[H]) ?_ ?_ ?_
   ·have h1:=hpl t y;have:=Gk hF (λi=>listed.getD i false=true) t j h1.1 (λk c d=>by
     rcases B8 j k with h|h
     ·exact h1.2 k h d
     ·have:k=j:=by omega
      subst this;rw[hjf];simp) ops.size O
    rw[show min ops.size j=j by omega]at this;exact this
   ·obtain⟨k,hk1,hk2⟩:=ads fp X (λi=>listed.getD i false=true) l ops.size;rw[hk2]at hnm;exact c j _ hf s Y k hk1 l G hnm
   ·have:=List.length_erase_of_mem (K j hjs hjf);omega
   ·intro i q V;have hne:i≠j:=by rintro rfl;simp[A]at V
    have hv':listed.getD i false=false:=by rw[getD_set_ne false (Ne.symm hne)]at V;exact V
    exact(List.mem_erase_of_ne hne).2 (K i q hv')
   ·intro k o c G e z u;by_cases v:k=j
    ·subst v;rw[ho]at c;injection c with c;subst c
     exact getD_set_true (B e z u)
    ·rw[getD_set_ne false (λh=>v h.symm)]at G;exact getD_set_true (L k o c G e z u)
   ·have eS:∀k,(listed.setIfInBounds j true).getD k false=true↔(listed.getD k false=true\/k=j):=by
     intro k;by_cases v:k=j
     ·subst v;simp[A]
     ·rw[getD_set_ne false (λh=>v h.symm)];simp[v]
    have e3:oF fp X (λi=>(listed.setIfInBounds j true).getD i false=true) ops.size=ly (oF fp X (λi=>listed.getD i false=true) ops.size) (X (j+1)) (fp[j]' O).wr:=by
     refine St.FJ λt=>?_
     rw[Lg];by_cases d:t∈(fp[j]' O).wr
     ·rw[aK d];have h1:=hpl t (.inr d);have:=Gk hF (λi=>(listed.setIfInBounds j true).getD i false=true) t (j+1) (λk c x=>by
       rw[eS];rcases B8 k j with h|h
       ·exact .inl (h1.1 k h x)
       ·exact .inr O) (λk c x=>by
       rw[eS];rintro(h|h)
       ·exact h1.2 k O x h
       ·omega) ops.size O
      rw[this,show min ops.size (j+1)=j+1 by omega]
     ·rw[g d];exact adr fp X _ _ t (λk x=>by
       rw[eS];constructor
       ·rintro(h|rfl)
        ·exact h
        ·simp only[oS,hf,dH,ie]at x;exact absurd x d
       ·exact .inl) _
    rw[e3];exact R'
 refine key ops.size (List.range ops.size) _ a _ ai ai (λi q _=>by simpa using q) (λj o hj G=>?_) ?_
 ·exfalso;have M:j<ops.size:=by have:=(dM.1 hj).1;omega
  simp[M]at G
 ·have e1:oF fp X (λi=>(Array.replicate ops.size false).getD i false=true) ops.size=X 0:=by
   refine St.FJ λl=>?_
   have:=Gk hF (λi=>(Array.replicate ops.size false).getD i false=true) l 0 (λk c=>O) (λk c d=>by have hkl:=wr_lt k l d;simp[hkl]) ops.size O
   rw[this,show min ops.size 0=0 by omega]
  rw[e1];obtain⟨γ,R0⟩:=R;exact⟨γ,R0.drawn⟩
def wT(ops:aw)(o:Oper)(σ:St):Prop:=∃j want t,o.guard=some (j,want)/\(ops[j]?).bind (·.dst)=some t/\((∃b,σ.aT t=.e (.c (.d (.sc (.bool b))))/\(b==want)=false)\/σ.aT t=.cn [])
def wT.congr{ops:aw}{o:Oper}{σ τ:St}(h:wT ops o σ)(c:∀t∈looks ops o,τ.aT t=σ.aT t):wT ops o τ:=by obtain⟨j,want,t,a,b,d⟩:=h;have e:=c t (by simp[looks,a,b]);exact⟨j,want,t,a,b,by rw[e];exact d⟩
def agc:b6 w M X (.cn []) undef:=⟨[],rfl,rfl,λi x u a=>by simp at a⟩
theorem wT.wanted{ops:aw}{o:Oper}{σ:St}(h:wT ops o σ)(R:gN C σ a w):Region.wanted o (yielded ops a.tmps)=false:=by
 obtain⟨j,want,t,d,e,⟨b,c,i⟩|c⟩:=h
 ·simp[Region.wanted,d,UM R e c];simpa using i
 ·obtain⟨m,R⟩:=R;have h:=R.aT t;rw[c]at h;obtain⟨p,f,q,_⟩:=h;have k:yielded ops a.tmps j=none:=by
   unfold yielded;rw[e];simp only[Ca];cases l:a.tmps[t]? with
   |none=>rfl
   |some v=>simp[MJ,l]at f;rw[f]
  simp[Region.wanted,d,k]
def H_(P:ay)(n:Nat)(aS:aq)(ops:aw)(o:Oper)(b a:St):Prop:=
 (fF ops o b/\eX P n aS o b a)\/(wT ops o b/\jy n o.dst/\a=b.put o.dst (.cn []))
structure SQ(P:ay)(n:Nat)(aS:aq)(ops:aw)(o:Oper)(σ σ':St)(f:Ft):Prop where
 frame:∀l,l∉f.wr->σ'.at l=σ.at l
 go:∀τ:St,(∀l,l∈f.rd\/l∈f.wr->τ.at l=σ.at l)->(∀s∈f.kl,∀l,l∉f.wr->¬(τ.at l).bK s)->H_ P n aS ops o τ (ly τ σ' f.wr)
def aBc{σ σ':St}(h:∀a,a∉l->σ'.at a=σ.at a):ly σ σ' l=σ':=by
 refine St.FJ λa=>?_
 rw[Lg];split
 ·rfl
 ·exact(h a I).symm
def SQ.one{P:ay}{n:Nat}{aS:aq}{ops:aw}{o:Oper}{σ σ':St}{f:Ft}(h:SQ P n aS ops o σ σ' f)(a:∀s∈f.kl,∀l,l∉f.wr->¬(σ.at l).bK s):H_ P n aS ops o σ σ':=by have:=h.go σ (λ_ _=>rfl) a;rwa [aBc h.frame]at this
def fP.one{P:ay}{n:Nat}{aS:aq}{ops:aw}{o:Oper}{rest:List Oper}{σ b:St}{K:St->Prop}(h:H_ P n aS ops o σ b)(c:fP P n aS ops rest b K):fP P n aS ops (o::rest) σ K:=by
 rcases h with⟨d,Y⟩|⟨k,l,rfl⟩
 ·rcases d with d|⟨j,want,t,m,p,q⟩
  ·exact .step d Y c
  ·exact .UL m p q Y c
 ·intro C i e a w R Q s;refine wpList_step λv f=>?_
  rw[g (by rw[k.wanted R];simp)];refine f _ _ (c C i e _ _ ?_ Q s);obtain⟨u,R⟩:=R;exact⟨u,R.Bu o.dst (by rw[i];exact l) undef (.cn []) agc⟩
theorem SQ.lq{P:ay}{n:Nat}{aS:aq}{ops:aw}{o:Oper}{σ b:St}{f:Ft}(h:SQ P n aS ops o σ b f)(l:ops[s]?=some o):LQ P n aS ops s σ b f where
 frame:=h.frame
 go:=by
  intro m p q C e Y a w R K Q k;unfold wpOp;simp only[l];rcases h.go m p q with⟨c,d⟩|⟨u,v,x⟩
  ·have y:Region.wanted o (yielded ops a.tmps)=true:=by
    rcases c with c|⟨i,want,t,z,A,B⟩
    ·simp[Region.wanted,c]
    ·simp[Region.wanted,z,UM R A B]
   rw[aK y];exact .inl (d C e Y a w R K Q k)
  ·rw[g (by rw[u.wanted R];simp)];obtain⟨D,R⟩:=R;refine k _ _ ?_;rw[x];exact⟨D,R.Bu o.dst (by rw[e];exact v) undef (.cn []) agc⟩
def lk(ops:aw)(o:Oper):List Nat:=(looks ops o).map (2* ·)
def dl(o:Oper):List Nat:=o.dst.toList.map (2* ·)
def aas{σ a:St}(h:a.at (2*i)=σ.at (2*i)):a.aT i=σ.aT i:=by rw[Cn,Cn]at h;injection h
def qe{σ a:St}(h:a.at (2*i+1)=σ.at (2*i+1)):a.heap i=σ.heap i:=by rw[Co,Co]at h;injection h
def xx{ops:aw}{o:Oper}{σ a:St}{f:Ft}(b:∀l∈lk ops o,l∈f.rd)(h:∀l,l∈f.rd\/l∈f.wr->a.at l=σ.at l):∀t∈looks ops o,a.aT t=σ.aT t:=
 λt c=>aas (h _ (.inl (b _ (cj.2 ⟨t,c,rfl⟩))))
def qc{ops:aw}{o:Oper}{σ a:St}(h:∀t∈looks ops o,a.aT t=σ.aT t):∀x∈o.op.operands.toList,a.ev x=σ.ev x:=
 λx b=>auM λt c=>h t (by subst c;simp only[looks,dd,Ai];exact .inl ⟨_,b,rfl⟩)
def A7{o:Oper}:2*i∈dl o↔o.dst=some i:=by
 unfold dl;cases o.dst with
 |none=>simp
 |some d=>simp only[Option.toList,dc,gL,dZ,cY];exact⟨λh=>(Nat.eq_of_mul_eq_mul_left ae h).symm,λh=>by rw[h]⟩
def K_{o:Oper}:2*s+1∉dl o:=by
 unfold dl;cases o.dst with
 |none=>simp
 |some d=>simp;omega
def Dv(σ:St)(o:Oper)(r:T)(l:Nat)(h:l∉dl o):(σ.put o.dst r).at l=σ.at l:=by
 unfold St.at;split
 ·rename_i e;rw[rf,g];intro a;exact h (by rw[show l=2*(l/2)by omega];exact A7.2 a)
 ·rw[Dw]
def Gy(a σ:St)(o:Oper)(r:T):ly a (σ.put o.dst r) (dl o)=a.put o.dst r:=by
 have f:(ly a (σ.put o.dst r) (dl o)).aT=(a.put o.dst r).aT:=by funext i;simp only[ly,rf,A7];split<;>simp_all
 have d:(ly a (σ.put o.dst r) (dl o)).heap=(a.put o.dst r).heap:=by funext s;simp only[ly,Dw,K_,mK]
 cases b:ly a (σ.put o.dst r) (dl o)with|mk e H=>cases c:a.put o.dst r with|mk h j=>rw[b,c]at f d;simp only at f d;rw[f,d]
section
variable {P:ay}{n:Nat}{aS:Nat→Prop}{ops:aw}{o:Oper}{σ:St}{r:T}
theorem SQ.pure(a:fF ops o σ)(h:iu P o σ.ev r)(b:jy n o.dst):SQ P n aS ops o σ (σ.put o.dst r) ⟨lk ops o,dl o,[]⟩where
 frame l hl:=Dv σ o r l hl
 go d c _:=by have hl:=xx (λl h=>h) c;rw[Gy];exact .inl ⟨a.congr hl,.aA2 (h.congr (qc hl)) b⟩
theorem SQ.skip(a:wT ops o σ)(b:jy n o.dst):SQ P n aS ops o σ (σ.put o.dst (.cn [])) ⟨lk ops o,dl o,[]⟩where
 frame l hl:=Dv σ o _ l hl
 go d c _:=by have hl:=xx (λl h=>h) c;rw[Gy];exact .inr ⟨a.congr hl,b,rfl⟩
theorem SQ.load(i:fF ops o σ)(t:TypeId)(x:ax)(s a:Nat)(b:List V)(f:o.op=.load t x)(p:σ.ev x=.e (.c (.ptr s a)))(m:σ.heap s=some b)(k:mM P t b a=some r)(j:jy n o.dst):
 SQ P n aS ops o σ (σ.put o.dst r) ⟨(2*s+1)::lk ops o,dl o,[]⟩where
 frame l hl:=Dv σ o r l hl
 go q d _:=by have hl:=xx (λl h=>cE _ h) d;rw[Gy];exact .inl ⟨i.congr hl,.load t x f s a b r (by rw[qc hl x (by simp[f,Op.operands]),p]) (by rw[qe (d (2*s+1) (.inl ai)),m]) k j⟩
theorem SQ.block{d:St}{rd:au}(s:Nat)(c:Option (List V))(e:d=⟨(σ.put o.dst r).aT,cX σ.heap s c⟩)(i:∀l∈lk ops o,l∈rd)
 (go:∀a:St,(∀l,l∈rd\/l∈(2*s+1)::dl o->a.at l=σ.at l)->(∀t∈looks ops o,a.aT t=σ.aT t)->H_ P n aS ops o a ⟨(a.put o.dst r).aT,cX a.heap s c⟩):SQ P n aS ops o σ d ⟨rd,(2*s+1)::dl o,[]⟩where
 frame l hl:=by
  subst e;simp only[dC,not_or]at hl;have:=Dv σ o r l hl.2;unfold St.at at this⊢;split
  ·rename_i e;rw[aK e,aK e]at this;exact this
  ·rename_i e;simp only[cX];rw[g O]
 go a j _:=by
  have hl:=xx (f:=⟨rd,(2*s+1)::dl o,[]⟩) i j;have:=go a j hl;have m:ly a d ((2*s+1)::dl o)=⟨(a.put o.dst r).aT,cX a.heap s c⟩:=by
   subst e;refine St.FJ λl=>?_
   rw[Lg];unfold St.at;by_cases k:l%2=0
   ·simp only[k,oC];by_cases b:l∈(2*s+1)::dl o
    ·rw[aK b];have:l∈dl o:=(dC.1 b).resolve_left O;rw[show l=2*(l/2)by omega,A7]at this;simp only[rf,this,oC]
    ·rw[g b];have:¬o.dst=some (l/2):=λh=>b (cE _ (by rw[show l=2*(l/2)by omega];exact A7.2 h))
     simp only[rf,this,mK]
   ·simp only[k,mK];by_cases b:l∈(2*s+1)::dl o
    ·rw[aK b];have Y:l=2*s+1:=(dC.1 b).resolve_right (λh=>by rw[show l=2*(l/2)+1 by omega]at h;exact K_ h);have:l/2=s:=O;simp only[cX,this,oC]
    ·rw[g b];have:¬l/2=s:=λh=>b (by rw[dC];exact .inl O)
     simp only[cX,this,mK]
  rw[m];exact this
def SQ.alloc(e:fF ops o σ)(d:Nat)(b:List V)(h:t_ P o σ.ev d b r)(i:jy n o.dst)(a:¬aS d)(f:σ.heap d=none):
 SQ P n aS ops o σ ⟨(σ.put o.dst r).aT,cX σ.heap d (some b)⟩ ⟨lk ops o,(2*d+1)::dl o,[]⟩:=
 SQ.block d (some b) rfl (λ_ h=>h) λk j c=>.inl ⟨e.congr c,.aeE (h.congr (qc c)) i (by rw[qe (j (2*d+1) (.inr ai)),f]) a⟩
def Ls{σ:St}{r:T}:σ.put none r=σ:=rfl
theorem SQ.store(q:fF ops o σ)(t:TypeId)(x y:ax)(i:o.op=.store t x y)(b:o.dst=none)(s a:Nat)(f:List V)(e:E)(m:Nat)
 (k:σ.ev x=.e (.c (.ptr s a)))(j:σ.ev y=.e e)(Y:σ.heap s=some f)(l:fb P t=some m)(p:e.cells.length=m)(hlen:a+m<=f.length)(u:dy f=true):
 SQ P n aS ops o σ ⟨σ.aT,cX σ.heap s (some (kL f a e.cells))⟩ ⟨lk ops o,(2*s+1)::dl o,[]⟩:=
 SQ.block (r:=.any) s (some (kL f a e.cells)) (by rw[b,Ls]) (λ_ h=>h) λw v d=>by
  rw[b,Ls];refine .inl ⟨q.congr d,.store t x y i b s a f e m ?_ ?_ (by rw[qe (v (2*s+1) (.inr ai)),Y]) l p hlen u⟩
  ·rw[qc d x (by simp[i,Op.operands]),k]
  ·rw[qc d y (by simp[i,Op.operands]),j]
end
def V.jJ(s:Nat):V->Bool
 |.ptr t _=>t==s
 |.sub t _ _ _=>t==s
 |.cr _ a=>a.any λp=>p.1==s
 |.mp t=>t==s
 |.ty t _ _=>t==s
 |_=>false
def E.jJ(s:Nat):E->Bool
 |.c v=>v.jJ s
 |.agg a=>a.any (V.jJ s)
def T.jJ(s:Nat):T->Bool
 |.e x=>x.jJ s
 |.cn a=>a.any (E.jJ s)
 |.any=>false
def V.nB{x:V}:x.jJ s=true↔x.bK s:=by cases x<;>simp[V.jJ,V.bK]
theorem E.nB{x:E}:x.jJ s=true↔x.bK s:=by
 cases x with
 |c v=>exact V.nB
 |agg a=>simp[E.jJ,E.bK,V.nB]
theorem T.nB{x:T}:x.jJ s=true↔x.bK s:=by
 cases x with
 |e v=>exact E.nB
 |cn a=>simp[T.jJ,T.bK,E.nB]
 |any=>simp[T.jJ,T.bK]
def V.xt{x:V}(h:¬x.bK s):x.b_ s=x:=by cases x<;>simp_all[V.b_,V.bK]
theorem HA:∀{a:List V},(¬ ∃v∈a,v.bK s)->a.map (V.b_ s)=a
 |[],_=>rfl
 |x::a,h=>by
  have b:¬ ∃v∈a,v.bK s:=λ⟨v,c,d⟩=>h ⟨v,cE _ c,d⟩
  rw[dc,V.xt (λe=>h ⟨x,ai,e⟩),HA b]
theorem E.xt{x:E}(h:¬x.bK s):x.b_ s=x:=by
 cases x with
 |c v=>simp only[E.b_,V.xt h]
 |agg a=>simp only[E.b_,HA h]
theorem Vn:∀{a:List E},(¬ ∃v∈a,v.bK s)->a.map (E.b_ s)=a
 |[],_=>rfl
 |x::a,h=>by
  have b:¬ ∃v∈a,v.bK s:=λ⟨v,c,d⟩=>h ⟨v,cE _ c,d⟩
  rw[dc,E.xt (λe=>h ⟨x,ai,e⟩),Vn b]
theorem T.xt{x:T}(h:¬x.bK s):x.b_ s=x:=by
 cases x with
 |e v=>simp only[T.b_,E.xt h]
 |cn a=>simp only[T.b_,Vn h]
 |any=>rfl
def eX.tX{aS:aq}{c b σ2:St}(h:eX P n aS o c b)(i:dm n aS b σ2):eX P n aS o c σ2:=
 λC d Y a w R K Q j=>h C d Y a w R K Q λe f k=>j e f (i C d Y e f k)
def dm.NY{aS:aq}{σ:St}{e:Nat->T}(h:∀i,e i=σ.aT i\/e i=.any):dm n aS σ ⟨e,σ.heap⟩:=by
 intro C c Y a w ⟨b,R⟩;refine⟨b,R.mem,λi=>?_,R.aN,R.aW,R.aS,R.defers,R.size⟩;rcases h i with h|h
 ·show b6 _ _ _ (e i) _;rw[h];exact R.aT i
 ·show b6 _ _ _ (e i) _;rw[h];trivial
def dm.aC6{aS:aq}{A:St}(s s' d k L:Nat){cs:List V}(hd:A.aT d=.e (.c (.sub s k 0 L)))(he:∀i,i≠d->¬(A.aT i).bK s)(hh:∀u cs,A.heap u=some cs->¬ ∃v∈cs,v.bK s)
 (Y:A.heap s=some cs)(E:A.heap s'=none)(hst:¬aS s)(M:¬aS s'):
 dm n aS A ⟨iX A.aT d (.e (.c (.sub s' k 0 L))),λu=>if u=s' then some cs else if u=s then none else A.heap u⟩:=by
 intro C hn q a w ⟨B,R⟩;have hne:s≠s':=by rintro rfl;rw[Y]at E;cases E
 have N:B s'=none:=R.mem.fW s' E
 let f:G:=λu=>if u=s' then B s else if u=s then none else B u
 have P:f s'=B s:=by simp[f]
 have g2:f s=none:=by simp[f,hne]
 have g3:∀u,u≠s'->u≠s->f u=B u:=λu j l=>by simp[f,j,l]
 have r:∀u,u≠s->B u≠none->f u=B u:=λu j l=>g3 u (by rintro rfl;exact l N) j
 have y:∀u b,f u=some b->∃t,B t=some b/\(u=s'/\t=s\/u≠s'/\u≠s/\t=u):=by
  intro u b h;by_cases j:u=s'
  ·subst j;exact⟨s,by rw[<-P];exact h,.inl ⟨rfl,rfl⟩⟩
  ·by_cases l:u=s
   ·subst l;rw[g2]at h;cases h
   ·exact⟨u,by rw[<-g3 u j l];exact h,.inr ⟨j,l,rfl⟩⟩
 have H:la C.M B f w w:=by refine⟨bu _,λ_ _=>rfl,λb hb u hu=>?_,λ_ cells _ h=>⟨cells,h,rfl⟩⟩;obtain⟨t,T,_⟩:=y u _ hu;exact hb.2.2 t T
 refine⟨f,⟨R.mem.gG,λu v b j l=>?_,λu b j=>?_,λu h=>?_,λu cs0 h=>?_,R.mem.iU.dI H⟩,λi=>?_,R.aN,λu b h=>?_,λu h=>?_,R.defers,R.size⟩
 ·obtain⟨t1,m,c1⟩:=y u _ j;obtain⟨t2,z,c2⟩:=y v _ l;have:=R.mem.inj t1 t2 b m z;omega
 ·obtain⟨t1,m,_⟩:=y u _ j;exact R.mem.nm t1 b m
 ·simp only at h;split at h
  ·cases h
  ·split at h
   ·rename_i e;rw[e];exact g2
   ·rename_i m z;rw[g3 u m z];exact R.mem.fW u h
 ·simp only at h;have tr:∀t p,A.heap t=some p->f u=B t->(∃(b:Nat)(Z:TypeId)(U spare:av),f u=some (some b)/\w.heap[b]?=some (.cells (U++spare).toArray Z (0,0))/\bR w C.M f p U)\/(f u=some none/\p=[])\/(∃(b:Nat)(D:Array MapEntry)(K:Nat),f u=some (some b)/\w.heap[b]?=some (.map D K)/\p=[.dV (D.toList.map λe=>(e.key,e.val))]):=by
   intro t p T hg;rcases R.mem.fe t p T with⟨b,Z,U,sp,m,z,X⟩|⟨m,z⟩|⟨b,en,K,m,z,X⟩
   ·exact .inl ⟨b,Z,U,sp,hg.trans m,z,X.dI H λx Q=>r x (by rintro rfl;exact hh t p T Q) (X.named x Q)⟩
   ·exact .inr (.inl ⟨hg.trans m,z⟩)
   ·exact .inr (.inr ⟨b,en,K,hg.trans m,z,X⟩)
  split at h
  ·rename_i e;subst e;injection h with h;subst h
   exact tr s cs Y P
  ·split at h
   ·cases h
   ·rename_i m z;exact tr u cs0 h (g3 u m z)
 ·show b6 w C.M f (iX A.aT d _ i) _;unfold iX;split
  ·rename_i e;subst e;have j:=R.aT i;rw[hd]at j;rcases j with⟨b,cap,cells,t,j,l⟩|⟨j,l⟩|⟨b,o,j,l⟩
   ·exact .inl ⟨b,cap,cells,t,P.trans j,l⟩
   ·exact .inr (.inl ⟨P.trans j,l⟩)
   ·exact .inr (.inr ⟨b,o,P.trans j,l⟩)
  ·rename_i e;exact(R.aT i).dI H λx Q=>r x (by rintro rfl;exact he i e Q) ((R.aT i).named x Q)
 ·obtain⟨t1,m,_⟩:=y u _ h;exact R.aW t1 b m
 ·rw[q]at h;rw[g3 u (by rintro rfl;exact M h) (by rintro rfl;exact hst h)];exact R.aS u (by rw[q];exact h)
def aii{x:T}(h:∀s,x.bK s->A s=H s):mS n A x=mS n H x:=by unfold mS;split<;>first|rfl|rename_i s _ _ _;rw[h s rfl]|skip
def lu(l:au):List Nat:=l.map λs=>2*s+1
def tm(l:au):List Nat:=l.map λs=>2*s
def xz:2*i∈tm l↔i∈l:=by
 simp only[tm,cj];constructor
 ·rintro⟨j,a,h⟩;have:j=i:=O;exact this▸a
 ·exact λh=>⟨i,h,rfl⟩
def qZ:2*i+1∈lu l↔i∈l:=by
 simp only[lu,cj];constructor
 ·rintro⟨j,a,h⟩;have:j=i:=O;exact this▸a
 ·exact λh=>⟨i,h,rfl⟩
def Jy:2*i∉lu l:=by simp only[lu,cj];rintro⟨j,a,h⟩;omega
def Lb:2*i+1∉tm l:=by simp only[tm,cj];rintro⟨j,a,h⟩;omega
def Cm(a:St)(d s c k b:Nat)(j:List V)(h f:au):St:=
 ⟨iX (λi=>if i∈h then .any else a.aT i) d (.e (.c (.sub c k 0 b))),λu=>if u=c then some j else if u=s then none else if u∈f then(a.heap u).map (List.map (V.b_ s))else a.heap u⟩
theorem SQ.append{P:ay}{aS:aq}{σ:St}(hg:fF Z o σ)(x y:ax)(t:TypeId)(ho:o.op=.call { callee:=.builtin .append,args:=#[x,y],argTypes:=#[t,t]})
 (d s k b:Nat)(hdst:o.dst=some d)(cs news:List V)(m:Nat)(hx:σ.ev x=.e (.c (.sub s k 0 b)))(Y:σ.heap s=some cs)(hcs:cs.length=b*k)(hy:mS k σ.heap (σ.ev y)=some (news,m))
 (e:TypeId)(bytes:Nat)(zs:List V)(ht:jF P t=some e)(hk:fb P e=some k)(hb:oc P e=some bytes)(hz:jZ P e=some zs)(hzk:zs.length=k)
 (hcn:∀v∈cs,¬v.bK s)(K:∀v∈news,¬v.bK s)(L:(b+m)*bytes<=140737488355328)(M:b+m<=140737488355328)(N:¬aS s)(hd:d<n)
 (c:Nat)(hc:σ.heap c=none)(Q:¬aS c)(r A yl:au)(hyl:∀u,(σ.ev y).bK u->u∈yl):
 SQ P n aS Z o σ (Cm σ d s c k (b+m) (cs++news) r A) ⟨lk Z o++lu yl,tm (d::r)++lu (c::s::A),[s]⟩where
 frame l hl:=by
  simp only[dd,not_or]at hl;unfold St.at Cm;split
  ·rename_i e0;have e1:l=2*(l/2):=O;rw[e1,xz,dC,not_or]at hl;simp only[iX];rw[g hl.1.1,g hl.1.2]
  ·rename_i e0;have e1:l=2*(l/2)+1:=O;rw[e1,qZ,dC,dC,not_or,not_or]at hl;simp only;rw[g hl.2.1,g hl.2.2.1,g hl.2.2.2]
 go j B h2:=by
  have U:∀t∈looks Z o,j.aT t=σ.aT t:=xx (f:=⟨lk Z o++lu yl,tm (d::r)++lu (c::s::A),[s]⟩) (λl h=>dd.2 (.inl h)) B;have hev:=qc U;have p:∀u,u∈c::s::A->j.heap u=σ.heap u:=λu q=>qe (B _ (.inr (dd.2 (.inr (qZ.2 q)))))
  have hyh:∀u,u∈yl->j.heap u=σ.heap u:=λu q=>qe (B _ (.inl (dd.2 (.inr (qZ.2 q)))))
  have hx':j.ev x=.e (.c (.sub s k 0 b)):=by rw[hev x (by simp[ho,Op.operands,Call.operands]),hx]
  have hy':mS k j.heap (j.ev y)=some (news,m):=by rw[hev y (by simp[ho,Op.operands,Call.operands]),aii (H:=σ.heap) (λu q=>hyh u (hyl u q)),hy]
  have X:s≠c:=by rintro rfl;rw[Y]at hc;cases hc
  have st:=eX.append (P:=P) (aS:=aS) (σ:=j) x y t ho d s k b hdst cs news m hx' (by rw[p s ai,Y]) hcs hy' e bytes zs ht hk hb hz hzk hcn K L M N hd;have hkE:∀i,i∉d::r->(j.aT i).b_ s=j.aT i:=λi D=>T.xt λz=>h2 s ai (2*i) (by simp only[dd,xz];rintro(h|h);exact D h;exact Jy h) (by rw[Cn];exact z)
  have hkH:∀u,u∉c::s::A->(j.heap u).map (List.map (V.b_ s))=j.heap u:=by
   intro u q;cases G:j.heap u with
   |none=>rfl
   |some cs0=>
    simp only[dH,cY];refine HA λz=>h2 s ai (2*u+1) (by simp only[dd,qZ];rintro(h|h);exact Lb h;exact q h) ?_
    rw[Co,G];exact z
  refine .inl ⟨hg.congr U,st.tX ?_⟩;refine dm.trans (dm.NY (e:=iX (λi=>if i∈r then .any else(j.aT i).b_ s) d (.e (.c (.sub s k 0 (b+m))))) (λi=>?_)) ?_
  ·simp only[iX];split
   ·exact .inl rfl
   ·split
    ·exact .inr rfl
    ·exact .inl rfl
  ·refine dm.trans (dm.aC6 s c d k (b+m) (cs:=cs++news) (by simp[iX]) (λi D=>?_) (λu cs0 q=>?_) (by simp[cX]) ?_ N Q) ?_
   ·simp only[iX,D,mK];split
    ·exact λh=>h
    ·exact T.tA _ s
   ·simp only[cX]at q;split at q
    ·injection q with q;subst q
     rintro⟨v,G,z⟩;rcases dd.1 G with h|h
     ·exact hcn v h z
     ·exact K v h z
    ·rw[gM]at q;obtain⟨cs1,_,rfl⟩:=q;rintro⟨v,G,z⟩;simp only[cj]at G;obtain⟨v0,_,rfl⟩:=G;exact v0.tA s z
   ·simp only[cX,X.symm,mK,p c ai,hc,Ex]
   ·have:ly j (Cm σ d s c k (b+m) (cs++news) r A) (tm (d::r)++lu (c::s::A))=
     ⟨iX (iX (λi=>if i∈r then .any else(j.aT i).b_ s) d (.e (.c (.sub s k 0 (b+m))))) d (.e (.c (.sub c k 0 (b+m)))),
      λu=>if u=c then some (cs++news)else if u=s then none else cX (λu=>(j.heap u).map (List.map (V.b_ s))) s (some (cs++news)) u⟩:=by
     simp only[ly,St.mk.injEq];constructor
     ·funext i;simp only[dd,xz,Jy,or_false,Cm,iX];by_cases D:i=d
      ·simp[D]
      ·by_cases E:i∈r
       ·simp[D,E]
       ·have:=hkE i (by simp[D,E]);simp[D,E,this]
     ·funext u;simp only[dd,qZ,Lb,false_or,Cm,cX];by_cases B:u=c
      ·simp[B]
      ·by_cases h2:u=s
       ·simp[h2,X]
       ·by_cases h3:u∈A
        ·simp[B,h2,h3,p u (by simp[h3])]
        ·have:=hkH u (by simp[B,h2,h3]);simp[B,h2,h3,this]
    rw[this];exact λC z Y a w R=>R
def dz.adT{z:St}{w':World}(R:dz C X z a w){U:List V}{r:T}{vs spare:av}(hd:jy C.nt o.dst)(Z:z.heap n=none)(H:¬C.aS n)
 (q:fL q_ w w')(hb:w.heap.size<=i)(K:w'.heap[i]?=some (.cells (vs++spare).toArray t (0,0)))(A:bR w C.M X U vs)(hr:b6 w' C.M (ej X n (some i)) r v):
 gN C ⟨(z.put o.dst r).aT,cX z.heap n (some U)⟩ (a.put o.dst v) w':=by
 refine⟨ej X n (some i),?_⟩;have B:X n=none:=R.mem.fW n Z;have l:la C.M X (ej X n (some i)) w w':=by
  refine⟨q.size,λx u=>q.same x u.1 (λh=>h),λx u s=>?_,q.iK⟩;unfold ej;split
  ·intro e;injection e with e;injection e with e;have:=u.1;omega
  ·exact u.2.2 s
 have j:∀s,X s≠none->ej X n (some i) s=X s:=by intro s Y;unfold ej;rw[g (by rintro rfl;exact Y B)]
 refine⟨⟨λx u=>l5 (R.mem.gG x u) q.size,?_,?_,?_,?_,R.mem.iU.dI l⟩,λc=>?_,R.aN.trans q (λ_ _ h=>h) (λ_ _ h=>h.elim),?_,?_,?_,?_⟩
 ·intro s L x f m;unfold ej at f m;split at f<;>split at m
  ·omega
  ·injection f with f;injection f with f;have:=R.mem.lt m;omega
  ·injection m with m;injection m with m;have:=R.mem.lt f;omega
  ·exact R.mem.inj s L x f m
 ·intro s x f;unfold ej at f;split at f
  ·injection f with f;injection f with f;intro hM;have:=R.mem.gG x hM;omega
  ·exact R.mem.nm s x f
 ·intro s Y;simp only[cX]at Y;unfold ej;split at Y
  ·cases Y
  ·rw[g I];exact R.mem.fW s Y
 ·intro s M Y;simp only[cX]at Y;split at Y
  ·rename_i e;subst e;injection Y with Y;subst Y
   exact .inl ⟨i,t,vs,spare,by simp[ej],K,A.dI l λs Y=>j s (A.named s Y)⟩
  ·rename_i hne;rcases R.mem.fe s M Y with⟨D,L,N,P,p,k,y⟩|⟨p,y⟩|⟨D,en,Q,p,k,y⟩
   ·exact .inl ⟨D,L,N,P,by rw[j s (by rw[p];simp)];exact p,(q.same D (jA k) (λh=>h)).trans k,y.dI l λs Y=>j s (y.named s Y)⟩
   ·exact .inr (.inl ⟨by rw[j s (by rw[p];simp)];exact p,y⟩)
   ·exact .inr (.inr ⟨D,en,Q,by rw[j s (by rw[p];simp)];exact p,(q.same D (jA k) (λh=>h)).trans k,y⟩)
 ·rw[vK _ _ _ _ (by rw[R.size];exact hd)];show b6 _ _ _ ((z.put o.dst r).aT c) _;rw[rf];split
  ·exact hr
  ·exact(R.aT c).dI l λs Y=>j s ((R.aT c).named s Y)
 ·intro s x f;unfold ej at f;split at f
  ·injection f with f;injection f with f;have:=R.aN.size;exact .inr O
  ·exact R.aW s x f
 ·intro s E;have:=R.aS s E;unfold ej;rw[g (by rintro rfl;exact H E)];exact this
 ·rw[wi];exact R.defers
 ·rw[uW];exact R.size
def acw(w:World)(o:Obj):fL q_ w (w.drew.alloc o):=
 ⟨rfl,rfl,rfl,Nat.le_succ _,by have:=(qY w.drew o).size;exact this,λb a h=>(qY w.drew o).same b a h,λb cells t h=>(qY w.drew o).iK b cells t h⟩
def eX.N0{P:ay}{aS:aq}{b:St}(x y:ax)(t:TypeId)(M:o.op=.call { callee:=.builtin .append,args:=#[x,y],argTypes:=#[t,t]})
 (k:Nat)(news:List V)(m:Nat)(N:b.ev x=.e (.c (.d (.sc (.slice none 0 0)))))(T:mS k b.heap (b.ev y)=some (news,m))(hm0:m≠0)
 (e:TypeId)(bytes:Nat)(H:List V)(U:jF P t=some e)(hk:fb P e=some k)(hb:oc P e=some bytes)(X:jZ P e=some H)(u:H.length=k)
 (i:m*bytes<=140737488355328)(L:m<=140737488355328)(c:Nat)(hc:b.heap c=none)(z:¬aS c)(hd:jy n o.dst):
 eX P n aS o b ⟨(b.put o.dst (.e (.c (.sub c k 0 m)))).aT,cX b.heap c (some news)⟩:=by
 intro C hn f a w ⟨γ,R⟩ K Q hK;have s:=R.ev x;rw[N]at s;have D:a.eval x=.slice none 0 0:=gK s;obtain⟨B,cc,us,E,j,G,l⟩:=Mb R.mem T (R.ev y);have h:m<=maxLen:=by simp only[maxLen];omega
 obtain⟨Z,w',p,q⟩:=ER (P:=P) (w:=w) o.type U hk hb X u (A:=none) (len:=0) (cap:=0) (vs:=[]) (spare:=[]) (B:=B) (m:=m) (c:=cc) (us:=us)
  (.inr ⟨rfl,rfl⟩) (bu _) (dD _) ai G l j.xE (an i) (an h)
 refine my (v:=Z) (w':=w') (FI M (by rw[D,E];exact p)) ?_;rcases q with⟨_,hle,_⟩|⟨r,rest,rfl,s,h2,h3,rfl⟩
 ·omega
 ·refine hK _ _ (R.adT (by rw[hn];exact hd) hc (by rw[f];exact z) (acw _ _) (bu _) (t:=e) (vs:=us) (spare:=rest) ?_ j ?_)
  ·have:=oB w.drew (.cells (([]++us)++rest).toArray e);simpa using this
  ·refine .inl ⟨w.heap.size,r,((([]:av)++us)++rest).toArray,e,by simp[ej],ai,by simpa using s,h2,oB w.drew _,by simpa using h3⟩
def aih{x:T}{b c:St}(a:∀u,x.bK u->u∈l)(h:∀u,u∈l->b.heap u=c.heap u)(d:H=c.heap):mS n b.heap x=mS n H x:=by subst d;exact aii λu e=>h u (a u e)
theorem SQ.N0{aS:aq}{a:St}(B:fF Z o a)(x y:ax)(t:TypeId)(l:o.op=.call { callee:=.builtin .append,args:=#[x,y],argTypes:=#[t,t]})
 (k:Nat)(news:List V)(m:Nat)(C:a.ev x=.e (.c (.d (.sc (.slice none 0 0)))))(D:mS k a.heap (a.ev y)=some (news,m))(p:m≠0)
 (e:TypeId)(bytes:Nat)(q:List V)(E:jF P t=some e)(G:fb P e=some k)(H:oc P e=some bytes)(K:jZ P e=some q)(r:q.length=k)
 (b:m*bytes<=140737488355328)(f:m<=140737488355328)(c:Nat)(L:a.heap c=none)(s:¬aS c)(M:jy n o.dst)(v:au)(w:∀u,(a.ev y).bK u->u∈v):
 SQ P n aS Z o a ⟨(a.put o.dst (.e (.c (.sub c k 0 m)))).aT,cX a.heap c (some news)⟩ ⟨lk Z o++lu v,(2*c+1)::dl o,[]⟩:=
 SQ.block c (some news) rfl (λ_ h=>dd.2 (.inl h)) λN A i=>by
  have z:∀u,u∈v->N.heap u=a.heap u:=λu Q=>qe (A _ (.inl (dd.2 (.inr (qZ.2 Q)))))
  have j:=qc i;refine .inl ⟨B.congr i,.N0 x y t l k news m ?_ ?_ p e bytes q E G H K r b f c (by rw[qe (A (2*c+1) (.inr ai)),L]) s M⟩
  ·rw[j x (by simp[l,Op.operands,Call.operands]),C]
  ·rw[j y (by simp[l,Op.operands,Call.operands]),aih w z rfl,D]
theorem SQ.copy{P:ay}{n:Nat}{aS:aq}{σ:St}(B:fF Z o σ)(x y:ax)(t w:TypeId)(l:o.op=.call { callee:=.builtin .copy,args:=#[x,y],argTypes:=#[t,w]})
 (s k b a:Nat)(j src:List V)(m:Nat)(C:σ.ev x=.e (.c (.sub s k b a)))(Y:σ.heap s=some j)(p:b+a*k<=j.length)(D:mS k σ.heap (σ.ev y)=some (src,m))
 (e:TypeId)(E:jF P t=some e)(G:fb P e=some k)(H:jy n o.dst)(q:au)(r:∀u,(σ.ev y).bK u->u∈q):
 SQ P n aS Z o σ ⟨(σ.put o.dst (.e (.c (.d (.sc (.int .i64 (min m a:Nat))))))).aT,cX σ.heap s (some (kL j b (src.take (min m a*k))))⟩ ⟨lk Z o++lu q,(2*s+1)::dl o,[]⟩:=
 SQ.block s _ rfl (λ_ h=>dd.2 (.inl h)) λz A f=>by
  have v:∀u,u∈q->z.heap u=σ.heap u:=λu K=>qe (A _ (.inl (dd.2 (.inr (qZ.2 K)))))
  have i:=qc f;refine .inl ⟨B.congr f,?_⟩
  have:=eX.copy (P:=P) (n:=n) (aS:=aS) (σ:=z) x y t w l s k b a j src m (by rw[i x (by simp[l,Op.operands,Call.operands]),C]) (by rw[qe (A (2*s+1) (.inr ai)),Y]) p
   (by rw[i y (by simp[l,Op.operands,Call.operands]),aih r v rfl,D]) e E G H
  exact this
def dE.aik{x:D}(h:dE w (cS w M X) x v)(Y:∀b,cS w M X b->cS w K L b):dE w (cS w K L) x v:=h.mono Y λ_ _=>rfl
def dO.shift{x:V}(h:dO w M X x v)(Y:∀b,cS w M X b->cS w K L b)(m:∀s,x.bK s->L s=X s):dO w K L x v:=by
 cases x with
 |d x=>exact dE.aik h Y
 |ptr s q=>obtain⟨b,l,e⟩:=h;exact⟨b,(m s rfl).trans l,e⟩
 |sub s k q E=>
  rcases h with⟨b,r,cells,t,l,n⟩|⟨n,y⟩|⟨b,o,n,y⟩
  ·exact .inl ⟨b,r,cells,t,(m s rfl).trans l,n⟩
  ·exact .inr (.inl ⟨(m s rfl).trans n,y⟩)
  ·exact .inr (.inr ⟨b,o,(m s rfl).trans n,y⟩)
 |gT ds=>obtain⟨a,e,z,A,H⟩:=h;refine⟨a,e,z,Y _ A,λj x N=>?_⟩;obtain⟨u,P,Q⟩:=H j x N;exact⟨u,P,dE.aik Q Y⟩
 |cr f C=>obtain⟨R,e,T,U⟩:=h;refine⟨R,e,T,λi p c D B=>?_⟩;obtain⟨b,l,Z⟩:=U i p c D B;exact⟨b,(m p.1 ⟨p,bF D,rfl⟩).trans l,Z⟩
 |mp s=>obtain⟨b,l,e⟩:=h;exact⟨b,(m s rfl).trans l,e⟩
 |ty s t sl=>obtain⟨b,cells,l,e⟩:=h;exact⟨b,cells,(m s rfl).trans l,e⟩
 |dV es=>cases h
 |any=>exact h
theorem bR.shift{a:List V}{vs:av}(h:bR w M X a vs)(Y:∀b,cS w M X b->cS w K L b)(d:∀s,(∃x∈a,x.bK s)->L s=X s):bR w K L a vs:=
 ⟨h.1,λi x u c e=>(h.2 i x u c e).shift Y λs h=>d s ⟨x,bF c,h⟩⟩
theorem eP.shift{x:E}(h:eP w M X x v)(Y:∀b,cS w M X b->cS w K L b)(a:∀s,x.bK s->L s=X s):eP w K L x v:=by
 cases x with
 |c x=>exact dO.shift h Y a
 |agg i=>obtain⟨d,e,f⟩:=h;exact⟨d,e,f.shift Y a⟩
theorem b6.shift{x:T}(h:b6 w M X x v)(Y:∀b,cS w M X b->cS w K L b)(a:∀s,x.bK s->L s=X s):b6 w K L x v:=by
 cases x with
 |e x=>exact eP.shift h Y a
 |cn l=>obtain⟨d,e,f,j⟩:=h;exact⟨d,e,f,λi x u c k=>(j i x u c k).shift Y λs h=>a s ⟨x,bF c,h⟩⟩
 |any=>trivial
def part(H:eh)(R:au):eh:=λu=>if u∈R then H u else none
def si(a:au)(x:T):T:=if a.any (λs=>x.jJ s)then .any else x
def mL(a:au)(x:V):V:=if a.any (λs=>x.jJ s)then .any else x
def acF(a:au)(es:List (Value×Value)):mL a (.dV es)=.dV es:=by unfold mL;rw[g (by simp[V.jJ])]
def aw1{x:T}(h:(si l x).bK s):s∉l/\x.bK s:=by
 unfold si at h;split at h
 ·cases h
 ·rename_i a;refine⟨λY=>a ?_,h⟩;rw[uf];exact⟨s,Y,T.nB.2 h⟩
def aw3{x:V}(h:(mL l x).bK s):s∉l/\x.bK s:=by
 unfold mL at h;split at h
 ·cases h
 ·rename_i a;refine⟨λY=>a ?_,h⟩;rw[uf];exact⟨s,Y,V.nB.2 h⟩
def aw2{ms:au}{x:T}(h:b6 w M X x v):b6 w M X (si ms x) v:=by
 unfold si;split
 ·trivial
 ·exact h
def aw4{x:V}(h:dO w M X x v):dO w M X (mL l x) v:=by
 unfold mL;split
 ·exact h.one
 ·exact h
def aw0{ms:au}{a:List V}{vs:av}(h:bR w M X a vs):bR w M X (a.map (mL ms)) vs:=by refine⟨by simp[h.1],λi x u b c=>?_⟩;simp only[dU,gM]at b;obtain⟨y,d,rfl⟩:=b;exact aw4 (h.2 i y u d c)
def vv(a:St)(d:Option Nat)(r:T)(R N b:au)(c:eh):St:=
 ⟨((⟨λi=>si b (a.aT i),a.heap⟩:St).put d r).aT,λu=>if u∈R\/u∈N then c u else(a.heap u).map (List.map (mL b))⟩
structure Ih(P:ay)(f:FuncId)(H:eh)(R N ms:au)(args:List E)(H':eh)(r:T):Prop where
 sat:cN P f (part H R) args H' (λu=>u∈R/\u∉ms) r
 args:∀x∈args,∀s,x.bK s->s∈R
 YP:∀u∈R,∀cs,H u=some cs->∀x∈cs,∀s,x.bK s->s∈R
 fW:∀u,H' u≠none->u∈R\/u∈N
 abu:∀u∈N,H u=none
def eX.Oi{aS:aq}{σ:St}{ms N:au}{args:List E}{r:T}(h:Ih P f σ.heap l N ms args H r)(hms:∀u∈ms,¬aS u)(hN:∀u∈N,¬aS u)(hd:jy n o.dst)
 (hcall:∀(C:dY)(L:G)(a:Act)(w:World),dz C L σ a w->∃vals:List Value,(execOp a.eval o).run P w=.ok (.enter f vals.toArray) w/\lb w C.M L args vals):
 eX P n aS o σ (vv σ o.dst r l N ms H):=by
 intro C hn hst a w ⟨L,k⟩ K Q hK;obtain⟨vals,hrun,Z⟩:=hcall C L a w k;obtain⟨_,hsat⟩:=h.sat
 let A:G:=λu=>if u∈l then L u else none
 let M1:Nat->Prop:=λb=>C.M b\/∃u,u∉l/\L u=some (some b)
 have g1:∀u,u∈l->A u=L u:=λu d=>by simp[A,d]
 have m:∀u b,A u=some b->u∈l/\L u=some b:=by
  intro u b d;by_cases q:u∈l
  ·exact⟨q,by rw[<-g1 u q];exact d⟩
  ·simp[A,q]at d
 have st1:∀b,cS w C.M L b->cS w M1 A b:=by
  rintro b ⟨h1,h2,h3⟩;refine⟨h1,?_,λs Y=>h3 s (m s _ Y).2⟩;rintro(p|⟨u,_,p⟩)
  ·exact h2 p
  ·exact h3 u p
 have mem1:Mem M1 A (part σ.heap l) w:=by
  refine⟨?_,λs t b c j=>k.mem.inj s t b (m s _ c).2 (m t _ j).2,?_,?_,?_,k.mem.iU.to st1 (λ_ _=>rfl)⟩
  ·rintro b (p|⟨u,_,p⟩)
   ·exact k.mem.gG b p
   ·exact k.mem.lt p
  ·rintro s b c (p|⟨u,d,p⟩)
   ·exact k.mem.nm s b (m s _ c).2 p
   ·have:=k.mem.inj s u b (m s _ c).2 p;subst this;exact d (m s _ c).1
  ·intro u d;by_cases q:u∈l
   ·rw[g1 u q];exact k.mem.fW u (by simpa[part,q]using d)
   ·simp[A,q]
  ·intro u cs d;by_cases q:u∈l
   ·have hu':σ.heap u=some cs:=by simpa[part,q]using d
    rcases k.mem.fe u cs hu' with⟨b,t,vs,sp,c,j,X⟩|⟨c,j⟩|⟨b,en,clk,c,j,X⟩
    ·exact .inl ⟨b,t,vs,sp,(g1 u q).trans c,j,X.shift st1 λs ⟨x,U,Y⟩=>g1 s (h.YP u q cs hu' x U s Y)⟩
    ·exact .inr (.inl ⟨(g1 u q).trans c,j⟩)
    ·exact .inr (.inr ⟨b,en,clk,(g1 u q).trans c,j,X⟩)
   ·simp[part,q]at d
 have vals1:lb w M1 A args vals:=⟨Z.1,λi x u U d=>(Z.2 i x u U d).shift st1 λs Y=>g1 s (h.args x (bF U) s Y)⟩;unfold Oper.wp;rw[hrun];refine(hsat M1 A w vals mem1 vals1).mono λe w' he=>?_
 obtain⟨v,γ2,rfl,pe,rel2,z,own2,stay2⟩:=he
 let D:G:=λu=>if u∈l\/u∈N then γ2 u else L u
 have M:∀u,(u∈l\/u∈N)->D u=γ2 u:=λu d=>by simp only[D,aK d]
 have V:∀u,¬(u∈l\/u∈N)->D u=L u:=λu d=>by simp only[D,g d]
 have dom2:∀u,γ2 u≠none->u∈l\/u∈N:=λu d=>h.fW u λhH=>d (pe.fW u hH)
 have dy:∀u b,¬(u∈l\/u∈N)->L u=some (some b)->M1 b:=λu b d p=>.inr ⟨u,λq=>d (.inl q),p⟩
 have nN:∀u∈N,L u=none:=λu d=>k.mem.fW u (h.abu u d)
 have same:∀b,b<w.heap.size->(∀s,A s≠some (some b))->w'.heap[b]?=w.heap[b]? :=λb p Y=>z.same b p λ⟨s,e⟩=>Y s e
 have st2:∀b,cS w' M1 γ2 b->cS w' C.M D b:=by
  rintro b ⟨h1,h2,h3⟩;refine⟨h1,λp=>h2 (.inl p),λs Y=>?_⟩;by_cases B:s∈l\/s∈N
  ·exact h3 s (by rw[<-M s B];exact Y)
  ·exact h2 (dy s b B (by rw[<-V s B];exact Y))
 have dI:la C.M L D w w':=by
  refine⟨z.size,λb p=>same b p.1 λs Y=>p.2.2 s (m s _ Y).2,λb p s Y=>?_,z.iK⟩;by_cases B:s∈l\/s∈N
  ·rw[M s B]at Y;rcases own2 s b Y with⟨t,ht⟩|hge
   ·exact p.2.2 t (m t _ ht).2
   ·have:=p.1;omega
  ·rw[V s B]at Y;exact p.2.2 s Y
 have named:∀s,s∉ms->L s≠none->D s=L s:=by
  intro s Y hne;by_cases q:s∈l
  ·rw[M s (.inl q),stay2 s ⟨q,Y⟩,g1 s q]
  ·by_cases hNs:s∈N
   ·exact absurd (nN s hNs) hne
   ·exact V s (by rintro(h|h);exact q h;exact hNs h)
 refine hK _ _ ⟨D,⟨λb p=>l5 (k.mem.gG b p) z.size,?_,?_,?_,?_,k.mem.iU.dI dI⟩,λi=>?_,?_,?_,?_,by rw[wi];exact k.defers,by rw[uW];exact k.size⟩
 ·intro s t b c j;by_cases Y:s∈l\/s∈N<;>by_cases ht:t∈l\/t∈N
  ·rw[M s Y]at c;rw[M t ht]at j;exact pe.inj s t b c j
  ·rw[M s Y]at c;rw[V t ht]at j;exact absurd (dy t b ht j) (pe.nm s b c)
  ·rw[V s Y]at c;rw[M t ht]at j;exact absurd (dy s b Y c) (pe.nm t b j)
  ·rw[V s Y]at c;rw[V t ht]at j;exact k.mem.inj s t b c j
 ·intro s b c p;by_cases Y:s∈l\/s∈N
  ·rw[M s Y]at c;exact pe.nm s b c (.inl p)
  ·rw[V s Y]at c;exact k.mem.nm s b c p
 ·intro u d;simp only[vv]at d;by_cases Y:u∈l\/u∈N
  ·rw[aK Y]at d;rw[M u Y];exact pe.fW u d
  ·rw[g Y]at d;rw[V u Y];exact k.mem.fW u (an d)
 ·intro u cs d;simp only[vv]at d;by_cases Y:u∈l\/u∈N
  ·rw[aK Y]at d;rcases pe.fe u cs d with⟨b,t,vs,sp,c,j,X⟩|⟨c,j⟩|⟨b,en,clk,c,j,X⟩
   ·exact .inl ⟨b,t,vs,sp,(M u Y).trans c,j,X.shift st2 λx U=>M x (dom2 x (X.named x U))⟩
   ·exact .inr (.inl ⟨(M u Y).trans c,j⟩)
   ·exact .inr (.inr ⟨b,en,clk,(M u Y).trans c,j,X⟩)
  ·rw[g Y,gM]at d;obtain⟨cs0,d,rfl⟩:=d;rcases k.mem.fe u cs0 d with⟨b,t,vs,sp,c,j,X⟩|⟨c,j⟩|⟨b,en,clk,c,j,X⟩
   rotate_left 2
   ·refine .inr (.inr ⟨b,en,clk,(V u Y).trans c,?_,by rw[X];exact aY (· ::[]) (acF ms _)⟩);rw[same b (jA j) λs hs'=>?_]
    ·exact j
    ·have:=k.mem.inj s u b (m s _ hs').2 c;subst this;exact Y (.inl (m s _ hs').1)
   ·refine .inl ⟨b,t,vs,sp,(V u Y).trans c,?_,(aw0 (ms:=ms) X).dI dI λx U=>?_⟩
    ·rw[same b (jA j) λs hs'=>?_]
     ·exact j
     ·have:=k.mem.inj s u b (m s _ hs').2 c;subst this;exact Y (.inl (m s _ hs').1)
    ·obtain⟨y,hy,U⟩:=U;rw[cj]at hy;obtain⟨y0,hy0,rfl⟩:=hy;have:=aw3 U;exact named x this.1 (X.named x ⟨y0,hy0,this.2⟩)
   ·exact .inr (.inl ⟨(V u Y).trans c,by rw[j];rfl⟩)
 ·rw[vK _ _ _ _ (by rw[k.size,hn];exact hd)];show b6 _ _ _ ((St.put _ o.dst r).aT i) _;rw[rf];split
  ·exact rel2.shift st2 λx U=>M x (dom2 x (rel2.named x U))
  ·refine(aw2 (ms:=ms) (k.aT i)).dI dI λx U=>?_
   have:=aw1 U;exact named x this.1 ((k.aT i).named x this.2)
 ·refine k.aN.trans z (λ_ _ h=>h) λx U ⟨s,Y⟩=>?_
  rcases k.aW s x (m s _ Y).2 with h|h
  ·exact h
  ·omega
 ·intro s b Y;by_cases B:s∈l\/s∈N
  ·rw[M s B]at Y;rcases own2 s b Y with⟨t,ht⟩|hge
   ·exact k.aW t b (m t _ ht).2
   ·have:=k.aN.size;exact .inr O
  ·rw[V s B]at Y;exact k.aW s b Y
 ·intro s Y;rw[hst]at Y;have h0:=k.aS s (by rw[hst];exact Y);by_cases q:s∈l
  ·rw[M s (.inl q),stay2 s ⟨q,λhm=>hms s hm Y⟩,g1 s q];exact h0
  ·by_cases hNs:s∈N
   ·exact absurd Y (hN s hNs)
   ·rw[V s (by rintro(h|h);exact q h;exact hNs h)];exact h0
def yg(P:ay)(o:Oper)(d:Operand->T)(f:FuncId)(args:List E):Prop:=
 ∀(M:aq)(c:G)(w:World)(a:Act),(∀x∈o.op.operands.toList,b6 w M c (d x) (a.eval x))->
  ∃b:List Value,(execOp a.eval o).run P w=.ok (.enter f b.toArray) w/\lb w M c args b
def yg.congr{d b:Operand->T}{args:List E}(h:yg P o d f args)(e:∀x∈o.op.operands.toList,b x=d x):yg P o b f args:=
 λM i w a j=>h M i w a λx c=>by rw[<-e x c];exact j x c
def XB{f:Operand->T}{args:List E}(b:List Operand)(h:∀x∈b,b6 w M X (f x) (a.eval x))(j:b.map f=args.map .e):
 lb w M X args (b.map a.eval):=by
 have n:b.length=args.length:=by have:=aY List.length j;simpa using this
 refine⟨by simp[n],λi x u o c=>?_⟩;simp only[dU]at c;cases d:b[i]? with
 |none=>simp[d]at c
 |some y=>simp[d]at c;subst c;have k:=h y (bF d);have m:=aY (λl=>l[i]?) j;simp only[dU,d,o,dH,cY]at m;rw[m]at k;exact k
def aus{d:Operand->T}(f:FuncId)(c:Array Operand)(k:Array TypeId)(i:o.op=.call { callee:=.value (.func f),args:=c,argTypes:=k})(b:fh P f)
 (args:List E)(l:c.toList.map d=args.map .e):yg P o d f args:=by
 intro M m w a h;refine⟨c.toList.map a.eval,?_,XB c.toList (λx j=>h x (by rw[i];simp only[Op.operands,Call.operands];simp at j⊢;exact .inr j)) l⟩;simp only[execOp,i,resolve,Act.eval,Deferred.ofValue,Sem.run_bind,Sem.run_pure,Result.andThen_ok,invoke];rw[b];congr 2;apply mW;simp
def aur{ev:Operand->T}(f:FuncId)(x:ax)(m:Array Operand)(t:Array TypeId)(q:o.op=.call { callee:=.value x,args:=m,argTypes:=t})(k:fh P f)
 (b:List (Nat×Nat))(n:ev x=.e (.c (.cr f b)))(args:List E)(v:m.toList.map ev=args.map .e):yg P o ev f (args++b.map λp=>.c (.ptr p.1 p.2)):=by
 intro M G w a h;have d:=XB (a:=a) m.toList (λx n=>h x (by rw[q];simp only[Op.operands,Call.operands];simp at n⊢;exact .inr n)) v;have s:=h x (by rw[q];simp[Op.operands,Call.operands]);rw[n]at s;obtain⟨z,A,B,C⟩:=s;refine⟨m.toList.map a.eval++z,?_,?_,?_⟩
 ·simp only[execOp,q,resolve,A,Deferred.ofValue,Sem.run_bind,Sem.run_pure,Result.andThen_ok,invoke];rw[k];congr 2;apply mW;simp
 ·simp[d.1,B]
 ·intro i y u l j;have hlen:=d.1;rw[B2]at l j;rw[<-hlen]at j;split at l
  ·rename_i r;rw[aK r]at j;exact d.2 i y u l j
  ·rename_i r;rw[g r]at j;rw[dU,gM]at l;obtain⟨p,D,rfl⟩:=l;exact C _ p u D j
def acD{x:T}(h:∀s∈l,¬x.bK s):si l x=x:=by unfold si;rw[g];intro a;rw[uf]at a;obtain⟨s,Y,b⟩:=a;exact h s Y (T.nB.1 b)
def acE{x:V}(h:∀s∈l,¬x.bK s):mL l x=x:=by unfold mL;rw[g];intro a;rw[uf]at a;obtain⟨s,Y,b⟩:=a;exact h s Y (V.nB.1 b)
theorem SQ.Oi{n:Nat}{aS:aq}{ops:aw}{o:Oper}{d:St}{f:FuncId}{R W ts us:au}{args:List E}{H':eh}{r:T}(hg:fF ops o d)(h:Ih P f d.heap R l b args H' r)
 (H:∀u∈b,¬aS u)(hN:∀u∈l,¬aS u)(hd:jy n o.dst)(K:yg P o d.ev f args)(hW:∀u∈R,u∉W->H' u=d.heap u)
 (L:∀i,o.dst≠some i->i∉ts->∀s∈b,¬(d.aT i).bK s)(M:∀u,u∉R->u∉l->u∉us->∀s∈b,∀cs,d.heap u=some cs->¬ ∃v∈cs,v.bK s):
 SQ P n aS ops o d (vv d o.dst r R l b H') ⟨lk ops o++lu R,dl o++tm ts++lu (W++l++us),b⟩where
 frame c hl:=by
  simp only[dd,not_or]at hl;unfold St.at;split
  ·rename_i e0;have Q:c=2*(c/2):=O;rw[Q,A7,xz]at hl;simp only[vv,rf,g hl.1.1];rw[acD (L _ hl.1.1 hl.1.2)]
  ·rename_i e0;have Q:c=2*(c/2)+1:=O;have j:=hl.2;rw[Q,qZ,dd,dd,not_or,not_or]at j;simp only[vv];by_cases q:c/2∈R
   ·rw[aK (.inl q),hW _ q j.1.1]
   ·rw[g (by rintro(h|h);exact q h;exact j.1.2 h)];cases U:d.heap (c/2)with
    |none=>rfl
    |some cs=>
     have:cs.map (mL b)=cs:=by
      have V:∀v∈cs,mL b v=v:=λv z=>acE λs Y y=>M _ q j.1.2 j.2 s Y cs U ⟨v,z,y⟩
      exact(lc V).trans (List.map_id' cs)
     simp[this]
 go m D h2:=by
  have A:∀t∈looks ops o,m.aT t=d.aT t:=xx (f:=⟨lk ops o++lu R,dl o++tm ts++lu (W++l++us),b⟩) (λc h=>dd.2 (.inl h)) D;have X:=qc A;have q:∀u∈R,m.heap u=d.heap u:=λu hu=>qe (D _ (.inl (dd.2 (.inr (qZ.2 hu)))))
  have B:∀u,u∈W++l++us->m.heap u=d.heap u:=λu hu=>qe (D _ (.inr (dd.2 (.inr (qZ.2 hu)))))
  have hp:Ih P f m.heap R l b args H' r:=by
   have e:part m.heap R=part d.heap R:=by
    funext u;simp only[part];split
    ·rename_i hu;exact q u hu
    ·rfl
   exact⟨by rw[e];exact h.sat,h.args,λu hu cs Z=>h.YP u hu cs (by rw[<-q u hu];exact Z),h.fW,λu hu=>by rw[B u (by simp[hu])];exact h.abu u hu⟩
  have st:=eX.Oi (n:=n) (aS:=aS) (o:=o) hp H hN hd (λC γ a w Rl=>(K.congr X) C.M γ w a λx _=>Rl.ev x);refine .inl ⟨hg.congr A,?_⟩;have:ly m (vv d o.dst r R l b H') (dl o++tm ts++lu (W++l++us))=vv m o.dst r R l b H':=by
   simp only[ly,vv,St.mk.injEq];constructor
   ·funext i;simp only[dd,A7,xz,Jy,or_false,rf];by_cases G:o.dst=some i
    ·simp[G]
    ·by_cases p:i∈ts
     ·have:m.aT i=d.aT i:=aas (D _ (.inr (dd.2 (.inl (dd.2 (.inr (xz.2 p)))))));simp[G,p,this]
     ·simp only[G,p,or_self,mK];refine(acD λs Y y=>h2 s Y (2*i) ?_ (by rw[Cn];exact y)).symm;simp only[dd,A7,xz];rintro((h|h)|h)
      ·exact G h
      ·exact p h
      ·exact Jy h
   ·funext u;simp only[dd,K_,Lb,qZ,false_or];by_cases k:u∈R\/u∈l
    ·rw[aK k,aK k];split
     ·rfl
     ·rename_i y;rcases k with hu|hu
      ·rw[q u hu,hW u hu (λh=>y (.inl (.inl h)))]
      ·exact absurd (.inl (.inr hu)) y
    ·rw[g k,g k];split
     ·rename_i hm;rw[B u (by simpa only[dd]using hm)]
     ·rename_i hm;cases U:m.heap u with
      |none=>rfl
      |some cs=>
       have:cs.map (mL b)=cs:=by
        have V:∀v∈cs,mL b v=v:=λv z=>acE λs Y y=>h2 s Y (2*u+1) (by simp only[dd,K_,Lb,qZ,false_or];exact hm) (by rw[Co,U];exact⟨v,z,y⟩)
        exact(lc V).trans (List.map_id' cs)
       simp[this]
  rw[this];exact st
inductive KF where
 |int (k:IntKind)
 |kx
 |pY (n:Nat) (k:IntKind)
 deriving DecidableEq
def uL(P:ay)(t:TypeId):Option KF:=
 match P.underlying t with
 |some (.int k)=>some (.int k)
 |some .string=>some .kx
 |some (.array n e)=>(match P.underlying e,fb P e with|some (.int k),some 1=>some (.pY n k)|_,_=>none)
 |_=>none
def nw(k:IntKind):Value->Bool
 |.int a _=>decide (a=k)
 |_=>false
def ib:KF->Value->Bool
 |.int k,v=>nw k v
 |.kx,.string _=>true
 |.pY n k,.agg a=>Nat.beq a.size n&&a.toList.all (nw k)
 |_,_=>false
def Bq:Value->Value->Bool
 |.int _ a,.int _ b=>a==b
 |_,_=>false
def pu:List Value->List Value->Bool
 |[],[]=>true
 |a::r,b::s=>Bq a b&&pu r s
 |_,_=>false
def nE:Value->Value->Bool
 |.int _ a,.int _ b=>a==b
 |.string a,.string b=>a.data.toList==b.data.toList
 |.agg d,.agg c=>pu d.toList c.toList
 |_,_=>false
def aDD(c:P.underlying e=some (.int k))(w:World)(d:Nat)(a:nw k v=true)(b:nw k y=true):
 (Op.equalIn (d+1) e v y).run P w=.ok (Bq v y) w:=by
 cases v<;>simp only[nw,iN,be]at a;cases y<;>simp only[nw,iN,be]at b;subst a;subst b;simp[Op.equalIn,run_underlying c,Bq]
def aDC{P:ay}(l:P.underlying e=some (.int k))(w:World)(d:Nat)(c f:av):
 ∀(n s:Nat),s+n=c.length->c.length=f.length->(c.drop s).all (nw k)=true->(f.drop s).all (nw k)=true->
  (forIn (m:=Sem) (List.range' s n) ((none,()):Option Bool×Unit) λi _=>do
    let a<-Go.part e c.toArray (i*1)
    let b<-Go.part e f.toArray (i*1)
    let q<-Op.equalIn (d+1) e a b
    if(!q)=true then pure (ForInStep.done (some false,()))else pure (ForInStep.yield (none,()))).run P w
    =.ok (if pu (c.drop s) (f.drop s)then(none,())else(some false,())) w:=by
 intro n
 induction n with
 |zero=>intro s Y r _ _;rw[pR O,pR O];simp[pu]
 |succ n u=>
  intro s Y r h j;obtain⟨x,o⟩:∃x,c[s]?=some x:=⟨c[s]' O,ai⟩;obtain⟨y,p⟩:∃y,f[s]?=some y:=⟨f[s]' O,ai⟩;have ex:c.drop s=x::c.drop (s+1):=by rw[mZ O];congr 1;rw[dM]at o;exact o.2
  have v:f.drop s=y::f.drop (s+1):=by rw[mZ O];congr 1;rw[dM]at p;exact p.2
  rw[ex]at h⊢;rw[v]at j⊢;simp only[wN,dB]at h j;have z:(Go.part e c.toArray (s*1)).run P w=.ok x w:=by simp[Go.part,isAgg,run_underlying l,o]
  have A:(Go.part e f.toArray (s*1)).run P w=.ok y w:=by simp[Go.part,isAgg,run_underlying l,p]
  have B:=aDD (P:=P) l w d h.1 j.1;simp only[List.range'_succ,List.forIn_cons,Sem.run_bind,z,A,B,Result.andThen_ok];cases t:Bq x y with
  |true=>simp only[Hw,iN,mK,Sem.run_pure,Result.andThen_ok,pu,t,BN];exact u (s+1) O r h.2 j.2
  |false=>simp[pu,t]
def aDE{P:ay}(a:uL P t=some (.pY n k))(w:World)(c:ib (.pY n k) v=true)(f:ib (.pY n k) y=true):
 (Op.equal t v y).run P w=.ok (nE v y) w:=by
 unfold uL at a;split at a
 ·cases a
 ·cases a
 ·rename_i s e m;split at a
  ·rename_i u o Y;injection a with a;injection a with p q
   subst p;subst q;cases v<;>simp only[ib,iN]at c;rename_i b;cases y<;>simp only[ib,iN]at f;rename_i h;simp only[dB]at c f;have i:=H3 c.1;have r:=H3 f.1;have j:∀d,(Op.equalIn (d+1+1) t (.agg b) (.agg h)).run P w=.ok (nE (.agg b) (.agg h)) w:=by intro d;have l:=aDC (P:=P) o w d b.toList h.toList b.size 0 ai (by simp;omega) (an c.2) (an f.2);simp only[rK]at l;rw[Op.equalIn];simp only[Sem.run_bind,run_underlying m,Result.andThen_ok,od Y,nE];rw[Std.Legacy.Range.forIn_eq_forIn_range'];simp only[Std.Legacy.Range.size,Nat.sub_zero,yu,Nat.div_one,<-i];rw[l];cases pu b.toList h.toList<;>simp
   exact j 9998
  ·cases a
 ·cases a
def agJ(a:P.underlying e=some (.int k))(w:World)(b:Bool)(d:Nat)(x:Value):(Instr.checkKey b (d+1) e x).run P w=.ok () w:=by rw[Instr.checkKey];simp[run_underlying a]
def aDA(a:P.underlying e=some .string)(w:World)(b:Bool)(d:Nat)(x:Value):(Instr.checkKey b (d+1) e x).run P w=.ok () w:=by rw[Instr.checkKey];simp[run_underlying a]
def aDB{P:ay}(c:P.underlying e=some (.int k))(Y:fb P e=some 1)(w:World)(f:Bool)(d:Nat)(b:av):
 ∀(n s:Nat),s+n=b.length->
  (forIn (m:=Sem) (List.range' s n) PUnit.unit λi _=>do
    let q<-sizeOf e
    let a<-Go.part e b.toArray (i*q)
    Instr.checkKey f (d+1) e a
    pure (ForInStep.yield PUnit.unit)).run P w=.ok PUnit.unit w:=by
 intro n
 induction n with
 |zero=>intro s _;simp
 |succ n h=>
  intro s j;obtain⟨x,l⟩:∃x,b[s]?=some x:=⟨b[s]' O,ai⟩;have o:(Go.part e b.toArray (s*1)).run P w=.ok x w:=by simp[Go.part,isAgg,run_underlying c,l]
  have p:=agJ (P:=P) c w f d x;simp only[List.range'_succ,List.forIn_cons,Sem.run_bind,o,p,Result.andThen_ok,od Y,Sem.run_pure];exact h (s+1) O
def SR{P:ay}{f:KF}(a:uL P t=some f)(w:World)(b:Bool)(h:ib f v=true):(Instr.checkKey b 10000 t v).run P w=.ok () w:=by
 unfold uL at a;split at a
 ·rename_i k c;exact agJ c w b 9999 v
 ·rename_i c;exact aDA c w b 9999 v
 ·rename_i o e c;split at a
  ·rename_i p m Y;injection a with a;subst a
   cases v<;>simp only[ib,iN]at h;rename_i i;simp only[dB]at h;have j:=H3 h.1;have l:∀d,(Instr.checkKey b (d+1+1) t (.agg i)).run P w=.ok () w:=by intro d;have n:=aDB (P:=P) m Y w b d i.toList i.size 0 ai;rw[Instr.checkKey];simp only[Sem.run_bind,run_underlying c,Result.andThen_ok];rw[Std.Legacy.Range.forIn_eq_forIn_range'];simp only[Std.Legacy.Range.size,Nat.sub_zero,yu,Nat.div_one,<-j];rw[n];rfl
   exact l 9998
  ·cases a
 ·cases a
def gX(k:Value):List (Value×Value)->Nat->Option (Nat×Value)
 |[],_=>none
 |e::a,i=>match nE k e.1 with|true=>some (i,e.2)|false=>gX k a (i+1)
def jo(a:List MapEntry):List (Value×Value):=a.map λe=>(e.key,e.val)
theorem agT{f:KF}{l:TypeDesc}(r:P.underlying t=some l)(c:uL P t=some f)(s:∀n k,f≠.pY n k)(m:ib f v=true):
 ∀(j:List MapEntry)(i:Nat),(jo j).all (λp=>ib f p.1)=true->Instr.findNow l v j i=some (gX v (jo j) i)
 |[],_,_=>rfl
 |e::j,i,h=>by
  simp only[jo,dc,wN,dB]at h;have u:=agT r c s m j (i+1) h.2;have Y:Instr.sameNow l v e.key=some (nE v e.key):=by
   unfold uL at c;rw[r]at c;cases l<;>simp only[reduceCtorEq,cY]at c
   case int k=>subst c;have d:=h.1;cases v<;>simp only[ib,nw,iN,be]at m;cases o:e.key<;>rw[o]at d<;>simp only[ib,nw,iN,be]at d;subst m;subst d;simp[Instr.sameNow,nE]
   case string=>
    subst c;have d:=h.1;cases v<;>simp only[ib,iN]at m;cases o:e.key<;>rw[o]at d<;>simp only[ib,iN]at d;rename_i a b;simp only[Instr.sameNow,nE];congr 1;cases a;cases b;rename_i a b;have:∀p q:Array UInt8,((⟨p⟩:aA)==⟨q⟩)=(p.toList==q.toList):=λp q=>by show(p==q)=_;rw[sO];simp only[jw];exact⟨λh=>by rw[h],λh=>mW h⟩
    exact this a b
   case array n w=>
    split at c
    ·injection c with c;exact absurd c.symm (s _ _)
    ·cases c
  simp only[Instr.findNow,Y,jo,dc,gX];cases nE v e.key with
  |true=>rfl
  |false=>exact u
theorem agS(b:uL P t=some (.pY n k))(w:World)(c:ib (.pY n k) v=true):
 ∀(a:List MapEntry)(i:Nat),(jo a).all (λp=>ib (.pY n k) p.1)=true->(Instr.findAsking t v a i).run P w=.ok (gX v (jo a) i) w
 |[],_,_=>by simp[Instr.findAsking,jo,gX]
 |e::a,i,h=>by
  simp only[jo,dc,wN,dB]at h;have d:=agS b w c a (i+1) h.2;have f:=aDE b w c h.1;simp only[Instr.findAsking,Sem.run_bind,f,Result.andThen_ok,jo,dc,gX];cases nE v e.key with
  |true=>simp
  |false=>simpa[jo]using d
def SU{f:KF}(b:uL P t=some f)(w:World)(d:ib f v=true)(a:List MapEntry)(h:(jo a).all (λp=>ib f p.1)=true):
 (Instr.findKey t v a).run P w=.ok (gX v (jo a) 0) w:=by
 obtain⟨kd,c⟩:∃kd,P.underlying t=some kd:=by
  unfold uL at b;cases c:P.underlying t with
  |none=>simp[c]at b
  |some kd=>exact⟨kd,rfl⟩
 by_cases hf:∀n k,f≠.pY n k
 ·simp[Instr.findKey,run_underlying c,agT c b hf d a 0 h]
 ·have:∃n k,f=.pY n k:=by
   cases f with
   |int k=>exact absurd (λ_ _ h=>by cases h) hf
   |kx=>exact absurd (λ_ _ h=>by cases h) hf
   |pY n k=>exact⟨n,k,rfl⟩
  obtain⟨n,k,rfl⟩:=this;have j:=agS b w d a 0 h;cases a with
  |nil=>simp[Instr.findKey,run_underlying c,Instr.findNow,jo,gX]
  |cons e a=>
   have l:Instr.findNow kd v (e::a) 0=none:=by have i:=d;unfold uL at b;rw[c]at b;cases kd<;>simp only[reduceCtorEq,cY]at b;cases v<;>simp only[ib,iN]at i;simp[Instr.findNow,Instr.sameNow]
   simp only[Instr.findKey,Sem.run_bind,run_underlying c,Result.andThen_ok,l];exact j
def dz.azn{σ:St}{w':World}(R:dz C X σ a w){d:Nat}{L:List V}(p:Option Nat){r:T}(hd:jy C.nt p)
 (hf:σ.heap d=none)(M:¬C.aS d)(y:fL q_ w w')(hb:w.heap.size<=i)
 (hblk:(∃(t:TypeId)(K spare:av),w'.heap[i]?=some (.cells (K++spare).toArray t (0,0))/\bR w' C.M (ej X d (some i)) L K)\/
   (∃(q:Array MapEntry)(k:Nat),w'.heap[i]?=some (.map q k)/\L=[.dV (q.toList.map λe=>(e.key,e.val))]))
 (hr:b6 w' C.M (ej X d (some i)) r v):dz C (ej X d (some i)) ⟨(σ.put p r).aT,cX σ.heap d (some L)⟩ (a.put p v) w':=by
 have D:X d=none:=R.mem.fW d hf;have z:la C.M X (ej X d (some i)) w w':=by
  refine⟨y.size,λx A=>y.same x A.1 (λh=>h),λx A s=>?_,y.iK⟩;unfold ej;split
  ·intro e;injection e with e;injection e with e;have:=A.1;omega
  ·exact A.2.2 s
 have l:∀s,X s≠none->ej X d (some i) s=X s:=by intro s Y;unfold ej;rw[g (by rintro rfl;exact Y D)]
 refine⟨⟨λx A=>l5 (R.mem.gG x A) y.size,?_,?_,?_,?_,R.mem.iU.dI z⟩,λc=>?_,R.aN.trans y (λ_ _ h=>h) (λ_ _ h=>h.elim),?_,?_,?_,?_⟩
 ·intro s N x f j;unfold ej at f j;split at f<;>split at j
  ·omega
  ·injection f with f;injection f with f;have:=R.mem.lt j;omega
  ·injection j with j;injection j with j;have:=R.mem.lt f;omega
  ·exact R.mem.inj s N x f j
 ·intro s x f;unfold ej at f;split at f
  ·injection f with f;injection f with f;intro hM;have:=R.mem.gG x hM;omega
  ·exact R.mem.nm s x f
 ·intro s Y;simp only[cX]at Y;unfold ej;split at Y
  ·cases Y
  ·rw[g I];exact R.mem.fW s Y
 ·intro s Q Y;simp only[cX]at Y;split at Y
  ·rename_i e;subst e;injection Y with Y;subst Y
   rcases hblk with⟨t,K,sp,f,j⟩|⟨U,k,f,j⟩
   ·exact .inl ⟨i,t,K,sp,by simp[ej],f,j⟩
   ·exact .inr (.inr ⟨i,U,k,by simp[ej],f,j⟩)
  ·rename_i hne;rcases R.mem.fe s Q Y with⟨E,N,Z,sp',u,m,B⟩|⟨u,B⟩|⟨E,U,k,u,m,B⟩
   ·exact .inl ⟨E,N,Z,sp',by rw[l s (by rw[u];simp)];exact u,(y.same E (jA m) (λh=>h)).trans m,B.dI z λs Y=>l s (B.named s Y)⟩
   ·exact .inr (.inl ⟨by rw[l s (by rw[u];simp)];exact u,B⟩)
   ·exact .inr (.inr ⟨E,U,k,by rw[l s (by rw[u];simp)];exact u,(y.same E (jA m) (λh=>h)).trans m,B⟩)
 ·rw[vK _ _ _ _ (by rw[R.size];exact hd)];show b6 _ _ _ ((σ.put p r).aT c) _;rw[rf];split
  ·exact hr
  ·exact(R.aT c).dI z λs Y=>l s ((R.aT c).named s Y)
 ·intro s x f;unfold ej at f;split at f
  ·injection f with f;injection f with f;have:=R.aN.size;exact .inr O
  ·exact R.aW s x f
 ·intro s H;have:=R.aS s H;unfold ej;rw[g (by rintro rfl;exact M H)];exact this
 ·rw[wi];exact R.defers
 ·rw[uW];exact R.size
theorem eX.makeMap{P:ay}{n:Nat}{aS:aq}{o:Oper}{σ:St}(t:TypeId)(h:o.op=.makeMap t none)(d:Nat)(i:jy n o.dst)(j:σ.heap d=none)(b:¬aS d):
 eX P n aS o σ ⟨(σ.put o.dst (.e (.c (.mp d)))).aT,cX σ.heap d (some [.dV []])⟩:=by
 intro C k f a w ⟨l,R⟩ K Q m;refine my (v:=.map (some w.heap.size)) (w':=w.alloc (.map #[] 0)) ?_ (m _ _ ⟨ej l d (some w.heap.size),?_⟩)
 ·simp[execOp,h,Instr.makeMap]
 ·exact R.azn o.dst (by rw[k];exact i) j (by rw[f];exact b) (qY _ _) (bu _) (.inr ⟨#[],0,oB _ _,rfl⟩) ⟨_,by simp[ej],rfl⟩
def P8{P:ay}(a:w.heap[s]?=some (.map Q i)):(getObj s).run P w=.ok (.map Q i) w:=by simp[getObj,Sem.run,a]
def ahy{P:ay}(o:Obj)(a:w.heap[s]?=some (.map Q i)):(setObj s o).run P w=.ok () { w with heap:=w.heap.setIfInBounds s o}:=by simp[setObj,Sem.run,a]
structure MI where
 kt:TypeId
 et:TypeId
 kf:KF
 z:Value
structure vn(P:ay)(t:TypeId)(m:MI):Prop where
 u:P.underlying t=some (.map m.kt m.et)
 kf:uL P m.kt=some m.kf
 z:(P.info? m.et).bind (·.zero)=some m.z
 one:m.z.oneCell'=true
def vn.zero{P:ay}{m:MI}(h:vn P t m)(w:World):(zeroValue m.et).run P w=.ok m.z w:=by
 have a:=h.z;cases b:P.info? m.et with
 |none=>simp[b]at a
 |some i=>simp only[b,Ca]at a;simp[zeroValue,typeInfo,b,a]
def pd(f:KF)(a:List (Value×Value)):Bool:=a.all λp=>ib f p.1&&p.2.oneCell'
def Ku{f:KF}(h:pd f R=true):R.all (λp=>ib f p.1)=true:=by simp only[pd,eM,dB]at h⊢;exact λp a=>(h p a).1
def dz.adj{σ:St}(c:dz C X σ a w)(Y:σ.heap s=some [.dV R])(k:X s=some (some i)):
 ∃(ents:Array MapEntry)(e:Nat),w.heap[i]?=some (.map ents e)/\R=jo ents.toList:=by
 rcases c.mem.fe s _ Y with⟨l,t,m,x,d,f,h⟩|⟨y,p⟩|⟨l,q,e,d,f,j⟩
 ·have u:=h.1;cases m with
  |nil=>simp at u
  |cons v r=>exact(h.2 0 (.dV R) v rfl rfl).elim
 ·cases p
 ·rw[k]at d;injection d with d;injection d with d;subst d
  injection j with j _
  injection j with j
  exact⟨q,e,f,j⟩
def jB(z k:Value)(a:List (Value×Value)):Value×Bool:=match gX k a 0 with|some (_,v)=>(v,true)|none=>(z,false)
theorem Kx:∀{b:List (Value×Value)} {i j:Nat} {a:Value},gX v b i=some (j,a)->∃p∈b,p.2=a
 |[],_,_,_,h=>by cases h
 |e::b,i,j,a,h=>by
  simp only[gX]at h;split at h
  ·injection h with h;injection h with l c;exact⟨e,ai,c⟩
  ·obtain⟨p,d,f⟩:=Kx h;exact⟨p,by simp[d],f⟩
def ax4{k:Value}{f:KF}(b:v.oneCell'=true)(h:pd f R=true):(jB v k R).1.oneCell'=true:=by
 unfold jB;split
 ·rename_i j a c;obtain⟨p,d,e⟩:=Kx c;simp only[pd,eM,dB]at h;rw[<-e];exact(h p d).2
 ·exact b
def gl:List V->Option (List Value)
 |[]=>some []
 |.d (.sc v)::r=>(gl r).map (v:: ·)
 |_::_=>none
def y_:T->Option Value
 |.e (.c (.d (.sc v)))=>some v
 |.e (.agg a)=>(gl a).map λl=>.agg l.toArray
 |_=>none
theorem acB{w:World}{M:aq}{γ:G}:∀{vs:List V}{us l:av},bR w M γ vs us->gl vs=some l->us=l
 |[],us,l,h,a=>by simp only[gl,cY]at a;subst a;have:=h.1;cases us with|nil=>rfl|cons _ _=>simp at this
 |v::r,us,l,h,a=>by
  unfold gl at a;split at a
  ·rename_i e;cases e
  ·rename_i x p e;injection e with d c;subst d;subst c
   cases us with
   |nil=>have:=h.1;simp at this
   |cons u us=>rw[gM]at a;obtain⟨q,b,rfl⟩:=a;have m:=h.2 0 _ u rfl rfl;cases m;have f:=acB (us:=us) (vs:=r) (w:=w) (M:=M) (γ:=γ) ⟨by have:=h.1;simpa using this,λi x u j k=>h.2 (i+1) x u (an j) (an k)⟩ b;rw[f]
  ·cases a
def acC{x:T}{k:Value}(h:b6 w M X x v)(a:y_ x=some k):v=k:=by
 unfold y_ at a;split at a
 ·injection a with a;subst a;cases h;rfl
 ·rename_i d;rw[gM]at a;obtain⟨l,b,rfl⟩:=a;obtain⟨e,rfl,c⟩:=h;rw[acB c b]
 ·cases a
theorem eX.lookup{P:ay}{n:Nat}{aS:aq}{o:Oper}{σ:St}(t:TypeId)(x y:ax)(h:Bool)(G:o.op=.lookup t x y h)(m:MI)(q:vn P t m)(s:Nat)(r:List (Value×Value))(k:Value)
 (l:σ.ev x=.e (.c (.mp s)))(H:y_ (σ.ev y)=some k)(Y:σ.heap s=some [.dV r])(B:ib m.kf k=true)(D:pd m.kf r=true)(L:jy n o.dst):
 eX P n aS o σ (σ.put o.dst (if h then .cn [.c (.d (.sc (jB m.z k r).1)),.c (.d (.sc (.bool (jB m.z k r).2)))]else .e (.c (.d (.sc (jB m.z k r).1))))):=by
 intro C M _ a w ⟨N,R⟩ K Q T;have E:=R.ev x;have U:=acC (R.ev y) H;rw[l]at E;obtain⟨b,V,X⟩:=E;obtain⟨f,clk,Z,rfl⟩:=R.adj Y V;have j:=ax4 (k:=k) q.one D;have z:(Instr.lookup t (.map (some b)) k h).run P w=.ok (if h then .tuple #[(jB m.z k (jo f.toList)).1,.bool (jB m.z k (jo f.toList)).2]else(jB m.z k (jo f.toList)).1) w:=by
  simp only[Instr.lookup,Sem.run_bind,run_underlying q.u,Result.andThen_ok,P8 Z,Sem.run_pure,SR q.kf w _ B,SU q.kf w B _ (Ku D)];unfold jB;cases hf:gX k (jo f.toList) 0 with
  |none=>cases h<;>simp[q.zero w]
  |some p=>cases h<;>simp
 refine my (v:=if h then .tuple #[(jB m.z k (jo f.toList)).1,.bool (jB m.z k (jo f.toList)).2]else(jB m.z k (jo f.toList)).1) (w':=w) ?_ (T _ _ ⟨N,R.Bu o.dst (by rw[M];exact L) _ _ ?_⟩)
 ·simp only[execOp,G,X,U,Sem.run_bind,z,Result.andThen_ok,Sem.run_pure]
 ·cases h with
  |false=>exact dE.sc _ j
  |true=>
   refine⟨[_,_],rfl,rfl,λi x u l A=>?_⟩
   match i with
   |0=>simp only[jH,cY]at l A;subst l;subst A;exact dE.sc _ j
   |1=>simp only[yr,jH,cY]at l A;subst l;subst A;exact dE.sc _ rfl
   |i+2=>simp at l
def tG(k v:Value)(a:List (Value×Value)):List (Value×Value):=match gX k a 0 with|some (i,_)=>a.set i (k,v)|none=>a++[(k,v)]
theorem ahi:∀(e c:av)(k:IntKind)(d:Nat),e.all (nw k)=true->c.all (nw k)=true->pu e c=true->(e.zip c).all (λ(x,y)=>Instr.sameBits d x y)=true/\e.length=c.length
 |[],[],_,_,_,_,_=>by simp
 |a::r,b::s,k,d,i,f,j=>by
  simp only[wN,dB,pu]at i f j;have l:=ahi r s k d i.2 f.2 j.2;have p:Instr.sameBits d a b=true:=by cases a<;>simp only[nw,iN,be,false_and]at i;cases b<;>simp only[nw,iN,be,false_and]at f;have m:=j.1;simp only[Bq,jw]at m;rw[i.1,f.1,m];simp[Instr.sameBits]
  simp[p,l.1,l.2]
 |[],_::_,_,_,_,_,h=>by simp[pu]at h
 |_::_,[],_,_,_,_,h=>by simp[pu]at h
def aDO{f:KF}{b:Value}(c:ib f v=true)(d:ib f b=true)(h:nE v b=true):Instr.sameBits 10000 b v=true:=by
 cases f with
 |int k=>cases v<;>simp only[ib,nw,iN,be]at c;cases b<;>simp only[ib,nw,iN,be]at d;simp only[nE,jw]at h;subst h;rw[c,d];simp[Instr.sameBits]
 |kx=>
  cases v<;>simp only[ib,iN]at c;cases b<;>simp only[ib,iN]at d;rename_i v b;simp only[nE,jw]at h;have:v=b:=by cases v;cases b;simp only[ByteArray.mk.injEq];exact mW h
  subst this;have m:∀p:ByteArray,(p==p)=true:=λp=>by cases p;rename_i p;show(p==p)=true;simp
  simp[Instr.sameBits,m]
 |pY n k=>
  cases v<;>simp only[ib,iN]at c;cases b<;>simp only[ib,iN]at d;rename_i xs l;simp only[dB]at c d;simp only[nE]at h;have j:∀p q:List Value,pu p q=true->pu q p=true:=by
   intro p
   induction p with
   |nil=>intro q i;cases q with|nil=>rfl|cons _ _=>simp[pu]at i
   |cons x r t=>
    intro q i;cases q with
    |nil=>simp[pu]at i
    |cons y s=>simp only[pu,dB]at i⊢;refine⟨?_,t s i.2⟩;have:=i.1;cases x<;>simp only[Bq,iN]at this;cases y<;>simp only[iN]at this;simp only[Bq,jw]at this⊢;exact this.symm
  have:=ahi l.toList xs.toList k 9999 d.2 c.2 (j _ _ h);show Instr.sameBits (9999+1) _ _=true;have e:l.size=xs.size:=an this.2;simp only[Instr.sameBits,e,beq_self_eq_true,BN];exact this.1
theorem adp:∀{b:List (Value×Value)} {i j:Nat} {a:Value},gX v b i=some (j,a)->i<=j/\∃p,b[j-i]?=some p/\nE v p.1=true
 |[],_,_,_,h=>by cases h
 |e::b,i,j,a,h=>by
  simp only[gX]at h;split at h
  ·rename_i Y;injection h with h;injection h with c l;subst c;exact⟨bu _,e,ai,Y⟩
  ·obtain⟨m,p,d,f⟩:=adp h;refine⟨O,p,?_,f⟩;rw[show j-i=(j-(i+1))+1 by omega];simpa using d
def aBP(a:Array MapEntry)(e:MapEntry):jo (a.push e).toList=jo a.toList++[(e.key,e.val)]:=by simp[jo]
def aBO(a:Array MapEntry)(i:Nat)(k v:Value):jo (a.modify i λe=> { e with key:=k,val:=v}).toList=(jo a.toList).set i (k,v):=by
 simp only[jo,Array.toList_modify];apply ug;intro j;simp only[dU,List.getElem?_modify,Ek,dS];by_cases b:i=j
 ·subst b;by_cases c:i<a.size
  ·simp[c]
  ·simp[c]
 ·simp[b]
def dz.ahz{σ:St}(R:dz C X σ a w){p:Nat}(d:Array MapEntry)(k:Nat)
 (y:X s=some (some i))(E:w.heap[i]?=some (.map Q p))(A:σ.heap s≠none):
 dz C X ⟨σ.aT,cX σ.heap s (some [.dV (jo d.toList)])⟩ a { w with heap:=w.heap.setIfInBounds i (.map d k)}:=by
 have B:=jA E;have f:∀x,x≠i->(w.heap.setIfInBounds i (.map d k))[x]?=w.heap[x]? :=λx j=>by rw[Array.getElem?_setIfInBounds_ne (Ne.symm j)]
 have q:(w.heap.setIfInBounds i (.map d k))[i]?=some (.map d k):=by rw[Array.getElem?_setIfInBounds_self_of_lt B]
 have m:la C.M X X w { w with heap:=w.heap.setIfInBounds i (.map d k)}:=by refine⟨ai,λx j=>f x (by rintro rfl;exact j.2.2 s y),λx j=>j.2.2,λx cells D j=>?_⟩;refine⟨cells,(f x ?_).trans j,rfl⟩;rintro rfl;rw[E]at j;cases j
 refine⟨⟨λx j=>by simpa using R.mem.gG x j,R.mem.inj,R.mem.nm,λx j=>?_,λx cs j=>?_,R.mem.iU.dI m⟩,λc=>(R.aT c).dI m λ_ _=>rfl,?_,R.aW,R.aS,R.defers,R.size⟩
 ·simp only[cX]at j;split at j
  ·cases j
  ·exact R.mem.fW x j
 ·simp only[cX]at j;split at j
  ·rename_i e;subst e;injection j with j;subst j
   exact .inr (.inr ⟨i,d,k,y,q,rfl⟩)
  ·rename_i e;rcases R.mem.fe x cs j with⟨r,K,L,M,l,t,u⟩|N|⟨r,T,p,l,t,u⟩
   ·exact .inl ⟨r,K,L,M,l,(f r (by rintro rfl;exact e (R.mem.inj x s r l y))).trans t,u.dI m λ_ _=>rfl⟩
   ·exact .inr (.inl N)
   ·exact .inr (.inr ⟨r,T,p,l,(f r (by rintro rfl;exact e (R.mem.inj x s r l y))).trans t,u⟩)
 ·have v:=R.aN;have z:=R.aW s i y;refine⟨v.os,v.tape,v.output,v.drawn,by simpa using v.size,λx j H=>?_,λx cells D j=>?_⟩
  ·exact(f x (by rintro rfl;rcases z with h|h;exact H h;omega)).trans (v.same x j H)
  ·obtain⟨c1,U,V⟩:=v.iK x cells D j;obtain⟨c2,Z,s2⟩:=m.iK x c1 D U;exact⟨c2,Z,s2.trans V⟩
theorem eX.mapUpdate{P:ay}{n:Nat}{aS:aq}{o:Oper}{σ:St}(t:TypeId)(x y z:ax)(U:o.op=.mapUpdate t x y z)(j:o.dst=none)(m:MI)(r:vn P t m)(s:Nat)(G:List (Value×Value))(k v:Value)
 (hx:σ.ev x=.e (.c (.mp s)))(hy:y_ (σ.ev y)=some k)(hz:σ.ev z=.e (.c (.d (.sc v))))(Y:σ.heap s=some [.dV G])(B:ib m.kf k=true)(H:pd m.kf G=true):
 eX P n aS o σ ⟨σ.aT,cX σ.heap s (some [.dV (tG k v G)])⟩:=by
 intro C hn _ a w ⟨V,R⟩ K Q X;have h1:=R.ev x;have h2:=acC (R.ev y) hy;have h3:=R.ev z;rw[hx]at h1;rw[hz]at h3;obtain⟨b,L,Z⟩:=h1;obtain⟨f,h,A,rfl⟩:=R.adj Y L;have D:a.eval z=v:=by cases h3;rfl
 cases hf:gX k (jo f.toList) 0 with
 |none=>
  refine UJ (w':= { w with heap:=w.heap.setIfInBounds b (.map (f.push ⟨k,v,h⟩) (h+1))}) ?_ (X _ _ ⟨V,?_⟩)
  ·simp only[execOp,U,Z,h2,D,Instr.mapUpdate,Sem.run_bind,run_underlying r.u,Result.andThen_ok,P8 A,SR r.kf w _ B,SU r.kf w B _ (Ku H),hf,ahy _ A,Sem.run_pure]
  ·have:=R.ahz (f.push ⟨k,v,h⟩) (h+1) L A (by rw[Y];simp);rw[j];simp only[tG,hf];rw[aBP]at this;exact this
 |some p=>
  obtain⟨i,u⟩:=p;obtain⟨_,q,E,M⟩:=adp hf;simp only[Nat.sub_zero]at E;have N:ib m.kf q.1=true:=by have:=(Ku H);rw[eM]at this;exact this q (bF E)
  have T:=aDO B N M;have hold:((f[i]?).map (·.key)).getD k=q.1:=by simp only[jo,dU,yc,gM]at E;obtain⟨e0,h0,rfl⟩:=E;simp[h0]
  have l:(Instr.keyThatStays q.1 k).run P w=.ok k w:=by simp[Instr.keyThatStays,T]
  refine UJ (w':= { w with heap:=w.heap.setIfInBounds b (.map (f.modify i λe=> { e with key:=k,val:=v}) h)}) ?_ (X _ _ ⟨V,?_⟩)
  ·simp only[execOp,U,Z,h2,D,Instr.mapUpdate,Sem.run_bind,run_underlying r.u,Result.andThen_ok,P8 A,SR r.kf w _ B,SU r.kf w B _ (Ku H),hf,hold,l,ahy _ A,Sem.run_pure]
  ·have:=R.ahz (f.modify i λe=> { e with key:=k,val:=v}) h L A (by rw[Y];simp);rw[j];simp only[tG,hf];rw[aBO]at this;exact this
section
variable {P:ay}{n:Nat}{aS:Nat→Prop}{ops:aw}{o:Oper}{σ:St}
theorem SQ.makeMap(i:fF ops o σ)(t:TypeId)(b:o.op=.makeMap t none)(d:Nat)(k:jy n o.dst)(a:¬aS d)(j:σ.heap d=none):
 SQ P n aS ops o σ ⟨(σ.put o.dst (.e (.c (.mp d)))).aT,cX σ.heap d (some [.dV []])⟩ ⟨lk ops o,(2*d+1)::dl o,[]⟩:=
 SQ.block d (some [.dV []]) rfl (λ_ h=>h) λm l f=>.inl ⟨i.congr f,.makeMap t b d k (by rw[qe (l (2*d+1) (.inr ai)),j]) a⟩
theorem SQ.lookup(u:fF ops o σ)(t:TypeId)(x y:ax)(b:Bool)(f:o.op=.lookup t x y b)(m:MI)(q:vn P t m)(s:Nat)(a:List (Value×Value))(k:Value)
 (p:σ.ev x=.e (.c (.mp s)))(j:y_ (σ.ev y)=some k)(Y:σ.heap s=some [.dV a])(r:ib m.kf k=true)(v:pd m.kf a=true)(w:jy n o.dst):
 SQ P n aS ops o σ (σ.put o.dst (if b then .cn [.c (.d (.sc (jB m.z k a).1)),.c (.d (.sc (.bool (jB m.z k a).2)))]else .e (.c (.d (.sc (jB m.z k a).1))))) ⟨(2*s+1)::lk ops o,dl o,[]⟩where
 frame l hl:=Dv σ o _ l hl
 go z i _:=by have hl:=xx (λl h=>cE _ h) i;rw[Gy];exact .inl ⟨u.congr hl,.lookup t x y b f m q s a k (by rw[qc hl x (by simp[f,Op.operands]),p]) (by rw[qc hl y (by simp[f,Op.operands]),j]) (by rw[qe (i (2*s+1) (.inl ai)),Y]) r v w⟩
theorem SQ.mapUpdate(w:fF ops o σ)(t:TypeId)(x y z:ax)(i:o.op=.mapUpdate t x y z)(a:o.dst=none)(m:MI)(q:vn P t m)(s:Nat)(f:List (Value×Value))(k v:Value)
 (p:σ.ev x=.e (.c (.mp s)))(l:y_ (σ.ev y)=some k)(j:σ.ev z=.e (.c (.d (.sc v))))(Y:σ.heap s=some [.dV f])(u:ib m.kf k=true)(A:pd m.kf f=true):
 SQ P n aS ops o σ ⟨σ.aT,cX σ.heap s (some [.dV (tG k v f)])⟩ ⟨lk ops o,(2*s+1)::dl o,[]⟩:=
 SQ.block (r:=.any) s (some [.dV (tG k v f)]) (by rw[a,Ls]) (λ_ h=>h) λC B b=>by
  rw[a,Ls];refine .inl ⟨w.congr b,.mapUpdate t x y z i a m q s f k v ?_ ?_ ?_ (by rw[qe (B (2*s+1) (.inr ai)),Y]) u A⟩
  ·rw[qc b x (by simp[i,Op.operands]),p]
  ·rw[qc b y (by simp[i,Op.operands]),l]
  ·rw[qc b z (by simp[i,Op.operands]),j]
end
def an4{ev:Operand->T}(t:TypeId)(len:Nat)(parts:Array (Nat×Operand))(E:o.op=.buildSlice t len parts)(d:Nat)(e:TypeId)(k:Nat)(G:List V)(l:List (List D))
 (N:jF P t=some e)(hk:fb P e=some k)(R:jZ P e=some G)(n:G.length=k)(hl:parts.size=len)(m:len*k<=16777216)(p:0<k)(U:0<len)(X:vS k ev 0 parts.toList=some l):
 t_ P o ev d (l.flatten.map .d) (.e (.c (.sub d k 0 len))):=by
 intro M γ H w a hm h K Q hK;obtain⟨z0,q,r,ha⟩:=DV R;obtain⟨z,s,u⟩:=Hi q w;have i:z0.length=k:=by rw[<-n,r];simp
 have y:z.cells=z0.toArray:=by rw[<-u]
 have j:parts.toList.length=len:=an hl;obtain⟨h1,h2,A,h3,L,h5⟩:=QI (w:=w) (M:=M) (γ:=γ) (ev:=ev) (a:=a) k parts.toList 0 l [] ((List.replicate len z0).flatten) (λx Z=>h x (by simpa[E,Op.operands]using Z)) X ai (by simp[j,i]);have B:l.length=len:=by rw[h2,j]
 have b:(Array.range (len*k)).map ((if len*k=0 then(#[]:Array Value)else z.cells)[· %(if len*k=0 then(#[]:Array Value)else z.cells).size]!)=((List.replicate len z0).flatten).toArray:=by
  apply mW;rw[<-SH z0 len,i];by_cases f:len*k=0
  ·simp[f]
  ·rw[g f,y]
 refine my (v:=.slice (some ⟨w.heap.size,0,none⟩) len len) (w':=w.alloc (.cells A.toArray e)) ?_ (hK _ _ w.heap.size e A [] (qY _ _) (bu _) ?_ h5 ?_)
 ·have C:¬(16777216<len*k):=by omega
  simp only[gi]at L;have f:¬(len*k=0):=by intro f;rcases Nat.mul_eq_zero.1 f with h|h<;>omega
  rw[g f]at b;simp[execOp,E,Instr.buildSlice,run_underlying (u9 N),od hk,C,f,s,b,L,newRow]
 ·rw[oB];simp
 ·refine .inl ⟨w.heap.size,len,A.toArray,e,by simp[ej],rfl,bu _,by simp only[maxLen];have:=Nat.le_mul_of_pos_right len p;omega,oB _ _,?_⟩;simp[h3,B]
theorem WP.scope{aS:aq}{i:St}{Q:lI}{c:Code}(h:WP P n aS c i Q):WP P n aS (.scope c) i Q:=by
 intro C k Y a w R;refine wp_scope_straight (wp_mono (h C k Y a w R) λe m o ⟨b,f,d⟩=>?_);cases e with
 |normal=>exact⟨b,f,d⟩
 |exit j=>exact⟨b,f,d⟩
 |ret=>exact⟨b,f,d⟩
 |goto l=>cases d
 |panic p=>cases d
 |outgrown=>cases d
def xg(s:aA):List Value:=s.data.toList.map λb=>.int .u8 b.toNat
def s9(s:aA):List V:=s.data.toList.map λb=>.d (.sc (.int .u8 b.toNat))
def ap_(s:aA):(xg s).length=s.size:=by unfold xg;rw[dS];rfl
def avj(w:World)(k:Nat)(s:aA):(Builtin.firstCells k s.size (.string s)).run P w=.ok (xg s).toArray w:=by simp[Builtin.firstCells];apply mW;simp[xg]
def aij{k m:Nat}{news:List V}{b:aA}{o:Operand->T}(l:k=1)(f:news=s9 b)(r:m=b.size)(s:o x=.e (.c (.d (.sc (.string b)))))(p:b6 w M X (o x) v):
 ∃n:List Value,n=xg b/\v=.string b/\bR w M X news n/\n.length=m*k:=by
 rw[s]at p;refine⟨xg b,rfl,gK p,?_,by rw[ap_,l,r];omega⟩;subst f;refine⟨by simp[xg,s9],λi a u h j=>?_⟩;simp only[s9,xg,dU]at h j;cases q:b.data.toList[i]? with
 |none=>rw[q]at h;simp at h
 |some c=>rw[q]at h j;simp only[dH,cY]at h j;subst h;subst j;exact dE.sc _ rfl
def aaM{w':World}(b:o.op=.call { callee:=.builtin .append,args:=#[x,u],argTypes:=#[t,e]})
 (h:(Builtin.append_ #[t,e] o.type #[a.eval x,a.eval u]).run P w=.ok v w'):(execOp a.eval o).run P w=.ok (.value v) w':=by
 simp[execOp,b,resolve,invoke,builtin,h]
def Xw{P:ay}{k:Nat}{zs:List V}(ty:TypeId)(ht:jF P t=some e)(hk:fb P e=some k)(hb:oc P e=some n)(hz:jZ P e=some zs)(hzk:zs.length=k)
 {u0:TypeId}(hu0:rB P u0=true)(p:aA){m:Nat}{us:av}(hk1:k=1)(hm:m=p.size)(G:us=xg p)
 {A:Option Addr}{len cap:Nat}{vs spare:av}
 (H:(∃(b:Nat)(t0:TypeId),A=some ⟨b,0,none⟩/\w.heap[b]?=some (.cells (vs++spare).toArray t0 (0,0))/\cap*k<=(vs++spare).length)\/(len=0/\cap=0))
 (K:len<=cap)(hcap:cap<=maxLen)(q:vs.length=len*k)
 (L:us.length=m*k)(h1:∀u∈us,u.oneCell'=true)
 (M:(len+m)*n<=140737488355328)(v:len+m<=maxLen):
 ∃o d,(Builtin.append_ #[t,u0] ty #[.slice A len cap,.string p]).run P w=.ok o d/\
  ((o=.slice A (len+m) cap/\len+m<=cap/\((m=0/\d=w)\/(∃b t0,A=some ⟨b,0,none⟩/\w.heap[b]?=some (.cells (vs++spare).toArray t0 (0,0))/\us.length<=spare.length/\d=w.setRow b ((vs++us)++spare.drop us.length).toArray)))\/
   (∃c rest,o=.slice (some ⟨w.heap.size,0,none⟩) (len+m) c/\len+m<=c/\c<=maxLen/\c*k<=((vs++us)++rest).length/\d=w.drew.alloc (.cells ((vs++us)++rest).toArray e))):=by
 obtain⟨i,z,z0,hi,hzi,hsz,hby,hzc,hze,ha⟩:=TS hk hb hz;have hzl:z.cells.size=k:=by rw[hzc,<-hzk,hze];simp
 have hu:=u9 ht;have r:=Ue hu0;have hmax':len+m<=9223372036854775807:=by simp only[maxLen]at v;omega
 subst hsz;have x:∀w:World,(Builtin.firstCells i.size m (.string p)).run P w=.ok us.toArray w:=λw=>by rw[G,hm];exact avj w _ p
 by_cases s:m=0
 ·have N:us=[]:=fc (by rw[L,s];simp);have Q:p.size=0:=O;have hf:=x w;rw[N,s]at hf;refine⟨.slice A len cap,w,?_,.inl ⟨by simp[s],O,.inl ⟨s,rfl⟩⟩⟩;cases A with
  |none=>simp[Builtin.append_,run_underlying hu,run_underlying r,sizeOf,typeInfo,hi,Builtin.lenOf,K,hf,Q]
  |some a=>simp[Builtin.append_,run_underlying hu,run_underlying r,sizeOf,typeInfo,hi,Builtin.lenOf,K,hf,Q,storeCells]
 ·have B:∀C,C<len+m->Builtin.nextslicecap (len+m) C*i.bytes<=281474976710656:=λC ho=>growslice_fits ho (by rw[hby];exact M)
  have h:∀(R:cap<len+m),(∀d:World,(∀b:Nat,d.heap[b]?=w.heap[b]?)->(Builtin.firstCells i.size len (.slice A len cap)).run P d=.ok vs.toArray d)->
   ∃o d,(Builtin.append_ #[t,u0] ty #[.slice A len cap,.string p]).run P w=.ok o d/\
    (∃c rest,o=.slice (some ⟨w.heap.size,0,none⟩) (len+m) c/\len+m<=c/\c<=maxLen/\c*i.size<=((vs++us)++rest).length/\d=w.drew.alloc (.cells ((vs++us)++rest).toArray e)):=by
   intro R hold;have hn:¬(len+m<=cap):=O;have T:¬(9223372036854775807<((len:Int)+(m:Int))):=O;have U:¬(281474976710656<Builtin.nextslicecap (len+m) cap*i.bytes):=by have:=B cap R;omega
   have hf:=x w.drew;have hfo:=hold w.drew (λ_=>rfl);have D:p.size=m:=hm.symm
   refine⟨.slice (some ⟨w.heap.size,0,none⟩) (len+m) (grownCap w (len+m) cap e),w.drew.alloc (.cells ((vs++us)++(Builtin.zeroCells z.cells (grownCap w (len+m) cap e-(len+m))).toList).toArray e),?_,
    grownCap w (len+m) cap e,(Builtin.zeroCells z.cells (grownCap w (len+m) cap e-(len+m))).toList,rfl,grownCap_ge _ _ _ _,grownCap_le_maxLen _ _ _ _ v,?_,rfl⟩
   ·simp[Builtin.append_,run_underlying hu,run_underlying r,sizeOf,typeInfo,zeroValue,hi,hzi,Builtin.lenOf,D,hn,T,U,Question.forced,hf,hfo,newRow,grownCap];try(congr 2;apply mW;simp[gh])
   ·have hge:=grownCap_ge w (len+m) cap e;simp only[c_,q,L,BL,size_zeroCells,hzl,<-jS];apply jI;omega
  rcases H with⟨b,t0,rfl,E,hcs⟩|⟨rfl,rfl⟩
  ·by_cases f:len+m<=cap
   ·have l:len*i.size+us.length<=(vs++spare).toArray.size:=by have:(len+m)*i.size<=cap*i.size:=jI _ f;rw[jS]at this;simp only[List.size_toArray];omega
    have hff:=x w;have X:=run_storeCells_at P b (len*i.size) t0 us 0 (vs++spare).toArray w E (an l) h1;simp only[sV]at X;have hsl:us.length<=spare.length:=by simp at l;omega
    have Z:(vs++spare).take (len*i.size)++us++(vs++spare).drop (len*i.size+us.length)=(vs++us)++spare.drop us.length:=by
     rw[<-q,Np,HO,HQ O]
     ·simp
     ·rfl
    have D:p.size=m:=hm.symm;refine⟨_,w.setRow b ((vs++us)++spare.drop us.length).toArray,?_,.inl ⟨rfl,f,.inr ⟨b,t0,rfl,E,hsl,rfl⟩⟩⟩;rw[<-Z];simp[Builtin.append_,run_underlying hu,run_underlying r,sizeOf,typeInfo,hi,Builtin.lenOf,D,f,hff,Addr.add_lit,X]
   ·obtain⟨o,d,hr,h2⟩:=h O (λd hw'=>by refine run_firstCells_some (P:=P) d i.size len ⟨b,0,none⟩ len cap vs q (λj u hj=>?_);have hb0':d.heap[b]?=some (.cells (vs++spare).toArray t0 (0,0)):=(hw' b).trans E;rw[uQ,oo,yP hb0'];exact FY hj)
    exact⟨o,d,hr,.inr h2⟩
  ·have hvs:vs=[]:=fc (an q);subst hvs;obtain⟨o,d,hr,h2⟩:=h O (λd _=>by cases A<;>simp[Builtin.firstCells,loadCells,loadCellsFrom])
   exact⟨o,d,hr,.inr h2⟩
def Hf(P:ay)(t:TypeId):Option TypeId:=match P.underlying t with|some (.pointer e)=>some e|_=>none
def aGa(h:Hf P t=some e):P.underlying t=some (.pointer e):=by unfold Hf at h;split at h<;>simp_all
def Lr:T->T->Option Bool
 |.e (.c (.ptr s o)),.e (.c (.ptr a b))=>if s=a/\o=b then some true else none
 |.e (.c (.ptr _ _)),.e (.c (.d (.sc (.pointer none))))=>some false
 |.e (.c (.d (.sc (.pointer none)))),.e (.c (.ptr _ _))=>some false
 |.e (.c (.d (.sc (.pointer none)))),.e (.c (.d (.sc (.pointer none))))=>some true
 |_,_=>none
def aBV{j:TypeInfo}(n:Hf P t=some e)(r:P.info? e=some j){x a:T}{b:Bool}(h:Lr x a=some b)(c:b6 w M X x y)(f:b6 w M X a v):
 (∃p q,y=.pointer p/\v=.pointer q)/\(Op.equal t y v).run P w=.ok b w:=by
 have l:=aGa n;unfold Lr at h;split at h
 ·rename_i s o A B;split at h
  ·rename_i z;obtain⟨rfl,rfl⟩:=z;injection h with h;subst h
   obtain⟨i,m,rfl⟩:=c;obtain⟨C,k,rfl⟩:=f;rw[m]at k;injection k with k;injection k with k;subst k
   refine⟨⟨_,_,rfl,rfl⟩,?_⟩;have h:∀d:Nat,(Op.equalIn (d+1) t (.pointer (some ⟨i,o,none⟩)) (.pointer (some ⟨i,o,none⟩))).run P w=.ok true w:=λd=>by simp[Op.equalIn,run_underlying l,sizeOf,typeInfo,r,run_sameAddr_same]
   exact h 9999
  ·cases h
 ·injection h with h;subst h
  obtain⟨i,m,rfl⟩:=c;have f:=gK f;subst f;refine⟨⟨_,_,rfl,rfl⟩,?_⟩;rename_i s o;have h:∀d:Nat,(Op.equalIn (d+1) t (.pointer (some ⟨i,o,none⟩)) (.pointer none)).run P w=.ok false w:=λd=>by simp[Op.equalIn,run_underlying l]
  exact h 9999
 ·injection h with h;subst h
  obtain⟨i,m,rfl⟩:=f;have c:=gK c;subst c;refine⟨⟨_,_,rfl,rfl⟩,?_⟩;rename_i s o;have h:∀d:Nat,(Op.equalIn (d+1) t (.pointer none) (.pointer (some ⟨i,o,none⟩))).run P w=.ok false w:=λd=>by simp[Op.equalIn,run_underlying l]
  exact h 9999
 ·injection h with h;subst h
  have c:=gK c;have f:=gK f;subst c;subst f;refine⟨⟨_,_,rfl,rfl⟩,?_⟩;have h:∀d:Nat,(Op.equalIn (d+1) t (.pointer none) (.pointer none)).run P w=.ok true w:=λd=>by simp[Op.equalIn,run_underlying l]
  exact h 9999
 ·cases h
def aft{i:Operand->T}(t:TypeId)(x y:ax)(u:TypeId)(k:Bool)(f:o.op=.binOp (if k then .neq else .eql) t x y u)(r:TypeId)(j:TypeInfo)(v:Hf P t=some r)(z:P.info? r=some j)(b:Bool)(h:Lr (i x) (i y)=some b):
 iu P o i (.e (.c (.d (.sc (.bool (b !=k)))))):=
 kJ λM C H w a _ s=>by
  have A:=s x (by simp[f,Op.operands]);have B:=s y (by simp[f,Op.operands]);obtain⟨⟨p,q,l,m⟩,n⟩:=aBV v z h A B;refine⟨_,?_,.sc _ rfl⟩;rw[l,m]at n;cases k
  ·simp[execOp,f,l,m,eqGuard,binOp,n]
  ·simp[execOp,f,l,m,eqGuard,binOp,n]
def U3(n:Nat)(H b:eh):Prop:=∀s,b s=H s\/∃a,H s=some a/\(∀c,a≠[.dV c])/\b s=some (a.take n)
theorem Mem.cut(h:Mem M X H w)(m:U3 n H A):Mem M X A w where
 gG:=h.gG
 iU:=h.iU
 inj:=h.inj
 nm:=h.nm
 fW s Y:=by
  rcases m s with e|⟨o,p,_,a⟩
  ·exact h.fW s (by rw[<-e,Y])
  ·rw[Y]at a;cases a
 fe s o Y:=by
  rcases m s with e|⟨k,p,r,a⟩
  ·exact h.fe s o (by rw[<-e,Y])
  ·rw[Y]at a;injection a with a;subst a
   rcases h.fe s k p with⟨b,t,q,v,c,d,f⟩|⟨c,d⟩|⟨b,B,y,c,d,f⟩
   ·refine .inl ⟨b,t,q.take n,q.drop n++v,c,by rw[<-gh,om];exact d,?_,λi x u j l=>?_⟩
    ·rw[ez,ez,f.1]
    ·rw[rM]at j l;split at j
     ·rename_i z;rw[aK z]at l;exact f.2 i x u j l
     ·cases j
   ·subst d;exact .inr (.inl ⟨c,ai⟩)
   ·exact absurd f (r _)
def cN.aGe{args:List E}{c:eh}{aS:aq}{r:T}(h:cN P f H args A aS r)(d:U3 n A c):cN P f H args c aS r:=
 ⟨h.1,λM i w a j k=>(h.2 M i w a j k).mono λe q l=>by obtain⟨v,b,m,o,p⟩:=l;exact⟨v,b,m,o.cut d,p⟩⟩
def eX.N1{aS:aq}{p:St}(t:TypeId)(x:ax)(D:o.op=.slice t x none none none)(d:Nat)(e:TypeId)(k:Nat)(E:wo P t=some (d,e))(G:fb P e=some k)
 (s:Nat)(j:List V)(H:p.ev x=.e (.c (.ptr s 0)))(Y:p.heap s=some j)(hl:d*k<=j.length)(L:∀es,j≠[.dV es])(hn:d<=140737488355328)(M:jy n o.dst):eX P n aS o p (p.put o.dst (.e (.c (.sub s k 0 d)))):=by
 intro C r _ a w ⟨A,R⟩ K Q N;have B:=R.ev x;rw[H]at B;obtain⟨b,u,T⟩:=B;have U:∃(t0:TypeId)(vs q:av),w.heap[b]?=some (.cells (vs++q).toArray t0 (0,0))/\bR w C.M A j vs:=by
  rcases R.mem.fe s j Y with⟨b',X,vs,q,f,l,y⟩|⟨h,_⟩|⟨b',en,clk,f,l,h⟩
  ·rw[u]at f;injection f with f;injection f with f;subst f
   exact⟨X,vs,q,l,y⟩
  ·rw[u]at h;injection h with h;cases h
  ·exact absurd h (L _)
 obtain⟨t0,vs,q,z,Z⟩:=U;have m:(execOp a.eval o).run P w=.ok (.value (.slice (some ⟨b,0,none⟩) d d)) w:=by simp only[execOp,D,Instr.sliceAt,Instr.sliceBounds,T,Instr.sureAddr];simp[run_underlying (TO E),od G];exact λ_=>rfl
 refine my (v:=.slice (some ⟨b,0,none⟩) d d) (w':=w) m (N _ _ ⟨A,?_⟩);refine⟨by rw[Dw];exact R.mem,λi=>?_,R.aN,R.aW,R.aS,by rw[wi];exact R.defers,by rw[uW];exact R.size⟩;rw[vK _ _ _ _ (by rw[R.size,r];exact M),rf];split
 ·refine .inl ⟨b,d,_,t0,u,rfl,bu _,by simp only[maxLen];omega,z,?_⟩;have:=Z.1;simp;omega
 ·exact R.aT i
theorem SQ.N1{aS:aq}{b:St}(m:fF Z o b)(t:TypeId)(x:ax)(i:o.op=.slice t x none none none)(a:Nat)(e:TypeId)(k:Nat)(p:wo P t=some (a,e))(q:fb P e=some k)
 (s:Nat)(f:List V)(r:b.ev x=.e (.c (.ptr s 0)))(Y:b.heap s=some f)(hl:a*k<=f.length)(u:∀v,f≠[.dV v])(w:a<=140737488355328)(y:jy n o.dst):
 SQ P n aS Z o b (b.put o.dst (.e (.c (.sub s k 0 a)))) ⟨(2*s+1)::lk Z o,dl o,[]⟩where
 frame l hl:=Dv b o _ l hl
 go z j _:=by have d:=xx (λl h=>cE _ h) j;rw[Gy];exact .inl ⟨m.congr d,.N1 t x i a e k p q s f (by rw[qc d x (by simp[i,Op.operands]),r]) (by rw[qe (j (2*s+1) (.inl ai)),Y]) hl u w y⟩
def wa(s:Nat)(a:List V):eh:=λu=>if u=s then some a else none
def RG{a:List V}(h:Mem M X (wa s a) w):ll X s=iw:=by
 funext u;unfold ll;split
 ·rfl
 ·rename_i e;exact h.fW u (by unfold wa;rw[g e])
def RH(h:Mem M X H w):Mem M iw tI w:=
 ⟨h.gG,(λs t b a=>by cases a),(λs b a=>by cases a),(λ_ _=>rfl),(λs d Y=>by cases Y),h.iU.to (λb c=>⟨c.1,c.2.1,λ_ h=>by cases h⟩) (λ_ _=>rfl)⟩
theorem lb.cL(e:Mem M X H w)(Y:H s=some (N.map .d)){b:List E}{vs:av}(h:lb w M X b vs):lb w M (ll X s) (b.map (E.cL s N)) vs:=by
 refine⟨by rw[dS];exact h.1,λi x u a f=>?_⟩;rw[dU]at a;cases c:b[i]? with
 |none=>rw[c]at a;cases a
 |some y=>
  rw[c]at a;injection a with a
  subst a;exact(h.2 i y u c f).cL e Y
def cN.Ye{ds:List D}{args:List E}{aS:aq}(h:li P f (args.map (E.cL s ds)) (.e (.c (.d (.sc y))))):
 cN P f (wa s (ds.map .d)) args (wa s (ds.map .d)) aS (.e (.c (.d (.sc y)))):=by
 refine⟨h.1,λM q w i l r=>?_⟩;have Y:wa s (ds.map .d) s=some (ds.map .d):=aK rfl;have j:=lb.cL l Y r;rw[RG l]at j;refine(h.2 M iw w i (RH l) j).mono λe w' t=>?_
 obtain⟨v,m,x,A,n,a,_,_⟩:=t;have k:fL q_ w w':=⟨a.os,a.tape,a.output,a.drawn,a.size,λb o _=>a.same b o (λ⟨u,p⟩=>by cases p),a.iK⟩;refine⟨v,q,x,l.F_ k,?_,⟨k.os,k.tape,k.output,k.drawn,k.size,λb o _=>k.same b o (λh=>h),k.iK⟩,λu b p=>.inl ⟨u,p⟩,λ_ _=>rfl⟩;have n:dE w' (cS w' M m) (.sc y) v:=n;show dE w' (cS w' M q) (.sc y) v;cases n with
 |sc _ z=>exact .sc _ z
def li.aeA{args:List E}{aS:aq}{r:T}(h:cN P f tI args (wa s (N.map .d)) aS r):li P f args (r.cL s N):=by refine⟨h.1,λM k w a l m=>(h.2 M k w a l m).mono λe x n=>?_⟩;obtain⟨v,o,p,c,q,t,y,_⟩:=n;have Y:wa s (N.map .d) s=some (N.map .d):=aK rfl;have j:=b6.cL c Y q;rw[RG c]at j;exact⟨v,iw,p,RH c,j,t,(λu b i=>by cases i),λ_ i=>i.elim⟩
def lb.azP{b:List E}{vs:av}(h:lb w M X b vs):lb w M X (b.map E.cH) vs:=by
 refine⟨by rw[dS];exact h.1,λi x u a d=>?_⟩;rw[dU]at a;cases c:b[i]? with
 |none=>rw[c]at a;cases a
 |some y=>
  rw[c]at a;injection a with a
  subst a;exact(h.2 i y u c d).cH
def cN.arL{args:List E}{r:T}{aS:aq}(l:∀u,aS u->u≠s)(h:li P f ((args.map (E.cL s N)).map E.cH) r):cN P f (wa s (N.map .d)) args tI aS r:=by
 refine⟨h.1,λM C w c k o=>?_⟩;have Y:wa s (N.map .d) s=some (N.map .d):=aK rfl;have i:=lb.azP (lb.cL k Y o);rw[RG k]at i;refine(h.2 M iw w c (RH k) i).mono λe G p=>?_
 obtain⟨v,m,q,n,x,a,y,_⟩:=p;refine⟨v,m,q,n,x,⟨a.os,a.tape,a.output,a.drawn,a.size,λb z H=>a.same b z (λ⟨u,j⟩=>by cases j),a.iK⟩,λu b j=>?_,λu j=>?_⟩
 ·rcases y u b j with⟨t,A⟩|B
  ·cases A
  ·exact .inr B
 ·rw[n.fW u rfl];exact(k.fW u (by unfold wa;rw[g (l u j)])).symm
