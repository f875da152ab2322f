/- A part of the proof of VirtualLinear: So to Tb. No condition. -/
import Derived.Shelf.SlSortCmp.NoneTotal
import Derived.Test.YtfbmhjooliccnaaGreatDoorYh
import Derived.Test.YtfbmhjooliccnaaGreatDoorYi
set_option linter.all false
set_option maxRecDepth 100000
set_option maxHeartbeats 60000000
noncomputable section
namespace Go.Proofs.YtfbmhjooliccnaaGreatDoor
open Go Go.Shelf Go.RowKit Go.Lib Go.Sort Go.Proofs.Tryz
def Hh:Go.Shelf.Ren:=⟨λn=>match n with|14=>268|20=>284|21=>285|22=>286|23=>287|24=>288|25=>289|26=>290|27=>291|46=>299|47=>300|48=>301|49=>302|50=>303|15=>269|57=>308|28=>282|29=>292|n=>n,λn=>match n with|24=>171|22=>160|3=>3|25=>258|4=>4|0=>0|46=>304|45=>303|50=>255|66=>316|39=>191|55=>138|70=>320|76=>325|77=>326|53=>168|5=>5|9=>9|n=>n,λn=>n⟩
theorem Q0:SlLaysF0.n14 prog Hh where
 mixed:=af
 f14:=⟨Tryz.f268.name,af,Tryz.func268.trans (bi some af)⟩
 f15:=Tryz.func269.trans (bi some af)
 f20:=⟨Tryz.f284.name,af,Tryz.func284.trans (bi some af)⟩
 f21:=⟨Tryz.f285.name,af,Tryz.func285.trans (bi some af)⟩
 f22:=⟨Tryz.f286.name,af,Tryz.func286.trans (bi some af)⟩
 f23:=⟨Tryz.f287.name,af,Tryz.func287.trans (bi some af)⟩
 f24:=⟨Tryz.f288.name,af,Tryz.func288.trans (bi some af)⟩
 f25:=⟨Tryz.f289.name,af,Tryz.func289.trans (bi some af)⟩
 f26:=⟨Tryz.f290.name,af,Tryz.func290.trans (bi some af)⟩
 f27:=⟨Tryz.f291.name,af,Tryz.func291.trans (bi some af)⟩
 f28:=Tryz.func282.trans (bi some af)
 f29:=Tryz.func292.trans (bi some af)
 f46:=⟨Tryz.f299.name,af,Tryz.func299.trans (bi some af)⟩
 f47:=Tryz.func300.trans (bi some af)
 f48:=Tryz.func301.trans (bi some af)
 f49:=⟨Tryz.f302.name,af,Tryz.func302.trans (bi some af)⟩
 f50:=⟨Tryz.f303.name,af,Tryz.func303.trans (bi some af)⟩
 f57:=⟨Tryz.f308.name,af,Tryz.func308.trans (bi some af)⟩
 t0:=Tryz.underlying0
 a0:=Tryz.isAgg0
 z0:=Tryz.sizeOf0
 v0:=Tryz.zeroValue0
 t3:=Tryz.underlying3
 a3:=Tryz.isAgg3
 z3:=Tryz.sizeOf3
 v3:=Tryz.zeroValue3
 t4:=Tryz.underlying4
 a4:=Tryz.isAgg4
 z4:=Tryz.sizeOf4
 v4:=Tryz.zeroValue4
 t5:=Tryz.underlying5
 a5:=Tryz.isAgg5
 z5:=Tryz.sizeOf5
 v5:=Tryz.zeroValue5
 t9:=Tryz.underlying9
 a9:=Tryz.isAgg9
 z9:=Tryz.sizeOf9
 v9:=Tryz.zeroValue9
 t22:=Tryz.underlying160
 a22:=Tryz.isAgg160
 z22:=Tryz.sizeOf160
 v22:=Tryz.zeroValue160
 t25:=Tryz.underlying258
 a25:=Tryz.isAgg258
 z25:=Tryz.sizeOf258
 v25:=Tryz.zeroValue258
 t39:=Tryz.underlying191
 a39:=Tryz.isAgg191
 z39:=Tryz.sizeOf191
 v39:=Tryz.zeroValue191
 t45:=Tryz.underlying303
 a45:=Tryz.isAgg303
 z45:=Tryz.sizeOf303
 v45:=Tryz.zeroValue303
 t46:=Tryz.underlying304
 a46:=Tryz.isAgg304
 z46:=Tryz.sizeOf304
 v46:=Tryz.zeroValue304
 t50:=Tryz.underlying255
 a50:=Tryz.isAgg255
 z50:=Tryz.sizeOf255
 v50:=Tryz.zeroValue255
 t53:=Tryz.underlying168
 a53:=Tryz.isAgg168
 z53:=Tryz.sizeOf168
 v53:=Tryz.zeroValue168
 t55:=Tryz.underlying138
 a55:=Tryz.isAgg138
 z55:=Tryz.sizeOf138
 v55:=Tryz.zeroValue138
 t66:=Tryz.underlying316
 a66:=Tryz.isAgg316
 z66:=Tryz.sizeOf316
 v66:=Tryz.zeroValue316
 t70:=Tryz.underlying320
 a70:=Tryz.isAgg320
 z70:=Tryz.sizeOf320
 v70:=Tryz.zeroValue320
 t76:=Tryz.underlying325
 a76:=Tryz.isAgg325
 z76:=Tryz.sizeOf325
 v76:=Tryz.zeroValue325
 t77:=Tryz.underlying326
 a77:=Tryz.isAgg326
 z77:=Tryz.sizeOf326
 v77:=Tryz.zeroValue326
end Go.Proofs.YtfbmhjooliccnaaGreatDoor
namespace Go.Proofs.YtfbmhjooliccnaaGreatDoor
open Go Go.Ab Go.Proofs.Tryz
variable {l:List S}{i j:Nat}
def JA{x y:Int}:gl x y<0↔x<y:=by unfold gl;split<;>(try split)<;>simp<;>omega
def O4{x y:Int}:gl x y=0↔x=y:=by unfold gl;split<;>(try split)<;>simp<;>omega
def lN(p q:bf):=p.e4<q.e4\/(p.e4=q.e4/\(p.e3<q.e3\/(p.e3=q.e3/\(p.e2<q.e2\/(p.e2=q.e2/\p.e1<q.e1)))))
def aqI{p q:bf}:pa p q<0↔lN p q:=by
 unfold pa lN;have f:= @JA p.e1 q.e1;have g:= @JA p.e2 q.e2;have i:= @JA p.e3 q.e3;have j:= @JA p.e4 q.e4;have c:= @O4 p.e2 q.e2;have d:= @O4 p.e3 q.e3;have e:= @O4 p.e4 q.e4;split
 ·rename_i h;rw[iI,e]at h;rw[j];omega
 ·rename_i h;rw[iI,e]at h;split
  ·rename_i a;rw[iI,d]at a;rw[i];omega
  ·rename_i a;rw[iI,d]at a;split
   ·rename_i b;rw[iI,c]at b;rw[g];omega
   ·rename_i b;rw[iI,c]at b;rw[f];omega
def oC(l:List S)(i:Nat):bf:=match l[i]? with|some t=>t.mono|none=>⟨0,0,0,0⟩
def xw(l:List S)(i j:Nat):Int:=pa (oC l j) (oC l i)
def ltT:Go.Proofs.ltOf (xw l) i j=true↔lN (oC l j) (oC l i):=by unfold Go.Proofs.ltOf xw;rw[be,aqI]
def Rn:Go.Proofs.ltOf (xw l) i j=false↔¬lN (oC l j) (oC l i):=by rw[<-ltT];simp
theorem aiq(l:List S):Go.Sort.SWO (Go.Proofs.ltOf (xw l))where
 irrefl x:=by rw[Rn];unfold lN;omega
 trans x y z a h2:=by rw[ltT]at*;unfold lN at*;omega
 ntrans x y z a h2:=by rw[Rn]at*;unfold lN at*;omega
def lS(l:List S)(a:Nat):Array Nat:=Go.Sort.pdq (Go.Proofs.ltOf (xw l)) (List.range l.length).toArray 0 l.length a true true
@[irreducible] def qB(l:List S)(a:Nat):List S:=(lS l a).toList.filterMap λi=>l[i]?
def D9(l:List S)(lim:Nat):(lS l lim).size=l.length/\(lS l lim).toList.Perm (List.range l.length)/\Go.Sort.SortedIn (Go.Proofs.ltOf (xw l)) 0 l.length (lS l lim):=by
 have h:=Go.Sort.pdq_sorts (Go.Proofs.ltOf (xw l)) (aiq l) (List.range l.length).toArray 0 l.length lim true true (dz _) ai (Or.inl rfl);obtain⟨⟨b,_,a⟩,c⟩:=h;have b:(lS l lim).size=l.length:=by simpa[lS]using b
 refine⟨b,?_,c⟩;have a:((lS l lim).extract 0 l.length).toList.Perm ((List.range l.length).toArray.extract 0 l.length).toList:=a;have e:(lS l lim).extract 0 l.length=lS l lim:=by apply Array.extract_eq_self_of_le;omega
 have d:(List.range l.length).toArray.extract 0 l.length=(List.range l.length).toArray:=by apply Array.extract_eq_self_of_le;simp
 rw[e,d]at a;simpa using a
def T0{lim:Nat}(h:i∈(lS l lim).toList):i<l.length:=by have:=(D9 l lim).2.1.mem_iff.1 h;simpa using this
def aFy(l:List S):(List.range l.length).filterMap (λi=>l[i]?)=l:=by
 have h:∀m,m<=l.length->(List.range m).filterMap (λi=>l[i]?)=l.take m:=by
  intro m
  induction m with
  |zero=>intro _;rfl
  |succ m a=>intro c;rw[sP,Ws,a O,fy];obtain⟨t,b⟩:∃t,l[m]?=some t:=⟨l[m]' O,ai⟩;simp[b]
 rw[h _ (bK _),im]
def Bv(l:List S)(a:Nat):(qB l a).Perm l:=by have h:=(D9 l a).2.1.filterMap (λi=>l[i]?);rw[aFy]at h;unfold qB;exact h
def T3(l:List S)(lim j:Nat)(h:j<l.length):∃i t,(lS l lim)[j]?=some i/\i<l.length/\l[i]?=some t/\(qB l lim)[j]?=some t:=by
 have I:=(D9 l lim).1;have d:∀(a:aq),(∀i∈a,i<l.length)->∀j:Nat,(a.filterMap λi=>l[i]?)[j]?=(a[j]?).bind λi=>l[i]? :=by
  intro a
  induction a with
  |nil=>intro _ j;simp
  |cons x r g=>
   intro f j;obtain⟨t,c⟩:∃t,l[x]?=some t:=⟨l[x]'(f x ai),ai⟩;rw[List.filterMap_cons,c];cases j with
   |zero=>simp[c]
   |succ j=>simpa using g (λi b=>f i (by simp[b])) j
 have k:j<(lS l lim).size:=O;obtain⟨i,b⟩:∃i,(lS l lim)[j]?=some i:=⟨(lS l lim)[j],ai⟩;have e:=T0 (l:=l) (lim:=lim) (i:=i) (by rw[<-yh]at b;exact bM b);obtain⟨t,c⟩:∃t,l[i]?=some t:=⟨l[i],ai⟩;refine⟨i,t,b,e,c,?_⟩;unfold qB;rw[d _ (λi b=>T0 b) j,yh,b];exact c
def ah3(l:List S)(c i j:Nat)(s t:S)(f:i<j)(I:(qB l c)[i]?=some s)(g:(qB l c)[j]?=some t):¬lN s.mono t.mono:=by
 have r:=(Bv l c).length_eq;have h:j<l.length:=by have:=(du.1 g).1;omega
 obtain⟨a,q,m,_,k,e⟩:=T3 l c i O;obtain⟨b,p,k1,_,k2,d⟩:=T3 l c j h;rw[I]at e;injection e with e;subst e
 rw[g]at d;injection d with d;subst d
 have:=(D9 l c).2.2 i j (dz _) f h;have o:(lS l c)[i]! =a:=by simp[getElem!_def,m]
 have n:(lS l c)[j]! =b:=by simp[getElem!_def,k1]
 rw[o,n,Rn]at this;simpa[oC,k,k2]using this
end Go.Proofs.YtfbmhjooliccnaaGreatDoor
namespace Go.Proofs.YtfbmhjooliccnaaGreatDoor
open Go Go.Ab Go.RowKit Go.Proofs.Tryz
variable {w K:World}{M:Nat→Prop}{b s:Nat}{X L:au}{l:List S}{U:G}{t:TypeId}{R:Array Value}{Q:Array Obj}{P:Type}{N:S}
def Mem.aGV{M:ap}{γ:G}{H:fF}{w w':World}(m:Mem M γ H w){f:List V}
 (n:γ s=some (some b))(i:w.heap[b]?=some (.cells R t (0,0)))(g:(X++L).length=R.size)(o:bW w M γ f X)(c:H s≠none)
 (p:w'.os=w.os)(q:w'.tape=w.tape)(r:w'.output=w.output)(u:w.drawn<=w'.drawn)(v:w.heap.size<=w'.heap.size)
 (y:w'.heap[b]?=some (.cells (X++L).toArray t (0,0)))(z:∀x,x<w.heap.size->x≠b->w'.heap[x]?=w.heap[x]?):
 Mem M γ (cZ H s (some f)) w'/\fY (λb=>∃s,γ s=some (some b)) w w':=by
 let C:ef:=⟨M,λb=>∃s,γ s=some (some b),w,γ,λ_=>False,0⟩
 have a:dD C γ ⟨λ_=>.any,H⟩ { tmps:=#[],defers:=[]} w:=⟨m,λ_=>trivial,fY.refl _ _,λs b h=>.inl ⟨s,h⟩,λ_ h=>h.elim,rfl,rfl⟩;have j:=a.zI n i g o c;have k:fY q_ (w.setRow b (X++L).toArray) w':=by
  have hold:∀x,x<w.heap.size->w'.heap[x]?=(w.setRow b (X++L).toArray).heap[x]? :=by
   intro x d;by_cases e:x=b
   ·subst e;rw[y,setRow_heap w x R _ t _ i]
   ·rw[z x d e,setRow_other w b x _ e]
  refine⟨p,q,r,u,by simpa using v,λx d _=>hold x (an d),λx cells A d=>⟨cells,?_,rfl⟩⟩;have:=jy d;rw[hold x (an this)];exact d
 exact⟨j.mem.Gy k,j.aN.trans k (λ_ _ h=>h) (λ_ _ h=>h.elim)⟩
def kM(vs:au)(n i:Nat):List Value:=if i<n then(vs.drop (i*6)).take 6 else List.replicate 6 (.int .i64 0)
section
variable {w:World}{M:Nat→Prop}{γ:G}{l:List S}{vs:au}
def HS(a:bW w M γ ((bG (U:=Un) W.bn l).map .d) vs):vs.length=l.length*6:=by rw[<-a.1,eh,mH Vw];rfl
def agp(a:bW w M γ ((bG (U:=Un) W.bn l).map .d) vs)(i:Nat):(kM vs l.length i).length=6:=by
 have:=HS a;unfold kM;split
 ·rw[gw,xa];omega
 ·simp
def ago(f:bW w M γ ((bG (U:=Un) W.bn l).map .d) vs)(e:b<l.length)(a:s<6):(kM vs l.length b)[s]?=vs[b*6+s]? :=by unfold kM;rw[aM e,NN a,nD]
def aJT(f:bW w M γ ((bG (U:=Un) W.bn l).map .d) vs){c:Nat}(g:l[b]?=some N)(k:c<6):∃u x,vs[b*6+c]?=some u/\(Aw N)[c]?=some x/\dN w (dc w M γ) x u:=by
 have m:b<l.length:=(du.1 g).1;have q:=HS f;obtain⟨u,h⟩:∃u,vs[b*6+c]?=some u:=⟨vs[b*6+c]' O,ai⟩;obtain⟨x,j⟩:∃x,(Aw N)[c]?=some x:=⟨(Aw N)[c]'(by simp[Aw];omega),ai⟩;obtain⟨A,B,n,o,r,s,v⟩:=Qn (V:=Vw) W.bn l g;refine⟨u,x,h,j,?_⟩;refine f.2 (b*6+c) (.d x) u ?_ h;rw[eC,n];have e:b*6+c=A.length+c:=by have:b*Un.w W.bn=A.length:=o.symm;have p:Un.w W.bn=6:=rfl;rw[p]at this;omega
 rw[e,gM,B4 O,Nat.add_sub_cancel_left];have a:(Un.dh W.bn N)[c]?=some x:=j;rw[NM (by have:=(du.1 a).1;exact this),a];rfl
def agq(c:bW w M γ ((bG (U:=Un) W.bn l).map .d) vs)(i:Nat):∀v∈kM vs l.length i,v.oneCell'=true:=by
 intro v a;unfold kM at a;split at a
 ·rename_i g;have a:=ID (nE a);obtain⟨j,b⟩:=EM a;have h:=c.1;have f:j<vs.length:=(du.1 b).1;obtain⟨x,e⟩:∃x,((bG (U:=Un) W.bn l).map Ab.V.d)[j]?=some x:=⟨_,cN O⟩;exact(c.2 j x v e b).one
 ·rw[List.mem_replicate]at a;rw[a.2];rfl
def agr(n:bW w M γ ((bG (U:=Un) W.bn l).map .d) vs)(i:Nat):eK K (λ_=>False) iJ (Oj (oC l i)).aI (.agg (kM vs l.length i).toArray):=by
 have hlen:=agp n i;have k:=agq n i;refine⟨kM vs l.length i,rfl,by rw[hlen];rfl,λj x u a b=>?_⟩;have r:j<6:=by have:=(du.1 b).1;omega
 have q:=k u (bM b);have f:∀(c:Nat)(e:bf->Int),c<6->(∀t,l[i]?=some t->(Aw t)[c]?=some (.sc (.int .i64 (e t.mono))))->e ⟨0,0,0,0⟩=0->(kM vs l.length i)[c]?=some u->u=.int .i64 (e (oC l i)):=by
  intro c e m s v b;by_cases p:i<l.length
  ·obtain⟨t,h⟩:∃t,l[i]?=some t:=⟨l[i],ai⟩;rw[ago n p m]at b;obtain⟨A,y,g,o,z⟩:=aJT n h m;rw[b]at g;injection g with g;subst g
   rw[s t h]at o;injection o with o;subst o
   have:oC l i=t.mono:=by simp[oC,h]
   rw[this];cases z;rfl
  ·have:oC l i=⟨0,0,0,0⟩:=by simp[oC,iM (Nat.le_of_not_lt p)]
   rw[this,v];unfold kM at b;rw[Z p]at b;have:=bM b;rw[List.mem_replicate]at this;exact this.2
 match j,r with
 |0,_=>injection a with a;subst a;exact q
 |1,_=>injection a with a;subst a;exact q
 |2,_=>injection a with a;subst a;rw[f 2 bf.e1 O (λt _=>rfl) rfl b];exact dN.sc _ rfl
 |3,_=>injection a with a;subst a;rw[f 3 bf.e2 O (λt _=>rfl) rfl b];exact dN.sc _ rfl
 |4,_=>injection a with a;subst a;rw[f 4 bf.e3 O (λt _=>rfl) rfl b];exact dN.sc _ rfl
 |5,_=>injection a with a;subst a;rw[f 5 bf.e4 O (λt _=>rfl) rfl b];exact dN.sc _ rfl
end
theorem aCA(a:uf K (λ_=>False) iJ):Mem (λ_=>False) iJ uM K where
 jO:=a
 iF _ h:=h.elim
 inj s t b h _:=by cases h
 nm s b h:=by cases h
 ic s _:=rfl
 gR s c h:=by cases h
def aw1{w':World}{mX:ap}(a:fY mX K w')(g:∀b,¬mX b):∃q os',w'=Go.Sort.grow (K.drewN q) os':=by
 refine⟨w'.drawn-K.drawn,w'.heap.extract K.heap.size w'.heap.size,?_⟩;have e:w'.heap=K.heap++w'.heap.extract K.heap.size w'.heap.size:=by
  apply Array.ext
  ·have:=a.size;simp;omega
  ·intro i c f;by_cases d:i<K.heap.size
   ·rw[Array.getElem_append_left d];have:=a.same i d (g i);rw[Es c,Es d]at this;exact yG this
   ·rw[Array.getElem_append_right O];simp only[Array.getElem_extract];congr 1;omega
 have c:=a.os;have f:=a.tape;have h:=a.output;have j:=a.drawn;unfold Go.Sort.grow World.drewN;cases w';cases K;simp only[World.mk.injEq]at*;refine⟨e,f,O,c,h⟩
def aIv{w:World}{M:ap}{γ:G}(a:uf w M γ)(j:γ s=some (some b))(f:Nat->List Value)(k m:Nat)(c:Array Nat)(g:Array Obj):uf (Go.Proofs.sortWorldK f k w b 0 m c g) (λ_=>False) iJ:=by
 have d:(1:Nat)≠b:=λe=>a.1.2.2 s (by rw[j,e])
 have I:1<w.heap.size:=a.1.1;have i:(Go.Sort.putRowK f k (Go.Sort.ahead w m) b 0 c).heap.size=w.heap.size:=by simp[Go.Sort.putRowK,Go.Sort.ahead]
 refine⟨⟨by simp[Go.Proofs.sortWorldK,Go.Sort.grow,i];omega,λh=>h,λs h=>by cases h⟩,?_⟩;have e:(Go.Proofs.sortWorldK f k w b 0 m c g).heap[1]?=w.heap[1]? :=by unfold Go.Proofs.sortWorldK;rw[Go.Sort.heap_grow_old _ _ (by rw[i];exact I)];simp[Go.Sort.putRowK,Go.Sort.putRow,Go.Sort.mapBlock,Go.Sort.ahead,Na,Ne.symm d]
 rw[e];exact a.2
def aqB{w:World}{M:ap}{γ:G}{l:List S}{vs:au}(f:bW w M γ ((bG (U:=Un) W.bn l).map .d) vs)(g:uf w M γ)(j:γ s=some (some b)):
 CmpLays prog 222 #[] (kM vs l.length) 6 (xw l) b 0 l.length w:=by
 intro m k dk n x y;have h:=(ay7 (oC l x) (oC l y)).2 (λ_=>False) iJ (Go.Proofs.sortWorldK (kM vs l.length) 6 w b 0 m dk k) [.agg (kM vs l.length x).toArray,.agg (kM vs l.length y).toArray] (aCA (aIv g j _ _ _ _ _)) ⟨rfl,λi z u a c=>by
  match i with
  |0=>injection a with a;subst a;injection c with c;subst c;exact agr f x
  |1=>injection a with a;subst a;injection c with c;subst c;exact agr f y
  |i+2=>simp at a⟩
 refine h.mono ?_;rintro e r ⟨v,o,rfl,_,p,q,_⟩;refine⟨?_,aw1 q (λb ⟨s,I⟩=>by cases I)⟩;have:v=.int .i64 (pa (oC l y) (oC l x)):=by cases p;rfl
 rw[this];rfl
def Mq{v u:Value}(h:dN w M (.sc v) u):u=v:=by cases h;rfl
def abn{f:G}(c:bW w M f ((bG (U:=Un) W.bn l).map .d) X)(d:Array Nat)(g:∀i∈d.toList,i<l.length)(t:Nat)(h:t<d.size*6):
 ∃i,d[t/6]?=some i/\i<l.length/\(Go.Sort.flatK (kM X l.length) 6 d)[t]! =(X[i*6+t%6]?).getD default/\(X[i*6+t%6]?).isSome:=by
 have k:t/6<d.size:=O;obtain⟨i,b⟩:∃i,d[t/6]?=some i:=⟨d[t/6],ai⟩;have a:=g i (by rw[<-yh]at b;exact bM b);have j:t%6<6:=Nat.mod_lt _ O;have m:=HS c;refine⟨i,b,a,?_,by rw[cN O];rfl⟩;rw[Go.Sort.get_flatK _ _ _ _ h];have e:d[t/6]! =i:=by simp[getElem!_def,b]
 rw[e,<-ago c a j];simp[getElem!_def];cases(kM X l.length i)[t%6]? <;>rfl
def ab4{k:G}(c:bW w M k ((bG (U:=Un) W.bn l).map .d) X)(f:w.heap[b]?=some (.cells (X++L).toArray t (0,0))):
 Go.Sort.HoldsK (kM X l.length) 6 w b 0 (List.range l.length).toArray:=by
 intro j g;simp only[Go.Sort.size_flatK,List.size_toArray,oY]at g;obtain⟨i,a,o,h,p⟩:=abn c (List.range l.length).toArray (λi m=>by simpa using m) j (an g);have e:i=j/6:=by simp only[Iv]at a;rw[vl O]at a;exact(yG a).symm
 subst e;have q:=HS c;refine⟨?_,by simp[World.frozen?,f]⟩;rw[ol,y4 f];have n:j/6*6+j%6=j:=O;rw[n]at h;show((X++L).toArray)[j]?=some (Go.Sort.flatK (kM X l.length) 6 (List.range l.length).toArray)[j]!;rw[h];simp only[Iv];rw[NM O,cN O];rfl
def axe{n:Nat}{os:Array Obj}{a:Nat×Nat} [Inhabited P](dh:P->List Value)(k:Nat)(d:Array P)(c:w.heap[b]?=some (.cells R t a)):
 (Go.Proofs.sortWorldK dh k w b 0 n d os).heap[b]?=some (.cells (Go.Sort.putCells id 0 (Go.Sort.flatK dh k d) R) t a):=by
 have f:b<w.heap.size:=(M_.1 c).1;unfold Go.Proofs.sortWorldK Go.Sort.putRowK;rw[Go.Sort.heap_grow_old _ _ (an f)];simp[Go.Sort.putRow,Go.Sort.mapBlock,Go.Sort.ahead,Na,c,Go.Sort.onCells]
def axf{x:Nat} [Inhabited P](dh:P->List Value)(k:Nat)(d:Array P)(c:x<w.heap.size)(a:x≠b):
 (Go.Proofs.sortWorldK dh k w b 0 s d Q).heap[x]?=w.heap[x]? :=by
 unfold Go.Proofs.sortWorldK Go.Sort.putRowK;rw[Go.Sort.heap_grow_old _ _ (an c)];simp[Go.Sort.putRow,Go.Sort.mapBlock,Go.Sort.ahead,Na,Ne.symm a]
def abo{c:Nat}(a:l[b]?=some N)(d:c<6):((bG (U:=Un) W.bn l).map Ab.V.d)[b*6+c]?=((Aw N)[c]?).map Ab.V.d:=by
 obtain⟨A,B,f,g,j,k,m⟩:=Qn (V:=Vw) W.bn l a;rw[eC,f];have e:b*6+c=A.length+c:=by have:b*Un.w W.bn=A.length:=g.symm;have h:Un.w W.bn=6:=rfl;rw[h]at this;omega
 rw[e,gM,B4 O,Nat.add_sub_cancel_left];have n:(Un.dh W.bn N).length=6:=rfl;rw[NM O];rfl
def aFj(X:Array Value)(a spare:au)(h:X.size=a.length):Go.Sort.putCells id 0 X (a++spare).toArray=(X.toList++spare).toArray:=by
 apply Array.ext
 ·simp[Go.Sort.putCells];omega
 ·intro i d c;simp only[Go.Sort.putCells,Array.getElem_mapIdx,List.getElem_toArray];by_cases b:i<X.size
  ·rw[aM ⟨dz _,O⟩,List.getElem_append_left (an b)];simp[getElem!_pos,b]
  ·rw[Z O,List.getElem_append_right O,List.getElem_append_right (by simp;omega)];simp[h]
def aHP{h:G}(k:bW w M h ((bG (U:=Un) W.bn l).map .d) X)(a:Nat):
 bW w M h ((bG (U:=Un) W.bn (qB l a)).map .d) (Go.Sort.flatK (kM X l.length) 6 (lS l a)).toList:=by
 have I:=(D9 l a).1;have m:=(Bv l a).length_eq;have n:Un.w W.bn=6:=rfl;refine⟨by rw[eh,mH Vw,n,BK (xs:=Go.Sort.flatK _ _ _),Go.Sort.size_flatK,I,m],λj x u o p=>?_⟩;have c:j<l.length*6:=by have:=(du.1 o).1;rw[eh,mH Vw,n,m]at this;exact this
 obtain⟨i,s,D,f,v⟩:=abn k (lS l a) (λi y=>T0 y) j (by rw[I];exact c);obtain⟨E,t,k1,k2,A,B⟩:=T3 l a (j/6) O;rw[s]at k1;injection k1 with k1;subst k1
 have q:j%6<6:=Nat.mod_lt _ O;have e:j/6*6+j%6=j:=O;have b:=abo B q;rw[e,o]at b;have r:=abo A q;rw[<-b]at r;refine k.2 _ x u r ?_;have g:(Go.Sort.flatK (kM X l.length) 6 (lS l a))[j]! =u:=by rw[yh]at p;simp[getElem!_def,p]
 rw[g]at f;obtain⟨z,C⟩:=NS.1 v;rw[C]at f⊢;rw[f];rfl
def aay:gv prog 268:=gY func268 af rfl
def auq:gv prog 269:=gY func269 af rfl
def iE(n:Int):SE Un:=.c (.d (.sc (.int .i64 n)))
def aHO(a:Nat):qB [] a=[]:=List.Perm.eq_nil (Bv [] a)
def aHN(l:List S)(a:Nat):(qB l a).length=l.length:=(Bv l a).length_eq
def aEd(l:List S)(a:Nat)(hlen:l.length<=1000000000)(hlim:a<=1000):dA prog 268 (bX (cy [(0,aZ.aW (U:=Un) W.bn l)])) ([.c (.aX 0 W.bn l.length),iE 0,iE l.length,iE a,.c (.db 222 [])].map SE.aI)
 (bX (cy [(0,aZ.aW (U:=Un) W.bn (qB l a))])) (·∈[0]) (ST.cE (U:=Un) []).aI:=by
 refine⟨aay,λM z w A L y=>?_⟩;obtain⟨hl5,y⟩:=y
 match A,hl5 with
 |[v0,v1,v2,v3,v4],_=>
  have a0:=y 0 _ v0 rfl rfl;have a1:=Mq (y 1 _ v1 rfl rfl);have a2:=Mq (y 2 _ v2 rfl rfl);have a3:=Mq (y 3 _ v3 rfl rfl);have a4:=y 4 _ v4 rfl rfl;obtain⟨cs,a4,r,_⟩:=a4;have r:cs=[]:=fR r;subst r;subst a1;subst a2;subst a3;subst a4;have o:l=[]->I2 M z w (bX (cy [(0,aZ.aW (U:=Un) W.bn (qB l a))])) (·∈[0]) (ST.cE (U:=Un) []).aI (.returned (.tuple #[])) w:=by intro e;subst e;rw[aHO];exact⟨_,z,rfl,L,⟨[],rfl,rfl,λi x u B=>by simp at B⟩,fY.refl _ _,λs b h=>.inl ⟨s,h⟩,λ_ _=>rfl⟩
  have g:l=[]->∀(p:Option Addr)(k:Nat),Calls prog 268 #[.slice p 0 k,.int .i64 0,.int .i64 (l.length:Int),.int .i64 (a:Int),.func (.func 222) #[] #[]] w (I2 M z w (bX (cy [(0,aZ.aW (U:=Un) W.bn (qB l a))])) (·∈[0]) (ST.cE (U:=Un) []).aI):=by
   intro e p k;have h:=Go.Proofs.AnyF.pdqsortCmpFunc_none Q0 p k (a:Int) (.func (.func 222) #[] #[]) w;have e2:((l.length:Nat):Int)=0:=by rw[e];rfl
   rw[e2];refine h.mono ?_;rintro e' w' ⟨rfl,rfl⟩;exact o e
  rcases a0 with⟨b,k,cells,t,q,rfl,hlc,hmx,hb0,T⟩|⟨q,_,X,rfl⟩|⟨b,off',q,X,rfl⟩
  ·have hH:bX (cy [(0,aZ.aW (U:=Un) W.bn l)]) 0=some ((bG (U:=Un) W.bn l).map .d):=rfl;rcases L.gR 0 _ hH with⟨b',t',vs,spare,f,K,v⟩|⟨N,_⟩|⟨b',en,clk,f,G,_⟩
   ·rw[q]at f;injection f with f;injection f with f;subst f
    have R:=aiq l;have aE:∀w,(isAgg (Hh.t 24)).run prog w=.ok true w:=Tryz.isAgg171;have zE:∀w,(Go.sizeOf (Hh.t 24)).run prog w=.ok 6 w:=Tryz.sizeOf171;have C:(List.range l.length).toArray.size=l.length:=ai;have m:=aqB v L.jO q;rw[<-C]at m
    have hp:=Go.Proofs.AnyQ.pdqsortCmpFunc_all (P:=prog) (ρ:=Hh) Q0 6 aE zE (kM vs l.length) (xw l) 222 #[] R b 0 k (List.range l.length).toArray w (enters_of func222 af rfl) (an m)
     ⟨agp v,agq v,ab4 v K,jy K⟩ (l.length+1) 0 l.length a (List.range l.length).toArray w O rfl (Go.Proofs.SWK.start (ab4 v K)) (dz _) ai (by simp;omega) O (Or.inl rfl)
    rw[C]at hp;refine Calls.mono (P:=prog) hp ?_;rintro e w' ⟨rfl,n,os,rfl⟩;have E:(Go.Sort.flatK (kM vs l.length) 6 (lS l a)).size=vs.length:=by rw[Go.Sort.size_flatK,(D9 l a).1,HS v]
    have j:=axe (n:=n) (os:=os) (kM vs l.length) 6 (lS l a) K;rw[aFj _ _ _ E]at j;have D:=Mem.aGV (w':=Go.Proofs.sortWorldK (kM vs l.length) 6 w b 0 n (lS l a) os) L q K (by simp[E]) (aHP v a) (by rw[hH];simp) rfl rfl rfl (Nat.le_add_right _ _) (by simp[Go.Proofs.sortWorldK,Go.Sort.grow,Go.Sort.putRowK,Go.Sort.putRow,Go.Sort.mapBlock,Go.Sort.ahead]) j (λx B V=>axf _ _ _ B V);refine⟨_,z,rfl,?_,⟨[],rfl,rfl,λi x u B=>by simp at B⟩,D.2,λs b h=>.inl ⟨s,h⟩,λ_ _=>rfl⟩;refine cast (bi (λH=>Mem M z H _) ?_) D.1;funext u;simp only[cZ];by_cases Q:u=0
    ·subst Q;rfl
    ·rw[Z Q];simp[cy,bX,Q]
   ·rw[q]at N;injection N with N;cases N
   ·rw[q]at f;injection f with f;injection f with f;subst f
    rw[hb0]at G;cases G
  ·have e:l=[]:=fR X;exact g e none 0
  ·have e:l=[]:=fR X;exact g e _ 0
end Go.Proofs.YtfbmhjooliccnaaGreatDoor
namespace Go.Proofs.YtfbmhjooliccnaaGreatDoor
open Go Go.Ab Go.Proofs.Tryz
variable {l b:List S}{k x f i s:Nat}{t Q:S}{B n:Int}{X:au}{U:List MemPlace}{p:J}{R:TypeId}{a:List J}{q:bf}{u:Value}{m:F}{w:World}{P:Addr}{N:Type}{c:aY}
def ay5(x:Int)(h:0<=x/\x<=18446744073709551615):bh 269 [wI .u64 x] (iT (Go.Lib.bitLen x.toNat:Nat)):=by
 refine⟨auq,λM d w a j c=>?_⟩;obtain⟨g,c⟩:=c
 match a,g with
 |[f],_=>have k:=Mq (c 0 _ f rfl rfl);subst k;have i:=Go.Proofs.Any.bits_Len (Go.Proofs.SlLaysF0.n15.bits (P:=prog) (ρ:=Hh) { Q0 with}) x w h.1 h.2;refine Calls.mono (P:=prog) i ?_;rintro e l ⟨rfl,rfl⟩;exact⟨_,d,rfl,j,dN.sc _ rfl,fY.refl _ _,λs b h=>.inl ⟨s,h⟩,λ_ h=>h.elim⟩
def asc:=dj (.int .u64) ay5
def agP(H:List (Nat×aZ Un))(args:List (SE Un))(K:iA Un->Prop):Prop:=
 match H,args with
 |[(0,.aW W.bn l)],[.c (.aX 0 W.bn m),.c (.d (.sc (.int .i64 z))),.c (.d (.sc (.int .i64 n))),.c (.d (.sc (.int .i64 a))),.c (.db 222 [])]=>m=l.length/\z=0/\n=l.length/\0<=a/\a<=1000/\l.length<=1000000000/\K ⟨.cE [],[(0,.aW W.bn (qB l a.toNat))],[],[0]⟩
 |_,_=>False
def aDp:gy prog Un where
 f:=268
 iu:=aay
 run:=agP
 ok H args K h:=by
  unfold agP at h;split at h
  ·rename_i l _ _ _ a;obtain⟨rfl,rfl,rfl,j,i,c,g⟩:=h;refine⟨_,?_,λu b d=>?_,g⟩
   ·have e:a=((a.toNat:Nat):Int):=by omega
    have:=aEd l a.toNat c O;rw[<-e]at this;exact this.gL λu b=>by have c:u<1:=b.1;simp;omega
   ·have:u<1:=b;simp at d;omega
  ·cases h
def tG(l:List S):List S:=qB l (Go.Lib.bitLen (IntKind.u64.wrap (l.length:Int)).toNat)
def aHM(l:List S):qB l (((Go.Lib.bitLen (IntKind.u64.wrap (l.length:Int)).toNat:Nat):Int).toNat)=tG l:=by rw[bt];rfl
def ajz(n:Nat):0<=IntKind.u64.wrap (n:Int):=by simp[IntKind.wrap,IntKind.bits,IntKind.signed];omega
def ajA(n:Nat):IntKind.u64.wrap (n:Int)<=18446744073709551615:=by simp[IntKind.wrap,IntKind.bits,IntKind.signed];omega
def apn(n:Nat):((Go.Lib.bitLen (IntKind.u64.wrap (n:Int)).toNat:Nat):Int)<=1000:=by have h:=ajz n;have a:=ajA n;have:=Go.Lib.bitLen_le (IntKind.u64.wrap (n:Int)).toNat 64 O O;omega
def aui:gv prog 221:=gY func221 af rfl
def aHL(l:List S)(h:l.length<=1000000000):dA prog 221 (bX (cy [(0,aZ.aW (U:=Un) W.bn l)])) (([.c (.aX 0 W.bn l.length),.c (.db 222 [])]:List (SE Un)).map SE.aI) (bX (cy [(0,aZ.aW (U:=Un) W.bn (tG l))])) (·∈[0]) (ST.cE (U:=Un) []).aI:=by
 refine vO func221 rfl ⟨[asc],[aDp]⟩ [] [0] ⟨[],[(0,.aW W.bn (tG l))],1⟩ ?_;repeat' first|intro _|apply aQ
 all_goals first|exact bj| (with_reducible first|rfl|exact h|exact ajz _|exact ajA _|exact apn _|exact Int.natCast_nonneg _|exact aHM l)
def agV(H:List (Nat×aZ Un))(args:List (SE Un))(K:iA Un->Prop):Prop:=
 match H,args with
 |[(0,.aW W.bn l)],[.c (.aX 0 W.bn m),.c (.db 222 [])]=>m=l.length/\l.length<=1000000000/\K ⟨.cE [],[(0,.aW W.bn (tG l))],[],[0]⟩
 |_,_=>False
def aDs:gy prog Un where
 f:=221
 iu:=aui
 run:=agV
 ok H args K h:=by
  unfold agV at h;split at h
  ·rename_i l _;obtain⟨rfl,b,d⟩:=h;refine⟨_,?_,λu a c=>?_,d⟩
   ·exact(aHL l b).gL λu a=>by have b:u<1:=a.1;simp;omega
   ·have:u<1:=a;simp at c;omega
  ·cases h
def wm(t:S):Bool:=bm ⟨t.neg,t.aC⟩ !=0
@[irreducible] def kI(l:List S)(i:Nat):List S:=(l.take i).filter wm
def oJ(l:List S):List S:=tG (l.filter wm)
def Qj(l:List S):[]=kI l 0:=by unfold kI;rfl
def aa7(l:List S):0=(kI l 0).length:=by rw[<-Qj];rfl
def Qk(l:List S)(i:Nat):(kI l i).length<=l.length:=by unfold kI;exact dH (Iy _ _) (by simp;omega)
def aa_(h:l[(i:Int).toNat]?=some t):kI l (i+1)=kI l i++(if wm t then [t]else []):=by rw[bt]at h;unfold kI;rw[fy,h,Ir];congr 1;simp[List.filter_cons]
def aba(h:l[(i:Int).toNat]?=some t)(I:(bm ⟨t.neg,t.aC⟩ !=0)=true):kI l i++[⟨t.neg,t.aC,t.e1,t.e2,t.e3,t.e4⟩]=kI l (i+1):=by rw[aa_ h,aM (show wm t=true from I)]
def awa(h:l[(i:Int).toNat]?=some t)(I:(bm ⟨t.neg,t.aC⟩ !=0)=true)(x:S):(kI l i).length+[x].length=(kI l (i+1)).length:=by rw[<-aba h I];simp
def aa9(h:l[(i:Int).toNat]?=some t)(I:(bm ⟨t.neg,t.aC⟩ !=0)=false):kI l i=kI l (i+1):=by rw[aa_ h,Z (by unfold wm;simp[I])];simp
def av_(h:l[(i:Int).toNat]?=some t)(I:(bm ⟨t.neg,t.aC⟩ !=0)=false):(kI l i).length=(kI l (i+1)).length:=by rw[<-aa9 h I]
def aa8(h:decide ((i:Int)<l.length)=false):tG (kI l i)=oJ l:=by simp only[bc]at h;unfold kI oJ;rw[eL O]
def ah2(l:List S):(tG l).length=l.length:=aHN l _
def av9(h:decide ((i:Int)<l.length)=false):(kI l i).length=(oJ l).length:=by rw[<-aa8 h,ah2]
def awb(h:l.length<=1000000000)(i:Nat)(x:S):((kI l i).length+[x].length)*yd.dF<=140737488355328:=by have:=Qk l i;have e:yd.dF=64:=rfl;have a:[x].length=1:=rfl;rw[e,a];omega
def awc(h:l.length<=1000000000)(i:Nat)(x:S):(kI l i).length+[x].length<=140737488355328:=by have:=Qk l i;have a:[x].length=1:=rfl;rw[a];omega
def awd(h:l.length<=1000000000)(i:Nat):(kI l i).length<=1000000000:=dH (Qk l i) h
def aua:gv prog 176:=gY func176 af rfl
def aEw(l:List S)(h:l.length<=1000000000):dA prog 176 (bX (cy (gH 0 1 2 l))) (([.c (.ptr 0 0)]:List (SE Un)).map SE.aI) (bX (cy [(3,aZ.aW (U:=Un) W.bn (oJ l))])) (·∈[]) (ST.e (U:=Un) (.c (.aX 3 W.bn (oJ l).length))).aI:=by
 refine vO func176 rfl ⟨[vC],[aDs]⟩ [(3,⟨Nat,λx=>⟨[(3,.e (.c (.aX 0 W.bn (kI l x).length))),(9,.e (.c (.aX 1 W.bn l.length))),(10,iT l.length),(11,iT x)],[(0,.aW W.bn (kI l x)),(1,.aW W.bn l)],2⟩,λx=>x<=l.length/\True,λx=>l.length-x⟩)] [] ⟨[(2,.e (.c (.aX 3 W.bn (oJ l).length)))],[(3,.aW W.bn (oJ l))],4⟩ ?_;repeat' first|intro _|apply aQ|refine aS 0 (aQ ?_ λ(x:Nat)(d:x<=l.length/\True)=>?_)|refine aS (x+1) ?_
 all_goals first|exact bj| (with_reducible first|rfl|exact Qj l|exact aa7 l|exact awb h _ _|exact awc h _ _|exact awd h _|exact(Qj l).symm|exact(aa7 l).symm)|(rename_i a b;with_reducible first|exact aba a b|exact awa a b _|exact aa9 a b|exact av_ a b)|(rename_i a;with_reducible first|exact aa8 a|exact av9 a)|simp only[be,bc]at*;have:=d.1;omega|omega
def agT(H:List (Nat×aZ Un))(args:List (SE Un))(K:iA Un->Prop):Prop:=
 match H,args with
 |[(0,.cells [.mp 1,.aX 2 W.bn m]),(1,.lc a),(2,.aW W.bn l)],[.c (.ptr 0 0)]=>m=l.length/\a=gI l 0/\l.length<=1000000000/\K ⟨.e (.c (.aX 3 W.bn (oJ l).length)),[(3,.aW W.bn (oJ l))],[0,1,2],[0,1,2]⟩
 |_,_=>False
def Se:gy prog Un where
 f:=176
 iu:=aua
 run:=agT
 ok H args K h:=by
  unfold agT at h;split at h
  ·rename_i _ _ l;obtain⟨rfl,rfl,c,b⟩:=h;refine⟨_,?_,λu a d=>?_,b⟩
   ·exact(aEw l c).gL λu a=>by have c:u<3:=a.1;have b:=a.2;simp at b;omega
   ·have:u<3:=a;simp at d;omega
  ·cases h
@[irreducible] def gS(p:List S)(i:Nat):List S:=(p.take i).foldl (λa t=>gZ a t.mono t.cw) []
def xD(p:List S):gS p 0=[]:=by unfold gS;rfl
def uz(h:l[(i:Int).toNat]?=some t):gZ (gS l i) ⟨t.e1,t.e2,t.e3,t.e4⟩ ⟨t.neg,t.aC⟩=gS l (i+1):=by rw[bt]at h;unfold gS;rw[fy,h,EJ];rfl
@[irreducible] def di(p:List S):List S:=oJ (gS p p.length)
@[irreducible] def NB(n:Nat)(p:List S):=LB n p/\n<=1000000000/\p.length<=1000000000
theorem Gm{n:Nat}{p:List S}(h:NB n p):∀i,i<=p.length->LB (n+i) (gS p i)/\(gS p i).length<=i
 |0,_=>by rw[xD];exact⟨λt a=>by simp at a,ai⟩
 |i+1,d=>by
  obtain⟨c,f⟩:=Gm h i O;obtain⟨t,a⟩:∃t,p[(i:Int).toNat]?=some t:=by rw[bt];exact⟨p[i]' O,ai⟩
  rw[<-uz a];unfold NB at h;have b:=h.1 t (bM a);have e:=awO (gS p i) ⟨t.e1,t.e2,t.e3,t.e4⟩ ⟨t.neg,t.aC⟩;refine⟨awM c ⟨by show t.aC.length<=n+i;omega,b.2⟩,O⟩
def Qx{n:Nat}(h:NB n l)(a:i<=l.length)(b:l[(i:Int).toNat]?=some t):Ez (gS l i) ⟨t.neg,t.aC⟩:=by have c:=Gm h i a;unfold NB at h;have d:=h.1 t (bM b);exact GB.e (n:=n+i) ⟨c.1,by show t.aC.length<=n+i;omega,d.2,O,O⟩
def Qy(h:NB k l)(a:i<=l.length):(gS l i).length<=1000000000:=by have b:=Gm h i a;unfold NB at h;omega
def Gl{p:List S}(a:i<=p.length)(h:decide ((i:Int)<p.length)=false):oJ (gS p i)=di p:=by simp only[bc]at h;have:i=p.length:=O;subst this;unfold di;rfl
def Qv(h:l[(i:Int).toNat]?=some t):(gZ (gS l i) ⟨t.e1,t.e2,t.e3,t.e4⟩ ⟨t.neg,t.aC⟩).length=(gS l (i+1)).length:=by rw[uz h]
def Qw(h:l[(i:Int).toNat]?=some t):gI (gZ (gS l i) ⟨t.e1,t.e2,t.e3,t.e4⟩ ⟨t.neg,t.aC⟩) 0=gI (gS l (i+1)) 0:=by rw[uz h]
def Qr(p:List S):([]:List S).length=(gS p 0).length:=by rw[xD]
def Qs(p:List S):gI [] 0=gI (gS p 0) 0:=by rw[xD]
def Qt(p:List S):[]=gS p 0:=by rw[xD]
def aCJ(p:List S)(n:Nat)(h:NB n p):bh 128 [wL .bn p] (lT .bn (di p)):=by
 refine vG func128 rfl ⟨[],[Sc,Sb,Se]⟩ [(3,⟨Nat,λx=>⟨[(3,br 0),(7,lT .bn p),(8,iT p.length),(9,iT x)],gH 0 1 2 (gS p x),3⟩,λx=>x<=p.length/\True,λx=>p.length-x⟩)] ?_;repeat' first|intro _|apply aQ|refine aS 0 (aQ ?_ λ(x:Nat)(b:x<=p.length/\True)=>?_)|refine aS (x+1) ?_
 all_goals first|exact bj| (with_reducible first|rfl|exact Qr p|exact Qs p|exact Qt p|exact Qy h b.1)|(rename_i a;with_reducible first|exact Gl b.1 a|exact Qx h b.1 a|exact Qv a|exact Qw a|exact uz a)|simp only[be,bc]at*;have:=b.1;omega|omega
@[irreducible] def EY(p:List S):Prop:=∃n,NB n p
def NB.e{n:Nat}{p:List S}(h:NB n p):EY p:=by unfold EY;exact⟨n,h⟩
def aCK(p:List S)(h:EY p):bh 128 [wL .bn p] (lT .bn (di p)):=by unfold EY at h;obtain⟨n,h⟩:=h;exact aCJ p n h
def Ps:=dj (.ls W.bn) aCK
def ex(k:Nat)(t:S):Int:=cg t.mono (k:Int)
def J4(t:S):ex 1 t=t.e1:=rfl
def Da(t:S):ex 2 t=t.e2:=rfl
def Db(t:S):ex 3 t=t.e3:=rfl
def Dc(t:S):ex 4 t=t.e4:=rfl
def fK(t:S):Nat->Nat
 |0=>0
 |k+1=>if ex (k+1) t=0 then fK t k else k+1
@[irreducible] def BP(l:List S)(k:Nat):Prop:=
  k<=4/\l.length<=1000000000/\(∀t∈l,∀v:Nat,1<=v->v<=4->0<=ex v t/\ex v t<=1000000000000)/\l.Pairwise (λs t=>¬lN s.mono t.mono)/\(∀s∈l,∀t∈l,∀v:Nat,k<v->v<=4->ex v s=ex v t)
def BP.k4(h:BP l k):k<=4:=by unfold BP at h;exact h.1
def BP.len(h:BP l k):l.length<=1000000000:=by unfold BP at h;exact h.2.1
def BP.za(h:BP l k)(a:t∈l){v:Nat}(b:1<=v)(c:v<=4):0<=ex v t/\ex v t<=1000000000000:=by unfold BP at h;exact h.2.2.1 t a v b c
theorem BP.mono{l:List S}{k:Nat}(h:BP l k)(j:1<=k):l.Pairwise (λs t=>ex k t<=ex k s):=by
 unfold BP at h;obtain⟨i,_,_,g,c⟩:=h;refine g.imp_of_mem λ{s t} I b e=>?_
 have f:=c s I t b 2;have d:=c s I t b 3;have a:=c s I t b 4;rw[Da,Da]at f;rw[Db,Db]at d;rw[Dc,Dc]at a;unfold lN at e;simp only[S.mono]at e
 match k,j,i with
 |1,_,_=>rw[J4,J4];have:=f O O;have:=d O O;have:=a O O;omega
 |2,_,_=>rw[Da,Da];have:=d O O;have:=a O O;omega
 |3,_,_=>rw[Db,Db];have:=a O O;omega
 |4,_,_=>rw[Dc,Dc];omega
def BP.sub(h:BP l k)(I:List.Sublist b l):BP b k:=by unfold BP at*;obtain⟨a,f,c,d,e⟩:=h;exact⟨a,dH I.length_le f,λt g=>c t (I.subset g),d.sublist I,λs i t j=>e s (I.subset i) t (I.subset j)⟩
def BP.down{z:Int}(h:BP l (k+1))(g:∀t∈l,ex (k+1) t=z):BP l k:=by
 unfold BP at*;obtain⟨a,b,c,d,e⟩:=h;refine⟨O,b,c,d,λs i t j v n f=>?_⟩;by_cases m:v=k+1
 ·subst m;rw[g s i,g t j]
 ·exact e s i t j v O f
def BP.head(h:BP l k)(c:1<=k)(b:l[0]?=some t):∀u∈l,ex k u<=ex k t:=by
 have d:=h.mono c;intro u hu;cases l with
 |nil=>simp at b
 |cons a r=>
  simp only[kg,cS]at b;subst b;rcases da.1 hu with rfl|hu
  ·exact tY _
  ·exact(ER.1 d).1 u hu
def BP.zero(h:BP l (k+1))(b:l[0]?=some t)(c:ex (k+1) t=0):BP l k:=by
 refine h.down (z:=0) λu a=>?_
 have d:=h.head O b u a;have e:=h.za a (v:=k+1) O h.k4;omega
def cH:Nat->List S->Nat->J
 |0,_,_=>zP
 |_+1,[],_=>zP
 |f+1,t::r,k=>
  if fK t k=0 then .mk 0 t.neg t.aC []
  else if 1073741824<ex (fK t k) t then cH f r (fK t k)
  else .mk (fK t k:Nat) false [] ((List.range (ex (fK t k) t+1).toNat).map λ(e:Nat)=>cH f ((t::r).filter λu=>ex (fK t k) u==(e:Int)) (fK t k-1))
def Fp(f k:Nat):cH f [] k=zP:=by cases f<;>rw[cH]
def yV(f:Nat)(t:S)(r:List S)(k:Nat):cH (f+1) (t::r) k=
 if fK t k=0 then .mk 0 t.neg t.aC []
 else if 1073741824<ex (fK t k) t then cH f r (fK t k)
 else .mk (fK t k:Nat) false [] ((List.range (ex (fK t k) t+1).toNat).map λ(e:Nat)=>cH f ((t::r).filter λu=>ex (fK t k) u==(e:Int)) (fK t k-1)):=by rw[cH]
theorem KZ(t:S):∀k,fK t k<=k
 |0=>by rw[fK];omega
 |k+1=>by rw[fK];have:=KZ t k;split<;>omega
def adh(h:ex x t≠0)(a:1<=x):fK t x=x:=by
 cases x with
 |zero=>omega
 |succ x=>rw[fK,Z h]
@[irreducible] def oo(f:Nat)(l:List S)(k n s:Nat):List J:=(List.range n).map λ(e:Nat)=>cH f ((l.take s).filter λu=>ex k u==(e:Int)) (k-1)
def aqW(f:Nat)(l:List S)(k n:Nat):List.replicate n zP=oo f l k n 0:=by
 unfold oo;simp only[gx,List.filter_nil];apply vj;intro i;by_cases a:i<n
 ·simp[a,Fp]
 ·simp[a]
def YH(f:Nat)(l:List S)(k n s:Nat):(oo f l k n s).length=n:=by unfold oo;simp
@[irreducible] def cut(l:List S)(k s:Nat):=∀t∈l.take s,∀u∈l.drop s,ex k u<ex k t
def asX(l:List S)(k:Nat):cut l k 0:=by unfold cut;intro t a;simp at a
@[irreducible] def tE(l:List S)(k s e:Nat)(z:Int):=∀j,s<=j->j<e->∀t,l[j]?=some t->ex k t=z
def aGa(l:List S)(k s:Nat)(z:Int):tE l k s s z:=by unfold tE;intro j b a;omega
def aGb{z:Int}(h:tE l k s x z)(b:l[x]?=some t)(c:ex k t=z):tE l k s (x+1) z:=by
 unfold tE at*;intro j d g u a;by_cases f:j=x
 ·subst f;rw[b]at a;injection a with a;subst a;exact c
 ·exact h j d O u a
def aD8(h:t∈(l.drop s).take (k-s)):∃j,s<=j/\j<k/\l[j]?=some t:=by obtain⟨i,a⟩:=EM h;have b:=(du.1 a).1;rw[gw]at b;rw[NN O,nD]at a;exact⟨s+i,O,O,a⟩
def Tp{z:Int}(h:tE l k s x z):∀t∈(l.drop s).take (x-s),ex k t=z:=by intro t a;obtain⟨j,b,c,d⟩:=aD8 a;unfold tE at h;exact h j b c t d
def Uf(l:List S)(s e:Nat)(h:s<=e):l.take e=l.take s++(l.drop s).take (e-s):=by have:e=s+(e-s):=O;rw[this,List.take_add];congr 2;omega
def asY{e:Nat}{z:Int}(y:BP l k)(A:1<=k)(B:cut l k s)(m:tE l k s e z)(n:s<=e)(c:∀t,l[e]?=some t->ex k t≠z)(h:s<e):cut l k e:=by
 have C:=y.mono A;unfold cut at*;intro t g u o;have D:∀v∈l.drop e,ex k v<z:=by
  intro v E;obtain⟨i,d⟩:=EM E;rw[nD]at d;have p:=(du.1 d).1;obtain⟨a,w⟩:∃a,l[s]?=some a:=⟨l[s]' O,ai⟩;obtain⟨b,f⟩:∃b,l[e]?=some b:=⟨l[e]' O,ai⟩;have L:ex k a=z:=by unfold tE at m;exact m s (bK _) h a w
  have G:=c b f;have j:=ES.1 C;have H:=j s e O O h;have K:l[s]' O=a:=(du.1 w).2;have x:l[e]' O=b:=(du.1 f).2;rw[K,x]at H;have M:ex k v<=ex k b:=by
   by_cases q:i=0
   ·subst q;rw[uc,f]at d;injection d with d;subst d;exact tY _
   ·have:=j e (e+i) O p O;have ev:l[e+i]=v:=(du.1 d).2;rw[x,ev]at this;exact this
  omega
 rw[Uf l s e n,cq]at g;rcases g with g|g
 ·have r:u∈l.drop s:=by
   have:l.drop e=(l.drop s).drop (e-s):=by rw[List.drop_drop];congr 1;omega
   rw[this]at o;exact ID o
  exact B t g u r
 ·rw[Tp m t g];exact D u o
def aqX{e:Nat}{z:Int}(m:cut l k s)(g:tE l k s e z)(h:s<e)(w:e<=l.length)(y:0<=z)(o:z.toNat<x):
 (oo f l k x s).set z.toNat (cH f ((l.drop s).take (e-s)) (k-1))=oo f l k x e:=by
 have p:((z.toNat:Nat):Int)=z:=O;unfold oo;apply vj;intro i;rw[Iu];have b:=Tp g;by_cases q:z.toNat=i
 ·subst q;simp only[eh,oY,o,gT];simp only[eC,vl o,dP];congr 2;rw[Uf l s e O,Ir];have v:(l.take s).filter (λu=>ex k u==((z.toNat:Nat):Int))=[]:=by
   rw[Wv];intro t c;rw[p];unfold cut at m;obtain⟨a,r⟩:∃a,l[s]?=some a:=⟨l[s]' O,ai⟩;have A:=m t c a (by
    have:(l.drop s)[0]?=some a:=by rw[nD,uc];exact r
    exact bM this)
   have B:ex k a=z:=by unfold tE at g;exact g s (bK _) h a r
   simp;omega
  have j:((l.drop s).take (e-s)).filter (λu=>ex k u==((z.toNat:Nat):Int))=(l.drop s).take (e-s):=by rw[List.filter_eq_self];intro t c;rw[b t c,p];simp
  rw[v,j,gf]
 ·rw[Z q];simp only[eC];by_cases d:i<x
  ·simp only[vl d,dP];congr 2;rw[Uf l s e O,Ir];have j:((l.drop s).take (e-s)).filter (λu=>ex k u==(i:Int))=[]:=by rw[Wv];intro t c;rw[b t c];simp;omega
   rw[j,lB]
  ·simp[d]
def aD9(l:List S)(s m:Nat):List.Sublist ((l.drop s).take m) l:=(List.take_sublist _ _).trans (List.drop_sublist _ _)
inductive mS:J->Prop where
 |mk (l:Int) (n:Bool) (a:ao) (cs:List J) (h1:Dg a) (h2:∀c∈cs,mS c):mS (.mk l n a cs)
def mS.dg(h:mS p):Dg p.aC:=by cases h;assumption
def mS.bu(h:mS p):∀c∈p.aL,mS c:=by cases h;assumption
inductive jT(m:Nat):J->Prop where
 |mk (l:Int) (n:Bool) (a:ao) (cs:List J) (h1:a.length<=m) (h2:Dg a) (h3:cs.length<=1000000000) (h4:∀c∈cs,jT m c):jT m (.mk l n a cs)
def jT.sm(h:jT k p)(b:k<=1099511627776):kY p:=by
 induction h with
 |mk l n a c d g e _ f=>exact .mk l n a c (dH d b) e f
def jT.Z3(h:jT k p):mS p:=by
 induction h with
 |mk l n a b e c f _ d=>exact .mk l n a b c d
def jT.zero(m:Nat):jT m zP:=.mk 0 false [] [] ai (λd a=>by simp at a) ai (λc b=>by simp at b)
def jT.up(h:jT k p)(b:k<=x):jT x p:=by
 induction h with
 |mk l c a d e f g _ i=>exact .mk l c a d (dH e b) f g i
mutual
theorem YQ (m:Nat):∀(p:J)(q:bf),jT m p->LB m (cJ p q)
 |.mk b n u k,q,h=>by
  cases h with
  |mk _ _ _ _ e d o j=>
   have f:=YR m b k q (cg q b) 0 j
   rw[cJ]
   split
   ·intro t a;rw[cL]at a;subst a;exact⟨e,d⟩
   ·split
    ·intro t a;simp at a
    ·exact f
theorem YR (m:Nat) (b:Int):∀(l:List J)(q:bf)(s:Int)(i:Nat),(∀c∈l,jT m c)->LB m (gF b l q s i)
 |[],q,s,i,_=>by rw[gF];intro t a;simp at a
 |c::r,q,s,i,h=>by
  have e:=YQ m c (eP q b (s+i)) (h c ai)
  have d:=YR m b r q s (i+1) (λc g=>h c (by simp[g]))
  rw[gF]
  intro t a
  rw[cq]at a
  rcases a with a|a
  ·exact e t a
  ·exact d t a
end
def MB(B:Int)(q:bf):=(0<=q.e1/\q.e1<=B)/\(0<=q.e2/\q.e2<=B)/\(0<=q.e3/\q.e3<=B)/\(0<=q.e4/\q.e4<=B)
def EB(B:Int)(l:List S):=∀t∈l,MB B t.mono
def MB.up(h:MB B q)(a:B<=n):MB n q:=by unfold MB at*;omega
def MB.set(h:MB B q):MB (B+i) (eP q n (cg q n+i)):=by
 unfold MB at*;unfold eP cg;split
 ·simp only;omega
 ·split
  ·simp only;omega
  ·split
   ·simp only;omega
   ·simp only;omega
mutual
theorem YO:∀(p:J)(q:bf)(B:Int),MB B q->EB (B+nP p) (cJ p q)
 |.mk b j m g,q,B,h=>by
  have d:=YP b g q B 0 h
  rw[cJ,nP]
  split
  ·intro t a;rw[cL]at a;subst a;exact MB.up (q:=q) h O
  ·split
   ·intro t a;simp at a
   ·intro t a;exact(d t a).up O
theorem YP (b:Int):∀(l:List J)(q:bf)(B:Int)(i:Nat),MB B q->EB (B+i+iR l) (gF b l q (cg q b) i)
 |[],q,B,i,_=>by rw[gF];intro t a;simp at a
 |c::r,q,B,i,h=>by
  have f:=YO c (eP q b (cg q b+i)) (B+i) h.set
  have e:=YP b r q B (i+1) h
  have k:=zq c
  rw[gF,iR]
  intro t a
  rw[cq]at a
  rcases a with a|a
  ·exact(f t a).up O
  ·exact(e t a).up O
end
def awK(h:EB B l)(b:je q=false->MB B q):EB B (gZ l q c):=by
 unfold gZ;split
 ·exact h
 ·rename_i d;split
  ·split
   ·rename_i i _ t e;intro u a;rcases EO a with a|rfl
    ·exact h u a
    ·exact h t (bM e)
   ·exact h
  ·intro u a;rw[cq,cL]at a;rcases a with a|rfl
   ·exact h u a
   ·exact b (an d)
theorem abL{B:Int}{p:List S}(h:EB B p):∀i,i<=p.length->EB B (gS p i)
 |0,_=>by rw[xD];intro t a;simp at a
 |i+1,c=>by
  have b:=abL h i O;obtain⟨t,a⟩:∃t,p[(i:Int).toNat]?=some t:=by rw[bt];exact⟨p[i]' O,ai⟩
  rw[<-uz a];exact awK b (λ_=>h t (bM a))
def RX{p:List S}(h:t∈di p):t∈gS p p.length:=by unfold di oJ tG at h;have:=(Bv _ _).mem_iff.1 h;exact(jr.1 this).1
def RV{p:List S}(h:NB k p):(di p).length<=p.length:=by have a:=(Gm h p.length (bK _)).2;unfold di oJ;rw[ah2];exact dH (Iy _ _) a
def aeq(h:NB k l):LB (k+l.length) (di l):=λt a=>(Gm h l.length (bK _)).1 t (RX a)
def LD(h:EB B l):EB B (di l):=λt a=>abL h l.length (bK _) t (RX a)
def aCI(h:NB k l)(d:EB B l)(o:B<=1000000000):BP (di l) 4:=by
 have q:=RV h;have e:=LD d;unfold NB at h;unfold BP;refine⟨bK _,O,λt f v c a=>?_,?_,λs _ t _ v c a=>O⟩
 ·have:=e t f;unfold MB at this;simp only[S.mono]at this
  match v,c,a with
  |1,_,_=>rw[J4];omega
  |2,_,_=>rw[Da];omega
  |3,_,_=>rw[Db];omega
  |4,_,_=>rw[Dc];omega
 ·unfold di oJ tG;rw[ES];intro i j g m b;exact ah3 _ _ i j _ _ b (cN g) (cN m)
def P7(h:MB B t.mono)(v:Nat):ex v t<=B:=by
 unfold MB at h;unfold ex cg;split
 ·omega
 ·split
  ·omega
  ·split<;>omega
theorem Jl{m:Nat}{B:Int}(b:0<=B)(j:B<=100000000):∀(f:Nat)(l:List S)(k:Nat),LB m l->EB B l->jT m (cH f l k)
 |0,l,k,_,_=>by rw[cH];exact jT.zero m
 |f+1,[],k,_,_=>by rw[cH];exact jT.zero m
 |f+1,t::r,k,h,i=>by
  rw[cH];split
  ·have:=h t ai;exact .mk _ _ _ _ this.1 this.2 ai (λc g=>by simp at g)
  ·split
   ·exact Jl b j f r _ (λu a=>h u (by simp[a])) (λu a=>i u (by simp[a]))
   ·have o:=P7 (i t ai) (fK t k);refine .mk _ _ _ _ ai (λd n=>by simp at n) (by simp;omega) (λc g=>?_);rw[b_]at g;obtain⟨e,_,rfl⟩:=g;exact Jl b j f _ _ (λu a=>h u (jr.1 a).1) (λu a=>i u (jr.1 a).1)
@[irreducible] def cY(p:J):J:=if gB p then p else cH ((di (cJ p ⟨0,0,0,0⟩)).length+4) (di (cJ p ⟨0,0,0,0⟩)) 4
@[irreducible] def dT(p:J):J:=l6 (cY p)
@[irreducible] def b8(p:J):=jT 1000000 p/\nP p<=1000000
def ajE:MB 0 ⟨0,0,0,0⟩:=by unfold MB;simp
def b8.nb(h:b8 p):NB 1000000 (cJ p ⟨0,0,0,0⟩):=by unfold b8 at h;have:=JJ p ⟨0,0,0,0⟩;unfold NB;exact⟨YQ _ p _ h.1,O,O⟩
def b8.eb(h:b8 p):EB 1000000 (cJ p ⟨0,0,0,0⟩):=by unfold b8 at h;intro t a;exact(YO p ⟨0,0,0,0⟩ 0 ajE t a).up O
def b8.OX(h:b8 p):jT 2000000 (cY p):=by
 have c:=h.nb;have d:=h.eb;have a:=aeq c;have e:=LD d;have f:=JJ p ⟨0,0,0,0⟩;unfold b8 at h;unfold cY;split
 ·exact h.1.up O
 ·exact Jl O O _ _ _ (λt b=>⟨by have:=(a t b).1;omega,(a t b).2⟩) e
def b8.cb(h:b8 p):CB [] p ⟨0,0,0,0⟩:=by unfold b8 at h;unfold CB;simp;omega
theorem aaU{X:Type}:∀(n:Nat)(P:Nat->X->Prop),(∀i,i<n->∃x,P i x)->∃l:List X,l.length=n/\∀i x,l[i]?=some x->P i x
 |0,P,_=>⟨[],rfl,λi x h=>by simp at h⟩
 |n+1,P,h=>by
  obtain⟨l,b,d⟩:=aaU n P λi e=>h i O
  obtain⟨x,c⟩:=h n O;refine⟨l++[x],by simp[b],λi y a=>?_⟩;by_cases e:i<n
  ·rw[NM O]at a;exact d i y a
  ·rw[B4 O]at a;have:i=n:=by have:=(du.1 a).1;simp at this;omega
   subst this;rw[b,rM]at a;simp only[kg,cS]at a;subst a;exact c
def S0(w:World):Nat->Prop:=dc w (λ_=>False) iJ
def gz(w:World)(r:List D)(a:au):=r.length=a.length/\∀(i:Nat)(x:D)(u:Value),r[i]?=some x->a[i]?=some u->dN w (S0 w) x u
theorem K6{e d:Type}(f:e->Option d):∀(l:List e)(r:List d),l.mapM f=some r->r.length=l.length/\∀(i:Nat)(a:e)(b:d),l[i]?=some a->r[i]?=some b->f a=some b
 |[],r,h=>by simp at h;subst h;exact⟨rfl,λi a b c=>by simp at c⟩
 |x::l,r,h=>by
  rw[IA]at h;simp only[Option.bind_eq_bind,IV,Option.pure_def,cS]at h;obtain⟨y,m,k,g,rfl⟩:=h;obtain⟨o,n⟩:=K6 f l k g;refine⟨by simp[o],λi a b c j=>?_⟩;cases i with
  |zero=>simp at c j;subst c;subst j;exact m
  |succ i=>exact n i a b (an c) (an j)
def aqe{w:World}{base n:Nat}{a:Addr}(h:w.cells? base a n=some X):X.length=n/\∀(j:Nat)(u:Value),X[j]?=some u->w.cell? (a.add j)=some u:=by
 unfold World.cells? at h;split at h
 ·obtain⟨b,d⟩:=K6 _ _ _ h;refine⟨by simpa using b,λj u c=>?_⟩;have e:j<n:=by have:=(du.1 c).1;simp at b;omega
  exact d j j u (by simp[e]) c
 ·cases h
def aqd{w:World}{a:Addr}(h:w.cell? a=some u):a.spot=none/\a.block<w.heap.size:=by
 unfold World.cell? at h;split at h
 ·rename_i b;split at h
  ·cases h
  ·rename_i I;exact⟨by simpa using I,(M_.1 b).1⟩
 ·cases h
section
variable {H:Type}{dh:TypeId×Value→H}{P:ax}{w:World}{base:Nat}{sp:Nat→Bool}{held:Bool}
def zK{e:TypeId}{v:Value}{d:DataW H}{X:Type}(encX:X->List D)(b:X->Prop)(m:P.underlying R=some (.slice e))(hk:0<P.cellsOf e)(hlen:∀x,(encX x).length=P.cellsOf e)
 (elem:∀cs d U,DataW.trod dh P w base sp held k e cs=some (d,U)->cs.length=P.cellsOf e->∃x,b x/\gz w (encX x) cs)
 (h:DataW.trod dh P w base sp held (k+1) R [v]=some (d,U)):∃l:List X,(∀x∈l,b x)/\dN w (S0 w) (.sl (l.map encX)) v:=by
 unfold DataW.trod at h;rw[m]at h;have hv:(∃a len f,v=.slice (some a) len f)\/v=.slice none 0 0:=by
  cases v
  case slice A len f=>
   cases A with
   |some a=>exact .inl ⟨a,len,f,rfl⟩
   |none=>
    cases len with
    |zero=>cases f with
     |zero=>exact .inr rfl
     |succ c=>simp at h
    |succ c=>simp at h
  all_goals(simp at h)
 rcases hv with⟨a,len,f,rfl⟩|rfl
 case inr=>exact⟨[],λx n=>by simp at n,dN.sl [] 1 0 none (λ_ _=>.bool false) ai ai (λr p=>by simp at p) (λq=>absurd rfl q) (λi j x n=>by simp at n)⟩
 case inl=>
  simp only at h;split at h
  ·rename_i Q;rw[IV]at h;obtain⟨o,hm,_⟩:=h;obtain⟨h1,h2⟩:=K6 _ _ _ hm;have hl:o.length=len:=an h1;have G:∀i,i<len->∃x:X,b x/\∃cs,cs.length=P.cellsOf e/\(∀(j:Nat)(u:Value),cs[j]?=some u->w.cell? (a.add (i*P.cellsOf e+j))=some u)/\gz w (encX x) cs:=by intro i z;have:=h2 i i (o[i]' O) (by simp[z]) ai;rw[IV]at this;obtain⟨cs,K,L⟩:=this;obtain⟨C,B⟩:=aqe K;obtain⟨x,g,r⟩:=elem cs _ _ L C;refine⟨x,g,cs,C,λj u m=>?_,r⟩;have:=B j u m;rwa [I8]at this
   obtain⟨l,T,M⟩:=aaU len (λi x=>b x/\∃cs,cs.length=P.cellsOf e/\(∀(j:Nat)(u:Value),cs[j]?=some u->w.cell? (a.add (i*P.cellsOf e+j))=some u)/\gz w (encX x) cs) G;refine⟨l,λx n=>?_,?_⟩
   ·obtain⟨i,z⟩:=EM n;exact(M i x z).1
   ·have e0:len=(l.map encX).length:=by simp[T]
    have cellAt:∀i j,i<len->j<P.cellsOf e->∃u,w.cell? (a.add (i*P.cellsOf e+j))=some u:=by intro i j z N;obtain⟨_,cs,C,B,_⟩:=M i (l[i]' O) ai;obtain⟨u,m⟩:∃u,cs[j]?=some u:=⟨cs[j]' O,ai⟩;exact⟨u,B j u m⟩
    have:=dN.sl (w:=w) (S:=S0 w) (l.map encX) (P.cellsOf e) f (some a) (λi j=>(w.cell? (a.add (i*P.cellsOf e+j))).getD (.bool false)) (by have:=Q.2.1;simp;omega) Q.2.2
     (λr p=>by rw[b_]at p;obtain⟨x,_,rfl⟩:=p;exact hlen x) (λq=>?_) (λi j x n=>?_)
    ·rw[<-e0]at this;exact this
    ·have h0:0<len:=by
      rcases Nat.eq_zero_or_pos len with h|h
      ·exact absurd (fR (by rw[eh];omega)) q
      ·exact h
     obtain⟨u,m⟩:=cellAt 0 0 h0 hk;have E:=aqd m;rw[IS,uc]at E;have V:a.add 0=a:=by unfold Addr.add;simp
     rw[V]at E;refine⟨a,rfl,E.1,⟨E.2,λh=>h,λs I=>by cases I⟩,λi j z N=>?_⟩;obtain⟨u,m⟩:=cellAt i j (by simpa[T]using z) N;rw[m];rfl
    ·rw[IV]at n;obtain⟨r,p,n⟩:=n;rw[eC,gN]at p;obtain⟨y,hy,rfl⟩:=p;obtain⟨_,cs,C,B,c3⟩:=M i y hy;have N:j<P.cellsOf e:=by have:=(du.1 n).1;rw[hlen]at this;exact this
     obtain⟨u,m⟩:∃u,cs[j]?=some u:=⟨cs[j]' O,ai⟩;rw[B j u m];exact c3.2 j x u n m
  ·cases h
end
def zM:F:=.mk 0 0 zP []
def jN(r:Int):Int:=if r<1\/6<r then 3 else r
mutual
def b9:F->F
 |.mk k r p a=>if k=1 then .mk 1 0 zP []else if k=2 then .mk 2 (jN r) (dT p) []else if k=3\/k=4 then .mk k 0 zP (qn a)else zM
def qn:List F->List F
 |[]=>[]
 |m::r=>b9 m::qn r
end
theorem GY:∀l,qn l=l.map b9
 |[]=>by rw[qn];rfl
 |m::r=>by rw[qn,GY r];rfl
def Lu(m:F):b9 m=if m.aJ=1 then .mk 1 0 zP []else if m.aJ=2 then .mk 2 (jN m.bU) (dT m.aF) []else if m.aJ=3\/m.aJ=4 then .mk m.aJ 0 zP (m.aO.map b9)else zM:=by cases m;rw[b9,GY];rfl
mutual
def dY:F->List J
 |.mk k r p a=>if k=2 then [p]else iS a
def iS:List F->List J
 |[]=>[]
 |m::r=>dY m++iS r
end
theorem afy:∀(a b:List F),iS (a++b)=iS a++iS b
 |[],b=>by rw[gf,iS];rfl
 |m::a,b=>by rw[eB,iS,iS,afy a b,gM]
def afx(m:F):dY m=if m.aJ=2 then [m.aF]else iS m.aO:=by cases m;rw[dY];rfl
def nX:List J->Int
 |[]=>0
 |p::r=>max p.aK (nX r)
theorem RG:∀l,0<=nX l
 |[]=>by rw[nX];omega
 |p::r=>by have:=RG r;rw[nX];omega
theorem RE:∀(a b:List J),nX (a++b)=max (nX a) (nX b)
 |[],b=>by have:=RG b;rw[gf];simp only[nX];omega
 |p::a,b=>by rw[eB,nX,nX,RE a b];omega
def GI(m:F):Int:=nX (dY m)
mutual
def oI:F->Int
 |.mk k r p a=>if k=2 then(dT p).aK else if k=3\/k=4 then n5 a else 0
def n5:List F->Int
 |[]=>0
 |m::r=>max (oI m) (n5 r)
end
def S1(m:F):oI m=if m.aJ=2 then(dT m.aF).aK else if m.aJ=3\/m.aJ=4 then n5 m.aO else 0:=by cases m;rw[oI];rfl
theorem S2:∀l,0<=n5 l
 |[]=>by rw[n5];omega
 |m::r=>by have:=S2 r;rw[n5];omega
inductive qJ:F->Prop where
 |mk (k r:Int) (p:J) (ks:List F) (h1:mS p) (h2:∀c∈ks,qJ c):qJ (.mk k r p ks)
inductive iz:F->Prop where
 |mk (k r:Int) (p:J) (ks:List F) (h1:b8 p) (h2:ks.length<=1000000000) (h3:∀c∈ks,iz c):iz (.mk k r p ks)
def iz.np(h:iz m):b8 m.aF:=by cases h;assumption
def iz.len(h:iz m):m.aO.length<=1000000000:=by cases h;assumption
def iz.bu(h:iz m):∀c∈m.aO,iz c:=by cases h;assumption
theorem Qp{f:N->Int->Int}:∀{l:List N}{n:Int},0<=iX f l n->0<=n
 |[],n,h=>by rw[iX]at h;exact h
 |c::r,n,h=>by
  rw[iX]at h;split at h
  ·omega
  ·omega
theorem agn(dg:Nat):∀(d:Nat)(p:J)(n:Int),0<=kw dg d p n->mS p->jT dg p/\(nP p:Int)+kw dg d p n<=n
 |0,p,n,h,_=>by rw[kw]at h;omega
 |d+1,p,n,h,j=>by
  rw[kw]at h⊢;split at h
  ·omega
  ·rename_i a;rw[Z a];have b:∀(l:List J)(n:Int),(∀c∈l,mS c)->0<=iX (kw dg d) l n->(∀c∈l,jT dg c)/\(iR l:Int)+iX (kw dg d) l n<=n:=by
    intro l
    induction l with
    |nil=>intro n _ h;rw[iX,GW];exact⟨λc a=>by simp at a,O⟩
    |cons c r k=>
     intro n i h;rw[iX]at h⊢;split at h
     ·omega
     ·rename_i m;rw[Z m];have g:=k (kw dg d c n) (λc a=>i c (by simp[a])) h;have f:=agn dg d c n (Qp h) (i c ai);rw[xL];refine⟨λx e=>?_,O⟩;rcases da.1 e with rfl|e
      ·exact f.1
      ·exact g.1 x e
   have g:=b p.aL (n-1) j.bu h;have f:=j.dg;have o:=Lp p;refine⟨?_,O⟩;cases p;exact .mk _ _ _ _ (by simp only[J.aC]at a;omega) f (by simp only[J.aL]at a;omega) g.1
def aa6{dg:Nat}(h:AO p n dg=true)(a:mS p):jT dg p/\(nP p:Int)<=n:=by unfold AO at h;simp only[be]at h;have:=agn dg 6 p n h a;exact⟨this.1,O⟩
def Qh{dg:Nat}(h:AO p n dg=true)(a:mS p)(c:n<=1000000)(b:dg<=1000000):b8 p:=by have:=aa6 h a;unfold b8;exact⟨this.1.up b,O⟩
mutual
def ba:F->Nat
 |.mk _ _ _ a=>1+ck a
def ck:List F->Nat
 |[]=>0
 |m::r=>ba m+ck r
end
def j8(m:F):ba m=1+ck m.aO:=by cases m;rw[ba];rfl
def e_:ck []=0:=by rw[ck]
def dW(m:F)(r:List F):ck (m::r)=ba m+ck r:=by rw[ck]
def zN(m:F):1<=ba m:=by rw[j8];omega
theorem rj:∀l,l.length<=ck l
 |[]=>by simp
 |m::r=>by have:=rj r;have:=zN m;rw[dW];simp;omega
theorem agm:∀(d:Nat)(m:F)(n:Int),n<=1000000->0<=jj d m n->qJ m->iz m/\(ba m:Int)+jj d m n<=n
 |0,m,n,_,h,_=>by rw[jj]at h;omega
 |d+1,m,n,j,h,v=>by
  rw[jj]at h⊢;split at h
  ·omega
  ·rename_i a;rw[Z a];have b:∀(l:List F)(n:Int),n<=1000000->(∀c∈l,qJ c)->0<=iX (jj d) l n->(∀c∈l,iz c)/\(ck l:Int)+iX (jj d) l n<=n:=by
    intro l
    induction l with
    |nil=>intro n _ _ h;rw[iX,e_];exact⟨λc a=>by simp at a,O⟩
    |cons c r s=>
     intro n j o h;rw[iX]at h⊢;split at h
     ·omega
     ·rename_i g;rw[Z g];have q:=agm d c n j (Qp h) (o c ai);have i:=s (jj d c n) O (λc a=>o c (by simp[a])) h;rw[dW];refine⟨λx f=>?_,O⟩;rcases da.1 f with rfl|f
      ·exact q.1
      ·exact i.1 x f
   cases v with
   |mk k r p ks t u=>have i:=b ks (n-1) O u h;have q:=rj ks;have e:F.aO (.mk k r p ks)=ks:=rfl;rw[e]at h⊢;refine⟨.mk k r p ks ?_ O i.1,by rw[ba];omega⟩;exact Qh (dg:=4) (by simpa[F.aF]using a) t O O
def aa5(a:n<=1000000)(h:xA m n=true)(b:qJ m):iz m/\(ba m:Int)<=n:=by unfold xA at h;simp only[be]at h;have:=agm 12 m n a h b;exact⟨this.1,O⟩
mutual
theorem S7:∀m:F,(dY m).length<=ba m
 |.mk k r p a=>by
  have:=S8 a
  rw[dY,ba]
  split
  ·simp
  ·omega
theorem S8:∀l:List F,(iS l).length<=ck l
 |[]=>by rw[iS];simp
 |m::r=>by
  have:=S7 m
  have:=S8 r
  rw[iS,ck];simp;omega
end
mutual
theorem Lw:∀m:F,ba (b9 m)<=ba m
 |.mk k r p a=>by
  have:=ael a
  rw[b9]
  split
  ·rw[ba,ba,e_];omega
  ·split
   ·rw[ba,ba,e_];omega
   ·split
    ·rw[ba,ba];omega
    ·unfold zM;rw[ba,ba,e_];omega
theorem ael:∀l:List F,ck (qn l)<=ck l
 |[]=>by rw[qn];omega
 |m::r=>by
  have:=Lw m
  have:=ael r
  rw[qn,dW,dW];omega
end
theorem X5:∀(f:Nat)(l:List S)(k:Nat),0<=(cH f l k).aK
 |0,l,k=>by rw[cH];decide
 |f+1,[],k=>by rw[cH];decide
 |f+1,t::r,k=>by
  rw[cH];split
  ·exact tY _
  ·split
   ·exact X5 f r _
   ·show 0<=((fK t k:Nat):Int);omega
def ap_(h:gB p=true):0<=p.aK:=by
 rw[OW]at h;split at h
 ·omega
 ·simp only[ej,be]at h;omega
def aCN(p:J):0<=(dT p).aK:=by
 have h:0<=(cY p).aK:=by
  unfold cY;split
  ·rename_i a;exact ap_ a
  ·exact X5 _ _ _
 unfold dT;rw[Y4];split
 ·exact tY _
 ·exact h
mutual
theorem Q_:∀m:F,nX (dY (b9 m))=oI m
 |.mk k r p a=>by
  have b:=ac5 a
  have e:=aCN p
  rw[b9,oI]
  split
  ·rw[dY,Z O,iS,Z O,Z O];rfl
  ·split
   ·rw[dY,aM rfl]
    simp only[nX]
    omega
   ·split
    ·rw[dY,Z O];exact b
    ·unfold zM;rw[dY,Z O,iS];rfl
theorem ac5:∀l:List F,nX (iS (qn l))=n5 l
 |[]=>by rw[qn,iS,n5];rfl
 |m::r=>by
  have d:=Q_ m
  have c:=ac5 r
  rw[qn,iS,n5,RE,d,c]
end
section
variable {H:Type}{dh:TypeId×Value→H}{P:ax}{w:World}{base:Nat}{sp:Nat→Bool}{held:Bool}
def u6{d:DataW H}(h:DataW.trod dh P w base sp held k R X=some (d,U)):∃f,k=f+1:=by
 cases k with
 |zero=>simp[DataW.trod]at h
 |succ f=>exact⟨f,rfl⟩
def XZ{d:DataW H}(a:P.underlying R=some .bool)(h:DataW.trod dh P w base sp held k R X=some (d,U)):∃b,X=[.bool b]:=by
 obtain⟨f,rfl⟩:=u6 h;unfold DataW.trod at h;rw[a]at h
 match X,h with
 |[.bool b],_=>exact⟨b,rfl⟩
def Gu{a:IntKind}{d:DataW H}(c:P.underlying R=some (.int a))(h:DataW.trod dh P w base sp held k R X=some (d,U)):∃n,X=[.int a n]/\(Lit.int a n).wf=true:=by
 obtain⟨f,rfl⟩:=u6 h;unfold DataW.trod at h;rw[c]at h
 match X,h with
 |[.int e n],h=>
  simp only at h;split at h
  ·rename_i b;exact⟨n,by rw[b.1],b.2⟩
  ·cases h
def aHW{d:DataW H}(a:P.underlying R=some .string)(h:DataW.trod dh P w base sp held k R X=some (d,U)):∃s,X=[.string s]:=by
 obtain⟨f,rfl⟩:=u6 h;unfold DataW.trod at h;rw[a]at h
 match X,h with
 |[.string s],_=>exact⟨s,rfl⟩
def aH0{a:Array Field}{d:DataW H}(c:P.underlying R=some (.struct a))(h:DataW.trod dh P w base sp held (k+1) R X=some (d,U)):
 X.length=P.cellsOf R/\∀(i:Nat)(f:Field),a.toList[i]?=some f->∃d U,DataW.trod dh P w base sp held k f.type ((X.drop f.offset).take (P.cellsOf f.type))=some (d,U):=by
 unfold DataW.trod at h;rw[c]at h;simp only at h;split at h
 ·rename_i e;refine⟨e,λi f b=>?_⟩;rw[gN]at h;obtain⟨xs,g,_⟩:=h;obtain⟨m,j⟩:=K6 _ _ _ g;have l:i<xs.length:=by have:=(du.1 b).1;omega
  have:=j i f xs[i] b (cN l);exact⟨xs[i].1,xs[i].2,this⟩
 ·cases h
def gz.cons{x:D}{r:List D}(h:dN w (S0 w) x u)(c:gz w r X):gz w (x::r) (u::X):=by
 refine⟨by simp[c.1],λi y v a b=>?_⟩;cases i with
 |zero=>simp at a b;subst a;subst b;exact h
 |succ i=>exact c.2 i y v (an a) (an b)
def gz.nil:gz w [] []:=⟨rfl,λi x u a=>by simp at a⟩
end
section
variable {H:Type}{dh:TypeId×Value→H}{w:World}{base:Nat}{sp:Nat→Bool}{held:Bool}
def c3:Tryz.prog.cellsOf 3=1:=af
def c4:Tryz.prog.cellsOf 4=1:=af
def c9:Tryz.prog.cellsOf 9=1:=af
def c22:Tryz.prog.cellsOf 22=1:=af
def c24:Tryz.prog.cellsOf 24=1:=af
def Ya:Tryz.prog.cellsOf 26=2:=af
def c27:Tryz.prog.cellsOf 27=1:=af
def Jn:Tryz.prog.cellsOf 29=4:=af
def c30:Tryz.prog.cellsOf 30=1:=af
def Jo:Tryz.prog.cellsOf 32=7:=af
def aI5(h:(Lit.int .u32 n).wf=true):b5 n:=by simp[Lit.wf,IntKind.min,IntKind.max,IntKind.bits,IntKind.signed]at h;unfold b5;omega
def ati{v:Value}{d:DataW H}(h:DataW.trod dh prog w base sp held k 24 [v]=some (d,U)):∃l:List Int,Dg l/\dN w (S0 w) (.sl (l.map vv)) v:=by
 obtain⟨f,rfl⟩:=u6 h;have b:Tryz.prog.underlying 24=some (.slice 168):=af;have a:Tryz.prog.cellsOf 168=1:=af;have c:Tryz.prog.underlying 168=some (.int .u32):=af;obtain⟨l,e,g⟩:=zK (X:=Int) vv b5 b (by rw[a];decide) (λx=>by rw[a];rfl) (λm d U i o=>by obtain⟨n,rfl,j⟩:=Gu c i;exact⟨n,aI5 j,gz.cons (.sc _ rfl) gz.nil⟩) h
 exact⟨l,e,g⟩
def ay0(h:X.length=2):∃a b,X=[a,b]:=by
 match X,h with
 |[a,b],_=>exact⟨a,b,rfl⟩
def ay2(h:X.length=4):∃a b c d,X=[a,b,c,d]:=by
 match X,h with
 |[a,b,c,d],_=>exact⟨a,b,c,d,rfl⟩
def ay3(h:X.length=7):∃a b c d e f g,X=[a,b,c,d,e,f,g]:=by
 match X,h with
 |[a,b,c,d,e,f,g],_=>exact⟨a,b,c,d,e,f,g,rfl⟩
def ayZ(h:X.length=10):∃x y z a b c d e f g,X=[x,y,z,a,b,c,d,e,f,g]:=by
 match X,h with
 |[x,y,z,a,b,c,d,e,f,g],_=>exact⟨x,y,z,a,b,c,d,e,f,g,rfl⟩
def r4{off:Nat}{ft:TypeId}{d:DataW H}(h:DataW.trod dh prog w base sp held (k+1) x X=some (d,U))(b:wF prog x i=some (off,ft)):
 X.length=Tryz.prog.cellsOf x/\∃d U,DataW.trod dh prog w base sp held k ft ((X.drop off).take (Tryz.prog.cellsOf ft))=some (d,U):=by
 obtain⟨m,c,e,a,f,g⟩:=Ui b;obtain⟨j,l⟩:=aH0 e h;have:=l i c (an a);rw[f,g]at this;exact⟨j,this⟩
def axD{cs:au}{d:DataW H}(h:DataW.trod dh prog w base sp held k 26 cs=some (d,U)):∃x:aY,Dg x.aC/\gz w (yX x) cs:=by obtain⟨f,rfl⟩:=u6 h;obtain⟨a,n,o,c⟩:=r4 (i:=0) (off:=0) (ft:=4) h af;obtain⟨_,p,q,g⟩:=r4 (i:=1) (off:=1) (ft:=24) h af;rw[Ya]at a;rw[c4]at c;rw[c24]at g;obtain⟨r,v1,rfl⟩:=ay0 a;obtain⟨b,e⟩:=XZ (show Tryz.prog.underlying 4=some .bool by kernel_rfl) c;obtain⟨l,j,m⟩:=ati (v:=v1) g;simp at e;subst e;exact⟨⟨b,l⟩,j,gz.cons (.sc _ rfl) (gz.cons m gz.nil)⟩
def aEx:∀(a:Nat){cs:au}{d:DataW H}{b:List MemPlace},DataW.trod dh prog w base sp held a 29 cs=some (d,b)->∃x:J,mS x/\gz w (mE x) cs:=by
 intro a
 induction a using Nat.strongRecOn with
 |_ a o=>
  intro cs d b h;obtain⟨f,rfl⟩:=u6 h;obtain⟨c,G,C,m⟩:=r4 (i:=0) (off:=0) (ft:=3) h af;obtain⟨_,E,B,k⟩:=r4 (i:=1) (off:=1) (ft:=26) h af;obtain⟨_,D,A,g⟩:=r4 (i:=2) (off:=3) (ft:=27) h af;rw[Jn]at c;rw[c3]at m;rw[Ya]at k;rw[c27]at g;obtain⟨z,v1,v2,v3,rfl⟩:=ay2 c;obtain⟨n,e,_⟩:=Gu (show Tryz.prog.underlying 3=some (.int .i64)by kernel_rfl) m;simp at e;subst e;obtain⟨x,p,j⟩:=axD (cs:=[v1,v2]) k;obtain⟨t,rfl⟩:=u6 g
  obtain⟨l,s,r⟩:=zK (X:=J) (v:=v3) mE mS (show Tryz.prog.underlying 27=some (.slice 29)by kernel_rfl) (by rw[Jn];decide) (λx=>by rw[Jn,l4];rfl)
   (λcs d b q c=>o t O q) g
  refine⟨.mk n x.neg x.aC l,.mk _ _ _ _ p s,?_⟩;rw[l4];have y:=j.2 0 _ _ rfl rfl;have u:=j.2 1 _ _ rfl rfl;exact gz.cons (.sc _ rfl) (gz.cons y (gz.cons u (gz.cons r gz.nil)))
def azy:∀(a:Nat){cs:au}{d:DataW H}{c:List MemPlace},DataW.trod dh prog w base sp held a 32 cs=some (d,c)->∃x:F,qJ x/\gz w (qb x) cs:=by
 intro a
 induction a using Nat.strongRecOn with
 |_ a s=>
  intro cs d c h;obtain⟨f,rfl⟩:=u6 h;obtain⟨g,N,G,p⟩:=r4 (i:=0) (off:=0) (ft:=3) h af;obtain⟨_,M,E,o⟩:=r4 (i:=1) (off:=1) (ft:=22) h af;obtain⟨_,L,D,k⟩:=r4 (i:=2) (off:=2) (ft:=29) h af;obtain⟨_,K,C,j⟩:=r4 (i:=3) (off:=6) (ft:=30) h af;rw[Jo]at g;rw[c3]at p;rw[c22]at o;rw[Jn]at k;rw[c30]at j;obtain⟨B,v1,v2,v3,v4,r,q,rfl⟩:=ay3 g;obtain⟨n,e,_⟩:=Gu (show Tryz.prog.underlying 3=some (.int .i64)by kernel_rfl) p;simp at e;subst e;obtain⟨m,e,_⟩:=Gu (show Tryz.prog.underlying 22=some (.int .i64)by kernel_rfl) o;simp at e;subst e;obtain⟨x,t,b⟩:=aEx f (cs:=[v2,v3,v4,r]) k;obtain⟨A,rfl⟩:=u6 j
  obtain⟨l,z,y⟩:=zK (X:=F) (v:=q) qb qJ (show Tryz.prog.underlying 30=some (.slice 32)by kernel_rfl) (by rw[Jo];decide) (λx=>by rw[Jo,rW];rfl)
   (λcs d c u g=>s A O u) j
  refine⟨.mk n m x l,.mk _ _ _ _ t z,?_⟩;rw[rW];rw[l4]at b;exact gz.cons (.sc _ rfl) (gz.cons (.sc _ rfl) (gz.cons (b.2 0 _ _ rfl rfl) (gz.cons (b.2 1 _ _ rfl rfl) (gz.cons (b.2 2 _ _ rfl rfl) (gz.cons (b.2 3 _ _ rfl rfl) (gz.cons y gz.nil))))))
def c50:Tryz.prog.cellsOf 50=10:=af
end
@[irreducible] def LG(l:List S)(k x:Nat):=x<=k/\BP l x/\∀t,l[0]?=some t->fK t k=fK t x
@[irreducible] def jx(l:List S)(y s:Nat):Int:=((l[s]?).map (ex y)).getD 0
@[irreducible] def BG(l:List S)(k y n s:Nat):=LG l k y/\1<=y/\n=(jx l y 0+1).toNat/\jx l y 0≠0/\jx l y 0<=1073741824/\s<=l.length/\cut l y s
@[irreducible] def dX(l:List S)(k y n s e:Nat):=BG l k y n s/\s<l.length/\s<=e/\e<=l.length/\tE l y s e (jx l y s)
@[irreducible] def yO(f:Nat)(l:List S)(k:Int):=0<=k/\BP l k.toNat/\l.length+k.toNat<=f
def AH{l:List S}{y s:Nat}{t:S}(h:l[s]?=some t):jx l y s=ex y t:=by unfold jx;rw[h];rfl
def AX{t:S}{y:Nat}(a:1<=y)(b:y<=4):[t.e1,t.e2,t.e3,t.e4].getD ((y:Int)-1).toNat 0=ex y t:=by
 match y,a,b with
 |1,_,_=>rfl
 |2,_,_=>rfl
 |3,_,_=>rfl
 |4,_,_=>rfl
abbrev gd(t:S)(y:Nat):Int:=[t.e1,t.e2,t.e3,t.e4].getD ((y:Int)-1).toNat 0
def LG.bp{l:List S}{k x:Nat}(h:LG l k x/\True):BP l x:=by have:=h.1;unfold LG at this;exact this.2.1
theorem LG.k4{l:List S}{k x:Nat}(h:LG l k x/\True):x<=4:=(LG.bp h).k4
def A4{l:List S}{k x:Nat}(h:LG l k x/\True)(a:decide (0<(x:Int))=true):1<=x:=by simp only[be]at a;omega
def azs{l:List S}{k x:Nat}(h:LG l k x/\True):-9223372036854775808<=(x:Int)-1:=O
def azt{l:List S}{k x:Nat}(h:LG l k x/\True):(x:Int)-1<=9223372036854775807:=by have:=LG.k4 h;omega
def Dt{l:List S}{k x:Nat}(h:LG l k x/\True)(a:decide (0<(x:Int))=true):0<=(x:Int)-1:=by have:=A4 h a;omega
def azu{l:List S}{k x:Nat}(h:LG l k x/\True):(x:Int)-1<((4:Nat):Int):=by have:=LG.k4 h;omega
def K5{l:List S}(h:((l.length:Int)==0)=false):Int.toNat 0<l.length:=by have:(l.length:Int)≠0:=an h;show 0<l.length;omega
def azv{l:List S}(h:((l.length:Int)==0)=false):1<=(l.length:Int):=by have:=K5 h;have e:Int.toNat 0=0:=rfl;omega
def alw{l:List S}{k:Nat}(h:BP l k):LG l k k:=by unfold LG;exact⟨bK _,h,λ_ _=>rfl⟩
def aly{l:List S}{k x:Nat}(h:LG l k x/\True)(o:decide (0<(x:Int))=true){t:S}(i:l[Int.toNat 0]?=some t)(d:(gd t x==0)=true):LG l k (x-1):=by
 have p:=A4 h o;have q:=LG.k4 h;have i:l[0]?=some t:=i;have d:gd t x=0:=an d;unfold gd at d;rw[AX p q]at d;have j:=h.1;unfold LG at j⊢;obtain⟨a,b,c⟩:=j;obtain⟨m,rfl⟩:∃m,x=m+1:=⟨x-1,O⟩;refine⟨O,b.zero i d,λu g=>?_⟩;rw[c u g];rw[i]at g;injection g with g;subst g
 show fK t (m+1)=fK t m;rw[fK,aM d]
def alx{l:List S}{k x:Nat}(h:LG l k x/\True)(a:decide (0<(x:Int))=true):(x:Int)-1=((x-1:Nat):Int):=by have:=A4 h a;omega
def bA{f:Nat}{l:List S}{k:Nat}(h:((l.length:Int)==0)=true):cH (f+1) l k=zP:=by
 have:l.length=0:=by have:(l.length:Int)=0:=an h;omega
 rw[fR this,Fp]
def bA1{f:Nat}{l:List S}{k:Nat}(h:((l.length:Int)==0)=true):0=(cH (f+1) l k).aK:=by rw[bA h];rfl
def bA2{f:Nat}{l:List S}{k:Nat}(h:((l.length:Int)==0)=true):false=(cH (f+1) l k).neg:=by rw[bA h];rfl
def bA3{f:Nat}{l:List S}{k:Nat}(h:((l.length:Int)==0)=true):(cH (f+1) l k).aC=[]:=by rw[bA h];rfl
def bA4{f:Nat}{l:List S}{k:Nat}(h:((l.length:Int)==0)=true):(cH (f+1) l k).aL=[]:=by rw[bA h];rfl
def UJ{f:Nat}{l:List S}{k x:Nat}(h:LG l k x/\True){t:S}(b:l[Int.toNat 0]?=some t):∃r,l=t::r/\fK t k=fK t x:=by
 have b:l[0]?=some t:=b;have c:=h.1;unfold LG at c;cases l with
 |nil=>simp at b
 |cons a r=>have:=c.2.2 t b;simp only[kg,cS]at b;subst b;exact⟨r,rfl,this⟩
def bB{f:Nat}{l:List S}{k x:Nat}(h:LG l k x/\True)(a:((x:Int)==0)=true){t:S}(b:l[Int.toNat 0]?=some t):cH (f+1) l k=.mk 0 t.neg t.aC []:=by
 obtain⟨r,rfl,e⟩:=UJ (f:=f) h b;have:x=0:=by have:(x:Int)=0:=an a;omega
 subst this;rw[yV,e,fK,aM rfl]
def bB1{f:Nat}{l:List S}{k x:Nat}(h:LG l k x/\True)(a:((x:Int)==0)=true){t:S}(b:l[Int.toNat 0]?=some t):0=(cH (f+1) l k).aK:=by rw[bB h a b];rfl
def bB2{f:Nat}{l:List S}{k x:Nat}(h:LG l k x/\True)(a:((x:Int)==0)=true){t:S}(b:l[Int.toNat 0]?=some t):t.neg=(cH (f+1) l k).neg:=by rw[bB h a b];rfl
def bB3{f:Nat}{l:List S}{k x:Nat}(h:LG l k x/\True)(a:((x:Int)==0)=true){t:S}(b:l[Int.toNat 0]?=some t):t.aC=(cH (f+1) l k).aC:=by rw[bB h a b];rfl
def bB4{f:Nat}{l:List S}{k x:Nat}(h:LG l k x/\True)(a:((x:Int)==0)=true){t:S}(b:l[Int.toNat 0]?=some t):(cH (f+1) l k).aL=[]:=by rw[bB h a b];rfl
def one{l:List S}{t:S}(b:l[Int.toNat 0]?=some t)(a:l[Int.toNat 0]?=some Q):Q=t:=by rw[b]at a;injection a with a;exact a.symm
def aaV{l:List S}{k x:Nat}(h:LG l k x/\True)(b:decide (0<(x:Int))=true){t:S}(a:(gd t x==0)=false):ex x t≠0:=by have:gd t x≠0:=an a;unfold gd at this;rwa [AX (A4 h b) (LG.k4 h)]at this
def bC{f:Nat}{l:List S}{k x:Nat}(h:LG l k x/\True)(d:decide (0<(x:Int))=true){t0 t:S}(b:l[Int.toNat 0]?=some t0)(c:(gd t0 x==0)=false)(g:l[Int.toNat 0]?=some t)(a:decide (1073741824<gd t x)=true):
 cH f (l.drop (Int.toNat 1)) ((x:Int)).toNat=cH (f+1) l k:=by
 have e:=one b g;subst e;have j:=aaV h d c;obtain⟨r,rfl,e⟩:=UJ (f:=f) h g;have i:=A4 h d;rw[adh j i]at e;simp only[be,gd]at a;rw[AX i (LG.k4 h)]at a;rw[yV,e,Z O,aM a,bt];rfl
def bC1{f:Nat}{l:List S}{k x:Nat}(h:LG l k x/\True)(d:decide (0<(x:Int))=true){t0 t:S}(b:l[Int.toNat 0]?=some t0)(c:(gd t0 x==0)=false)(g:l[Int.toNat 0]?=some t)(a:decide (1073741824<gd t x)=true):(cH f (l.drop (Int.toNat 1)) ((x:Int)).toNat).aK=(cH (f+1) l k).aK:=by rw[bC h d b c g a]
def bC2{f:Nat}{l:List S}{k x:Nat}(h:LG l k x/\True)(d:decide (0<(x:Int))=true){t0 t:S}(b:l[Int.toNat 0]?=some t0)(c:(gd t0 x==0)=false)(g:l[Int.toNat 0]?=some t)(a:decide (1073741824<gd t x)=true):(cH f (l.drop (Int.toNat 1)) ((x:Int)).toNat).neg=(cH (f+1) l k).neg:=by rw[bC h d b c g a]
def bC3{f:Nat}{l:List S}{k x:Nat}(h:LG l k x/\True)(d:decide (0<(x:Int))=true){t0 t:S}(b:l[Int.toNat 0]?=some t0)(c:(gd t0 x==0)=false)(g:l[Int.toNat 0]?=some t)(a:decide (1073741824<gd t x)=true):(cH f (l.drop (Int.toNat 1)) ((x:Int)).toNat).aC=(cH (f+1) l k).aC:=by rw[bC h d b c g a]
def bC4{f:Nat}{l:List S}{k x:Nat}(h:LG l k x/\True)(d:decide (0<(x:Int))=true){t0 t:S}(b:l[Int.toNat 0]?=some t0)(c:(gd t0 x==0)=false)(g:l[Int.toNat 0]?=some t)(a:decide (1073741824<gd t x)=true):(cH f (l.drop (Int.toNat 1)) ((x:Int)).toNat).aL=(cH (f+1) l k).aL:=by rw[bC h d b c g a]
def aGR{f:Nat}{l:List S}{k x:Nat}(h:LG l k x/\True)(g:l.length+k<=f+1)(a:((l.length:Int)==0)=false):yO f (l.drop (Int.toNat 1)) (x:Int):=by
 have b:=LG.bp h;have i:=K5 a;have e:Int.toNat 0=0:=rfl;have c:Int.toNat 1=1:=rfl;have d:x<=k:=by have:=h.1;unfold LG at this;exact this.1
 unfold yO;rw[bt,c];exact⟨O,b.sub (List.drop_sublist _ _),by rw[xa];omega⟩
section
variable {f:Nat}{l:List S}{k x:Nat}{t0 t t1:S}
def bD(h:LG l k x/\True)(i:decide (0<(x:Int))=true)(c:l[Int.toNat 0]?=some t0)(d:(gd t0 x==0)=false)(g:l[Int.toNat 0]?=some t)(a:decide (1073741824<gd t x)=false)(b:l[Int.toNat 0]?=some t1):
 gd t1 x=jx l x 0/\jx l x 0≠0/\0<=jx l x 0/\jx l x 0<=1073741824:=by
 have e:=one c g;subst e;have e:=one g b;subst e;have o:=A4 h i;have m:=LG.k4 h;have p:=aaV h i d;have j:l[0]?=some t1:=b;have q:=(LG.bp h).za (bM j) o m;simp only[bc,gd]at a⊢;rw[AX o m]at a⊢;rw[AH j];exact⟨rfl,p,q.1,O⟩
def bD1(h:LG l k x/\True)(i:decide (0<(x:Int))=true)(c:l[Int.toNat 0]?=some t0)(d:(gd t0 x==0)=false)(g:l[Int.toNat 0]?=some t)(a:decide (1073741824<gd t x)=false)(b:l[Int.toNat 0]?=some t1):0<=gd t1 x+1:=by have:=bD h i c d g a b;omega
def bD2(h:LG l k x/\True)(i:decide (0<(x:Int))=true)(c:l[Int.toNat 0]?=some t0)(d:(gd t0 x==0)=false)(g:l[Int.toNat 0]?=some t)(a:decide (1073741824<gd t x)=false)(b:l[Int.toNat 0]?=some t1):gd t1 x+1<=281474976710656:=by have:=bD h i c d g a b;omega
def bD3(h:LG l k x/\True)(i:decide (0<(x:Int))=true)(c:l[Int.toNat 0]?=some t0)(d:(gd t0 x==0)=false)(g:l[Int.toNat 0]?=some t)(a:decide (1073741824<gd t x)=false)(b:l[Int.toNat 0]?=some t1):gd t1 x+1<=9223372036854775807:=by have:=bD h i c d g a b;omega
def bD4(h:LG l k x/\True)(i:decide (0<(x:Int))=true)(c:l[Int.toNat 0]?=some t0)(d:(gd t0 x==0)=false)(g:l[Int.toNat 0]?=some t)(a:decide (1073741824<gd t x)=false)(b:l[Int.toNat 0]?=some t1):-9223372036854775808<=gd t1 x+1:=by have:=bD h i c d g a b;omega
def bD5(h:LG l k x/\True)(i:decide (0<(x:Int))=true)(c:l[Int.toNat 0]?=some t0)(d:(gd t0 x==0)=false)(g:l[Int.toNat 0]?=some t)(a:decide (1073741824<gd t x)=false)(b:l[Int.toNat 0]?=some t1):mi.dF*(gd t1 x+1).toNat<=281474976710656:=by have:=bD h i c d g a b;have e:mi.dF=64:=rfl;rw[e];omega
def XG(h:LG l k x/\True)(i:decide (0<(x:Int))=true)(c:l[Int.toNat 0]?=some t0)(d:(gd t0 x==0)=false)(g:l[Int.toNat 0]?=some t)(a:decide (1073741824<gd t x)=false)(b:l[Int.toNat 0]?=some t1):(gd t1 x+1).toNat=(jx l x 0+1).toNat:=by rw[(bD h i c d g a b).1]
def bD7(h:LG l k x/\True)(i:decide (0<(x:Int))=true)(c:l[Int.toNat 0]?=some t0)(d:(gd t0 x==0)=false)(g:l[Int.toNat 0]?=some t)(a:decide (1073741824<gd t x)=false)(b:l[Int.toNat 0]?=some t1):List.replicate (gd t1 x+1).toNat (J.mk 0 false [] [])=oo f l x (jx l x 0+1).toNat 0:=by rw[XG h i c d g a b];exact aqW f l x _
def bD8(h:LG l k x/\True)(g:decide (0<(x:Int))=true)(c:l[Int.toNat 0]?=some t0)(d:(gd t0 x==0)=false)(i:l[Int.toNat 0]?=some t)(a:decide (1073741824<gd t x)=false)(b:l[Int.toNat 0]?=some t1):BG l k x (jx l x 0+1).toNat 0:=by have:=bD h g c d i a b;unfold BG;exact⟨h.1,A4 h g,rfl,this.2.1,this.2.2.2,dz _,asX l x⟩
end
section
variable {f:Nat}{l:List S}{k y n s e:Nat}{t:S}
def BG.lg(h:BG l k y n s/\True):LG l k y/\True:=by have:=h.1;unfold BG at this;exact⟨this.1,trivial⟩
def BG.one(h:BG l k y n s/\True):1<=y/\y<=4:=by have a:=LG.k4 (BG.lg h);have:=h.1;unfold BG at this;exact⟨this.2.1,a⟩
def XH(h:BG l k y n s/\True):-9223372036854775808<=(y:Int)-1:=O
def XI(h:BG l k y n s/\True):(y:Int)-1<=9223372036854775807:=by have:=BG.one h;omega
def XJ(h:BG l k y n s/\True):0<=(y:Int)-1:=by have:=BG.one h;omega
def XK(h:BG l k y n s/\True):(y:Int)-1<((4:Nat):Int):=by have:=BG.one h;omega
def bE5(h:decide ((s:Int)<l.length)=true):((s:Int)).toNat<l.length:=by simp only[be]at h;omega
def bE6(h:BG l k y n s/\True)(a:l[(s:Int).toNat]?=some t):gd t y=jx l y s:=by rw[bt]at a;have:=BG.one h;unfold gd;rw[AX this.1 this.2,AH a]
def bE7(h:BG l k y n s/\True)(I:decide ((s:Int)<l.length)=true):dX l k y n s s:=by simp only[be]at I;unfold dX;exact⟨h.1,O,bK _,O,aGa _ _ _ _⟩
def dX.bg(h:dX l k y n s e/\True):BG l k y n s/\True:=by have:=h.1;unfold dX at this;exact⟨this.1,trivial⟩
def dX.le(h:dX l k y n s e/\True):s<l.length/\s<=e/\e<=l.length:=by have:=h.1;unfold dX at this;exact⟨this.2.1,this.2.2.1,this.2.2.2.1⟩
theorem dX.len(h:dX l k y n s e/\True):l.length<=1000000000:=(LG.bp (BG.lg (dX.bg h))).len
def bF1(h:dX l k y n s e/\True):-9223372036854775808<=(e:Int)+1:=O
def bF2(h:dX l k y n s e/\True):(e:Int)+1<=9223372036854775807:=by have:=dX.le h;have:=dX.len h;omega
def bF3(h:dX l k y n s e/\True)(o:decide ((e:Int)<l.length)=true)(i:l[(e:Int).toNat]?=some t)(g:(gd t y==jx l y s)=true):dX l k y n s (e+1):=by rw[bt]at i;simp only[be]at o;have m:=BG.one (dX.bg h);have g:gd t y=jx l y s:=an g;unfold gd at g;rw[AX m.1 m.2]at g;have j:=h.1;unfold dX at j⊢;obtain⟨a,b,c,d,r⟩:=j;exact⟨a,b,O,O,aGb r i g⟩
def bF4(h:dX l k y n s e/\True)(g:l.length+k<=f+1):yO f ((l.drop ((s:Int)).toNat).take (((e:Int)).toNat-((s:Int)).toNat)) ((y:Int)-1):=by
 have j:=BG.one (dX.bg h);have a:=(BG.lg (dX.bg h));have i:y<=k:=by have:=a.1;unfold LG at this;exact this.1
 have c:=dX.le h;have b:=h.1;unfold dX at b;obtain⟨m,rfl⟩:∃m,y=m+1:=⟨y-1,O⟩;have d:(((m+1:Nat):Int)-1).toNat=m:=O;unfold yO;rw[d,bt,bt];refine⟨O,?_,by rw[gw,xa];omega⟩;exact((LG.bp a).sub (aD9 l s (e-s))).down (Tp b.2.2.2.2)
def Jh(h:dX l k y n s e/\True):0<=jx l y s:=by have d:=BG.one (dX.bg h);have b:=dX.le h;obtain⟨a,c⟩:∃a,l[s]?=some a:=⟨l[s]'b.1,ai⟩;rw[AH c];exact((LG.bp (BG.lg (dX.bg h))).za (bM c) d.1 d.2).1
def avc(h:dX l k y n s e/\True):jx l y s<=jx l y 0:=by have i:=BG.one (dX.bg h);have c:=dX.le h;obtain⟨a,g⟩:∃a,l[s]?=some a:=⟨l[s]'c.1,ai⟩;obtain⟨b,d⟩:∃b,l[0]?=some b:=⟨l[0]' O,ai⟩;rw[AH g,AH d];exact(LG.bp (BG.lg (dX.bg h))).head i.1 d a (bM g)
def nn(h:dX l k y n s e/\True):n=(jx l y 0+1).toNat:=by have:=(dX.bg h).1;unfold BG at this;exact this.2.2.1
def OE(h:dX l k y n s e/\True):jx l y s<(n:Int):=by have:=avc h;have:=nn h;have:=Jh h;omega
def bF7(h:dX l k y n s e/\True):(jx l y s).toNat<(oo f l y n s).length:=by rw[YH];have:=OE h;have:=Jh h;omega
def BV(l:List S)(y s e:Nat):Prop:=decide ((e:Int)<l.length)=!true\/∃t,l[(e:Int).toNat]?=some t/\(gd t y==jx l y s)=false
def PV(h:dX l k y n s e/\True)(g:BV l y s e):s<e/\∀t,l[e]?=some t->ex y t≠jx l y s:=by
 have j:=BG.one (dX.bg h);have d:=dX.le h;rcases g with g|⟨t,b,a⟩
 ·simp only[rA,bc]at g;refine⟨O,λt b=>?_⟩;rw[iM O]at b;cases b
 ·rw[bt]at b;have a:gd t y≠jx l y s:=an a;unfold gd at a;rw[AX j.1 j.2]at a;refine⟨?_,λu c=>by rw[b]at c;injection c with c;subst c;exact a⟩;rcases Nat.lt_or_eq_of_le d.2.1 with i|i
  ·exact i
  ·subst i;exact absurd (AH b).symm a
def OG(h:dX l k y n s e/\True)(r:BV l y s e):BG l k y n e:=by have o:=PV h r;have v:=BG.one (dX.bg h);have q:=dX.le h;have u:=LG.bp (BG.lg (dX.bg h));have m:=h.1;unfold dX at m;obtain⟨j,_,_,_,p⟩:=m;unfold BG at j⊢;obtain⟨a,b,c,d,w,g,i⟩:=j;exact⟨a,b,c,d,w,O,asY u v.1 i p O o.2 o.1⟩
def OH(h:dX l k y n s e/\True)(q:BV l y s e):(oo f l y n s).set (jx l y s).toNat (J.mk (cH f ((l.drop ((s:Int)).toNat).take (((e:Int)).toNat-((s:Int)).toNat)) ((y:Int)-1).toNat).aK (cH f ((l.drop ((s:Int)).toNat).take (((e:Int)).toNat-((s:Int)).toNat)) ((y:Int)-1).toNat).neg (cH f ((l.drop ((s:Int)).toNat).take (((e:Int)).toNat-((s:Int)).toNat)) ((y:Int)-1).toNat).aC (cH f ((l.drop ((s:Int)).toNat).take (((e:Int)).toNat-((s:Int)).toNat)) ((y:Int)-1).toNat).aL)=oo f l y n e:=by have u:=PV h q;have z:=BG.one (dX.bg h);have m:=dX.le h;have r:=Jh h;have w:=OE h;have o:=h.1;unfold dX at o;obtain⟨j,_,_,_,p⟩:=o;unfold BG at j;obtain⟨a,b,c,d,A,g,i⟩:=j;have v:((y:Int)-1).toNat=y-1:=O;rw[bz,v,bt,bt];exact aqX i p u.1 m.2.2 r O
def bG3(h:dX l k y n s e/\True):(e:Int)<=(l.length:Int):=by have:=dX.le h;omega
def bG4(h:dX l k y n s e/\True):(s:Int)<=(e:Int):=by have:=dX.le h;omega
def bH{hz:decide ((s:Int)<l.length)=false}(h:BG l k y n s/\True)(q:((l.length:Int)==0)=false):cH (f+1) l k=.mk (y:Int) false [] (oo f l y n s):=by have v:=K5 q;have z:Int.toNat 0=0:=rfl;simp only[bc]at hz;obtain⟨t,m⟩:∃t,l[Int.toNat 0]?=some t:=⟨l[Int.toNat 0]'v,ai⟩;obtain⟨r,p,e⟩:=UJ (f:=f) (BG.lg h) m;have j:l[0]?=some t:=m;have u:=BG.one h;have o:=h.1;unfold BG at o;obtain⟨a,b,c,d,w,g,i⟩:=o;rw[AH j]at c d w;rw[adh d u.1]at e;have I:s=l.length:=O;rw[I];unfold oo;rw[im,c];subst p;rw[yV,e,Z O,Z O]
def bH1(h:BG l k y n s/\True)(hz:decide ((s:Int)<l.length)=false)(a:((l.length:Int)==0)=false):(y:Int)=(cH (f+1) l k).aK:=by rw[bH (hz:=hz) h a];rfl
def bH2(h:BG l k y n s/\True)(hz:decide ((s:Int)<l.length)=false)(a:((l.length:Int)==0)=false):false=(cH (f+1) l k).neg:=by rw[bH (hz:=hz) h a];rfl
def bH3(h:BG l k y n s/\True)(hz:decide ((s:Int)<l.length)=false)(a:((l.length:Int)==0)=false):(cH (f+1) l k).aC=[]:=by rw[bH (hz:=hz) h a];rfl
def bH4(h:BG l k y n s/\True)(hz:decide ((s:Int)<l.length)=false)(a:((l.length:Int)==0)=false):oo f l y n s=(cH (f+1) l k).aL:=by rw[bH (hz:=hz) h a];rfl
def cl1(h:BG l k y n s/\True):n=(oo f l y n s).length:=(YH f l y n s).symm
end
def FL(n:Nat):(n:Int)+1=((n+1:Nat):Int):=O
def Ry{l:List S}{k y n s e s':Nat}(h:dX l k y n s e/\True)(a:BV l y s e)(b:s=s'):l.length-e<l.length-s':=by have:=PV h a;have:=dX.le h;omega
def z3{b:Nat}:(0:Int)=(((i,b,0):Nat×Nat×Nat).2.2:Int):=rfl
def PW{l:List S}{y s e:Nat}(h:decide ((e:Int)<l.length)=!true):BV l y s e:=.inl h
def C7{l:List S}{y s e:Nat}{t:S}(a:l[(e:Int).toNat]?=some t)(b:(gd t y==jx l y s)=false):BV l y s e:=.inr ⟨t,a,b⟩
def aCy{x:Nat}(a:decide (0<(x:Int))=false)(b:((x:Int)==0)=false):False:=by simp only[bc]at a;have:(x:Int)≠0:=an b;omega
def aCz{x:Nat}(a:decide (0<(x:Int))=true)(b:((x:Int)==0)=true):False:=by simp only[be]at a;have:(x:Int)=0:=an b;omega
def apx(f:Nat)(C:∀(l:List S)(k:Nat),BP l k->l.length+k<=f->bh 127 [wL .bn l,wI .i64 (k:Int)] (eT .aF (cH f l k)))
 (u:∀(l:List S)(k:Int),yO f l k->bh 127 [wL .bn l,wI .i64 k] (eT .aF (cH f l k.toNat)))
 (l:List S)(k:Nat)(E:BP l k)(D:l.length+k<=f+1):bh 127 [wL .bn l,wI .i64 (k:Int)] (eT .aF (cH (f+1) l k)):=by
 refine vF func127 rfl [uq Vw 127 (.ls W.bn) (.int .i64) (λl k=>yO f l k) (λl k=>eT .aF (cH f l k.toNat)) u] [(3,⟨Nat,λx=>⟨[(0,lT .bn l),(1,iT x),(4,br 0)],[(0,cj .aF zP)],1⟩,λx=>LG l k x/\True,λx=>x⟩),(11,⟨Nat×Nat×Nat,λx=>⟨[(0,lT .bn l),(1,iT x.1),(4,br 0),(5,.e (.c (.aX 1 (U:=Un) W.aF x.2.1))),(6,iT x.2.2)],[(0,cj .aF zP),(1,.aW (U:=Un) W.aF (oo f l x.1 x.2.1 x.2.2))],2⟩,λx=>BG l k x.1 x.2.1 x.2.2/\True,λx=>l.length-x.2.2⟩),(1000014,⟨Nat×Nat×Nat×Nat,λx=>⟨[(0,lT .bn l),(1,iT x.1),(4,br 0),(5,.e (.c (.aX 1 (U:=Un) W.aF x.2.1))),(6,iT x.2.2.1),(7,iT (jx l x.1 x.2.2.1)),(8,iT x.2.2.2)],[(0,cj .aF zP),(1,.aW (U:=Un) W.aF (oo f l x.1 x.2.1 x.2.2.1))],2⟩,λx=>dX l k x.1 x.2.1 x.2.2.1 x.2.2.2/\True,λx=>l.length-x.2.2.2⟩)] ?_;repeat' first|intro _|apply aQ
 case right=>
  rename_i hlen w;repeat' (first
   |rename_i a b;exact(aCy a b).elim
   |rename_i a _ _ _ b;exact(aCz a b).elim
   |intro _|apply aQ
   |refine aS k (aQ ?_ λ(x:Nat)(j:LG l k x/\True)=>?_)
   |refine aS (x,(jx l x 0+1).toNat,0) (aQ ?_ λ(y:Nat×Nat×Nat)(r:BG l k y.1 y.2.1 y.2.2/\True)=>?_)
   |refine aS (λv=>v.1=y.1/\v.2.2.1=y.2.2) (aS (y.1,y.2.1,y.2.2,y.2.2) (aQ ?_ λ(v:Nat×Nat×Nat×Nat)(o:dX l k v.1 v.2.1 v.2.2.1 v.2.2.2/\True)(A:v.1=y.1/\v.2.2.1=y.2.2)=>?_))
   |refine aS (v.1,v.2.1,v.2.2.1,v.2.2.2+1) ?_
   |refine aS (v.1,v.2.1,v.2.2.2) ?_
   |refine aS (x-1) ?_)
  all_goals clear C u
  all_goals first|exact bj| (with_reducible first|rfl|exact z3|exact alw E|exact K5 w|exact azv w|exact Int.natCast_nonneg _|exact FL _|exact cl1 r|exact XH r|exact XI r|exact XJ r|exact XK r|exact XH (dX.bg o)|exact XI (dX.bg o)|exact XJ (dX.bg o)|exact XK (dX.bg o)|exact bF1 o|exact bF2 o|exact bF4 o D|exact Jh o|exact OE o|exact bF7 o|exact bG3 o|exact bG4 o|exact A.1|exact A.2|exact azs j|exact azt j|exact azu j|exact aGR j D w)|rename_i m;with_reducible exact Dt j m|rename_i m _ _;with_reducible exact Dt j m|rename_i m _ _ _ _;with_reducible exact Dt j m|rename_i m _ _ _ _ _ _;with_reducible exact Dt j m|rename_i m _ _ _ _ _ _ _;with_reducible exact Dt j m|rename_i m _ _ _ _ _ _ _ _ _;with_reducible exact Dt j m|(rename_i m B g s;with_reducible first|exact aly j m g s|exact alx j m)|(rename_i q t i;with_reducible first|exact bB1 j q i|exact bB2 j q i|exact bB3 j q i|exact bB4 j q i)|(rename_i m B g n q t i d;with_reducible first|exact bC1 j m g n i d|exact bC2 j m g n i d|exact bC3 j m g n i d|exact bC4 j m g n i d)|(rename_i m B g n q t i d G p;with_reducible first|exact bD1 j m g n i d p|exact bD2 j m g n i d p|exact bD3 j m g n i d p|exact bD4 j m g n i d p|exact bD5 j m g n i d p|exact XG j m g n i d p|exact bD7 j m g n i d p|exact bD8 j m g n i d p)|(rename_i I;with_reducible first|exact bE5 I|exact bH1 r I w|exact bH2 r I w|exact bH3 r I w|exact bH4 r I w)|(rename_i I t i;with_reducible first|exact bE6 r i|exact bE7 r I)|(rename_i z t i s;first|with_reducible exact bF3 o z i s|with_reducible exact OG o (C7 i s)|with_reducible exact OH o (C7 i s)|exact Ry o (C7 i s) A.2)|(rename_i z t i s _ _;first|with_reducible exact OG o (C7 i s)|with_reducible exact OH o (C7 i s)|exact Ry o (C7 i s) A.2)|(rename_i z _ _;first|with_reducible exact OG o (PW z)|with_reducible exact OH o (PW z)|exact Ry o (PW z) A.2)|decide|show x-1<x;simp only[be,bc]at*;omega|show l.length-(v.2.2.2+1)<l.length-v.2.2.2;simp only[be,bc]at*;omega
 all_goals clear C u
 all_goals first|exact bj|(rename_i h;with_reducible first|exact bA1 h|exact bA2 h|exact bA3 h|exact bA4 h)
def aGS(a:∀(l:List S)(k:Nat),BP l k->l.length+k<=f->bh 127 [wL .bn l,wI .i64 (k:Int)] (eT .aF (cH f l k)))(l:List S)(k:Int)(h:yO f l k):bh 127 [wL .bn l,wI .i64 k] (eT .aF (cH f l k.toNat)):=by unfold yO at h;have e:k=((k.toNat:Nat):Int):=O;have:=a l k.toNat h.2.1 h.2.2;rw[<-e]at this;exact this
def apw(k:Int):bh 127 [wL .bn ([]:List S),wI .i64 k] (eT .aF zP):=by
 refine vF func127 rfl [] [] ?_;repeat' (first|rename_i h;exact absurd h ae|intro _|apply aQ)
 all_goals first|exact bj|rfl
theorem OR:∀(f:Nat)(l:List S)(k:Nat),BP l k->l.length+k<=f->bh 127 [wL .bn l,wI .i64 (k:Int)] (eT .aF (cH f l k))
 |0,l,k,_,a=>by have:l=[]:=fR O;subst this;rw[cH];exact apw k
 |f+1,l,k,b,a=>apx f (OR f) (aGS (OR f)) l k b a
@[irreducible] def BL(l:List S)(k:Int):=k=4/\BP l 4
def apv(l:List S)(k:Int)(h:BL l k):bh 127 [wL .bn l,wI .i64 k] (eT .aF (cH (l.length+4) l 4)):=by unfold BL at h;obtain⟨rfl,h⟩:=h;exact OR (l.length+4) l 4 h (bK _)
def Y_:=eI (.ls W.bn) (.int .i64) apv
theorem aIa(d:ay)(b:List J):∀a,j7 d (a++b)=j7 d a+j7 d b
 |[]=>by rw[gf,j7];grind
 |c::a=>by rw[eB,j7,j7,aIa d b a];grind
def jm(g:Nat->Rat):Nat->Rat
 |0=>0
 |n+1=>jm g n+g n
theorem Ub(g h:Nat->Rat):∀n,jm (λi=>g i+h i) n=jm g n+jm h n
 |0=>by simp only[jm];grind
 |n+1=>by simp only[jm,Ub g h n];grind
theorem ail(g:Nat->Rat)(y:Rat):∀n,jm (λi=>y*g i) n=y*jm g n
 |0=>by simp only[jm];grind
 |n+1=>by simp only[jm,ail g y n];grind
theorem By{g h:Nat->Rat}:∀n,(∀i,i<n->g i=h i)->jm g n=jm h n
 |0,_=>rfl
 |n+1,e=>by simp only[jm,By n (λi a=>e i O),e n O]
theorem J3(a:ay)(x:Rat)(g:Nat->J):∀n,dy a x ((List.range n).map g)=jm (λi=>pw x i*ev a (g i)) n
 |0=>by rw[IE,gW,dy,jm]
 |n+1=>by rw[P0,jm,J3 a x g n]
theorem afP(x:Rat)(m:Nat):∀n,pw x (m+n)=pw x m*pw x n
 |0=>by rw[uc,pw];grind
 |n+1=>by rw[<-xd,pw,pw,afP x m n];grind
def auZ(a:ay)(x:Rat)(cs:List J):dy a x cs=jm (λi=>pw x i*((cs[i]?).map (ev a)).getD 0) cs.length:=by
 rw[aaH a x cs cs.length (bK _),J3];refine By _ λi b=>?_
 rw[cN b];rfl
def Ly{L:Nat}{n:Bool}{b:ao}(h:1<=k):cP (.mk (k:Int) n b a)=false:=by unfold cP;simp[J.aK];omega
def acp(h:n≠0):cP (kP n)=false:=by rw[xG];simpa using h
mutual
def lh (n:Int):J->J
 |.mk l s a b=>if cP (.mk l s a b)||decide (n=0)then zP else if l=0 then kP (cV (.mk l s a b)*n)else .mk l false [] (GS n b)
def GS (n:Int):List J->List J
 |[]=>[]
 |c::r=>lh n c::GS n r
end
theorem adJ(n:Int):∀l,GS n l=l.map (lh n)
 |[]=>by rw[GS];rfl
 |c::r=>by rw[GS,adJ n r];rfl
def GQ(n:Int)(p:J):lh n p=if cP p||decide (n=0)then zP else if p.aK=0 then kP (cV p*n)else .mk p.aK false [] (p.aL.map (lh n)):=by cases p;rw[lh,adJ];rfl
def ca(p q:J):J:=if q.aK=0 then lh (cV q) p else lh (cV p) q
def GR(n m:Int):lh n (kP m)=kP (m*n):=by
 rw[GQ,xG,yY,aM (show(kP m).aK=0 from rfl)];split
 ·rename_i h;have:m*n=0:=by rcases(by simpa using h:m=0\/n=0)with h|h<;>simp[h]
  rw[this,pC]
 ·rfl
def zn(p:J)(n:Int):ca p (kP n)=lh n p:=by unfold ca;rw[aM (show(kP n).aK=0 from rfl),yY]
def adK(h:bQ 4 p)(n:Int):ca (kP n) p=lh n p:=by
 unfold ca;split
 ·rename_i a;have e:=h.sX a;rw[GR];generalize cV p=m at*;rw[e,GR,iy]
 ·rw[yY]
def Rz{L:Nat}(h:bQ L p)(n:Int):L<=4->bQ L (lh n p)/\(∀a,ev a (lh n p)=ev a p*n)/\(cP p=false->n≠0->cP (lh n p)=false):=by
 induction h with
 |const m=>intro _;rw[GR];refine⟨.const _,λa=>by rw[jw,jw,Rat.intCast_mul],λb o=>acp ?_⟩;rw[xG]at b;exact Int.mul_ne_zero (cQ b) o
 | @node L g j b o v z w x=>
   intro A;have y:¬(J.mk (g:Int) false [] j).aK=0:=λe=>by have e:(g:Int)=0:=e;omega
   rw[GQ,Ly (L:=0) b,z6,Z y];by_cases k:n=0
   ·rw[aM (an k),k];exact⟨.zero _,λa=>by rw[jW];have:((0:Int):Rat)=0:=rfl;rw[this];grind,λ_ h=>absurd rfl h⟩
   ·rw[Z (an k)];have q:=λc f=>x c f O
    refine⟨.node g _ b o (by rw[eh];exact v) (λc f=>?_) (λc f=>?_),λa=>?_,λ_ _=>Ly (L:=0) b⟩
    ·obtain⟨d,i,rfl⟩:=b_.1 f;exact(q d i).1
    ·rw[show(J.mk (g:Int) false [] j).aL=j from rfl,List.getLast?_map,gN]at f;obtain⟨d,i,rfl⟩:=f;exact(q d (NO i)).2.2 (w d i) k
    ·show ev a (.mk (g:Int) false [] (j.map (lh n)))=_;rw[ph _ _ b O,ph _ _ b O];have s:∀l:List J,(∀c∈l,ev a (lh n c)=ev a c*n)->dy a (a g) (l.map (lh n))=dy a (a g) l*n:=by
      intro l
      induction l with
      |nil=>intro _;rw[gW,dy];grind
      |cons c r t=>intro u;rw[de,dy,dy,u c (b6 ..),t λd i=>u d (cv _ i)];grind
     exact s j λc f=>(q c f).2.1 a
mutual
def fh:J->Nat
 |.mk l n a b=>if l<=0 then(iV ⟨n,a⟩).natAbs else if 4<l then 0 else ee b
def ee:List J->Nat
 |[]=>0
 |c::r=>fh c+ee r
end
def uL(n:Int):fh (kP n)=n.natAbs:=by unfold kP;rw[fh,aM ae];congr 1;exact fU n
def sf:fh zP=0:=by rw[<-pC,uL];rfl
def tA(cs:List J)(b:1<=k)(c:k<=4)(n:Bool)(a:ao):fh (.mk k n a cs)=ee cs:=by rw[fh,Z O,Z O]
theorem aee(b:List J):∀a,ee (a++b)=ee a+ee b
 |[]=>by rw[gf,ee];omega
 |c::a=>by rw[eB,ee,ee,aee b a];omega
theorem Dy{c:J}:∀{l:List J},c∈l->fh c<=ee l
 |d::r,h=>by
  rw[ee];rcases da.1 h with rfl|h
  ·omega
  ·have:=Dy h;omega
def aCk{b:List J}(h:List.Sublist a b):ee a<=ee b:=by
 induction h with
 |slnil=>exact bK _
 |cons x _ c=>rw[ee];omega
 |cons_cons x _ c=>rw[ee,ee];omega
def sN(g:Nat->Nat):Nat->Nat
 |0=>0
 |n+1=>sN g n+g n
theorem Mk{g h:Nat->Nat}:∀n,(∀i,i<n->g i<=h i)->sN g n<=sN h n
 |0,_=>bK _
 |n+1,a=>by rw[sN,sN];have:=Mk n λi b=>a i O;have:=a n O;omega
theorem Mj{g h:Nat->Nat}:∀n,(∀i,i<n->g i=h i)->sN g n=sN h n
 |0,_=>rfl
 |n+1,a=>by rw[sN,sN,Mj n λi b=>a i O,a n O]
theorem Ts(g h:Nat->Nat):∀n,sN (λi=>g i+h i) n=sN g n+sN h n
 |0=>rfl
 |n+1=>by rw[sN,sN,sN,Ts g h n];omega
theorem Ml:∀n,sN (λ_=>0) n=0
 |0=>rfl
 |n+1=>by rw[sN,Ml n]
theorem Tt(g:Nat->Nat):∀n,sN g (n+1)=g 0+sN (λi=>g (i+1)) n
 |0=>by rw[sN,sN,sN];omega
 |n+1=>by rw[sN,Tt g n,sN];omega
theorem ag4{B:Nat->Nat}{m:Nat}(h:∀j,m<=j->B j=0):∀n,sN B n<=sN B m
 |0=>dz _
 |n+1=>by
  rw[sN];by_cases b:m<=n
  ·rw[h n b];exact ag4 h n
  ·have:∀k,n+1<=k->sN B (n+1)<=sN B k:=by
    intro k c
    induction k with
    |zero=>omega
    |succ k a=>
     by_cases e:n+1=k+1
     ·rw[e];exact bK _
     ·have:=a O;rw[sN]at this⊢;rw[sN];omega
   have:=this m O;rw[sN]at this;exact this
theorem aef:∀(a:List J),ee a=sN (λi=>((a[i]?).map fh).getD 0) a.length
 |[]=>rfl
 |c::r=>by rw[ee,aef r,fZ,Tt];rfl
theorem RQ(f:Nat->J):∀n,ee ((List.range n).map f)=sN (λi=>fh (f i)) n
 |0=>rfl
 |n+1=>by rw[sP,ia,aee,RQ f n,sN];simp[ee]
inductive Fr(v:Int):J->Prop where
 |mk (l:Int) (n:Bool) (a:ao) (cs:List J) (h:l≠v) (h2:∀c∈cs,Fr v c):Fr v (.mk l n a cs)
def Fr.lv{v:Int}(h:Fr v p):p.aK≠v:=by cases h;assumption
def Fr.bu(h:Fr B p):∀c∈p.aL,Fr B c:=by cases h;assumption
def Fr.const{v:Int}(a:v≠0)(n:Int):Fr v (kP n):=.mk _ _ _ _ (λh=>a h.symm) λ_ h=>by cases h
def Fr.zero(a:B≠0):Fr B zP:=by rw[<-pC];exact .const a 0
inductive DL(d:Nat):J->Prop where
 |mk (l:Int) (n:Bool) (a:ao) (cs:List J) (h:cs.length<=d+1) (h2:∀c∈cs,DL d c):DL d (.mk l n a cs)
def DL.len(h:DL k p):p.aL.length<=k+1:=by cases h;assumption
def DL.bu(h:DL k p):∀c∈p.aL,DL k c:=by cases h;assumption
def DL.const(d:Nat)(n:Int):DL d (kP n):=.mk _ _ _ _ (dz _) λ_ h=>by cases h
def DL.zero(d:Nat):DL d zP:=.mk _ _ _ _ (dz _) λ_ h=>by cases h
def DL.up(b:k<=x)(h:DL k p):DL x p:=by
 induction h with
 |mk l n a c h g f=>exact .mk l n a c O f
def aIW(a:1<=k)(b:k<=4)(cs:List J):fh (mO k cs)<=ee cs:=by
 unfold mO;split
 ·rw[sf];omega
 ·split
  ·cases cs with
   |nil=>rw[List.headD_nil,sf];omega
   |cons c r=>rw[List.headD_cons,ee];omega
  ·rw[tA _ a b];exact aCk (List.take_sublist _ _)
def aIV(b:B≠0)(d:n≠B)(h:∀c∈a,Fr B c):Fr B (mO n a):=by
 unfold mO;split
 ·exact .zero b
 ·split
  ·cases a with
   |nil=>exact .zero b
   |cons c r=>exact h c (b6 ..)
  ·exact .mk _ _ _ _ d λc e=>h c (nE e)
def aIT(e:a.length<=k+1)(h:∀c∈a,DL k c):DL k (mO B a):=by
 unfold mO;split
 ·exact .zero k
 ·split
  ·cases a with
   |nil=>exact .zero k
   |cons c r=>exact h c (b6 ..)
  ·exact .mk _ _ _ _ (by rw[gw];omega) λc b=>h c (nE b)
theorem afd{a:Nat}(g:1<=a)(f:a<=4)(n:Nat):∀{l:List J},(∀p∈l,bQ 4 p)->sN (λi=>ee (l.filterMap (dU a i))) n<=ee l
 |[],_=>by rw[ee];show sN (λ_=>0) n<=0;rw[Ml];omega
 |p::r,h=>by
  have v:=afd g f n (l:=r) λq b=>h q (cv _ b)
  have e:∀i,ee ((p::r).filterMap (dU a i))=((dU a i p).map fh).getD 0+ee (r.filterMap (dU a i)):=λi=>by
   cases b:dU a i p with
   |none=>rw[Wt b];simp
   |some q=>rw[Wu b,ee];simp
  rw[Mj n λi _=>e i,Ts,ee];have w:sN (λi=>((dU a i p).map fh).getD 0) n<=fh p:=by
   by_cases e:p.aK=a
   ·have c:=h p (b6 ..);obtain⟨m,u,t,y,s,x⟩:=c.Cq O;have:fh p=ee p.aL:=by rw[s,tA _ u t];rfl
    rw[this,aef];have k:∀i,((dU a i p).map fh).getD 0=((p.aL[i]?).map fh).getD 0:=λi=>by unfold dU;rw[aM e]
    rw[Mj n λi _=>k i];exact ag4 (λj d=>by rw[iM d];rfl) n
   ·cases n with
    |zero=>exact dz _
    |succ n=>
     rw[Tt];have o:sN (λi=>((dU a (i+1) p).map fh).getD 0) n=0:=by refine(Mj n λi _=>?_).trans (Ml n);unfold dU;rw[Z e,Z O];rfl
     rw[o];unfold dU;rw[Z e];split
     ·simp
     ·simp
  omega
def amV:∀(f:Nat)(l:List J),(∀p∈l,bQ 4 p)->c_ l<=f->
 fh (lH f l)<=ee l/\(∀v:Int,v≠0->(∀p∈l,Fr v p)->Fr v (lH f l))/\(∀d,(∀p∈l,DL d p)->DL d (lH f l)):=by
 have g:∀l:List J,(∀p∈l,bQ 4 p)->(∀p∈l,p.aK=0)->(tH l).natAbs<=ee l:=by
  intro l
  induction l with
  |nil=>intro _ _;rw[tH,ee];decide
  |cons p r t=>
   intro h m;have:=t (λq j=>h q (cv _ j)) λq j=>m q (cv _ j)
   have e:=(h p (b6 ..)).sX (m p (b6 ..));have H:fh p=(cV p).natAbs:=by have:=bi fh e;rw[uL]at this;exact this
   rw[tH,ee,H];omega
 intro f
 induction f with
 |zero=>
  intro l h G;have m:∀p∈l,p.aK=0:=λp b=>by have:=zp b;have:=(h p b).lv;omega
  rw[lH];exact⟨by rw[uL];exact g l h m,λv s _=>.const s _,λd _=>.const d _⟩
 |succ f y=>
  intro l h G;rw[lH];by_cases m:c_ l=0
  ·rw[aM m];have w:∀p∈l,p.aK=0:=λp b=>by have:=zp b;have:=(h p b).lv;omega
   exact⟨by rw[uL];exact g l h w,λv s _=>.const s _,λd _=>.const d _⟩
  ·rw[Z m];have L:=ql l;obtain⟨lv,z⟩:∃lv:Nat,c_ l=lv:=⟨(c_ l).toNat,O⟩;obtain⟨A,u,K⟩:=Dw m;have D:=(h A u).lv;have w:1<=lv:=O;have C:lv<=4:=O;rw[z]at K⊢;have k:=λi=>G9 (lv:=lv) h w i
   have t:∀i,_:=λi=>y (l.filterMap (dU lv i)) (λc g=>(k i c g).mono O) (by
    have E:c_ (l.filterMap (dU lv i))<=((lv-1:Nat):Int):=A7 O λc g=>(k i c g).lv.2
    omega)
   refine⟨?_,λv s n=>?_,λd o=>?_⟩
   ·refine dH (aIW w C _) ?_;rw[RQ];exact dH (Mk _ λi _=>(t i).1) (afd w C _ h)
   ·refine aIV s (by have:=(n A u).lv;omega) λc g=>?_
    obtain⟨i,_,rfl⟩:=b_.1 g;refine(t i).2.1 v s λq j=>?_
    obtain⟨p,b,a⟩:=IC.1 j;unfold dU at a;split at a
    ·exact(n p b).bu _ (bM a)
    ·split at a
     ·injection a with a;subst a;exact n p b
     ·cases a
   ·refine aIT ?_ λc g=>?_
    ·rw[eh,oY];have:∀l:List J,(∀p∈l,DL d p)->jo lv l<=d+1:=by
      intro l
      induction l with
      |nil=>intro _;rw[jo];omega
      |cons p r x=>
       intro B;rw[jo];have N:=(B p (b6 ..)).len;have M:=x λq j=>B q (cv _ j)
       split<;>omega
     exact this l o
    ·obtain⟨i,_,rfl⟩:=b_.1 g;refine(t i).2.2 d λq j=>?_
     obtain⟨p,b,a⟩:=IC.1 j;unfold dU at a;split at a
     ·exact(o p b).bu _ (bM a)
     ·split at a
      ·injection a with a;subst a;exact o p b
      ·cases a
def anh(h:∀p∈a,bQ 4 p):fh (lX a)<=ee a/\(∀v:Int,v≠0->(∀p∈a,Fr v p)->Fr v (lX a))/\(∀d,(∀p∈a,DL d p)->DL d (lX a)):=
 amV _ a h (by have:=ql a;omega)
def RD{L:Nat}(h:bQ L p)(n:Int):L<=4->fh (lh n p)<=fh p*n.natAbs/\(∀v:Int,v≠0->Fr v p->Fr v (lh n p))/\∀d,DL d p->DL d (lh n p):=by
 induction h with
 |const m=>intro _;rw[GR,uL,uL,Int.natAbs_mul];exact⟨bK _,λv i _=>.const i _,λd _=>.const d _⟩
 | @node L j k o A B C D y=>
   intro E;have z:¬(J.mk (j:Int) false [] k).aK=0:=λe=>by have e:(j:Int)=0:=e;omega
   rw[GQ,Ly (L:=0) o,z6,Z z];split
   ·rw[sf];exact⟨dz _,λv i _=>.zero i,λd _=>.zero d⟩
   ·have q:=λc f=>y c f O
    refine⟨?_,λv i u=>.mk _ _ _ _ u.lv λc f=>?_,λd g=>.mk _ _ _ _ (by have:=g.len;simpa using this) λc f=>?_⟩
    ·show fh (.mk (j:Int) false [] (k.map (lh n)))<=_;rw[tA _ o O,tA _ o O];have s:∀l:List J,(∀c∈l,fh (lh n c)<=fh c*n.natAbs)->ee (l.map (lh n))<=ee l*n.natAbs:=by
      intro l
      induction l with
      |nil=>intro _;rw[gW,ee];omega
      |cons c r t=>
       intro w;have a:=w c (b6 ..);have b:=t λd g=>w d (cv _ g)
       rw[de,ee,ee,iN];omega
     exact s k λc f=>(q c f).1
    ·obtain⟨d,g,rfl⟩:=b_.1 f;exact(q d g).2.1 v i (u.bu d g)
    ·obtain⟨e,x,rfl⟩:=b_.1 f;exact(q e x).2.2 d (g.bu e x)
def mV(a:ay):Nat->bf->Rat
 |0,_=>1
 |k+1,q=>mV a k q*pw (a (k+1:Nat)) (cg q (k+1:Nat)).toNat
def tV(a:ay)(k:Nat)(t:S):Rat:=((iV t.cw:Int):Rat)*mV a k t.mono
def dC(a:ay)(k:Nat):List S->Rat
 |[]=>0
 |t::r=>tV a k t+dC a k r
def dL:List S->Nat
 |[]=>0
 |t::r=>(iV t.cw).natAbs+dL r
theorem J1(c:ay)(k:Nat)(b:List S):∀a,dC c k (a++b)=dC c k a+dC c k b
 |[]=>by rw[gf,dC];grind
 |t::a=>by rw[eB,dC,dC,J1 c k b a];grind
theorem GZ(b:List S):∀a,dL (a++b)=dL a+dL b
 |[]=>by rw[gf,dL];omega
 |t::a=>by rw[eB,dL,dL,GZ b a];omega
def auU(d:ay)(k:Nat)(h:l.Perm b):dC d k l=dC d k b:=by
 induction h with
 |nil=>rfl
 |cons x _ e=>rw[dC,dC,e]
 |swap x y c=>rw[dC,dC,dC,dC];grind
 |trans _ _ f g=>rw[f,g]
def aCq(h:l.Perm b):dL l=dL b:=by
 induction h with
 |nil=>rfl
 |cons x _ d=>rw[dL,dL,d]
 |swap x y c=>rw[dL,dL,dL,dL];omega
 |trans _ _ e f=>rw[e,f]
def azw(a:ay)(c:1<=B)(d:B<=4)(f:0<=cg q B)(i:Nat):mV a 4 (eP q B (cg q B+i))=mV a 4 q*pw (a B) i:=by
 have e:(cg q B+(i:Int)).toNat=(cg q B).toNat+i:=O;simp only[mV];have b:B=1\/B=2\/B=3\/B=4:=O;rcases b with rfl|rfl|rfl|rfl
 all_goals
  simp only[cg,eP]at e⊢;simp at e⊢;rw[e,afP];grind
mutual
theorem YT (a:ay):∀(p:J)(q:bf)(B:Int),MB B q->dC a 4 (cJ p q)=mV a 4 q*ev a p
 |.mk lv e n m,q,B,h=>by
  have f:=λd b=>YU a lv d b m q B 0 h
  rw[cJ,ev]
  split
  ·rw[dC,dC];show((iV ⟨e,n⟩:Int):Rat)*mV a 4 q+0=_;grind
  ·split
   ·rw[dC];grind
   ·rw[f O O,pw];grind
theorem YU (a:ay) (lv:Int) (d:1<=lv) (b:lv<=4):∀(l:List J)(q:bf)(B:Int)(i:Nat),MB B q->dC a 4 (gF lv l q (cg q lv) i)=mV a 4 q*(pw (a lv) i*dy a (a lv) l)
 |[],q,B,i,h=>by rw[gF,dy,dC];grind
 |c::r,q,B,i,h=>by
  have g:0<=cg q lv:=by
   unfold MB at h;unfold cg
   split
   ·omega
   ·split
    ·omega
    ·split<;>omega
  have k:=YT a c (eP q lv (cg q lv+i)) (B+i) h.set
  have j:=YU a lv d b r q B (i+1) h
  rw[gF,J1,k,j,dy,azw a d b g,pw]
  grind
end
mutual
theorem YW:∀(p:J)(q:bf),dL (cJ p q)=fh p
 |.mk a g h f,q=>by
  have e:=λd b=>YX a d b f q (cg q a) 0
  rw[cJ,fh]
  split
  ·simp only[dL,S.cw];omega
  ·split
   ·rw[dL]
   ·exact e O O
theorem YX (a:Int) (d:1<=a) (b:a<=4):∀(l:List J)(q:bf)(s:Int)(i:Nat),dL (gF a l q s i)=ee l
 |[],q,s,i=>by rw[gF,ee,dL]
 |c::r,q,s,i=>by rw[gF,GZ,YW c _,YX a d b r q s (i+1),ee]
end
theorem aaE(b:ay)(k:Nat):∀{l:List S}{i:Nat}{t u:S},l[i]?=some t->dC b k (l.set i u)=dC b k l+tV b k u-tV b k t
 |[],i,t,u,h=>by simp at h
 |a::r,0,t,u,h=>by simp only[kg,cS]at h;subst h;rw[xc,dC,dC];grind
 |a::r,i+1,t,u,h=>by rw[IF,dC,dC,aaE b k (l:=r) (i:=i) (an h)];grind
theorem aeh:∀{l:List S}{i:Nat}{t u:S},l[i]?=some t->dL (l.set i u)+(iV t.cw).natAbs=dL l+(iV u.cw).natAbs
 |[],i,t,u,h=>by simp at h
 |a::r,0,t,u,h=>by simp only[kg,cS]at h;subst h;rw[xc,dL,dL];omega
 |a::r,i+1,t,u,h=>by have:=aeh (l:=r) (i:=i) (t:=t) (u:=u) (an h);rw[IF,dL,dL];omega
theorem Gs{q:bf}:∀{l:List S}{i:Nat},ma q l=some i->∃t,l[i]?=some t/\t.mono=q
 |[],i,h=>by simp[ma]at h
 |t::r,i,h=>by
  rw[ma]at h;split at h
  ·rename_i e;injection h with h;subst h
   exact⟨t,rfl,by have:=D0.1 e;first|exact this|exact this.symm⟩
  ·rw[gN]at h;obtain⟨j,b,rfl⟩:=h;obtain⟨u,a,c⟩:=Gs b;exact⟨u,by simpa using a,c⟩
theorem aca{q:bf}:∀{l:List S},ma q l=none->∀t∈l,t.mono≠q
 |[],_,t,a=>by simp at a
 |u::r,h,t,a=>by
  rw[ma]at h;split at h
  ·cases h
  ·rename_i e;rw[Option.map_eq_none_iff]at h;rcases da.1 a with rfl|a
   ·intro b;have:qw q t.mono=true:=by first|exact D0.2 b|exact D0.2 b.symm
    rw[this]at e;cases e
   ·exact aca h t a
structure GT(l:List S):Prop where
 co:∀t∈l,∃z,t.cw=iD z
 nd:l.Pairwise λs t=>s.mono≠t.mono
def zm(c:aY)(q:bf):(xK c q).cw=c:=rfl
def A6(c:aY)(q:bf):(xK c q).mono=q:=rfl
def GT.dg(h:GT l):∀t∈l,Dg t.cw.aC:=λt a=>by obtain⟨z,b⟩:=h.co t a;rw[b];exact iv z
def awL(h:GT l)(n:Dg c.aC):GT (gZ l q c)/\dL (gZ l q c)<=dL l+(iV c).natAbs/\∀(f:ay)(k:Nat),je q=false->dC f k (gZ l q c)=dC f k l+((iV c:Int):Rat)*mV f k q:=by
 by_cases g:je q=true
 ·rw[Gn g];exact⟨h,O,λf k j=>by rw[g]at j;cases j⟩
 ·have g:je q=false:=by simpa using g
  cases o:ma q l with
  |none=>
   have p:=aca o;rw[De g o];refine⟨⟨λt d=>?_,?_⟩,?_,λf k _=>?_⟩
   ·rcases cq.1 d with d|d
    ·exact h.co t d
    ·rw[cL.1 d];exact⟨iV c,wi n⟩
   ·rw[List.pairwise_append];refine⟨h.nd,ai,λs I t d=>?_⟩;rw[cL.1 d];exact p s I
   ·rw[GZ,dL,dL,zm,wi n,fU];omega
   ·rw[J1,dC,dC,tV,zm,A6,wi n,fU];grind
  |some i=>
   obtain⟨t,d,x⟩:=Gs o;have y:=h.dg t (bM d);have e:=Cm y n;rw[Km g o d];refine⟨⟨λu r=>?_,?_⟩,?_,λf k _=>?_⟩
   ·rcases EO r with r|rfl
    ·exact h.co u r
    ·exact⟨_,e⟩
   ·rw[ES];intro a b z A v;have B:i<l.length:=(du.1 d).1;have w:l[i]=t:=(du.1 d).2;have m:=ES.1 h.nd a b (an z) (an A) v;rw[List.getElem_set,List.getElem_set];split
    ·rename_i C;subst C;split
     ·omega
     ·rw[A6];rw[w]at m;exact m
    ·split
     ·rename_i D;subst D;rw[A6];rw[w]at m;exact m
     ·exact m
   ·have:=aeh d (u:=xK (eX t.cw c) t.mono);rw[zm,e,fU]at this;rw[e];omega
   ·rw[aaE f k d,tV,tV,zm,A6,e,fU,x,N1];grind
theorem Kl{p:List S}(g:∀t∈p,Dg t.cw.aC)(e:∀t∈p,je t.mono=false):∀i,i<=p.length->GT (gS p i)/\dL (gS p i)<=dL (p.take i)/\∀(b:ay)(k:Nat),dC b k (gS p i)=dC b k (p.take i)
 |0,_=>by rw[xD,gx];exact⟨⟨λt a=>by simp at a,List.Pairwise.nil⟩,bK _,λ_ _=>rfl⟩
 |i+1,n=>by
  obtain⟨j,o,h⟩:=Kl g e i O;obtain⟨t,a⟩:∃t,p[(i:Int).toNat]?=some t:=by rw[bt];exact⟨p[i]' O,ai⟩
  have f:t∈p:=bM a;have d:=awL (q:=t.mono) (c:=t.cw) j (g t f);have l:p.take (i+1)=p.take i++[t]:=by rw[bt]at a;rw[fy,a];rfl
  have m:gS p (i+1)=gZ (gS p i) t.mono t.cw:=(uz a).symm;rw[m,l];refine⟨d.1,?_,λb k=>?_⟩
  ·rw[GZ,dL,dL];have:=d.2.1;omega
  ·rw[d.2.2 b k (e t f),h,J1,dC,dC,tV];grind
theorem aaC(a:ay)(k:Nat)(f:S->Bool):∀{l:List S},(∀t∈l,f t=false->iV t.cw=0)->dC a k (l.filter f)=dC a k l
 |[],_=>rfl
 |t::r,h=>by
  have c:=aaC a k f (l:=r) λu d=>h u (cv _ d)
  cases b:f t with
  |true=>rw[yy b,dC,dC,c]
  |false=>rw[Ah (by simp[b]),dC,c,tV,h t (b6 ..) b];show _=((0:Int):Rat)*_+_;simp;try grind
def aCr(h:List.Sublist l b):dL l<=dL b:=by
 induction h with
 |slnil=>exact bK _
 |cons x _ c=>rw[dL];omega
 |cons_cons x _ c=>rw[dL,dL];omega
structure CT(l:List S):Prop where
 co:∀t∈l,∃z,z≠0/\t.cw=iD z
 nd:l.Pairwise λs t=>s.mono≠t.mono
def LK(h:Dg t.cw.aC):wm t=decide (iV t.cw≠0):=by
 unfold wm;show(bm t.cw !=0)=_;rw[qz h];by_cases a:iV t.cw<0
 ·rw[aM a];simp;omega
 ·rw[Z a];by_cases b:0<iV t.cw
  ·rw[aM b];simp;omega
  ·rw[Z b];simp;omega
def LC{p:List S}(l:∀t∈p,Dg t.cw.aC)(m:∀t∈p,je t.mono=false):CT (di p)/\dL (di p)<=dL p/\∀(b:ay)(k:Nat),dC b k (di p)=dC b k p:=by
 obtain⟨c,e,n⟩:=Kl l m p.length (bK _);rw[im]at e;have a:(di p).Perm ((gS p p.length).filter wm):=by unfold di oJ tG;exact Bv _ _
 refine⟨⟨λt d=>?_,?_⟩,?_,λb k=>?_⟩
 ·have o:=a.mem_iff.1 d;obtain⟨f,g⟩:=jr.1 o;obtain⟨z,i⟩:=c.co t f;refine⟨z,?_,i⟩;rw[LK (c.dg t f),i,fU]at g;simpa using g
 ·refine List.Pairwise.perm ?_ a.symm (λh=>h.symm);exact c.nd.sublist Is
 ·rw[aCq a];exact dH (aCr Is) e
 ·rw[auU b k a,aaC,n,im];intro t d j;rw[LK (c.dg t d)]at j;simpa using j
def CT.sub{l':List S}(h:CT l)(I:List.Sublist l' l):CT l':=⟨λt a=>h.co t (I.subset a),h.nd.sublist I⟩
theorem Ri{t:S}{r:List S}:∀{k:Nat},BP (t::r) k->BP (t::r) (fK t k)/\∀u∈t::r,∀v,fK t k<v->v<=k->ex v u=0
 |0,h=>by rw[fK];exact⟨h,λu _ v d c=>O⟩
 |k+1,h=>by
  rw[fK];split
  ·rename_i f;obtain⟨d,c⟩:=Ri (h.zero (t:=t) rfl f);refine⟨d,λu b v a g=>?_⟩;by_cases e:v=k+1
   ·subst e;have j:=h.head O (t:=t) rfl u b;have i:=h.za b (v:=k+1) O h.k4;omega
   ·exact c u b v a O
  ·exact⟨h,λu _ v d c=>O⟩
theorem Rh{t:S}:∀{k:Nat},fK t k≠0->ex (fK t k) t≠0
 |0,h=>by rw[fK]at h;exact absurd rfl h
 |k+1,h=>by
  rw[fK]at h⊢;split at h
  ·rename_i a;rw[aM a];exact Rh h
  ·rename_i a;rw[Z a];exact a
theorem adp(a:ay){t:S}{j:Nat}:∀{k:Nat},j<=k->(∀v,j<v->v<=k->ex v t=0)->mV a k t.mono=mV a j t.mono
 |0,h,_=>by rw[show j=0 by omega]
 |k+1,h,b=>by
  by_cases e:j=k+1
  ·rw[e]
  ·rw[mV,adp a O λv c d=>b v c O];have:=b (k+1) O (bK _);unfold ex at this;rw[this];show _*pw _ 0=_;rw[pw];grind
theorem aaD(a:ay){j k:Nat}(b:j<=k):∀{l:List S},(∀t∈l,∀v,j<v->v<=k->ex v t=0)->dC a k l=dC a j l
 |[],_=>rfl
 |t::r,h=>by rw[dC,dC,aaD a b λu c=>h u (cv _ c),tV,tV,adp a b (h t (b6 ..))]
theorem aim(c:Rat)(m:Nat):∀n,m<n->jm (λe=>if e=m then c else 0) n=c
 |n+1,h=>by
  rw[jm];by_cases e:m=n
  ·subst e;rw[aM rfl];have:jm (λe=>if e=m then c else 0) m=0:=by
    have:∀k,k<=m->jm (λe=>if e=m then c else 0) k=0:=by
     intro k
     induction k with
     |zero=>intro _;rfl
     |succ k a=>intro b;rw[jm,a O,Z O];grind
    exact this m (bK _)
   rw[this];grind
  ·rw[Z (λh=>e h.symm),aim c m n O];grind
theorem aaF(a:ay)(k n:Nat):∀{l:List S},(∀u∈l,0<=ex (k+1) u/\ex (k+1) u<n)->
 jm (λe=>pw (a (k+1:Nat)) e*dC a k (l.filter λu=>ex (k+1) u==(e:Int))) n=dC a (k+1) l
 |[],_=>by
  rw[dC];have:∀m,jm (λe=>pw (a (k+1:Nat)) e*dC a k (([]:List S).filter λu=>ex (k+1) u==(e:Int))) m=0:=by
   intro m
   induction m with
   |zero=>rfl
   |succ m b=>rw[jm,b,List.filter_nil,dC];grind
  exact this n
 |t::r,h=>by
  have b:=aaF a k n (l:=r) λu d=>h u (cv _ d)
  have f:=h t (b6 ..);have e:∀e:Nat,pw (a (k+1:Nat)) e*dC a k ((t::r).filter λu=>ex (k+1) u==(e:Int))=(if e=(ex (k+1) t).toNat then tV a (k+1) t else 0)+pw (a (k+1:Nat)) e*dC a k (r.filter λu=>ex (k+1) u==(e:Int)):=by
   intro e;by_cases c:ex (k+1) t=(e:Int)
   ·rw[yy (by simp[c]),aM O,dC,tV,tV,mV];have:(cg t.mono (k+1:Nat)).toNat=e:=by unfold ex at c;omega
    rw[this];grind
   ·rw[Ah (by simp[c]),Z O];grind
  rw[By n λi _=>e i,Ub,b,aim _ _ _ O,dC]
def aGi(c m n:Nat):sN (λe=>if e=m then c else 0) n<=c:=by
 have b:∀k,k<=m->sN (λe=>if e=m then c else 0) k=0:=by
  intro k
  induction k with
  |zero=>intro _;rfl
  |succ k a=>intro d;rw[sN,a O,Z O]
 induction n with
 |zero=>exact dz _
 |succ n a=>
  rw[sN];by_cases e:n=m
  ·rw[b n O,aM e];omega
  ·rw[Z e];exact a
theorem aei(k n:Nat):∀{l:List S},sN (λe=>dL (l.filter λu=>ex (k+1) u==(e:Int))) n<=dL l
 |[]=>by show sN (λ_=>0) n<=0;rw[Ml];exact bK _
 |t::r=>by
  have b:=aei k n (l:=r);have e:∀e:Nat,dL ((t::r).filter λu=>ex (k+1) u==(e:Int))<=(if e=(ex (k+1) t).toNat then(iV t.cw).natAbs else 0)+dL (r.filter λu=>ex (k+1) u==(e:Int)):=by
   intro e;by_cases a:ex (k+1) t=(e:Int)
   ·rw[yy (by simp[a]),aM O,dL];omega
   ·rw[Ah (by simp[a])];omega
  refine dH (Mk n λi _=>e i) ?_;rw[Ts,dL];have:=aGi (iV t.cw).natAbs (ex (k+1) t).toNat n;omega
def azS{p:bf}(h:∀v:Nat,1<=v->v<=4->cg p v=cg q v):p=q:=by have a:=h 1 O O;have b:=h 2 O O;have c:=h 3 O O;have d:=h 4 O O;simp[cg]at a b c d;cases p;cases q;simp_all
def EU(E:Int)(l:List S):=∀t∈l,∀v:Nat,1<=v->v<=4->ex v t<=E
structure Nc(f:Nat)(l:List S)(k:Nat):Prop where
 ev:∀ρ,ev ρ (cH f l k)=dC ρ k l
 bR:bQ k (cH f l k)
 nz:l≠[]->cP (cH f l k)=false
 nm:fh (cH f l k)<=dL l
 fr:∀v:Nat,1<=v->v<=4->(∀t∈l,ex v t=0)->Fr v (cH f l k)
 dl:∀d:Nat,EU d l->DL d (cH f l k)
 ld:∀d:Nat,DL d (cH f l k)->∀t∈l,∀v:Nat,1<=v->v<=k->ex v t<=d
theorem X6:∀(f:Nat)(l:List S)(k:Nat),CT l->BP l k->EU 1073741824 l->l.length+k<=f->Nc f l k
 |0,[],k,C,K,A,N=>by
  refine⟨λj=>?_,?_,λh=>absurd rfl h,?_,λv q _ _=>?_,λd _=>?_,λd _ t U=>by simp at U⟩;all_goals rw[Fp]
  ·exact jW j
  ·exact .zero _
  ·rw[sf];omega
  ·exact .zero O
  ·exact .zero _
 |0,t::r,k,C,K,A,N=>by simp at N
 |f+1,[],k,C,K,A,N=>by
  refine⟨λj=>?_,?_,λh=>absurd rfl h,?_,λv q _ _=>?_,λd _=>?_,λd _ t U=>by simp at U⟩;all_goals rw[Fp]
  ·exact jW j
  ·exact .zero _
  ·rw[sf];omega
  ·exact .zero O
  ·exact .zero _
 |f+1,t::r,k,C,K,A,N=>by
  obtain⟨b,D⟩:=Ri K;have hk4:=K.k4;have x:=KZ t k;have o:∀j,dC j k (t::r)=dC j (fK t k) (t::r):=λj=>aaD j x D
  by_cases P:fK t k=0
  ·have e:cH (f+1) (t::r) k=.mk 0 t.neg t.aC []:=by rw[yV,aM P]
   rw[P]at b D o;have hr:r=[]:=by
    cases r with
    |nil=>rfl
    |cons u r=>exfalso;have V:=(ER.1 C.nd).1 u (b6 ..);refine V (azS λv q p=>?_);unfold BP at b;exact b.2.2.2.2 t (b6 ..) u (cv _ (b6 ..)) v O p
   subst hr;obtain⟨z,Q,w⟩:=C.co t (b6 ..);have e2:J.mk 0 t.neg t.aC []=kP z:=by unfold kP;rw[<-w];rfl
   rw[e2]at e;refine⟨λj=>?_,?_,λ_=>?_,?_,λv q _ _=>?_,λd _=>?_,λd _ u g v q X=>?_⟩
   ·rw[e,o,jw,dC,dC,tV,w,fU,mV];grind
   ·rw[e];exact .const z
   ·rw[e];exact acp Q
   ·rw[e,uL,dL,w,fU];omega
   ·rw[e];exact .const O z
   ·rw[e];exact .const d z
   ·have:=D u g v O X;omega
  ·have E:=Rh P;obtain⟨lv,H⟩:∃lv,fK t k=lv+1:=⟨fK t k-1,O⟩;rw[H]at b D o x E;have p:lv+1<=4:=O;have hexb:=b.za (b6 ..) (v:=lv+1) O p;have hexE:=A t (b6 ..) (lv+1) O p;have n:=b.head O (t:=t) rfl;have e:cH (f+1) (t::r) k=.mk (lv+1:Nat) false [] ((List.range (ex (lv+1) t+1).toNat).map λ(e:Nat)=>cH f ((t::r).filter λu=>ex (lv+1) u==(e:Int)) lv):=by rw[yV,Z P,H,Z O];rfl
   have s:∀e:Nat,Nc f ((t::r).filter λu=>ex (lv+1) u==(e:Int)) lv:=λe=>by
    refine X6 f _ lv (C.sub Is) ((b.sub Is).down (z:=e) λu g=>?_) (λu g=>A u (jr.1 g).1) ?_
    ·have:=(jr.1 g).2;simpa using this
    ·have:=Iy (λu=>ex (lv+1) u==(e:Int)) (t::r);omega
   have m:∀c∈(List.range (ex (lv+1) t+1).toNat).map (λ(e:Nat)=>cH f ((t::r).filter λu=>ex (lv+1) u==(e:Int)) lv),∃e:Nat,e<(ex (lv+1) t+1).toNat/\c=cH f ((t::r).filter λu=>ex (lv+1) u==(e:Int)) lv:=λc a=>by obtain⟨e,A,rfl⟩:=b_.1 a;exact⟨e,oZ.1 A,rfl⟩
   refine⟨λj=>?_,?_,λ_=>?_,?_,λv q R M=>?_,λd B=>?_,λd B u g v q X=>?_⟩
   ·rw[e,ph j _ O p,o,J3,<-aaF j lv (ex (lv+1) t+1).toNat]
    ·refine By _ λi _=>?_
     rw[(s i).ev]
    ·intro u g;have a1:=n u g;have a2:=b.za g (v:=lv+1) O p;omega
   ·rw[e];refine .node (lv+1) _ O x (by rw[eh,oY];omega) (λc a=>?_) (λc a=>?_)
    ·obtain⟨i,_,rfl⟩:=m c a;exact(s i).bR.mono O
    ·rw[rJ,eh,oY,eC,vl O]at a;simp only[dP,cS]at a;subst a;refine(s _).nz λG=>?_
     have:t∈(t::r).filter λu=>ex (lv+1) u==(((ex (lv+1) t+1).toNat-1:Nat):Int):=jr.2 ⟨b6 ..,by simp;omega⟩
     rw[G]at this;simp at this
   ·rw[e];exact Ly (L:=4) O
   ·rw[e,tA _ O p,RQ];exact dH (Mk _ λi _=>(s i).nm) (aei lv _)
   ·rw[e];refine .mk _ _ _ _ (λhh=>?_) λc a=>?_
    ·have:v=lv+1:=by omega
     subst this;exact E (M t (b6 ..))
    ·obtain⟨i,_,rfl⟩:=m c a;exact(s i).fr v q R λu g=>M u (jr.1 g).1
   ·rw[e];refine .mk _ _ _ _ ?_ λc a=>?_
    ·rw[eh,oY];have:=B t (b6 ..) (lv+1) O p;omega
    ·obtain⟨i,_,rfl⟩:=m c a;exact(s i).dl d λu g=>B u (jr.1 g).1
   ·rw[e]at B;have hlen:=B.len;have y:=B.bu;change ((List.range (ex (lv+1) t+1).toNat).map _).length<=d+1 at hlen;rw[eh,oY]at hlen;have a1:=n u g;have a2:=b.za g (v:=lv+1) O p;by_cases M:lv+1<v
    ·rw[D u g v M X];omega
    ·by_cases T:v=lv+1
     ·subst T;omega
     ·refine(s (ex (lv+1) u).toNat).ld d (y _ ?_) u (jr.2 ⟨g,by simp;omega⟩) v q O;exact b_.2 ⟨(ex (lv+1) u).toNat,oZ.2 O,rfl⟩
end Go.Proofs.YtfbmhjooliccnaaGreatDoor
