/- Part of VirtualWitness. No condition. -/
import Derived.WalkKit
import Derived.Laws.CopyRow
import Derived.Laws.AppendOwn
import Derived.Laws.MakeOwn
import Derived.KernelRfl
set_option linter.all false
set_option maxRecDepth 100000
set_option maxHeartbeats 60000000
noncomputable section
namespace Go
theorem O{P:Prop}(h:P:=by omega):P:=h
theorem ae{P:Prop}(h:P:=by decide):P:=h
theorem af{P:Prop}(h:P:=by kernel_rfl):P:=h
theorem ah{P:Prop}(h:P:=by grind):P:=h
theorem ai{P:Prop}(h:P:=by simp):P:=h
theorem I{P:Prop}(h:P:=by assumption):P:=h
theorem ak{P:Prop}(h:P:=by with_reducible assumption):P:=h
theorem al{P:Prop}(h:P:=by((with_reducible show(_&&_)=true);kernel_rfl)):P:=h
theorem an{P Q:Prop}(h:Q)(k:Q→P:=by intro h;simpa using h):P:=k h
abbrev ao:=List Int
abbrev aq:=Nat->Prop
abbrev au:=List Nat
abbrev av:=List Value
abbrev aw:=Array Oper
abbrev ax:=Operand
abbrev ay:=Program
abbrev az:=Int->Rat
abbrev aA:=ByteArray
def Aa:=@Int.not_lt
def Ad:=@List.filter_append
def Ae:=@List.filter_cons_of_neg
def Af:=@List.flatten_cons
def Ag:=@List.foldr_nil
def Ah:=@List.getElem?_set_ne
def Ai:=@List.mem_filterMap
def Aj:=@Nat.add_comm
def Ak:=@Option.toList_some
def B0:=@Int.le_refl
def B1:=@Int.mul_right_comm
def B2:=@List.getElem?_append
def B3:=@List.mem_of_mem_drop
def B4:=@List.mem_or_eq_of_mem_set
def B5:=@List.pairwise_iff_getElem
def B7:=@List.take_append_of_le_length
def B8:=@Nat.lt_or_ge
def B9:=@Nat.mul_lt_mul''
def BL:=@Array.length_toList
def BN:=@Bool.true_and
def BO:=@Bool.true_or
def BQ:=@Classical.byContradiction
def BZ:=@Int.ediv_lt_iff_lt_mul
def B_:=@Nat.pow_le_pow_right
def Ca:=@Option.bind_some
def D5:=@Array.getElem?_eq_getElem
def E1:=@bne_eq_false_iff_eq
def EF:=@Rat.div_lt_iff
def Ea:=@Int.mul_ediv_add_emod
def Eb:=@Int.mul_sub
def Ec:=@Int.natAbs_mul
def Ed:=@Int.tdiv_eq_ediv_of_nonneg
def Ee:=@Int.zero_mul
def Eh:=@List.filter_sublist
def Ei:=@List.foldr_cons
def Ej:=@List.getElem?_append_left
def Ek:=@List.getElem?_set
def Em:=@List.length_filter_le
def En:=@List.map_id
def Eo:=@List.pairwise_cons
def Et:=@Nat.mul_comm
def Eu:=@Nat.pow_add
def Ew:=@Option.getD_none
def Ex:=@Option.map_none
def H3:=@Nat.eq_of_beq_eq_true
def H4:=@Nat.pos_of_ne_zero
def H5:=@Nat.pow_succ
def H6:=@Nat.two_pow_pos
def H7:=@Nat.zero_mul
def HI:=@Int.emod_eq_of_lt
def HJ:=@Int.le_ediv_iff_mul_le
def HK:=@Int.natCast_pow
def HL:=@Int.sub_zero
def HO:=@List.drop_append
def HQ:=@List.drop_eq_nil_of_le
def HR:=@List.getElem?_toArray
def HS:=@List.mapM_cons
def HT:=@List.range_zero
def HU:=@List.replicate_zero
def HV:=@List.set_cons_succ
def HW:=@List.singleton_append
def HZ:=@Nat.beq_refl
def Hu:=@BitVec.toNat_ofInt
def Hv:=@Bool.and_true
def Hw:=@Bool.not_true
def Hx:=@Bool.or_true
def Ia:=@Option.bind_eq_some_iff
def Ik:=@Rat.mul_eq_zero
def MJ:=@Array.getD_eq_getD_getElem?
def MK:=@Array.getElem?_eq_some_iff
def MM:=@Array.getElem?_modify
def MO:=@Array.size_replicate
def NG:=@Rat.intCast_lt_intCast
def NH:=@Rat.intCast_mul
def Na:=@Int.natAbs_dvd_natAbs
def Nh:=@List.filter_nil
def Ni:=@List.foldl_cons
def Nj:=@List.getElem?_set_self
def Nk:=@List.getElem?_take_of_lt
def Nl:=@List.getElem_of_mem
def Nn:=@List.length_filterMap_le
def No:=@List.set_eq_take_append_cons_drop
def Np:=@List.take_left'
def Ns:=@Nat.gcd_dvd_left
def Nt:=@Option.isSome_iff_exists
def UX:=@Array.mem_of_getElem?
def VK:=@Int.mul_emod_mul_of_pos
def VL:=@Int.mul_lt_mul_of_pos_right
def Wf:=@List.drop_append_of_le_length
def Wg:=@List.filter_eq_nil_iff
def Wh:=@List.sizeOf_lt_of_mem
def aK:=@if_pos
def aP:=@And.intro
def aX:=@Exists.intro
def aY:=@congrArg
def aZ:=@True.intro
def bF:=@List.mem_of_getElem?
def bI:=@Int.toNat_natCast
def bZ:=@List.mem_cons_self
def be:=@decide_eq_true_eq
def bj:=@decide_eq_false_iff_not
def bu:=@Nat.le_refl
def cE:=@List.mem_cons_of_mem
def cY:=@Option.some.injEq
def c_:=@List.length_append
def ca:=@List.getElem?_eq_getElem
def cj:=@List.mem_map
def dB:=@Bool.and_eq_true
def dC:=@List.mem_cons
def dD:=@Nat.zero_le
def dH:=@Option.map_some
def dM:=@List.getElem?_eq_some_iff
def dS:=@List.length_map
def dU:=@List.getElem?_map
def dZ:=@List.mem_singleton
def dc:=@List.map_cons
def dd:=@List.mem_append
def eD:=@of_decide_eq_true
def eM:=@List.all_eq_true
def eQ:=@List.take_of_length_le
def eZ:=@Nat.le_trans
def ei:=@List.cons_append
def ez:=@List.length_take
def fD:=@List.length_cons
def fc:=@List.eq_nil_of_length_eq_zero
def fg:=@of_decide_eq_false
def fx:=@Rat.mul_pos
def g:=@if_neg
def gB:=@List.map_append
def gL:=@List.map_nil
def gM:=@Option.map_eq_some_iff
def gh:=@List.append_assoc
def gi:=@List.nil_append
def gp:=@List.getElem?_eq_none
def h_:=@List.take_add_one
def iB:=@Int.mul_comm
def iC:=@List.take_zero
def iN:=@Bool.false_eq_true
def iO:=@Rat.mul_nonneg
def iZ:=@List.mem_filter
def i_:=@List.take_length
def ic:=@Nat.le_of_ble_eq_true
def ie:=@Option.getD_some
def ir:=@List.map_map
def j7:=@Rat.le_of_lt
def jC:=@ne_eq
def jH:=@List.getElem?_cons_zero
def jI:=@Nat.mul_le_mul_right
def jR:=@Int.add_mul
def jS:=@Nat.add_mul
def ju:=@Nat.min_eq_left
def jw:=@beq_iff_eq
def kA:=@Int.mul_assoc
def l4:=@List.append_nil
def l5:=@Nat.lt_of_lt_of_le
def l6:=@Nat.not_lt_zero
def lN:=@beq_eq_false_iff_ne
def lc:=@List.map_congr_left
def mB:=@Int.mul_add
def mK:=@if_false
def mW:=@Array.ext'
def mZ:=@List.drop_eq_getElem_cons
def m_:=@List.getElem?_drop
def nF:=@Rat.not_le
def na:=@List.length_replicate
def nc:=@Nat.lt_of_le_of_lt
def oC:=@if_true
def oV:=@List.length_set
def oW:=@List.range_succ
def og:=@Int.mul_nonneg
def oh:=@List.length_range
def oi:=@List.mem_of_mem_take
def ol:=@List.mem_range
def om:=@List.take_append_drop
def oo:=@Nat.zero_add
def pR:=@List.drop_of_length_le
def pS:=@List.getLast?_eq_getElem?
def pT:=@List.take_succ_cons
def qB:=@List.getElem?_range
def qC:=@List.length_drop
def qP:=@decide_eq_true
def qx:=@Int.mul_le_mul_of_nonneg_left
def qy:=@Int.ne_of_gt
def rI:=@Int.emod_nonneg
def rJ:=@Int.sub_mul
def rK:=@List.drop_zero
def rL:=@List.eq_of_mem_replicate
def rM:=@List.getElem?_take
def rO:=@List.getElem_mem
def rP:=@List.length_nil
def rR:=@List.replicate_succ
def rT:=@Nat.sub_self
def rU:=@Nat.succ_mul
def sO:=@Bool.eq_iff_iff
def sR:=@Int.emod_lt_of_pos
def sV:=@Nat.add_zero
def sY:=@Rat.div_mul_cancel
def s_:=@decide_eq_false
def ud:=@Int.le_of_lt
def ue:=@Int.mul_left_comm
def uf:=@List.any_eq_true
def ug:=@List.ext_getElem?
def uh:=@List.map_take
def uj:=@Nat.add_assoc
def vd:=@Bool.or_eq_true
def vh:=@Function.comp_def
def vj:=@List.map_drop
def vk:=@List.mem_flatMap
def vl:=@List.set_append_right
def vm:=@List.set_cons_zero
def vo:=@Option.some.inj
def vq:=@Rat.neg_neg
def wG:=@Int.eq_ofNat_of_zero_le
def wH:=@Int.mul_le_mul_of_nonneg_right
def wJ:=@Int.tmod_eq_emod_of_nonneg
def wN:=@List.all_cons
def wO:=@List.getElem?_replicate
def yC:=@Rat.lt_div_iff
def yc:=@Array.getElem?_toList
def yi:=@Int.add_zero
def yj:=@Int.fdiv_eq_ediv_of_nonneg
def ym:=@List.filterMap_append
def yn:=@List.filterMap_cons_none
def yo:=@List.filterMap_cons_some
def yp:=@List.filter_cons_of_pos
def yq:=@List.getElem?_append_right
def yr:=@List.getElem?_cons_succ
def yt:=@List.getElem?_of_mem
def yu:=@Nat.add_sub_cancel
def yv:=@Nat.lt_of_not_le
def z8:=@Int.ediv_nonneg
def zX:=@Bool.not_eq_true'
def z_:=@Int.mul_zero
end Go
namespace Go.Ab
open Go Go.RowKit
inductive D where
 |sc (v:Value)
 |sl (es:List (List D))
inductive V where
 |d (x:D)
 |ptr (s off:Nat)
 |sub (s k off len:Nat)
 |gT (ds:List D)
 |cr (f:Nat) (caps:List (Nat×Nat))
 |mp (s:Nat)
 |ty (s t:Nat) (sl:Nat ⊕ Nat)
 |dV (es:List (Value×Value))
 |any
inductive E where
 |c (v:V)
 |agg (vs:List V)
inductive T where
 |e (x:E)
 |cn (xs:List E)
 |any
abbrev eh:=Nat->Option (List V)
abbrev G:=Nat->Option (Option Nat)
structure St where
 aT:Nat->T
 heap:eh
inductive dE(w:World)(S:aq):D->Value->Prop where
 |sc (v:Value) (h1:v.oneCell'=true):dE w S (.sc v) v
 |sl (es:List (List D)) (k cap:Nat) (A:Option Addr) (U:Nat->Nat->Value) (hcap:es.length<=cap) (hmax:cap<=maxLen)
   (hrow:∀r∈es,r.length=k)
   (hA:es≠[]->∃a:Addr,A=some a/\a.spot=none/\S a.block/\∀i j,i<es.length->j<k->w.cell? (a.add (i*k+j))=some (U i j))
   (hU:∀i j x,(es[i]?).bind (λr=>r[j]?)=some x->dE w S x (U i j)):
   dE w S (.sl es) (.slice A es.length cap)
def Cr(a:Addr)(n:Nat):(a.add n).block=a.block:=by unfold Addr.add;split<;>rfl
def Tz(a:Addr)(n:Nat)(h:a.spot=none):(a.add n).spot=none:=by unfold Addr.add;split<;>simp_all
def Iu(a:Addr)(i j:Nat):(a.add i).add j=a.add (i+j):=by unfold Addr.add;by_cases c:i=0<;>by_cases b:j=0<;>simp[c,b,uj]
def uQ(b o n:Nat):(⟨b,o,none⟩:Addr).add n=⟨b,o+n,none⟩:=by unfold Addr.add;split<;>simp_all
def Oj{w b:World}{a:Addr}(h:b.heap[a.block]?=w.heap[a.block]?):b.cell? a=w.cell? a:=by unfold World.cell?;rw[h]
def dE.mono{w o:World}{Z p:aq}{x:D}{v:Value}(h:dE w Z x v)
 (z:∀b,Z b->p b)(s:∀b,Z b->o.heap[b]?=w.heap[b]?):dE o p x v:=by
 induction h with
 |sc v C=>exact .sc v C
 |sl E k n A U f d c B _ q=>
  refine .sl E k n A U f d c (λm=>?_) (λi j x r=>q i j x r);obtain⟨a,e,l,Y,y⟩:=B m;refine⟨a,e,l,z _ Y,λi j u t=>?_⟩;rw[Oj (w:=w)]
  ·exact y i j u t
  ·rw[Cr];exact s _ Y
def dE.one{w:World}{Z:aq}{x:D}{v:Value}(h:dE w Z x v):v.oneCell'=true:=by
 cases h with
 |sc _ a=>exact a
 |sl=>rfl
def cS(w:World)(M:aq)(a:G)(b:Nat):=b<w.heap.size/\¬M b/\∀s,a s≠some (some b)
def uk(c:G)(s a:Nat)(v:Value):Prop:=∃b,c s=some (some b)/\v=.pointer (some ⟨b,a,none⟩)
def Ui(b n:Nat):Nat ⊕ Nat->Value->Prop
 |.inl m,v=>v=.pointer (some ⟨b,0,none⟩)/\n=m
 |.inr c,v=>∃a,v=.slice (some ⟨b,0,none⟩) c a/\c<=a/\a<=maxLen/\a<=n
def Ui.one{b n:Nat}{a:Nat ⊕ Nat}{v:Value}(h:Ui b n a v):v.oneCell'=true:=by
 cases a with
 |inl m=>obtain⟨rfl,_⟩:=h;rfl
 |inr c=>obtain⟨_,rfl,_⟩:=h;rfl
def dO(w:World)(M:aq)(h:G):V->Value->Prop
 |.d x,v=>dE w (cS w M h) x v
 |.ptr s e,v=>uk h s e v
 |.sub s k e l,v=>
  (∃(b m:Nat)(cells:Array Value)(t:TypeId),h s=some (some b)/\v=.slice (some ⟨b,e,none⟩) l m/\l<=m/\m<=maxLen/\
    w.heap[b]?=some (.cells cells t (0,0))/\e+m*k<=cells.size)\/
  (h s=some none/\e=0/\l=0/\v=.slice none 0 0)\/
  (∃(b o:Nat),h s=some (some b)/\l=0/\v=.slice (some ⟨b,o,none⟩) 0 0)
 |.gT y,v=>∃a:Addr,v=.pointer (some a)/\a.spot=none/\cS w M h a.block/\
    ∀j x,y[j]?=some x->∃u,w.cell? (a.add j)=some u/\dE w (cS w M h) x u
 |.cr f n,v=>∃q:List Value,v=.func (.func f) #[] q.toArray/\q.length=n.length/\
    ∀(i:Nat)(p:Nat×Nat)(c:Value),n[i]?=some p->q[i]?=some c->uk h p.1 p.2 c
 |.mp s,v=>∃b,h s=some (some b)/\v=.map (some b)
 |.ty s t r,v=>∃(b:Nat)(cells:Array Value),h s=some (some b)/\w.heap[b]?=some (.cells cells t (0,0))/\Ui b cells.size r v
 |.dV _,_=>False
 |.any,v=>v.oneCell'=true
theorem dO.one{w:World}{M:aq}{e:G}{x:V}{v:Value}(h:dO w M e x v):v.oneCell'=true:=by
 cases x with
 |d x=>exact dE.one h
 |ptr s a=>obtain⟨b,_,rfl⟩:=h;rfl
 |sub s k a i=>rcases h with⟨_,_,_,_,_,rfl,_⟩|⟨_,_,_,rfl⟩|⟨_,_,_,_,rfl⟩<;>rfl
 |gT m=>obtain⟨_,rfl,_⟩:=h;rfl
 |cr f c=>obtain⟨_,rfl,_⟩:=h;rfl
 |mp s=>obtain⟨_,_,rfl⟩:=h;rfl
 |ty s t j=>obtain⟨_,_,_,_,h⟩:=h;exact h.one
 |dV l=>cases h
 |any=>exact h
def bR(w:World)(M:aq)(c:G)(b:List V)(a:av):Prop:=
 b.length=a.length/\∀(i:Nat)(x:V)(u:Value),b[i]?=some x->a[i]?=some u->dO w M c x u
def eP(w:World)(M:aq)(a:G):E->Value->Prop
 |.c x,v=>dO w M a x v
 |.agg d,v=>∃b:List Value,v=.agg b.toArray/\bR w M a d b
def lb(w:World)(M:aq)(c:G)(a:List E)(b:av):Prop:=
 a.length=b.length/\∀(i:Nat)(x:E)(u:Value),a[i]?=some x->b[i]?=some u->eP w M c x u
def b6(w:World)(M:aq)(a:G):T->Value->Prop
 |.e x,v=>eP w M a x v
 |.cn c,v=>∃b:List Value,v=.tuple b.toArray/\lb w M a c b
 |.any,_=>True
structure la(M:aq)(γ γ':G)(w w':World):Prop where
 size:w.heap.size<=w'.heap.size
 TE:∀b,cS w M γ b->w'.heap[b]?=w.heap[b]?
 fK:∀b,cS w M γ b->∀s,γ' s≠some (some b)
 iK:∀(b:Nat)(cells:Array Value)(t:TypeId),w.heap[b]?=some (.cells cells t (0,0))->∃cells':Array Value,w'.heap[b]?=some (.cells cells' t (0,0))/\cells'.size=cells.size
theorem la.cS{M:aq}{d a:G}{w e:World}(h:la M d a w e)(b:Nat)(c:cS w M d b):cS e M a b:=
 ⟨l5 c.1 h.size,c.2.1,h.fK b c⟩
def dE.dI{M:aq}{b a:G}{w w':World}(h:la M b a w w'){x:D}{v:Value}(c:dE w (Ab.cS w M b) x v):
 dE w' (Ab.cS w' M a) x v:=c.mono h.cS h.TE
def V.bK:V->Nat->Prop
 |.ptr s _,t=>s=t
 |.sub s _ _ _,t=>s=t
 |.cr _ a,t=>∃p∈a,p.1=t
 |.mp s,t=>s=t
 |.ty s _ _,t=>s=t
 |_,_=>False
theorem dO.dI{M:aq}{B q:G}{w w':World}(h:la M B q w w'){x:V}{v:Value}(m:dO w M B x v)
 (r:∀s,x.bK s->q s=B s):dO w' M q x v:=by
 cases x with
 |d x=>exact dE.dI h m
 |ptr s C=>obtain⟨b,n,e⟩:=m;exact⟨b,(r s rfl).trans n,e⟩
 |sub s k C R=>
  rcases m with⟨b,L,cells,t,n,e,A,z,K,h4⟩|⟨A,z⟩|⟨b,o,A,z⟩
  ·obtain⟨l,H,P⟩:=h.iK b cells t K;exact .inl ⟨b,L,l,t,(r s rfl).trans n,e,A,z,H,O⟩
  ·exact .inr (.inl ⟨(r s rfl).trans A,z⟩)
  ·exact .inr (.inr ⟨b,o,(r s rfl).trans A,z⟩)
 |gT ds=>
  obtain⟨a,e,D,y,hd⟩:=m;refine⟨a,e,D,h.cS _ y,λj x Z=>?_⟩;obtain⟨u,T,U⟩:=hd j x Z;refine⟨u,?_,U.dI h⟩;rw[Oj (w:=w)]
  ·exact T
  ·rw[Cr];exact h.TE _ y
 |cr f Q=>obtain⟨cs,e,X,hc⟩:=m;refine⟨cs,e,X,λi p c N E=>?_⟩;obtain⟨b,n,e'⟩:=hc i p c N E;exact⟨b,(r p.1 ⟨p,bF N,rfl⟩).trans n,e'⟩
 |mp s=>obtain⟨b,n,e⟩:=m;exact⟨b,(r s rfl).trans n,e⟩
 |ty s t sl=>obtain⟨b,cells,n,K,e⟩:=m;obtain⟨l,H,P⟩:=h.iK b cells t K;exact⟨b,l,(r s rfl).trans n,H,P▸e⟩
 |dV es=>cases m
 |any=>exact m
def E.bK:E->Nat->Prop
 |.c x,t=>x.bK t
 |.agg a,t=>∃x∈a,x.bK t
def T.bK:T->Nat->Prop
 |.e x,t=>x.bK t
 |.cn a,t=>∃x∈a,x.bK t
 |.any,_=>False
theorem bR.dI{M:aq}{b a:G}{w w':World}(h:la M b a w w'){c:List V}{vs:av}(d:bR w M b c vs)
 (j:∀s,(∃x∈c,x.bK s)->a s=b s):bR w' M a c vs:=
 ⟨d.1,λi x u e f=>(d.2 i x u e f).dI h λs Y=>j s ⟨x,bF e,Y⟩⟩
theorem eP.dI{M:aq}{b a:G}{w w':World}(h:la M b a w w'){x:E}{v:Value}(d:eP w M b x v)
 (f:∀s,x.bK s->a s=b s):eP w' M a x v:=by
 cases x with
 |c x=>exact dO.dI h d f
 |agg k=>obtain⟨i,e,j⟩:=d;exact⟨i,e,j.dI h f⟩
theorem b6.dI{M:aq}{b a:G}{w w':World}(h:la M b a w w'){x:T}{v:Value}(c:b6 w M b x v)
 (d:∀s,x.bK s->a s=b s):b6 w' M a x v:=by
 cases x with
 |e x=>exact eP.dI h c d
 |cn n=>obtain⟨j,e,l,m⟩:=c;exact⟨j,e,l,λi x u f k=>(m i x u f k).dI h λs Y=>d s ⟨x,bF f,Y⟩⟩
 |any=>trivial
def Sj(o:Option Obj):Prop:=∃t r,o=some (.cells ((List.range 20).map λi=>Value.int .u64 ((10^i:Nat):Int)).toArray t r)
def um(w:World)(M:aq)(a:G):=cS w M a 1/\Sj w.heap[1]?
def um.to{M d:aq}{a γ':G}{w c:World}(t:um w M a)(f:∀b,cS w M a b->cS c d γ' b)(e:∀b,cS w M a b->c.heap[b]?=w.heap[b]?):um c d γ':=
 ⟨f _ t.1,by rw[e 1 t.1];exact t.2⟩
def um.dI{M:aq}{a γ':G}{w w':World}(t:um w M a)(h:la M a γ' w w'):um w' M γ':=t.to h.cS h.TE
structure Mem(M:aq)(γ:G)(H:eh)(w:World):Prop where
 gG:∀b,M b->b<w.heap.size
 inj:∀s t b,γ s=some (some b)->γ t=some (some b)->s=t
 nm:∀s b,γ s=some (some b)->¬M b
 fW:∀s,H s=none->γ s=none
 fe:∀s cs,H s=some cs->
  (∃(b:Nat)(t:TypeId)(vs spare:av),γ s=some (some b)/\w.heap[b]?=some (.cells (vs++spare).toArray t (0,0))/\bR w M γ cs vs)\/
  (γ s=some none/\cs=[])\/
  (∃(b:Nat)(ents:Array MapEntry)(clk:Nat),γ s=some (some b)/\w.heap[b]?=some (.map ents clk)/\cs=[.dV (ents.toList.map λe=>(e.key,e.val))])
 iU:um w M γ
def jA{w:World}{b:Nat}{o:Obj}(h:w.heap[b]?=some o):b<w.heap.size:=(MK.1 h).1
def Mem.lt{M:aq}{d:G}{H:eh}{w:World}(h:Mem M d H w){s b:Nat}(Y:d s=some (some b)):b<w.heap.size:=by
 cases e:H s with
 |none=>rw[h.fW s e]at Y;cases Y
 |some f=>
  rcases h.fe s f e with⟨j,t,k,l,a,c,_⟩|⟨a,_⟩|⟨j,m,i,a,c,_⟩
  ·rw[a]at Y;cases Y;exact jA c
  ·rw[a]at Y;cases Y
  ·rw[a]at Y;cases Y;exact jA c
structure fL(mG:aq)(w w':World):Prop where
 os:w'.os=w.os
 tape:w'.tape=w.tape
 output:w'.output=w.output
 drawn:w.drawn<=w'.drawn
 size:w.heap.size<=w'.heap.size
 same:∀b,b<w.heap.size->¬mG b->w'.heap[b]?=w.heap[b]?
 iK:∀(b:Nat)(cells:Array Value)(t:TypeId),w.heap[b]?=some (.cells cells t (0,0))->∃cells':Array Value,w'.heap[b]?=some (.cells cells' t (0,0))/\cells'.size=cells.size
def fL.refl(mG:aq)(w:World):fL mG w w:=⟨rfl,rfl,rfl,bu _,bu _,λ_ _ _=>rfl,λ_ cells _ h=>⟨cells,h,rfl⟩⟩
theorem fL.trans{j P2 f:aq}{a b c:World}(h:fL j a b)(k:fL P2 b c)(p:∀x,x<a.heap.size->j x->f x)(o:∀x,x<a.heap.size->P2 x->f x):fL f a c:=
 ⟨k.os.trans h.os,k.tape.trans h.tape,k.output.trans h.output,eZ h.drawn k.drawn,eZ h.size k.size,
   λx d i=>(k.same x (l5 d h.size) (λe=>i (o x d e))).trans (h.same x d (λe=>i (p x d e))),
   λx cells t n=>by obtain⟨u,r,m⟩:=h.iK x cells t n;obtain⟨s,q,l⟩:=k.iK x u t r;exact⟨s,q,l.trans m⟩⟩
def q_:Nat->Prop:=λ_=>False
def fL.dI{M mG:aq}{c:G}{w w':World}(h:fL mG w w')(d:∀b,cS w M c b->¬mG b):la M c c w w':=
 ⟨h.size,λb a=>h.same b a.1 (d b a),λ_ a=>a.2.2,h.iK⟩
def fL.Fg{M:aq}{a:G}{w w':World}(h:fL q_ w w'):la M a a w w':=h.dI λ_ _ b=>b
theorem Mem.F_{M:aq}{e:G}{H:eh}{w f:World}(h:Mem M e H w)(k:fL q_ w f):Mem M e H f where
 gG b hb:=l5 (h.gG b hb) k.size
 inj:=h.inj
 nm:=h.nm
 fW:=h.fW
 fe s n Y:=by
  rcases h.fe s n Y with⟨b,t,i,j,a,hb,c⟩|l|⟨b,m,d,a,hb,c⟩
  ·exact .inl ⟨b,t,i,j,a,(k.same b (jA hb) (λx=>x)).trans hb,c.dI k.Fg λ_ _=>rfl⟩
  ·exact .inr (.inl l)
  ·exact .inr (.inr ⟨b,m,d,a,(k.same b (jA hb) (λx=>x)).trans hb,c⟩)
 iU:=h.iU.dI k.Fg
structure dY where
 M:Nat->Prop
 mG:Nat->Prop
 w0:World
 BJ:G
 aS:Nat->Prop
 nt:Nat
structure dz(C:dY)(γ:G)(σ:St)(a:Act)(w:World):Prop where
 mem:Mem C.M γ σ.heap w
 aT:∀i,b6 w C.M γ (σ.aT i) (a.tmps.getD i undef)
 aN:fL C.mG C.w0 w
 aW:∀s b,γ s=some (some b)->C.mG b\/C.w0.heap.size<=b
 aS:∀s,C.aS s->γ s=C.BJ s
 defers:a.defers=[]
 size:a.tmps.size=C.nt
def gN(C:dY)(b:St)(a:Act)(w:World):Prop:=∃c,dz C c b a w
def iX(f:Nat->T)(i:Nat)(r:T):Nat->T:=λj=>if j=i then r else f j
def cX(f:eh)(i:Nat)(r:Option (List V)):eh:=λj=>if j=i then r else f j
def St.put(a:St)(d:Option Nat)(r:T):St:=match d with|some i=> { a with aT:=iX a.aT i r}|none=>a
def Le:Value->T
 |.agg a=>if a.toList.all (λv=>v.oneCell')then .e (.agg (a.toList.map λv=>.d (.sc v)))else .any
 |.tuple _=>.any
 |v=>.e (.c (.d (.sc v)))
def St.ev(a:St):Operand->T
 |.tmp t=>a.aT t
 |.const v=>Le v
 |.func f=>.e (.c (.cr f []))
 |.global _=>.any
def aAX(w:World)(M:aq)(c:G)(v:Value):b6 w M c (Le v) v:=by
 cases v
 case agg d=>
  simp only[Le];split
  ·rename_i h;rw[eM]at h;refine⟨d.toList,ai,ai,λi x u a b=>?_⟩;rw[dU,b]at a;simp only[dH,cY]at a;subst a;exact dE.sc _ (h u (bF b))
  ·trivial
 all_goals first|trivial|exact dE.sc _ rfl
theorem dz.ev{C:dY}{d:G}{b:St}{a:Act}{w:World}(h:dz C d b a w)(x:ax):b6 w C.M d (b.ev x) (a.eval x):=by
 match x with
 |.tmp t=>exact h.aT t
 |.const v=>exact aAX _ _ _ v
 |.func f=>exact⟨[],rfl,rfl,λi p c e=>by simp at e⟩
 |.global Z=>trivial
def iu(P:ay)(o:Oper)(d:Operand->T)(r:T):Prop:=
 ∀(M:aq)(b:G)(H:eh)(w:World)(a:Act),Mem M b H w->(∀x∈o.op.operands.toList,b6 w M b (d x) (a.eval x))->
  ∀(K:Act->World->Prop)(Q:Exit->Act->World->Prop),(∀v c,fL q_ w c->b6 c M b r v->K (a.put o.dst v) c)->o.wp P a w K Q
def iu.congr{P:ay}{o:Oper}{d c:Operand->T}{r:T}(h:iu P o d r)(j:∀x∈o.op.operands.toList,c x=d x):iu P o c r:=
 λM e H w a i f K Q k=>h M e H w a i (λx b=>by rw[<-j x b];exact f x b) K Q k
def my{P:ay}{o:Oper}{a:Act}{w w':World}{v:Value}{K:Act->World->Prop}{Q:Exit->Act->World->Prop}
 (h:(execOp a.eval o).run P w=.ok (.value v) w')(b:K (a.put o.dst v) w'):o.wp P a w K Q:=by
 unfold Oper.wp;rw[h];exact b
def UJ{P:ay}{o:Oper}{a:Act}{w w':World}{K:Act->World->Prop}{Q:Exit->Act->World->Prop}
 (h:(execOp a.eval o).run P w=.ok .skip w')(b:K (a.put o.dst undef) w'):o.wp P a w K Q:=by
 unfold Oper.wp;rw[h];exact b
def kJ{P:ay}{o:Oper}{c:Operand->T}{r:T}
 (h:∀(M:aq)(b:G)(H:eh)(w:World)(a:Act),Mem M b H w->(∀x∈o.op.operands.toList,b6 w M b (c x) (a.eval x))->
   ∃v,(execOp a.eval o).run P w=.ok (.value v) w/\b6 w M b r v):iu P o c r:=
 λM b H w a f d K Q j=>by obtain⟨v,i,e⟩:=h M b H w a f d;exact my i (j v w (fL.refl _ _) e)
def fb(P:ay)(t:TypeId):Option Nat:=(P.info? t).map (·.size)
def oc(P:ay)(t:TypeId):Option Nat:=(P.info? t).map (·.bytes)
def DU(P:ay)(t:TypeId):Option (List Value):=(P.info? t).bind λi=>i.zero.map (·.cells.toList)
def Hc(P:ay)(t:TypeId):Option Bool:=(P.underlying t).map λd=>match d with|.struct _|.array _ _=>true|_=>false
def wq(P:ay)(t:TypeId)(f:Nat):Option (Nat×TypeId):=
 match P.underlying t with
 |some (.struct a)=>(a[f]?).map λf=>(f.offset,f.type)
 |_=>none
def jF(P:ay)(t:TypeId):Option TypeId:=match P.underlying t with|some (.slice e)=>some e|_=>none
def wo(P:ay)(t:TypeId):Option (Nat×TypeId):=match P.underlying t with|some (.array n e)=>some (n,e)|_=>none
def zJ(P:ay)(t:TypeId):Option IntKind:=match P.underlying t with|some (.int k)=>some k|_=>none
def Bz(P:ay)(t:TypeId):Bool:=match P.underlying t with|some .bool=>true|_=>false
def rB(P:ay)(t:TypeId):Bool:=match P.underlying t with|some .string=>true|_=>false
def u9{P:ay}{t e:TypeId}(h:jF P t=some e):P.underlying t=some (.slice e):=by unfold jF at h;split at h<;>simp_all
def TO{P:ay}{t e:TypeId}{n:Nat}(h:wo P t=some (n,e)):P.underlying t=some (.array n e):=by unfold wo at h;split at h<;>simp_all
def aiI{P:ay}{t:TypeId}{k:IntKind}(h:zJ P t=some k):P.underlying t=some (.int k):=by unfold zJ at h;split at h<;>simp_all
def aF0{P:ay}{t:TypeId}(h:Bz P t=true):P.underlying t=some .bool:=by unfold Bz at h;split at h<;>simp_all
def Ue{P:ay}{t:TypeId}(h:rB P t=true):P.underlying t=some .string:=by unfold rB at h;split at h<;>simp_all
def od{P:ay}{t:TypeId}{n:Nat}(h:fb P t=some n)(w:World):(sizeOf t).run P w=.ok n w:=by
 unfold fb at h;cases a:P.info? t with
 |none=>simp[a]at h
 |some i=>simp[a]at h;simp[sizeOf,typeInfo,a,h]
def Mk{P:ay}{t:TypeId}{b:Bool}(h:Hc P t=some b)(w:World):(isAgg t).run P w=.ok b w:=by
 unfold Hc at h;cases a:P.underlying t with
 |none=>simp[a]at h
 |some d=>simp[a]at h;rw[<-h];cases d<;>simp[isAgg,run_underlying a]
def TR{P:ay}{t:TypeId}{f a:Nat}{ft:TypeId}(h:wq P t f=some (a,ft)):
 ∃(b:Array Field)(c:Field),P.underlying t=some (.struct b)/\b[f]?=some c/\c.offset=a/\c.type=ft:=by
 unfold wq at h;split at h
 ·rename_i b d;cases hf:b[f]? with
  |none=>simp[hf]at h
  |some c=>simp[hf]at h;exact⟨b,c,d,hf,h.1,h.2⟩
 ·cases h
def Hi{P:ay}{t:TypeId}{cs:av}(h:DU P t=some cs)(w:World):∃z,(zeroValue t).run P w=.ok z w/\z.cells.toList=cs:=by
 unfold DU at h;cases a:P.info? t with
 |none=>simp[a]at h
 |some i=>
  cases b:i.zero with
  |none=>simp[a,b]at h
  |some z=>simp[a,b]at h;exact⟨z,by simp[zeroValue,typeInfo,a,b],h⟩
def aCh{P:ay}{o:Oper}{c:Operand->T}(x:ax)(b:o.op=.move x):iu P o c (c x):=
 kJ λM e H w a _ d=>⟨a.eval x,by simp[execOp,b],d x (by simp[b,Op.operands])⟩
def aBX{P:ay}{o:Oper}{c:Operand->T}(x:ax)(b:o.op=.assign x):iu P o c (c x):=
 kJ λM e H w a _ d=>⟨a.eval x,by simp[execOp,b],d x (by simp[b,Op.operands])⟩
def gK{w:World}{M:aq}{a:G}{v u:Value}(h:b6 w M a (.e (.c (.d (.sc v)))) u):u=v:=by cases h;rfl
def aCj{P:ay}{o:Oper}{f:Operand->T}(c x y:ax)(b:o.op=.pick c x y)(t:Bool)(l:f c=.e (.c (.d (.sc (.bool t))))):
 iu P o f (if t then f x else f y):=
 kJ λM n H w a _ h=>by
  have i:=h c (by simp[b,Op.operands]);rw[l]at i;have m:=gK i;have k:=h x (by simp[b,Op.operands]);have j:=h y (by simp[b,Op.operands]);refine⟨if t then a.eval x else a.eval y,?_,?_⟩
  ·simp[execOp,b,m,asBool]
  ·cases t<;>simpa
def mI(P:ay)(d:BinOp)(t:TypeId):Value->Value->Option Value
 |.int k a,.int c b=>
  match d with
  |.shl=>if b<0 then none else some (.int k (k.wrap (a*2^min b.toNat k.bits)))
  |.shr=>if b<0 then none else some (.int k (a.fdiv (2^min b.toNat k.bits)))
  |.add=>if k=c then some (.int k (k.wrap (a+b)))else none
  |.sub=>if k=c then some (.int k (k.wrap (a-b)))else none
  |.mul=>if k=c then some (.int k (k.wrap (a*b)))else none
  |.quo=>if k=c/\b≠0 then some (.int k (k.wrap (a.tdiv b)))else none
  |.rem=>if k=c/\b≠0 then some (.int k (a.tmod b))else none
  |.and=>if k=c then some (.int k (k.wrap (BitVec.ofInt k.bits a &&& BitVec.ofInt k.bits b).toNat))else none
  |.or=>if k=c then some (.int k (k.wrap (BitVec.ofInt k.bits a ||| BitVec.ofInt k.bits b).toNat))else none
  |.xor=>if k=c then some (.int k (k.wrap (BitVec.ofInt k.bits a ^^^ BitVec.ofInt k.bits b).toNat))else none
  |.andNot=>none
  |.eql=>if k=c then some (.bool (a==b))else none
  |.neq=>if k=c then some (.bool (a !=b))else none
  |.lss=>if k=c then some (.bool (decide (a<b)))else none
  |.leq=>if k=c then some (.bool (decide (a<=b)))else none
  |.gtr=>if k=c then some (.bool (decide (b<a)))else none
  |.geq=>if k=c then some (.bool (decide (b<=a)))else none
 |.bool a,.bool b=>
  match d with
  |.eql=>if Bz P t then some (.bool (a==b))else none
  |.neq=>if Bz P t then some (.bool (!(a==b)))else none
  |_=>none
 |.string a,.string b=>
  match d with
  |.eql=>some (.bool (a.toList==b.toList))
  |.neq=>some (.bool (!(a.toList==b.toList)))
  |_=>none
 |_,_=>none
def apL{P:ay}{a:BinOp}{t:TypeId}{x y v:Value}(h:mI P a t x y=some v):v.oneCell'=true:=by
 unfold mI at h;split at h
 ·cases a<;>simp only at h<;>(try split at h)<;>first|cases h;rfl|cases h
 ·cases a<;>simp only at h<;>(try split at h)<;>first|cases h;rfl|cases h
 ·cases a<;>simp only at h<;>first|cases h;rfl|cases h
 ·cases h
def aDF{P:ay}{t:TypeId}(h:P.underlying t=some .bool)(a b:Bool)(w:World):(Op.equal t (.bool a) (.bool b)).run P w=.ok (a==b) w:=by
 have c:∀d,(Op.equalIn (d+1) t (.bool a) (.bool b)).run P w=.ok (a==b) w:=λd=>by simp only[Op.equalIn,Sem.run_bind,run_underlying h,Result.andThen_ok,Sem.run_pure]
 exact c 9999
def apM{P:ay}{c:BinOp}{t:TypeId}{x y v:Value}(h:mI P c t x y=some v)(w:World)(f e:ax):
 (do eqGuard c t f e x y;binOp c t x y:Sem Value).run P w=.ok v w:=by
 unfold mI at h;split at h
 ·rename_i k a j b;have d:(eqGuard c t f e (.int k a) (.int j b)).run P w=.ok () w:=by unfold eqGuard;cases c<;>simp
  simp only[Sem.run_bind,d,Result.andThen_ok];cases c<;>simp only at h;all_goals try split at h
  all_goals first|cases h;done|rename_i i;injection h with h;subst h;simp[binOp,Op.shift,i];done|injection h with h;subst h;simp_all[binOp,Op.intArith,Op.intDiv,Op.intBits,Op.intCmp];done
 ·rename_i a b;have d:(eqGuard c t f e (.bool a) (.bool b)).run P w=.ok () w:=by unfold eqGuard;cases c<;>simp
  simp only[Sem.run_bind,d,Result.andThen_ok];cases c<;>simp only at h;all_goals first
   |cases h;done
   |(split at h
     ·rename_i i;injection h with h;subst h
      simp only[binOp,Sem.run_bind,aDF (aF0 i),Result.andThen_ok,Sem.run_pure]
     ·cases h)
 ·rename_i a b;have d:(eqGuard c t f e (.string a) (.string b)).run P w=.ok () w:=by unfold eqGuard;cases c<;>simp
  simp only[Sem.run_bind,d,Result.andThen_ok];cases c<;>simp only at h;all_goals first|cases h;done|injection h with h;subst h;simp[binOp,Op.stringOp];done
 ·cases h
def aBY{P:ay}{o:Oper}{f:Operand->T}(k:BinOp)(t:TypeId)(x y:ax)(p:TypeId)(b:o.op=.binOp k t x y p)(j i v:Value)
 (r:f x=.e (.c (.d (.sc j))))(q:f y=.e (.c (.d (.sc i))))(l:mI P k t j i=some v):iu P o f (.e (.c (.d (.sc v)))):=
 kJ λM s H w a _ h=>by have n:=h x (by simp[b,Op.operands]);have m:=h y (by simp[b,Op.operands]);rw[r]at n;rw[q]at m;refine⟨v,?_,.sc v (apL l)⟩;have:=apM l w x y;simp only[execOp,b,gK n,gK m];rw[Sem.run_bind,this];rfl
def DW:UnOp->Value->Option Value
 |.not,.bool b=>some (.bool (!b))
 |.neg,.int k n=>some (.int k (k.wrap (0-n)))
 |.xor,.int k n=>some (.int k (k.wrap (BitVec.ofInt k.bits (if k.signed then-1 else k.max) ^^^ BitVec.ofInt k.bits n).toNat))
 |_,_=>none
def aCk{P:ay}{o:Oper}{l:Operand->T}(i:UnOp)(t:TypeId)(x:ax)(j:o.op=.unOp i t x)(f v:Value)
 (m:l x=.e (.c (.d (.sc f))))(b:DW i f=some v):iu P o l (.e (.c (.d (.sc v)))):=
 kJ λM n H w a _ h=>by
  have k:=h x (by simp[j,Op.operands]);rw[m]at k;refine⟨v,?_,?_⟩
  ·simp only[execOp,j,gK k];unfold DW at b;split at b<;>first|injection b with b;subst b;simp[Op.unary,Op.intArith,Op.intBits];done|cases b
  ·unfold DW at b;split at b<;>first|injection b with b;subst b;exact .sc _ rfl|cases b
def aB2{P:ay}{o:Oper}{l:Operand->T}(src b:TypeId)(x:ax)(i:o.op=.convert src b x)(k f:IntKind)(n:Int)
 (m:l x=.e (.c (.d (.sc (.int k n)))))(Y:(zJ P src).isSome=true)(p:zJ P b=some f):iu P o l (.e (.c (.d (.sc (.int f (f.wrap n)))))):=
 kJ λM q H w a _ h=>by have j:=h x (by simp[i,Op.operands]);rw[m]at j;obtain⟨k0,Y⟩:=Nt.1 Y;refine⟨_,?_,.sc _ rfl⟩;simp[execOp,i,gK j,convert,run_underlying (aiI Y),run_underlying (aiI p),Conv.intToInt]
theorem bR.drop{w:World}{M:aq}{a:G}{e:List V}{b:av}(h:bR w M a e b)(n:Nat):bR w M a (e.drop n) (b.drop n):=
 ⟨by simp[h.1],λi x u c d=>by rw[m_]at c d;exact h.2 _ x u c d⟩
theorem bR.take{w:World}{M:aq}{b:G}{e:List V}{c:av}(h:bR w M b e c)(n:Nat):bR w M b (e.take n) (c.take n):=
 ⟨by simp[h.1],λi x u a d=>by rw[rM]at a d;split at a<;>simp_all;exact h.2 _ x u a d⟩
def bR.append{w:World}{M:aq}{c:G}{d l:List V}{e f:av}(h:bR w M c d e)(k:bR w M c l f):bR w M c (d++l) (e++f):=
 ⟨by simp[h.1,k.1],λi x u a b=>by
   rw[B2]at a b;have m:=h.1;by_cases j:i<d.length
   ·rw[aK j]at a;rw[aK O]at b;exact h.2 _ x u a b
   ·rw[g j]at a;rw[g O]at b;rw[m]at a;exact k.2 _ x u a b⟩
def bR.nil{w:World}{M:aq}{a:G}:bR w M a [] []:=⟨rfl,λi x u b=>by simp at b⟩
def bR.one{w:World}{M:aq}{b:G}{x:V}{u:Value}(h:dO w M b x u):bR w M b [x] [u]:=
 ⟨rfl,λi y v a c=>by
   rcases i with _|i
   ·simp at a c;subst a;subst c;exact h
   ·simp at a⟩
def bR.ET{w:World}{M:aq}{b:G}{cs:List V}{vs:av}(h:bR w M b cs vs){i:Nat}{x:V}(c:cs[i]?=some x):∃u,vs[i]?=some u/\dO w M b x u:=by
 have d:i<cs.length:=(dM.1 c).1;have a:i<vs.length:=by have:=h.1;omega
 exact⟨vs[i],ca a,h.2 i x _ c (ca a)⟩
def bR.xE{w:World}{M:aq}{b:G}{cs:List V}{a:av}(h:bR w M b cs a):∀u∈a,u.oneCell'=true:=by
 intro u c;obtain⟨i,d,rfl⟩:=Nl c;have e:i<cs.length:=by have:=h.1;omega
 exact(h.2 i cs[i] a[i] (ca e) (ca d)).one
def E.cells:E->List V
 |.c x=>[x]
 |.agg a=>a
theorem eP.cells{w:World}{M:aq}{a:G}{x:E}{v:Value}(h:eP w M a x v):bR w M a x.cells v.cells.toList:=by
 cases x with
 |c x=>
  have d:=dO.one h;have:v.cells.toList=[v]:=by cases v<;>first|rfl|simp[Value.oneCell']at d
  rw[this];exact bR.one h
 |agg e=>obtain⟨f,rfl,b⟩:=h;exact b
def vI(a:Nat):T->Option T
 |.e (.c (.ptr s o))=>some (.e (.c (.ptr s (o+a))))
 |.e (.c (.ty s _ (.inl _)))=>some (.e (.c (.ptr s a)))
 |.e (.c (.gT b))=>some (.e (.c (.gT (b.drop a))))
 |_=>none
def Xb{w:World}{M:aq}{k:G}{c:Nat}{x r:T}{v:Value}(h:vI c x=some r)(d:b6 w M k x v):
 ∃a:Addr,v=.pointer (some a)/\b6 w M k r (.pointer (some (a.add c))):=by
 unfold vI at h;split at h
 ·injection h with h;subst h
  obtain⟨b,i,rfl⟩:=d;exact⟨_,rfl,b,i,by rw[uQ]⟩
 ·injection h with h;subst h
  obtain⟨b,_,i,_,rfl,_⟩:=d;exact⟨_,rfl,b,i,by rw[uQ,oo]⟩
 ·injection h with h;subst h
  obtain⟨a,rfl,f,e,o⟩:=d;refine⟨a,rfl,a.add c,rfl,Tz a c f,by rw[Cr];exact e,λj x l=>?_⟩;rw[m_]at l;obtain⟨u,m,n⟩:=o _ x l;exact⟨u,by rw[Iu];exact m,n⟩
 ·cases h
def aB7{P:ay}{o:Oper}{k:Operand->T}(s:TypeId)(x:ax)(f:Nat)(i:o.op=.fieldAddr s x f)(b:Nat)(j:TypeId)(n:Nat)
 (q:wq P s f=some (b,j))(Y:fb P j=some (n+1))(r:T)(l:vI b (k x)=some r):iu P o k r:=
 kJ λM v H w a _ h=>by obtain⟨y,z,m,c,u,t⟩:=TR q;obtain⟨A,e,p⟩:=Xb l (h x (by simp[i,Op.operands]));refine⟨_,?_,p⟩;have d:=od Y w;rw[<-t]at d;simp[execOp,i,Instr.fieldAt,run_underlying m,c,e,Instr.sureAddr,fieldPlace,d,u]
def C8(size:Nat)(i:Int):T->Option T
 |.e (.c (.sub s k a b))=>if 0<=i/\i<b/\k=size then some (.e (.c (.ptr s (a+i.toNat*k))))else none
 |.e (.c (.d (.sl f)))=>
  if 0<=i then
   match f[i.toNat]? with
   |some r=>if r.length=size then some (.e (.c (.gT r)))else none
   |none=>none
  else none
 |_=>none
def aB9{P:ay}{o:Oper}{R:Operand->T}(t:TypeId)(x C:ax)(z:o.op=.indexAddr t x C)(e:TypeId)(n:Nat)(k:IntKind)(i:Int)
 (Z:jF P t=some e)(Y:fb P e=some n)(hi:R C=.e (.c (.d (.sc (.int k i)))))(r:T)(f:C8 n i (R x)=some r):iu P o R r:=
 kJ λM γ H w a _ h=>by
  have y:=h x (by simp[z,Op.operands]);have v:=h C (by simp[z,Op.operands]);rw[hi]at v;have v:=gK v;unfold C8 at f;split at f
  ·rename_i s k' off B l;split at f
   ·rename_i hc;obtain⟨X,c2,rfl⟩:=hc;injection f with f;subst f
    rw[l]at y;rcases y with⟨b,V,cells,ty,hb,e1,_⟩|⟨_,_,Q,_⟩|⟨_,_,_,Q,_⟩
    ·refine⟨_,?_,b,hb,rfl⟩;have p:(0:Int)<=i/\i<(B:Int):=⟨X,c2⟩;simp[execOp,z,Instr.indexAt,v,asIntOf,run_underlying (u9 Z),e1,od Y,uQ,p]
    ·omega
    ·omega
   ·cases f
  ·rename_i es l;split at f
   ·rename_i X;split at f
    ·rename_i r' K;split at f
     ·rename_i hl;injection f with f;subst f
      rw[l]at y;generalize D:a.eval x=va at y;cases y with
      |sl _ kk V A U hcap hmax u hA hU=>
       have m:i.toNat<es.length:=(dM.1 K).1;obtain⟨ad,rfl,G,E,q⟩:=hA (by intro Q;rw[Q]at m;simp at m);have L:kk=n:=by rw[<-u r' (bF K),hl]
       subst L;have p:(0:Int)<=i/\i<(es.length:Int):=⟨X,O⟩;refine⟨.pointer (some (ad.add (i.toNat*kk))),?_,ad.add (i.toNat*kk),rfl,Tz _ _ G,by rw[Cr];exact E,λj x hj=>?_⟩
       ·simp[execOp,z,Instr.indexAt,v,asIntOf,run_underlying (u9 Z),D,od Y,p]
       ·have N:j<kk:=by have:=(dM.1 hj).1;omega
        refine⟨U i.toNat j,?_,hU i.toNat j x (by simp[K,hj])⟩;rw[Iu];exact q _ _ m N
     ·cases f
    ·cases f
   ·cases f
  ·cases f
def aB_{P:ay}{o:Oper}{m:Operand->T}(t:TypeId)(x j:ax)(l:o.op=.indexAddr t x j)(e:TypeId)(n b:Nat)(k:IntKind)(i:Int)
 (q:wo P t=some (b,e))(Y:fb P e=some n)(u:m j=.e (.c (.d (.sc (.int k i)))))(y:0<=i)(v:i<b)(r:T)(p:vI (i.toNat*n) (m x)=some r):iu P o m r:=
 kJ λM z H w a _ h=>by have f:=h j (by simp[l,Op.operands]);rw[u]at f;have f:=gK f;obtain⟨A,e,s⟩:=Xb p (h x (by simp[l,Op.operands]));refine⟨_,?_,s⟩;simp[execOp,l,Instr.indexAt,f,asIntOf,run_underlying (TO q),e,Instr.sureAddr,od Y,y,v]
def uP:T->Option Nat
 |.e (.c (.sub _ _ _ a))=>some a
 |.e (.c (.d (.sl b)))=>some b.length
 |.e (.c (.d (.sc (.slice _ n _))))=>some n
 |_=>none
def DM{w:World}{M:aq}{b:G}{x:T}{v:Value}{n:Nat}(h:uP x=some n)(a:b6 w M b x v):∃A c,v=.slice A n c:=by
 unfold uP at h;split at h<;>first|injection h with h;subst h|cases h
 ·rcases a with⟨_,_,_,_,_,rfl,_⟩|⟨_,_,rfl,rfl⟩|⟨_,_,_,rfl,rfl⟩<;>exact⟨_,_,rfl⟩
 ·cases a;exact⟨_,_,rfl⟩
 ·cases a;exact⟨_,_,rfl⟩
def aCb{P:ay}{o:Oper}{f:Operand->T}(t:TypeId)(x:ax)(b:o.op=.call { callee:=.builtin .len,args:=#[x],argTypes:=#[t]})(e:TypeId)(n:Nat)
 (k:jF P t=some e)(i:uP (f x)=some n):iu P o f (.e (.c (.d (.sc (.int .i64 n))))):=
 kJ λM l H w a _ h=>by obtain⟨A,c,j⟩:=DM i (h x (by simp[b,Op.operands,Call.operands]));refine⟨_,?_,.sc _ rfl⟩;simp[execOp,b,resolve,invoke,builtin,Builtin.len_,run_underlying (u9 k),j,goInt]
def aCc{P:ay}{o:Oper}{i:Operand->T}(t:TypeId)(x:ax)(b:o.op=.call { callee:=.builtin .len,args:=#[x],argTypes:=#[t]})(s:aA)
 (k:rB P t=true)(j:i x=.e (.c (.d (.sc (.string s))))):iu P o i (.e (.c (.d (.sc (.int .i64 s.size))))):=
 kJ λM l H w a _ h=>by have f:=h x (by simp[b,Op.operands,Call.operands]);rw[j]at f;refine⟨_,?_,.sc _ rfl⟩;simp[execOp,b,resolve,invoke,builtin,Builtin.len_,run_underlying (Ue k),gK f,goInt]
def aB5{P:ay}{o:Oper}{l:Operand->T}(x:ax)(i:Nat)(f:o.op=.extract x i)(c:List E)(r:E)(m:l x=.cn c)(d:c[i]?=some r):iu P o l (.e r):=
 kJ λM q H w a _ h=>by
  have k:=h x (by simp[f,Op.operands]);rw[m]at k;obtain⟨us,n,s,p⟩:=k;have j:i<us.length:=by have:=(dM.1 d).1;omega
  have b:us[i]?=some us[i]:=ca j;refine⟨us[i],?_,p i r _ d b⟩;simp[execOp,f,Instr.extract,n,j]
def kL(c:List V)(a:Nat)(b:List V):List V:=c.take a++b++c.drop (a+b.length)
def Ty{w:World}{M:aq}{b:G}{i e:List V}{c d:av}(a:Nat)(h:bR w M b i c)(f:bR w M b e d):
 bR w M b (kL i a e) (c.take a++d++c.drop (a+d.length)):=by
 unfold kL;rw[f.1];exact((h.take a).append f).append (h.drop _)
def abq(d:av):∀(a j:Nat)(b:Array Value),a+j+d.length<=b.size->
 ((d.zipIdx j).foldl (λb (c,j)=>b.setIfInBounds (a+j) c) b).toList=b.toList.take (a+j)++d++b.toList.drop (a+j+d.length):=by
 induction d with
 |nil=>intro a j b _;simp
 |cons u d h=>intro a j b f;simp only[List.zipIdx_cons,Ni];rw[h a (j+1) _ (by simp at f⊢;omega)];have e:=list_seg_step b.toList (a+j) u d (by simp at f⊢;omega);simpa[Array.toList_setIfInBounds,uj]using e
def vJ(place:Nat->Option (Nat×Nat))(cells:List V):List (Nat×T)->Option (List V)
 |[]=>some cells
 |(i,t)::rest=>
  match place i,t with
  |some (a,size),.e x=>if x.cells.length=size/\a+size<=cells.length then vJ place (kL cells a x.cells) rest else none
  |_,_=>none
def aa5{w:World}{M:aq}{γ:G}(place:Nat->Option (Nat×Nat)):∀(f:List (Nat×T)) (a:List (Nat×Value)) (cells:List V) (d:av) (r:List V),
 f.length=a.length->(∀(i:Nat)(p:Nat×T)(q:Nat×Value),f[i]?=some p->a[i]?=some q->p.1=q.1/\b6 w M γ p.2 q.2)->bR w M γ cells d->vJ place cells f=some r->
 ∃us:List Value,Instr.fill place d.toArray a=some us.toArray/\bR w M γ r us:=by
 intro f
 induction f with
 |nil=>
  intro a cells d r m _ n c;have:a=[]:=fc (an m.symm);subst this;simp only[vJ]at c;injection c with c;subst c
  exact⟨d,rfl,n⟩
 |cons p f z=>
  intro a cells d r m k n c;obtain⟨q,a,rfl⟩:∃q qs',a=q::qs':=by
   cases a with
   |nil=>simp at m
   |cons q a=>exact⟨q,a,rfl⟩
  obtain⟨i,t⟩:=p;obtain⟨j,v⟩:=q;obtain⟨y,u⟩:=k 0 _ _ rfl rfl;simp only at y u;subst y;simp only[vJ]at c;split at c
  ·rename_i b size x s;split at c
   ·rename_i e;obtain⟨D,E⟩:=e;have l:=eP.cells u;have hlen:v.cells.toList.length=size:=by rw[<-l.1,D]
    have A:=n.1
    obtain⟨us,o,h⟩:=z a (kL cells b x.cells) (d.take b++v.cells.toList++d.drop (b+v.cells.toList.length)) r (an m)
     (λi p q s C=>k (i+1) p q (an s) (an C)) (Ty b n l) c
    refine⟨us,?_,h⟩;simp only[Instr.fill,s];have B:v.cells.size=size:=an hlen;rw[g (by simp;omega)];rw[<-o];congr 1;have:=abq v.cells.toList b 0 d.toArray (by simp;omega);apply mW;rw[<-Array.toList_zipIdx,sV]at this;simp only[Array.foldl_toList]at this;simpa using this
   ·cases c
  ·cases c
def ej(a:G)(d:Nat)(b:Option Nat):G:=λs=>if s=d then some b else a s
def uk.ne{c:G}{s a:Nat}{v:Value}(h:uk c s a v):c s≠none:=by obtain⟨b,h,_⟩:=h;rw[h];simp
def dO.named{w:World}{M:aq}{c:G}{x:V}{v:Value}(h:dO w M c x v)(s:Nat)(Y:x.bK s):c s≠none:=by
 cases x with
 |ptr t a=>cases Y;exact uk.ne h
 |sub t k a j=>cases Y;rcases h with⟨b,_,_,_,h,_⟩|⟨h,_⟩|⟨b,_,h,_⟩<;>rw[h]<;>simp
 |cr f e=>obtain⟨p,l,rfl⟩:=Y;obtain⟨o,_,q,n⟩:=h;obtain⟨i,m,rfl⟩:=Nl l;exact uk.ne (n i _ (o[i]' O) (ca m) (ca O))
 |mp t=>cases Y;obtain⟨b,h,_⟩:=h;rw[h];simp
 |ty t _ _=>cases Y;obtain⟨b,_,h,_⟩:=h;rw[h];simp
 |dV r=>cases Y
 |d x=>cases Y
 |gT u=>cases Y
 |any=>cases Y
theorem bR.named{w:World}{M:aq}{a:G}{b:List V}{c:av}(h:bR w M a b c)(s:Nat)(Y:∃x∈b,x.bK s):a s≠none:=by obtain⟨x,d,Y⟩:=Y;obtain⟨i,f,rfl⟩:=Nl d;obtain⟨u,_,e⟩:=h.ET (ca f);exact e.named s Y
theorem eP.named{w:World}{M:aq}{a:G}{x:E}{v:Value}(h:eP w M a x v)(s:Nat)(Y:x.bK s):a s≠none:=by
 cases x with
 |c x=>exact dO.named h s Y
 |agg d=>obtain⟨e,_,b⟩:=h;exact b.named s Y
theorem b6.named{w:World}{M:aq}{a:G}{x:T}{v:Value}(h:b6 w M a x v)(s:Nat)(Y:x.bK s):a s≠none:=by
 cases x with
 |e x=>exact eP.named h s Y
 |cn j=>obtain⟨b,_,k,f⟩:=h;obtain⟨x,c,Y⟩:=Y;obtain⟨i,d,rfl⟩:=Nl c;exact(f i _ (b[i]' O) (ca d) (ca O)).named s Y
 |any=>cases Y
def vK(a:Act)(d:Option Nat)(v:Value)(i:Nat)(h:∀j,d=some j->j<a.tmps.size):
 (a.put d v).tmps.getD i undef=if d=some i then v else a.tmps.getD i undef:=by
 cases d with
 |none=>simp[Act.put]
 |some j=>
  have b:=h j rfl;by_cases e:j=i
  ·subst e;simp[Act.put,b]
  ·simp[Act.put,e]
def uW(a:Act)(d:Option Nat)(v:Value):(a.put d v).tmps.size=a.tmps.size:=by cases d<;>simp[Act.put]
def wi(a:Act)(d:Option Nat)(v:Value):(a.put d v).defers=a.defers:=by cases d<;>rfl
def rf(a:St)(d:Option Nat)(r:T)(i:Nat):(a.put d r).aT i=if d=some i then r else a.aT i:=by
 cases d with
 |none=>simp[St.put]
 |some j=>simp only[St.put,iX,cY];by_cases e:i=j<;>simp[e,eq_comm]
def Dw(σ:St)(d:Option Nat)(r:T):(σ.put d r).heap=σ.heap:=by cases d<;>rfl
def eX(P:ay)(n:Nat)(aS:aq)(o:Oper)(σ b:St):Prop:=
 ∀C:dY,C.nt=n->C.aS=aS->∀a w,gN C σ a w->∀(K:Act->World->Prop)(Q:Exit->Act->World->Prop),(∀d c,gN C b d c->K d c)->o.wp P a w K Q
def jy(n:Nat)(d:Option Nat):=∀j,d=some j->j<n
def eX.aA2{P:ay}{n:Nat}{aS:aq}{o:Oper}{b:St}{r:T}(h:iu P o b.ev r)(j:jy n o.dst):
 eX P n aS o b (b.put o.dst r):=by
 intro C f _ a w ⟨d,R⟩ K Q k;refine h C.M d b.heap w a R.mem (λx _=>R.ev x) K Q λv l c e=>k _ _ ⟨d,?_⟩
 refine⟨by rw[Dw];exact R.mem.F_ c,λi=>?_,R.aN.trans c (λ_ _ h=>h) (λ_ _ h=>h.elim),R.aW,R.aS,by rw[wi];exact R.defers,by rw[uW];exact R.size⟩;rw[vK _ _ _ _ (by rw[R.size,f];exact j),rf];split
 ·exact e
 ·exact(R.aT i).dI c.Fg λ_ _=>rfl
def t_(P:ay)(o:Oper)(h:Operand->T)(d:Nat)(i:List V)(r:T):Prop:=
 ∀(M:aq)(c:G)(H:eh)(w:World)(a:Act),Mem M c H w->(∀x∈o.op.operands.toList,b6 w M c (h x) (a.eval x))->
  ∀(K:Act->World->Prop)(Q:Exit->Act->World->Prop),
   (∀(v:Value)(e:World)(b:Nat)(t:TypeId)(f spare:av),fL q_ w e->w.heap.size<=b->e.heap[b]?=some (.cells (f++spare).toArray t (0,0))->
     bR w M c i f->b6 e M (ej c d (some b)) r v->K (a.put o.dst v) e)->o.wp P a w K Q
def t_.congr{P:ay}{o:Oper}{e c:Operand->T}{d:Nat}{f:List V}{r:T}(h:t_ P o e d f r)(l:∀x∈o.op.operands.toList,c x=e x):t_ P o c d f r:=
 λM i H w a k j K Q m=>h M i H w a k (λx b=>by rw[<-l x b];exact j x b) K Q m
def eX.aeE{P:ay}{n:Nat}{aS:aq}{o:Oper}{σ:St}{r:T}{d:Nat}{Z:List V}(h:t_ P o σ.ev d Z r)(hd:jy n o.dst)
 (hf:σ.heap d=none)(N:¬aS d):eX P n aS o σ ⟨(σ.put o.dst r).aT,cX σ.heap d (some Z)⟩:=by
 intro C hn B a w ⟨l,R⟩ K Q hK;refine h C.M l σ.heap w a R.mem (λx _=>R.ev x) K Q λv w' b t vs spare u hb M D hr=>hK _ _ ⟨ej l d (some b),?_⟩
 have A:l d=none:=R.mem.fW d hf;have k:la C.M l (ej l d (some b)) w w':=by
  refine⟨u.size,λx y=>u.same x y.1 (λh=>h),λx y s=>?_,u.iK⟩;unfold ej;split
  ·intro e;injection e with e;injection e with e;have:=y.1;omega
  ·exact y.2.2 s
 have f:∀s,l s≠none->ej l d (some b) s=l s:=by intro s Y;unfold ej;rw[g (by rintro rfl;exact Y A)]
 refine⟨⟨λx y=>l5 (R.mem.gG x y) u.size,?_,?_,?_,?_,R.mem.iU.dI k⟩,λi=>?_,R.aN.trans u (λ_ _ h=>h) (λ_ _ h=>h.elim),?_,?_,?_,?_⟩
 ·intro s H x c p;unfold ej at c p;split at c<;>split at p
  ·omega
  ·injection c with c;injection c with c;have:=R.mem.lt p;omega
  ·injection p with p;injection p with p;have:=R.mem.lt c;omega
  ·exact R.mem.inj s H x c p
 ·intro s x c;unfold ej at c;split at c
  ·injection c with c;injection c with c;intro hM;have:=R.mem.gG x hM;omega
  ·exact R.mem.nm s x c
 ·intro s Y;simp only[cX]at Y;unfold ej;split at Y
  ·cases Y
  ·rw[g I];exact R.mem.fW s Y
 ·intro s U Y;simp only[cX]at Y;split at Y
  ·rename_i e;subst e;injection Y with Y;subst Y
   exact .inl ⟨b,t,vs,spare,by simp[ej],M,D.dI k λs Y=>f s (D.named s Y)⟩
  ·rename_i hne;rcases R.mem.fe s U Y with⟨E,H,G,L,m,j,z⟩|⟨m,z⟩|⟨E,en,X,m,j,z⟩
   ·exact .inl ⟨E,H,G,L,by rw[f s (by rw[m];simp)];exact m,(u.same E (jA j) (λh=>h)).trans j,z.dI k λs Y=>f s (z.named s Y)⟩
   ·exact .inr (.inl ⟨by rw[f s (by rw[m];simp)];exact m,z⟩)
   ·exact .inr (.inr ⟨E,en,X,by rw[f s (by rw[m];simp)];exact m,(u.same E (jA j) (λh=>h)).trans j,z⟩)
 ·rw[vK _ _ _ _ (by rw[R.size,hn];exact hd)];show b6 _ _ _ ((σ.put o.dst r).aT i) _;rw[rf];split
  ·exact hr
  ·exact(R.aT i).dI k λs Y=>f s ((R.aT i).named s Y)
 ·intro s x c;unfold ej at c;split at c
  ·injection c with c;injection c with c;have:=R.aN.size;exact .inr O
  ·exact R.aW s x c
 ·intro s q;rw[B]at q;have:=R.aS s (by rw[B];exact q);unfold ej;rw[g (by rintro rfl;exact N q)];exact this
 ·rw[wi];exact R.defers
 ·rw[uW];exact R.size
def qY(w:World)(o:Obj):fL q_ w (w.alloc o):=
 ⟨rfl,rfl,rfl,bu _,ai,λb a _=>Below.heap_alloc w o b a,λb cells t h=>⟨cells,(Below.heap_alloc w o b (jA h)).trans h,rfl⟩⟩
def oB(w:World)(o:Obj):(w.alloc o).heap[w.heap.size]?=some o:=heap_alloc_new w o
def an3{P:ay}{o:Oper}{i:Operand->T}(t:TypeId)(x:ax)(b:o.op=.box t x)(d:Nat)(e:E)(j:i x=.e e):
 t_ P o i d e.cells (.e (.c (.ptr d 0))):=by
 intro M m H w a n h K Q l;have f:=h x (by simp[b,Op.operands]);rw[j]at f;have k:=eP.cells f;refine my (v:=.pointer (some ⟨w.heap.size,0,none⟩)) (w':=w.alloc (.cells (a.eval x).cells t)) ?_ ?_
 ·simp[execOp,b,Instr.box,newVar,newRow]
 ·refine l _ _ w.heap.size t (a.eval x).cells.toList [] (qY _ _) (bu _) ?_ k ⟨w.heap.size,by simp[ej],rfl⟩;rw[oB];simp
def jZ(P:ay)(t:TypeId):Option (List V):=(DU P t).bind λa=>if a.all (·.oneCell')then some (a.map λv=>.d (.sc v))else none
def Ht{w:World}{M:aq}{c:G}(zs:av)(h:zs.all (·.oneCell')=true):bR w M c (zs.map λv=>.d (.sc v)) zs:=by
 refine⟨ai,λi x u a b=>?_⟩;simp only[dU,b,dH]at a;injection a with a;subst a
 exact .sc u (by simp at h;exact h u (bF b))
def DV{P:ay}{t:TypeId}{c:List V}(h:jZ P t=some c):∃a,DU P t=some a/\c=a.map (λv=>.d (.sc v))/\a.all (·.oneCell')=true:=by
 unfold jZ at h;cases b:DU P t with
 |none=>simp[b]at h
 |some a=>
  simp only[b,Ca]at h;split at h
  ·rename_i e;injection h with h
   exact⟨a,rfl,h.symm,e⟩
  ·cases h
def an1{P:ay}{o:Oper}{q:Operand->T}(t:TypeId)(m:o.op=.alloc t)(d:Nat)(k:List V)(l:jZ P t=some k):
 t_ P o q d k (.e (.c (.ptr d 0))):=by
 intro M r H w a s h K Q p;obtain⟨j,i,rfl,n⟩:=DV l;obtain⟨z,b,f⟩:=Hi i w;refine my (v:=.pointer (some ⟨w.heap.size,0,none⟩)) (w':=w.alloc (.cells z.cells t)) ?_ ?_
 ·simp[execOp,m,Instr.alloc,b,newVar,newRow]
 ·refine p _ _ w.heap.size t j [] (qY _ _) (bu _) ?_ (Ht j n) ⟨w.heap.size,by simp[ej],rfl⟩;rw[oB,<-f];simp
def dy:List V->Bool
 |.dV _::_=>false
 |_=>true
def az1(a:List D):dy (a.map .d)=true:=by cases a<;>rfl
def mM(P:ay)(t:TypeId)(b:List V)(a:Nat):Option T:=
 match dy b,Hc P t with
 |true,some true=>
  match fb P t with
  |some n=>if a+n<=b.length then some (.e (.agg ((b.drop a).take n)))else none
  |none=>none
 |true,some false=>(b[a]?).map λv=>.e (.c v)
 |_,_=>none
def yP{w:World}{b:Nat}{cells:Array Value}{t:TypeId}(h:w.heap[b]?=some (.cells cells t (0,0)))(i:Nat):w.cell? ⟨b,i,none⟩=cells[i]? :=by simp[World.cell?,h]
def agX{P:ay}{w:World}{M:aq}{m:G}{t:TypeId}{l:List V}{e:av}{b:Nat}{r:T}{a:Addr}(c:mM P t l b=some r)
 (k:bR w M m l e)(o:∀j u,e[b+j]?=some u->w.cell? (a.add j)=some u):∃v,(Instr.loadAt t (.pointer (some a))).run P w=.ok v w/\b6 w M m r v:=by
 unfold mM at c;split at c
 ·rename_i _ d;split at c
  ·rename_i n q;split at c
   ·rename_i hlen;injection c with c;subst c
    have y:=k.1;have s:((e.drop b).take n).length=n:=by simp;omega
    refine⟨.agg ((e.drop b).take n).toArray,?_,(e.drop b).take n,rfl,(k.drop b).take n⟩;have:=run_loadCells_list (P:=P) w a ((e.drop b).take n) (λj u h=>o j u (by
     rw[rM]at h;split at h
     ·rwa [m_]at h
     ·cases h))
    rw[s]at this;simp[Instr.loadAt,Instr.sureAddr,loadVar,Mk d,od q,this]
   ·cases c
  ·cases c
 ·rename_i _ d;cases i:l[b]? with
  |none=>simp[i]at c
  |some x=>simp[i]at c;subst c;obtain⟨u,p,f⟩:=k.ET i;refine⟨u,?_,f⟩;have:=o 0 u (an p);simp only[Addr.add,oC]at this;simp[Instr.loadAt,Instr.sureAddr,loadVar,Mk d,this]
 ·cases c
def FY{vs spare:av}{i:Nat}{u:Value}(h:vs[i]?=some u):(vs++spare).toArray[i]?=some u:=by have a:i<vs.length:=(dM.1 h).1;rw[HR,B2,aK a,h]
def Mem.load{P:ay}{M:aq}{d:G}{H:eh}{w:World}(l:Mem M d H w){s c:Nat}{f:List V}(Y:H s=some f){t:TypeId}{r:T}(h:mM P t f c=some r)
 {v:Value}(k:uk d s c v):∃u,(Instr.loadAt t v).run P w=.ok u w/\b6 w M d r u:=by
 obtain⟨b,a,rfl⟩:=k;rcases l.fe s f Y with⟨q,p,o,spare,e,i,n⟩|⟨e,_⟩|⟨_,_,_,_,_,rfl⟩
 ·rw[e]at a;injection a with a;injection a with a;subst a
  exact agX h n λj u m=>by rw[uQ,yP i];exact FY m
 ·rw[e]at a;injection a with a;cases a
 ·simp[mM,dy]at h
theorem eX.load{P:ay}{n:Nat}{aS:aq}{o:Oper}{f:St}(t:TypeId)(x:ax)(q:o.op=.load t x)(s b:Nat)(j:List V)(r:T)
 (l:f.ev x=.e (.c (.ptr s b)))(Y:f.heap s=some j)(p:mM P t j b=some r)(z:jy n o.dst):eX P n aS o f (f.put o.dst r):=by
 intro C y _ a w ⟨k,R⟩ K Q A;have h:=R.ev x;rw[l]at h;obtain⟨u,m,d⟩:=R.mem.load Y p h;refine my (v:=u) (w':=w) (by simp[execOp,q,m]) (A _ _ ⟨k,?_⟩);refine⟨by rw[Dw];exact R.mem,λi=>?_,R.aN,R.aW,R.aS,by rw[wi];exact R.defers,by rw[uW];exact R.size⟩;rw[vK _ _ _ _ (by rw[R.size,y];exact z),rf];split
 ·exact d
 ·exact R.aT i
def aCd{P:ay}{o:Oper}{E:Operand->T}(t:TypeId)(x:ax)(B:o.op=.load t x)(ds:List D)(r:T)
 (k:E x=.e (.c (.gT ds)))(Q:mM P t (ds.map .d) 0=some r):iu P o E r:=
 kJ λM A H w a _ h=>by
  have C:=h x (by simp[B,Op.operands]);rw[k]at C;obtain⟨s,K,N,L,R⟩:=C;have q:∀j (x:D),ds[j]?=some x->∃u,w.cell? (s.add j)=some u/\dE w (cS w M A) x u:=R
  let vs:List Value:=(List.range ds.length).map λj=>(w.cell? (s.add j)).getD undef
  have l:∀(j:Nat)(u:Value),vs[j]?=some u->w.cell? (s.add j)=some u:=by
   intro j u p;have n:j<ds.length:=by have:=(dM.1 p).1;simpa[vs]using this
   obtain⟨G,b,_⟩:=q j _ (ca n);simp only[vs,dU,qB n,dH,b,ie,cY]at p;rw[b,p]
  have U:bR w M A (ds.map .d) vs:=by
   refine⟨by simp[vs],λi x u k v=>?_⟩;simp only[dU]at k;cases f:ds[i]? with
   |none=>simp[f]at k
   |some y=>
    simp[f]at k;subst k;obtain⟨G,b,z⟩:=q i y f;have:=l i u v;rw[b]at this;injection this with this;subst this
    exact z
  obtain⟨u,v,m⟩:=agX (P:=P) (a:=s) Q U λj u p=>l j u (an p)
  exact⟨u,by simp[execOp,B,K,v],m⟩
def dz.zB{C:dY}{o:G}{r:St}{a:Act}{w:World}(R:dz C o r a w){s b:Nat}{t:TypeId}{j:Array Value}{cs':List V}{vs' spare:av}
 (q:o s=some (some b))(z:w.heap[b]?=some (.cells j t (0,0)))(v:(vs'++spare).length=j.size)(M:bR w C.M o cs' vs')(y:r.heap s≠none):
 dz C o ⟨r.aT,cX r.heap s (some cs')⟩ a (w.setRow b (vs'++spare).toArray):=by
 have d:la C.M o o w (w.setRow b (vs'++spare).toArray):=by
  refine⟨ai,λx c=>setRow_other w b x _ (by rintro rfl;exact c.2.2 s q),λx c=>c.2.2,λx cells u c=>?_⟩;by_cases e:x=b
  ·subst e;rw[z]at c;injection c with c;injection c with P N
   subst P;subst N;exact⟨_,setRow_heap w x j _ t _ z,by simpa using v⟩
  ·exact⟨cells,(setRow_other w b x _ e).trans c,rfl⟩
 refine⟨⟨λx c=>by simpa using R.mem.gG x c,R.mem.inj,R.mem.nm,λx c=>?_,λx Z c=>?_,R.mem.iU.dI d⟩,λi=>(R.aT i).dI d λ_ _=>rfl,?_,R.aW,R.aS,R.defers,R.size⟩
 ·simp only[cX]at c;split at c
  ·cases c
  ·exact R.mem.fW x c
 ·simp only[cX]at c;split at c
  ·rename_i e;subst e;injection c with c;subst c
   exact .inl ⟨b,t,vs',spare,q,setRow_heap w b j _ t _ z,M.dI d λ_ _=>rfl⟩
  ·rename_i e;rcases R.mem.fe x Z c with⟨n,E,D,H,f,m,l⟩|Q|⟨n,T,A,f,m,l⟩
   ·exact .inl ⟨n,E,D,H,f,(setRow_other w b n _ (by rintro rfl;exact e (R.mem.inj x s n f q))).trans m,l.dI d λ_ _=>rfl⟩
   ·exact .inr (.inl Q)
   ·exact .inr (.inr ⟨n,T,A,f,(setRow_other w b n _ (by rintro rfl;exact e (R.mem.inj x s n f q))).trans m,l⟩)
 ·have k:=R.aN;have p:=R.aW s b q;refine⟨k.os,k.tape,k.output,k.drawn,by simpa using k.size,λx c B=>?_,λx cells u c=>?_⟩
  ·rw[setRow_other w b x _ (by rintro rfl;rcases p with h|h;exact B h;omega)];exact k.same x c B
  ·obtain⟨c1,X,L⟩:=k.iK x cells u c;obtain⟨c2,U,K⟩:=d.iK x c1 u X;exact⟨c2,U,K.trans L⟩
theorem dz.fe{C:dY}{f:G}{j:St}{a:Act}{w:World}(R:dz C f j a w){s b:Nat}{e:List V}(Y:j.heap s=some e)(k:f s=some (some b))(m:dy e=true):
 ∃(t:TypeId)(vs spare:av),w.heap[b]?=some (.cells (vs++spare).toArray t (0,0))/\bR w C.M f e vs:=by
 rcases R.mem.fe s e Y with⟨n,t,vs,l,c,i,h⟩|⟨d,_⟩|⟨_,_,_,_,_,rfl⟩
 ·rw[k]at c;injection c with c;injection c with c;subst c
  exact⟨t,vs,l,i,h⟩
 ·rw[k]at d;injection d with d;cases d
 ·cases m
def dz.IH{C:dY}{f:G}{k:St}{a:Act}{w:World}(R:dz C f k a w){s b:Nat}{j:List V}(Y:k.heap s=some j)(h:f s=some (some b)){n:Array Value}{t0:TypeId}(e:w.heap[b]?=some (.cells n t0 (0,0))):
 ∃(t:TypeId)(vs spare:av),w.heap[b]?=some (.cells (vs++spare).toArray t (0,0))/\bR w C.M f j vs:=by
 rcases R.mem.fe s j Y with⟨o,t,vs,l,c,d,i⟩|⟨e,_⟩|⟨o,p,m,c,d,_⟩
 ·rw[h]at c;injection c with c;injection c with c;subst c
  exact⟨t,vs,l,d,i⟩
 ·rw[h]at e;injection e with e;cases e
 ·rw[h]at c;injection c with c;injection c with c;subst c
  rw[e]at d;cases d
def aie(b c spare:av)(a:Nat)(h:a+c.length<=b.length):
 (b++spare).take a++c++(b++spare).drop (a+c.length)=(b.take a++c++b.drop (a+c.length))++spare:=by
 rw[B7 O,Wf O];simp
def dz.Bu{C:dY}{b:G}{c:St}{a:Act}{w:World}(R:dz C b c a w)(d:Option Nat)(f:jy C.nt d)(v:Value)(r:T)(e:b6 w C.M b r v):dz C b (c.put d r) (a.put d v) w:=by
 refine⟨by rw[Dw];exact R.mem,λi=>?_,R.aN,R.aW,R.aS,by rw[wi];exact R.defers,by rw[uW];exact R.size⟩;rw[vK _ _ _ _ (by rw[R.size];exact f),rf];split
 ·exact e
 ·exact R.aT i
theorem eX.store{P:ay}{n:Nat}{aS:aq}{o:Oper}{h:St}(t:TypeId)(x y:ax)(N:o.op=.store t x y)(i:o.dst=none)(s d:Nat)(j:List V)(e:E)(m:Nat)
 (H:h.ev x=.e (.c (.ptr s d)))(G:h.ev y=.e e)(Y:h.heap s=some j)(M:fb P t=some m)(T:e.cells.length=m)(hlen:d+m<=j.length)(X:dy j=true):
 eX P n aS o h ⟨h.aT,cX h.heap s (some (kL j d e.cells))⟩:=by
 intro C hn _ a w ⟨B,R⟩ K Q Z;have A:=R.ev x;have z:=R.ev y;rw[H]at A;rw[G]at z;obtain⟨b,r,L⟩:=A;obtain⟨D,k,spare,v,u⟩:=R.fe Y r X;have q:=eP.cells z;have p:=q.1;have U:=u.1;have l:(a.eval y).cells.size=m:=by rw[<-BL,<-p,T]
 have f:=run_storeCells_at P b d D (a.eval y).cells.toList 0 (k++spare).toArray w v (by simp;omega) q.xE;simp only[sV]at f;rw[aie k _ spare d (by simp;omega)]at f;refine UJ (w':=w.setRow b ((k.take d++(a.eval y).cells.toList++k.drop (d+(a.eval y).cells.toList.length))++spare).toArray) ?_ (Z _ _ ⟨B,?_⟩)
 ·simp only[execOp,N,Instr.storeAt,L,Instr.sureAddr,storeVar,Sem.run_bind,Sem.run_pure,Result.andThen_ok,od M,l,jC,not_true_eq_false,mK,f]
 ·have:=R.zB (cs':=kL j d e.cells) (spare:=spare) r v (by simp;omega) (Ty d u q) (by rw[Y];simp);rw[i];exact this
def nD(n:Nat)(a:List V):List V:=(List.replicate n a).flatten
def SH(a:av)(n:Nat):((Array.range (n*a.length)).map (λi=>a.toArray[i%a.toArray.size]!)).toList=(List.replicate n a).flatten:=by
 induction n with
 |zero=>simp
 |succ n c=>
  rw[List.replicate_succ',List.flatten_append,<-c];simp only[Array.toList_map,Array.toList_range];rw[rU,List.range_add];simp only[gB,ir,List.flatten_singleton];congr 1;apply ug;intro i;by_cases b:i<a.length
  ·simp[b,Nat.add_mod,Nat.mod_eq_of_lt b]
  ·simp[b]
def aC_{w:World}{M:aq}{a:G}{b:List V}{c:av}(h:bR w M a b c)(n:Nat):bR w M a (nD n b) (List.replicate n c).flatten:=by
 induction n with
 |zero=>exact bR.nil
 |succ n d=>simp only[nD,rR,Af]at d⊢;exact h.append d
def TS{P:ay}{e:TypeId}{k y:Nat}{l:List V}(f:fb P e=some k)(j:oc P e=some y)(n:jZ P e=some l):
 ∃(i:TypeInfo)(z:Value)(c:av),P.info? e=some i/\i.zero=some z/\i.size=k/\i.bytes=y/\z.cells=c.toArray/\l=c.map (λv=>.d (.sc v))/\c.all (·.oneCell')=true:=by
 obtain⟨c,a,h,o⟩:=DV n;unfold DU at a;unfold fb at f;unfold oc at j;cases m:P.info? e with
 |none=>simp[m]at f
 |some i=>
  simp only[m,dH,cY,Ca]at f j a;cases b:i.zero with
  |none=>simp[b]at a
  |some z=>simp only[b,dH,cY]at a;exact⟨i,z,c,rfl,b,f,j,by rw[<-a],h,o⟩
def NV{P:ay}{o:Oper}{ev:Operand->T}(t:TypeId)(q D:ax)(A:o.op=.makeSlice t q D)(d:Nat)(e:TypeId)(k y:Nat)(p:List V)(b:Nat)(E G:IntKind)
 (Z:jF P t=some e)(hk:fb P e=some k)(hb:oc P e=some y)(X:jZ P e=some p)(r:p.length=k)(hl:ev q=.e (.c (.d (.sc (.int E b)))))(hc:ev D=.e (.c (.d (.sc (.int G b)))))
 (n:y*b<=281474976710656)(N:b<=281474976710656):t_ P o ev d (nD b p) (.e (.c (.sub d k 0 b))):=by
 intro M γ H w a hm h K Q hK;obtain⟨i,z,j,hi,s,x,B,u,m,ha⟩:=TS hk hb X;have U:=h q (by simp[A,Op.operands]);have R:=h D (by simp[A,Op.operands]);rw[hl]at U;rw[hc]at R;have l:j.length=k:=by rw[<-r,m];simp
 have C:(i.bytes:Int)*(b:Int)<=281474976710656:=by
  have h:((i.bytes*b:Nat):Int)<=281474976710656:=by rw[B];omega
  rwa [Int.natCast_mul]at h
 have L:=run_make (P:=P) w t e i z (u9 Z) hi s E G b b O (B0 _) C O;have f:madeCells z.cells (b*i.size)=((List.replicate b j).flatten).toArray:=by apply mW;rw[<-SH j b,l,x,u];rfl
 simp only[bI,f]at L;refine my (v:=.slice (some ⟨w.heap.size,0,none⟩) b b) (w':=w.alloc (.cells ((List.replicate b j).flatten).toArray e)) ?_ ?_
 ·simp only[execOp,A,gK U,gK R,Sem.run_bind,L,Result.andThen_ok,Sem.run_pure]
 ·refine hK _ _ w.heap.size e ((List.replicate b j).flatten) [] (qY _ _) (bu _) (by rw[oB];simp) ?_ ?_
  ·rw[m];exact aC_ (Ht j ha) b
  ·refine .inl ⟨w.heap.size,b,((List.replicate b j).flatten).toArray,e,by simp[ej],rfl,bu _,by simp only[maxLen];omega,oB _ _,?_⟩;simp[l]
def V.b_(s:Nat):V->V
 |.ptr t o=>if t=s then .any else .ptr t o
 |.sub t k o l=>if t=s then .any else .sub t k o l
 |.cr f c=>if c.any (λp=>p.1==s)then .any else .cr f c
 |.mp t=>if t=s then .any else .mp t
 |.ty t a b=>if t=s then .any else .ty t a b
 |v=>v
def E.b_(s:Nat):E->E
 |.c v=>.c (v.b_ s)
 |.agg a=>.agg (a.map (V.b_ s))
def T.b_(s:Nat):T->T
 |.e x=>.e (x.b_ s)
 |.cn a=>.cn (a.map (E.b_ s))
 |.any=>.any
theorem dO.b_{w:World}{M:aq}{a:G}{x:V}{v:Value}(h:dO w M a x v)(s:Nat):dO w M a (x.b_ s) v:=by have b:=h.one;cases x<;>simp only[V.b_]<;>(try split)<;>first|exact h|exact b
def V.tA(x:V)(s:Nat):¬(x.b_ s).bK s:=by
 cases x with
 |ptr t o=>
  by_cases h:t=s
  ·simp only[V.b_,aK h];exact λh=>h
  ·simp only[V.b_,g h];exact h
 |sub t k o l=>
  by_cases h:t=s
  ·simp only[V.b_,aK h];exact λh=>h
  ·simp only[V.b_,g h];exact h
 |cr f a=>
  by_cases h:a.any (λp=>p.1==s)=true
  ·simp only[V.b_,aK h];exact λh=>h
  ·simp only[V.b_,g h];rintro⟨p,b,e⟩;apply h;simp only[uf,jw];exact⟨p,b,e⟩
 |mp t=>
  by_cases h:t=s
  ·simp only[V.b_,aK h];exact λh=>h
  ·simp only[V.b_,g h];exact h
 |ty t _ _=>
  by_cases h:t=s
  ·simp only[V.b_,aK h];exact λh=>h
  ·simp only[V.b_,g h];exact h
 |dV c=>exact λh=>h
 |d x=>exact λh=>h
 |gT i=>exact λh=>h
 |any=>exact λh=>h
theorem bR.b_{w:World}{M:aq}{d:G}{b:List V}{vs:av}(h:bR w M d b vs)(s:Nat):bR w M d (b.map (V.b_ s)) vs:=by
 refine⟨by simp[h.1],λi x u a e=>?_⟩;simp only[dU]at a;cases c:b[i]? with
 |none=>simp[c]at a
 |some y=>simp[c]at a;subst a;exact(h.2 i y u c e).b_ s
theorem eP.b_{w:World}{M:aq}{a:G}{x:E}{v:Value}(h:eP w M a x v)(s:Nat):eP w M a (x.b_ s) v:=by
 cases x with
 |c x=>exact dO.b_ h s
 |agg f=>obtain⟨b,e,d⟩:=h;exact⟨b,e,d.b_ s⟩
theorem E.tA(x:E)(s:Nat):¬(x.b_ s).bK s:=by
 cases x with
 |c x=>exact x.tA s
 |agg b=>rintro⟨y,a,h⟩;simp only[cj]at a;obtain⟨z,_,rfl⟩:=a;exact z.tA s h
theorem b6.b_{w:World}{M:aq}{c:G}{x:T}{v:Value}(h:b6 w M c x v)(s:Nat):b6 w M c (x.b_ s) v:=by
 cases x with
 |e x=>exact eP.b_ h s
 |cn d=>
  obtain⟨f,e,k,l⟩:=h;refine⟨f,e,by simpa using k,λi x u a j=>?_⟩;simp only[dU]at a;cases b:d[i]? with
  |none=>simp[b]at a
  |some y=>simp[b]at a;subst a;exact(l i y u b j).b_ s
 |any=>trivial
theorem T.tA(x:T)(s:Nat):¬(x.b_ s).bK s:=by
 cases x with
 |e x=>exact x.tA s
 |cn b=>rintro⟨y,a,h⟩;simp only[cj]at a;obtain⟨z,_,rfl⟩:=a;exact z.tA s h
 |any=>intro h;exact h
def St.b_(a:St)(s:Nat):St:=⟨λi=>(a.aT i).b_ s,λt=>(a.heap t).map (List.map (V.b_ s))⟩
def ER{P:ay}{w:World}{t e:TypeId}{k y:Nat}{zs:List V}(Z:TypeId)(ht:jF P t=some e)(hk:fb P e=some k)(hb:oc P e=some y)(hz:jZ P e=some zs)(hzk:zs.length=k)
 {A:Option Addr}{len cap:Nat}{vs spare:av}
 (U:(∃(b:Nat)(t0:TypeId),A=some ⟨b,0,none⟩/\w.heap[b]?=some (.cells (vs++spare).toArray t0 (0,0))/\cap*k<=(vs++spare).length)\/(len=0/\cap=0))
 (G:len<=cap)(hcap:cap<=maxLen)(s:vs.length=len*k)
 {B:Option Addr}{m c:Nat}{us:av}(n:us.length=m*k)(Q:m≠0->∃a,B=some a/\∀j u,us[j]?=some u->w.cell? (a.add j)=some u)(h1:∀u∈us,u.oneCell'=true)
 (v:(len+m)*y<=140737488355328)(l:len+m<=maxLen):
 ∃r o,(Builtin.append_ #[t,t] Z #[.slice A len cap,.slice B m c]).run P w=.ok r o/\
  ((r=.slice A (len+m) cap/\len+m<=cap/\((m=0/\o=w)\/(∃b t0,A=some ⟨b,0,none⟩/\w.heap[b]?=some (.cells (vs++spare).toArray t0 (0,0))/\us.length<=spare.length/\o=w.setRow b ((vs++us)++spare.drop us.length).toArray)))\/
   (∃d rest,r=.slice (some ⟨w.heap.size,0,none⟩) (len+m) d/\len+m<=d/\d<=maxLen/\d*k<=((vs++us)++rest).length/\o=w.drew.alloc (.cells ((vs++us)++rest).toArray e))):=by
 obtain⟨i,z,z0,T,L,hsz,X,hzc,hze,ha⟩:=TS hk hb hz;have K:z.cells.size=k:=by rw[hzc,<-hzk,hze];simp
 have M:=u9 ht;have hmax':len+m<=9223372036854775807:=by simp only[maxLen]at l;omega
 subst hsz;by_cases hm:m=0
 ·subst hm;have hus:us=[]:=fc (an n);subst hus;refine⟨.slice A len cap,w,?_,.inl ⟨ai,by simpa using G,.inl ⟨rfl,rfl⟩⟩⟩;have hf:(Builtin.firstCells i.size 0 (.slice B 0 c)).run P w=.ok #[] w:=by cases B<;>simp[Builtin.firstCells,loadCells,loadCellsFrom]
  cases A with
  |none=>simp[Builtin.append_,run_underlying M,sizeOf,typeInfo,T,Builtin.lenOf,G,hf]
  |some a=>simp[Builtin.append_,run_underlying M,sizeOf,typeInfo,T,Builtin.lenOf,G,hf,storeCells]
 ·obtain⟨a,rfl,h⟩:=Q hm;have D:∀x,x<len+m->Builtin.nextslicecap (len+m) x*i.bytes<=281474976710656:=λx ho=>growslice_fits ho (by rw[X];exact v)
  have p:∀(E:cap<len+m)(b:Addr),A=some b->(∀j u,vs[j]?=some u->w.cell? (b.add j)=some u)->
   ∃r o,(Builtin.append_ #[t,t] Z #[.slice A len cap,.slice (some a) m c]).run P w=.ok r o/\
    (∃d rest,r=.slice (some ⟨w.heap.size,0,none⟩) (len+m) d/\len+m<=d/\d<=maxLen/\d*i.size<=((vs++us)++rest).length/\o=w.drew.alloc (.cells ((vs++us)++rest).toArray e)):=by
   intro E b hA hold;subst hA;have C:=run_append_grow (P:=P) w t Z e i z M T L b len cap vs s hold a m c us n h E O (D cap E);refine⟨_,_,C,grownCap w (len+m) cap e,(Builtin.zeroCells z.cells (grownCap w (len+m) cap e-(len+m))).toList,rfl,grownCap_ge _ _ _ _,grownCap_le_maxLen _ _ _ _ l,?_,?_⟩
   ·have hge:=grownCap_ge w (len+m) cap e;simp only[c_,s,n,BL,size_zeroCells,K,<-jS];apply jI;omega
   ·congr 2;apply mW;simp
  rcases U with⟨b,t0,rfl,H,hcs⟩|⟨rfl,rfl⟩
  ·by_cases f:len+m<=cap
   ·have q:len*i.size+us.length<=(vs++spare).toArray.size:=by have:(len+m)*i.size<=cap*i.size:=jI _ f;rw[jS]at this;simp only[List.size_toArray];omega
    have hff:=run_firstCells_some (P:=P) w i.size m a m c us n h;have N:=run_storeCells_at P b (len*i.size) t0 us 0 (vs++spare).toArray w H (an q) h1;simp only[sV]at N;have hsl:us.length<=spare.length:=by simp at q;omega
    have R:(vs++spare).take (len*i.size)++us++(vs++spare).drop (len*i.size+us.length)=(vs++us)++spare.drop us.length:=by
     rw[<-s,Np,HO,HQ O]
     ·simp
     ·rfl
    refine⟨_,w.setRow b ((vs++us)++spare.drop us.length).toArray,?_,.inl ⟨rfl,f,.inr ⟨b,t0,rfl,H,hsl,rfl⟩⟩⟩;rw[<-R];simp[Builtin.append_,run_underlying M,sizeOf,typeInfo,T,Builtin.lenOf,f,hff,Addr.add_lit,N]
   ·obtain⟨r,o,C,h2⟩:=p O ⟨b,0,none⟩ rfl (λj u hj=>by rw[uQ,oo,yP H];exact FY hj);exact⟨r,o,C,.inr h2⟩
  ·have hvs:vs=[]:=fc (an s);subst hvs;cases A with
   |some b=>obtain⟨r,o,C,h2⟩:=p O b rfl (λj u hj=>by simp at hj);exact⟨r,o,C,.inr h2⟩
   |none=>
    have C:=run_append_nil (P:=P) w t Z e i z M T L a m c us n h O O (by rw[X];simp only[oo]at v;omega);simp only[oo]at l⊢;refine⟨_,_,C,.inr ⟨grownCap w m 0 e,(Builtin.zeroCells z.cells (grownCap w m 0 e-m)).toList,rfl,grownCap_ge _ _ _ _,grownCap_le_maxLen _ _ _ _ l,?_,?_⟩⟩
    ·have hge:=grownCap_ge w m 0 e;simp only[gi,c_,n,BL,size_zeroCells,K,<-jS];apply jI;omega
    ·congr 2;apply mW;simp
theorem dz.b_{C:dY}{l:G}{k:St}{a:Act}{w:World}(R:dz C l k a w)(s:Nat):dz C l (k.b_ s) a w:=by
 refine⟨⟨R.mem.gG,R.mem.inj,R.mem.nm,λt c=>?_,λt r c=>?_,R.mem.iU⟩,λi=>(R.aT i).b_ s,R.aN,R.aW,R.aS,R.defers,R.size⟩
 ·simp only[St.b_,Option.map_eq_none_iff]at c;exact R.mem.fW t c
 ·simp only[St.b_,gM]at c;obtain⟨h,p,rfl⟩:=c;rcases R.mem.fe t h p with⟨b,n,m,o,d,f,e⟩|⟨d,e⟩|⟨b,q,j,d,f,e⟩
  ·exact .inl ⟨b,n,m,o,d,f,e.b_ s⟩
  ·exact .inr (.inl ⟨d,by simp[e]⟩)
  ·exact .inr (.inr ⟨b,q,j,d,f,by simp[e,V.b_]⟩)
def dz.adC{C:dY}{p:G}{H:St}{a:Act}{w:World}(R:dz C p H a w){s:Nat}{t:TypeId}{D:List V}{f spare:av}(q:World)(k:q=w\/q=w.drew)
 (hc:bR w C.M p D f)(hn:∀x∈D,¬x.bK s)(P:¬C.aS s)(l:(∀i,¬(H.aT i).bK s)/\∀t E,t≠s->H.heap t=some E->∀x∈E,¬x.bK s):
 dz C (ej p s (some w.heap.size)) ⟨H.aT,cX H.heap s (some D)⟩ a (q.alloc (.cells (f++spare).toArray t)):=by
 have Q:q.heap=w.heap:=by rcases k with rfl|rfl<;>rfl
 have K:q.heap.size=w.heap.size:=by rw[Q]
 have hold:∀b,b<w.heap.size->(q.alloc (.cells (f++spare).toArray t)).heap[b]?=w.heap[b]? :=λb hb=>by rw[Below.heap_alloc _ _ _ (by rw[K];exact hb),Q]
 have L:(q.alloc (.cells (f++spare).toArray t)).heap[w.heap.size]?=some (.cells (f++spare).toArray t (0,0)):=by rw[<-K];exact oB _ _
 have B:w.heap.size<=(q.alloc (.cells (f++spare).toArray t)).heap.size:=by simp[Q]
 have z:la C.M p (ej p s (some w.heap.size)) w (q.alloc (.cells (f++spare).toArray t)):=by
  refine⟨B,λx d=>hold x d.1,λx d u=>?_,λx cells X d=>⟨cells,(hold x (jA d)).trans d,rfl⟩⟩;unfold ej;split
  ·intro e;injection e with e;injection e with e;have:=d.1;omega
  ·exact d.2.2 u
 have j:∀u,u≠s->ej p s (some w.heap.size) u=p u:=λu h=>by simp[ej,h]
 refine⟨⟨λx d=>l5 (R.mem.gG x d) B,?_,?_,?_,?_,R.mem.iU.dI z⟩,λi=>?_,?_,?_,?_,R.defers,R.size⟩
 ·intro u v x c A;unfold ej at c A;split at c<;>split at A
  ·omega
  ·injection c with c;injection c with c;have:=R.mem.lt A;omega
  ·injection A with A;injection A with A;have:=R.mem.lt c;omega
  ·exact R.mem.inj u v x c A
 ·intro u x c;unfold ej at c;split at c
  ·injection c with c;injection c with c;intro hM;have:=R.mem.gG x hM;omega
  ·exact R.mem.nm u x c
 ·intro u h;simp only[cX]at h;unfold ej;split at h
  ·cases h
  ·rw[g I];exact R.mem.fW u h
 ·intro u E h;simp only[cX]at h;split at h
  ·rename_i e;subst e;injection h with h;subst h
   exact .inl ⟨w.heap.size,t,f,spare,by simp[ej],L,hc.dI z λv r=>j v (by rintro rfl;obtain⟨x,d,r⟩:=r;exact hn x d r)⟩
  ·rename_i y;have m:=l.2 u E y h;have T:∀v,(∃x∈E,x.bK v)->ej p s (some w.heap.size) v=p v:=λv r=>j v (by rintro rfl;obtain⟨x,d,r⟩:=r;exact m x d r)
   rcases R.mem.fe u E h with⟨N,t',vs,sp,M,o,n⟩|⟨M,n⟩|⟨N,en,U,M,o,n⟩
   ·exact .inl ⟨N,t',vs,sp,by rw[j u y];exact M,(hold N (jA o)).trans o,n.dI z T⟩
   ·exact .inr (.inl ⟨by rw[j u y];exact M,n⟩)
   ·exact .inr (.inr ⟨N,en,U,by rw[j u y];exact M,(hold N (jA o)).trans o,n⟩)
 ·exact(R.aT i).dI z λv r=>j v (by rintro rfl;exact l.1 i r)
 ·have m:=R.aN;refine⟨?_,?_,?_,?_,eZ m.size B,λx d hp=>(hold x (l5 d m.size)).trans (m.same x d hp),λx cells X d=>?_⟩
  ·rcases k with rfl|rfl<;>exact m.os
  ·rcases k with rfl|rfl<;>exact m.tape
  ·rcases k with rfl|rfl<;>exact m.output
  ·rcases k with rfl|rfl
   ·exact m.drawn
   ·exact eZ m.drawn (Nat.le_succ _)
  ·obtain⟨c1,Z,s1⟩:=m.iK x cells X d;exact⟨c1,(hold x (jA Z)).trans Z,s1⟩
 ·intro u x c;unfold ej at c;split at c
  ·injection c with c;injection c with c;have:=R.aN.size;exact .inr O
  ·exact R.aW u x c
 ·intro u h;rw[j u (by rintro rfl;exact P h)];exact R.aS u h
def mS(k:Nat)(H:eh):T->Option (List V×Nat)
 |.e (.c (.d (.sl f)))=>if f.all (λr=>r.length==k)then some (f.flatten.map .d,f.length)else none
 |.e (.c (.sub s i b a))=>
  match H s with
  |some h=>if i=k/\b+a*k<=h.length then some ((h.drop b).take (a*k),a)else none
  |none=>none
 |.e (.c (.d (.sc (.slice none 0 0))))=>some ([],0)
 |_=>none
theorem FP{d:Type}(k:Nat):∀(b:List (List d)) (_:∀r∈b,r.length=k) (i j:Nat),j<k->b.flatten[i*k+j]?=(b[i]?).bind (λr=>r[j]?)
 |[],_,i,j,_=>by simp
 |r::b,h,i,j,c=>by
  have a:=h r ai;cases i with
  |zero=>simp[B2,a,c]
  |succ i=>have e:=FP k b (λr a=>h r (by simp[a])) i j c;simp only[Af,yr];rw[yq (by rw[a,rU];omega),a,<-e];congr 1;rw[rU];omega
theorem abj{b:Type}(k:Nat):∀(a:List (List b)),(∀r∈a,r.length=k)->a.flatten.length=a.length*k
 |[],_=>by simp
 |r::a,h=>by have c:=abj k a (λr d=>h r (by simp[d]));simp[h r ai,c,rU,Aj]
def Mb{w:World}{M:aq}{γ:G}{H:eh}(hm:Mem M γ H w){k:Nat}{x:T}{cs:List V}{m:Nat}{v:Value}(e:mS k H x=some (cs,m))(K:b6 w M γ x v):
 ∃(B:Option Addr)(c:Nat)(us:av),v=.slice B m c/\bR w M γ cs us/\us.length=m*k/\(m≠0->∃a,B=some a/\∀j u,us[j]?=some u->w.cell? (a.add j)=some u):=by
 unfold mS at e;split at e
 ·rename_i p;split at e
  ·rename_i X;injection e with e;injection e with h1 Z;subst h1;subst Z
   have f:∀r∈p,r.length=k:=an X;have hfl:=abj k p f;cases K with
   |sl _ kk E A U hcap hmax L hA hU=>
    refine⟨A,E,(List.range (p.length*k)).map (λn=>U (n/k) (n%k)),rfl,⟨by rw[dS,hfl];simp,λi x u e hu=>?_⟩,ai,λhne=>?_⟩
    ·have hi:i<p.length*k:=by have:=(dM.1 hu).1;simpa using this
     have z:0<k:=H4 (by rintro rfl;simp at hi);rw[dU,qB hi]at hu;simp only[dH,cY]at hu;subst hu;have P:=FP k p f (i/k) (i%k) (Nat.mod_lt _ z);rw[Nat.div_add_mod']at P;simp only[dU,P]at e;cases R:(p[i/k]?).bind (λr=>r[i%k]?)with
     |none=>rw[R]at e;simp at e
     |some y=>rw[R]at e;simp only[dH,cY]at e;subst e;exact hU _ _ y R
    ·have q:p≠[]:=by rintro rfl;simp at hne
     obtain⟨a,rfl,hsp,hst,hc⟩:=hA q;have hkk:kk=k:=by obtain⟨r,K⟩:=List.exists_mem_of_ne_nil p q;rw[<-L r K,f r K]
     subst hkk;refine⟨a,rfl,λj u l=>?_⟩;have C:j<p.length*kk:=by have:=(dM.1 l).1;simpa using this
     have z:0<kk:=H4 (by rintro rfl;simp at C);rw[dU,qB C]at l;simp only[dH,cY]at l;have:=hc (j/kk) (j%kk) (Nat.div_lt_of_lt_mul (by rw[Et];exact C)) (Nat.mod_lt _ z);rw[Nat.div_add_mod']at this;rw[this,l]
  ·cases e
 ·rename_i s k' t len;split at e
  ·rename_i cs0 Y;split at e
   ·rename_i D;obtain⟨rfl,hle⟩:=D;injection e with e;injection e with h1 Z;subst h1;subst Z
    rcases K with⟨b,E,cells,ty,N,rfl,_,_,R,_⟩|⟨N,rfl,rfl,rfl⟩|⟨b,off',N,rfl,rfl⟩
    ·rcases hm.fe s cs0 Y with⟨b',t',vs,sp,d,o,Q⟩|⟨d,_⟩|⟨b',en,clk,d,o,_⟩
     rotate_left 2
     ·rw[N]at d;injection d with d;injection d with d;subst d
      rw[R]at o;cases o
     ·rw[N]at d;injection d with d;injection d with d;subst d
      have hl:=Q.1;refine⟨some ⟨b,t,none⟩,E,(vs.drop t).take (len*k'),rfl,(Q.drop t).take _,by simp;omega,λ_=>⟨_,rfl,λj u l=>?_⟩⟩;rw[uQ,yP o];apply FY;rw[rM]at l;split at l
      ·rwa [m_]at l
      ·cases l
     ·rw[N]at d;injection d with d;cases d
    ·exact⟨none,0,[],rfl,by simpa using bR.nil,ai,λh=>absurd rfl h⟩
    ·exact⟨_,0,[],rfl,by simpa using bR.nil,ai,λh=>absurd rfl h⟩
   ·cases e
  ·cases e
 ·injection e with e;injection e with h1 Z;subst h1;subst Z
  cases K;exact⟨none,0,[],rfl,bR.nil,ai,λh=>absurd rfl h⟩
 ·cases e
def FI{P:ay}{o:Oper}{a:Act}{w w':World}{x y:ax}{t:TypeId}{v:Value}(b:o.op=.call { callee:=.builtin .append,args:=#[x,y],argTypes:=#[t,t]})
 (h:(Builtin.append_ #[t,t] o.type #[a.eval x,a.eval y]).run P w=.ok v w'):(execOp a.eval o).run P w=.ok (.value v) w':=by
 simp[execOp,b,resolve,invoke,builtin,h]
theorem eX.append{P:ay}{n:Nat}{aS:aq}{o:Oper}{σ:St}(x y:ax)(t:TypeId)(ho:o.op=.call { callee:=.builtin .append,args:=#[x,y],argTypes:=#[t,t]})
 (d s k len:Nat)(hdst:o.dst=some d)(Z news:List V)(m:Nat)(hx:σ.ev x=.e (.c (.sub s k 0 len)))(Y:σ.heap s=some Z)(hcs:Z.length=len*k)(hy:mS k σ.heap (σ.ev y)=some (news,m))
 (e:TypeId)(bytes:Nat)(zs:List V)(ht:jF P t=some e)(hk:fb P e=some k)(hb:oc P e=some bytes)(hz:jZ P e=some zs)(hzk:zs.length=k)
 (hcn:∀v∈Z,¬v.bK s)(hnn:∀v∈news,¬v.bK s)(hfit:(len+m)*bytes<=140737488355328)(hmax:len+m<=140737488355328)(hst:¬aS s)(hd:d<n):
 eX P n aS o σ ⟨iX (λi=>(σ.aT i).b_ s) d (.e (.c (.sub s k 0 (len+m)))),cX (λu=>(σ.heap u).map (List.map (V.b_ s))) s (some (Z++news))⟩:=by
 intro C hn hstay a w ⟨γ,R⟩ K Q hK;have h1:=R.ev x;rw[hx]at h1;obtain⟨B,c,us,hvy,z,hul,hsrc⟩:=Mb R.mem hy (R.ev y);have U:len+m<=maxLen:=by simp only[maxLen];omega
 have hdd:jy C.nt o.dst:=by rw[hdst,hn];intro j hj;injection hj with hj;omega
 have l:=R.b_ s;have hkk:(∀i,¬((σ.b_ s).aT i).bK s)/\∀u Z,u≠s->(σ.b_ s).heap u=some Z->∀v∈Z,¬v.bK s:=by refine⟨λi=>T.tA _ s,λu Z _ hu v hv=>?_⟩;simp only[St.b_,gM]at hu;obtain⟨cs0,_,rfl⟩:=hu;simp only[cj]at hv;obtain⟨v0,_,rfl⟩:=hv;exact v0.tA s
 have hcns:∀v∈Z++news,¬v.bK s:=by
  intro v hv;rcases dd.1 hv with h|h
  ·exact hcn v h
  ·exact hnn v h
 have me:∀(γ':G)(v':Value)(w':World),dz C γ' ⟨(σ.b_ s).aT,cX (σ.b_ s).heap s (some (Z++news))⟩ a w'->b6 w' C.M γ' (.e (.c (.sub s k 0 (len+m)))) v'->K (a.put o.dst v') w':=by intro γ' v' w' R' hr;refine hK _ _ ⟨γ',?_⟩;have:=R'.Bu o.dst hdd v' _ hr;rw[hdst]at this⊢;exact this
 have q:∀(vs:av)(f:Nat)(rest:av),bR w C.M γ Z vs->len+m<=f->f<=maxLen->f*k<=((vs++us)++rest).length->
  K (a.put o.dst (.slice (some ⟨w.heap.size,0,none⟩) (len+m) f)) (w.drew.alloc (.cells ((vs++us)++rest).toArray e)):=by
  intro vs f rest hc h1 h2 h3;have R':=l.adC (s:=s) (t:=e) (spare:=rest) w.drew (.inr rfl) (hc.append z) hcns (by rw[hstay];exact hst) hkk;refine me _ _ _ R' (.inl ⟨w.heap.size,f,((vs++us)++rest).toArray,e,by simp[ej],rfl,h1,h2,?_,by simpa using h3⟩);exact oB w.drew _
 rcases h1 with⟨b,cap,cells,ty,hg,hvx,hlc,hcm,X,M⟩|⟨hg,_,h0,hvx⟩|⟨b,off',hg,h0,hvx⟩
 ·obtain⟨t0,vs,spare,L,H⟩:=R.IH Y hg X;rw[L]at X;injection X with X;injection X with X _;subst X
  have hl0:=H.1
  obtain⟨v',w',D,E⟩:=ER (P:=P) (w:=w) o.type ht hk hb hz hzk (A:=some ⟨b,0,none⟩) (len:=len) (cap:=cap) (vs:=vs) (spare:=spare) (B:=B) (m:=m) (c:=c) (us:=us)
   (.inl ⟨b,t0,rfl,L,by simpa using M⟩) hlc hcm O hul hsrc z.xE hfit U
  refine my (v:=v') (w':=w') (FI ho (by rw[hvx,hvy];exact D)) ?_;rcases E with⟨rfl,hle,⟨rfl,hw0⟩|⟨b1,t1,hA,hb1,hsl,rfl⟩⟩|⟨f,rest,rfl,h1,h2,h3,rfl⟩
  ·have p:us=[]:=fc (an hul);have N:news=[]:=fc (by rw[z.1,p];rfl);subst p;subst N;rw[hw0];refine me γ _ _ ?_ (.inl ⟨b,cap,_,t0,hg,ai,by simpa using hlc,hcm,L,M⟩);have:=l.zB (s:=s) (cs':=Z++[]) (vs':=vs) (spare:=spare) hg L ai (an H) (by simp[St.b_,Y]);rwa [setRow_self w b _ t0 _ L]at this
  ·injection hA with hA;injection hA with hA;subst hA
   refine me γ _ _ (l.zB (s:=s) (cs':=Z++news) (vs':=vs++us) (spare:=spare.drop us.length) hg L (by simp;omega) (H.append z) (by simp[St.b_,Y])) ?_;refine .inl ⟨b,cap,_,t0,hg,rfl,hle,hcm,setRow_heap w b _ _ t0 _ L,?_⟩;simp at M⊢;omega
  ·exact q vs f rest H h1 h2 h3
 ·subst h0;rcases R.mem.fe s Z Y with⟨b',t',vs,sp,r,hb',hc'⟩|⟨_,H⟩|⟨b',en,clk,r,hb',hc'⟩
  rotate_left 2
  ·rw[hg]at r;injection r with r;cases r
  ·rw[hg]at r;injection r with r;cases r
  ·subst H
   obtain⟨v',w',D,E⟩:=ER (P:=P) (w:=w) o.type ht hk hb hz hzk (A:=none) (len:=0) (cap:=0) (vs:=[]) (spare:=[]) (B:=B) (m:=m) (c:=c) (us:=us)
    (.inr ⟨rfl,rfl⟩) (bu _) (dD _) ai hul hsrc z.xE hfit U
   refine my (v:=v') (w':=w') (FI ho (by rw[hvx,hvy];exact D)) ?_;rcases E with⟨rfl,hle,⟨rfl,hw0⟩|⟨b1,t1,hA,_⟩⟩|⟨f,rest,rfl,h1,h2,h3,rfl⟩
   ·have p:us=[]:=fc (an hul);have N:news=[]:=fc (by rw[z.1,p];rfl);subst p;subst N;rw[hw0];refine me γ _ _ ?_ (.inr (.inl ⟨hg,rfl,rfl,rfl⟩));have hup:cX (σ.b_ s).heap s (some ([]++[]))=(σ.b_ s).heap:=by
     funext u;simp only[cX];split
     ·rename_i e;subst e;simp[St.b_,Y]
     ·rfl
    rw[hup];exact l
   ·cases hA
   ·exact q [] f rest bR.nil h1 h2 h3
 ·subst h0;have hcs0:Z=[]:=fc (an hcs);subst hcs0;obtain⟨t0,vs,spare,L,H⟩:=R.fe Y hg rfl;have hvs0:vs=[]:=fc (by have:=H.1;simpa using this.symm);subst hvs0
  obtain⟨v',w',D,E⟩:=ER (P:=P) (w:=w) o.type ht hk hb hz hzk (A:=some ⟨b,off',none⟩) (len:=0) (cap:=0) (vs:=[]) (spare:=[]) (B:=B) (m:=m) (c:=c) (us:=us)
   (.inr ⟨rfl,rfl⟩) (bu _) (dD _) ai hul hsrc z.xE hfit U
  refine my (v:=v') (w':=w') (FI ho (by rw[hvx,hvy];exact D)) ?_;rcases E with⟨rfl,hle,⟨rfl,hw0⟩|⟨b1,t1,hA,hb1,hsl,rfl⟩⟩|⟨f,rest,rfl,h1,h2,h3,rfl⟩
  ·have p:us=[]:=fc (an hul);have N:news=[]:=fc (by rw[z.1,p];rfl);subst p;subst N;rw[hw0];refine me γ _ _ ?_ (.inr (.inr ⟨b,off',hg,rfl,rfl⟩));have hup:cX (σ.b_ s).heap s (some ([]++[]))=(σ.b_ s).heap:=by
    funext u;simp only[cX];split
    ·rename_i e;subst e;simp[St.b_,Y]
    ·rfl
   rw[hup];exact l
  ·have p:us=[]:=fc (an hsl);have hm0:m=0:=O;subst hm0;have N:news=[]:=fc (by rw[z.1,p];rfl);subst p;subst N;injection hA with hA;injection hA with hA _;subst hA
   refine me γ _ _ ?_ (.inr (.inr ⟨b,off',hg,rfl,rfl⟩));simp at hb1;have:=l.zB (s:=s) (cs':=[]++[]) (vs':=[]++[]) (spare:=([]:av).drop 0) hg hb1 ai (an bR.nil) (by simp[St.b_,Y]);simpa using this
  ·exact q [] f rest bR.nil h1 h2 h3
def fh(P:ay)(f:FuncId):Prop:=∀(args:Array Value)(w:World),(callFunc f args).run P w=.ok (.enter f args) w
def fH{P:ay}{f:FuncId}{b:Func}{c:Code}(d:P.funcs[f]?=some b)(a:(b.name== "runtime.NumGoroutine")=false)(e:b.body=some c):fh P f:=by intro args w;have h:b.name≠ "runtime.NumGoroutine" :=an a;simp[callFunc,d,h,e,mark]
def tI:eh:=λ_=>none
def iw:G:=λ_=>none
def Im(M:aq)(c:G)(w:World)(f:eh)(aS:aq)(r:T)(e:Ending)(d:World):Prop:=
 ∃v a,e=.returned v/\Mem M a f d/\b6 d M a r v/\fL (λb=>∃s,c s=some (some b)) w d/\
  (∀s b,a s=some (some b)->(∃t,c t=some (some b))\/w.heap.size<=b)/\∀s,aS s->a s=c s
def cN(P:ay)(f:FuncId)(H:eh)(args:List E)(c:eh)(aS:aq)(r:T):Prop:=
 fh P f/\∀(M:aq)(b:G)(w:World)(a:av),Mem M b H w->lb w M b args a->Calls P f a.toArray w (Im M b w c aS r)
def li(P:ay)(f:FuncId)(args:List E)(r:T):Prop:=cN P f tI args tI (λ_=>False) r
def uV(M:aq)(a:G):Nat->Prop:=λb=>M b\/∃s,a s=some (some b)
def By{w:World}{M:aq}{d:G}{b:Nat}:cS w (uV M d) iw b↔cS w M d b:=by
 constructor
 ·rintro⟨c,a,_⟩;exact⟨c,λh=>a (.inl h),λs h=>a (.inr ⟨s,h⟩)⟩
 ·rintro⟨c,a,e⟩;refine⟨c,?_,λs h=>by cases h⟩;rintro(h|⟨s,h⟩)
  ·exact a h
  ·exact e s h
def dO.DR{w:World}{M:aq}{t:G}{x:V}{v:Value}(h:dO w M t x v)(l:∀s,¬x.bK s):dO w (uV M t) iw x v:=by
 cases x with
 |d x=>exact dE.mono h (λb r=>By.2 r) (λ_ _=>rfl)
 |ptr s m=>exact(l s rfl).elim
 |sub s k m z=>exact(l s rfl).elim
 |gT R=>obtain⟨a,e,q,o,H⟩:=h;refine⟨a,e,q,By.2 o,λj x E=>?_⟩;obtain⟨u,A,B⟩:=H j x E;exact⟨u,A,B.mono (λb r=>By.2 r) (λ_ _=>rfl)⟩
 |cr f y=>obtain⟨K,e,D,L⟩:=h;refine⟨K,e,D,λi p c C _=>(l p.1 ⟨p,bF C,rfl⟩).elim⟩
 |mp s=>exact(l s rfl).elim
 |ty s _ _=>exact(l s rfl).elim
 |dV N=>cases h
 |any=>exact h
def dO.xD{w:World}{M:aq}{t:G}{x:V}{v:Value}(h:dO w (uV M t) iw x v):dO w M t x v:=by
 have l:∀s,¬x.bK s:=λs Y=>h.named s Y rfl
 cases x with
 |d x=>exact dE.mono h (λb r=>By.1 r) (λ_ _=>rfl)
 |ptr s m=>exact(l s rfl).elim
 |sub s k m z=>exact(l s rfl).elim
 |gT R=>obtain⟨a,e,q,o,H⟩:=h;refine⟨a,e,q,By.1 o,λj x E=>?_⟩;obtain⟨u,A,B⟩:=H j x E;exact⟨u,A,B.mono (λb r=>By.1 r) (λ_ _=>rfl)⟩
 |cr f y=>obtain⟨K,e,D,L⟩:=h;refine⟨K,e,D,λi p c C _=>(l p.1 ⟨p,bF C,rfl⟩).elim⟩
 |mp s=>exact(l s rfl).elim
 |ty s _ _=>exact(l s rfl).elim
 |dV N=>cases h
 |any=>exact h
theorem bR.DR{w:World}{M:aq}{b:G}{a:List V}{vs:av}(h:bR w M b a vs)(e:∀s,¬ ∃x∈a,x.bK s):bR w (uV M b) iw a vs:=
 ⟨h.1,λi x u c d=>(h.2 i x u c d).DR λs Y=>e s ⟨x,bF c,Y⟩⟩
theorem bR.xD{w:World}{M:aq}{a:G}{b:List V}{vs:av}(h:bR w (uV M a) iw b vs):bR w M a b vs:=
 ⟨h.1,λi x u c d=>(h.2 i x u c d).xD⟩
theorem eP.DR{w:World}{M:aq}{a:G}{x:E}{v:Value}(h:eP w M a x v)(b:∀s,¬x.bK s):eP w (uV M a) iw x v:=by
 cases x with
 |c x=>exact dO.DR h b
 |agg i=>obtain⟨d,e,f⟩:=h;exact⟨d,e,f.DR b⟩
theorem eP.xD{w:World}{M:aq}{a:G}{x:E}{v:Value}(h:eP w (uV M a) iw x v):eP w M a x v:=by
 cases x with
 |c x=>exact dO.xD h
 |agg f=>obtain⟨b,e,d⟩:=h;exact⟨b,e,d.xD⟩
theorem b6.xD{w:World}{M:aq}{a:G}{x:T}{v:Value}(h:b6 w (uV M a) iw x v):b6 w M a x v:=by
 cases x with
 |e x=>exact eP.xD h
 |cn k=>obtain⟨b,e,f,j⟩:=h;exact⟨b,e,f,λi x u c d=>(j i x u c d).xD⟩
 |any=>trivial
def D.cH:D->D
 |.sc (.slice none 0 0)=>.sl []
 |x=>x
def V.cH:V->V
 |.d x=>.d x.cH
 |v=>v
def E.cH:E->E
 |.c v=>.c v.cH
 |.agg a=>.agg (a.map V.cH)
def T.cH:T->T
 |.e x=>.e x.cH
 |.cn a=>.cn (a.map E.cH)
 |.any=>.any
theorem dE.cH{w:World}{Z:aq}{x:D}{v:Value}(h:dE w Z x v):dE w Z x.cH v:=by
 unfold D.cH;split
 ·cases h;exact .sl [] 0 0 none (λ_ _=>undef) (bu _) (by simp only[maxLen];omega) (λr b=>by simp at b) (λh=>absurd rfl h) (λi j x a=>by simp at a)
 ·exact h
theorem dO.cH{w:World}{M:aq}{a:G}{x:V}{v:Value}(h:dO w M a x v):dO w M a x.cH v:=by cases x<;>first|exact dE.cH h|exact h
theorem bR.cH{w:World}{M:aq}{d:G}{b:List V}{vs:av}(h:bR w M d b vs):bR w M d (b.map V.cH) vs:=by
 refine⟨by simp[h.1],λi x u a e=>?_⟩;simp only[dU]at a;cases c:b[i]? with
 |none=>simp[c]at a
 |some y=>simp[c]at a;subst a;exact(h.2 i y u c e).cH
theorem eP.cH{w:World}{M:aq}{a:G}{x:E}{v:Value}(h:eP w M a x v):eP w M a x.cH v:=by
 cases x with
 |c x=>exact dO.cH h
 |agg f=>obtain⟨b,e,d⟩:=h;exact⟨b,e,d.cH⟩
theorem b6.cH{w:World}{M:aq}{c:G}{x:T}{v:Value}(h:b6 w M c x v):b6 w M c x.cH v:=by
 cases x with
 |e x=>exact eP.cH h
 |cn d=>
  obtain⟨f,e,k,l⟩:=h;refine⟨f,e,by simpa using k,λi x u a j=>?_⟩;simp only[dU]at a;cases b:d[i]? with
  |none=>simp[b]at a
  |some y=>simp[b]at a;subst a;exact(l i y u b j).cH
 |any=>trivial
def azO{M:aq}{d:G}{H:eh}{w:World}(h:Mem M d H w):Mem (uV M d) iw tI w:=
 ⟨λb a=>a.elim (h.gG b) (λ⟨_,Y⟩=>h.lt Y),(λs t b c=>by cases c),(λs b c=>by cases c),(λ_ _=>rfl),(λs e Y=>by cases Y),h.iU.to (λb a=>By.2 a) (λ_ _=>rfl)⟩
def aoq{w:World}{M:aq}{f:G}{o:Operand->T}{a:Act}{args:List E}(b:List Operand)(h:∀x∈b,b6 w M f (o x) (a.eval x))(j:(b.map λx=>(o x).cH)=args.map .e):
 lb w M f args (b.map a.eval):=by
 have q:b.length=args.length:=by have:=aY List.length j;simpa using this
 refine⟨by simp[q],λi x u p c=>?_⟩;simp only[dU]at c;cases d:b[i]? with
 |none=>simp[d]at c
 |some y=>simp[d]at c;subst c;have m:=(h y (bF d)).cH;have k:=aY (λl=>l[i]?) j;simp only[dU,d,p,dH,cY]at k;rw[k]at m;exact m
def aB1{P:ay}{o:Oper}{D:Operand->T}(f:FuncId)(l:Array Operand)(L:Array TypeId)(C:o.op=.call { callee:=.value (.func f),args:=l,argTypes:=L})
 (args:List E)(r:T)(Y:li P f args r)(A:(l.toList.map λx=>(D x).cH)=args.map .e)(U:∀x∈args,∀s,¬x.bK s):iu P o D r:=by
 intro M B H w a V h K Q hK;obtain⟨q,X⟩:=Y;have c:=aoq (a:=a) l.toList (λx m=>h x (by rw[C];simp only[Op.operands,Call.operands];simp at m⊢;exact .inr m)) A;have d:lb w (uV M B) iw args (l.toList.map a.eval):=⟨c.1,λi x u m N=>(c.2 i x u m N).DR (U x (bF m))⟩;have k:=X (uV M B) iw w _ (azO V) d;unfold Oper.wp;have p:(execOp a.eval o).run P w=.ok (.enter f (l.toList.map a.eval).toArray) w:=by simp only[execOp,C,resolve,Act.eval,Deferred.ofValue,Sem.run_bind,Sem.run_pure,Result.andThen_ok,invoke];rw[q];congr 2;apply mW;simp
 rw[p];refine k.mono λe G A=>?_
 obtain⟨v,t,rfl,z,R,j,_,_⟩:=A;have y:t=iw:=funext λs=>z.fW s rfl
 subst y;refine hK v G ?_ R.xD;exact⟨j.os,j.tape,j.output,j.drawn,j.size,λb Z _=>j.same b Z (λ⟨s,Y⟩=>by cases Y),j.iK⟩
structure lI where
 fC:St->Prop
 ext:Nat->St->Prop
 ret:St->Prop
def lI.at(Q:lI):Exit->St->Prop
 |.normal,σ=>Q.fC σ
 |.exit i,σ=>Q.ext i σ
 |.ret,σ=>Q.ret σ
 |_,_=>False
def WP(P:ay)(n:Nat)(aS:aq)(c:Code)(σ:St)(Q:lI):Prop:=
 ∀C:dY,C.nt=n->C.aS=aS->∀a w,gN C σ a w->c.wp P (λe f d=>∃b,gN C b f d/\Q.at e b) a w
def fP(P:ay)(n:Nat)(aS:aq)(c:aw)(l:List Oper)(σ:St)(K:St->Prop):Prop:=
 ∀C:dY,C.nt=n->C.aS=aS->∀a w,gN C σ a w->∀Q:Exit->Act->World->Prop,(∀e d b,gN C b e d->K b->Q .normal e d)->wpList P c Q l a w
section
variable {P:ay}{n:Nat}{aS:Nat→Prop}{σ:St}{Q:lI}
theorem WP.skip(h:Q.fC σ):WP P n aS .skip σ Q:=λ_ _ _ _ _ R=>wp_skip ⟨σ,R,h⟩
theorem WP.ret(h:Q.ret σ):WP P n aS .ret σ Q:=λ_ _ _ _ _ R=>wp_ret ⟨σ,R,h⟩
theorem WP.exit{i:Nat}(h:Q.ext i σ):WP P n aS (.exit i) σ Q:=λ_ _ _ _ _ R=>wp_exit ⟨σ,R,h⟩
theorem WP.seq{k j:Code}(h:WP P n aS k σ ⟨λb=>WP P n aS j b Q,Q.ext,Q.ret⟩):WP P n aS (.seq k j) σ Q:=by
 intro C f Y a w R;refine wp_seq (wp_mono (h C f Y a w R) λe o m ⟨b,d,c⟩=>?_);cases e with
 |normal=>exact c C f Y o m d
 |exit i=>exact⟨b,d,c⟩
 |ret=>exact⟨b,d,c⟩
 |goto l=>cases c
 |panic p=>cases c
 |outgrown=>cases c
theorem WP.block{c:Code}{i:Nat}(h:WP P n aS c σ ⟨Q.fC,λj b=>if j=i then Q.fC b else Q.ext j b,Q.ret⟩):WP P n aS (.block i c) σ Q:=by
 intro C k Y a w R;refine wp_block (wp_mono (h C k Y a w R) λe p m ⟨b,f,d⟩=>?_);cases e with
 |normal=>exact⟨b,f,d⟩
 |exit j=>
  simp only[lI.at]at d;simp only[Exit.inBlock];split at d
  ·rename_i e;rw[aK e];exact⟨b,f,d⟩
  ·rename_i e;rw[g e];exact⟨b,f,d⟩
 |ret=>exact⟨b,f,d⟩
 |goto l=>cases d
 |panic o=>cases d
 |outgrown=>cases d
theorem WP.cond{c:ax}{x y:Code}(t:Bool)(k:σ.ev c=.e (.c (.d (.sc (.bool t)))))(m:t=true->WP P n aS x σ Q)(l:t=false->WP P n aS y σ Q):WP P n aS (.cond c x y) σ Q:=by intro C j Y a w R;obtain⟨i,f⟩:=R;have h:=f.ev c;rw[k]at h;exact wp_cond_split (gK h) (λb=>m b C j Y a w ⟨i,f⟩) (λb=>l b C j Y a w ⟨i,f⟩)
def dm(n:Nat)(aS:aq)(σ b:St):=∀C:dY,C.nt=n->C.aS=aS->∀a w,gN C σ a w->gN C b a w
def WP.tX{c:Code}{b:St}(e:dm n aS σ b)(h:WP P n aS c b Q):WP P n aS c σ Q:=λC d Y a w R=>h C d Y a w (e C d Y a w R)
def WP.mono{c:Code}{Q':lI}(h:WP P n aS c σ Q)(l:∀σ,Q.fC σ->Q'.fC σ)(k:∀i σ,Q.ext i σ->Q'.ext i σ)(j:∀σ,Q.ret σ->Q'.ret σ):WP P n aS c σ Q':=
 λC f Y a w R=>wp_mono (h C f Y a w R) λe p o ⟨d,m,b⟩=>⟨d,m,by cases e<;>first|exact l _ b|exact k _ _ b|exact j _ b|exact b⟩
theorem WP.loop{c:Code}{X:Type}(Z:X->St)(G:X->Prop)(z:X->Nat)(B:X)(V:dm n aS σ (Z B))(g0:G B)
 (round:∀x,G x->WP P n aS c (Z x) ⟨λq=>∃y,dm n aS q (Z y)/\G y/\z y<z x,Q.ext,Q.ret⟩):WP P n aS (.loop c) σ Q:=by
 intro C H Y a w R b k M
 have D:∀m (x:X),z x=m->G x->∀a w,gN C (Z x) a w->
  ∃e A w',(∃q,gN C q A w'/\Q.at e q)/\Arrives P (lone (b.at a (.code c::.inLoop c::k)) M w) b k M e A w':=by
  intro m
  induction m using Nat.strongRecOn with
  |_ m N=>
   intro x T U a w R;obtain⟨e,h,f,⟨j,p,r⟩,d⟩:=round x U C H Y a w R b (.inLoop c::k) M;cases e with
   |normal=>obtain⟨y,E,L,K⟩:=r;obtain⟨u,v,t,s,o⟩:=N (z y) (T▸K) y rfl L h f (E C H Y h f p);exact⟨u,v,t,s,.of_steps (Steps.trans d (.one step_inLoop)) o⟩
   |exit i=>exact⟨.exit i,h,f,⟨j,p,r⟩,.pass (x:=.inLoop c) rfl (λ_ _=>.inl ai) d⟩
   |ret=>exact⟨.ret,h,f,⟨j,p,r⟩,.pass (x:=.inLoop c) rfl (λ_ _=>.inl ai) d⟩
   |goto l=>cases r
   |panic ch=>cases r
   |outgrown=>cases r
 obtain⟨e,A,w',r,d⟩:=D _ B rfl g0 a w (V C H Y a w R);exact⟨e,A,w',r,.of_steps (.one step_loop) d⟩
end
section
variable {P:ay}{n:Nat}{aS:Nat→Prop}{ops:aw}{rest:List Oper}{o:Oper}{σ σ':St}{K:St→Prop}
def fP.nil(h:K σ):fP P n aS ops [] σ K:=λ_ _ _ a w R _ b=>b a w σ R h
def fP.step(i:o.guard=none)(Y:eX P n aS o σ σ')(h:fP P n aS ops rest σ' K):fP P n aS ops (o::rest) σ K:=
 λC d b a w R Q f=>wpList_plain i λl c=>Y C d b a w R l Q λj e k=>c _ _ (h C d b j e k Q f)
def UM{C:dY}{a:Act}{w:World}(R:gN C σ a w){j t:Nat}{b:Bool}(i:(ops[j]?).bind (·.dst)=some t)(k:σ.aT t=.e (.c (.d (.sc (.bool b))))):yielded ops a.tmps j=some b:=by
 obtain⟨l,R⟩:=R;have h:=R.aT t;rw[k]at h;have h:=gK h;unfold yielded;rw[i];simp only[Ca];cases f:a.tmps[t]? with
 |none=>simp[MJ,f,undef]at h
 |some v=>simp[MJ,f]at h;rw[h]
def fP.UL{j t:Nat}{want:Bool}(p:o.guard=some (j,want))(m:(ops[j]?).bind (·.dst)=some t)(q:σ.aT t=.e (.c (.d (.sc (.bool want)))))
 (Y:eX P n aS o σ σ')(h:fP P n aS ops rest σ' K):fP P n aS ops (o::rest) σ K:=
 λC i b a w R Q l=>wpList_step λu f=>by rw[aK (by simp[Region.wanted,p,UM R m q])];exact Y C i b a w R u Q λr k s=>f _ _ (h C i b r k s Q l)
def fP.tX(c:dm n aS σ σ'){l:List Oper}(h:fP P n aS ops l σ' K):fP P n aS ops l σ K:=λC b Y a w R=>h C b Y a w (c C b Y a w R)
theorem WP.region{id:Nat}{l:List Oper}{Q:lI}(h:fP P n aS l.toArray l σ Q.fC):WP P n aS (.region id l.toArray false) σ Q:=
 λC b Y a w R=>wp_region_lit (h C b Y a w R _ λ_ _ σ' d c=>⟨σ',d,c⟩)
end
def pU(x y:T):=∀(w:World)(M:aq)(a:G)(v:Value),b6 w M a x v->b6 w M a y v
def lF(c b:List V):=(∀(w:World)(M:aq)(a:G)(d:av),bR w M a c d->bR w M a b d)/\∀e,c=[.dV e]->b=[.dV e]
def pU.refl(x:T):pU x x:=λ_ _ _ _ h=>h
def lF.refl(x:List V):lF x x:=⟨λ_ _ _ _ h=>h,λ_ h=>h⟩
theorem lF.cH(x:List V):lF x (x.map V.cH):=⟨λ_ _ _ _ h=>h.cH,λa h=>by subst h;rfl⟩
def mk:List (Nat×T)->Nat->T
 |[],_=>.any
 |(j,t)::r,i=>if i=j then t else mk r i
def bJ:List (Nat×List V)->eh
 |[],_=>none
 |(j,t)::r,i=>if i=j then some t else bJ r i
theorem adv:∀(l:List (Nat×T)) (i:Nat),mk l i=.any\/(i,mk l i)∈l
 |[],_=>.inl rfl
 |(j,t)::r,i=>by
  simp only[mk];split
  ·rename_i e;subst e;exact .inr ai
  ·rcases adv r i with h|h
   ·exact .inl h
   ·exact .inr (cE _ h)
def dm.refl(n:Nat)(aS:aq)(σ:St):dm n aS σ σ:=λ_ _ _ _ _ h=>h
def dm.trans{n:Nat}{aS:aq}{a b c:St}(h:dm n aS a b)(k:dm n aS b c):dm n aS a c:=λC d Y x w R=>k C d Y x w (h C d Y x w R)
def aU(k a b:Nat)(c:List D):List (List D):=(List.range b).map λi=>(c.drop (a+i*k)).take k
def V.cL(s:Nat)(i:List D):V->V
 |.sub t k c h=>if t=s then(if c+h*k<=i.length then .d (.sl (aU k c h i))else .any)else .sub t k c h
 |.ptr t c=>if t=s then .any else .ptr t c
 |.cr f e=>if e.any (λp=>p.1==s)then .any else .cr f e
 |.mp t=>if t=s then .any else .mp t
 |.ty t a b=>if t=s then .any else .ty t a b
 |v=>v
def E.cL(s:Nat)(a:List D):E->E
 |.c v=>.c (v.cL s a)
 |.agg b=>.agg (b.map (V.cL s a))
def T.cL(s:Nat)(a:List D):T->T
 |.e x=>.e (x.cL s a)
 |.cn b=>.cn (b.map (E.cL s a))
 |.any=>.any
def St.cL(σ:St)(s:Nat)(a:List D):St:=⟨λi=>(σ.aT i).cL s a,λt=>if t=s then none else(σ.heap t).map (List.map (V.cL s a))⟩
def ll(a:G)(s:Nat):G:=λt=>if t=s then none else a t
def aDp{k c b:Nat}{e:List D}{i j:Nat}{x:D}(a:((aU k c b e)[i]?).bind (λr=>r[j]?)=some x):i<b/\j<k/\e[c+i*k+j]?=some x:=by
 unfold aU at a;rw[dU]at a;by_cases d:i<b
 ·rw[qB d]at a;simp only[dH,Ca]at a;rw[rM]at a;split at a
  ·rename_i f;rw[m_]at a;exact⟨d,f,a⟩
  ·cases a
 ·rw[gp (an d)]at a;simp at a
theorem dO.cL{w:World}{M:aq}{y:G}{H:eh}(hm:Mem M y H w){s:Nat}{C:List D}(Y:H s=some (C.map .d)){x:V}{v:Value}(h:dO w M y x v):dO w M (ll y s) (x.cL s C) v:=by
 have h1:=h.one;have Z:∀u b,ll y s u=some b->y u=some b:=by
  intro u b h;unfold ll at h;split at h
  ·cases h
  ·exact h
 have m:la M y (ll y s) w w:=⟨bu _,λ_ _=>rfl,λb hb u h=>hb.2.2 u (Z u _ h),λ_ cells _ h=>⟨cells,h,rfl⟩⟩;have z:∀u,u≠s->ll y s u=y u:=λu q=>by simp[ll,q]
 cases x with
 |d x=>exact dO.dI (x:=.d x) m h (λ_ h=>h.elim)
 |gT ds'=>exact dO.dI (x:=.gT ds') m h (λ_ h=>h.elim)
 |any=>exact h
 |dV es=>cases h
 |mp t=>
  by_cases e:t=s
  ·simp only[V.cL,aK e];exact h1
  ·simp only[V.cL,g e];exact dO.dI (x:=.mp t) m h (λu q=>z u (by cases q;exact e))
 |ty t a b=>
  by_cases e:t=s
  ·simp only[V.cL,aK e];exact h1
  ·simp only[V.cL,g e];exact dO.dI (x:=.ty t a b) m h (λu q=>z u (by cases q;exact e))
 |ptr t l=>
  by_cases e:t=s
  ·simp only[V.cL,aK e];exact h1
  ·simp only[V.cL,g e];exact dO.dI (x:=.ptr t l) m h (λu q=>z u (by cases q;exact e))
 |cr f E=>
  by_cases e:E.any (λp=>p.1==s)=true
  ·simp only[V.cL,aK e];exact h1
  ·simp only[V.cL,g e];refine dO.dI (x:=.cr f E) m h (λu q=>z u ?_);rintro rfl;obtain⟨p,hp,e2⟩:=q;apply e;simp only[uf,jw];exact⟨p,hp,e2⟩
 |sub t k l len=>
  by_cases e:t=s
  ·subst e;simp only[V.cL,oC];by_cases hlen:l+len*k<=C.length
   ·rw[aK hlen];have Q:(aU k l len C).length=len:=by simp[aU]
    rcases h with⟨b,cap,cells,ty,R,rfl,hlc,hcm,hb,hroom⟩|⟨R,rfl,rfl,rfl⟩|⟨b,T,R,rfl,rfl⟩
    ·rcases hm.fe t _ Y with⟨b',t',vs,sp,c,A,hc'⟩|⟨c,_⟩|⟨b',en,clk,c,A,_⟩
     rotate_left 2
     ·rw[R]at c;injection c with c;injection c with c;subst c
      rw[hb]at A;cases A
     ·rw[R]at c;injection c with c;injection c with c;subst c
      have N:cS w M (ll y t) b:=by refine⟨jA A,hm.nm t b R,λu q=>?_⟩;have h2:=Z u _ q;have:=hm.inj u t b h2 R;subst this;simp[ll]at q
      have hdl:=hc'.1;simp only[dS]at hdl;have U:dE w (cS w M (ll y t)) (.sl (aU k l len C)) (.slice (some ⟨b,l,none⟩) (aU k l len C).length cap):=by
       refine .sl (aU k l len C) k cap (some ⟨b,l,none⟩) (λi j=>(vs[l+i*k+j]?).getD undef) (by rw[Q];exact hlc) hcm (λr B=>?_) (λ_=>?_) (λi j x L=>?_)
       ·simp only[aU,cj,ol]at B;obtain⟨i,hi,rfl⟩:=B;have:(i+1)*k<=len*k:=jI _ hi;rw[rU]at this;simp;omega
       ·refine⟨_,rfl,rfl,N,λi j hi hj=>?_⟩;rw[Q]at hi;have:(i+1)*k<=len*k:=jI _ hi;rw[rU]at this;have X:l+i*k+j<vs.length:=O;rw[uQ,yP A,<-uj];rw[ca X,ie];exact FY (ca X)
       ·obtain⟨hi,hj,L⟩:=aDp L;obtain⟨u,q,B⟩:=hc'.ET (x:=.d x) (i:=l+i*k+j) (by simp[L]);rw[q,ie];exact dO.dI (x:=.d x) m B (λ_ h=>h.elim)
      rw[Q]at U;exact U
     ·rw[R]at c;injection c with c;cases c
    ·exact .sl [] 0 0 none (λ_ _=>undef) (bu _) (by simp only[maxLen];omega) (λr B=>by simp at B) (λh=>absurd rfl h) (λi j x L=>by simp at L)
    ·have:aU k l 0 C=[]:=rfl;rw[this];exact .sl [] 0 0 (some ⟨b,T,none⟩) (λ_ _=>undef) (bu _) (by simp only[maxLen];omega) (λr B=>by simp at B) (λh=>absurd rfl h) (λi j x L=>by simp at L)
   ·rw[g hlen];exact h1
  ·simp only[V.cL,g e];exact dO.dI (x:=.sub t k l len) m h (λu q=>z u (by cases q;exact e))
theorem bR.cL{w:World}{M:aq}{b:G}{H:eh}(k:Mem M b H w){s:Nat}{f:List D}(Y:H s=some (f.map .d)){c:List V}{vs:av}(h:bR w M b c vs):bR w M (ll b s) (c.map (V.cL s f)) vs:=by
 refine⟨by simp[h.1],λi x u a j=>?_⟩;simp only[dU]at a;cases e:c[i]? with
 |none=>simp[e]at a
 |some y=>simp[e]at a;subst a;exact(h.2 i y u e j).cL k Y
theorem eP.cL{w:World}{M:aq}{a:G}{H:eh}(b:Mem M a H w){s:Nat}{f:List D}(Y:H s=some (f.map .d)){x:E}{v:Value}(h:eP w M a x v):eP w M (ll a s) (x.cL s f) v:=by
 cases x with
 |c x=>exact dO.cL b Y h
 |agg k=>obtain⟨i,e,j⟩:=h;exact⟨i,e,j.cL b Y⟩
theorem b6.cL{w:World}{M:aq}{b:G}{H:eh}(f:Mem M b H w){s:Nat}{j:List D}(Y:H s=some (j.map .d)){x:T}{v:Value}(h:b6 w M b x v):b6 w M (ll b s) (x.cL s j) v:=by
 cases x with
 |e x=>exact eP.cL f Y h
 |cn k=>
  obtain⟨l,e,n,o⟩:=h;refine⟨l,e,by simpa using n,λi x u a m=>?_⟩;simp only[dU]at a;cases c:k[i]? with
  |none=>simp[c]at a
  |some y=>simp[c]at a;subst a;exact(o i y u c m).cL f Y
 |any=>trivial
def dm.freeze{n:Nat}{aS:aq}{σ:St}(s:Nat)(r:List D)(Y:σ.heap s=some (r.map .d))(o:¬aS s):dm n aS σ (σ.cL s r):=by
 intro C E c a w ⟨m,R⟩;have f:∀u b,ll m s u=some b->m u=some b:=by
  intro u b h;unfold ll at h;split at h
  ·cases h
  ·exact h
 refine⟨ll m s,⟨R.mem.gG,λu t b x y=>R.mem.inj u t b (f u _ x) (f t _ y),λu b x=>R.mem.nm u b (f u _ x),λu h=>?_,λu G h=>?_,R.mem.iU.to (λb j=>⟨j.1,j.2.1,λu h=>j.2.2 u (f u _ h)⟩) (λ_ _=>rfl)⟩,λi=>(R.aT i).cL R.mem Y,R.aN,λu b x=>R.aW u b (f u _ x),λu h=>?_,R.defers,R.size⟩
 ·simp only[St.cL]at h;unfold ll;split at h
  ·rename_i e;rw[aK e]
  ·rename_i e;rw[g e];exact R.mem.fW u (an h)
 ·simp only[St.cL]at h;split at h
  ·cases h
  ·rename_i e;rw[gM]at h;obtain⟨p,A,rfl⟩:=h;rcases R.mem.fe u p A with⟨b,t,v,z,k,j,l⟩|⟨k,l⟩|⟨b,B,q,k,j,l⟩
   ·exact .inl ⟨b,t,v,z,by simp[ll,e,k],j,l.cL R.mem Y⟩
   ·exact .inr (.inl ⟨by simp[ll,e,k],by simp[l]⟩)
   ·exact .inr (.inr ⟨b,B,q,by simp[ll,e,k],j,by simp[l,V.cL]⟩)
 ·rw[c]at h;have:=R.aS u (by rw[c];exact h);unfold ll;rw[g (by rintro rfl;exact o h)];exact this
def zx(P:ay)(b:St):ResultVar->Option T
 |.tmp t=>some (b.aT t)
 |.cell a t=>
  match b.aT a with
  |.e (.c (.ptr s d))=>match b.heap s with|some f=>mM P t f d|none=>none
  |_=>none
def toE:T->Option E
 |.e x=>some x
 |_=>none
def uZ(P:ay)(a:St):List ResultVar->Option (List E)
 |[]=>some []
 |r::c=>
  match(zx P a r).bind toE,uZ P a c with
  |some x,some b=>some (x::b)
  |_,_=>none
def sF(P:ay)(a:List ResultVar)(b:St):Option T:=
 match a with
 |[r]=>zx P b r
 |a=>(uZ P b a).map .cn
def GU(a:Act):ResultVar->Sem Value
 |.tmp t=>pure (a.tmps.getD t undef)
 |.cell b t=>do loadVar t (<-asAddr (a.tmps.getD b undef))
def aDa(c:Func)(a:Act):results c a.tmps=(do let b<-c.results.mapM (GU a);pure (if h:b.size=1 then b[0]else .tuple b)):=rfl
def agj{P:ay}{C:dY}{e:G}{d:St}{a:Act}{w:World}(R:dz C e d a w){r:ResultVar}{x:T}(h:zx P d r=some x):
 ∃v,(GU a r).run P w=.ok v w/\b6 w C.M e x v:=by
 cases r with
 |tmp t=>
  simp only[zx]at h;injection h with h;subst h
  exact⟨_,rfl,R.aT t⟩
 |cell b t=>
  simp only[zx]at h;split at h
  ·rename_i s j l;split at h
   ·rename_i m Y;have c:=R.aT b;rw[l]at c;obtain⟨u,i,k⟩:=R.mem.load Y h c;refine⟨u,?_,k⟩;obtain⟨n,_,f⟩:=c;rw[f]at i;simp only[GU,f];simpa[Instr.loadAt,Instr.sureAddr,asAddr]using i
   ·cases h
  ·cases h
theorem agh{P:ay}{C:dY}{s:G}{q:St}{a:Act}{w:World}(R:dz C s q a w):∀(j:List ResultVar)(d:List E),uZ P q j=some d->
 ∃f:List Value,(j.mapM (m:=Sem) (GU a)).run P w=.ok f w/\lb w C.M s d f
 |[],d,h=>by
  simp only[uZ]at h;injection h with h;subst h
  exact⟨[],ai,rfl,λi x u n=>by simp at n⟩
 |r::j,d,h=>by
  simp only[uZ]at h;split at h
  ·rename_i x z n k;injection h with h;subst h
   obtain⟨t,B,c⟩:=Ia.1 n;obtain⟨v,A,D⟩:=agj R B;obtain⟨f,o,H,K⟩:=agh R j z k;have b:t=.e x:=by cases t<;>simp[toE]at c;rw[c]
   subst b;refine⟨v::f,?_,by simp[H],λi y u l p=>?_⟩
   ·rw[HS];simp only[Sem.run_bind,A,o,Result.andThen_ok,Sem.run_pure]
   ·cases i with
    |zero=>simp at l p;subst l;subst p;exact D
    |succ i=>exact K i y u (an l) (an p)
  ·cases h
def LI{P:ay}{C:dY}{o:G}{b:St}{a:Act}{w:World}(R:dz C o b a w)(n:Func){r:T}(h:sF P n.results.toList b=some r):∃v,(results n a.tmps).run P w=.ok v w/\b6 w C.M o r v:=by
 rw[aDa];generalize u:n.results=A at h;obtain⟨l⟩:=A;simp only at h;rw[List.mapM_toArray];unfold sF at h;split at h
 ·rename_i f;obtain⟨v,s,d⟩:=agj R h;refine⟨v,?_,d⟩;have:(([f]:List ResultVar).mapM (m:=Sem) (GU a)).run P w=.ok [v] w:=by rw[HS];simp only[Sem.run_bind,s,Result.andThen_ok,List.mapM_nil,Sem.run_pure]
  simp only[Sem.run_bind,Sem.run_map,this,Result.andThen_ok,Sem.run_pure];simp
 ·rename_i k;cases c:uZ P b l with
  |none=>rw[c]at h;simp at h
  |some xs=>
   rw[c]at h;simp only[dH,cY]at h;subst h;obtain⟨e,j,d⟩:=agh R l xs c;refine⟨.tuple e.toArray,?_,e,rfl,d⟩;simp only[Sem.run_bind,Sem.run_map,j,Result.andThen_ok,Sem.run_pure];have t:e.length≠1:=by
    rw[<-d.1];intro z;have:l.length=1:=by
     have y:∀(l:List ResultVar)(xs:List E),uZ P b l=some xs->l.length=xs.length:=by
      intro l
      induction l with
      |nil=>intro xs h;simp only[uZ]at h;injection h with h;subst h;rfl
      |cons r B q=>
       intro xs h;simp only[uZ]at h;split at h
       ·rename_i x p _ i;injection h with h;subst h
        simp[q p i]
       ·cases h
     rw[y l xs c,z]
    match l,this with
    |[f],_=>exact k f rfl
   simp[t]
def zV:Nat->List E->List (Nat×T)
 |_,[]=>[]
 |k,x::a=>(k,.e x)::zV (k+1) a
def nH(args:List E):Nat->T:=mk (zV 0 args)
theorem ajC:∀(args:List E)(k i:Nat),mk (zV k args) (k+i)=match args[i]? with|some x=>.e x|none=>.any
 |[],k,i=>by simp[zV,mk]
 |x::a,k,i=>by
  cases i with
  |zero=>simp[zV,mk]
  |succ i=>have:=ajC a (k+1) i;rw[show k+1+i=k+(i+1)by omega]at this;simp only[zV,mk];rw[g O,this];simp
def Xz(args:List E)(i:Nat):nH args i=match args[i]? with|some x=>.e x|none=>.any:=by have:=ajC args 0 i;rwa [oo]at this
theorem cN.intro{P:ay}{f:FuncId}{m:Func}{c:Code}(hf:P.funcs[f]?=some m)(D:m.body=some c)(L:(m.name== "runtime.NumGoroutine")=false){args:List E}{H p:eh}{aS:aq}{r:T}
 (hn:args.length<=m.ntmps)(hst:∀s,aS s->p s≠none)(hnr:∀s,r.bK s->p s≠none)(hnh:∀t n,p t=some n->∀x∈n,∀s,x.bK s->p s≠none)
 (h:WP P m.ntmps aS c ⟨nH args,H⟩ ⟨λo=>∃B,sF P m.results.toList o=some B/\pU B r/\∀s n,p s=some n->∃d,o.heap s=some d/\lF d n,λ_ _=>False,
   λo=>∃B,sF P m.results.toList o=some B/\pU B r/\∀s n,p s=some n->∃d,o.heap s=some d/\lF d n⟩):cN P f H args p aS r:=by
 refine⟨fH hf L D,λM U w vals hm A=>?_⟩;refine calls_of_wp hf D ?_
 let C:dY:=⟨M,λb=>∃s,U s=some (some b),w,U,aS,m.ntmps⟩
 have hvl:vals.length=args.length:=A.1.symm;have R0:dz C U ⟨nH args,H⟩ { tmps:=vals.toArray++Array.replicate (m.ntmps-vals.toArray.size) undef,defers:=[]} w:=by
  refine⟨hm,λi=>?_,fL.refl _ _,λs b Y=>.inl ⟨s,Y⟩,λ_ _=>rfl,rfl,?_⟩
  ·show b6 w M U (nH args i) _;rw[Xz];cases hx:args[i]? with
   |none=>trivial
   |some x=>
    have hi:i<args.length:=(dM.1 hx).1;have hv:vals[i]?=some (vals[i]' O):=ca O;have:((vals.toArray++Array.replicate (m.ntmps-vals.toArray.size) undef).getD i undef)=vals[i]' O:=by have hi2:i<vals.length:=O;simp[Array.getElem?_append,hi2]
    rw[this];exact A.2 i x _ hx hv
  ·show(vals.toArray++Array.replicate (m.ntmps-vals.toArray.size) undef).size=m.ntmps;simp;omega
 refine Code.wp_mono ?_ (h C rfl rfl _ _ ⟨U,R0⟩)
 have me:∀(a:Act)(w':World)(o:St),gN C o a w'->(∃B,sF P m.results.toList o=some B/\pU B r/\∀s n,p s=some n->∃d,o.heap s=some d/\lF d n)->
  a.defers=[]/\∃v,(results m a.tmps).run P w'=.ok v w'/\Im M U w p aS r (.returned v) w':=by
  rintro a w' o ⟨q,R⟩ ⟨B,hr',hle,hH⟩;obtain⟨v,hv,X⟩:=LI R m hr';refine⟨R.defers,v,hv,?_⟩
  let k:G:=λs=>match p s with|none=>none|some _=>q s
  have j:∀s,p s≠none->k s=q s:=by
   intro s Y;simp only[k];cases h:p s with
   |none=>exact absurd h Y
   |some n=>rfl
  have z:∀s b,k s=some b->q s=some b:=by
   intro s b h;simp only[k]at h;split at h
   ·cases h
   ·exact h
  have Q:la M q k w' w':=⟨bu _,λ_ _=>rfl,λb D s h=>D.2.2 s (z s _ h),λ_ cells _ h=>⟨cells,h,rfl⟩⟩;refine⟨v,k,rfl,⟨R.mem.gG,λs t b x y=>R.mem.inj s t b (z s _ x) (z t _ y),λs b x=>R.mem.nm s b (z s _ x),λs h=>?_,λs n h=>?_,R.mem.iU.dI Q⟩,?_,R.aN,λs b Y=>R.aW s b (z s _ Y),λs Y=>?_⟩
  ·simp only[k,h]
  ·obtain⟨d,hs',N⟩:=hH s n h;have K:p s≠none:=by rw[h];simp
   rcases R.mem.fe s d hs' with⟨b,t,vs,sp,Z,D,hc⟩|⟨Z,hc⟩|⟨b,en,clk,Z,D,hc⟩
   rotate_left 2
   ·exact .inr (.inr ⟨b,en,clk,by rw[j s K];exact Z,D,N.2 _ hc⟩)
   ·exact .inl ⟨b,t,vs,sp,by rw[j s K];exact Z,D,(N.1 _ _ _ _ hc).dI Q λu hu=>by obtain⟨x,hx,hu⟩:=hu;exact j u (hnh s n h x hx u hu)⟩
   ·refine .inr (.inl ⟨by rw[j s K];exact Z,?_⟩);subst hc;have:=(N.1 w' M q [] bR.nil).1;exact fc (an this)
  ·exact(hle _ _ _ _ X).dI Q λs Y=>j s (hnr s Y)
  ·rw[j s (hst s Y)];exact R.aS s Y
 intro e a w' ⟨o,R,V⟩;cases e with
 |normal=>exact me a w' o R V
 |ret=>exact me a w' o R V
 |exit i=>cases V
 |goto l=>cases V
 |panic ch=>cases V
 |outgrown=>cases V
def Fin(P:ay)(c:List ResultVar)(r:T)(b:St):Prop:=∃a,sF P c b=some a/\a.cH=r
def He(P:ay)(t:TypeId):Option (List (Nat×Nat)):=
 match P.underlying t with
 |some (.struct a)=>a.toList.mapM λf=>(fb P f.type).map λn=>(f.offset,n)
 |some (.array n e)=>(fb P e).map λk=>(List.range n).map λi=>(i*k,k)
 |_=>none
theorem aa4{b pl':Nat->Option (Nat×Nat)}(h:∀i p,b i=some p->pl' i=some p):∀(l:List (Nat×Value)) (cells a:Array Value),Instr.fill b cells l=some a->Instr.fill pl' cells l=some a
 |[],cells,a,hf=>hf
 |(i,v)::r,cells,a,hf=>by
  simp only[Instr.fill]at hf⊢;cases c:b i with
  |none=>rw[c]at hf;cases hf
  |some p=>
   rw[c]at hf;rw[h i p c];simp only at hf⊢;split at hf
   ·cases hf
   ·rename_i d;rw[g d];exact aa4 h r _ a hf
theorem ae4{P:ay}(w:World):∀(a:List Field) (b:List (Nat×Nat)),(a.mapM λf=>(fb P f.type).map λn=>(f.offset,n))=some b->
 (a.mapM (m:=Sem) λf=>do pure (f.offset,<-sizeOf f.type)).run P w=.ok b w
 |[],b,h=>by simp at h;subst h;simp
 |f::a,b,h=>by
  rw[HS]at h;cases hf:fb P f.type with
  |none=>simp[hf]at h
  |some n=>
   cases c:a.mapM (λf=>(fb P f.type).map λn=>(f.offset,n))with
   |none=>simp[hf,c]at h
   |some d=>simp[hf,c]at h;subst h;have e:=ae4 w a d c;rw[HS];simp only[Sem.run_bind,od hf,Result.andThen_ok,Sem.run_pure,e]
def aeU{w:World}{M:aq}{e:G}{f:Operand->T}{a:Act}(parts:List (Nat×Operand))(h:∀x∈parts.map (·.2),b6 w M e (f x) (a.eval x)):
 ∀(i:Nat)(p:Nat×T)(q:Nat×Value),(parts.map λp=>(p.1,f p.2))[i]?=some p->(parts.map λp=>(p.1,a.eval p.2))[i]?=some q->p.1=q.1/\b6 w M e p.2 q.2:=by
 intro i p q b c;simp only[dU]at b c;cases d:parts[i]? with
 |none=>simp[d]at b
 |some y=>simp[d]at b c;subst b;subst c;exact⟨rfl,h y.2 (List.mem_map_of_mem (bF d))⟩
def aBZ{P:ay}{o:Oper}{C:Operand->T}(t:TypeId)(parts:Array (Nat×Operand))(B:o.op=.build t parts)(l:List (Nat×Nat))(N D:List V)
 (d:He P t=some l)(Z:jZ P t=some N)(Q:vJ (λi=>l[i]?) N (parts.toList.map λp=>(p.1,C p.2))=some D):iu P o C (.e (.agg D)):=
 kJ λM γ H w a _ h=>by
  obtain⟨z0,E,rfl,U⟩:=DV Z;obtain⟨z,v,y⟩:=Hi E w;unfold He at d;split at d
  ·rename_i X K;have A:=ae4 w X.toList l d
   obtain⟨u,r,c⟩:=aa5 (w:=w) (M:=M) (γ:=γ) (λi=>l[i]?) (parts.toList.map λp=>(p.1,C p.2)) (parts.toList.map λp=>(p.1,a.eval p.2)) _ z0 D ai
    (aeU parts.toList λx G=>h x (by simpa[B,Op.operands]using G)) (Ht z0 U) Q
   refine⟨.agg u.toArray,?_,u,rfl,c⟩;have q:z.cells=z0.toArray:=by rw[<-y]
   obtain⟨fl⟩:=X;simp only at A;have L:(Functor.map List.toArray (fl.mapM (m:=Sem) λf=>do pure (f.offset,<-sizeOf f.type)):Sem (Array (Nat×Nat))).run P w=.ok l.toArray w:=by rw[Sem.run_map,A];rfl
   have b:(parts.map λp=>(p.1,a.eval p.2)).toList=parts.toList.map λp=>(p.1,a.eval p.2):=ai
   simp only[execOp,B,Instr.build,Sem.run_bind,v,Result.andThen_ok,run_underlying K,List.mapM_toArray,L,q];have e1:(λx:Nat=>(l.toArray)[x]?)=λi=>l[i]? :=by funext i;simp
   rw[e1,b,r];simp
  ·rename_i n e K;rw[gM]at d;obtain⟨k,hk,rfl⟩:=d
   obtain⟨u,r,c⟩:=aa5 (w:=w) (M:=M) (γ:=γ) (λi=>((List.range n).map λi=>(i*k,k))[i]?) (parts.toList.map λp=>(p.1,C p.2)) (parts.toList.map λp=>(p.1,a.eval p.2)) _ z0 D ai
    (aeU parts.toList λx G=>h x (by simpa[B,Op.operands]using G)) (Ht z0 U) Q
   refine⟨.agg u.toArray,?_,u,rfl,c⟩;have q:z.cells=z0.toArray:=by rw[<-y]
   have b:(parts.map λp=>(p.1,a.eval p.2)).toList=parts.toList.map λp=>(p.1,a.eval p.2):=ai
   have s:=aa4 (pl':=λi=>some (i*k,k)) (λi p d=>by simp only[dU,gM]at d;obtain⟨j,hj,rfl⟩:=d;have:=(dM.1 hj);obtain⟨hl,R⟩:=this;simp at R;rw[R]) _ _ _ r
   simp only[execOp,B,Instr.build,Sem.run_bind,v,Result.andThen_ok,run_underlying K,od hk,q];rw[b,s];simp
  ·cases d
def Mm:V->Option D
 |.d x=>some x.cH
 |_=>none
def lY:List V->Option (List D)
 |[]=>some []
 |v::b=>match Mm v,lY b with|some x,some a=>some (x::a)|_,_=>none
def vS(k:Nat)(b:Operand->T):Nat->List (Nat×Operand)->Option (List (List D))
 |_,[]=>some []
 |i,(j,x)::r=>
  match b x with
  |.e e=>if j=i/\e.cells.length=k then(match lY e.cells,vS k b (i+1) r with|some a,some c=>some (a::c)|_,_=>none)else none
  |_=>none
theorem TZ:∀(a:List V)(b:List D),lY a=some b->b.length=a.length
 |[],b,h=>by simp only[lY]at h;injection h with h;subst h;rfl
 |v::a,b,h=>by
  simp only[lY]at h;split at h
  ·rename_i x c _ d;injection h with h;subst h
   simp[TZ a c d]
  ·cases h
theorem T0{w:World}{M:aq}{f:G}:∀(c:List V)(e:List D)(a:av),lY c=some e->bR w M f c a->bR w M f (e.map .d) a
 |[],e,a,h,b=>by simp only[lY]at h;injection h with h;subst h;exact b
 |v::c,e,a,h,b=>by
  simp only[lY]at h;split at h
  ·rename_i x l k j;injection h with h;subst h
   cases a with
   |nil=>have:=b.1;simp at this
   |cons u a=>have p:=T0 c l a j ⟨by have:=b.1;simpa using this,λi y z n m=>b.2 (i+1) y z (an n) (an m)⟩;have o:dO w M f v u:=b.2 0 v u rfl rfl;cases v<;>simp[Mm]at k;subst k;have:=(bR.one (dO.cH o)).append p;simpa[V.cH]using this
  ·cases h
theorem QI{w:World}{M:aq}{γ:G}{ev:Operand->T}{a:Act}(k:Nat):∀(parts:List (Nat×Operand)) (i:Nat) (n:List (List D)) (b:av) (z:av),
 (∀x∈parts.map (·.2),b6 w M γ (ev x) (a.eval x))->vS k ev i parts=some n->b.length=i*k->z.length=parts.length*k->
 (∀r∈n,r.length=k)/\n.length=parts.length/\∃s:List Value,s.length=n.length*k/\Instr.fill (λi=>some (i*k,k)) (b++z).toArray (parts.map λp=>(p.1,a.eval p.2))=some (b++s).toArray/\bR w M γ (n.flatten.map .d) s
 |[],i,n,b,z,_,h,U,P=>by
  simp only[vS]at h;injection h with h;subst h
  have N:z=[]:=fc (an P);subst N;exact⟨ai,rfl,[],ai,by simp[Instr.fill],bR.nil⟩
 |(j,x)::parts,i,n,b,z,Z,h,U,P=>by
  simp only[vS]at h;split at h
  ·rename_i e he;split at h
   ·rename_i o;obtain⟨rfl,hk⟩:=o;split at h
    ·rename_i row v m Q;injection h with h;subst h
     have h1:=Z x ai;rw[he]at h1;have t:=eP.cells h1;have f:(a.eval x).cells.toList.length=k:=by rw[<-t.1,hk]
     have L:z.length=k+parts.length*k:=by simpa[rU,Aj]using P
     obtain⟨K,H,s,E,C,B⟩:=QI k parts (j+1) v (b++(a.eval x).cells.toList) (z.drop k) (λy X=>Z y (by simp at X⊢;exact .inr X)) Q (by simp at f;simp[U,f,rU]) (by simp[L]);refine⟨?_,by simp[H],(a.eval x).cells.toList++s,?_,?_,?_⟩
     ·intro r R;rcases dC.1 R with rfl|R
      ·rw[TZ _ _ m,hk]
      ·exact K r R
     ·simp only[c_,f,E,fD,rU];omega
     ·simp only[dc,Instr.fill];have hsz:(a.eval x).cells.size=k:=an f;rw[g (by simp;omega)];have l:=abq (a.eval x).cells.toList (j*k) 0 (b++z).toArray (by simp;omega);have u:(a.eval x).cells.zipIdx.foldl (λV (p:Value×Nat)=>V.setIfInBounds (j*k+p.2) p.1) (b++z).toArray=((b++(a.eval x).cells.toList)++z.drop k).toArray:=by
       apply mW;rw[<-Array.toList_zipIdx,sV]at l;simp only[Array.foldl_toList]at l;have e2:(b++z).take (j*k)++(a.eval x).cells.toList++(b++z).drop (j*k+(a.eval x).cells.toList.length)=(b++(a.eval x).cells.toList)++z.drop k:=by
        rw[<-U,Np,HO,HQ O,f]
        ·simp
        ·rfl
       simp only at l e2⊢;rw[<-e2];exact l
      have q:(a.eval x).cells.zipIdx.foldl (λV x=>match x with|(c,A)=>V.setIfInBounds (j*k+A) c) (b++z).toArray=((b++(a.eval x).cells.toList)++z.drop k).toArray:=u;rw[q,C];simp
     ·simp only[Af,gB];exact(T0 _ _ _ m t).append B
    ·cases h
   ·cases h
  ·cases h
def aB0{P:ay}{o:Oper}{ev:Operand->T}(t:TypeId)(len:Nat)(parts:Array (Nat×Operand))(ho:o.op=.buildSlice t len parts)(e:TypeId)(k:Nat)(zs:List V)(f:List (List D))
 (ht:jF P t=some e)(hk:fb P e=some k)(hz:jZ P e=some zs)(R:zs.length=k)(hl:parts.size=len)(G:len*k<=16777216)(hk0:0<k)(hl0:0<len)(hr:vS k ev 0 parts.toList=some f):iu P o ev (.e (.c (.d (.sl f)))):=by
 intro M γ H w a hm h K Q hK;obtain⟨z0,Z,U,ha⟩:=DV hz;obtain⟨z,N,X⟩:=Hi Z w;have y:z0.length=k:=by rw[<-R,U];simp
 have hz':z.cells=z0.toArray:=by rw[<-X]
 have B:parts.toList.length=len:=an hl;obtain⟨h1,h2,us,h3,h4,h5⟩:=QI (w:=w) (M:=M) (γ:=γ) (ev:=ev) (a:=a) k parts.toList 0 f [] ((List.replicate len z0).flatten) (λx n=>h x (by simpa[ho,Op.operands]using n)) hr ai (by simp[B,y]);have hrl:f.length=len:=by rw[h2,B]
 have L:(parts.map λp=>(p.1,a.eval p.2)).toList=parts.toList.map λp=>(p.1,a.eval p.2):=ai
 have b:(Array.range (len*k)).map ((if len*k=0 then(#[]:Array Value)else z.cells)[· %(if len*k=0 then(#[]:Array Value)else z.cells).size]!)=((List.replicate len z0).flatten).toArray:=by
  apply mW;rw[<-SH z0 len,y];by_cases m:len*k=0
  ·simp[m]
  ·rw[g m,hz']
 refine my (v:=.slice (some ⟨w.heap.size,0,none⟩) len len) (w':=w.alloc (.cells us.toArray e)) ?_ (hK _ _ (qY _ _) ?_)
 ·have hns:¬(16777216<len*k):=by omega
  simp only[gi]at h4;have m:¬(len*k=0):=by intro m;rcases Nat.mul_eq_zero.1 m with h|h<;>omega
  rw[g m]at b;simp[execOp,ho,Instr.buildSlice,run_underlying (u9 ht),od hk,hns,m,N,b,h4,newRow]
 ·have hblk:(w.alloc (.cells us.toArray e)).heap[w.heap.size]?=some (.cells us.toArray e (0,0)):=oB _ _;have hst:cS (w.alloc (.cells us.toArray e)) M γ w.heap.size:=by refine⟨ai,λhM=>by have:=hm.gG _ hM;omega,λs Y=>by have:=hm.lt Y;omega⟩
  have h5':=h5.dI (w':=w.alloc (.cells us.toArray e)) (qY _ _).Fg λ_ _=>rfl
  have q:dE (w.alloc (.cells us.toArray e)) (cS (w.alloc (.cells us.toArray e)) M γ) (.sl f) (.slice (some ⟨w.heap.size,0,none⟩) f.length len):=by
   refine .sl f k len _ (λi j=>(us[i*k+j]?).getD undef) O (by simp only[maxLen];have:=Nat.le_mul_of_pos_right len hk0;omega) h1 (λ_=>⟨_,rfl,rfl,hst,λi j hi hj=>?_⟩) (λi j x n=>?_)
   ·have:(i+1)*k<=f.length*k:=jI _ hi;rw[rU]at this;have C:i*k+j<us.length:=O;rw[uQ,yP hblk,oo,ca C,ie];simp[C]
   ·have hj:j<k:=by
     cases l:f[i]? with
     |none=>simp[l]at n
     |some r=>simp[l]at n;have:=(dM.1 n).1;rw[h1 r (bF l)]at this;exact this
    have E:=FP k f h1 i j hj;rw[n]at E;obtain⟨u,hu,A⟩:=h5'.ET (x:=.d x) (i:=i*k+j) (by rw[dU,E];rfl);rw[hu,ie];exact A
  rw[hrl]at q;exact q
def Bb:T->Option Nat
 |.e (.c (.d (.sc (.int _ i))))=>if 0<=i then some i.toNat else none
 |_=>none
def lO(b:Operand->T)(x:Option Operand)(a:Nat):Option Nat:=match x with|none=>some a|some x=>Bb (b x)
def mR(k a b:Nat):T->Option T
 |.e (.c (.sub s j f h))=>if j=k/\a<=b/\b<=h then some (.e (.c (.sub s k (f+a*k) (b-a))))else none
 |.e (.c (.d (.sl i)))=>if a<=b/\b<=i.length/\i.all (λr=>r.length==k)then some (.e (.c (.d (.sl ((i.drop a).take (b-a))))))else none
 |.e (.c (.d (.sc (.slice none 0 0))))=>if a=0/\b=0 then some (.e (.c (.d (.sc (.slice none 0 0)))))else none
 |_=>none
def azd{w:World}{M:aq}{a:G}{x:T}{v:Value}{n:Nat}(h:Bb x=some n)(b:b6 w M a x v):∃k,v=.int k n:=by
 unfold Bb at h;split at h
 ·rename_i k i;split at h
  ·injection h with h;subst h
   refine⟨k,?_⟩;rw[gK b,Int.toNat_of_nonneg I]
  ·cases h
 ·cases h
def apX{P:ay}{w:World}{M:aq}{c:G}{b:Operand->T}{a:Act}{x:ax}{n y:Nat}(h:Bb (b x)=some n)(d:b6 w M c (b x) (a.eval x))(f:n<=y)(code:BoundsCode):
 (Instr.sliceBound (a.eval x) y code).run P w=.ok n w:=by
 obtain⟨k,e⟩:=azd h d;simp[Instr.sliceBound,e,asIntOf,f]
def Yf{P:ay}{w:World}{M:aq}{v:G}{l:Operand->T}{a:Act}(d f h:Option Operand){i c m e cap:Nat}(q:lO l h cap=some m)(j:lO l f e=some c)(b:lO l d 0=some i)
 (A:∀x,(d=some x\/f=some x\/h=some x)->b6 w M v (l x) (a.eval x))(k:i<=c)(r:c<=m)(t:m<=cap)(s:h≠none->f≠none):
 (Instr.sliceBounds true e cap (d.map a.eval) (f.map a.eval) (h.map a.eval)).run P w=.ok (i,c,m) w:=by
 have B:∀(x:ax)(n y:Nat)(code:BoundsCode),Bb (l x)=some n->(d=some x\/f=some x\/h=some x)->n<=y->(Instr.sliceBound (a.eval x) y code).run P w=.ok n w:=
  λx n y code k r t=>apX k (A x r) t code
 cases h with
 |none=>
  simp only[lO,cY]at q;subst q;cases f with
  |none=>
   simp only[lO,cY]at j;subst j;cases d with
   |none=>simp only[lO,cY]at b;subst b;simp[Instr.sliceBounds]
   |some x=>
    simp only[lO]at b;have p:=λcode=>B x i e code b (.inl rfl) k
    simp[Instr.sliceBounds,p]
  |some z=>
   simp only[lO]at j;have o:=λcode=>B z c cap code j (.inr (.inl rfl)) r
   cases d with
   |none=>simp only[lO,cY]at b;subst b;simp[Instr.sliceBounds,o]
   |some x=>
    simp only[lO]at b;have p:=λcode=>B x i c code b (.inl rfl) k
    simp[Instr.sliceBounds,p,o]
 |some y=>
  simp only[lO]at q;have u:=λcode=>B y m cap code q (.inr (.inr rfl)) t
  cases f with
  |none=>exact absurd rfl (s ai)
  |some z=>
   simp only[lO]at j;have o:=λcode=>B z c m code j (.inr (.inl rfl)) r
   cases d with
   |none=>simp only[lO,cY]at b;subst b;simp[Instr.sliceBounds,o,u]
   |some x=>
    simp only[lO]at b;have p:=λcode=>B x i c code b (.inl rfl) k
    simp[Instr.sliceBounds,p,o,u]
def afu{P:ay}{o:Oper}{K:Operand->T}(t:TypeId)(x:ax)(lx l C:Option Operand)(ho:o.op=.slice t x lx l C)(e:TypeId)(k p lo hi:Nat)(r:T)
 (ht:jF P t=some e)(hk:fb P e=some k)(hlen:uP (K x)=some p)(hh:lO K l p=some hi)(hl:lO K lx 0=some lo)(hmx:C=none\/(C≠none/\l≠none/\lO K C p=some hi))(f:mR k lo hi (K x)=some r):iu P o K r:=
 kJ λM γ H w a _ h=>by
  have G:=h x (by simp[ho,Op.operands]);obtain⟨A,cap,n⟩:=DM hlen G;have E:∀y,(lx=some y\/l=some y\/C=some y)->b6 w M γ (K y) (a.eval y):=by intro y hy;apply h;rw[ho];simp only[Op.operands];rcases hy with rfl|rfl|rfl<;>simp
  have c:∀(l1:lo<=hi)(l2:hi<=p)(l3:p<=cap),∃m,m<=cap/\hi<=m/\(execOp a.eval o).run P w=.ok (.value (.slice (if m=lo then A else A.map (·.add (lo*k))) (hi-lo) (m-lo))) w:=by
   intro l1 l2 l3;rcases hmx with rfl|⟨hne0,N,hm'⟩
   ·refine⟨cap,bu _,O,?_⟩;have hb:=Yf (P:=P) (cap:=cap) (m:=cap) lx l none rfl hh hl E l1 O (bu _) (λh=>absurd rfl h);simp only[Ex]at hb;simp[execOp,ho,Instr.sliceAt,Instr.slice,run_underlying (u9 ht),n,hb,od hk]
   ·refine⟨hi,O,bu _,?_⟩;have hm:lO K C cap=some hi:=by
     cases C with
     |none=>exact absurd rfl hne0
     |some y=>exact hm'
    have hb:=Yf (P:=P) (cap:=cap) (m:=hi) lx l C hm hh hl E l1 (bu _) O (λ_=>N);simp[execOp,ho,Instr.sliceAt,Instr.slice,run_underlying (u9 ht),n,hb,od hk]
  unfold mR at f;split at f
  ·rename_i s k' off len' q;split at f
   ·rename_i X;obtain⟨rfl,c1,c2⟩:=X;injection f with f;subst f
    rw[q]at G hlen;simp only[uP,cY]at hlen;subst hlen;rcases G with⟨b,L,cells,ty,Z,B,hlc,hcm,hb,hroom⟩|⟨Z,rfl,rfl,B⟩|⟨b,off',Z,rfl,B⟩
    ·rw[B]at n;injection n with z _ d
     subst z;subst d;obtain⟨m,m1,m2,c⟩:=c c1 c2 hlc;refine⟨_,c,?_⟩;by_cases Q:m=lo
     ·refine .inr (.inr ⟨b,off,Z,O,?_⟩);rw[aK Q,Q];simp;omega
     ·refine .inl ⟨b,m-lo,cells,ty,Z,?_,O,O,hb,?_⟩
      ·rw[g Q];simp[uQ]
      ·have:m*k'<=L*k':=jI _ m1;have e2:(m-lo)*k'+lo*k'=m*k':=by rw[<-jS];congr 1;omega
       omega
    ·rw[B]at n;injection n with z _ d
     subst z;subst d;obtain⟨m,m1,m2,c⟩:=c c1 c2 (bu _);have R:lo=0:=O;have V:hi=0:=O;have u:m=0:=O;subst R;subst V;subst u;exact⟨_,c,.inr (.inl ⟨Z,ai,rfl,ai⟩)⟩
    ·rw[B]at n;injection n with z _ d
     subst z;subst d;obtain⟨m,m1,m2,c⟩:=c c1 c2 (bu _);have R:lo=0:=O;have V:hi=0:=O;have u:m=0:=O;subst R;subst V;subst u;exact⟨_,c,.inr (.inr ⟨b,off',Z,rfl,ai⟩)⟩
   ·cases f
  ·rename_i es q;split at f
   ·rename_i X;obtain⟨c1,c2,c3⟩:=X;have c3:∀r∈es,r.length=k:=an c3;injection f with f;subst f
    rw[q]at G hlen;simp only[uP,cY]at hlen;subst hlen;generalize hva:a.eval x=va at G n;cases G with
    |sl _ kk L A' U d hmax D z hU=>
     injection n with B _ e3
     subst B;subst e3;obtain⟨m,m1,m2,c⟩:=c c1 c2 d;refine⟨_,c,?_⟩;have v:((es.drop lo).take (hi-lo)).length=hi-lo:=by simp;omega
     have key:dE w (cS w M γ) (.sl ((es.drop lo).take (hi-lo))) (.slice (if m=lo then A' else A'.map (·.add (lo*k))) ((es.drop lo).take (hi-lo)).length (m-lo)):=by
      refine .sl _ kk (m-lo) _ (λi j=>U (lo+i) j) (by rw[v];omega) O (λr f=>D r (B3 (oi f))) (λN=>?_) (λi j x l=>?_)
      ·have hpos:0<hi-lo:=by
        rcases Nat.eq_zero_or_pos (hi-lo)with h0|h0
        ·exact absurd (fc (by rw[v,h0])) N
        ·exact h0
       have hes:es≠[]:=by rintro rfl;simp at c2;omega
       obtain⟨ad,rfl,hsp,hst,X⟩:=z hes;have hkk:kk=k:=by obtain⟨r,f⟩:=List.exists_mem_of_ne_nil es hes;rw[<-D r f,c3 r f]
       subst hkk;rw[g O];refine⟨ad.add (lo*kk),rfl,Tz _ _ hsp,by rw[Cr];exact hst,λi j hi' hj=>?_⟩;rw[v]at hi';rw[Iu,<-uj,<-jS];exact X (lo+i) j O hj
      ·rw[rM]at l;split at l
       ·rw[m_]at l;exact hU (lo+i) j x l
       ·simp at l
     rw[v]at key;exact key
   ·cases f
  ·rename_i q;split at f
   ·rename_i X;obtain⟨rfl,rfl⟩:=X;injection f with f;subst f
    rw[q]at G hlen;simp only[uP,cY]at hlen;subst hlen;have B:=gK G;rw[B]at n;injection n with z _ d
    subst z;subst d;obtain⟨m,m1,m2,c⟩:=c (bu _) (bu _) (bu _);have u:m=0:=O;subst u;exact⟨_,c,.sc _ rfl⟩
   ·cases f
  ·cases f
