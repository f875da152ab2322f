/- A part of the proof of VirtualLinear: Ab0 to Ab5. No condition. -/
import Derived.WalkKit
import Derived.Laws.CopyRow
import Derived.Laws.AppendOwn
import Derived.Laws.MakeOwn
import Derived.KernelRfl
set_option linter.all false
set_option maxRecDepth 100000
set_option maxHeartbeats 60000000
noncomputable section
namespace Go
theorem O{P:Prop}(h:P:=by omega):P:=h
theorem ae{P:Prop}(h:P:=by decide):P:=h
theorem af{P:Prop}(h:P:=by kernel_rfl):P:=h
theorem ah{P:Prop}(h:P:=by grind):P:=h
theorem ai{P:Prop}(h:P:=by simp):P:=h
theorem Y{P:Prop}(h:P:=by assumption):P:=h
theorem ak{P:Prop}(h:P:=by with_reducible assumption):P:=h
theorem al{P:Prop}(h:P:=by((with_reducible show(_&&_)=true);kernel_rfl)):P:=h
theorem an{P Q:Prop}(h:Q)(k:Q→P:=by intro h;simpa using h):P:=k h
abbrev ao:=List Int
abbrev ap:=Nat->Prop
abbrev aq:=List Nat
abbrev au:=List Value
abbrev av:=Array Oper
abbrev aw:=Operand
abbrev ax:=Program
abbrev ay:=Int->Rat
abbrev az:=ByteArray
def Ad:=@Int.ediv_nonneg
def Ae:=@Int.eq_ofNat_of_zero_le
def Af:=@Int.mul_zero
def Ah:=@List.filter_cons_of_neg
def Ai:=@List.foldr_nil
def B0:=@Int.natCast_pow
def B1:=@Int.not_lt
def B3:=@List.getElem?_append
def B4:=@List.getElem?_append_right
def B5:=@List.getElem?_cons_succ
def B7:=@List.getElem?_set_ne
def B8:=@Nat.add_comm
def B9:=@Nat.lt_or_ge
def BK:=@Array.length_toList
def BM:=@Bool.not_eq_true'
def BX:=@Int.add_zero
def BY:=@Int.ediv_lt_iff_lt_mul
def BZ:=@Int.mul_right_comm
def B_:=@Nat.pow_add
def Ca:=@Nat.pow_le_pow_right
def Cb:=@Option.bind_some
def E0:=@Nat.lt_of_not_le
def E1:=@Nat.mul_add
def E2:=@Nat.mul_comm
def E8:=@Rat.intCast_lt_intCast
def EA:=@Int.mul_ediv_add_emod
def EC:=@Int.mul_sub
def EF:=@List.flatMap_cons
def EH:=@List.flatMap_nil
def EI:=@List.flatten_cons
def EJ:=@List.foldl_append
def EK:=@List.foldr_cons
def EM:=@List.getElem?_of_mem
def EN:=@List.map_id
def EO:=@List.mem_or_eq_of_mem_set
def ER:=@List.pairwise_cons
def ES:=@List.pairwise_iff_getElem
def ET:=@List.take_append_of_le_length
def EZ:=@Nat.le_of_lt
def Es:=@Array.getElem?_eq_getElem
def Fm:=@bne_eq_false_iff_eq
def H0:=@BitVec.toNat_ofInt
def H3:=@Bool.and_true
def IA:=@List.mapM_cons
def IC:=@List.mem_filterMap
def ID:=@List.mem_of_mem_drop
def IE:=@List.range_zero
def IF:=@List.set_cons_succ
def IH:=@List.singleton_append
def IL:=@Nat.beq_refl
def IM:=@Nat.eq_of_beq_eq_true
def IP:=@Nat.mul_lt_mul''
def IQ:=@Nat.pos_of_ne_zero
def IR:=@Nat.two_pow_pos
def IS:=@Nat.zero_mul
def IV:=@Option.bind_eq_some_iff
def IW:=@Option.map_none
def Ih:=@Int.emod_eq_of_lt
def Ii:=@Int.le_ediv_iff_mul_le
def Ij:=@Int.natCast_mul
def Ik:=@Int.sub_zero
def Il:=@Int.zero_mul
def Ip:=@List.drop_append
def Iq:=@List.drop_eq_nil_of_le
def Ir:=@List.filter_append
def Is:=@List.filter_sublist
def It:=@List.flatMap_append
def Iu:=@List.getElem?_set
def Iv:=@List.getElem?_toArray
def Iw:=@List.getElem_of_mem
def Iy:=@List.length_filter_le
def Iz:=@List.length_singleton
def M9:=@Array.getD_eq_getD_getElem?
def M_:=@Array.getElem?_eq_some_iff
def N1:=@Rat.intCast_add
def N2:=@Rat.intCast_inj
def N3:=@Rat.intCast_neg
def N4:=@Rat.mul_eq_zero
def NF:=@Int.tdiv_eq_ediv_of_nonneg
def NM:=@List.getElem?_append_left
def NN:=@List.getElem?_take_of_lt
def NO:=@List.mem_of_getLast?
def NP:=@List.replicate_zero
def NQ:=@List.set_eq_take_append_cons_drop
def NS:=@Option.isSome_iff_exists
def Na:=@Array.getElem?_modify
def Nb:=@Array.size_replicate
def U8:=@Array.mem_of_getElem?
def V0:=@Int.mul_emod_mul_of_pos
def V1:=@Int.mul_lt_mul_of_pos_right
def Vb:=@Classical.byContradiction
def Wr:=@List.drop_append_of_le_length
def Ws:=@List.filterMap_append
def Wt:=@List.filterMap_cons_none
def Wu:=@List.filterMap_cons_some
def Wv:=@List.filter_eq_nil_iff
def Ww:=@List.getElem?_set_self
def Wx:=@List.sizeOf_lt_of_mem
def Z:=@if_neg
def aM:=@if_pos
def aQ:=@And.intro
def aS:=@Exists.intro
def b6:=@List.mem_cons_self
def bK:=@Nat.le_refl
def bM:=@List.mem_of_getElem?
def b_:=@List.mem_map
def bc:=@decide_eq_false_iff_not
def be:=@decide_eq_true_eq
def bi:=@congrArg
def bj:=@True.intro
def bt:=@Int.toNat_natCast
def cL:=@List.mem_singleton
def cN:=@List.getElem?_eq_getElem
def cQ:=@of_decide_eq_false
def cS:=@Option.some.injEq
def cX:=@List.length_append
def cq:=@List.mem_append
def cv:=@List.mem_cons_of_mem
def dH:=@Nat.le_trans
def dO:=@of_decide_eq_true
def dP:=@Option.map_some
def da:=@List.mem_cons
def de:=@List.map_cons
def du:=@List.getElem?_eq_some_iff
def dz:=@Nat.zero_le
def eB:=@List.cons_append
def eC:=@List.getElem?_map
def eL:=@List.take_of_length_le
def eW:=@List.all_eq_true
def eh:=@List.length_map
def ej:=@Bool.and_eq_true
def fR:=@List.eq_nil_of_length_eq_zero
def fZ:=@List.length_cons
def fy:=@List.take_add_one
def gM:=@List.append_assoc
def gN:=@Option.map_eq_some_iff
def gQ:=@beq_iff_eq
def gT:=@if_true
def gW:=@List.map_nil
def gf:=@List.nil_append
def gw:=@List.length_take
def gx:=@List.take_zero
def iI:=@ne_eq
def iM:=@List.getElem?_eq_none
def iN:=@Nat.add_mul
def ia:=@List.map_append
def ib:=@Option.getD_some
def im:=@List.take_length
def iy:=@Int.mul_comm
def jJ:=@beq_eq_false_iff_ne
def jS:=@Nat.mul_le_mul_right
def jc:=@List.map_map
def jq:=@Bool.false_eq_true
def jr:=@List.mem_filter
def js:=@Nat.le_of_ble_eq_true
def kB:=@List.drop_eq_getElem_cons
def kC:=@Nat.min_eq_left
def kT:=@Int.add_mul
def kU:=@Int.mul_assoc
def kV:=@List.mem_flatMap
def kg:=@List.getElem?_cons_zero
def lB:=@List.append_nil
def lM:=@if_false
def mQ:=@Array.ext'
def mU:=@List.drop_of_length_le
def mW:=@List.length_nil
def mw:=@List.map_congr_left
def mz:=@Nat.lt_of_lt_of_le
def nD:=@List.getElem?_drop
def nE:=@List.mem_of_mem_take
def o0:=@List.take_append_drop
def o4:=@List.take_succ_cons
def oV:=@Bool.eq_iff_iff
def oY:=@List.length_range
def oZ:=@List.mem_range
def oi:=@Nat.not_lt_zero
def ol:=@Nat.zero_add
def pU:=@Int.mul_nonneg
def qM:=@Int.mul_add
def qd:=@decide_eq_true
def rA:=@Bool.not_true
def rE:=@Int.emod_nonneg
def rF:=@List.any_eq_true
def rG:=@List.drop_zero
def rI:=@List.eq_of_mem_replicate
def rJ:=@List.getLast?_eq_getElem?
def rK:=@List.length_set
def rL:=@Nat.lt_of_le_of_lt
def rM:=@Nat.sub_self
def rN:=@Nat.succ_mul
def rX:=@decide_eq_false
def re:=@not_or
def sC:=@Bool.not_false
def sG:=@Int.emod_lt_of_pos
def sH:=@Int.mul_le_mul_of_nonneg_left
def sJ:=@Int.ne_of_gt
def sL:=@Int.sub_mul
def sO:=@List.getElem?_take
def sP:=@List.range_succ
def tY:=@Int.le_refl
def tZ:=@List.getElem_mem
def uc:=@Nat.add_zero
def vf:=@Function.comp_def
def vh:=@Int.mul_left_comm
def vj:=@List.ext_getElem?
def vk:=@List.foldl_cons
def vl:=@List.getElem?_range
def vm:=@List.map_drop
def vo:=@List.map_take
def vp:=@List.replicate_succ
def wO:=@Bool.or_eq_true
def wQ:=@Bool.true_and
def wV:=@Int.le_of_lt
def wW:=@Int.mul_le_mul_of_nonneg_right
def w_:=@List.all_cons
def xa:=@List.length_drop
def xb:=@List.length_replicate
def xc:=@List.set_cons_zero
def xd:=@Nat.add_assoc
def yA:=@List.getElem?_replicate
def yB:=@List.set_append_right
def yE:=@Nat.add_sub_cancel
def yF:=@Nat.mul_le_mul
def yG:=@Option.some.inj
def yH:=@Option.toList_some
def yI:=@Rat.mul_pos
def yh:=@Array.getElem?_toList
def yi:=@Bool.not_eq_eq_eq_not
def yt:=@Int.fdiv_eq_ediv_of_nonneg
def yu:=@Int.le_trans
def yv:=@Int.tmod_eq_emod_of_nonneg
def yy:=@List.filter_cons_of_pos
def z6:=@Bool.false_or
end Go
namespace Go.Ab
open Go Go.RowKit
inductive D where
 |sc (v:Value)
 |sl (es:List (List D))
inductive V where
 |d (x:D)
 |ptr (s off:Nat)
 |sub (s k off len:Nat)
 |gU (ds:List D)
 |db (f:Nat) (caps:List (Nat×Nat))
 |mp (s:Nat)
 |ty (s t:Nat) (sl:Nat ⊕ Nat)
 |eY (es:List (Value×Value))
 |any
inductive E where
 |c (v:V)
 |agg (vs:List V)
inductive T where
 |e (x:E)
 |cE (xs:List E)
 |any
abbrev fF:=Nat->Option (List V)
abbrev G:=Nat->Option (Option Nat)
structure St where
 aV:Nat->T
 heap:fF
inductive dN(w:World)(S:ap):D->Value->Prop where
 |sc (v:Value) (h1:v.oneCell'=true):dN w S (.sc v) v
 |sl (es:List (List D)) (k cap:Nat) (A:Option Addr) (U:Nat->Nat->Value) (hcap:es.length<=cap) (hmax:cap<=maxLen)
   (hrow:∀r∈es,r.length=k)
   (hA:es≠[]->∃a:Addr,A=some a/\a.spot=none/\S a.block/\∀i j,i<es.length->j<k->w.cell? (a.add (i*k+j))=some (U i j))
   (hU:∀i j x,(es[i]?).bind (λr=>r[j]?)=some x->dN w S x (U i j)):
   dN w S (.sl es) (.slice A es.length cap)
def Cw(a:Addr)(n:Nat):(a.add n).block=a.block:=by unfold Addr.add;split<;>rfl
def T5(a:Addr)(n:Nat)(h:a.spot=none):(a.add n).spot=none:=by unfold Addr.add;split<;>simp_all
def I8(a:Addr)(i j:Nat):(a.add i).add j=a.add (i+j):=by unfold Addr.add;by_cases c:i=0<;>by_cases b:j=0<;>simp[c,b,xd]
def uH(b o n:Nat):(⟨b,o,none⟩:Addr).add n=⟨b,o+n,none⟩:=by unfold Addr.add;split<;>simp_all
def OY{w b:World}{a:Addr}(h:b.heap[a.block]?=w.heap[a.block]?):b.cell? a=w.cell? a:=by unfold World.cell?;rw[h]
def dN.mono{w n:World}{X o:ap}{x:D}{v:Value}(h:dN w X x v)
 (y:∀b,X b->o b)(r:∀b,X b->n.heap[b]?=w.heap[b]?):dN n o x v:=by
 induction h with
 |sc v B=>exact .sc v B
 |sl C k m A U f d c z _ p=>
  refine .sl C k m A U f d c (λl=>?_) (λi j x q=>p i j x q);obtain⟨a,e,g,I,u⟩:=z l;refine⟨a,e,g,y _ I,λi j t s=>?_⟩;rw[OY (w:=w)]
  ·exact u i j t s
  ·rw[Cw];exact r _ I
def dN.one{w:World}{X:ap}{x:D}{v:Value}(h:dN w X x v):v.oneCell'=true:=by
 cases h with
 |sc _ a=>exact a
 |sl=>rfl
def dc(w:World)(M:ap)(a:G)(b:Nat):=b<w.heap.size/\¬M b/\∀s,a s≠some (some b)
def ud(c:G)(s a:Nat)(v:Value):Prop:=∃b,c s=some (some b)/\v=.pointer (some ⟨b,a,none⟩)
def UD(b n:Nat):Nat ⊕ Nat->Value->Prop
 |.inl m,v=>v=.pointer (some ⟨b,0,none⟩)/\n=m
 |.inr c,v=>∃a,v=.slice (some ⟨b,0,none⟩) c a/\c<=a/\a<=maxLen/\a<=n
def UD.one{b n:Nat}{a:Nat ⊕ Nat}{v:Value}(h:UD b n a v):v.oneCell'=true:=by
 cases a with
 |inl m=>obtain⟨rfl,_⟩:=h;rfl
 |inr c=>obtain⟨_,rfl,_⟩:=h;rfl
def dQ(w:World)(M:ap)(g:G):V->Value->Prop
 |.d x,v=>dN w (dc w M g) x v
 |.ptr s e,v=>ud g s e v
 |.sub s k e h,v=>
  (∃(b l:Nat)(cells:Array Value)(t:TypeId),g s=some (some b)/\v=.slice (some ⟨b,e,none⟩) h l/\h<=l/\l<=maxLen/\
    w.heap[b]?=some (.cells cells t (0,0))/\e+l*k<=cells.size)\/
  (g s=some none/\e=0/\h=0/\v=.slice none 0 0)\/
  (∃(b n:Nat),g s=some (some b)/\h=0/\v=.slice (some ⟨b,n,none⟩) 0 0)
 |.gU r,v=>∃a:Addr,v=.pointer (some a)/\a.spot=none/\dc w M g a.block/\
    ∀j x,r[j]?=some x->∃u,w.cell? (a.add j)=some u/\dN w (dc w M g) x u
 |.db f m,v=>∃o:List Value,v=.func (.func f) #[] o.toArray/\o.length=m.length/\
    ∀(i:Nat)(p:Nat×Nat)(c:Value),m[i]?=some p->o[i]?=some c->ud g p.1 p.2 c
 |.mp s,v=>∃b,g s=some (some b)/\v=.map (some b)
 |.ty s t q,v=>∃(b:Nat)(cells:Array Value),g s=some (some b)/\w.heap[b]?=some (.cells cells t (0,0))/\UD b cells.size q v
 |.eY _,_=>False
 |.any,v=>v.oneCell'=true
theorem dQ.one{w:World}{M:ap}{e:G}{x:V}{v:Value}(h:dQ w M e x v):v.oneCell'=true:=by
 cases x with
 |d x=>exact dN.one h
 |ptr s a=>obtain⟨b,_,rfl⟩:=h;rfl
 |sub s k a g=>rcases h with⟨_,_,_,_,_,rfl,_⟩|⟨_,_,_,rfl⟩|⟨_,_,_,_,rfl⟩<;>rfl
 |gU l=>obtain⟨_,rfl,_⟩:=h;rfl
 |db f c=>obtain⟨_,rfl,_⟩:=h;rfl
 |mp s=>obtain⟨_,_,rfl⟩:=h;rfl
 |ty s t i=>obtain⟨_,_,_,_,h⟩:=h;exact h.one
 |eY j=>cases h
 |any=>exact h
def bW(w:World)(M:ap)(c:G)(b:List V)(a:au):Prop:=
 b.length=a.length/\∀(i:Nat)(x:V)(u:Value),b[i]?=some x->a[i]?=some u->dQ w M c x u
def eK(w:World)(M:ap)(a:G):E->Value->Prop
 |.c x,v=>dQ w M a x v
 |.agg d,v=>∃b:List Value,v=.agg b.toArray/\bW w M a d b
def kS(w:World)(M:ap)(c:G)(a:List E)(b:au):Prop:=
 a.length=b.length/\∀(i:Nat)(x:E)(u:Value),a[i]?=some x->b[i]?=some u->eK w M c x u
def cr(w:World)(M:ap)(a:G):T->Value->Prop
 |.e x,v=>eK w M a x v
 |.cE c,v=>∃b:List Value,v=.tuple b.toArray/\kS w M a c b
 |.any,_=>True
structure lz(M:ap)(γ γ':G)(w w':World):Prop where
 size:w.heap.size<=w'.heap.size
 T9:∀b,dc w M γ b->w'.heap[b]?=w.heap[b]?
 gL:∀b,dc w M γ b->∀s,γ' s≠some (some b)
 jb:∀(b:Nat)(cells:Array Value)(t:TypeId),w.heap[b]?=some (.cells cells t (0,0))->∃cells':Array Value,w'.heap[b]?=some (.cells cells' t (0,0))/\cells'.size=cells.size
theorem lz.dc{M:ap}{d a:G}{w e:World}(h:lz M d a w e)(b:Nat)(c:dc w M d b):dc e M a b:=
 ⟨mz c.1 h.size,c.2.1,h.gL b c⟩
def dN.dR{M:ap}{b a:G}{w w':World}(h:lz M b a w w'){x:D}{v:Value}(c:dN w (Ab.dc w M b) x v):
 dN w' (Ab.dc w' M a) x v:=c.mono h.dc h.T9
def V.bx:V->Nat->Prop
 |.ptr s _,t=>s=t
 |.sub s _ _ _,t=>s=t
 |.db _ a,t=>∃p∈a,p.1=t
 |.mp s,t=>s=t
 |.ty s _ _,t=>s=t
 |_,_=>False
theorem dQ.dR{M:ap}{A n:G}{w w':World}(h:lz M A n w w'){x:V}{v:Value}(l:dQ w M A x v)
 (q:∀s,x.bx s->n s=A s):dQ w' M n x v:=by
 cases x with
 |d x=>exact dN.dR h l
 |ptr s B=>obtain⟨b,m,e⟩:=l;exact⟨b,(q s rfl).trans m,e⟩
 |sub s k B Q=>
  rcases l with⟨b,K,cells,t,m,e,z,y,H,h4⟩|⟨z,y⟩|⟨b,o,z,y⟩
  ·obtain⟨g,E,N⟩:=h.jb b cells t H;exact .inl ⟨b,K,g,t,(q s rfl).trans m,e,z,y,E,O⟩
  ·exact .inr (.inl ⟨(q s rfl).trans z,y⟩)
  ·exact .inr (.inr ⟨b,o,(q s rfl).trans z,y⟩)
 |gU ds=>
  obtain⟨a,e,C,r,hd⟩:=l;refine⟨a,e,C,h.dc _ r,λj x X=>?_⟩;obtain⟨u,R,T⟩:=hd j x X;refine⟨u,?_,T.dR h⟩;rw[OY (w:=w)]
  ·exact R
  ·rw[Cw];exact h.T9 _ r
 |db f P=>obtain⟨cs,e,U,hc⟩:=l;refine⟨cs,e,U,λi p c L D=>?_⟩;obtain⟨b,m,e'⟩:=hc i p c L D;exact⟨b,(q p.1 ⟨p,bM L,rfl⟩).trans m,e'⟩
 |mp s=>obtain⟨b,m,e⟩:=l;exact⟨b,(q s rfl).trans m,e⟩
 |ty s t sl=>obtain⟨b,cells,m,H,e⟩:=l;obtain⟨g,E,N⟩:=h.jb b cells t H;exact⟨b,g,(q s rfl).trans m,E,N▸e⟩
 |eY es=>cases l
 |any=>exact l
def E.bx:E->Nat->Prop
 |.c x,t=>x.bx t
 |.agg a,t=>∃x∈a,x.bx t
def T.bx:T->Nat->Prop
 |.e x,t=>x.bx t
 |.cE a,t=>∃x∈a,x.bx t
 |.any,_=>False
theorem bW.dR{M:ap}{b a:G}{w w':World}(h:lz M b a w w'){c:List V}{vs:au}(d:bW w M b c vs)
 (g:∀s,(∃x∈c,x.bx s)->a s=b s):bW w' M a c vs:=
 ⟨d.1,λi x u e f=>(d.2 i x u e f).dR h λs I=>g s ⟨x,bM e,I⟩⟩
theorem eK.dR{M:ap}{b a:G}{w w':World}(h:lz M b a w w'){x:E}{v:Value}(d:eK w M b x v)
 (f:∀s,x.bx s->a s=b s):eK w' M a x v:=by
 cases x with
 |c x=>exact dQ.dR h d f
 |agg j=>obtain⟨g,e,i⟩:=d;exact⟨g,e,i.dR h f⟩
theorem cr.dR{M:ap}{b a:G}{w w':World}(h:lz M b a w w'){x:T}{v:Value}(c:cr w M b x v)
 (d:∀s,x.bx s->a s=b s):cr w' M a x v:=by
 cases x with
 |e x=>exact eK.dR h c d
 |cE m=>obtain⟨g,e,k,l⟩:=c;exact⟨g,e,k,λi x u f j=>(l i x u f j).dR h λs I=>d s ⟨x,bM f,I⟩⟩
 |any=>trivial
def S9(o:Option Obj):Prop:=∃t r,o=some (.cells ((List.range 20).map λi=>Value.int .u64 ((10^i:Nat):Int)).toArray t r)
def uf(w:World)(M:ap)(a:G):=dc w M a 1/\S9 w.heap[1]?
def uf.to{M d:ap}{a γ':G}{w c:World}(t:uf w M a)(f:∀b,dc w M a b->dc c d γ' b)(e:∀b,dc w M a b->c.heap[b]?=w.heap[b]?):uf c d γ':=
 ⟨f _ t.1,by rw[e 1 t.1];exact t.2⟩
def uf.dR{M:ap}{a γ':G}{w w':World}(t:uf w M a)(h:lz M a γ' w w'):uf w' M γ':=t.to h.dc h.T9
structure Mem(M:ap)(γ:G)(H:fF)(w:World):Prop where
 iF:∀b,M b->b<w.heap.size
 inj:∀s t b,γ s=some (some b)->γ t=some (some b)->s=t
 nm:∀s b,γ s=some (some b)->¬M b
 ic:∀s,H s=none->γ s=none
 gR:∀s cs,H s=some cs->
  (∃(b:Nat)(t:TypeId)(vs spare:au),γ s=some (some b)/\w.heap[b]?=some (.cells (vs++spare).toArray t (0,0))/\bW w M γ cs vs)\/
  (γ s=some none/\cs=[])\/
  (∃(b:Nat)(ents:Array MapEntry)(clk:Nat),γ s=some (some b)/\w.heap[b]?=some (.map ents clk)/\cs=[.eY (ents.toList.map λe=>(e.key,e.val))])
 jO:uf w M γ
def jy{w:World}{b:Nat}{o:Obj}(h:w.heap[b]?=some o):b<w.heap.size:=(M_.1 h).1
def Mem.lt{M:ap}{d:G}{H:fF}{w:World}(h:Mem M d H w){s b:Nat}(I:d s=some (some b)):b<w.heap.size:=by
 cases e:H s with
 |none=>rw[h.ic s e]at I;cases I
 |some f=>
  rcases h.gR s f e with⟨i,t,j,k,a,c,_⟩|⟨a,_⟩|⟨i,l,g,a,c,_⟩
  ·rw[a]at I;cases I;exact jy c
  ·rw[a]at I;cases I
  ·rw[a]at I;cases I;exact jy c
structure fY(mX:ap)(w w':World):Prop where
 os:w'.os=w.os
 tape:w'.tape=w.tape
 output:w'.output=w.output
 drawn:w.drawn<=w'.drawn
 size:w.heap.size<=w'.heap.size
 same:∀b,b<w.heap.size->¬mX b->w'.heap[b]?=w.heap[b]?
 jb:∀(b:Nat)(cells:Array Value)(t:TypeId),w.heap[b]?=some (.cells cells t (0,0))->∃cells':Array Value,w'.heap[b]?=some (.cells cells' t (0,0))/\cells'.size=cells.size
def fY.refl(mX:ap)(w:World):fY mX w w:=⟨rfl,rfl,rfl,bK _,bK _,λ_ _ _=>rfl,λ_ cells _ h=>⟨cells,h,rfl⟩⟩
theorem fY.trans{i P2 f:ap}{a b c:World}(h:fY i a b)(k:fY P2 b c)(o:∀x,x<a.heap.size->i x->f x)(n:∀x,x<a.heap.size->P2 x->f x):fY f a c:=
 ⟨k.os.trans h.os,k.tape.trans h.tape,k.output.trans h.output,dH h.drawn k.drawn,dH h.size k.size,
   λx d g=>(k.same x (mz d h.size) (λe=>g (n x d e))).trans (h.same x d (λe=>g (o x d e))),
   λx cells t m=>by obtain⟨s,q,l⟩:=h.jb x cells t m;obtain⟨r,p,j⟩:=k.jb x s t q;exact⟨r,p,j.trans l⟩⟩
def q_:Nat->Prop:=λ_=>False
def fY.dR{M mX:ap}{c:G}{w w':World}(h:fY mX w w')(d:∀b,dc w M c b->¬mX b):lz M c c w w':=
 ⟨h.size,λb a=>h.same b a.1 (d b a),λ_ a=>a.2.2,h.jb⟩
def fY.FJ{M:ap}{a:G}{w w':World}(h:fY q_ w w'):lz M a a w w':=h.dR λ_ _ b=>b
theorem Mem.Gy{M:ap}{e:G}{H:fF}{w f:World}(h:Mem M e H w)(k:fY q_ w f):Mem M e H f where
 iF b hb:=mz (h.iF b hb) k.size
 inj:=h.inj
 nm:=h.nm
 ic:=h.ic
 gR s m I:=by
  rcases h.gR s m I with⟨b,t,g,i,a,hb,c⟩|j|⟨b,l,d,a,hb,c⟩
  ·exact .inl ⟨b,t,g,i,a,(k.same b (jy hb) (λx=>x)).trans hb,c.dR k.FJ λ_ _=>rfl⟩
  ·exact .inr (.inl j)
  ·exact .inr (.inr ⟨b,l,d,a,(k.same b (jy hb) (λx=>x)).trans hb,c⟩)
 jO:=h.jO.dR k.FJ
structure ef where
 M:Nat->Prop
 mX:Nat->Prop
 w0:World
 BJ:G
 aU:Nat->Prop
 nt:Nat
structure dD(C:ef)(γ:G)(σ:St)(a:Act)(w:World):Prop where
 mem:Mem C.M γ σ.heap w
 aV:∀i,cr w C.M γ (σ.aV i) (a.tmps.getD i undef)
 aN:fY C.mX C.w0 w
 aX:∀s b,γ s=some (some b)->C.mX b\/C.w0.heap.size<=b
 aU:∀s,C.aU s->γ s=C.BJ s
 defers:a.defers=[]
 size:a.tmps.size=C.nt
def gO(C:ef)(b:St)(a:Act)(w:World):Prop:=∃c,dD C c b a w
def gV(f:Nat->T)(i:Nat)(r:T):Nat->T:=λj=>if j=i then r else f j
def cZ(f:fF)(i:Nat)(r:Option (List V)):fF:=λj=>if j=i then r else f j
def St.put(a:St)(d:Option Nat)(r:T):St:=match d with|some i=> { a with aV:=gV a.aV i r}|none=>a
def LR:Value->T
 |.agg a=>if a.toList.all (λv=>v.oneCell')then .e (.agg (a.toList.map λv=>.d (.sc v)))else .any
 |.tuple _=>.any
 |v=>.e (.c (.d (.sc v)))
def St.ev(a:St):Operand->T
 |.tmp t=>a.aV t
 |.const v=>LR v
 |.func f=>.e (.c (.db f []))
 |.global _=>.any
def aDF(w:World)(M:ap)(c:G)(v:Value):cr w M c (LR v) v:=by
 cases v
 case agg d=>
  simp only[LR];split
  ·rename_i h;rw[eW]at h;refine⟨d.toList,ai,ai,λi x u a b=>?_⟩;rw[eC,b]at a;simp only[dP,cS]at a;subst a;exact dN.sc _ (h u (bM b))
  ·trivial
 all_goals first|trivial|exact dN.sc _ rfl
theorem dD.ev{C:ef}{d:G}{b:St}{a:Act}{w:World}(h:dD C d b a w)(x:aw):cr w C.M d (b.ev x) (a.eval x):=by
 match x with
 |.tmp t=>exact h.aV t
 |.const v=>exact aDF _ _ _ v
 |.func f=>exact⟨[],rfl,rfl,λi p c e=>by simp at e⟩
 |.global g=>trivial
def iq(P:ax)(o:Oper)(d:Operand->T)(r:T):Prop:=
 ∀(M:ap)(b:G)(H:fF)(w:World)(a:Act),Mem M b H w->(∀x∈o.op.operands.toList,cr w M b (d x) (a.eval x))->
  ∀(K:Act->World->Prop)(Q:Exit->Act->World->Prop),(∀v c,fY q_ w c->cr c M b r v->K (a.put o.dst v) c)->o.wp P a w K Q
def iq.congr{P:ax}{o:Oper}{d c:Operand->T}{r:T}(h:iq P o d r)(i:∀x∈o.op.operands.toList,c x=d x):iq P o c r:=
 λM e H w a g f K Q hK=>h M e H w a g (λx b=>by rw[<-i x b];exact f x b) K Q hK
def mn{P:ax}{o:Oper}{a:Act}{w w':World}{v:Value}{K:Act->World->Prop}{Q:Exit->Act->World->Prop}
 (h:(execOp a.eval o).run P w=.ok (.value v) w')(b:K (a.put o.dst v) w'):o.wp P a w K Q:=by
 unfold Oper.wp;rw[h];exact b
def U0{P:ax}{o:Oper}{a:Act}{w w':World}{K:Act->World->Prop}{Q:Exit->Act->World->Prop}
 (h:(execOp a.eval o).run P w=.ok .skip w')(b:K (a.put o.dst undef) w'):o.wp P a w K Q:=by
 unfold Oper.wp;rw[h];exact b
def kv{P:ax}{o:Oper}{c:Operand->T}{r:T}
 (h:∀(M:ap)(b:G)(H:fF)(w:World)(a:Act),Mem M b H w->(∀x∈o.op.operands.toList,cr w M b (c x) (a.eval x))->
   ∃v,(execOp a.eval o).run P w=.ok (.value v) w/\cr w M b r v):iq P o c r:=
 λM b H w a f d K Q hK=>by obtain⟨v,g,e⟩:=h M b H w a f d;exact mn g (hK v w (fY.refl _ _) e)
def fg(P:ax)(t:TypeId):Option Nat:=(P.info? t).map (·.size)
def oQ(P:ax)(t:TypeId):Option Nat:=(P.info? t).map (·.bytes)
def Ef(P:ax)(t:TypeId):Option (List Value):=(P.info? t).bind λi=>i.zero.map (·.cells.toList)
def HE(P:ax)(t:TypeId):Option Bool:=(P.underlying t).map λd=>match d with|.struct _|.array _ _=>true|_=>false
def wF(P:ax)(t:TypeId)(f:Nat):Option (Nat×TypeId):=
 match P.underlying t with
 |some (.struct a)=>(a[f]?).map λf=>(f.offset,f.type)
 |_=>none
def jA(P:ax)(t:TypeId):Option TypeId:=match P.underlying t with|some (.slice e)=>some e|_=>none
def wD(P:ax)(t:TypeId):Option (Nat×TypeId):=match P.underlying t with|some (.array n e)=>some (n,e)|_=>none
def zT(P:ax)(t:TypeId):Option IntKind:=match P.underlying t with|some (.int k)=>some k|_=>none
def BB(P:ax)(t:TypeId):Bool:=match P.underlying t with|some .bool=>true|_=>false
def rr(P:ax)(t:TypeId):Bool:=match P.underlying t with|some .string=>true|_=>false
def tK{P:ax}{t e:TypeId}(h:jA P t=some e):P.underlying t=some (.slice e):=by unfold jA at h;split at h<;>simp_all
def Ug{P:ax}{t e:TypeId}{n:Nat}(h:wD P t=some (n,e)):P.underlying t=some (.array n e):=by unfold wD at h;split at h<;>simp_all
def aiC{P:ax}{t:TypeId}{k:IntKind}(h:zT P t=some k):P.underlying t=some (.int k):=by unfold zT at h;split at h<;>simp_all
def aIy{P:ax}{t:TypeId}(h:BB P t=true):P.underlying t=some .bool:=by unfold BB at h;split at h<;>simp_all
def Uz{P:ax}{t:TypeId}(h:rr P t=true):P.underlying t=some .string:=by unfold rr at h;split at h<;>simp_all
def nA{P:ax}{t:TypeId}{n:Nat}(h:fg P t=some n)(w:World):(sizeOf t).run P w=.ok n w:=by
 unfold fg at h;cases a:P.info? t with
 |none=>simp[a]at h
 |some i=>simp[a]at h;simp[sizeOf,typeInfo,a,h]
def MR{P:ax}{t:TypeId}{b:Bool}(h:HE P t=some b)(w:World):(isAgg t).run P w=.ok b w:=by
 unfold HE at h;cases a:P.underlying t with
 |none=>simp[a]at h
 |some d=>simp[a]at h;rw[<-h];cases d<;>simp[isAgg,run_underlying a]
def Ui{P:ax}{t:TypeId}{f a:Nat}{ft:TypeId}(h:wF P t f=some (a,ft)):
 ∃(b:Array Field)(c:Field),P.underlying t=some (.struct b)/\b[f]?=some c/\c.offset=a/\c.type=ft:=by
 unfold wF at h;split at h
 ·rename_i b e;cases d:b[f]? with
  |none=>simp[d]at h
  |some c=>simp[d]at h;exact⟨b,c,e,d,h.1,h.2⟩
 ·cases h
def HM{P:ax}{t:TypeId}{cs:au}(h:Ef P t=some cs)(w:World):∃z,(zeroValue t).run P w=.ok z w/\z.cells.toList=cs:=by
 unfold Ef at h;cases a:P.info? t with
 |none=>simp[a]at h
 |some i=>
  cases b:i.zero with
  |none=>simp[a,b]at h
  |some z=>simp[a,b]at h;exact⟨z,by simp[zeroValue,typeInfo,a,b],h⟩
def aFf{P:ax}{o:Oper}{c:Operand->T}(x:aw)(b:o.op=.move x):iq P o c (c x):=
 kv λM e H w a _ d=>⟨a.eval x,by simp[execOp,b],d x (by simp[b,Op.operands])⟩
def aEW{P:ax}{o:Oper}{c:Operand->T}(x:aw)(b:o.op=.assign x):iq P o c (c x):=
 kv λM e H w a _ d=>⟨a.eval x,by simp[execOp,b],d x (by simp[b,Op.operands])⟩
def iw{w:World}{M:ap}{a:G}{v u:Value}(h:cr w M a (.e (.c (.d (.sc v)))) u):u=v:=by cases h;rfl
def aFh{P:ax}{o:Oper}{f:Operand->T}(c x y:aw)(b:o.op=.pick c x y)(t:Bool)(k:f c=.e (.c (.d (.sc (.bool t))))):
 iq P o f (if t then f x else f y):=
 kv λM m H w a _ g=>by
  have h:=g c (by simp[b,Op.operands]);rw[k]at h;have l:=iw h;have j:=g x (by simp[b,Op.operands]);have i:=g y (by simp[b,Op.operands]);refine⟨if t then a.eval x else a.eval y,?_,?_⟩
  ·simp[execOp,b,l,asBool]
  ·cases t<;>simpa
def mD(P:ax)(d:BinOp)(t:TypeId):Value->Value->Option Value
 |.int k a,.int c b=>
  match d with
  |.shl=>if b<0 then none else some (.int k (k.wrap (a*2^min b.toNat k.bits)))
  |.shr=>if b<0 then none else some (.int k (a.fdiv (2^min b.toNat k.bits)))
  |.add=>if k=c then some (.int k (k.wrap (a+b)))else none
  |.sub=>if k=c then some (.int k (k.wrap (a-b)))else none
  |.mul=>if k=c then some (.int k (k.wrap (a*b)))else none
  |.quo=>if k=c/\b≠0 then some (.int k (k.wrap (a.tdiv b)))else none
  |.rem=>if k=c/\b≠0 then some (.int k (a.tmod b))else none
  |.and=>if k=c then some (.int k (k.wrap (BitVec.ofInt k.bits a &&& BitVec.ofInt k.bits b).toNat))else none
  |.or=>if k=c then some (.int k (k.wrap (BitVec.ofInt k.bits a ||| BitVec.ofInt k.bits b).toNat))else none
  |.xor=>if k=c then some (.int k (k.wrap (BitVec.ofInt k.bits a ^^^ BitVec.ofInt k.bits b).toNat))else none
  |.andNot=>none
  |.eql=>if k=c then some (.bool (a==b))else none
  |.neq=>if k=c then some (.bool (a !=b))else none
  |.lss=>if k=c then some (.bool (decide (a<b)))else none
  |.leq=>if k=c then some (.bool (decide (a<=b)))else none
  |.gtr=>if k=c then some (.bool (decide (b<a)))else none
  |.geq=>if k=c then some (.bool (decide (b<=a)))else none
 |.bool a,.bool b=>
  match d with
  |.eql=>if BB P t then some (.bool (a==b))else none
  |.neq=>if BB P t then some (.bool (!(a==b)))else none
  |_=>none
 |.string a,.string b=>
  match d with
  |.eql=>some (.bool (a.toList==b.toList))
  |.neq=>some (.bool (!(a.toList==b.toList)))
  |_=>none
 |_,_=>none
def api{P:ax}{a:BinOp}{t:TypeId}{x y v:Value}(h:mD P a t x y=some v):v.oneCell'=true:=by
 unfold mD at h;split at h
 ·cases a<;>simp only at h<;>(try split at h)<;>first|cases h;rfl|cases h
 ·cases a<;>simp only at h<;>(try split at h)<;>first|cases h;rfl|cases h
 ·cases a<;>simp only at h<;>first|cases h;rfl|cases h
 ·cases h
def aF_{P:ax}{t:TypeId}(h:P.underlying t=some .bool)(a b:Bool)(w:World):(Op.equal t (.bool a) (.bool b)).run P w=.ok (a==b) w:=by
 have c:∀d,(Op.equalIn (d+1) t (.bool a) (.bool b)).run P w=.ok (a==b) w:=λd=>by simp only[Op.equalIn,Sem.run_bind,run_underlying h,Result.andThen_ok,Sem.run_pure]
 exact c 9999
def apj{P:ax}{c:BinOp}{t:TypeId}{x y v:Value}(h:mD P c t x y=some v)(w:World)(f e:aw):
 (do eqGuard c t f e x y;binOp c t x y:Sem Value).run P w=.ok v w:=by
 unfold mD at h;split at h
 ·rename_i k a i b;have d:(eqGuard c t f e (.int k a) (.int i b)).run P w=.ok () w:=by unfold eqGuard;cases c<;>simp
  simp only[Sem.run_bind,d,Result.andThen_ok];cases c<;>simp only at h;all_goals try split at h
  all_goals first|cases h;done|rename_i g;injection h with h;subst h;simp[binOp,Op.shift,g];done|injection h with h;subst h;simp_all[binOp,Op.intArith,Op.intDiv,Op.intBits,Op.intCmp];done
 ·rename_i a b;have d:(eqGuard c t f e (.bool a) (.bool b)).run P w=.ok () w:=by unfold eqGuard;cases c<;>simp
  simp only[Sem.run_bind,d,Result.andThen_ok];cases c<;>simp only at h;all_goals first
   |cases h;done
   |(split at h
     ·rename_i g;injection h with h;subst h
      simp only[binOp,Sem.run_bind,aF_ (aIy g),Result.andThen_ok,Sem.run_pure]
     ·cases h)
 ·rename_i a b;have d:(eqGuard c t f e (.string a) (.string b)).run P w=.ok () w:=by unfold eqGuard;cases c<;>simp
  simp only[Sem.run_bind,d,Result.andThen_ok];cases c<;>simp only at h;all_goals first|cases h;done|injection h with h;subst h;simp[binOp,Op.stringOp];done
 ·cases h
def aEX{P:ax}{o:Oper}{f:Operand->T}(j:BinOp)(t:TypeId)(x y:aw)(n:TypeId)(b:o.op=.binOp j t x y n)(i g v:Value)
 (q:f x=.e (.c (.d (.sc i))))(p:f y=.e (.c (.d (.sc g))))(k:mD P j t i g=some v):iq P o f (.e (.c (.d (.sc v)))):=
 kv λM r H w a _ h=>by have m:=h x (by simp[b,Op.operands]);have l:=h y (by simp[b,Op.operands]);rw[q]at m;rw[p]at l;refine⟨v,?_,.sc v (api k)⟩;have:=apj k w x y;simp only[execOp,b,iw m,iw l];rw[Sem.run_bind,this];rfl
def Ei:UnOp->Value->Option Value
 |.not,.bool b=>some (.bool (!b))
 |.neg,.int k n=>some (.int k (k.wrap (0-n)))
 |.xor,.int k n=>some (.int k (k.wrap (BitVec.ofInt k.bits (if k.signed then-1 else k.max) ^^^ BitVec.ofInt k.bits n).toNat))
 |_,_=>none
def aFi{P:ax}{o:Oper}{k:Operand->T}(g:UnOp)(t:TypeId)(x:aw)(i:o.op=.unOp g t x)(f v:Value)
 (l:k x=.e (.c (.d (.sc f))))(b:Ei g f=some v):iq P o k (.e (.c (.d (.sc v)))):=
 kv λM m H w a _ h=>by
  have j:=h x (by simp[i,Op.operands]);rw[l]at j;refine⟨v,?_,?_⟩
  ·simp only[execOp,i,iw j];unfold Ei at b;split at b<;>first|injection b with b;subst b;simp[Op.unary,Op.intArith,Op.intBits];done|cases b
  ·unfold Ei at b;split at b<;>first|injection b with b;subst b;exact .sc _ rfl|cases b
def aE0{P:ax}{o:Oper}{l:Operand->T}(b f:TypeId)(x:aw)(i:o.op=.convert b f x)(k g:IntKind)(n:Int)
 (m:l x=.e (.c (.d (.sc (.int k n)))))(I:(zT P b).isSome=true)(p:zT P f=some g):iq P o l (.e (.c (.d (.sc (.int g (g.wrap n)))))):=
 kv λM q H w a _ h=>by have j:=h x (by simp[i,Op.operands]);rw[m]at j;obtain⟨k0,I⟩:=NS.1 I;refine⟨_,?_,.sc _ rfl⟩;simp[execOp,i,iw j,convert,run_underlying (aiC I),run_underlying (aiC p),Conv.intToInt]
theorem bW.drop{w:World}{M:ap}{a:G}{e:List V}{b:au}(h:bW w M a e b)(n:Nat):bW w M a (e.drop n) (b.drop n):=
 ⟨by simp[h.1],λi x u c d=>by rw[nD]at c d;exact h.2 _ x u c d⟩
theorem bW.take{w:World}{M:ap}{b:G}{e:List V}{c:au}(h:bW w M b e c)(n:Nat):bW w M b (e.take n) (c.take n):=
 ⟨by simp[h.1],λi x u a d=>by rw[sO]at a d;split at a<;>simp_all;exact h.2 _ x u a d⟩
def bW.append{w:World}{M:ap}{c:G}{d k:List V}{e f:au}(h:bW w M c d e)(j:bW w M c k f):bW w M c (d++k) (e++f):=
 ⟨by simp[h.1,j.1],λi x u a b=>by
   rw[B3]at a b;have l:=h.1;by_cases g:i<d.length
   ·rw[aM g]at a;rw[aM O]at b;exact h.2 _ x u a b
   ·rw[Z g]at a;rw[Z O]at b;rw[l]at a;exact j.2 _ x u a b⟩
def bW.nil{w:World}{M:ap}{a:G}:bW w M a [] []:=⟨rfl,λi x u b=>by simp at b⟩
def bW.one{w:World}{M:ap}{b:G}{x:V}{u:Value}(h:dQ w M b x u):bW w M b [x] [u]:=
 ⟨rfl,λi y v a c=>by
   rcases i with _|i
   ·simp at a c;subst a;subst c;exact h
   ·simp at a⟩
def bW.Fh{w:World}{M:ap}{b:G}{cs:List V}{vs:au}(h:bW w M b cs vs){i:Nat}{x:V}(c:cs[i]?=some x):∃u,vs[i]?=some u/\dQ w M b x u:=by
 have d:i<cs.length:=(du.1 c).1;have a:i<vs.length:=by have:=h.1;omega
 exact⟨vs[i],cN a,h.2 i x _ c (cN a)⟩
def bW.xP{w:World}{M:ap}{b:G}{cs:List V}{a:au}(h:bW w M b cs a):∀u∈a,u.oneCell'=true:=by
 intro u c;obtain⟨i,d,rfl⟩:=Iw c;have e:i<cs.length:=by have:=h.1;omega
 exact(h.2 i cs[i] a[i] (cN e) (cN d)).one
def E.cells:E->List V
 |.c x=>[x]
 |.agg a=>a
theorem eK.cells{w:World}{M:ap}{a:G}{x:E}{v:Value}(h:eK w M a x v):bW w M a x.cells v.cells.toList:=by
 cases x with
 |c x=>
  have d:=dQ.one h;have:v.cells.toList=[v]:=by cases v<;>first|rfl|simp[Value.oneCell']at d
  rw[this];exact bW.one h
 |agg e=>obtain⟨f,rfl,b⟩:=h;exact b
def vP(a:Nat):T->Option T
 |.e (.c (.ptr s o))=>some (.e (.c (.ptr s (o+a))))
 |.e (.c (.ty s _ (.inl _)))=>some (.e (.c (.ptr s a)))
 |.e (.c (.gU b))=>some (.e (.c (.gU (b.drop a))))
 |_=>none
def W6{w:World}{M:ap}{i:G}{c:Nat}{x r:T}{v:Value}(h:vP c x=some r)(d:cr w M i x v):
 ∃a:Addr,v=.pointer (some a)/\cr w M i r (.pointer (some (a.add c))):=by
 unfold vP at h;split at h
 ·injection h with h;subst h
  obtain⟨b,g,rfl⟩:=d;exact⟨_,rfl,b,g,by rw[uH]⟩
 ·injection h with h;subst h
  obtain⟨b,_,g,_,rfl,_⟩:=d;exact⟨_,rfl,b,g,by rw[uH,ol]⟩
 ·injection h with h;subst h
  obtain⟨a,rfl,f,e,n⟩:=d;refine⟨a,rfl,a.add c,rfl,T5 a c f,by rw[Cw];exact e,λj x k=>?_⟩;rw[nD]at k;obtain⟨u,l,m⟩:=n _ x k;exact⟨u,by rw[I8];exact l,m⟩
 ·cases h
def aE5{P:ax}{o:Oper}{j:Operand->T}(s:TypeId)(x:aw)(f:Nat)(g:o.op=.fieldAddr s x f)(b:Nat)(i:TypeId)(n:Nat)
 (p:wF P s f=some (b,i))(I:fg P i=some (n+1))(r:T)(k:vP b (j x)=some r):iq P o j r:=
 kv λM u H w a _ h=>by obtain⟨v,y,l,c,t,q⟩:=Ui p;obtain⟨z,e,m⟩:=W6 k (h x (by simp[g,Op.operands]));refine⟨_,?_,m⟩;have d:=nA I w;rw[<-q]at d;simp[execOp,g,Instr.fieldAt,run_underlying l,c,e,Instr.sureAddr,fieldPlace,d,t]
def Dk(size:Nat)(i:Int):T->Option T
 |.e (.c (.sub s k a b))=>if 0<=i/\i<b/\k=size then some (.e (.c (.ptr s (a+i.toNat*k))))else none
 |.e (.c (.d (.sl f)))=>
  if 0<=i then
   match f[i.toNat]? with
   |some r=>if r.length=size then some (.e (.c (.gU r)))else none
   |none=>none
  else none
 |_=>none
def aE7{P:ax}{o:Oper}{Q:Operand->T}(t:TypeId)(x B:aw)(y:o.op=.indexAddr t x B)(e:TypeId)(n:Nat)(k:IntKind)(i:Int)
 (X:jA P t=some e)(I:fg P e=some n)(hi:Q B=.e (.c (.d (.sc (.int k i)))))(r:T)(f:Dk n i (Q x)=some r):iq P o Q r:=
 kv λM γ H w a _ h=>by
  have v:=h x (by simp[y,Op.operands]);have u:=h B (by simp[y,Op.operands]);rw[hi]at u;have u:=iw u;unfold Dk at f;split at f
  ·rename_i s k' off z g;split at f
   ·rename_i hc;obtain⟨V,c2,rfl⟩:=hc;injection f with f;subst f
    rw[g]at v;rcases v with⟨b,R,cells,ty,hb,e1,_⟩|⟨_,_,N,_⟩|⟨_,_,_,N,_⟩
    ·refine⟨_,?_,b,hb,rfl⟩;have m:(0:Int)<=i/\i<(z:Int):=⟨V,c2⟩;simp[execOp,y,Instr.indexAt,u,asIntOf,run_underlying (tK X),e1,nA I,uH,m]
    ·omega
    ·omega
   ·cases f
  ·rename_i es g;split at f
   ·rename_i V;split at f
    ·rename_i r' G;split at f
     ·rename_i hl;injection f with f;subst f
      rw[g]at v;generalize C:a.eval x=va at v;cases v with
      |sl _ kk R A U hcap hmax q hA hU=>
       have l:i.toNat<es.length:=(du.1 G).1;obtain⟨ad,rfl,E,D,p⟩:=hA (by intro N;rw[N]at l;simp at l);have K:kk=n:=by rw[<-q r' (bM G),hl]
       subst K;have m:(0:Int)<=i/\i<(es.length:Int):=⟨V,O⟩;refine⟨.pointer (some (ad.add (i.toNat*kk))),?_,ad.add (i.toNat*kk),rfl,T5 _ _ E,by rw[Cw];exact D,λj x hj=>?_⟩
       ·simp[execOp,y,Instr.indexAt,u,asIntOf,run_underlying (tK X),C,nA I,m]
       ·have L:j<kk:=by have:=(du.1 hj).1;omega
        refine⟨U i.toNat j,?_,hU i.toNat j x (by simp[G,hj])⟩;rw[I8];exact p _ _ l L
     ·cases f
    ·cases f
   ·cases f
  ·cases f
def aE8{P:ax}{o:Oper}{l:Operand->T}(t:TypeId)(x g:aw)(j:o.op=.indexAddr t x g)(e:TypeId)(n b:Nat)(k:IntKind)(i:Int)
 (p:wD P t=some (b,e))(I:fg P e=some n)(s:l g=.e (.c (.d (.sc (.int k i)))))(v:0<=i)(u:i<b)(r:T)(m:vP (i.toNat*n) (l x)=some r):iq P o l r:=
 kv λM y H w a _ h=>by have f:=h g (by simp[j,Op.operands]);rw[s]at f;have f:=iw f;obtain⟨z,e,q⟩:=W6 m (h x (by simp[j,Op.operands]));refine⟨_,?_,q⟩;simp[execOp,j,Instr.indexAt,f,asIntOf,run_underlying (Ug p),e,Instr.sureAddr,nA I,v,u]
def uD:T->Option Nat
 |.e (.c (.sub _ _ _ a))=>some a
 |.e (.c (.d (.sl b)))=>some b.length
 |.e (.c (.d (.sc (.slice _ n _))))=>some n
 |_=>none
def zK{w:World}{M:ap}{b:G}{x:T}{v:Value}{n:Nat}(h:uD x=some n)(a:cr w M b x v):∃A c,v=.slice A n c:=by
 unfold uD at h;split at h<;>first|injection h with h;subst h|cases h
 ·rcases a with⟨_,_,_,_,_,rfl,_⟩|⟨_,_,rfl,rfl⟩|⟨_,_,_,rfl,rfl⟩<;>exact⟨_,_,rfl⟩
 ·cases a;exact⟨_,_,rfl⟩
 ·cases a;exact⟨_,_,rfl⟩
def aE_{P:ax}{o:Oper}{f:Operand->T}(t:TypeId)(x:aw)(b:o.op=.call { callee:=.builtin .len,args:=#[x],argTypes:=#[t]})(e:TypeId)(n:Nat)
 (j:jA P t=some e)(g:uD (f x)=some n):iq P o f (.e (.c (.d (.sc (.int .i64 n))))):=
 kv λM k H w a _ h=>by obtain⟨A,c,i⟩:=zK g (h x (by simp[b,Op.operands,Call.operands]));refine⟨_,?_,.sc _ rfl⟩;simp[execOp,b,resolve,invoke,builtin,Builtin.len_,run_underlying (tK j),i,goInt]
def aFa{P:ax}{o:Oper}{g:Operand->T}(t:TypeId)(x:aw)(b:o.op=.call { callee:=.builtin .len,args:=#[x],argTypes:=#[t]})(s:az)
 (j:rr P t=true)(i:g x=.e (.c (.d (.sc (.string s))))):iq P o g (.e (.c (.d (.sc (.int .i64 s.size))))):=
 kv λM k H w a _ h=>by have f:=h x (by simp[b,Op.operands,Call.operands]);rw[i]at f;refine⟨_,?_,.sc _ rfl⟩;simp[execOp,b,resolve,invoke,builtin,Builtin.len_,run_underlying (Uz j),iw f,goInt]
def aE3{P:ax}{o:Oper}{k:Operand->T}(x:aw)(i:Nat)(f:o.op=.extract x i)(c:List E)(r:E)(l:k x=.cE c)(d:c[i]?=some r):iq P o k (.e r):=
 kv λM p H w a _ h=>by
  have j:=h x (by simp[f,Op.operands]);rw[l]at j;obtain⟨us,m,q,n⟩:=j;have g:i<us.length:=by have:=(du.1 d).1;omega
  have b:us[i]?=some us[i]:=cN g;refine⟨us[i],?_,n i r _ d b⟩;simp[execOp,f,Instr.extract,m,g]
def kA(c:List V)(a:Nat)(b:List V):List V:=c.take a++b++c.drop (a+b.length)
def T4{w:World}{M:ap}{b:G}{g e:List V}{c d:au}(a:Nat)(h:bW w M b g c)(f:bW w M b e d):
 bW w M b (kA g a e) (c.take a++d++c.drop (a+d.length)):=by
 unfold kA;rw[f.1];exact((h.take a).append f).append (h.drop _)
def abC(d:au):∀(a j:Nat)(b:Array Value),a+j+d.length<=b.size->
 ((d.zipIdx j).foldl (λb (c,j)=>b.setIfInBounds (a+j) c) b).toList=b.toList.take (a+j)++d++b.toList.drop (a+j+d.length):=by
 induction d with
 |nil=>intro a j b _;simp
 |cons u d g=>intro a j b f;simp only[List.zipIdx_cons,vk];rw[g a (j+1) _ (by simp at f⊢;omega)];have e:=list_seg_step b.toList (a+j) u d (by simp at f⊢;omega);simpa[Array.toList_setIfInBounds,xd]using e
def vQ(place:Nat->Option (Nat×Nat))(cells:List V):List (Nat×T)->Option (List V)
 |[]=>some cells
 |(i,t)::rest=>
  match place i,t with
  |some (a,size),.e x=>if x.cells.length=size/\a+size<=cells.length then vQ place (kA cells a x.cells) rest else none
  |_,_=>none
def abd{w:World}{M:ap}{γ:G}(place:Nat->Option (Nat×Nat)):∀(f:List (Nat×T)) (a:List (Nat×Value)) (cells:List V) (d:au) (r:List V),
 f.length=a.length->(∀(i:Nat)(p:Nat×T)(q:Nat×Value),f[i]?=some p->a[i]?=some q->p.1=q.1/\cr w M γ p.2 q.2)->bW w M γ cells d->vQ place cells f=some r->
 ∃us:List Value,Instr.fill place d.toArray a=some us.toArray/\bW w M γ r us:=by
 intro f
 induction f with
 |nil=>
  intro a cells d r l _ m c;have:a=[]:=fR (an l.symm);subst this;simp only[vQ]at c;injection c with c;subst c
  exact⟨d,rfl,m⟩
 |cons p f y=>
  intro a cells d r l h m c;obtain⟨q,a,rfl⟩:∃q qs',a=q::qs':=by
   cases a with
   |nil=>simp at l
   |cons q a=>exact⟨q,a,rfl⟩
  obtain⟨i,t⟩:=p;obtain⟨j,v⟩:=q;obtain⟨u,s⟩:=h 0 _ _ rfl rfl;simp only at u s;subst u;simp only[vQ]at c;split at c
  ·rename_i b size x o;split at c
   ·rename_i e;obtain⟨C,D⟩:=e;have k:=eK.cells s;have hlen:v.cells.toList.length=size:=by rw[<-k.1,C]
    have z:=m.1
    obtain⟨us,n,g⟩:=y a (kA cells b x.cells) (d.take b++v.cells.toList++d.drop (b+v.cells.toList.length)) r (an l)
     (λi p q o B=>h (i+1) p q (an o) (an B)) (T4 b m k) c
    refine⟨us,?_,g⟩;simp only[Instr.fill,o];have A:v.cells.size=size:=an hlen;rw[Z (by simp;omega)];rw[<-n];congr 1;have:=abC v.cells.toList b 0 d.toArray (by simp;omega);apply mQ;rw[<-Array.toList_zipIdx,uc]at this;simp only[Array.foldl_toList]at this;simpa using this
   ·cases c
  ·cases c
def dZ(a:G)(d:Nat)(b:Option Nat):G:=λs=>if s=d then some b else a s
def ud.ne{c:G}{s a:Nat}{v:Value}(h:ud c s a v):c s≠none:=by obtain⟨b,h,_⟩:=h;rw[h];simp
def dQ.named{w:World}{M:ap}{c:G}{x:V}{v:Value}(h:dQ w M c x v)(s:Nat)(I:x.bx s):c s≠none:=by
 cases x with
 |ptr t a=>cases I;exact ud.ne h
 |sub t k a g=>cases I;rcases h with⟨b,_,_,_,h,_⟩|⟨h,_⟩|⟨b,_,h,_⟩<;>rw[h]<;>simp
 |db f e=>obtain⟨p,j,rfl⟩:=I;obtain⟨n,_,o,m⟩:=h;obtain⟨i,l,rfl⟩:=Iw j;exact ud.ne (m i _ (n[i]' O) (cN l) (cN O))
 |mp t=>cases I;obtain⟨b,h,_⟩:=h;rw[h];simp
 |ty t _ _=>cases I;obtain⟨b,_,h,_⟩:=h;rw[h];simp
 |eY q=>cases I
 |d x=>cases I
 |gU r=>cases I
 |any=>cases I
theorem bW.named{w:World}{M:ap}{a:G}{b:List V}{c:au}(h:bW w M a b c)(s:Nat)(I:∃x∈b,x.bx s):a s≠none:=by obtain⟨x,d,I⟩:=I;obtain⟨i,f,rfl⟩:=Iw d;obtain⟨u,_,e⟩:=h.Fh (cN f);exact e.named s I
theorem eK.named{w:World}{M:ap}{a:G}{x:E}{v:Value}(h:eK w M a x v)(s:Nat)(I:x.bx s):a s≠none:=by
 cases x with
 |c x=>exact dQ.named h s I
 |agg d=>obtain⟨e,_,b⟩:=h;exact b.named s I
theorem cr.named{w:World}{M:ap}{a:G}{x:T}{v:Value}(h:cr w M a x v)(s:Nat)(I:x.bx s):a s≠none:=by
 cases x with
 |e x=>exact eK.named h s I
 |cE g=>obtain⟨b,_,j,f⟩:=h;obtain⟨x,c,I⟩:=I;obtain⟨i,d,rfl⟩:=Iw c;exact(f i _ (b[i]' O) (cN d) (cN O)).named s I
 |any=>cases I
def vS(a:Act)(d:Option Nat)(v:Value)(i:Nat)(h:∀j,d=some j->j<a.tmps.size):
 (a.put d v).tmps.getD i undef=if d=some i then v else a.tmps.getD i undef:=by
 cases d with
 |none=>simp[Act.put]
 |some j=>
  have b:=h j rfl;by_cases e:j=i
  ·subst e;simp[Act.put,b]
  ·simp[Act.put,e]
def uS(a:Act)(d:Option Nat)(v:Value):(a.put d v).tmps.size=a.tmps.size:=by cases d<;>simp[Act.put]
def wx(a:Act)(d:Option Nat)(v:Value):(a.put d v).defers=a.defers:=by cases d<;>rfl
def rf(a:St)(d:Option Nat)(r:T)(i:Nat):(a.put d r).aV i=if d=some i then r else a.aV i:=by
 cases d with
 |none=>simp[St.put]
 |some j=>simp only[St.put,gV,cS];by_cases e:i=j<;>simp[e,eq_comm]
def Bj(σ:St)(d:Option Nat)(r:T):(σ.put d r).heap=σ.heap:=by cases d<;>rfl
def fc(P:ax)(n:Nat)(aU:ap)(o:Oper)(σ b:St):Prop:=
 ∀C:ef,C.nt=n->C.aU=aU->∀a w,gO C σ a w->∀(K:Act->World->Prop)(Q:Exit->Act->World->Prop),(∀d c,gO C b d c->K d c)->o.wp P a w K Q
def jv(n:Nat)(d:Option Nat):=∀j,d=some j->j<n
def fc.aeV{P:ax}{n:Nat}{aU:ap}{o:Oper}{b:St}{r:T}(h:iq P o b.ev r)(g:jv n o.dst):
 fc P n aU o b (b.put o.dst r):=by
 intro C f _ a w ⟨d,R⟩ K Q hK;refine h C.M d b.heap w a R.mem (λx _=>R.ev x) K Q λv j c e=>hK _ _ ⟨d,?_⟩
 refine⟨by rw[Bj];exact R.mem.Gy c,λi=>?_,R.aN.trans c (λ_ _ h=>h) (λ_ _ h=>h.elim),R.aX,R.aU,by rw[wx];exact R.defers,by rw[uS];exact R.size⟩;rw[vS _ _ _ _ (by rw[R.size,f];exact g),rf];split
 ·exact e
 ·exact(R.aV i).dR c.FJ λ_ _=>rfl
def tS(P:ax)(o:Oper)(g:Operand->T)(d:Nat)(h:List V)(r:T):Prop:=
 ∀(M:ap)(c:G)(H:fF)(w:World)(a:Act),Mem M c H w->(∀x∈o.op.operands.toList,cr w M c (g x) (a.eval x))->
  ∀(K:Act->World->Prop)(Q:Exit->Act->World->Prop),
   (∀(v:Value)(e:World)(b:Nat)(t:TypeId)(f spare:au),fY q_ w e->w.heap.size<=b->e.heap[b]?=some (.cells (f++spare).toArray t (0,0))->
     bW w M c h f->cr e M (dZ c d (some b)) r v->K (a.put o.dst v) e)->o.wp P a w K Q
def tS.congr{P:ax}{o:Oper}{e c:Operand->T}{d:Nat}{f:List V}{r:T}(h:tS P o e d f r)(k:∀x∈o.op.operands.toList,c x=e x):tS P o c d f r:=
 λM g H w a j i K Q hK=>h M g H w a j (λx b=>by rw[<-k x b];exact i x b) K Q hK
def fc.aDI{P:ax}{n:Nat}{aU:ap}{o:Oper}{p:St}{r:T}{d:Nat}{cs:List V}(h:tS P o p.ev d cs r)(hd:jv n o.dst)
 (hf:p.heap d=none)(N:¬aU d):fc P n aU o p ⟨(p.put o.dst r).aV,cZ p.heap d (some cs)⟩:=by
 intro C hn B a w ⟨k,R⟩ K Q hK;refine h C.M k p.heap w a R.mem (λx _=>R.ev x) K Q λv w' b t vs spare u hb M D hr=>hK _ _ ⟨dZ k d (some b),?_⟩
 have A:k d=none:=R.mem.ic d hf;have j:lz C.M k (dZ k d (some b)) w w':=by
  refine⟨u.size,λx y=>u.same x y.1 (λh=>h),λx y s=>?_,u.jb⟩;unfold dZ;split
  ·intro e;injection e with e;injection e with e;have:=y.1;omega
  ·exact y.2.2 s
 have f:∀s,k s≠none->dZ k d (some b) s=k s:=by intro s I;unfold dZ;rw[Z (by rintro rfl;exact I A)]
 refine⟨⟨λx y=>mz (R.mem.iF x y) u.size,?_,?_,?_,?_,R.mem.jO.dR j⟩,λi=>?_,R.aN.trans u (λ_ _ h=>h) (λ_ _ h=>h.elim),?_,?_,?_,?_⟩
 ·intro s H x c m;unfold dZ at c m;split at c<;>split at m
  ·omega
  ·injection c with c;injection c with c;have:=R.mem.lt m;omega
  ·injection m with m;injection m with m;have:=R.mem.lt c;omega
  ·exact R.mem.inj s H x c m
 ·intro s x c;unfold dZ at c;split at c
  ·injection c with c;injection c with c;intro hM;have:=R.mem.iF x hM;omega
  ·exact R.mem.nm s x c
 ·intro s I;simp only[cZ]at I;unfold dZ;split at I
  ·cases I
  ·rw[Z Y];exact R.mem.ic s I
 ·intro s U I;simp only[cZ]at I;split at I
  ·rename_i e;subst e;injection I with I;subst I
   exact .inl ⟨b,t,vs,spare,by simp[dZ],M,D.dR j λs I=>f s (D.named s I)⟩
  ·rename_i hne;rcases R.mem.gR s U I with⟨E,H,G,L,l,g,z⟩|⟨l,z⟩|⟨E,en,X,l,g,z⟩
   ·exact .inl ⟨E,H,G,L,by rw[f s (by rw[l];simp)];exact l,(u.same E (jy g) (λh=>h)).trans g,z.dR j λs I=>f s (z.named s I)⟩
   ·exact .inr (.inl ⟨by rw[f s (by rw[l];simp)];exact l,z⟩)
   ·exact .inr (.inr ⟨E,en,X,by rw[f s (by rw[l];simp)];exact l,(u.same E (jy g) (λh=>h)).trans g,z⟩)
 ·rw[vS _ _ _ _ (by rw[R.size,hn];exact hd)];show cr _ _ _ ((p.put o.dst r).aV i) _;rw[rf];split
  ·exact hr
  ·exact(R.aV i).dR j λs I=>f s ((R.aV i).named s I)
 ·intro s x c;unfold dZ at c;split at c
  ·injection c with c;injection c with c;have:=R.aN.size;exact .inr O
  ·exact R.aX s x c
 ·intro s q;rw[B]at q;have:=R.aU s (by rw[B];exact q);unfold dZ;rw[Z (by rintro rfl;exact N q)];exact this
 ·rw[wx];exact R.defers
 ·rw[uS];exact R.size
def q7(w:World)(o:Obj):fY q_ w (w.alloc o):=
 ⟨rfl,rfl,rfl,bK _,ai,λb a _=>Below.heap_alloc w o b a,λb cells t h=>⟨cells,(Below.heap_alloc w o b (jy h)).trans h,rfl⟩⟩
def ou(w:World)(o:Obj):(w.alloc o).heap[w.heap.size]?=some o:=heap_alloc_new w o
def anv{P:ax}{o:Oper}{g:Operand->T}(t:TypeId)(x:aw)(b:o.op=.box t x)(d:Nat)(e:E)(i:g x=.e e):
 tS P o g d e.cells (.e (.c (.ptr d 0))):=by
 intro M k H w a l h K Q hK;have f:=h x (by simp[b,Op.operands]);rw[i]at f;have j:=eK.cells f;refine mn (v:=.pointer (some ⟨w.heap.size,0,none⟩)) (w':=w.alloc (.cells (a.eval x).cells t)) ?_ ?_
 ·simp[execOp,b,Instr.box,newVar,newRow]
 ·refine hK _ _ w.heap.size t (a.eval x).cells.toList [] (q7 _ _) (bK _) ?_ j ⟨w.heap.size,by simp[dZ],rfl⟩;rw[ou];simp
def jQ(P:ax)(t:TypeId):Option (List V):=(Ef P t).bind λa=>if a.all (·.oneCell')then some (a.map λv=>.d (.sc v))else none
def HX{w:World}{M:ap}{c:G}(zs:au)(h:zs.all (·.oneCell')=true):bW w M c (zs.map λv=>.d (.sc v)) zs:=by
 refine⟨ai,λi x u a b=>?_⟩;simp only[eC,b,dP]at a;injection a with a;subst a
 exact .sc u (by simp at h;exact h u (bM b))
def Eg{P:ax}{t:TypeId}{c:List V}(h:jQ P t=some c):∃a,Ef P t=some a/\c=a.map (λv=>.d (.sc v))/\a.all (·.oneCell')=true:=by
 unfold jQ at h;cases b:Ef P t with
 |none=>simp[b]at h
 |some a=>
  simp only[b,Cb]at h;split at h
  ·rename_i e;injection h with h
   exact⟨a,rfl,h.symm,e⟩
  ·cases h
def ant{P:ax}{o:Oper}{n:Operand->T}(t:TypeId)(l:o.op=.alloc t)(d:Nat)(j:List V)(k:jQ P t=some j):
 tS P o n d j (.e (.c (.ptr d 0))):=by
 intro M p H w a q h K Q hK;obtain⟨i,g,rfl,m⟩:=Eg k;obtain⟨z,b,f⟩:=HM g w;refine mn (v:=.pointer (some ⟨w.heap.size,0,none⟩)) (w':=w.alloc (.cells z.cells t)) ?_ ?_
 ·simp[execOp,l,Instr.alloc,b,newVar,newRow]
 ·refine hK _ _ w.heap.size t i [] (q7 _ _) (bK _) ?_ (HX i m) ⟨w.heap.size,by simp[dZ],rfl⟩;rw[ou,<-f];simp
def dS:List V->Bool
 |.eY _::_=>false
 |_=>true
def aCR(a:List D):dS (a.map .d)=true:=by cases a<;>rfl
def mJ(P:ax)(t:TypeId)(b:List V)(a:Nat):Option T:=
 match dS b,HE P t with
 |true,some true=>
  match fg P t with
  |some n=>if a+n<=b.length then some (.e (.agg ((b.drop a).take n)))else none
  |none=>none
 |true,some false=>(b[a]?).map λv=>.e (.c v)
 |_,_=>none
def y4{w:World}{b:Nat}{cells:Array Value}{t:TypeId}(h:w.heap[b]?=some (.cells cells t (0,0)))(i:Nat):w.cell? ⟨b,i,none⟩=cells[i]? :=by simp[World.cell?,h]
def agK{P:ax}{w:World}{M:ap}{l:G}{t:TypeId}{k:List V}{e:au}{b:Nat}{r:T}{a:Addr}(c:mJ P t k b=some r)
 (i:bW w M l k e)(m:∀j u,e[b+j]?=some u->w.cell? (a.add j)=some u):∃v,(Instr.loadAt t (.pointer (some a))).run P w=.ok v w/\cr w M l r v:=by
 unfold mJ at c;split at c
 ·rename_i _ d;split at c
  ·rename_i n p;split at c
   ·rename_i hlen;injection c with c;subst c
    have s:=i.1;have q:((e.drop b).take n).length=n:=by simp;omega
    refine⟨.agg ((e.drop b).take n).toArray,?_,(e.drop b).take n,rfl,(i.drop b).take n⟩;have:=run_loadCells_list (P:=P) w a ((e.drop b).take n) (λj u g=>m j u (by
     rw[sO]at g;split at g
     ·rwa [nD]at g
     ·cases g))
    rw[q]at this;simp[Instr.loadAt,Instr.sureAddr,loadVar,MR d,nA p,this]
   ·cases c
  ·cases c
 ·rename_i _ d;cases h:k[b]? with
  |none=>simp[h]at c
  |some x=>simp[h]at c;subst c;obtain⟨u,o,f⟩:=i.Fh h;refine⟨u,?_,f⟩;have:=m 0 u (an o);simp only[Addr.add,gT]at this;simp[Instr.loadAt,Instr.sureAddr,loadVar,MR d,this]
 ·cases c
def Gp{vs spare:au}{i:Nat}{u:Value}(h:vs[i]?=some u):(vs++spare).toArray[i]?=some u:=by have a:i<vs.length:=(du.1 h).1;rw[Iv,B3,aM a,h]
def Mem.load{P:ax}{M:ap}{d:G}{H:fF}{w:World}(k:Mem M d H w){s c:Nat}{f:List V}(I:H s=some f){t:TypeId}{r:T}(g:mJ P t f c=some r)
 {v:Value}(i:ud d s c v):∃u,(Instr.loadAt t v).run P w=.ok u w/\cr w M d r u:=by
 obtain⟨b,a,rfl⟩:=i;rcases k.gR s f I with⟨p,o,n,spare,e,h,m⟩|⟨e,_⟩|⟨_,_,_,_,_,rfl⟩
 ·rw[e]at a;injection a with a;injection a with a;subst a
  exact agK g m λj u l=>by rw[uH,y4 h];exact Gp l
 ·rw[e]at a;injection a with a;cases a
 ·simp[mJ,dS]at g
theorem fc.load{P:ax}{n:Nat}{aU:ap}{o:Oper}{f:St}(t:TypeId)(x:aw)(p:o.op=.load t x)(s b:Nat)(h:List V)(r:T)
 (k:f.ev x=.e (.c (.ptr s b)))(I:f.heap s=some h)(m:mJ P t h b=some r)(y:jv n o.dst):fc P n aU o f (f.put o.dst r):=by
 intro C q _ a w ⟨j,R⟩ K Q hK;have g:=R.ev x;rw[k]at g;obtain⟨u,l,d⟩:=R.mem.load I m g;refine mn (v:=u) (w':=w) (by simp[execOp,p,l]) (hK _ _ ⟨j,?_⟩);refine⟨by rw[Bj];exact R.mem,λi=>?_,R.aN,R.aX,R.aU,by rw[wx];exact R.defers,by rw[uS];exact R.size⟩;rw[vS _ _ _ _ (by rw[R.size,q];exact y),rf];split
 ·exact d
 ·exact R.aV i
def aFb{P:ax}{o:Oper}{C:Operand->T}(t:TypeId)(x:aw)(A:o.op=.load t x)(ds:List D)(r:T)
 (g:C x=.e (.c (.gU ds)))(N:mJ P t (ds.map .d) 0=some r):iq P o C r:=
 kv λM z H w a _ h=>by
  have B:=h x (by simp[A,Op.operands]);rw[g]at B;obtain⟨q,G,L,K,Q⟩:=B;have p:∀j (x:D),ds[j]?=some x->∃u,w.cell? (q.add j)=some u/\dN w (dc w M z) x u:=Q
  let vs:List Value:=(List.range ds.length).map λj=>(w.cell? (q.add j)).getD undef
  have k:∀(j:Nat)(u:Value),vs[j]?=some u->w.cell? (q.add j)=some u:=by
   intro j u n;have m:j<ds.length:=by have:=(du.1 n).1;simpa[vs]using this
   obtain⟨E,b,_⟩:=p j _ (cN m);simp only[vs,eC,vl m,dP,b,ib,cS]at n;rw[b,n]
  have R:bW w M z (ds.map .d) vs:=by
   refine⟨by simp[vs],λi x u g s=>?_⟩;simp only[eC]at g;cases f:ds[i]? with
   |none=>simp[f]at g
   |some y=>
    simp[f]at g;subst g;obtain⟨E,b,v⟩:=p i y f;have:=k i u s;rw[b]at this;injection this with this;subst this
    exact v
  obtain⟨u,s,l⟩:=agK (P:=P) (a:=q) N R λj u n=>k j u (an n)
  exact⟨u,by simp[execOp,A,G,s],l⟩
def dD.zI{C:ef}{n:G}{q:St}{a:Act}{w:World}(R:dD C n q a w){s b:Nat}{t:TypeId}{g:Array Value}{cs':List V}{vs' spare:au}
 (p:n s=some (some b))(y:w.heap[b]?=some (.cells g t (0,0)))(u:(vs'++spare).length=g.size)(L:bW w C.M n cs' vs')(v:q.heap s≠none):
 dD C n ⟨q.aV,cZ q.heap s (some cs')⟩ a (w.setRow b (vs'++spare).toArray):=by
 have d:lz C.M n n w (w.setRow b (vs'++spare).toArray):=by
  refine⟨ai,λx c=>setRow_other w b x _ (by rintro rfl;exact c.2.2 s p),λx c=>c.2.2,λx cells r c=>?_⟩;by_cases e:x=b
  ·subst e;rw[y]at c;injection c with c;injection c with N M
   subst N;subst M;exact⟨_,setRow_heap w x g _ t _ y,by simpa using u⟩
  ·exact⟨cells,(setRow_other w b x _ e).trans c,rfl⟩
 refine⟨⟨λx c=>by simpa using R.mem.iF x c,R.mem.inj,R.mem.nm,λx c=>?_,λx X c=>?_,R.mem.jO.dR d⟩,λi=>(R.aV i).dR d λ_ _=>rfl,?_,R.aX,R.aU,R.defers,R.size⟩
 ·simp only[cZ]at c;split at c
  ·cases c
  ·exact R.mem.ic x c
 ·simp only[cZ]at c;split at c
  ·rename_i e;subst e;injection c with c;subst c
   exact .inl ⟨b,t,vs',spare,p,setRow_heap w b g _ t _ y,L.dR d λ_ _=>rfl⟩
  ·rename_i e;rcases R.mem.gR x X c with⟨m,D,B,E,f,l,k⟩|P|⟨m,Q,z,f,l,k⟩
   ·exact .inl ⟨m,D,B,E,f,(setRow_other w b m _ (by rintro rfl;exact e (R.mem.inj x s m f p))).trans l,k.dR d λ_ _=>rfl⟩
   ·exact .inr (.inl P)
   ·exact .inr (.inr ⟨m,Q,z,f,(setRow_other w b m _ (by rintro rfl;exact e (R.mem.inj x s m f p))).trans l,k⟩)
 ·have j:=R.aN;have o:=R.aX s b p;refine⟨j.os,j.tape,j.output,j.drawn,by simpa using j.size,λx c A=>?_,λx cells r c=>?_⟩
  ·rw[setRow_other w b x _ (by rintro rfl;rcases o with h|h;exact A h;omega)];exact j.same x c A
  ·obtain⟨c1,U,K⟩:=j.jb x cells r c;obtain⟨c2,T,H⟩:=d.jb x c1 r U;exact⟨c2,T,H.trans K⟩
theorem dD.gR{C:ef}{f:G}{i:St}{a:Act}{w:World}(R:dD C f i a w){s b:Nat}{e:List V}(I:i.heap s=some e)(j:f s=some (some b))(l:dS e=true):
 ∃(t:TypeId)(vs spare:au),w.heap[b]?=some (.cells (vs++spare).toArray t (0,0))/\bW w C.M f e vs:=by
 rcases R.mem.gR s e I with⟨m,t,vs,k,c,h,g⟩|⟨d,_⟩|⟨_,_,_,_,_,rfl⟩
 ·rw[j]at c;injection c with c;injection c with c;subst c
  exact⟨t,vs,k,h,g⟩
 ·rw[j]at d;injection d with d;cases d
 ·cases l
def dD.Jk{C:ef}{f:G}{j:St}{a:Act}{w:World}(R:dD C f j a w){s b:Nat}{i:List V}(I:j.heap s=some i)(g:f s=some (some b)){n:Array Value}{k:TypeId}(e:w.heap[b]?=some (.cells n k (0,0))):
 ∃(t:TypeId)(vs spare:au),w.heap[b]?=some (.cells (vs++spare).toArray t (0,0))/\bW w C.M f i vs:=by
 rcases R.mem.gR s i I with⟨o,t,vs,l,c,d,h⟩|⟨e,_⟩|⟨o,p,m,c,d,_⟩
 ·rw[g]at c;injection c with c;injection c with c;subst c
  exact⟨t,vs,l,d,h⟩
 ·rw[g]at e;injection e with e;cases e
 ·rw[g]at c;injection c with c;injection c with c;subst c
  rw[e]at d;cases d
def ah5(b c spare:au)(a:Nat)(h:a+c.length<=b.length):
 (b++spare).take a++c++(b++spare).drop (a+c.length)=(b.take a++c++b.drop (a+c.length))++spare:=by
 rw[ET O,Wr O];simp
def dD.Br{C:ef}{b:G}{c:St}{a:Act}{w:World}(R:dD C b c a w)(d:Option Nat)(f:jv C.nt d)(v:Value)(r:T)(e:cr w C.M b r v):dD C b (c.put d r) (a.put d v) w:=by
 refine⟨by rw[Bj];exact R.mem,λi=>?_,R.aN,R.aX,R.aU,by rw[wx];exact R.defers,by rw[uS];exact R.size⟩;rw[vS _ _ _ _ (by rw[R.size];exact f),rf];split
 ·exact e
 ·exact R.aV i
theorem fc.store{P:ax}{n:Nat}{aU:ap}{o:Oper}{g:St}(t:TypeId)(x y:aw)(M:o.op=.store t x y)(h:o.dst=none)(s d:Nat)(i:List V)(e:E)(m:Nat)
 (G:g.ev x=.e (.c (.ptr s d)))(D:g.ev y=.e e)(I:g.heap s=some i)(L:fg P t=some m)(N:e.cells.length=m)(hlen:d+m<=i.length)(U:dS i=true):
 fc P n aU o g ⟨g.aV,cZ g.heap s (some (kA i d e.cells))⟩:=by
 intro C X _ a w ⟨A,R⟩ K Q hK;have z:=R.ev x;have v:=R.ev y;rw[G]at z;rw[D]at v;obtain⟨b,q,H⟩:=z;obtain⟨B,j,spare,u,r⟩:=R.gR I q U;have p:=eK.cells v;have l:=p.1;have T:=r.1;have k:(a.eval y).cells.size=m:=by rw[<-BK,<-l,N]
 have f:=run_storeCells_at P b d B (a.eval y).cells.toList 0 (j++spare).toArray w u (by simp;omega) p.xP;simp only[uc]at f;rw[ah5 j _ spare d (by simp;omega)]at f;refine U0 (w':=w.setRow b ((j.take d++(a.eval y).cells.toList++j.drop (d+(a.eval y).cells.toList.length))++spare).toArray) ?_ (hK _ _ ⟨A,?_⟩)
 ·simp only[execOp,M,Instr.storeAt,H,Instr.sureAddr,storeVar,Sem.run_bind,Sem.run_pure,Result.andThen_ok,nA L,k,iI,not_true_eq_false,lM,f]
 ·have:=R.zI (cs':=kA i d e.cells) (spare:=spare) q u (by simp;omega) (T4 d r p) (by rw[I];simp);rw[h];exact this
def oL(n:Nat)(a:List V):List V:=(List.replicate n a).flatten
def Td(a:au)(n:Nat):((Array.range (n*a.length)).map (λi=>a.toArray[i%a.toArray.size]!)).toList=(List.replicate n a).flatten:=by
 induction n with
 |zero=>simp
 |succ n c=>
  rw[List.replicate_succ',List.flatten_append,<-c];simp only[Array.toList_map,Array.toList_range];rw[rN,List.range_add];simp only[ia,jc,List.flatten_singleton];congr 1;apply vj;intro i;by_cases b:i<a.length
  ·simp[b,Nat.add_mod,Nat.mod_eq_of_lt b]
  ·simp[b]
def aFN{w:World}{M:ap}{a:G}{b:List V}{c:au}(h:bW w M a b c)(n:Nat):bW w M a (oL n b) (List.replicate n c).flatten:=by
 induction n with
 |zero=>exact bW.nil
 |succ n d=>simp only[oL,vp,EI]at d⊢;exact h.append d
def Uk{P:ax}{e:TypeId}{k y:Nat}{j:List V}(f:fg P e=some k)(h:oQ P e=some y)(m:jQ P e=some j):
 ∃(i:TypeInfo)(z:Value)(c:au),P.info? e=some i/\i.zero=some z/\i.size=k/\i.bytes=y/\z.cells=c.toArray/\j=c.map (λv=>.d (.sc v))/\c.all (·.oneCell')=true:=by
 obtain⟨c,a,g,n⟩:=Eg m;unfold Ef at a;unfold fg at f;unfold oQ at h;cases l:P.info? e with
 |none=>simp[l]at f
 |some i=>
  simp only[l,dP,cS,Cb]at f h a;cases b:i.zero with
  |none=>simp[b]at a
  |some z=>simp only[b,dP,cS]at a;exact⟨i,z,c,rfl,b,f,h,by rw[<-a],g,n⟩
def Xc{P:ax}{o:Oper}{ev:Operand->T}(t:TypeId)(p C:aw)(x:o.op=.makeSlice t p C)(d:Nat)(e:TypeId)(k y:Nat)(n:List V)(b:Nat)(D E:IntKind)
 (X:jA P t=some e)(hk:fg P e=some k)(hb:oQ P e=some y)(U:jQ P e=some n)(q:n.length=k)(hl:ev p=.e (.c (.d (.sc (.int D b)))))(hc:ev C=.e (.c (.d (.sc (.int E b)))))
 (m:y*b<=281474976710656)(L:b<=281474976710656):tS P o ev d (oL b n) (.e (.c (.sub d k 0 b))):=by
 intro M γ H w a hm h K Q hK;obtain⟨i,z,g,hi,r,u,A,s,l,ha⟩:=Uk hk hb U;have R:=h p (by simp[x,Op.operands]);have N:=h C (by simp[x,Op.operands]);rw[hl]at R;rw[hc]at N;have j:g.length=k:=by rw[<-q,l];simp
 have B:(i.bytes:Int)*(b:Int)<=281474976710656:=by
  have h:((i.bytes*b:Nat):Int)<=281474976710656:=by rw[A];omega
  rwa [Ij]at h
 have G:=run_make (P:=P) w t e i z (tK X) hi r D E b b O (tY _) B O;have f:madeCells z.cells (b*i.size)=((List.replicate b g).flatten).toArray:=by apply mQ;rw[<-Td g b,j,u,s];rfl
 simp only[bt,f]at G;refine mn (v:=.slice (some ⟨w.heap.size,0,none⟩) b b) (w':=w.alloc (.cells ((List.replicate b g).flatten).toArray e)) ?_ ?_
 ·simp only[execOp,x,iw R,iw N,Sem.run_bind,G,Result.andThen_ok,Sem.run_pure]
 ·refine hK _ _ w.heap.size e ((List.replicate b g).flatten) [] (q7 _ _) (bK _) (by rw[ou];simp) ?_ ?_
  ·rw[l];exact aFN (HX g ha) b
  ·refine .inl ⟨w.heap.size,b,((List.replicate b g).flatten).toArray,e,by simp[dZ],rfl,bK _,by simp only[maxLen];omega,ou _ _,?_⟩;simp[j]
def V.cu(s:Nat):V->V
 |.ptr t o=>if t=s then .any else .ptr t o
 |.sub t k o l=>if t=s then .any else .sub t k o l
 |.db f c=>if c.any (λp=>p.1==s)then .any else .db f c
 |.mp t=>if t=s then .any else .mp t
 |.ty t a b=>if t=s then .any else .ty t a b
 |v=>v
def E.cu(s:Nat):E->E
 |.c v=>.c (v.cu s)
 |.agg a=>.agg (a.map (V.cu s))
def T.cu(s:Nat):T->T
 |.e x=>.e (x.cu s)
 |.cE a=>.cE (a.map (E.cu s))
 |.any=>.any
theorem dQ.cu{w:World}{M:ap}{a:G}{x:V}{v:Value}(h:dQ w M a x v)(s:Nat):dQ w M a (x.cu s) v:=by have b:=h.one;cases x<;>simp only[V.cu]<;>(try split)<;>first|exact h|exact b
def V.tj(x:V)(s:Nat):¬(x.cu s).bx s:=by
 cases x with
 |ptr t o=>
  by_cases h:t=s
  ·simp only[V.cu,aM h];exact λh=>h
  ·simp only[V.cu,Z h];exact h
 |sub t k o l=>
  by_cases h:t=s
  ·simp only[V.cu,aM h];exact λh=>h
  ·simp only[V.cu,Z h];exact h
 |db f a=>
  by_cases h:a.any (λp=>p.1==s)=true
  ·simp only[V.cu,aM h];exact λh=>h
  ·simp only[V.cu,Z h];rintro⟨p,b,e⟩;apply h;simp only[rF,gQ];exact⟨p,b,e⟩
 |mp t=>
  by_cases h:t=s
  ·simp only[V.cu,aM h];exact λh=>h
  ·simp only[V.cu,Z h];exact h
 |ty t _ _=>
  by_cases h:t=s
  ·simp only[V.cu,aM h];exact λh=>h
  ·simp only[V.cu,Z h];exact h
 |eY c=>exact λh=>h
 |d x=>exact λh=>h
 |gU g=>exact λh=>h
 |any=>exact λh=>h
theorem bW.cu{w:World}{M:ap}{d:G}{b:List V}{vs:au}(h:bW w M d b vs)(s:Nat):bW w M d (b.map (V.cu s)) vs:=by
 refine⟨by simp[h.1],λi x u a e=>?_⟩;simp only[eC]at a;cases c:b[i]? with
 |none=>simp[c]at a
 |some y=>simp[c]at a;subst a;exact(h.2 i y u c e).cu s
theorem eK.cu{w:World}{M:ap}{a:G}{x:E}{v:Value}(h:eK w M a x v)(s:Nat):eK w M a (x.cu s) v:=by
 cases x with
 |c x=>exact dQ.cu h s
 |agg f=>obtain⟨b,e,d⟩:=h;exact⟨b,e,d.cu s⟩
theorem E.tj(x:E)(s:Nat):¬(x.cu s).bx s:=by
 cases x with
 |c x=>exact x.tj s
 |agg b=>rintro⟨y,a,h⟩;simp only[b_]at a;obtain⟨z,_,rfl⟩:=a;exact z.tj s h
theorem cr.cu{w:World}{M:ap}{c:G}{x:T}{v:Value}(h:cr w M c x v)(s:Nat):cr w M c (x.cu s) v:=by
 cases x with
 |e x=>exact eK.cu h s
 |cE d=>
  obtain⟨f,e,j,k⟩:=h;refine⟨f,e,by simpa using j,λi x u a g=>?_⟩;simp only[eC]at a;cases b:d[i]? with
  |none=>simp[b]at a
  |some y=>simp[b]at a;subst a;exact(k i y u b g).cu s
 |any=>trivial
theorem T.tj(x:T)(s:Nat):¬(x.cu s).bx s:=by
 cases x with
 |e x=>exact x.tj s
 |cE b=>rintro⟨y,a,h⟩;simp only[b_]at a;obtain⟨z,_,rfl⟩:=a;exact z.tj s h
 |any=>intro h;exact h
def St.cu(a:St)(s:Nat):St:=⟨λi=>(a.aV i).cu s,λt=>(a.heap t).map (List.map (V.cu s))⟩
def Fg{P:ax}{w:World}{t e:TypeId}{k y:Nat}{zs:List V}(ty:TypeId)(ht:jA P t=some e)(hk:fg P e=some k)(hb:oQ P e=some y)(hz:jQ P e=some zs)(hzk:zs.length=k)
 {A:Option Addr}{len cap:Nat}{vs spare:au}
 (U:(∃(b:Nat)(H:TypeId),A=some ⟨b,0,none⟩/\w.heap[b]?=some (.cells (vs++spare).toArray H (0,0))/\cap*k<=(vs++spare).length)\/(len=0/\cap=0))
 (E:len<=cap)(hcap:cap<=maxLen)(r:vs.length=len*k)
 {B:Option Addr}{m c:Nat}{us:au}(l:us.length=m*k)(Q:m≠0->∃a,B=some a/\∀j u,us[j]?=some u->w.cell? (a.add j)=some u)(h1:∀u∈us,u.oneCell'=true)
 (s:(len+m)*y<=140737488355328)(h:len+m<=maxLen):
 ∃q n,(Builtin.append_ #[t,t] ty #[.slice A len cap,.slice B m c]).run P w=.ok q n/\
  ((q=.slice A (len+m) cap/\len+m<=cap/\((m=0/\n=w)\/(∃b H,A=some ⟨b,0,none⟩/\w.heap[b]?=some (.cells (vs++spare).toArray H (0,0))/\us.length<=spare.length/\n=w.setRow b ((vs++us)++spare.drop us.length).toArray)))\/
   (∃d rest,q=.slice (some ⟨w.heap.size,0,none⟩) (len+m) d/\len+m<=d/\d<=maxLen/\d*k<=((vs++us)++rest).length/\n=w.drew.alloc (.cells ((vs++us)++rest).toArray e))):=by
 obtain⟨i,z,z0,T,L,hsz,X,hzc,hze,ha⟩:=Uk hk hb hz;have K:z.cells.size=k:=by rw[hzc,<-hzk,hze];simp
 have M:=tK ht;have hmax':len+m<=9223372036854775807:=by simp only[maxLen]at h;omega
 subst hsz;by_cases hm:m=0
 ·subst hm;have hus:us=[]:=fR (an l);subst hus;refine⟨.slice A len cap,w,?_,.inl ⟨ai,by simpa using E,.inl ⟨rfl,rfl⟩⟩⟩;have hf:(Builtin.firstCells i.size 0 (.slice B 0 c)).run P w=.ok #[] w:=by cases B<;>simp[Builtin.firstCells,loadCells,loadCellsFrom]
  cases A with
  |none=>simp[Builtin.append_,run_underlying M,sizeOf,typeInfo,T,Builtin.lenOf,E,hf]
  |some a=>simp[Builtin.append_,run_underlying M,sizeOf,typeInfo,T,Builtin.lenOf,E,hf,storeCells]
 ·obtain⟨a,rfl,g⟩:=Q hm;have C:∀v,v<len+m->Builtin.nextslicecap (len+m) v*i.bytes<=281474976710656:=λv ho=>growslice_fits ho (by rw[X];exact s)
  have o:∀(D:cap<len+m)(b:Addr),A=some b->(∀j u,vs[j]?=some u->w.cell? (b.add j)=some u)->
   ∃q n,(Builtin.append_ #[t,t] ty #[.slice A len cap,.slice (some a) m c]).run P w=.ok q n/\
    (∃d rest,q=.slice (some ⟨w.heap.size,0,none⟩) (len+m) d/\len+m<=d/\d<=maxLen/\d*i.size<=((vs++us)++rest).length/\n=w.drew.alloc (.cells ((vs++us)++rest).toArray e)):=by
   intro D b hA hold;subst hA;have x:=run_append_grow (P:=P) w t ty e i z M T L b len cap vs r hold a m c us l g D O (C cap D);refine⟨_,_,x,grownCap w (len+m) cap e,(Builtin.zeroCells z.cells (grownCap w (len+m) cap e-(len+m))).toList,rfl,grownCap_ge _ _ _ _,grownCap_le_maxLen _ _ _ _ h,?_,?_⟩
   ·have hge:=grownCap_ge w (len+m) cap e;simp only[cX,r,l,BK,size_zeroCells,K,<-iN];apply jS;omega
   ·congr 2;apply mQ;simp
  rcases U with⟨b,H,rfl,G,hcs⟩|⟨rfl,rfl⟩
  ·by_cases f:len+m<=cap
   ·have p:len*i.size+us.length<=(vs++spare).toArray.size:=by have:(len+m)*i.size<=cap*i.size:=jS _ f;rw[iN]at this;simp only[List.size_toArray];omega
    have hff:=run_firstCells_some (P:=P) w i.size m a m c us l g;have N:=run_storeCells_at P b (len*i.size) H us 0 (vs++spare).toArray w G (an p) h1;simp only[uc]at N;have hsl:us.length<=spare.length:=by simp at p;omega
    have R:(vs++spare).take (len*i.size)++us++(vs++spare).drop (len*i.size+us.length)=(vs++us)++spare.drop us.length:=by
     rw[<-r,List.take_left',Ip,Iq O]
     ·simp
     ·rfl
    refine⟨_,w.setRow b ((vs++us)++spare.drop us.length).toArray,?_,.inl ⟨rfl,f,.inr ⟨b,H,rfl,G,hsl,rfl⟩⟩⟩;rw[<-R];simp[Builtin.append_,run_underlying M,sizeOf,typeInfo,T,Builtin.lenOf,f,hff,Addr.add_lit,N]
   ·obtain⟨q,n,x,h2⟩:=o O ⟨b,0,none⟩ rfl (λj u hj=>by rw[uH,ol,y4 G];exact Gp hj);exact⟨q,n,x,.inr h2⟩
  ·have hvs:vs=[]:=fR (an r);subst hvs;cases A with
   |some b=>obtain⟨q,n,x,h2⟩:=o O b rfl (λj u hj=>by simp at hj);exact⟨q,n,x,.inr h2⟩
   |none=>
    have x:=run_append_nil (P:=P) w t ty e i z M T L a m c us l g O O (by rw[X];simp only[ol]at s;omega);simp only[ol]at h⊢;refine⟨_,_,x,.inr ⟨grownCap w m 0 e,(Builtin.zeroCells z.cells (grownCap w m 0 e-m)).toList,rfl,grownCap_ge _ _ _ _,grownCap_le_maxLen _ _ _ _ h,?_,?_⟩⟩
    ·have hge:=grownCap_ge w m 0 e;simp only[gf,cX,l,BK,size_zeroCells,K,<-iN];apply jS;omega
    ·congr 2;apply mQ;simp
end Go.Ab
