/- A part of the proof of VirtualLinear: Kf to Kx6. No condition. -/
import Derived.Test.YtfbmhjooliccnaaGreatDoorYr
import Derived.RegionTactic
import Derived.Lib.UnsafeStr
set_option linter.all false
set_option maxRecDepth 100000
set_option maxHeartbeats 60000000
noncomputable section
namespace Go.Proofs.YtfbmhjooliccnaaGreatDoor
open Go Go.Ab Go.Proofs.Tryz
variable {p:J}{r n:Int}{k x m:Nat}{l:List J}{t:bw}{w:World}
@[irreducible] def PQ(p:J)(lv:Int):=Ln 1498 p/\1<=lv/\lv<=4
section
variable {p:J}{lv:Int}(h:PQ p lv)
include h
def E5:=(PQ.eq_1 ..).mp h
def E6:∃v:Nat,lv=(v:Int)/\1<=v/\v<=4:=by have u:=E5 h;exact⟨lv.toNat,O,O,O⟩
def WD:ez p lv<=1:=by obtain⟨v,rfl,_,_⟩:=E6 h;exact(E5 h).1.sz.vd v
def NY:ZL p lv:=by have u:=E5 h;refine .of (u.1.sz.cz O O) ?_;unfold my;exact u.2
def E4:ke p lv:=.of (NY h) (yu (WD h) ae)
def Cd:(bk p lv).length<=2/\∀c∈bk p lv,Ln 1498 c/\Fr lv c:=by obtain⟨v,rfl,b,a⟩:=E6 h;have c:=tn (E5 h).1 O b a;exact⟨c.len,c.all⟩
def o5:(bk p lv).length<=2/\∀c∈bk p lv,GA lv c:=⟨(Cd h).1,λc a=>⟨((Cd h).2 c a).1.sz.up O O,((Cd h).2 c a).2⟩⟩
def WC:VP (bk p lv):=by have g:=o5 h;unfold VP;exact⟨λc a=>(g.2 c a).np,O⟩
def NX{c:J}(a:(bk p lv)[k]?=some c):GA lv c:=(o5 h).2 c (bM a)
end
theorem GA.cz{lv:Int}{p:J}(h:GA lv p):CZ p:=h.sz.cz O O
def GA.mm{lv:Int}{p:J}(h:GA lv p):fw p (kP (-1)):=fw.c h.sz (j:=1) ae O O O
def GA.ng{lv:Int}{p:J}(h:GA lv p):b8 (li p):=by have:=h.sz.neg;exact this.np O O
def U3:b8 zP:=(Sz.zero 0 1).np O O
def alJ{c:J}(h:b8 (eQ c))(r:Int):iz (dB c r):=by
 unfold dB;split
 ·unfold tM;split<;>exact .mk _ _ _ _ U3 ai λc a=>by simp at a
 ·exact .mk _ _ _ _ h ai λc a=>by simp at a
def GA.sp{lv:Int}{p:J}(h:GA lv p):b8 (eQ p):=(h.sz.sn O O).np O O
def alK{lv:Int}(h:∀c∈l,GA lv c)(a:l.length<=1000000000):iz (j_ l):=by
 unfold j_ df;refine .mk _ _ _ _ U3 (an a) λc b=>?_
 obtain⟨d,e,rfl⟩:=b_.1 b;exact alJ (h d e).sp 3
def WE{p:J}{lv:Int}(h:PQ p lv):iz (j_ (bk p lv)):=alK (o5 h).2 (by have:=(o5 h).1;omega)
def Sw(h:(r==1)=true):nv r:=.inl (an h)
def DI(h:(r==2)=true):nv r:=.inr (.inl (an h))
def Sx(h:(r==5)=true):nv r:=.inr (.inr (.inl (an h)))
def Sy(h:(r==6)=true):nv r:=.inr (.inr (.inr (an h)))
def LA(a:(r==1)=false)(b:(r==2)=false)(c:(r==5)=false)(d:(r==6)=false):¬nv r:=by have a:r≠1:=an a;have b:r≠2:=an b;have c:r≠5:=an c;have d:r≠6:=an d;unfold nv;omega
def bm4{p:J}{lv:Int}(a:(r==1)=false)(b:(r==2)=false)(c:(r==5)=false)(d:(r==6)=false)(e:(r==4)=true):rV p r lv=dS (j_ (bk p lv)):=by unfold rV;rw[Z (LA a b c d),aM (an e)]
def bm3{p:J}{lv:Int}(a:(r==1)=false)(b:(r==2)=false)(c:(r==5)=false)(d:(r==6)=false)(e:(r==4)=false):rV p r lv=j_ (bk p lv):=by unfold rV;rw[Z (LA a b c d),Z (an e)]
def bm0{p:J}{lv:Int}(h:nv r)(a:(((bk p lv).length:Int)==0)=true):rV p r lv=dB zP r:=by have a:((bk p lv).length:Int)=0:=an a;unfold rV;rw[aM h,aM (fR O)]
def bm1{p:J}{lv:Int}(h:nv r)(a:(((bk p lv).length:Int)==0)=false)(c:x+1<=(bk p lv).length)(b:decide (((x+1:Nat):Int)<((bk p lv).length:Int))=false):ui (bk p lv) r x=rV p r lv:=by have a:((bk p lv).length:Int)≠0:=an a;simp only[bc]at b;unfold rV;rw[aM h,Z (λe=>a (by rw[e];rfl))];congr 1;omega
def apg{c:J}(a:l[(0:Int).toNat]?=some c):dB c r=ui l r 0:=by have a:l[0]?=some c:=a;rw[ui,a];rfl
def apf{c:J}(a:l[((x+1:Nat):Int).toNat]?=some c)(h:((((x+1:Nat):Int)).tmod 2==1)=true):yT l (x+1)=li c:=by rw[bt]at a;have h:(((x+1:Nat):Int)).tmod 2=1:=an h;rw[yv O]at h;unfold yT;rw[aM O,a];rfl
def ape{c:J}(a:l[((x+1:Nat):Int).toNat]?=some c)(h:((((x+1:Nat):Int)).tmod 2==1)=false):yT l (x+1)=c:=by rw[bt]at a;have h:(((x+1:Nat):Int)).tmod 2≠1:=an h;rw[yv O]at h;unfold yT;rw[Z O,a];rfl
def XU(a:List J)(r:Int)(x:Nat):ui a r (x+1)=kq [dB (yT a (x+1)) (qC r),df [dB (yT a (x+1)) 3,ui a r x]]:=by rw[ui]
theorem apa(p:J)(r lv:Int)(h:PQ p lv):bh 207 [wE .aF p,wI .i64 r,wI .i64 lv] (eT .aP (rV p r lv)):=by
 refine vF func207 rfl [JN,Zw,Pt,FX,Y6,Zt,Pm,Zn] [(14,⟨Nat,λx=>⟨[(1,iT r),(6,br 1),(7,lT .aF (bk p lv)),(8,br 2),(9,iT ((x+1:Nat):Int))],[(1,cj .aP zM),(2,.cells ((eF .aP (ui (bk p lv) r x)).map .d))],3⟩,λx=>x+1<=(bk p lv).length/\True,λx=>(bk p lv).length-x⟩)] ?_;repeat' first|intro _|apply aQ|refine aS 0 (aQ ?_ λ(x:Nat) (a:x+1<=(bk p lv).length/\True)=>?_)|refine aS (x+1) ?_
 all_goals(try simp only[bz,fI]at*)
 all_goals first|exact bj|omega|((with_reducible show(_&&_)=true);kernel_rfl)| (with_reducible first|exact E4 h|exact WC h|exact WE h)|rw[bm4 Y Y Y Y Y]|rw[bm3 Y Y Y Y Y]|exact U3|rw[bm0 (by first|exact Sw Y|exact DI Y|exact Sx Y|exact Sy Y) Y]<;>rfl|exact(NX h Y).np|rw[apg Y]|exact(NX h Y).mm|exact(NX h Y).ng|rw[XU,apf Y Y]|rw[XU,ape Y Y]|simp only[jJ,iI]at*;omega|have g:=a.1;have b:=(o5 h).1;simp only[be,bc,jJ,iI]at*;omega|rw[bm1 (by first|exact Sw Y|exact DI Y|exact Sx Y|exact Sy Y) Y a.1 Y]|rfl|exfalso;simp_all;done
def arB:=wK (.el W.aF) (.int .i64) (.int .i64) apa
structure LP(lv:Int)(t:bw):Prop where
 a:Ln 1490 t.a
 fa:Fr lv t.a
 b:t.b=zP
 c:t.c=zP
 d:Kn 1490 t.d
 kd:t.aJ=1\/t.aJ=2\/t.aJ=3
 g:t.g=.mk 1 0 zP []
def NT:Int->Prop:=λ_=>False
def Ln.nt{k:Nat}{p:J}(h:Ln k p):LX k NT p:=⟨h,λ_ h=>h.elim⟩
def LT.lp{lv:Nat}{T:Int->Prop}{t:bw}(h:LT x lv T t)(e:x<=1490):LP lv t:=⟨h.a.ln.up e,h.fr,h.b,h.c,h.d.up e,h.kd,h.g⟩
@[irreducible] def VQ(p:J)(lv:Int)(t:bw):=PQ p lv/\LP lv t
structure Ck(k l:Nat)(s:UV):Prop where
 u:Ln k s.u
 v:s.v=zP
 p:Kn l s.pw
section
variable {p:J}{lv:Int}{t:bw}(h:VQ p lv t)
include h
def rS:PQ p lv:=by unfold VQ at h;exact h.1
def qU:LP lv t:=by unfold VQ at h;exact h.2
def I4:cP t.b=true:=by rw[(qU h).b];rfl
def Ob:∀c∈bk p lv,Ln 1498 c:=λc hc=>((Cd (rS h)).2 c hc).1
def WR(i:Nat):Ln 1498 (((bk p lv)[i]?).getD zP):=by
 cases e:(bk p lv)[i]? with
 |none=>exact(Kn.zero _).ln
 |some c=>exact Ob h c (bM e)
omit h in
def vsp{k:Nat}{s:UV}{c:J}(h:VQ p lv t)(I:Ck k x s)(e:Kn m s.u)(hc:Ln 1498 c)(last:Bool):Ck (max (m+1490) (1498+x)+1) (x+1490) (pO t c last s):=by
 refine⟨?_,?_,?_⟩
 ·have b:(pO t c last s).u=lG (ca s.u t.a) (ca c s.pw):=by unfold pO;rw[aM (I4 h)]
  rw[b];exact(Ln.O5 e (qU h).a).add (hc.GU I.p)
 ·have b:(pO t c last s).v=ca s.v t.a:=by unfold pO;show(if cP t.b=true then _ else _)=_;rw[aM (I4 h)]
  rw[b,I.v];exact Ll (qU h).a.bR
 ·show Kn (x+1490) (if last then s.pw else ca s.pw t.d);split
  ·exact I.p.up O
  ·exact I.p.mul (qU h).d
def yQ{k:Nat}(hk:k<=(bk p lv).length):Ck 4700 3001 (fQ t (bk p lv) k)/\(k<(bk p lv).length->Kn 1500 (fQ t (bk p lv) k).u/\Kn 1491 (fQ t (bk p lv) k).pw):=by
 have q:=(Cd (rS h)).1;have d:Ck 0 1 (fQ t (bk p lv) 0):=⟨(Kn.zero 0).ln,rfl,.of ae⟩;have f:=vsp h d (.zero 0) (WR h ((bk p lv).length-1-0)) (decide ((bk p lv).length-1-0=0));have up:∀{k l:Nat}{s:UV},Ck k l s->k<=4700->l<=3001->Ck 4700 3001 s:=λh a b=>⟨h.u.up a,h.v,h.p.up b⟩
 have g:(bk p lv).length=2->Kn 1500 (fQ t (bk p lv) 1).u:=λr=>by
  obtain⟨v,rfl,m,n⟩:=E6 (rS h);have i:=(tn (E5 (rS h)).1 O m n).c1;have e:(fQ t (bk p v) 1).u=lG (ca zP t.a) (ca (dV p v 1) (kP 1)):=by show(pO t (((bk p v)[(bk p v).length-1-0]?).getD zP) _ _).u=_;unfold pO dV;rw[aM (I4 h),show(bk p v).length-1-0=1 by omega];rfl
  rw[e,Ll (qU h).a.bR];exact((Kn.zero 0).add (i.mul (.of (show(1:Int).natAbs<2^1 by decide)))).up O
 have:k=0\/k=1\/k=2:=O;rcases this with rfl|rfl|rfl
 ·exact⟨up d O O,λ_=>⟨.zero _,d.p.up O⟩⟩
 ·exact⟨up f O O,λj=>⟨g O,f.p.up O⟩⟩
 ·have o:=vsp h f (g O) (WR h ((bk p lv).length-1-1)) (decide ((bk p lv).length-1-1=0));exact⟨up o O O,λj=>absurd j O⟩
omit h in
theorem Kn.mu{k:Nat}{a b:J}(e:Kn k b)(f:Sz x m a)(hk:k<=1504)(g:x<=12)(i:m<=80000):fw a b:=by obtain⟨n,rfl,j⟩:=e.z;exact .c f j hk g i
section
variable {k:Nat}(hk:k<(bk p lv).length)
include hk
def az0:fw (fQ t (bk p lv) k).u t.a:=(((yQ h (EZ hk)).2 hk).1.mu (qU h).a.sz O O O).Bz
def az1:fw (fQ t (bk p lv) k).v t.a:=by rw[(yQ h (EZ hk)).1.v];exact((Kn.zero 0).mu (qU h).a.sz O O O).Bz
def azZ:fw (fQ t (bk p lv) k).pw t.d:=(qU h).d.mu (yQ h (EZ hk)).1.p.sz O O O
def azW{c:J}(hc:c∈bk p lv):fw c (fQ t (bk p lv) k).pw:=((yQ h (EZ hk)).2 hk).2.mu (Ob h c hc).sz O O O
def amO{c:J}(hc:c∈bk p lv):sB (ca (fQ t (bk p lv) k).u t.a) (ca c (fQ t (bk p lv) k).pw):=by have g:=(yQ h (EZ hk)).2 hk;unfold sB;exact⟨_,_,_,_,(Ln.O5 g.1 (qU h).a).sz,((Ob h c hc).GU g.2).sz,O,O,O,O⟩
end
def azX{k:Nat}(hk:k<=(bk p lv).length):fw (fQ t (bk p lv) k).u t.d:=(qU h).d.mu (yQ h hk).1.u.sz O O O
def azY{k:Nat}(hk:k<=(bk p lv).length):fw (fQ t (bk p lv) k).v t.d:=by rw[(yQ h hk).1.v];exact(qU h).d.mu (Sz.zero 0 0) O O O
def arl:CS t.b:=by rw[(qU h).b];exact((Sz.zero 0 0).cz O O).cs
def vb0(a:(!cP t.b)=true):False:=by rw[I4 h]at a;cases a
end
def aJJ{t:bw}{cs:List J}{k:Nat}{c:J}(hk:k<cs.length)(hc:cs[((cs.length:Int)-1-(k:Int)).toNat]?=some c):fQ t cs (k+1)=pO t c (decide (cs.length-1-k=0)) (fQ t cs k):=by have e:((cs.length:Int)-1-(k:Int)).toNat=cs.length-1-k:=O;rw[e]at hc;rw[fQ,hc];rfl
section
variable {t:bw}{cs:List J}{k:Nat}{c:J}(hi:decide (0≤(cs.length:Int)-1-(k:Int))=true)(hc:cs[((cs.length:Int)-1-(k:Int)).toNat]?=some c)
include hi hc
def M6:fQ t cs (k+1)=pO t c (decide (cs.length-1-k=0)) (fQ t cs k):=aJJ (by simp only[be]at hi;omega) hc
def aJM(a:(!cP t.b)=false):(fQ t cs (k+1)).u=lG (ca (fQ t cs k).u t.a) (ca c (fQ t cs k).pw):=by rw[M6 hi hc];unfold pO;rw[aM (an a)]
def aJN(a:(!cP t.b)=false):(fQ t cs (k+1)).v=ca (fQ t cs k).v t.a:=by rw[M6 hi hc];unfold pO;show(if cP t.b=true then _ else _)=_;rw[aM (an a)]
def aJL(a:decide (0<(cs.length:Int)-1-(k:Int))=true):(fQ t cs (k+1)).pw=ca (fQ t cs k).pw t.d:=by simp only[be]at a;rw[M6 hi hc];unfold pO;rw[rX O];rfl
def aJK(a:decide (0<(cs.length:Int)-1-(k:Int))=false):(fQ t cs (k+1)).pw=(fQ t cs k).pw:=by have b:=dO hi;simp only[bc]at a;rw[M6 hi hc];unfold pO;rw[qd O];rfl
end
def ab7{n:Int}(h:n.natAbs<=4):Sm (iD n).aC:=by have e:pB 1=4294967296:=ae;have:=xF (n:=n) (k:=1) O;unfold Sm;omega
def aco(n:Int):kP (iV ⟨(iD n).neg,(iD n).aC⟩)=kP n:=bi kP (fU n)
def ai9(t:bw)(cs:List J):(kP (iV ⟨(iD 1).neg,(iD 1).aC⟩)).neg=(fQ t cs 0).pw.neg/\(kP (iV ⟨(iD 1).neg,(iD 1).aC⟩)).aC=(fQ t cs 0).pw.aC:=by rw[aco];exact⟨rfl,rfl⟩
def UQ{cs:List J}{k:Nat}(hk:k<=cs.length)(h:decide (0<=(cs.length:Int)-1-(k:Int))=false):k=cs.length:=by simp only[bc]at h;omega
def aJq{p:J}{lv:Int}{t:bw}(a:decide (0<((bk p lv).length:Int))=true)(b:((((bk p lv).length:Int).tmod 2)==0)=true):il p lv t=(ca (fQ t (bk p lv) (bk p lv).length).u t.d,ca (fQ t (bk p lv) (bk p lv).length).v t.d):=by have a:=dO a;have b:((bk p lv).length:Int).tmod 2=0:=an b;rw[yv O]at b;unfold il;rw[aM ⟨λe=>by rw[e]at a;exact absurd a ae,O⟩]
def aJr{p:J}{lv:Int}{t:bw}(a:((((bk p lv).length:Int).tmod 2)==0)=false):il p lv t=((fQ t (bk p lv) (bk p lv).length).u,(fQ t (bk p lv) (bk p lv).length).v):=by have a:((bk p lv).length:Int).tmod 2≠0:=an a;rw[yv O]at a;unfold il;rw[Z (λe=>a O)]
def aJs{p:J}{lv:Int}{t:bw}(a:decide (0<((bk p lv).length:Int))=false):il p lv t=((fQ t (bk p lv) (bk p lv).length).u,(fQ t (bk p lv) (bk p lv).length).v):=by have a:=cQ a;unfold il;rw[Z (λe=>e.1 (fR O))]
theorem aJw(p:J)(lv:Int)(t:bw)(h:VQ p lv t):bh 255 [wE .aF p,wI .i64 lv,wE .gi t] (tT [.agg ((eF .aF (il p lv t).1).map .d),.agg ((eF .aF (il p lv t).2).map .d)]):=by
 refine vF func255 rfl [JN,CN,Pn,arv,aro,JT] [(4,⟨Nat,λx=>⟨[(5,br 1),(6,br 2),(7,br 3),(8,lT .aF (bk p lv)),(9,br 4),(10,iT (((bk p lv).length:Int)-1-(x:Int)))],[(1,cj .gi t),(2,.cells ((eF .aF (fQ t (bk p lv) x).u).map .d)),(3,.cells ((eF .aF (fQ t (bk p lv) x).v).map .d)),(4,.cells ((eF .aF (fQ t (bk p lv) x).pw).map .d))],5⟩,λx=>x<=(bk p lv).length/\True,λx=>(bk p lv).length-x⟩)] ?_;repeat' first|exact(vb0 h ‹(!cP _)=true›).elim|intro _|apply aQ|refine aS 0 (aQ ?_ λ(x:Nat) (a:x<=(bk p lv).length/\True)=>?_)|refine aS (x+1) ?_
 all_goals(try simp only[bz,fI]at*)
 all_goals first|exact bj|omega|((with_reducible show(_&&_)=true);kernel_rfl)| (with_reducible first|exact E4 (rS h)|exact arl h)|with_reducible exact az0 h (by have g:=(o5 (rS h)).1;have b:=a.1;simp only[be]at*;omega)|with_reducible exact az1 h (by have g:=(o5 (rS h)).1;have b:=a.1;simp only[be]at*;omega)|with_reducible exact azZ h (by have g:=(o5 (rS h)).1;have b:=a.1;simp only[be]at*;omega)|with_reducible exact azW h (by have g:=(o5 (rS h)).1;have b:=a.1;simp only[be]at*;omega) (bM Y)|with_reducible exact amO h (by have g:=(o5 (rS h)).1;have b:=a.1;simp only[be]at*;omega) (bM Y)|with_reducible exact azX h (by have g:=(o5 (rS h)).1;have b:=a.1;omega)|with_reducible exact azY h (by have g:=(o5 (rS h)).1;have b:=a.1;omega)|exact ab7 ae|exact iv _ _ Y|exact(ai9 _ _).1|exact(ai9 _ _).2|rw[aJM Y Y Y]|rw[aJN Y Y Y]|rw[aJL Y Y Y]|rw[aJK Y Y Y]|have e:=UQ a.1 Y;subst e;rw[aJq Y Y]|have e:=UQ a.1 Y;subst e;rw[aJr Y]|have e:=UQ a.1 Y;subst e;rw[aJs Y]|have g:=(o5 (rS h)).1;have b:=a.1;simp only[be,bc]at*;omega|rfl
def asU:=wK (.el W.aF) (.int .i64) (.el W.gi) aJw
section
variable {p:J}{lv:Int}{t:bw}(h:VQ p lv t)
include h
def Ox:(il p lv t).2=zP/\Ln 6200 (il p lv t).1:=by
 unfold il;have a:=(yQ h (bK _)).1;split
 ·exact⟨by show ca _ _=_;rw[a.v];exact Ll (qU h).d.bR,(a.u.GU (qU h).d).up O⟩
 ·exact⟨a.v,a.u.up O⟩
def aom:b8 (il p lv t).1:=(Ox h).2.np O
def aoi:CS (il p lv t).2:=by rw[(Ox h).1];exact((Sz.zero 0 0).cz O O).cs
def aon(a:cP (il p lv t).2=false):False:=by rw[(Ox h).1]at a;cases a
end
def am0{p:J}{lv:Int}{t:bw}(h:cP (il p lv t).2=true):lI p r lv t=dB (il p lv t).1 r:=by unfold lI;rw[aM h]
theorem aog(p:J)(r lv:Int)(t:bw)(h:VQ p lv t):bh 208 [wE .aF p,wI .i64 r,wI .i64 lv,wE .gi t] (eT .aP (lI p r lv t)):=by
 refine vF func208 rfl [asU,JT,FX] [] ?_;repeat' first|intro _|apply aQ
 all_goals(try simp only[bz,fI]at*)
 all_goals first|exact bj|omega|have g:cP (il p lv t).2=false:=Y;exact(aon h g).elim| (with_reducible first|exact aom h|exact aoi h)|rw[am0 Y]
def Y9:=HU (.el W.aF) (.int .i64) (.int .i64) (.el W.gi) aog
def ZW(u:Nat)(h:u<4294967296):(Lib.decDigits u).length<=10:=by
 have a:∀k n:Nat,n<10^(k+1)->(Lib.decDigits n).length<=k+1:=by
  intro k
  induction k with
  |zero=>intro n b;rw[Lib.decDigits,dif_pos O];simp
  |succ k c=>
   intro n b;rw[Lib.decDigits];split
   ·simp
   ·rw[cX];have:=c (n/10) (by rw[Nat.pow_succ]at b;omega);simp only[fZ,mW];omega
 exact a 9 u O
def Kx(a:0<=n)(b:n<100):(Lib.itoa n).length<=10:=by
 have:Lib.itoa n=Lib.decDigits n.toNat:=by unfold Lib.itoa;rw[Z O]
 rw[this];exact ZW _ O
theorem aaa:∀{a:ao},Dg a->(dk a).length<=11*a.length
 |[],_=>by rw[dk];simp
 |d::a,h=>by have c:=h d (b6 ..);unfold b5 at c;have f:=aaa (a:=a) (λx b=>h x (cv _ b));have e:=ZW d.toNat O;rw[dk];simp only[fZ,cX];omega
def aEi(h:jT m p):KP p->(pk p).length<=nP p*(11*m+20):=by
 induction h with
 |mk l n a j k o v w q=>
  intro f;have g:=f.lv;have y:=aaa o;have s:=Kx g.1 g.2;have aO:∀l:List J,(∀c∈l,(pk c).length<=nP c*(11*m+20))->(hJ l).length<=iR l*(11*m+20):=by
   intro l
   induction l with
   |nil=>intro _;rw[hJ,iR];simp
   |cons c r b=>
    intro i;have z:=i c (b6 ..);have A:=b λx u=>i x (cv _ u)
    rw[hJ,iR,cX,iN];omega
  have d:=aO j λc d=>q c d (f.bu c d)
  have e:(if l=0 then(if n=true then [(45:UInt8)]else [])++dk a else []).length<=1+11*m:=by
   split
   ·rw[cX];have:(if n=true then [(45:UInt8)]else []).length<=1:=by split<;>simp
    have:11*a.length<=11*m:=Nat.mul_le_mul_left 11 k;omega
   ·simp
  rw[pk,nP,iN,Nat.one_mul];simp only[fZ,cX,mW,J.aK]at s⊢;omega
def Sz.Ha(h:Sz x k p)(b:x<=12)(a:k<=60000):KP p/\(pk p).length<=26000000000:=by have c:=(Sz.G3 h.bR (bK _) h.dl h.nm O).up a;have e:=Lo b h.bR h.dl;have a:=h.bR.kp (bK _);have f:=aEi c a;have g:nP p*(11*60000+20)<=38416*(11*60000+20):=jS _ e;exact⟨a,O⟩
def azH{Q:J->Prop}(i:∀p,Q p->KP p/\(pk p).length<=26000000000){m:F}(h:CM Q m):(lO m).length<=ba m*26000000100:=by
 have b:(pk zP).length<=26000000000:=((Sz.zero 0 0).Ha O O).2;have aO:∀l:List F,(∀c∈l,(lO c).length<=ba c*26000000100)->(kK l).length<=ck l*26000000100:=by
  intro l
  induction l with
  |nil=>intro _;rw[kK,ck];simp
  |cons c r d=>
   intro f;have v:=f c (b6 ..);have w:=d λx j=>f x (cv _ j)
   rw[kK,ck,cX,iN];omega
 have one:∀(k r:Int)(p:J)(a:List F),0<=k->k<100->0<=r->r<100->(pk p).length<=26000000000->(kK a).length<=ck a*26000000100->(lO (.mk k r p a)).length<=ba (.mk k r p a)*26000000100:=by
  intro k r p a k0 k1 n o g I;have y:=Kx k0 k1;have z:=Kx n o;have e:(if k=2 then 32::(Lib.itoa r++pk p)else []).length<=26000000011:=by
   split
   ·simp only[fZ,cX];omega
   ·simp
  rw[lO,ba,iN,Nat.one_mul];simp only[fZ,cX,mW];omega
 have nil:(kK []).length<=ck []*26000000100:=by rw[kK,ck];simp
 induction h with
 |tt=>exact one _ _ _ _ O O O O b nil
 |ff=>exact one _ _ _ _ O O O O b nil
 |gE r p q g=>unfold R6 at q;exact one _ _ _ _ O O O O (i p g).2 nil
 |node K a hK A s=>exact one _ _ _ _ O O O O b (aO a λc u=>s c u)
@[irreducible] def yw(t:bw):Prop:=∃v:Int,LP v t
structure KY(t:bw):Prop where
 k0:0<=t.aJ
 k1:t.aJ<10
 a:KP t.a
 b:KP t.b
 c:KP t.c
 d:KP t.d
 g:KM t.g
 l:(gn t).length<=hI
def yw.ky{t:bw}(h:yw t):KY t:=by
 unfold yw at h;obtain⟨v,h⟩:=h;have a:=h.a.sz.Ha O O;have z:=(Sz.zero 0 0).Ha O O;have b:KP t.b/\(pk t.b).length<=26000000000:=by rw[h.b];exact z
 have c:KP t.c/\(pk t.c).length<=26000000000:=by rw[h.c];exact z
 have d:=h.d.sz.Ha O O;have kd:=h.kd;have e:CM QO t.g:=by rw[h.g];exact .tt
 have j:∀p,QO p->KP p/\(pk p).length<=26000000000:=λp f=>Sz.Ha f O O
 have g:=azH j e;have k:ba t.g=1:=by rw[h.g,ba,e_]
 rw[k]at g;have i:=Kx (n:=t.aJ) O O;refine⟨O,O,a.1,b.1,c.1,d.1,e.km λp f=>(j p f).1,?_⟩;unfold gn hI;simp only[cX];omega
def xk(t:bw):List J:=[t.a,t.b,t.c,t.d]
@[irreducible] def qO(t:bw)(x:Nat):List Int:=jH (Lib.itoa t.aJ++hJ ((xk t).take x))
@[irreducible] def wX(t:bw):List Int:=jH (gn t)
section
variable {t:bw}
def Wo(h:KY t):ju (iO t.aJ)=qO t 0:=by rw[uj h.k0];unfold qO;rw[gx,hJ,lB]
def wZ(a:(xk t)[x]?=some p):qN p (qO t x)=qO t (x+1):=by unfold qN qO;rw[fy,a,yH,Hb,hJ,hJ];simp[jH]
def NK:t_ t.g (qO t 4)=wX t:=by unfold t_ qO wX gn xk;simp[jH,hJ]
variable (h:KY t)
include h
def Wn:(qO t 4).length+(lO t.g).length<=hI:=by have:=bi List.length (NK (t:=t));rw[WA]at this;rw[this];unfold wX;rw[sx];exact h.l
theorem alr(a:x<=4):(qO t x).length<=(qO t 4).length:=by
 unfold qO;have e:(xk t).take 4=(xk t).take x++((xk t).take 4).drop x:=by
  have:(xk t).take x=((xk t).take 4).take x:=by rw[List.take_take,kC a]
  rw[this,o0]
 rw[e,Hb,sx,sx,cX,cX,cX];omega
def Im{x:Nat}(b:x<4)(a:(xk t)[x]?=some p):(qO t x).length+(pk p).length<=hI:=by have e:=bi List.length (wZ (t:=t) a);rw[EE]at e;have d:=alr h (x:=x+1) O;have f:=Wn h;omega
def Wp:(iO t.aJ).size<=hI/\(iO t.aJ).size≠0:=by have e:=bi List.length (uj h.k0);rw[Av,sx,Dj h.k0 h.k1]at e;rw[e];unfold hI;simp
def aln:gn t≠[]:=by unfold gn;rw[Dj h.k0 h.k1];simp
end
def Cs:Code:=(Tryz.f161.body).getD .skip
def y0:Code:=j6 Cs
def y1:Code:=j6 (fP Cs)
def y2:Code:=j6 (fP (fP Cs))
def y3:Code:=j6 (fP (fP (fP Cs)))
def y8:Code:=j6 (fP (fP (fP (fP Cs))))
def yD:Array Oper:=Bl (j6 (fP (fP (fP (fP (fP Cs))))))
def yS:Oper:=yD[0]!
def yM:Oper:=yD[1]!
def aow:Tryz.f161.body=some (.seq y0 (.seq y1 (.seq y2 (.seq y3 (.seq y8 (.seq (.region 9 yD false) .ret)))))):=af
def aJ9:yD=[yS,yM].toArray:=af
def aKd:yS.guard=Option.none:=af
def aKa:yM.guard=Option.none:=af
def aKc:yS.dst=some 28:=af
def aJ_:yM.dst=some 2:=af
def aKe:∃a,yS.op=.call { callee:=.value (.func 206),args:=#[.tmp 3],argTypes:=a}:=⟨#[230],af⟩
def aKb:yM.op=.assign (.tmp 28):=af
def at4:gv prog 161:=gY func161 af rfl
def atJ:∀args w,(callFunc 206 args).run prog w=.ok (.enter 206 args) w:=enters_of func206 af rfl
def aCY:Tryz.f161.ntmps=29:=af
def aF1:Tryz.f161.results.toList=[.tmp 2]:=af
def sK(t:bw):SS Un:=⟨[(3,.e (.c (.ptr 0 0)))],HB 1 (wX t),2⟩
theorem aym(t:bw)(h:KY t)(a:kh prog Un)(i:a=⟨[Po,⟨1000003,λ_ _=>False,λ_ _ h=>h.elim⟩],[Sf,Sd (λp s=>KP p/\s.length+(pk p).length<=hI) (λp s h=>afk p s h.1 h.2),aeL (λc s=>KM c/\s.length+(lO c).length<=hI) (λc s h=>azI c s h.1 h.2)]⟩)(f:List (Nat×oh Un))(j:f=[(4,⟨Nat,λx=>⟨[(1,.e (.c (.ptr 1 0))),(3,.e (.c (.ptr 0 0))),(18,.e (.agg ((eF .aF t.a).map .d++(eF .aF t.b).map .d++(eF .aF t.c).map .d++(eF .aF t.d).map .d))),(19,iT x)],[(0,.cells [.ptr 0 0,.ty 2 5 (.inr (qO t x).length)]),(1,.cells ((eF .gi t).map .d)),(2,.aW (U:=Un) W.u8 (qO t x))],3⟩,λx=>x<=4/\True,λx=>4-x⟩)]):
 gu Vw 29 [] a f y0 ⟨tO 0 [wE .gi t],[],0⟩ (mh n4 λb=>gu Vw 29 [] a f y1 b (mh n4 λb=>gu Vw 29 [] a f y2 b (mh n4 λb=>gu Vw 29 [] a f y3 b (mh n4 λb=>gu Vw 29 [] a f y8 b (mh n4 λb=>mt Vw [] b (sK t) True))))):=by
 subst i;subst j;repeat' (first
  |((with_reducible show mt _ _ _ _ _);(conv=>whnf);(fail_if_success with_reducible show mt _ _ _ _ _))
  |intro _|apply aQ
  |refine @aS Nat _ 0 (aQ ?_ λ(x:Nat)(k:x<=4/\True)=>?_)
  |refine @aS Nat _ (x+1) ?_
  |fail)
 all_goals(try simp only[bz,fI]at*)
 all_goals first|exact bj|omega|with_reducible exact h.k0|have g:=h.k1;omega|with_reducible exact(Wp h).1|exact absurd ‹(iO _).size=0› (Wp h).2| (with_reducible first|exact Wo h|exact bi (λl:List Int=>(Sum.inr l.length:Nat ⊕ Nat)) (Wo h))|have g:=dO ‹decide ((x:Int)<4)=true›;omega| (with_reducible first|exact h.a|exact h.b|exact h.c|exact h.d|exact h.g)|(obtain rfl:x=0:=O;first|exact Im h O rfl|exact wZ (t:=t) (x:=0) rfl|exact bi (λl:List Int=>(Sum.inr l.length:Nat ⊕ Nat)) (wZ (t:=t) (x:=0) rfl)|show 4-(0+1)<4-0;omega)|(obtain rfl:x=1:=O;first|exact Im h O rfl|exact wZ (t:=t) (x:=1) rfl|exact bi (λl:List Int=>(Sum.inr l.length:Nat ⊕ Nat)) (wZ (t:=t) (x:=1) rfl)|show 4-(1+1)<4-1;omega)|(obtain rfl:x=2:=O;first|exact Im h O rfl|exact wZ (t:=t) (x:=2) rfl|exact bi (λl:List Int=>(Sum.inr l.length:Nat ⊕ Nat)) (wZ (t:=t) (x:=2) rfl)|show 4-(2+1)<4-2;omega)|(obtain rfl:x=3:=O;first|exact Im h O rfl|exact wZ (t:=t) (x:=3) rfl|exact bi (λl:List Int=>(Sum.inr l.length:Nat ⊕ Nat)) (wZ (t:=t) (x:=3) rfl)|show 4-(3+1)<4-3;omega)|(have g:=cQ ‹decide ((x:Int)<4)=false›;obtain rfl:x=4:=O;first|exact Wn h|exact NK|exact bi (λl:List Int=>(Sum.inr l.length:Nat ⊕ Nat)) NK)
def yW(x:UInt8):Value:=.int .u8 x.toNat
def awB(w:World)(g:Addr)(n:Nat):(w.freeze g n).heap.size=w.heap.size:=by unfold World.freeze;split<;>simp
def awA(w:World)(g:Addr)(n:Nat):(w.freeze g n).os=w.os/\(w.freeze g n).tape=w.tape/\(w.freeze g n).output=w.output/\(w.freeze g n).drawn=w.drawn:=by unfold World.freeze;split<;>exact⟨rfl,rfl,rfl,rfl⟩
def abD(w:World)(g:Addr)(n x:Nat)(h:x≠g.block):(w.freeze g n).heap[x]?=w.heap[x]? :=by
 unfold World.freeze;split
 ·rfl
 ·simp[Na,Ne.symm h]
open Go.RowKit in
theorem aHZ{bs:List UInt8}{c:Array Value}(r:w.cell? ⟨k,1,Option.none⟩=some (.slice (some ⟨x,0,Option.none⟩) bs.length m))(i:w.heap[x]?=some (.cells c 5 (0,0)))(hlen:bs.length<=m)(l:m<=maxLen)(o:m<=c.size)(d:c.toList.take bs.length=bs.map yW)(p:bs≠[]):
 Calls prog 206 #[.pointer (some ⟨k,0,Option.none⟩)] w (λe s=>e=.returned (.string ⟨bs.toArray⟩)/\s=w.drew.freeze ⟨x,0,Option.none⟩ bs.length):=by
 have u:bs.length≠0:=an p;have B:w.drew.cell? ⟨k,1,Option.none⟩=some (.slice (some ⟨x,0,Option.none⟩) bs.length m):=r
 have v:(Builtin.unsafeSliceData_ #[228] 279 #[.slice (some ⟨x,0,Option.none⟩) bs.length m]).run prog w.drew=.ok (.pointer (some ⟨x,0,Option.none⟩)) w.drew:=
  Lib.run_unsafeSliceData_row _ _ _ _ _ _ O
 have y:(Builtin.unsafeString_ #[279,3] 9 #[.pointer (some ⟨x,0,Option.none⟩),.int .i64 bs.length]).run prog w.drew=.ok (.string ⟨bs.toArray⟩) (w.drew.freeze ⟨x,0,Option.none⟩ bs.length):=by
  refine Lib.run_unsafeString_row w.drew 279 3 9 5 af af x c.size (by have f:w.drew.heap[x]?=some (.cells c 5 (0,0)):=i;simp[World.shape?,f]) bs p O (by unfold maxLen at l;omega) ?_;intro j a q;have f:w.drew.heap[x]?=some (.cells c 5 (0,0)):=i;have z:j<bs.length:=(du.1 q).1;have A:c.toList[j]?=some (yW a):=by
   have n:(c.toList.take bs.length)[j]?=some (yW a):=by rw[d];simp[q]
   rw[sO]at n;rw[aM z]at n;exact n
  rw[uH,ol,Lib.cell_of_heap f];simpa[yW]using A
 go_enter func206,Tryz.ntmps206
 go_wp2
 go_region
 all_goals(go_wp2;go_ret;exact⟨rfl,rfl⟩)
def ajy{b:av}{o:Oper}{l:List Oper}{a:Act}{Q:Exit->Act->World->Prop}(c:o.guard=Option.none)(h:o.wp prog a w (wpList prog b Q l) Q):wpList prog b Q (o::l) a w:=by simp only[wpList];rw[aM (by simp[Region.wanted,c])];exact .inl h
theorem ai7{w:World}{M:ap}{a:G}:∀{bs:List UInt8}{vs:au},bW w M a ((bG (U:=Un) W.u8 (jH bs)).map .d) vs->vs=bs.map yW
 |[],vs,h=>fR (by rw[<-h.1];rfl)
 |x::bs,[],h=>by have:=h.1;cases this
 |x::bs,v::vs,h=>by have j:v=yW x:=iw (show cr w M a (.e (.c (.d (.sc (yW x))))) v from h.2 0 _ v rfl rfl);have g:=ai7 (bs:=bs) (vs:=vs) ⟨Nat.succ.inj h.1,λi x u b f=>h.2 (i+1) x u b f⟩;rw[de,<-g,j]
def ayl(t:bw)(hk:yw t):bh 161 [wE .gi t] (sT (cR t)):=by
 have h:=hk.ky;refine⟨at4,λM γ w m hm z=>?_⟩;have hγ:γ=iJ:=funext λs=>hm.ic s rfl
 subst hγ;refine calls_of_wp func161 aow ?_;have R0:gO (ef.jC M iJ w (·∈[]) 29) (⟨tO 0 [wE .gi t],[],0⟩:SS Un).st { tmps:=m.toArray++Array.replicate (Tryz.f161.ntmps-m.toArray.size) undef,defers:=[]} w:=by
  have:=dD.jC (aV:=nJ [(wE .gi t).aI]) (a:= { tmps:=m.toArray++Array.replicate (Tryz.f161.ntmps-m.toArray.size) undef,defers:=[]}) hm (QN z _) rfl (·∈[]);refine⟨iJ,?_⟩;have e:(m.toArray++Array.replicate (Tryz.f161.ntmps-m.toArray.size) undef).size=29:=by have:=z.1;rw[aCY];simp at this⊢;omega
  rw[<-e];exact this
 refine wp_seq (qH (qG mixed (aym t h _ rfl _ rfl) (Q:=λs=>∃y:SS Un,y.st=s/\gu Vw 29 [] _ _ y1 y _) λn k=>⟨n,rfl,k⟩) rfl rfl R0 λa1 w1 s1 R1 ⟨σ1,e1,k1⟩=>?_);subst e1;refine wp_seq (qH (qG mixed k1 (Q:=λs=>∃y:SS Un,y.st=s/\gu Vw 29 [] _ _ y2 y _) λn k=>⟨n,rfl,k⟩) rfl rfl R1 λa2 w2 s2 R2 ⟨σ2,e2,k2⟩=>?_);subst e2;refine wp_seq (qH (qG mixed k2 (Q:=λs=>∃y:SS Un,y.st=s/\gu Vw 29 [] _ _ y3 y _) λn k=>⟨n,rfl,k⟩) rfl rfl R2 λa3 w3 s3 R3 ⟨σ3,e3,k3⟩=>?_);subst e3;refine wp_seq (qH (qG mixed k3 (Q:=λs=>∃y:SS Un,y.st=s/\gu Vw 29 [] _ _ y8 y _) λn k=>⟨n,rfl,k⟩) rfl rfl R3 λa4 w4 s4 R4 ⟨σ4,e4,k4⟩=>?_);subst e4;refine wp_seq (qH (qG mixed k4 (Q:=λs=>d_ 29 (·∈[]) s (sK t).st) λn k=>(pG k 29).2) rfl rfl R4 λB w6 s5 R5 hw=>?_);obtain⟨C,R6⟩:=hw _ rfl rfl B w6 R5;have r3:cr w6 M C (.e (.c (.ptr 0 0))) (B.tmps.getD 3 undef):=R6.aV 3;obtain⟨b,hb,hv3⟩:=r3;have hH0:(sK t).st.heap 0=some [.ptr 0 0,.ty 1 5 (.inr (wX t).length)]:=rfl;have hH1:(sK t).st.heap 1=some ((bG (U:=Un) W.u8 (wX t)).map .d):=rfl;have ek:wX t=jH (gn t):=by unfold wX;rfl
 have el:(wX t).length=(gn t).length:=by rw[ek,sx]
 rw[el]at hH0;rw[ek]at hH1;obtain⟨g,cur,o,hg,L,N,hlc,hcm,H⟩:∃(g:Nat)(cur:Array Value)(o:Nat),C 1=some (some g)/\w6.heap[g]?=some (.cells cur 5 (0,0))/\w6.cell? ⟨b,1,Option.none⟩=some (.slice (some ⟨g,0,Option.none⟩) (gn t).length o)/\(gn t).length<=o/\o<=maxLen/\o<=cur.size:=by
  rcases R6.mem.gR 0 _ hH0 with⟨b',t',vs,sp,f,hb',l⟩|⟨f,_⟩|⟨b',en,clk,f,hb',l⟩
  ·rw[hb]at f;injection f with f;injection f with f;subst f
   match vs,l with
   |[u,v],l=>obtain⟨g,cur,A,h2,o,h3,h4,h5,h6⟩:=l.2 1 _ v rfl rfl;refine⟨g,cur,o,A,h2,?_,h4,h5,h6⟩;rw[y4 hb',h3];simp
   |[],l=>have:=l.1;cases this
   |[_],l=>have:=l.1;cases this
   |_::_::_::_,l=>have:=l.1;cases this
  ·rw[hb]at f;injection f with f;cases f
  ·cases l
 have E:cur.toList.take (gn t).length=(gn t).map yW:=by
  obtain⟨t0,vs,sp,p,hc0⟩:=R6.Jk hH1 hg L;rw[L]at p;injection p with p;injection p with p _;subst p
  have e:=ai7 hc0;subst e;simp
 have eU:=aHZ N L hlc hcm H E (aln h);refine wp_seq ?_;rw[aJ9];refine wp_region_lit ?_;refine ajy aKd ?_;unfold Oper.wp;obtain⟨ts,hop⟩:=aKe;have G:(execOp B.eval yS).run prog w6=.ok (.enter 206 #[.pointer (some ⟨b,0,Option.none⟩)]) w6:=by simp only[execOp,hop,resolve,Act.eval,Deferred.ofValue,Sem.run_bind,Sem.run_pure,Result.andThen_ok,invoke];rw[atJ];congr 2;apply mQ;have R:B.eval (.tmp 3)=.pointer (some ⟨b,0,Option.none⟩):=hv3;simp[R]
 rw[G];refine eU.mono λe w7 he=>?_
 obtain⟨rfl,rfl⟩:=he;have V:B.tmps.size=29:=R6.size;have h28:(B.put yS.dst (.string ⟨(gn t).toArray⟩)).eval (.tmp 28)=.string ⟨(gn t).toArray⟩:=by show(B.put yS.dst (.string ⟨(gn t).toArray⟩)).tmps.getD 28 undef=_;rw[aKc,vS _ _ _ _ (by intro j K;injection K with K;subst K;omega)];simp
 refine ajy aKa (mn (v:=.string ⟨(gn t).toArray⟩) (by simp only[execOp,aKb,h28];rfl) ?_);show Code.wp prog .ret _ _ _;refine wp_ret ?_;have aX:∀s x,C s=some (some x)->w.heap.size<=x:=λs x I=>by
  rcases R6.aX s x I with⟨u,hu⟩|h2
  ·cases hu
  ·exact h2
 have hgw:w.heap.size<=g:=aX 1 g hg;have hdf:((B.put yS.dst (.string ⟨(gn t).toArray⟩)).put yM.dst (.string ⟨(gn t).toArray⟩)).defers=[]:=by rw[wx,wx];exact R6.defers
 have h2v:((B.put yS.dst (.string ⟨(gn t).toArray⟩)).put yM.dst (.string ⟨(gn t).toArray⟩)).tmps.getD 2 undef=.string ⟨(gn t).toArray⟩:=by rw[aJ_,vS _ _ _ _ (by intro j K;injection K with K;subst K;rw[uS];omega)];simp
 have T:((B.put yS.dst (.string ⟨(gn t).toArray⟩)).put yM.dst (.string ⟨(gn t).toArray⟩)).tmps.size=29:=by rw[uS,uS];exact V
 have P:fY (λx=>∃s,iJ s=some (some x)) w (w6.drew.freeze ⟨g,0,Option.none⟩ (gn t).length):=by
  have hz:=awA w6.drew ⟨g,0,Option.none⟩ (gn t).length;refine⟨hz.1.trans R6.aN.os,hz.2.1.trans R6.aN.tape,hz.2.2.1.trans R6.aN.output,by rw[hz.2.2.2];exact dH R6.aN.drawn (Nat.le_succ _),by rw[awB];exact R6.aN.size,λx q hn=>?_,λx cells t q=>?_⟩
  ·have D:x≠g:=by omega
   exact(abD _ _ _ x D).trans (R6.aN.same x q (λ⟨s,I⟩=>by cases I))
  ·have hlt:=jy q;have D:x≠g:=O;obtain⟨c1,A,z1⟩:=R6.aN.jb x cells t q;exact⟨c1,(abD _ _ _ x D).trans A,z1⟩
 have m7:Mem M iJ uM (w6.drew.freeze ⟨g,0,Option.none⟩ (gn t).length):=⟨λx q=>mz (hm.iF x q) P.size,(λs t x A=>by cases A),(λs x A=>by cases A),(λ_ _=>rfl),(λs cs I=>by cases I),hm.jO.to (λx q=>⟨mz q.1 P.size,q.2.1,q.2.2⟩) (λx q=>P.same x q.1 (λ⟨s,I⟩=>by cases I))⟩;have Rf:dD (ef.jC M iJ w (λ_=>False) 29) iJ ⟨λi=>if i=2 then .e (.c (.d (.sc (.string ⟨(gn t).toArray⟩))))else .any,uM⟩ ((B.put yS.dst (.string ⟨(gn t).toArray⟩)).put yM.dst (.string ⟨(gn t).toArray⟩)) (w6.drew.freeze ⟨g,0,Option.none⟩ (gn t).length):=by
  refine⟨m7,λi=>?_,P,(λs x A=>by cases A),λ_ h=>h.elim,hdf,T⟩;show cr _ M iJ (if i=2 then _ else _) _;split
  ·rename_i e;subst e;rw[h2v];exact dN.sc _ rfl
  ·trivial
 obtain⟨v,hv,X⟩:=Mf (r:=.e (.c (.d (.sc (.string ⟨(gn t).toArray⟩))))) Rf Tryz.f161 (by rw[aF1];rfl);exact⟨hdf,v,hv,v,iJ,rfl,m7,X,P,(λs x A=>by cases A),λ_ h=>h.elim⟩
def ar_:=dj (.el W.gi) ayl
end Go.Proofs.YtfbmhjooliccnaaGreatDoor
