/- Part of VirtualWitness. No condition. -/
import Derived.Test.YtfbmhjooliccnaaGreatDoorYl
import Derived.Lib.BitFns
set_option linter.all false
set_option maxRecDepth 100000
set_option maxHeartbeats 60000000
noncomputable section
namespace Go.Proofs.YtfbmhjooliccnaaGreatDoor
open Go Go.Ab Go.Proofs.Tryz
variable {d r n U R:Int}{m c:F}{i:Nat}{a z:ao}{p:J}{l:List aL}{t:aL}{x X:cd}{y Z:bk}{b:Bool}{s:aA}
def qE(n:Int):SE S:=.c (.d (.sc (.int .u64 n)))
def ah2(h:bY d):IntKind.u64.wrap (d*2^min (Int.toNat 32) IntKind.u64.bits)=d*4294967296:=by rw[cg]at h;show IntKind.u64.wrap (d*4294967296)=_;rw[IntKind.wrap_u64];omega
def aeK{a b:Int}(c:0<=a)(d:a<18446744073709551616)(e:0<=b)(f:b<18446744073709551616):IntKind.u64.wrap (((BitVec.ofInt IntKind.u64.bits a) ||| (BitVec.ofInt IntKind.u64.bits b)).toNat:Int)=((a.toNat ||| b.toNat:Nat):Int):=by
 obtain⟨a,rfl⟩:=wG c;obtain⟨b,rfl⟩:=wG e;have h:(BitVec.ofInt IntKind.u64.bits (a:Int)).toNat=a:=by rw[Hu];show((a:Int)%(18446744073709551616:Int)).toNat=a;omega
 have i:(BitVec.ofInt IntKind.u64.bits (b:Int)).toNat=b:=by rw[Hu];show((b:Int)%(18446744073709551616:Int)).toNat=b;omega
 rw[BitVec.toNat_or,h,i,bI,bI];have j:a ||| b<2^64:=Nat.or_lt_two_pow O O
 rw[IntKind.wrap_u64];have:(2:Nat)^64=18446744073709551616:=ae;omega
def aBb{a b:Int}(c:0<=a)(d:a<4294967296)(e:0<=b)(f:b<4294967296):IntKind.u32.wrap (((BitVec.ofInt IntKind.u32.bits a) ||| (BitVec.ofInt IntKind.u32.bits b)).toNat:Int)=((a.toNat ||| b.toNat:Nat):Int):=by
 obtain⟨a,rfl⟩:=wG c;obtain⟨b,rfl⟩:=wG e;have h:(BitVec.ofInt IntKind.u32.bits (a:Int)).toNat=a:=by rw[Hu];show((a:Int)%(4294967296:Int)).toNat=a;omega
 have i:(BitVec.ofInt IntKind.u32.bits (b:Int)).toNat=b:=by rw[Hu];show((b:Int)%(4294967296:Int)).toNat=b;omega
 rw[BitVec.toNat_or,h,i,bI,bI];have j:a ||| b<2^32:=Nat.or_lt_two_pow O O
 rw[IntKind.wrap_u32];have:(2:Nat)^32=4294967296:=ae;omega
def wide{x y:Int}(a:bY x)(b:bY y):IntKind.u64.wrap (((BitVec.ofInt IntKind.u64.bits (IntKind.u64.wrap (IntKind.u64.wrap x*2^min (Int.toNat 32) IntKind.u64.bits))) ||| (BitVec.ofInt IntKind.u64.bits (IntKind.u64.wrap y))).toNat:Int)=x*4294967296+y:=by
 have c:=cg.1 a;have d:=cg.1 b;have e:IntKind.u64.wrap x=x:=by rw[IntKind.wrap_u64];omega
 have f:IntKind.u64.wrap y=y:=by rw[IntKind.wrap_u64];omega
 rw[e,f,ah2 a,aeK O O O O,Nat.or_comm];have:=RO (t:=y) (lo:=x*4294967296) (s:=32) O (by show y<4294967296;omega) O ⟨x,by show x*4294967296=4294967296*x;omega⟩;rw[this];omega
def adK(h:aR a=[])(b:Dg a):nV a=0:=by rw[<-gZ,h];rfl
def ai5(h:(((aR a).length:Int)==0)=true):0=nV a:=by have h:((aR a).length:Int)=0:=an h;have:aR a=[]:=fc O;rw[<-gZ,this];rfl
def aGq(c:Dg a)(h:(((aR a).length:Int)==1)=true)(b:(aR a)[(0:Int).toNat]?=some d):IntKind.u64.wrap d=nV a:=by
 have h:((aR a).length:Int)=1:=an h;have e:=cg.1 (c.eW.at b);rw[<-gZ,IntKind.wrap_u64]
 match f:aR a,h with
 |[y],_=>rw[f]at b;have:d=y:=an b.symm;subst this;simp only[nV];omega
def aGr(j:Dg a)(h:(((aR a).length:Int)==2)=true)(b:(aR a)[(1:Int).toNat]?=some d)(c:(aR a)[(0:Int).toNat]?=some r):d*4294967296+r=nV a:=by
 have h:((aR a).length:Int)=2:=an h;rw[<-gZ]
 match e:aR a,h with
 |[u,v],_=>rw[e]at b c;have f:d=v:=an b.symm;have i:r=u:=an c.symm;subst f i;simp only[nV];omega
def aGs(a:ao)(h:Dg a/\a.length<=2):bh 213 [wL .u32 a] (tT [qE (nV a),bE true]):=by
 refine vF func213 rfl [uB] [] ?_;repeat' first|intro _|apply aP
 all_goals first|exact aZ|with_reducible rfl|omega|((with_reducible show(_&&_)=true);kernel_rfl)| (with_reducible first|exact ai5 I|exact aGq h.1 I I)|rw[wide (h.1.eW.at I) (h.1.eW.at I)];exact aGr h.1 I I I|have Z:=mw a;have b:=h.2;simp only[jw,lN,jC,iN]at*;omega
def asT:=dR (.ls W.u32) aGs
def BI(h:bY d):IntKind.u64.wrap d=d:=by rw[cg]at h;rw[IntKind.wrap_u64];omega
def as4(a:bY r)(b:bY d)(c:r<d)(e:IntKind.u64.wrap d=0):False:=by rw[BI b]at e;rw[cg]at a;omega
def ZT(c:bY r)(e:bY n)(b:bY d)(a:r<d):0<=(r*4294967296+n)/d/\(r*4294967296+n)/d<4294967296/\0<=(r*4294967296+n)%d/\(r*4294967296+n)%d<4294967296:=by have f:=cg.1 c;have h:=cg.1 b;have:=Z8 f.1 a e b;exact⟨this.1,this.2,rI _ O,by have:=sR (r*4294967296+n) (show 0<d by omega);omega⟩
def as2(a:bY r)(b:bY n)(e:bY d)(c:r<d):IntKind.u32.wrap (IntKind.u64.wrap ((IntKind.u64.wrap (((BitVec.ofInt IntKind.u64.bits (IntKind.u64.wrap (IntKind.u64.wrap r*2^min (Int.toNat 32) IntKind.u64.bits))) ||| (BitVec.ofInt IntKind.u64.bits (IntKind.u64.wrap n))).toNat:Int)).tdiv (IntKind.u64.wrap d)))=(r*4294967296+n)/d:=by have f:=cg.1 a;have h:=cg.1 b;have i:=ZT a b e c;rw[wide a b,BI e,Ed O,IntKind.wrap_u64,IntKind.wrap_u32];omega
def as3(a:bY r)(b:bY n)(e:bY d)(c:r<d):IntKind.u32.wrap ((IntKind.u64.wrap (((BitVec.ofInt IntKind.u64.bits (IntKind.u64.wrap (IntKind.u64.wrap r*2^min (Int.toNat 32) IntKind.u64.bits))) ||| (BitVec.ofInt IntKind.u64.bits (IntKind.u64.wrap n))).toNat:Int)).tmod (IntKind.u64.wrap d))=(r*4294967296+n)%d:=by have f:=cg.1 a;have h:=cg.1 b;have i:=ZT a b e c;rw[wide a b,BI e,wJ O,IntKind.wrap_u32];omega
def atj(x y d:Int)(h:bY x/\bY y/\bY d/\x<d):bh 281 [wI .u32 x,wI .u32 y,wI .u32 d] (tT [uE ((x*4294967296+y)/d),uE ((x*4294967296+y)%d)]):=by
 refine vF func281 rfl [] [] ?_;repeat' first|intro _|apply aP
 all_goals first|exact aZ|omega|((with_reducible show(_&&_)=true);kernel_rfl)|with_reducible exact as4 h.1 h.2.2.1 h.2.2.2 I|exfalso;rename_i Z;have Z:=eD Z;have a:=h.2.2.2;omega|exact as2 h.1 h.2.1 h.2.2.1 h.2.2.2|exact as3 h.1 h.2.1 h.2.2.1 h.2.2.2
def Zw:=vb (.int .u32) (.int .u32) (.int .u32) atj
def dsz(h:0<d):¬(d==0)=true:=by simp;omega
def ye{a:ao}{d:Int}(h:mX a d):=(mX.eq_1 ..).to_iff.1 h
def Va(h:mX a d)(b:qu a d i r z):i<=a.length/\z.length=a.length/\0<=r/\r<d/\bY r/\Dg z:=by unfold mX at h;unfold qu at b;have:=cg.1 h.2.1;exact⟨b.1,b.2.1,b.2.2.2.1,b.2.2.2.2.1,cg.2 ⟨O,O⟩,b.2.2.1⟩
def akj{x:Nat}(h:mX a d)(b:qu a d x r z)(f:decide (0<=(x:Int)-1)=true)(c:a[((x:Int)-1).toNat]?=some n):
 qu a d (x-1) ((r*4294967296+n)%d) (z.set ((x:Int)-1).toNat ((r*4294967296+n)/d)):=by
 simp only[be]at f;have e:((x:Int)-1).toNat=x-1:=O;rw[e]at c⊢;refine aki h ?_ c;have:x-1+1=x:=O;rw[this];exact b
def U_(h:mX a d)(b:qu a d i r z)(c:decide (0<=(i:Int)-1)=false):aR z=cM (nV a/d).toNat/\r=nV a%d:=by simp only[bj]at c;have e:i=0:=O;rw[e]at b;have:=akh h b;exact⟨by rw[tc this.2.2,this.1],this.2.1⟩
def tS(h:mX a d):mX (aR a) d/\nV (aR a)=nV a:=by have b:=ye h;refine⟨by unfold mX;exact⟨b.1.eW,b.2.1,b.2.2.1,eZ (mw a) b.2.2.2⟩,gZ a⟩
def atl(a:ao)(d:Int)(h:mX a d):bh 260 [wL .u32 a,wI .u32 d] (tT [lE .u32 (cM (nV a/d).toNat),uE (nV a%d),bE true]):=by
 refine vF func260 rfl [uB,Zw] [(7,⟨Nat×Int×List Int,λv=>⟨[(0,lT .u32 (aR a)),(1,uT d),(7,.e (.c (.aW 0 (U:=S) W.u32 (aR a).length))),(8,uT v.2.1),(9,iT ((v.1:Int)-1))],[(0,.aU (U:=S) W.u32 v.2.2)],1⟩,λv=>qu (aR a) d v.1 v.2.1 v.2.2/\True,λv=>v.1⟩)] ?_;repeat' first|intro _|apply aP|refine aX ((aR a).length,0,List.replicate (aR a).length 0) (aP ?_ λ(x:Nat×Int×List Int) (b:qu (aR a) d x.1 x.2.1 x.2.2/\True)=>?_)|refine aX (x.1-1,?c,?z) ?_
 all_goals first| (with_reducible first|show Int|show List Int)|exact aZ|with_reducible rfl|omega|exfalso;rename_i Z;exact dsz (ye h).2.2.1 Z|simp only[bI];done|have k:=ye (tS h).1;show 4*_<=_;omega|have k:=ye (tS h).1;omega|have Z:=Va (tS h).1 b.1;have k:=ye (tS h).1;simp only[be,bj]at*;omega|with_reducible exact(Va (tS h).1 b.1).2.2.2.2.1|exact(ye (tS h).1).1.at I|with_reducible exact(ye h).2.1|exact akg (tS h).1|exact akj (tS h).1 b.1 I I|rw[(U_ (tS h).1 b.1 I).1,(tS h).2]|rw[(U_ (tS h).1 b.1 I).2,(tS h).2]
def ar6:=eO (.ls W.u32) (.int .u32) atl
def BU{u2 u1 u0 v1 v2:Int}(h:EP u2 u1 u0 v1 v2):=(EP.eq_1 ..).to_iff.1 h
def HE{u2 u1 u0 v1 v2 d:Int}(a:EG u2 u1 u0 v1 v2 d r U):bY d/\bY r/\0<=U/\U<=1:=by unfold EG at a;exact⟨a.1,a.2.1,a.2.2.1,a.2.2.2.1⟩
section
variable {u2 u1 u0 v1 v2:Int}(h:EP u2 u1 u0 v1 v2){x:Int×Int×Int}(hx:EG u2 u1 u0 v1 v2 x.1 x.2.1 x.2.2∧True)
include h
def akA(a:decide (v1<=u2)=true):EG u2 u1 u0 v1 v2 4294967295 ((u1+v1+0)%4294967296) ((u1+v1+0)/4294967296):=aky h (eD a)
def akB(a:decide (v1<=u2)=false):EG u2 u1 u0 v1 v2 ((u2*4294967296+u1)/v1) ((u2*4294967296+u1)%v1) 0:=akz h (Int.not_le.1 (fg a))
include hx
def akD(a:(x.2.2==0)=b)(c:b=false):x.1=kg u2 u1 u0 v1 v2:=by
 rw[c]at a;have k:=HE hx.1;have:x.2.2=1:=by have:x.2.2≠0:=an a;omega
 exact Vj h hx.1 (.inl this)
def Vk(Y:x.1*v2<=x.2.1*4294967296+u0):x.1=kg u2 u1 u0 v1 v2:=Vj h hx.1 (.inr Y)
def akE(Y:decide (x.1*v2/4294967296<x.2.1)=true):x.1=kg u2 u1 u0 v1 v2:=by have Y:=eD Y;have k:=cg.1 (BU h).2.2.1;exact Vk h hx O
def akF(b:(x.1*v2/4294967296==x.2.1)=true)(a:decide (x.1*v2%4294967296<=u0)=true):x.1=kg u2 u1 u0 v1 v2:=by have b:x.1*v2/4294967296=x.2.1:=an b;have a:=eD a;exact Vk h hx O
def akG(a:(x.2.2==0)=true)(Y:x.2.1*4294967296+u0<x.1*v2):EG u2 u1 u0 v1 v2 (x.1-1) ((x.2.1+v1+0)%4294967296) ((x.2.1+v1+0)/4294967296)/\0<x.1:=by have a:x.2.2=0:=an a;have X:=hx.1;rw[a]at X;exact akC h X Y
theorem Vh(b:decide (x.1*v2/4294967296<x.2.1)=false)(a:(x.1*v2/4294967296==x.2.1)=false):x.2.1*4294967296+u0<x.1*v2:=by have b:=fg b;have a:x.1*v2/4294967296≠x.2.1:=an a;have k:=cg.1 (BU h).2.2.1;omega
theorem Vi(b:(x.1*v2/4294967296==x.2.1)=true)(a:decide (x.1*v2%4294967296<=u0)=false):x.2.1*4294967296+u0<x.1*v2:=by have b:x.1*v2/4294967296=x.2.1:=an b;have a:=fg a;omega
def Vl(a:(x.2.2==0)=true)(Y:x.2.1*4294967296+u0<x.1*v2):EG u2 u1 u0 v1 v2 (IntKind.u32.wrap (x.1-1)) ((x.2.1+v1+0)%4294967296) ((x.2.1+v1+0)/4294967296)/\(IntKind.u32.wrap (x.1-1)).toNat<x.1.toNat:=by
 have X:=akG h hx a Y;have k:=cg.1 (HE hx.1).1;have e:IntKind.u32.wrap (x.1-1)=x.1-1:=by rw[IntKind.wrap_u32];omega
 rw[e];exact⟨X.1,O⟩
end
def auG(u2 u1 u0 v1 v2:Int)(h:EP u2 u1 u0 v1 v2):bh 262 [wI .u32 u2,wI .u32 u1,wI .u32 u0,wI .u32 v1,wI .u32 v2] (uT (kg u2 u1 u0 v1 v2)):=by
 refine vF func262 rfl [CD,Zw,OQ] [(6,⟨Int×Int×Int,λv=>⟨[(0,uT u2),(1,uT u1),(2,uT u0),(3,uT v1),(4,uT v2),(11,uT v.1),(12,uT v.2.1),(13,uT v.2.2)],[],0⟩,λx=>EG u2 u1 u0 v1 v2 x.1 x.2.1 x.2.2/\True,λv=>v.1.toNat⟩)] ?_;repeat' first|intro _|apply aP|refine aX (?_,?_,?_) (aP ?_ λ(x:Int×Int×Int)(hx:EG u2 u1 u0 v1 v2 x.1 x.2.1 x.2.2/\True)=>?_)|refine aX (?_,?_,?_) ?_
 all_goals first| (with_reducible first|show Int|show List Int|show Nat)|exact aZ|with_reducible rfl|omega| (with_reducible first|exact(BU h).1|exact(BU h).2.1|exact(BU h).2.2.2.1|exact(BU h).2.2.2.2.1|exact(HE hx.1).1|exact(HE hx.1).2.1)|simp only[bj]at*;omega|exact akA h I|exact akB h I| (with_reducible first|exact akD h hx I rfl|exact akF h hx I I)|exact(Vl h hx I (by first|exact Vh h hx I I|exact Vi h hx I I)).1|exact(Vl h hx I (by first|exact Vh h hx I I|exact Vi h hx I I)).2|rename_i X;exact akE h hx X
def ct5{P:ay}{U:gw}(V:bU P U)(f:FuncId)(m l k j i:qG U)(Pre:m.T->l.T->k.T->j.T->i.T->Prop)(R:m.T->l.T->k.T->j.T->i.T->ST U)(h:∀x y z u v,Pre x y z u v->li P f [(iY V m x).den,(iY V l y).den,(iY V k z).den,(iY V j u).den,(iY V i v).den] (R x y z u v).den):Ct P U where
 f:=f
 run args K:=match args with|[a,b,c,d,e]=>oL V m a λx=>oL V l b λy=>oL V k c λz=>oL V j d λu=>oL V i e λv=>Pre x y z u v/\K (R x y z u v)|_=>False
 ok args K hr:=by
  split at hr
  ·obtain⟨x,e,hr⟩:=qj hr;obtain⟨y,w,hr⟩:=qj hr;obtain⟨z,t,hr⟩:=qj hr;obtain⟨u,s,hr⟩:=qj hr;obtain⟨v,r,q,p⟩:=qj hr;exact⟨_,by simp only[dc,gL,e,w,t,s,r];exact h x y z u v q,p⟩
  ·cases hr
def ar7:Ct prog S:=ct5 Vw 262 (.int .u32) (.int .u32) (.int .u32) (.int .u32) (.int .u32) (λ(a:Int)(b:Int)(c:Int)(d:Int)(e:Int)=>EP a b c d e) (λ(a:Int)(b:Int)(c:Int)(d:Int)(e:Int)=>uT (kg a b c d e)) (λa b c d e h=>auG a b c d e h)
def auj:fh prog 263:=fH func263 af rfl
def auk:fh prog 264:=fH func264 af rfl
section
variable {Z:ao}{o n:Nat}{v:ao}{d:Int}(h:rX Z o n v d)
include h
def EI:=(rX.eq_1 ..).to_iff.1 h
variable {x:Nat×Int×Int×List Int}(hx:sZ Z o n v d x.1 x.2.1 x.2.2.1 x.2.2.2∧True)
include hx
theorem yG:x.1<=v.length/\x.2.2.2.length=Z.length/\bY x.2.1/\0<=x.2.2.1/\x.2.2.1<=1/\Dg x.2.2.2:=by have X:=hx.1;unfold sZ at X;exact⟨X.1,X.2.1.1,X.2.2.2.1,X.2.2.2.2.1,X.2.2.2.2.2.1,X.2.2.1⟩
theorem amz(a:bY r):0<=r*d/\r*d<=18446744065119617025:=by have b:=cg.1 (EI h).2.2.2.2.2;rw[cg]at a;refine⟨og a.1 b.1,?_⟩;exact Int.le_trans (wH (show r<=4294967295 by omega) b.1) O
def SMn(a:v[((x.1:Nat):Int).toNat]?=some U)(b:x.2.2.2[o+((x.1:Nat):Int).toNat]?=some r):
 sZ Z o n v d (x.1+1) (IntKind.u32.wrap (U*d/4294967296+(U*d%4294967296+x.2.1+0)/4294967296)) (if r<(U*d%4294967296+x.2.1+0)%4294967296+x.2.2.1 then 1 else 0) (x.2.2.2.set (o+((x.1:Nat):Int).toNat) ((r-(U*d%4294967296+x.2.1+0)%4294967296-x.2.2.1)%4294967296)):=by
 have l:=yG h hx;have f:=amz h hx ((EI h).2.2.2.2.1.at a);have i:=cg.1 l.2.2.1;rw[bI]at a b⊢;have c:IntKind.u32.wrap (U*d/4294967296+(U*d%4294967296+x.2.1+0)/4294967296)=(U*d+x.2.1)/4294967296:=by generalize U*d=p at*;rw[IntKind.wrap_u32];omega
 have e:(U*d%4294967296+x.2.1+0)%4294967296=(U*d+x.2.1)%4294967296:=by generalize U*d=p at*;omega
 rw[c,e];exact amy h hx.1 b a
def WM(f:decide (((x.1:Nat):Int)<(v.length:Int))=false)(c:x.2.2.2[o+((v.length:Nat):Int).toNat]?=some r):
 x.2.2.2.set (o+((v.length:Nat):Int).toNat) ((r-x.2.1-x.2.2.1)%4294967296)=qq Z o n v d/\((if r<x.2.1+x.2.2.1 then(1:Int)else 0) !=0)=sH Z o n v d:=by
 have l:=yG h hx;simp only[bj]at f;have e:x.1=v.length:=O;rw[bI]at c⊢;have a:=hx.1;rw[e]at a;have k:=amx h a c;refine⟨k.1,?_⟩;rw[<-k.2];split
 ·rename_i b;rw[qP b];rfl
 ·rename_i b;rw[s_ b];rfl
end
section
variable {Z:ao}{o n:Nat}{v:ao}(h:rF Z o n v)
include h
def UR:=(rF.eq_1 ..).to_iff.1 h
variable {x:Nat×Int×List Int}(hx:sM Z o n v x.1 x.2.1 x.2.2∧True)
include hx
theorem D3:x.1<=v.length/\x.2.2.length=Z.length/\0<=x.2.1/\x.2.1<=1/\Dg x.2.2:=by have X:=hx.1;unfold sM at X;exact⟨X.1,X.2.1.1,X.2.2.2.1,X.2.2.2.2.1,X.2.2.1⟩
def ABn(a:v[((x.1:Nat):Int).toNat]?=some U)(b:x.2.2[o+((x.1:Nat):Int).toNat]?=some r):
 sM Z o n v (x.1+1) ((r+U+x.2.1)/4294967296) (x.2.2.set (o+((x.1:Nat):Int).toNat) ((r+U+x.2.1)%4294967296)):=by
 rw[bI]at a b⊢;exact ajN h hx.1 b a
def ABe(c:decide (((x.1:Nat):Int)<(v.length:Int))=false)(b:x.2.2[o+((v.length:Nat):Int).toNat]?=some r):
 x.2.2.set (o+((v.length:Nat):Int).toNat) (IntKind.u32.wrap (r+x.2.1))=xa Z o n v:=by
 have l:=D3 h hx;simp only[bj]at c;have e:x.1=v.length:=O;rw[bI]at b⊢;have a:=hx.1;rw[e]at a;rw[IntKind.wrap_u32];exact ajM h a b
end
def aFy(Z:ao)(o n:Nat)(v:ao)(d:Int)(h:rX Z o n v d):cN prog 263 (bJ (bP [(0,aV.aU (U:=S) W.u32 Z)])) ([.c (.sub 0 (U:=S) W.u32 o n),lE .u32 v,uE d].map SE.den) (bJ (bP [(0,aV.aU (U:=S) W.u32 (qq Z o n v d))])) (·∈[0]) (bT (sH Z o n v d)).den:=by
 refine vO func263 rfl ⟨[CD,ZO,OQ],[]⟩ [(3,⟨Nat×Int×Int×List Int,λw=>⟨[(0,.e (.c (.sub 0 (U:=S) W.u32 o n))),(1,lT .u32 v),(2,uT d),(7,uT w.2.1),(8,uT w.2.2.1),(15,lT .u32 v),(16,iT v.length),(17,iT w.1)],[(0,.aU (U:=S) W.u32 w.2.2.2)],1⟩,λx=>sZ Z o n v d x.1 x.2.1 x.2.2.1 x.2.2.2/\True,λw=>v.length-w.1⟩)] [0] ⟨[(6,bT (sH Z o n v d))],[(0,.aU (U:=S) W.u32 (qq Z o n v d))],1⟩ ?_;repeat' first|intro _|apply aP|refine aX (0,0,0,Z) (aP ?_ λ(x:Nat×Int×Int×List Int)(hx:sZ Z o n v d x.1 x.2.1 x.2.2.1 x.2.2.2/\True)=>?_)|refine aX (x.1+1,?_,?_,?_) ?_
 all_goals first| (with_reducible first|show Int|show List Int|show Nat)|exact aZ|with_reducible rfl|omega| (with_reducible first|exact(yG h hx).2.2.1|exact(EI h).2.2.2.2.2)|exact(EI h).2.2.2.2.1.at I|exact(yG h hx).2.2.2.2.2.at I| (with_reducible first|exact(yG h hx).2.2.2.1|exact(yG h hx).2.2.2.2.1|exact amw h)|exact SMn h hx I I|exact(WM h hx I I).1|exact(WM h hx I I).2|have l:=yG h hx;have u:=EI h;simp only[be,bj]at*;omega|have k:=cg.1 (yG h hx).2.2.1;rw[cg];omega
def ani(Z:ao)(o n:Nat)(v:ao)(h:rF Z o n v):cN prog 264 (bJ (bP [(0,aV.aU (U:=S) W.u32 Z)])) ([.c (.sub 0 (U:=S) W.u32 o n),lE .u32 v].map SE.den) (bJ (bP [(0,aV.aU (U:=S) W.u32 (xa Z o n v))])) (·∈[0]) (ST.cn (U:=S) []).den:=by
 refine vO func264 rfl ⟨[CD],[]⟩ [(2,⟨Nat×Int×List Int,λw=>⟨[(0,.e (.c (.sub 0 (U:=S) W.u32 o n))),(1,lT .u32 v),(4,uT w.2.1),(7,lT .u32 v),(8,iT v.length),(9,iT w.1)],[(0,.aU (U:=S) W.u32 w.2.2)],1⟩,λx=>sM Z o n v x.1 x.2.1 x.2.2/\True,λw=>v.length-w.1⟩)] [0] ⟨[],[(0,.aU (U:=S) W.u32 (xa Z o n v))],1⟩ ?_;repeat' first|intro _|apply aP|refine aX (0,0,Z) (aP ?_ λ(x:Nat×Int×List Int)(hx:sM Z o n v x.1 x.2.1 x.2.2/\True)=>?_)|refine aX (x.1+1,?_,?_) ?_
 all_goals first| (with_reducible first|show Int|show List Int|show Nat)|exact aZ|with_reducible rfl|omega|exact(UR h).2.2.2.2.at I|exact(D3 h hx).2.2.2.2.at I| (with_reducible first|exact(D3 h hx).2.2.1|exact(D3 h hx).2.2.2.1|exact ajL h)|exact ABn h hx I I|exact ABe h hx I I|have l:=D3 h hx;have u:=UR h;simp only[be,bj]at*;omega
def ag_(H:List (Nat×aV S))(args:zS0)(K:f_ S->Prop):Prop:=
 match H,args with
 |[(0,.aU W.u32 Z)],[.c (.sub 0 W.u32 o n),.c (.d (.bf W.u32 v)),.c (.d (.sc (.int .u32 d)))]=>rX Z o n v d/\K ⟨bT (sH Z o n v d),[(0,.aU (U:=S) W.u32 (qq Z o n v d))],[],[0]⟩
 |_,_=>False
def aAI:fk prog S where
 f:=263
 fX:=auj
 run:=ag_
 ok H args K h:=by
  unfold ag_ at h;split at h
  ·rename_i Z o n v d;obtain⟨e,c⟩:=h;refine⟨_,?_,λu a b=>?_,c⟩
   ·exact(aFy Z o n v d e).fK λu a=>by have:u<1:=a.1;simp;omega
   ·have:u<1:=a;simp at b;omega
  ·cases h
def agz(H:List (Nat×aV S))(args:zS0)(K:f_ S->Prop):Prop:=
 match H,args with
 |[(0,.aU W.u32 Z)],[.c (.sub 0 W.u32 o n),.c (.d (.bf W.u32 v))]=>rF Z o n v/\K ⟨.cn [],[(0,.aU (U:=S) W.u32 (xa Z o n v))],[],[0]⟩
 |_,_=>False
def aAl:fk prog S where
 f:=264
 fX:=auk
 run:=agz
 ok H args K h:=by
  unfold agz at h;split at h
  ·rename_i Z o n v;obtain⟨e,c⟩:=h;refine⟨_,?_,λu a b=>?_,c⟩
   ·exact(ani Z o n v e).fK λu a=>by have:u<1:=a.1;simp;omega
   ·have:u<1:=a;simp at b;omega
  ·cases h
def bL(x:Int):Nat:=Go.Lib.bitLen x.toNat
def l8:List UInt8:=[0,1]++List.replicate 2 2++List.replicate 4 3++List.replicate 8 4++List.replicate 16 5++List.replicate 32 6++List.replicate 64 7++List.replicate 128 8
def axb:∀n:Fin 256,(l8.getD n.val 0).toNat=Go.Lib.bitLen n.val:=by decide+kernel
theorem t8{s:aA}(Y:s.data.toList=l8){y:Int}(a:0<=y)(b:y<256):IntKind.i64.wrap ((s.data.toList.getD (IntKind.u8.wrap y).toNat 0).toNat:Int)=(bL y:Int)/\bL y<=8:=by
 have e:IntKind.u8.wrap y=y:=by rw[IntKind.wrap_u8];omega
 have k:(l8.getD y.toNat 0).toNat=Go.Lib.bitLen y.toNat:=axb ⟨y.toNat,O⟩;have k2:Go.Lib.bitLen y.toNat<=8:=Go.Lib.bitLen_le8 ⟨y.toNat,O⟩;rw[Y,e];unfold bL;rw[k,IntKind.wrap_i64];refine⟨O,k2⟩
theorem Mi{s:aA}(Y:s.data.toList=l8)(a:0<=d)(b:d<256):0<=IntKind.u8.wrap d/\IntKind.u8.wrap d<(s.size:Int):=by
 have e:s.size=256:=by show s.data.size=256;rw[<-BL,Y];kernel_rfl
 rw[e,IntKind.wrap_u8];omega
def aaV{x:Int}(h:bY x):x.fdiv (2^min (Int.toNat 16) IntKind.u32.bits)=x/65536:=by rw[cg]at h;show x.fdiv 65536=_;rw[yj _ O]
def fd8(x:Int):x.fdiv (2^min (Int.toNat 8) IntKind.u32.bits)=x/256:=by show x.fdiv 256=_;rw[yj _ O]
def X2{x:Int}(h:bY x)(a:65536<=x):bL x=16+bL (x/65536):=by rw[cg]at h;unfold bL;have e:(x/65536).toNat=x.toNat/65536:=O;rw[e];exact Go.Lib.bitLen_shift16 _ O O
def X3{x:Int}(h:bY x)(a:256<=x):bL x=8+bL (x/256):=by rw[cg]at h;unfold bL;have e:(x/256).toNat=x.toNat/256:=O;rw[e];exact Go.Lib.bitLen_shift8 _ O O
def apN:∀x:Nat,x<2^64->x<2^Go.Lib.bitLen x:=by
 intro x
 induction x using Nat.strongRecOn with
 |_ x b=>
  intro h;by_cases a:x=0
  ·subst a;exact H6 _
  ·rw[Go.Lib.bitLen_half x a h,Eu];have:=b (x/2) O O;omega
def X4{x:Int}(h:bY x)(b:0<x):1<=bL x/\bL x<=32/\x<2^bL x:=by
 rw[cg]at h;have a:=Go.Lib.bitLen_le x.toNat 32 ae O;have c:=apN x.toNat O;have d:=Go.Lib.bitLen_half x.toNat O O;refine⟨by unfold bL;omega,a,?_⟩;unfold bL;have e:((2^Go.Lib.bitLen x.toNat:Nat):Int)=(2:Int)^Go.Lib.bitLen x.toNat:=by rw[HK];rfl
 rw[<-e];omega
section
variable {s:aA}(Y:s.data.toList=l8){x:Int}(h:bY x)
include Y h
theorem Kg(b:decide (65536<=x)=true)(a:decide (256<=x.fdiv (2^min (Int.toNat 16) IntKind.u32.bits))=true):
 (16+8+IntKind.i64.wrap ((s.data.toList.getD (IntKind.u8.wrap ((x.fdiv (2^min (Int.toNat 16) IntKind.u32.bits)).fdiv (2^min (Int.toNat 8) IntKind.u32.bits))).toNat 0).toNat:Int)=(bL x:Int)/\bL x<=32)/\0<=IntKind.u8.wrap ((x.fdiv (2^min (Int.toNat 16) IntKind.u32.bits)).fdiv (2^min (Int.toNat 8) IntKind.u32.bits))/\IntKind.u8.wrap ((x.fdiv (2^min (Int.toNat 16) IntKind.u32.bits)).fdiv (2^min (Int.toNat 8) IntKind.u32.bits))<(s.size:Int):=by
 rw[aaV h]at a⊢;rw[fd8];have b:=eD b;have a:=eD a;have d:=cg.1 h;have c:bY (x/65536):=cg.2 ⟨O,O⟩;have k:=t8 Y (y:=x/65536/256) O O;have f:=X2 h b;have e:=X3 c a;exact⟨O,Mi Y O O⟩
theorem Kh(b:decide (65536<=x)=true)(a:decide (256<=x.fdiv (2^min (Int.toNat 16) IntKind.u32.bits))=false):
 (16+IntKind.i64.wrap ((s.data.toList.getD (IntKind.u8.wrap (x.fdiv (2^min (Int.toNat 16) IntKind.u32.bits))).toNat 0).toNat:Int)=(bL x:Int)/\bL x<=32)/\0<=IntKind.u8.wrap (x.fdiv (2^min (Int.toNat 16) IntKind.u32.bits))/\IntKind.u8.wrap (x.fdiv (2^min (Int.toNat 16) IntKind.u32.bits))<(s.size:Int):=by
 rw[aaV h]at a⊢;have b:=eD b;have a:=fg a;have c:=cg.1 h;have k:=t8 Y (y:=x/65536) O O;have d:=X2 h b;exact⟨O,Mi Y O O⟩
theorem Ki(b:decide (65536<=x)=false)(a:decide (256<=x)=true):
 (0+8+IntKind.i64.wrap ((s.data.toList.getD (IntKind.u8.wrap (x.fdiv (2^min (Int.toNat 8) IntKind.u32.bits))).toNat 0).toNat:Int)=(bL x:Int)/\bL x<=32)/\0<=IntKind.u8.wrap (x.fdiv (2^min (Int.toNat 8) IntKind.u32.bits))/\IntKind.u8.wrap (x.fdiv (2^min (Int.toNat 8) IntKind.u32.bits))<(s.size:Int):=by
 rw[fd8];have b:=fg b;have a:=eD a;have c:=cg.1 h;have k:=t8 Y (y:=x/256) O O;have d:=X3 h a;exact⟨O,Mi Y O O⟩
theorem Kj(b:decide (65536<=x)=false)(a:decide (256<=x)=false):
 (0+IntKind.i64.wrap ((s.data.toList.getD (IntKind.u8.wrap x).toNat 0).toNat:Int)=(bL x:Int)/\bL x<=32)/\0<=IntKind.u8.wrap x/\IntKind.u8.wrap x<(s.size:Int):=by
 have b:=fg b;have a:=fg a;have c:=cg.1 h;have k:=t8 Y (y:=x) O O;exact⟨O,Mi Y O O⟩
end
def EY{x:Int}(h:bY x):bL x<=32:=by rw[cg]at h;exact Go.Lib.bitLen_le x.toNat 32 ae O
def axm(x:Int)(h:bY x):bh 282 [wI .u32 x] (iT (bL x)):=by
 refine vF func282 rfl [] [] ?_;repeat' first|intro _|apply aP
 all_goals first|exact aZ|omega|rw[IntKind.wrap_u8];omega|exact(Kg af h I I).1.1|exact(Kg af h I I).2.2|rw[(Kg af h I I).1.1];omega|rw[(Kg af h I I).1.1];have k:=EY h;omega|exact(Kh af h I I).1.1|exact(Kh af h I I).2.2|rw[(Kh af h I I).1.1];omega|rw[(Kh af h I I).1.1];have k:=EY h;omega|exact(Ki af h I I).1.1|exact(Ki af h I I).2.2|rw[(Ki af h I I).1.1];omega|rw[(Ki af h I I).1.1];have k:=EY h;omega|exact(Kj af h I I).1.1|exact(Kj af h I I).2.2|rw[(Kj af h I I).1.1];omega|rw[(Kj af h I I).1.1];have k:=EY h;omega
def asm:=dR (.int .u32) axm
def axj(x:Int)(h:bY x):bh 261 [wI .u32 x] (iT (32-bL x)):=by
 refine vF func261 rfl [asm] [] ?_;repeat' first|intro _|apply aP
 all_goals first|exact aZ|with_reducible rfl|omega|have k:=EY h;omega
def asj:=dR (.int .u32) axj
def wu{n:Nat}(h:n<=31):Pw (2^n)/\(2:Int)^n<=2147483648/\0<(2:Int)^n:=by
 have e:(2:Int)^n=((2^n:Nat):Int):=by rw[HK];rfl
 have d:(2:Nat)^n<=2^31:=B_ O h;have c:(2:Nat)^(32-n)*2^n=2^32:=by rw[<-Eu];congr 1;omega
 have f:(2:Nat)^1<=2^(32-n):=B_ O O;have i:=H6 n;refine⟨?_,by rw[e];omega,by rw[e];omega⟩;unfold Pw;refine⟨((2^(32-n):Nat):Int),by rw[e];omega,O,?_,O⟩;have b:((2^(32-n)*2^n:Nat):Int)=((2^32:Nat):Int):=by rw[c]
 rw[Int.natCast_mul]at b;rw[e,iB];exact b
@[irreducible] def rW(a:ao)(n:Int):=Dg a/\a.length<=1099511627776/\0<=n/\n<=31
section
variable {a:ao}{n:Int}(h:rW a n)
include h
def qH:=(rW.eq_1 ..).to_iff.1 h
def Cg:uc (aR a) (2^n.toNat):=by have u:=qH h;unfold uc;exact⟨u.1.eW,(wu O).1,eZ (mw a) u.2.1⟩
def WL:((min (max n 0) 16777216).tdiv 32)=0/\(min (max n 0) 16777216)=n/\IntKind.u64.wrap ((min (max n 0) 16777216).tmod 32)=n:=by have u:=qH h;have e:min (max n 0) 16777216=n:=O;rw[e,Ed u.2.2.1,wJ u.2.2.1,IntKind.wrap_u64];omega
def NI:((max n 0).tdiv 32)=0/\IntKind.u64.wrap ((max n 0).tmod 32)=n:=by have u:=qH h;have e:max n 0=n:=O;rw[e,Ed u.2.2.1,wJ u.2.2.1,IntKind.wrap_u64];omega
def shW{x:Int}(hx:bY x):IntKind.u64.wrap (IntKind.u64.wrap x*2^min n.toNat IntKind.u64.bits)=x*2^n.toNat/\0<=x*2^n.toNat/\x*2^n.toNat<9223372036854775808:=by have u:=qH h;have t:=wu (n:=n.toNat) O;rw[cg]at hx;have e:min n.toNat IntKind.u64.bits=n.toNat:=ju (by show n.toNat<=64;omega);have b:0<=x*2^n.toNat:=og hx.1 O;have c:x*2^n.toNat<=4294967295*2147483648:=Int.mul_le_mul O t.2.1 O O;rw[BI (cg.2 hx),e,IntKind.wrap_u64];omega
end
section
variable {a:ao}{n:Int}(h:rW a n){x:Nat×List Int}(hx:qw (aR a) (2^n.toNat) x.1 x.2∧True)
include h hx
theorem M6:x.1<=(aR a).length/\x.2.length=(aR a).length+1/\Dg x.2:=by have Z:=hx.1;unfold qw at Z;exact⟨Z.1,Z.2.1,Z.2.2.1⟩
def ak1{y:Int}(f:(aR a)[((x.1:Nat):Int).toNat]?=some y)(i:x.2[0+((x.1:Nat):Int).toNat]?=some d):
 qw (aR a) (2^n.toNat) (x.1+1) ((x.2.set (0+((x.1:Nat):Int).toNat) (IntKind.u32.wrap (((BitVec.ofInt IntKind.u32.bits d) ||| (BitVec.ofInt IntKind.u32.bits (IntKind.u32.wrap (IntKind.u64.wrap (IntKind.u64.wrap y*2^min n.toNat IntKind.u64.bits))))).toNat:Int))).set (0+(((x.1:Nat):Int)+1).toNat) (IntKind.u32.wrap ((IntKind.u64.wrap (IntKind.u64.wrap y*2^min n.toNat IntKind.u64.bits)).fdiv (2^min (Int.toNat 32) IntKind.u64.bits)))):=by
 have q:=Cg h;have u:=qH h;have r:0+(((x.1:Nat):Int)+1).toNat=x.1+1:=O;rw[bI]at f;rw[bI,oo]at i⊢;rw[r];have e:bY y:=u.1.eW.at f;obtain⟨v,z⟩:=Vt hx.1 i;have w:=shW h e;rw[w.1];have b:=akZ q hx.1 f i;obtain⟨lo,hi,l,m,C,D,o,E,G,A⟩:=afv (wu (n:=n.toNat) O).1 e;have B:IntKind.u32.wrap (y*2^n.toNat)=lo:=by rw[IntKind.wrap_u32,l]
 have j:(y*2^n.toNat).fdiv (2^min (Int.toNat 32) IntKind.u64.bits)=hi:=by show(y*2^n.toNat).fdiv 4294967296=hi;rw[yj _ O,m]
 have t2:=(wu (n:=n.toNat) O).2;have c:=cg.1 v;have k:IntKind.u32.wrap hi=hi:=by rw[IntKind.wrap_u32];omega
 have p:(2:Int)^n.toNat=((2^n.toNat:Nat):Int):=by rw[HK];rfl
 rw[B,j,k,aBb c.1 c.2 o O,RO (s:=n.toNat) c.1 (by rw[<-p];exact z) o (by rw[<-p];exact A)];rw[l,m]at b;exact b
def ak0(b:decide (((x.1:Nat):Int)<((aR a).length:Int))=false):aR x.2=cM (nV a*2^n.toNat).toNat:=by have l:=M6 h hx;simp only[bj]at b;have e:x.1=(aR a).length:=O;have Z:=hx.1;rw[e]at Z;have k:=akY Z;rw[tc k.2,k.1,gZ]
end
def aED{a:ao}{n:Nat}(b:Dg a)(h:(((aR a).length:Int)==0)=true):[]=cM (nV a*2^n).toNat:=by rw[<-ai5 h,Ee];exact uC.symm
def aEC(a:ao)(n:Int)(h:rW a n):bh 197 [wL .u32 a,wI .i64 n] (lT .u32 (cM (nV a*2^n.toNat).toNat)):=by
 refine vF func197 rfl [uB] [(9,⟨Nat×List Int,λv=>⟨[(6,.e (.c (.d (.sc (.int .u64 n))))),(7,.e (.c (.aW 0 (U:=S) W.u32 ((aR a).length+1)))),(8,.e (.c (.sub 0 (U:=S) W.u32 0 ((aR a).length+1)))),(34,lT .u32 (aR a)),(35,iT (aR a).length),(36,iT v.1)],[(0,.aU (U:=S) W.u32 v.2)],1⟩,λx=>qw (aR a) (2^n.toNat) x.1 x.2/\True,λv=>(aR a).length-v.1⟩)] ?_;repeat' first|intro _|apply aP|refine aX (0,?_) (aP ?_ λ(x:Nat×List Int) (hx:qw (aR a) (2^n.toNat) x.1 x.2/\True)=>?_)|refine aX (x.1+1,?_) ?_
 all_goals first
  | (with_reducible first|show Int|show List Int|show Nat)
  |exact aZ
  |with_reducible rfl
  |omega
  |with_reducible exact(aED (qH h).1 I).symm
  |rw[oV];have l:=M6 h hx;simp only[be]at*;omega
  |(have u:=qH h;have q:=WL h;have l:=mw a;first|omega|rw[q.1];omega|show 4*_<=_;rw[q.1];omega)
  |exact ak1 h hx I I
  |exact ak0 h hx I
  |have l:=M6 h hx;simp only[be]at*;omega
  |(rw[(WL h).1];have e:(0+((aR a).length:Int)+1).toNat=(aR a).length+1:=by omega
    rw[e];first|rfl|exact akX (Cg h))
def asI:=eO (.ls W.u32) (.int .i64) aEC
section
variable {a:ao}{n:Int}(h:rW a n){x:Nat×List Int}(hx:rG (aR a) (2^n.toNat) x.1 x.2∧True)
include h hx
theorem Vv:x.1<=(aR a).length/\x.2.length=(aR a).length/\Dg x.2:=by have Z:=hx.1;unfold rG at Z;exact⟨Z.1,Z.2.1,Z.2.2.1⟩
theorem HRv{t:Int}(c:bY d)(b:bY t):IntKind.u32.wrap ((IntKind.u64.wrap (((BitVec.ofInt IntKind.u64.bits (IntKind.u64.wrap d)) ||| (BitVec.ofInt IntKind.u64.bits (IntKind.u64.wrap (IntKind.u64.wrap t*2^min (Int.toNat 32) IntKind.u64.bits)))).toNat:Int)).fdiv (2^min n.toNat IntKind.u64.bits))=(d+4294967296*t)/2^n.toNat%4294967296:=by have u:=qH h;have f:=cg.1 c;have i:=cg.1 b;have e:min n.toNat IntKind.u64.bits=n.toNat:=ju (by show n.toNat<=64;omega);have p:=(wu (n:=n.toNat) O).2.2;have:=RO (t:=d) (lo:=t*4294967296) (s:=32) O (by show d<4294967296;omega) O ⟨t,by show t*4294967296=4294967296*t;omega⟩;rw[BI c,BI b,ah2 b,aeK O O O O,this,e,yj _ O,IntKind.wrap_u32,iB t]
theorem ak8(b:bY d):IntKind.u32.wrap ((IntKind.u64.wrap d).fdiv (2^min n.toNat IntKind.u64.bits))=(d+4294967296*0)/2^n.toNat%4294967296:=by have u:=qH h;have e:min n.toNat IntKind.u64.bits=n.toNat:=ju (by show n.toNat<=64;omega);have p:=(wu (n:=n.toNat) O).2.2;rw[BI b,e,yj _ O,IntKind.wrap_u32,z_,yi]
def ak6(b:(aR a)[((x.1:Nat):Int).toNat]?=some d)(c:(aR a)[(((x.1:Nat):Int)+1).toNat]?=some r):
 rG (aR a) (2^n.toNat) (x.1+1) (x.2.set ((x.1:Nat):Int).toNat (IntKind.u32.wrap ((IntKind.u64.wrap (((BitVec.ofInt IntKind.u64.bits (IntKind.u64.wrap d)) ||| (BitVec.ofInt IntKind.u64.bits (IntKind.u64.wrap (IntKind.u64.wrap r*2^min (Int.toNat 32) IntKind.u64.bits)))).toNat:Int)).fdiv (2^min n.toNat IntKind.u64.bits)))):=by
 have u:=qH h;have e:(((x.1:Nat):Int)+1).toNat=x.1+1:=O;rw[e]at c;rw[bI]at b⊢;rw[HRv h hx (u.1.eW.at b) (u.1.eW.at c)];exact Vu (Cg h) hx.1 b (by rw[c];rfl)
def ak5(b:(aR a)[((x.1:Nat):Int).toNat]?=some d)(c:decide (((x.1:Nat):Int)+1<((aR a).length:Int))=false):
 rG (aR a) (2^n.toNat) (x.1+1) (x.2.set ((x.1:Nat):Int).toNat (IntKind.u32.wrap ((IntKind.u64.wrap d).fdiv (2^min n.toNat IntKind.u64.bits)))):=by
 have u:=qH h;simp only[bj]at c;rw[bI]at b⊢;rw[ak8 h hx (u.1.eW.at b)];refine Vu (Cg h) hx.1 b ?_;rw[gp O];rfl
def ak4(b:decide (((x.1:Nat):Int)<((aR a).length:Int))=false):aR x.2=cM (nV a/2^n.toNat).toNat:=by have l:=Vv h hx;simp only[bj]at b;have e:x.1=(aR a).length:=O;have Z:=hx.1;rw[e]at Z;have k:=ak3 (Cg h) Z;rw[tc k.2,k.1,gZ]
end
def aEG{a:ao}{n:Int}(h:rW a n)(b:decide (((aR a).length:Int)<=(max n 0).tdiv 32)=true):[]=cM (nV a/2^n.toNat).toNat:=by rw[(NI h).1]at b;have b:=eD b;have:nV a=0:=adK (fc O) (qH h).1;rw[this,Int.zero_ediv];exact uC.symm
def ato{a:ao}{n:Int}(h:rW a n):(aR a).drop ((max n 0).tdiv 32).toNat=aR a:=by rw[(NI h).1];rfl
def aEF(a:ao)(n:Int)(h:rW a n):bh 265 [wL .u32 a,wI .i64 n] (lT .u32 (cM (nV a/2^n.toNat).toNat)):=by
 refine vF func265 rfl [uB] [(9,⟨Nat×List Int,λv=>⟨[(6,.e (.c (.d (.sc (.int .u64 n))))),(7,lT .u32 (aR a)),(8,.e (.c (.aW 0 (U:=S) W.u32 ((aR a).length)))),(31,lT .u32 (aR a)),(32,iT (aR a).length),(33,iT v.1)],[(0,.aU (U:=S) W.u32 v.2)],1⟩,λx=>rG (aR a) (2^n.toNat) x.1 x.2/\True,λv=>(aR a).length-v.1⟩)] ?_;repeat' first|intro _|apply aP|refine aX (0,?_) (aP ?_ λ(x:Nat×List Int) (hx:rG (aR a) (2^n.toNat) x.1 x.2/\True)=>?_)|refine aX (x.1+1,?_) ?_
 all_goals(try rw[ato h])
 all_goals first| (with_reducible first|show Int|show List Int|show Nat)|exact aZ|with_reducible rfl|omega|with_reducible exact(aEG h I).symm|(have u:=qH h;have q:=NI h;have l:=mw a;first|omega|rw[q.1];omega|show 4*_<=_;rw[q.1];omega)|have u:=qH h;have l:=mw a;show 4*_<=_;omega|exact ak6 h hx I I|exact ak5 h hx I I|exact ak4 h hx I|have l:=Vv h hx;simp only[be]at*;omega|simp only[bI];exact ak2 (Cg h)
def asK:=eO (.ls W.u32) (.int .i64) aEF
@[irreducible] def wz(a b:ao):=Dg a/\Dg b/\a.length<=1073741824/\b.length<=1073741824/\0<nV b
@[irreducible] def gn(b:ao):Int:=32-bL (((aR b)[(aR b).length-1]?).getD 0)
def vD(b:ao):List Int:=cM (nV (aR b)*2^(gn b).toNat).toNat
def aD(a b:ao):Int:=nV a*2^(gn b).toNat
def lD(a:ao):Nat:=(aR a).length+1
section
variable {a b:ao}(h:wz a b)
include h
def ua:=(wz.eq_1 ..).to_iff.1 h
def U5(h0:decide (ij a (aR b)<0)=true):[]=cM (nV a/nV b).toNat/\aR a=cM (nV a%nV b).toNat:=by
 have u:=ua h;have h0:=eD h0;rw[Av u.1 u.2.1.eW,gZ]at h0;have d:=gf u.1;have c:nV a<nV b:=by
  split at h0
  ·assumption
  ·split at h0<;>omega
 rw[Int.ediv_eq_zero_of_lt d c,HI d c];exact⟨uC.symm,tc u.1⟩
def zY(h0:decide (ij a (aR b)<0)=false):nV b<=nV a/\0<(aR b).length/\(aR b).length<=(aR a).length:=by
 have u:=ua h;have h0:=fg h0;rw[Av u.1 u.2.1.eW,gZ]at h0;have f:nV b<=nV a:=by
  refine Aa.1 λc=>?_
  rw[aK c]at h0;omega
 have d:0<(aR b).length:=by
  refine H4 λe=>?_
  have:=adK (fc e) u.2.1;omega
 refine⟨f,d,Nat.not_lt.1 λc=>?_⟩;have k1:=Gs u.2.1.eW (sx b) d;have k2:=(gS u.1.eW).2;have i:=wc (show(aR a).length<=(aR b).length-1 by omega);rw[gZ]at k1 k2;omega
def yd(c:(((aR b).length:Int)==1)=true)(f:(aR b)[(0:Int).toNat]?=some d):d=nV b/\mX a d:=by
 have u:=ua h;have c:((aR b).length:Int)=1:=an c;have e:d=nV b:=by
  rw[<-gZ]
  match i:aR b,c with
  |[y],_=>rw[i]at f;have:d=y:=an f.symm;subst this;simp only[nV];omega
 refine⟨e,?_⟩;unfold mX;exact⟨u.1,u.2.1.eW.at f,O,O⟩
def MX(h0:0<(aR b).length){t:Int}(c:(aR b)[(((aR b).length:Int)-1).toNat]?=some t):bY t/\0<t/\gn b=32-bL t/\0<=gn b/\gn b<=31:=by
 have u:=ua h;have e:(((aR b).length:Int)-1).toNat=(aR b).length-1:=O;rw[e]at c;have d:=u.2.1.eW.at c;have f:0<t:=by
  have k:=sx b;unfold kj at k;rw[pS,c]at k;have:t≠0:=λe=>k (by rw[e])
  rw[cg]at d;omega
 have i:gn b=32-bL t:=by unfold gn;rw[c];rfl
 have j:=X4 d f;exact⟨d,f,i,O,O⟩
end
def aGG(b:ao):cM (nV (aR b)*2^(gn b).toNat).toNat=vD b:=rfl
section
variable {a b:ao}(h:wz a b)(h0:decide (ij a (aR b)<0)=false)
include h h0
def U6:∃t,(aR b)[(aR b).length-1]?=some t/\bY t/\0<t/\gn b=32-bL t/\0<=gn b/\gn b<=31:=by have g:=(zY h h0).2.1;have e:(((aR b).length:Int)-1).toNat=(aR b).length-1:=O;refine⟨(aR b)[(aR b).length-1]' O,ca _,?_⟩;exact MX h g (by rw[e];exact ca _)
def BR:0<=gn b/\gn b<=31/\rW (aR b) (gn b)/\rW a (gn b):=by
 have u:=ua h;obtain⟨t,_,_,_,_,d,c⟩:=U6 h h0;have l:=mw b;refine⟨d,c,?_,?_⟩<;>unfold rW
 ·exact⟨u.2.1.eW,O,d,c⟩
 ·exact⟨u.1,O,d,c⟩
def MY:nV (vD b)=nV b*2^(gn b).toNat/\Dg (vD b)/\(vD b).length=(aR b).length/\kj (vD b):=by
 have u:=ua h;have g:=(zY h h0).2.1;obtain⟨t,j,i,f,C,z,y⟩:=U6 h h0;have w:=wu (n:=(gn b).toNat) O;have B:=X4 i f;have p:0<=nV (aR b)*2^(gn b).toNat:=og (gf u.2.1.eW) O;have k:=lR (nV (aR b)*2^(gn b).toNat).toNat;have ev:nV (vD b)=nV b*2^(gn b).toNat:=by show nV (cM _)=_;rw[k.2.1,<-gZ b];omega
 refine⟨ev,k.1,?_,k.2.2⟩;have D:nV b=nV ((aR b).take ((aR b).length-1))+t*pB ((aR b).length-1):=by have:=wm j;rw[show(aR b).length-1+1=(aR b).length by omega,i_,gZ]at this;exact this
 have s:=gS (u.2.1.eW.take ((aR b).length-1));rw[ez,ju O]at s;have e:=kn ((aR b).length-1);have q:pB (aR b).length=4294967296*pB ((aR b).length-1):=by rw[<-ko,show(aR b).length-1+1=(aR b).length by omega]
 have d:(t+1)*2^(gn b).toNat<=4294967296:=by
  have r:(2:Int)^bL t*2^(gn b).toNat=4294967296:=by rw[<-Int.pow_add,show bL t+(gn b).toNat=32 by omega];rfl
  rw[<-r];exact wH O O
 have m:nV b*2^(gn b).toNat<pB (aR b).length:=by
  have a1:nV b<(t+1)*pB ((aR b).length-1):=by rw[jR,Int.one_mul];omega
  have a2:nV b*2^(gn b).toNat<(t+1)*pB ((aR b).length-1)*2^(gn b).toNat:=VL a1 w.2.2;have K:(t+1)*pB ((aR b).length-1)*2^(gn b).toNat=(t+1)*2^(gn b).toNat*pB ((aR b).length-1):=B1 ..;have H:(t+1)*2^(gn b).toNat*pB ((aR b).length-1)<=4294967296*pB ((aR b).length-1):=wH d (ud e);omega
 have o:pB ((aR b).length-1)<=nV b*2^(gn b).toNat:=by
  have a1:pB ((aR b).length-1)<=nV b:=by have:1*pB ((aR b).length-1)<=t*pB ((aR b).length-1):=wH O (ud e);omega
  have a2:nV b*1<=nV b*2^(gn b).toNat:=qx O O;omega
 have G:(vD b).length<=(aR b).length:=qR (by rw[gZ];omega);have E:(aR b).length-1<(vD b).length:=by
  refine Nat.not_le.1 λc=>?_
  have:=(gS (l:=vD b) k.1).2;have:=wc c;omega
 omega
def D6(c:(((aR b).length:Int)==1)=false):2<=(vD b).length/\(vD b).length<lD a/\lD a<=1073741825:=by have c:((aR b).length:Int)≠1:=an c;have g:=zY h h0;have v:=MY h h0;have u:=ua h;have l:=mw a;unfold lD;omega
def U4:0<=aD a b/\aD a b<pB (lD a)/\(cM (aD a b).toNat).length<=lD a:=by
 have u:=ua h;have s:=BR h h0;have w:=wu (n:=(gn b).toNat) O;have f:=(gS u.1.eW).2;rw[gZ]at f;have c:=gf u.1;have e:0<=aD a b:=og c O;have d:aD a b<pB (lD a):=by have a1:aD a b<=nV a*4294967296:=qx O c;have a2:pB (lD a)=4294967296*pB (aR a).length:=ko _;omega
 exact⟨e,d,qR O⟩
def vf(d:(((aR b).length:Int)==1)=false):sP (aD a b) (lD a) (vD b):=by
 have u:=ua h;have L:=D6 h h0 d;have v:=MY h h0;have A:=U4 h h0;have g:=zY h h0;have s:=BR h h0;have w:=wu (n:=(gn b).toNat) O;unfold sP;refine⟨(vD b).length-2,O,v.2.1,?_,O,O,A.1,A.2.1,?_⟩
 ·have e:(vD b).length-2+1=(vD b).length-1:=by omega
  rw[e];have k:=v.2.2.2;unfold kj at k;rw[pS]at k;have c:=qQ v.2.1 ((vD b).length-1);rw[cg]at c;rw[ca O]at k c⊢;rw[ie]at c⊢;have:(vD b)[(vD b).length-1]≠0:=λe=>k (by rw[e])
  omega
 ·rw[v.1];have f:=(gS u.1.eW).2;rw[gZ]at f;have k1:=Gs u.2.1.eW (sx b) g.2.1;rw[gZ]at k1;have j:pB (aR a).length=pB (lD a-(vD b).length)*pB ((aR b).length-1):=by rw[<-zp];congr 1;unfold lD;omega
  have a1:pB (lD a-(vD b).length)*pB ((aR b).length-1)<=pB (lD a-(vD b).length)*nV b:=qx k1 (ud (kn _));have a2:nV a<pB (lD a-(vD b).length)*nV b:=O;have i:=VL a2 w.2.2;show nV a*2^(gn b).toNat<_;rw[<-kA];exact i
def aj7(c:(((aR b).length:Int)==1)=false):lZ (aD a b) (lD a) (vD b) (lD a-(vD b).length)
 (List.take (List.replicate ((((aR a).length:Nat):Int)+1).toNat (0:Int)).length (cM (nV a*2^(gn b).toNat).toNat)++List.drop (cM (nV a*2^(gn b).toNat).toNat).length (List.replicate ((((aR a).length:Nat):Int)+1).toNat 0))
 (List.replicate (((((((aR a).length:Nat):Int)+1).toNat:Nat):Int)-((vD b).length:Int)).toNat 0):=by
 have A:=U4 h h0;have L:=D6 h h0 c;have e:((((aR a).length:Nat):Int)+1).toNat=lD a:=by unfold lD;omega
 have d:(((lD a:Nat):Int)-((vD b).length:Int)).toNat=lD a-(vD b).length:=O;have A2:(cM (nV a*2^(gn b).toNat).toNat).length<=lD a:=A.2.2;rw[e,d,na,List.drop_replicate,eQ A2];exact akk (vf h h0 c)
end
section
variable {A:Int}{L:Nat}{v:ao}(h:sP A L v){x:Nat×List Int×List Int}(g:lZ A L v x.1 x.2.1 x.2.2∧True)(hi:decide (0≤(x.1:Int)-1)=true)
include h g
theorem Vg:x.1<=L-v.length/\x.2.1.length=L/\x.2.2.length=L-v.length/\Dg x.2.1/\Dg x.2.2:=by have k:=g.1;unfold lZ at k;exact⟨k.1,k.2.1,k.2.2.1,k.2.2.2.1,k.2.2.2.2.1⟩
include hi
theorem BS:((x.1:Int)-1).toNat=x.1-1/\lZ A L v (x.1-1+1) x.2.1 x.2.2/\1<=x.1:=by simp only[be]at hi;refine⟨O,?_,O⟩;rw[show x.1-1+1=x.1 by omega];exact g.1
def BT:1<=x.1/\x.1+v.length<=L/\x.2.1.length=L/\x.2.2.length=L-v.length/\L<=1099511627776/\2<=v.length/\x.1<=L-v.length:=by obtain⟨e,k,i⟩:=BS h g hi;have l:=zZ h k;omega
def M0:((x.1:Int)-1+(v.length:Int)+1).toNat-((x.1:Int)-1).toNat=v.length+1:=by have l:=BT h g hi;omega
def D8{u2 u1 u0 v1 v2:Int}(a2:x.2.1[((x.1:Int)-1).toNat+((v.length:Nat):Int).toNat]?=some u2)(a1:x.2.1[((x.1:Int)-1).toNat+(((v.length:Nat):Int)-1).toNat]?=some u1)(a0:x.2.1[((x.1:Int)-1).toNat+(((v.length:Nat):Int)-2).toNat]?=some u0)
 (b1:v[(((v.length:Nat):Int)-1).toNat]?=some v1)(b2:v[(((v.length:Nat):Int)-2).toNat]?=some v2):
 EP u2 u1 u0 v1 v2/\nV (dL x.2.1 (x.1-1) (v.length+1))/nV v<=kg u2 u1 u0 v1 v2/\kg u2 u1 u0 v1 v2<=nV (dL x.2.1 (x.1-1) (v.length+1))/nV v+1:=by
 have l:=BT h g hi;obtain⟨e,k,i⟩:=BS h g hi;obtain⟨n,c⟩:∃n,v.length=n+2:=⟨v.length-2,O⟩;have E:=DVe h k c;rw[e]at a2 a1 a0;rw[show x.1-1+((v.length:Nat):Int).toNat=x.1-1+(n+2)by omega]at a2;rw[show x.1-1+(((v.length:Nat):Int)-1).toNat=x.1-1+(n+1)by omega]at a1;rw[show x.1-1+(((v.length:Nat):Int)-2).toNat=x.1-1+n by omega]at a0;rw[show(((v.length:Nat):Int)-1).toNat=n+1 by omega]at b1;rw[show(((v.length:Nat):Int)-2).toNat=n by omega]at b2;rw[a2,a1,a0,b1,b2]at E;exact E
def akr(c:bY d):rX x.2.1 ((x.1:Int)-1).toNat (((x.1:Int)-1+(v.length:Int)+1).toNat-((x.1:Int)-1).toNat) v d:=by have l:=BT h g hi;obtain⟨e,k,i⟩:=BS h g hi;have k2:=zZ h k;rw[M0 h g hi,e];unfold rX;exact⟨rfl,O,O,k2.2.2.2.2.1,k2.2.2.2.2.2.2.1,c⟩
def D9(c:(x.2.2.set ((x.1:Int)-1).toNat d)[((x.1:Int)-1).toNat]?=some r):r=d:=by have l:=BT h g hi;rw[Nj O]at c;injection c with c;exact c.symm
def Ve:0<=nV (dL x.2.1 (x.1-1) (v.length+1))/\nV (dL x.2.1 (x.1-1) (v.length+1))<pB (v.length+1)/\0<nV v/\nV v<pB (v.length+1):=by obtain⟨e,k,i⟩:=BS h g hi;have k2:=zZ h k;have b1:=gS (Bj (o:=x.1-1) (n:=v.length+1) k2.2.2.2.2.1);rw[Bk k2.2.2.2.1]at b1;have b2:=(gS k2.2.2.2.2.2.2.1).2;have d:=ko v.length;have c:=kn v.length;exact⟨b1.1,b1.2,HD h,O⟩
def akn(j:bY d)(m:nV (dL x.2.1 (x.1-1) (v.length+1))/nV v<=d)(c:sH x.2.1 ((x.1:Int)-1).toNat (((x.1:Int)-1+(v.length:Int)+1).toNat-((x.1:Int)-1).toNat) v d=false):
 lZ A L v (x.1-1) (qq x.2.1 ((x.1:Int)-1).toNat (((x.1:Int)-1+(v.length:Int)+1).toNat-((x.1:Int)-1).toNat) v d) (x.2.2.set ((x.1:Int)-1).toNat d):=by
 have b:=Ve h g hi;obtain⟨e,k,i⟩:=BS h g hi;rw[M0 h g hi,e]at c⊢;unfold sH at c;simp only[bj]at c;have f:d*nV v<=nV (dL x.2.1 (x.1-1) (v.length+1)):=O;have l:d=nV (dL x.2.1 (x.1-1) (v.length+1))/nV v:=by have:=(HJ b.2.2.1).2 f;omega
 have N:=Vb h k j l;have n:=og (cg.1 j).1 (ud b.2.2.1);unfold qq;rw[HI O O];exact N
def Vd(s:bY d)(H:d<=nV (dL x.2.1 (x.1-1) (v.length+1))/nV v+1)(c:sH x.2.1 ((x.1:Int)-1).toNat (((x.1:Int)-1+(v.length:Int)+1).toNat-((x.1:Int)-1).toNat) v d=true):
 rF (qq x.2.1 ((x.1:Int)-1).toNat (((x.1:Int)-1+(v.length:Int)+1).toNat-((x.1:Int)-1).toNat) v d) ((x.1:Int)-1).toNat (((x.1:Int)-1+(v.length:Int)+1).toNat-((x.1:Int)-1).toNat) v/\
 lZ A L v (x.1-1) (xa (qq x.2.1 ((x.1:Int)-1).toNat (((x.1:Int)-1+(v.length:Int)+1).toNat-((x.1:Int)-1).toNat) v d) ((x.1:Int)-1).toNat (((x.1:Int)-1+(v.length:Int)+1).toNat-((x.1:Int)-1).toNat) v) ((x.2.2.set ((x.1:Int)-1).toNat d).set ((x.1:Int)-1).toNat (IntKind.u32.wrap (d-1))):=by
 have b:=Ve h g hi;have l:=BT h g hi;obtain⟨e,k,i⟩:=BS h g hi;have k2:=zZ h k;rw[M0 h g hi,e]at c⊢;unfold sH at c;simp only[be]at c;have t:=cg.1 s;have u:0<d:=by
  refine Int.lt_of_not_ge λw=>?_
  have:d=0:=O;subst this;omega
 have n:d-1=nV (dL x.2.1 (x.1-1) (v.length+1))/nV v:=by have:=(BZ b.2.2.1).2 c;omega
 have j:bY (d-1):=cg.2 ⟨O,O⟩;have y:IntKind.u32.wrap (d-1)=d-1:=by rw[IntKind.wrap_u32];omega
 have z:=Ea (nV (dL x.2.1 (x.1-1) (v.length+1))) (nV v);have B:=rI (nV (dL x.2.1 (x.1-1) (v.length+1))) (qy b.2.2.1);have C:=sR (nV (dL x.2.1 (x.1-1) (v.length+1))) b.2.2.1;rw[<-n,iB,rJ,Int.one_mul]at z;have N:=Vb h k j n;have f:(kE ((nV (dL x.2.1 (x.1-1) (v.length+1))-d*nV v)%pB (v.length+1)).toNat (v.length+1)).length=v.length+1:=by have p:=kn (v.length+1);have q:=rI (nV (dL x.2.1 (x.1-1) (v.length+1))-d*nV v) (qy p);have r:=sR (nV (dL x.2.1 (x.1-1) (v.length+1))-d*nV v) p;exact CN O
 refine⟨?_,?_⟩
 ·unfold rF qq;exact⟨rfl,by rw[Tf k2.2.2.2.1 f];exact k2.2.2.2.1,by rw[Tf k2.2.2.2.1 f];omega,ahA k2.2.2.2.2.1 (CL _ _),k2.2.2.2.2.2.2.1⟩
 ·rw[y,List.set_set];have D:xa (qq x.2.1 (x.1-1) (v.length+1) v d) (x.1-1) (v.length+1) v=n9 x.2.1 (x.1-1) (v.length+1) (kE (nV (dL x.2.1 (x.1-1) (v.length+1))-(d-1)*nV v).toNat (v.length+1)):=by
   unfold xa qq;rw[ahC k2.2.2.2.1 f,CO];have q:(nV (dL x.2.1 (x.1-1) (v.length+1))-d*nV v)%pB (v.length+1)=nV (dL x.2.1 (x.1-1) (v.length+1))-d*nV v+1*pB (v.length+1):=KK (kn _) O O;have E:(((nV (dL x.2.1 (x.1-1) (v.length+1))-d*nV v)%pB (v.length+1)).toNat:Int)=nV (dL x.2.1 (x.1-1) (v.length+1))-d*nV v+1*pB (v.length+1):=by rw[q];omega
   have r:(nV (dL x.2.1 (x.1-1) (v.length+1))-d*nV v+1*pB (v.length+1)+nV v)%pB (v.length+1)=nV (dL x.2.1 (x.1-1) (v.length+1))-d*nV v+1*pB (v.length+1)+nV v+(-1)*pB (v.length+1):=KK (kn _) O O;rw[E,r];have G:nV (dL x.2.1 (x.1-1) (v.length+1))-d*nV v+1*pB (v.length+1)+nV v+(-1)*pB (v.length+1)=nV (dL x.2.1 (x.1-1) (v.length+1))-(d-1)*nV v:=by rw[rJ];omega
   rw[G];have m:=ahD (Z:=x.2.1) (o:=x.1-1) k2.2.2.2.1 f;unfold n9 at m⊢;rw[m.2.1,m.2.2]
  rw[D];exact N
end
section
variable {A:Int}{L:Nat}{v:ao}(h:sP A L v){x:Nat×List Int×List Int}(g:lZ A L v x.1 x.2.1 x.2.2∧True)(hi:decide (0≤(x.1:Int)-1)=true){u2 u1 u0 v1 v2:Int}(a2:x.2.1[((x.1:Int)-1).toNat+((v.length:Nat):Int).toNat]?=some u2)(a1:x.2.1[((x.1:Int)-1).toNat+(((v.length:Nat):Int)-1).toNat]?=some u1)(a0:x.2.1[((x.1:Int)-1).toNat+(((v.length:Nat):Int)-2).toNat]?=some u0)
 (b1:v[(((v.length:Nat):Int)-1).toNat]?=some v1)(b2:v[(((v.length:Nat):Int)-2).toNat]?=some v2){y1:Int}(hy1:(x.2.2.set ((x.1:Int)-1).toNat (kg u2 u1 u0 v1 v2))[((x.1:Int)-1).toNat]?=some y1)
include h g hi a2 a1 a0 b1 b2 hy1
theorem aks:rX x.2.1 ((x.1:Int)-1).toNat (((x.1:Int)-1+(v.length:Int)+1).toNat-((x.1:Int)-1).toNat) v y1:=by rw[D9 h g hi hy1];exact akr h g hi (FC (D8 h g hi a2 a1 a0 b1 b2).1)
theorem ako(c:(!sH x.2.1 ((x.1:Int)-1).toNat (((x.1:Int)-1+(v.length:Int)+1).toNat-((x.1:Int)-1).toNat) v y1)=true):
 lZ A L v (x.1-1) (qq x.2.1 ((x.1:Int)-1).toNat (((x.1:Int)-1+(v.length:Int)+1).toNat-((x.1:Int)-1).toNat) v y1) (x.2.2.set ((x.1:Int)-1).toNat (kg u2 u1 u0 v1 v2)):=by
 have e:=D9 h g hi hy1;rw[e]at c⊢;have E:=D8 h g hi a2 a1 a0 b1 b2;rw[zX]at c;exact akn h g hi (FC E.1) E.2.1 c
theorem akp(c:(!sH x.2.1 ((x.1:Int)-1).toNat (((x.1:Int)-1+(v.length:Int)+1).toNat-((x.1:Int)-1).toNat) v y1)=false):
 rF (qq x.2.1 ((x.1:Int)-1).toNat (((x.1:Int)-1+(v.length:Int)+1).toNat-((x.1:Int)-1).toNat) v y1) ((x.1:Int)-1).toNat (((x.1:Int)-1+(v.length:Int)+1).toNat-((x.1:Int)-1).toNat) v:=by
 have e:=D9 h g hi hy1;rw[e]at c⊢;have E:=D8 h g hi a2 a1 a0 b1 b2;rw[Bool.not_eq_false']at c;exact(Vd h g hi (FC E.1) E.2.2 c).1
theorem akq(c:(!sH x.2.1 ((x.1:Int)-1).toNat (((x.1:Int)-1+(v.length:Int)+1).toNat-((x.1:Int)-1).toNat) v y1)=false)(f:(x.2.2.set ((x.1:Int)-1).toNat (kg u2 u1 u0 v1 v2))[((x.1:Int)-1).toNat]?=some d):
 lZ A L v (x.1-1) (xa (qq x.2.1 ((x.1:Int)-1).toNat (((x.1:Int)-1+(v.length:Int)+1).toNat-((x.1:Int)-1).toNat) v y1) ((x.1:Int)-1).toNat (((x.1:Int)-1+(v.length:Int)+1).toNat-((x.1:Int)-1).toNat) v) ((x.2.2.set ((x.1:Int)-1).toNat (kg u2 u1 u0 v1 v2)).set ((x.1:Int)-1).toNat (IntKind.u32.wrap (d-1))):=by
 have e:=D9 h g hi hy1;have i:=D9 h g hi f;rw[e]at c⊢;rw[i];have E:=D8 h g hi a2 a1 a0 b1 b2;rw[Bool.not_eq_false']at c;exact(Vd h g hi (FC E.1) E.2.2 c).2
end
def Vf{a b:ao}(h:wz a b)(h0:decide (ij a (aR b)<0)=false)(f:(((aR b).length:Int)==1)=false){x:Nat×List Int×List Int}(g:lZ (aD a b) (lD a) (vD b) x.1 x.2.1 x.2.2/\True)(hi:decide (0<=(x.1:Int)-1)=false):
 aR x.2.2=cM (nV a/nV b).toNat/\cM (nV x.2.1/2^(gn b).toNat).toNat=cM (nV a%nV b).toNat:=by
 simp only[bj]at hi;have n:=Vg (vf h h0 f) g;have i:x.1=0:=O;have k:=g.1;rw[i]at k;obtain⟨c,d⟩:=akl (vf h h0 f) k;have s:=BR h h0;have w:=wu (n:=(gn b).toNat) O;have v:=(MY h h0).1;rw[v]at c d;have j:aD a b=nV a*2^(gn b).toNat:=rfl;rw[j]at c d;rw[Int.mul_ediv_mul_of_pos_left _ _ w.2.2]at c;have e:nV x.2.1=nV a%nV b*2^(gn b).toNat:=by rw[d,iB (nV a),iB (nV b),VK _ _ w.2.2,iB]
 refine⟨by rw[tc n.2.2.2.2,c],?_⟩;rw[e,Int.mul_ediv_cancel _ (qy w.2.2)]
def MZ{a:ao}{b:Int}(h:mX a d)(e:d=b):0<=IntKind.u64.wrap (nV a%d)/\IntKind.u64.wrap (nV a%d)<=18446744073709551615/\cM (IntKind.u64.wrap (nV a%d)).toNat=cM (nV a%b).toNat:=by
 have u:=ye h;have i:=cg.1 u.2.1;have c:=rI (nV a) (qy u.2.2.1);have j:=sR (nV a) u.2.2.1;have f:IntKind.u64.wrap (nV a%d)=nV a%d:=by rw[IntKind.wrap_u64];omega
 rw[f,e];subst e;exact⟨c,O,rfl⟩
def atm(a b:ao)(h:wz a b):bh 212 [wL .u32 a,wL .u32 b] (tT [lE .u32 (cM (nV a/nV b).toNat),lE .u32 (cM (nV a%nV b).toNat)]):=by
 refine vG func212 rfl ⟨[Jl,Jg,Jn,ar6,asj,asI,asK,ar7],[aAI,aAl]⟩ [(14,⟨Nat×List Int×List Int,λv=>⟨[(4,.e (.c (.aW 1 (U:=S) W.u32 (lD a-(vD b).length)))),(9,iT (gn b)),(10,lT .u32 (vD b)),(11,iT (vD b).length),(12,.e (.c (.aW 0 (U:=S) W.u32 (lD a)))),(13,iT ((v.1:Int)-1))],[(0,.aU (U:=S) W.u32 v.2.1),(1,.aU (U:=S) W.u32 v.2.2)],2⟩,λx=>lZ (aD a b) (lD a) (vD b) x.1 x.2.1 x.2.2/\True,λv=>v.1⟩)] ?_;repeat' first|intro _|apply aP|refine aX (lD a-(vD b).length,?_,?_) (aP ?_ λ(x:Nat×List Int×List Int) (d:lZ (aD a b) (lD a) (vD b) x.1 x.2.1 x.2.2/\True)=>?_)|refine aX (x.1-1,?_,?_) ?_
 all_goals(try rw[<-(MX h (zY h I).2.1 ‹(aR b)[(((aR b).length:Int)-1).toNat]?=some _›).2.2.1])
 all_goals(try simp only[aGG])
 all_goals first| (with_reducible first|show Int|show List Int|show Nat)|exact aZ|with_reducible rfl|omega|((with_reducible show(_&&_)=true);kernel_rfl)| (with_reducible first|exact(U5 h I).1.symm|exact(U5 h I).2)|show Sm _;unfold Sm;have u:=ua h;omega|exact(yd h I I).2|have k:=(yd h I I).1;with_reducible rw[k];done| (with_reducible first|exact(MZ (yd h I I).2 (yd h I I).1).1|exact(MZ (yd h I I).2 (yd h I I).1).2.1|exact(MZ (yd h I I).2 (yd h I I).1).2.2)|(have k:=zY h I;have u:=ua h;have l:=mw a;first|omega|show 0<_;omega|show 4*_<=_;omega)|exact(MX h (zY h I).2.1 I).1|exact(BR h I).2.2.1|exact(BR h I).2.2.2|rw[na];done|(have L:=D6 h I I;have f:lD a=(aR a).length+1:=rfl;first|omega|show 4*_<=_;omega)|exact aj7 h I I|(have l:=BT (vf h I I) d I;first|omega|rw[oV];omega|have L:=D6 h I I;omega)|exact(D8 (vf h I I) d I I I I I I).1|exact aks (vf h I I) d I I I I I I I|exact ako (vf h I I) d I I I I I I I I|exact akp (vf h I I) d I I I I I I I I|exact akq (vf h I I) d I I I I I I I I I|(have L:=Vg (vf h I I) d;have i:=D6 h I I;first|omega|show Sm _;unfold Sm;omega|show rW _ _;have s:=BR h I;unfold rW;exact⟨L.2.2.2.1,O,s.1,s.2.1⟩)|exact(Vf h I I d I).1|exact(Vf h I I d I).2
def Zx:=eO (.ls W.u32) (.ls W.u32) atm
def iE2(n:Int):SE S:=.c (.d (.sc (.int .i64 n)))
def y5(x:bk):SE S:=.agg ((cQ .cR x).map .d)
def awq{x:bk}(h:Dg x.aF):(gu ⟨x.neg,x.aF⟩==0)=decide (iV x=0):=by
 have e:gu ⟨x.neg,x.aF⟩=if iV x<0 then-1 else if 0<iV x then 1 else 0:=qp h;rw[e,sO,jw,be];split
 ·omega
 ·split<;>omega
def awj(x:bk)(h:Dg x.aF):bh 214 [wE .cR x] (bT (decide (iV x=0))):=by
 refine vF func214 rfl [AB] [] ?_;repeat' first|intro _|apply aP
 all_goals first|exact aZ|exact awq h
def ZD:=dR (.el W.cR) awj
@[irreducible] def QP(x y:bk):=Dg x.aF/\Dg y.aF/\x.aF.length<=1073741824/\y.aF.length<=1073741824/\iV y≠0
section
variable {x y:bk}(h:QP x y)
include h
def Am:=(QP.eq_1 ..).to_iff.1 h
def Ij:0<nV y.aF:=by have u:=Am h;have n:=gf u.2.1;have k:=u.2.2.2.2;unfold iV at k;split at k<;>omega
def QPd:wz x.aF y.aF:=by have u:=Am h;unfold wz;exact⟨u.1,u.2.1,u.2.2.1,u.2.2.2.1,Ij h⟩
def amh:iL (!(x.neg==y.neg)) (cM (nV x.aF/nV y.aF).toNat)=iD ((iV x).tdiv (iV y)):=by have u:=Am h;have p:=Ij h;have n:=gf u.1;have d:0<=nV x.aF/nV y.aF:=z8 n (ud p);have k:=lR (nV x.aF/nV y.aF).toNat;have e:=zC (b:=(!(x.neg==y.neg))) k.1;rw[CP,k.2.1]at e;rw[e];congr 1;have c:((nV x.aF/nV y.aF).toNat:Int)=nV x.aF/nV y.aF:=O;rw[c];have a:=Ed n (b:=nV y.aF);unfold iV;cases x.neg<;>cases y.neg<;>simp[Int.neg_tdiv,Int.tdiv_neg,a]
def amj:iL x.neg (cM (nV x.aF%nV y.aF).toNat)=iD ((iV x).tmod (iV y)):=by have u:=Am h;have p:=Ij h;have n:=gf u.1;have d:0<=nV x.aF%nV y.aF:=rI _ (qy p);have k:=lR (nV x.aF%nV y.aF).toNat;have e:=zC (b:=x.neg) k.1;rw[CP,k.2.1]at e;rw[e];congr 1;have c:((nV x.aF%nV y.aF).toNat:Int)=nV x.aF%nV y.aF:=O;rw[c];have a:=wJ n (b:=nV y.aF);unfold iV;cases x.neg<;>cases y.neg<;>simp[Int.neg_tmod,Int.tmod_neg,a]
def WI:(cM (nV x.aF/nV y.aF).toNat).length<=1073741824/\(cM (nV x.aF%nV y.aF).toNat).length<=1073741824:=by have u:=Am h;have p:=Ij h;have n:=gf u.1;have f:=(gS u.1).2;have e:=(gS u.2.1).2;have d:0<=nV x.aF/nV y.aF:=z8 n (ud p);have c:nV x.aF/nV y.aF<=nV x.aF:=Int.ediv_le_self _ n;have b:0<=nV x.aF%nV y.aF:=rI _ (qy p);have a:=sR (nV x.aF) p;refine⟨eZ (qR (k:=x.aF.length) O) u.2.2.1,eZ (qR (k:=y.aF.length) O) u.2.2.2.1⟩
def aml:Sm (cM (nV x.aF/nV y.aF).toNat):=by unfold Sm;have:=(WI h).1;omega
def amm:Sm (cM (nV x.aF%nV y.aF).toNat):=by unfold Sm;have:=(WI h).2;omega
def ami:(iL (!(x.neg==y.neg)) (aR (cM (nV x.aF/nV y.aF).toNat)))=iD ((iV x).tdiv (iV y)):=by rw[CP];exact amh h
def amk:(iL x.neg (aR (cM (nV x.aF%nV y.aF).toNat)))=iD ((iV x).tmod (iV y)):=by rw[CP];exact amj h
end
def QPz{x y:bk}(h:QP x y)(a:decide (iV y=0)=true):False:=(Am h).2.2.2.2 (eD a)
def aCy(x y:bk)(h:QP x y):bh 168 [wE .cR x,wE .cR y] (tT [y5 (iD ((iV x).tdiv (iV y))),y5 (iD ((iV x).tmod (iV y))),iE2 0]):=by
 refine vF func168 rfl [ZD,Zx,Ji] [] ?_;repeat' first|intro _|apply aP
 all_goals first|exact aZ|with_reducible rfl|((with_reducible show(_&&_)=true);kernel_rfl)|exact(Am h).2.1 _ I|exfalso;exact QPz h I| (with_reducible first|exact QPd h|exact aml h|exact amm h)|rw[ami h]|rw[amk h]
def ZG:=eO (.el W.cR) (.el W.cR) aCy
@[irreducible] def GP(x y:bk):=Dg x.aF/\Dg y.aF/\x.aF.length<=1073741824/\y.aF.length<=1073741824
@[irreducible] def GG(x y:bk)(a b:ao):=Dg a/\Dg b/\kj a/\kj b/\a.length<=1073741824/\b.length<=1073741824/\Int.gcd (nV a) (nV b)=Int.gcd (iV x) (iV y)
@[irreducible] def GH(x y:bk)(m n:Int):=0<=m/\m<=18446744073709551615/\0<=n/\n<=18446744073709551615/\Int.gcd m n=Int.gcd (iV x) (iV y)
def M5{x y:bk}(h:GP x y):=(GP.eq_1 ..).to_iff.1 h
def yh{x y:bk}{a b:ao}(h:GG x y a b):=(GG.eq_1 ..).to_iff.1 h
def HF{x y:bk}{m n:Int}(h:GH x y m n):=(GH.eq_1 ..).to_iff.1 h
def abE{b:Int}(c:0<=d)(f:0<=b):Int.gcd b (d%b)=Int.gcd d b:=by
 obtain⟨d,rfl⟩:=wG c;obtain⟨b,rfl⟩:=wG f;show Nat.gcd b (((d:Int)%(b:Int)).natAbs)=Nat.gcd d b;have e:((d:Int)%(b:Int)).natAbs=d%b:=by rw[<-Int.natCast_emod];rfl
 rw[e,Nat.gcd_comm b,<-Nat.gcd_rec,Nat.gcd_comm]
def avO{x y:bk}(a:Dg x.aF)(b:Dg y.aF):Int.gcd (nV x.aF) (nV y.aF)=Int.gcd (iV x) (iV y):=by unfold iV;cases x.neg<;>cases y.neg<;>simp[Int.gcd_neg,Int.neg_gcd]
def akN{x y:bk}(h:GP x y):GG x y (aR x.aF) (aR y.aF):=by have u:=M5 h;have a:=mw x.aF;have b:=mw y.aF;unfold GG;exact⟨u.1.eW,u.2.1.eW,sx _,sx _,O,O,by rw[gZ,gZ];exact avO u.1 u.2.1⟩
section
variable {x y:bk}{v:List Int×List Int}(g:GG x y v.1 v.2∧True)
include g
def Vp(a:((v.2.length:Int)==0)=false):0<nV v.2:=by have u:=yh g.1;have n:=gf u.2.1;have a:(v.2.length:Int)≠0:=an a;have k:=Gs u.2.1 u.2.2.2.1 O;have:=kn (v.2.length-1);omega
def akO(a:((v.2.length:Int)==0)=false):wz v.1 v.2:=by have u:=yh g.1;unfold wz;exact⟨u.1,u.2.1,u.2.2.2.2.1,u.2.2.2.2.2.1,Vp g a⟩
def Vo(a:((v.2.length:Int)==0)=false):GG x y v.2 (cM (nV v.1%nV v.2).toNat)/\(nV (cM (nV v.1%nV v.2).toNat)).toNat<(nV v.2).toNat:=by have u:=yh g.1;have p:=Vp g a;have c:0<=nV v.1%nV v.2:=rI _ (qy p);have b:=sR (nV v.1) p;have k:=lR (nV v.1%nV v.2).toNat;have e:((nV v.1%nV v.2).toNat:Int)=nV v.1%nV v.2:=O;have d:=(gS u.2.1).2;refine⟨?_,by rw[k.2.1];omega⟩;unfold GG;refine⟨u.2.1,k.1,u.2.2.2.1,k.2.2,u.2.2.2.2.2.1,eZ (qR (k:=v.2.length) O) u.2.2.2.2.2.1,?_⟩;rw[k.2.1,e,<-u.2.2.2.2.2.2];exact abE (gf u.1) (gf u.2.1)
def akP(a:((v.2.length:Int)==0)=true):iL false (aR v.1)=iD (Int.gcd (iV x) (iV y)):=by have u:=yh g.1;have a:(v.2.length:Int)=0:=an a;have e:v.2=[]:=fc O;have k:=u.2.2.2.2.2.2;rw[e]at k;have n:=gf u.1;rw[zC u.1,<-k];show iD (nV v.1)=iD ((Int.gcd (nV v.1) 0:Nat):Int);congr 1;rw[Int.gcd_zero_right];omega
def M3(b:decide (2<(v.1.length:Int))=false)(a:decide (2<(v.2.length:Int))=false):v.1.length<=2/\v.2.length<=2/\GH x y (nV v.1) (nV v.2):=by have u:=yh g.1;simp only[bj]at b a;have d:=gS u.1;have c:=gS u.2.1;have i:=wc (show v.1.length<=2 by omega);have f:=wc (show v.2.length<=2 by omega);have e:pB 2=18446744073709551616:=ae;refine⟨O,O,?_⟩;unfold GH;exact⟨d.1,O,c.1,O,u.2.2.2.2.2.2⟩
end
section
variable {x y:bk}{w:Int×Int}(g:GH x y w.1 w.2∧True)
include g
def M4(a:(w.2 !=0)=true):GH x y w.2 (w.1.tmod w.2)/\(w.1.tmod w.2).toNat<w.2.toNat/\w.2≠0:=by have u:=HF g.1;have a:w.2≠0:=an a;rw[wJ u.1];have b:=rI w.1 a;have c:=sR w.1 (show 0<w.2 by omega);refine⟨?_,O,a⟩;unfold GH;refine⟨u.2.2.1,u.2.2.2.1,b,O,?_⟩;rw[<-u.2.2.2.2];exact abE u.1 u.2.2.1
def akR(a:(w.2 !=0)=false):iL false (aR (cM w.1.toNat))=iD (Int.gcd (iV x) (iV y)):=by have u:=HF g.1;have a:w.2=0:=an a;have k:=u.2.2.2.2;rw[a,Int.gcd_zero_right]at k;have d:=lR w.1.toNat;rw[zC d.1,d.2.1,<-k];show iD _=iD _;congr 1;show((w.1.toNat:Nat):Int)=_;omega
def akQ:Sm (cM w.1.toNat):=by have u:=HF g.1;have e:pB 2=18446744073709551616:=ae;have:=qR (n:=w.1.toNat) (k:=2) O;unfold Sm;omega
end
def avN(x y:bk)(h:GP x y):bh 167 [wE .cR x,wE .cR y] (eT .cR (iD (Int.gcd (iV x) (iV y)))):=by
 refine vF func167 rfl [Jl,Zx,Ji,asT,Jn] [(2,⟨List Int×List Int,λv=>⟨[(4,bQ 2),(5,lT .u32 v.1),(6,lT .u32 v.2)],[(2,.cells [.d (.b8 false),.d (.bf (U:=S) W.u32 [])])],3⟩,λv=>GG x y v.1 v.2/\True,λv=>(nV v.2).toNat⟩),(9,⟨Int×Int,λv=>⟨[(4,bQ 2),(9,.e (.c (.d (.sc (.int .u64 v.1))))),(11,.e (.c (.d (.sc (.int .u64 v.2)))))],[(2,.cells [.d (.b8 false),.d (.bf (U:=S) W.u32 [])])],3⟩,λv=>GH x y v.1 v.2/\True,λv=>v.2.toNat⟩)] ?_;repeat' first|intro _|apply aP|refine @aX (List Int×List Int) _ (?_,?_) (aP ?_ λ(v:List Int×List Int)(a:GG x y v.1 v.2/\True)=>?_)|refine @aX (Int×Int) _ (?_,?_) (aP ?_ λ(w:Int×Int)(b:GH x y w.1 w.2/\True)=>?_)|refine @aX (List Int×List Int) _ (?_,?_) ?_ |refine @aX (Int×Int) _ (?_,?_) ?_
 all_goals first| (with_reducible first|show Int|show List Int|show Nat)|exact aZ|with_reducible rfl|((with_reducible show(_&&_)=true);kernel_rfl)|show Sm _;unfold Sm;have u:=M5 h;omega| (with_reducible first|exact akN h|exact akO a I|exact(Vo a I).1)|exact(Vo a I).2|show Sm _;unfold Sm;have u:=yh a.1;omega|rw[akP a I]|exact(M3 a I I).2.2|have u:=HF b.1;omega|exact(M4 b I).1|exact(M4 b I).2.1|rw[akR b I]|with_reducible exact akQ b|exact(yh a.1).1 _ I|exact(yh a.1).2.1 _ I|exact(M3 a I I).1|exact(M3 a I I).2.1|exact(M4 b I).2.2 I
def ZA:=eO (.el W.cR) (.el W.cR) avN
def rN(x:cd):Int:=if nV x.den=0 then 0 else iV ⟨x.neg,x.num⟩
def rD(x:cd):Int:=if nV x.den=0 then 1 else nV x.den
def rQ(x:cd):Rat:=(rN x:Rat)/(rD x:Rat)
def fo(q:Rat):cd:=⟨(iD q.num).neg,(iD q.num).aF,cM q.den⟩
def atk(h:0<d):((n:Rat)/(d:Rat)).num=n.tdiv (Int.gcd n d)/\(((n:Rat)/(d:Rat)).den:Int)=d.tdiv (Int.gcd n d):=by
 obtain⟨k,rfl⟩:=wG (ud h);have hk:k≠0:=O;have e:(n:Rat)/((k:Int):Rat)=Rat.normalize n k hk:=by rw[Rat.normalize_eq_mkRat,Rat.mkRat_eq_div];rfl
 rw[e,Rat.normalize_eq];have a:Int.gcd n (k:Int)=n.natAbs.gcd k:=rfl;constructor
 ·show n/_=_;rw[a,Int.tdiv_eq_ediv_of_dvd];exact Na.1 (by simpa using Ns n.natAbs k)
 ·show((k/n.natAbs.gcd k:Nat):Int)=_;rw[a,Ed O];rfl
def zw(h:Dg x.den):0<rD x:=by
 unfold rD;split
 ·decide
 ·have:=gf h;omega
def aAR(q:Rat):Dg (fo q).num/\Dg (fo q).den:=⟨fA _,(lR _).1⟩
def aAU(q:Rat):rN (fo q)=q.num:=by have h:nV (fo q).den=q.den:=(lR _).2.1;have a:=q.den_nz;unfold rN;rw[g (by rw[h];omega)];exact il q.num
def aAT(q:Rat):rD (fo q)=q.den:=by have h:nV (fo q).den=q.den:=(lR _).2.1;have a:=q.den_nz;unfold rD;rw[g (by rw[h];omega)];exact h
def GN(q:Rat):rQ (fo q)=q:=by unfold rQ;rw[aAU,aAT];have:=Rat.mkRat_self q;rw[Rat.mkRat_eq_div]at this;exact this
def anE{b:cd}(c:Dg x.den)(d:Dg b.den):((rN x*rD b+rN b*rD x:Int):Rat)/((rD x*rD b:Int):Rat)=rQ x+rQ b:=by
 have e:=zw c;have f:=zw d;unfold rQ;have h:(rD x:Rat)≠0:=by simpa using qy e
 have i:(rD b:Rat)≠0:=by simpa using qy f
 simp only[Rat.intCast_add,NH];grind
def ayD{b:cd}:((rN x*rN b:Int):Rat)/((rD x*rD b:Int):Rat)=rQ x*rQ b:=by unfold rQ;simp only[NH,Rat.div_def,Rat.inv_mul_rev];grind
def aCC{a:cd}(j:Dg a.den):(0<rQ a↔0<rN a)/\(rQ a<0↔rN a<0)/\(rQ a=0↔rN a=0):=by
 have i:(0:Rat)<(rD a:Rat):=by have:=zw j;exact_mod_cast this
 have e:rQ a*(rD a:Rat)=(rN a:Rat):=by unfold rQ;grind
 have f:0<rQ a->0<(rN a:Rat):=λh=>by rw[<-e];exact fx h i
 have d:rQ a<0->(rN a:Rat)<0:=λh=>by have:=fx (a:=-rQ a) (b:=(rD a:Rat)) ah i;grind
 have c:rQ a=0->(rN a:Rat)=0:=λh=>by rw[<-e,h];grind
 have l:∀{n:Int},(0:Rat)<(n:Rat)↔0<n:=λ{n}=>by exact_mod_cast Iff.rfl
 have k:∀{n:Int},(n:Rat)<0↔n<0:=λ{n}=>by exact_mod_cast Iff.rfl
 have c3:∀{n:Int},(n:Rat)=0↔n=0:=λ{n}=>by exact_mod_cast Iff.rfl
 rw[l]at f;rw[k]at d;rw[c3]at c;have kN:0<rQ a\/rQ a<0\/rQ a=0:=ah;refine⟨⟨f,λh=>?_⟩,⟨d,λh=>?_⟩,⟨c,λh=>?_⟩⟩
 ·rcases kN with t|t|t
  ·exact t
  ·have:=d t;omega
  ·have:=c t;omega
 ·rcases kN with t|t|t
  ·have:=f t;omega
  ·exact t
  ·have:=c t;omega
 ·rcases kN with t|t|t
  ·have:=f t;omega
  ·have:=d t;omega
  ·exact t
def sh(n:Int):iV ⟨(iD n).neg,(iD n).aF⟩=n:=il n
def abC{x y:bk}(h:GP x y):(iD (Int.gcd (iV x) (iV y))).aF.length<=1073741824:=by
 have u:=M5 h;by_cases c:iV x=0
 ·rw[c,Int.gcd_zero_left];have b:=y4 (x:=y) u.2.1 u.2.2.2;exact qV (k:=1073741824) (by have:=kn 1073741824;constructor<;>omega)
 ·have b:=y4 (x:=x) u.1 u.2.2.1;have k:Int.gcd (iV x) (iV y)<=(iV x).natAbs:=Nat.le_of_dvd O (by exact Ns _ _)
  exact qV (k:=1073741824) (by have:=kn 1073741824;constructor<;>omega)
@[irreducible] def EX(x y:bk):=QP x y/\iV y∣iV x
def EXq{x y:bk}(h:EX x y):QP x y:=by unfold EX at h;exact h.1
def Vm{x y:bk}(h:EX x y):(iV x).tdiv (iV y)=iV x/iV y/\(iV x).tmod (iV y)=0:=by unfold EX at h;exact⟨Int.tdiv_eq_ediv_of_dvd h.2,Int.tmod_eq_zero_of_dvd h.2⟩
def auW(x y:bk)(h:EX x y):bh 179 [wE .cR x,wE .cR y] (tT [y5 (iD (iV x/iV y)),iE2 0]):=by
 refine vF func179 rfl [ZG,ZD] [] ?_;repeat' first|intro _|apply aP
 all_goals first|exact aZ| (with_reducible first|rfl|exact EXq h)|exact fA _ _ I|rw[(Vm h).1]|exfalso;have k:=(Vm h).2;rename_i Z;rw[sh,k]at Z;exact absurd Z ae|exfalso;rename_i Z;exact absurd Z ae
def ar8:=eO (.el W.cR) (.el W.cR) auW
def pN(x:cd):bk:=if nV x.den=0 then⟨false,[]⟩else⟨x.neg,x.num⟩
def pD(x:cd):bk:=if nV x.den=0 then iD 1 else⟨false,x.den⟩
def C5(x:cd):iV (pN x)=rN x:=by unfold pN rN;split<;>rfl
def uJ(x:cd):iV (pD x)=rD x:=by
 unfold pD rD;split
 ·exact il 1
 ·rfl
@[irreducible] def RP(x:cd):=Dg x.num/\Dg x.den/\x.num.length<=67108864/\x.den.length<=67108864
def vp{x:cd}(h:RP x):=(RP.eq_1 ..).to_iff.1 h
def RPz{x:cd}(h:RP x):((aR x.den).length=0)↔nV x.den=0:=by
 have u:=vp h;constructor
 ·intro e;rw[<-gZ,fc e];rfl
 ·intro e;rw[Q9 u.2.1.eW (sx _) (by rw[gZ];exact e)];rfl
def Gz{x:cd}(h:RP x):Dg (pN x).aF/\(pN x).aF.length<=67108864:=by
 have u:=vp h;unfold pN;split
 ·exact⟨Dg.nil,dD _⟩
 ·exact⟨u.1,u.2.2.1⟩
def Lh{x:cd}(h:RP x):Dg (pD x).aF/\(pD x).aF.length<=67108864:=by
 have u:=vp h;unfold pD;split
 ·refine⟨fA _,eZ (qV (k:=1) ae) ae⟩
 ·exact⟨u.2.1,u.2.2.2⟩
def pz{x:cd}(h:RP x){b:Bool}(c:decide ((aR x.den).length=0)=b):(b=true->pN x=⟨false,[]⟩/\pD x=iD 1)/\(b=false->pN x=⟨x.neg,x.num⟩/\pD x=⟨false,x.den⟩):=by
 have k:=RPz h;constructor
 ·intro e;rw[e]at c;have:=k.1 (eD c);unfold pN pD;rw[aK this,aK this];exact⟨rfl,rfl⟩
 ·intro e;rw[e]at c;have:¬nV x.den=0:=λe=>fg c (k.2 e)
  unfold pN pD;rw[g this,g this];exact⟨rfl,rfl⟩
def aBk(x:cd)(h:RP x):bh 74 [wE .cU x] (tT [y5 (pN x),y5 (pD x)]):=by
 refine vF func74 rfl [ON,uA] [] ?_;repeat' first|intro _|apply aP
 all_goals first|exact aZ|omega|((with_reducible show(_&&_)=true);kernel_rfl)|rw[((pz h I).1 rfl).1]|rw[((pz h I).1 rfl).2]|rw[((pz h I).2 rfl).1]|rw[((pz h I).2 rfl).2]
def OU:=dR (.el W.cU) aBk
def Rt(n:Int):fo ((n:Int):Rat)=⟨(iD n).neg,(iD n).aF,cM 1⟩:=by unfold fo;rw[Rat.num_intCast,Rat.den_intCast]
def aDd{x:bk}(h:Dg x.aF):(jm ⟨x.neg,x.aF⟩).neg=(fo ((iV x:Int):Rat)).neg:=by rw[Rt,tJ (x:=⟨x.neg,x.aF⟩) h]
def aDe{x:bk}(h:Dg x.aF):(jm ⟨x.neg,x.aF⟩).aF=(fo ((iV x:Int):Rat)).num:=by rw[Rt,tJ (x:=⟨x.neg,x.aF⟩) h]
def Tp{l:ao}(h:l.length<=i)(c:i<=1073741825):Sm l:=by unfold Sm;omega
def aA1{n:Int}(h:-9223372036854775808<=n/\n<=9223372036854775807):(iD n).aF.length<=1073741824:=by have e:pB 2=18446744073709551616:=ae;have:=qV (n:=n) (k:=2) O;omega
def aDf(n:Int):cM (Int.toNat 1)=(fo ((n:Int):Rat)).den:=by rw[Rt];rfl
def aCK(x:bk)(h:Dg x.aF/\x.aF.length<=1073741824):bh 76 [wE .cR x] (eT .cU (fo ((iV x:Int):Rat))):=by
 refine vF func76 rfl [CH,Jn] [] ?_;repeat' first|intro _|apply aP
 all_goals first|exact aZ|omega|exact Tp h.2 ae| (with_reducible first|exact aDd h.1|exact aDe h.1|exact aDf _)
def ZH:=dR (.el W.cR) aCK
def aCM(n:Int)(h:-9223372036854775808<=n/\n<=9223372036854775807):bh 77 [wI .i64 n] (eT .cU (fo ((n:Int):Rat))):=by
 refine vF func77 rfl [uA,ZH] [] ?_;repeat' first|intro _|apply aP
 all_goals first|exact aZ|omega|exact fA _ _ I|exact aA1 h|rw[sh]
def asz:=dR (.int .i64) aCM
@[irreducible] def RR(x y:bk):=Dg x.aF/\Dg y.aF/\x.aF.length<=1073741824/\y.aF.length<=1073741824/\0<iV y
def EE{x y:bk}(h:RR x y):=(RR.eq_1 ..).to_iff.1 h
section
variable {x y:bk}(h:RR x y)
include h
def NF:GP x y:=by have u:=EE h;unfold GP;exact⟨u.1,u.2.1,u.2.2.1,u.2.2.2.1⟩
def WK:(Int.gcd (iV x) (iV y):Int)≠0:=by
 have u:=EE h;have:Int.gcd (iV x) (iV y)≠0:=λe=>by have:=(Int.gcd_eq_zero_iff.1 e).2;omega
 omega
def amq:QP x ⟨(iD (Int.gcd (iV x) (iV y))).neg,(iD (Int.gcd (iV x) (iV y))).aF⟩:=by have u:=EE h;unfold QP;exact⟨u.1,fA _,u.2.2.1,abC (NF h),by rw[sh];exact WK h⟩
def amr:QP y ⟨(iD (Int.gcd (iV x) (iV y))).neg,(iD (Int.gcd (iV x) (iV y))).aF⟩:=by have u:=EE h;unfold QP;exact⟨u.2.1,fA _,u.2.2.2.1,abC (NF h),by rw[sh];exact WK h⟩
def NE:(iD ((iV x).tdiv (iV ⟨(iD (Int.gcd (iV x) (iV y))).neg,(iD (Int.gcd (iV x) (iV y))).aF⟩))).neg=(fo (((iV x:Int):Rat)/((iV y:Int):Rat))).neg/\
 (iD ((iV x).tdiv (iV ⟨(iD (Int.gcd (iV x) (iV y))).neg,(iD (Int.gcd (iV x) (iV y))).aF⟩))).aF=(fo (((iV x:Int):Rat)/((iV y:Int):Rat))).num/\
 (iD ((iV y).tdiv (iV ⟨(iD (Int.gcd (iV x) (iV y))).neg,(iD (Int.gcd (iV x) (iV y))).aF⟩))).aF=(fo (((iV x:Int):Rat)/((iV y:Int):Rat))).den:=by
 have u:=EE h;have q:=atk (n:=iV x) u.2.2.2.2;rw[sh];unfold fo;rw[<-q.1,<-q.2];refine⟨rfl,rfl,?_⟩;unfold iD;show cM _=cM _;congr 1
end
def aCX(x y:bk)(h:RR x y):bh 123 [wE .cR x,wE .cR y] (eT .cU (fo (((iV x:Int):Rat)/((iV y:Int):Rat)))):=by
 refine vF func123 rfl [ZA,ZG] [] ?_;repeat' first|intro _|apply aP
 all_goals first|exact aZ| (with_reducible first|exact NF h|exact amq h|exact amr h)|exact(NE h).1|exact(NE h).2.1|exact(NE h).2.2
def ZI:=eO (.el W.cR) (.el W.cR) aCX
@[irreducible] def ul(a b:cd):=RP a/\RP b
def wU{a b:cd}(h:ul a b):RP a:=by unfold ul at h;exact h.1
def wV{a b:cd}(h:ul a b):RP b:=by unfold ul at h;exact h.2
def ayF{x y:bk}(d:Dg x.aF)(e:Dg y.aF){l:Nat}(f:x.aF.length<=i)(j:y.aF.length<=l):(iD (iV x*iV y)).aF.length<=i+l:=by
 have o:=y4 d f;have p:=y4 e j;refine qV ?_;rw[zp];have m:=kn i;have n:=kn l;have c:(iV x*iV y).natAbs<(pB i*pB l).natAbs:=by rw[Ec,Ec];exact B9 O O
 have q:0<pB i*pB l:=Int.mul_pos m n;omega
def pm{x y:bk}(d:Dg x.aF/\x.aF.length<=67108864)(c:Dg y.aF/\y.aF.length<=67108864):Dg (iD (iV ⟨x.neg,x.aF⟩*iV ⟨y.neg,y.aF⟩)).aF/\(iD (iV ⟨x.neg,x.aF⟩*iV ⟨y.neg,y.aF⟩)).aF.length<=134217728/\(x.aF.length+y.aF.length<=1099511627776/\Dg x.aF/\Dg y.aF):=by refine⟨fA _,ayF (x:=⟨x.neg,x.aF⟩) (y:=⟨y.neg,y.aF⟩) d.1 c.1 d.2 c.2,O,d.1,c.1⟩
def anH(m n:Int)(c:(iD m).aF.length<=i)(d:(iD n).aF.length<=i):(iD (m+n)).aF.length<=i+1:=by have e:=y4 (x:=iD m) (fA m) c;have f:=y4 (x:=iD n) (fA n) d;rw[il]at e f;refine qV ?_;rw[ko];omega
section
variable {a b:cd}(h:ul a b)
include h
def Bl:Dg (iD (iV ⟨(pN a).neg,(pN a).aF⟩*iV ⟨(pD b).neg,(pD b).aF⟩)).aF/\(iD (iV ⟨(pN a).neg,(pN a).aF⟩*iV ⟨(pD b).neg,(pD b).aF⟩)).aF.length<=134217728/\((pN a).aF.length+(pD b).aF.length<=1099511627776/\Dg (pN a).aF/\Dg (pD b).aF):=pm (Gz (wU h)) (Lh (wV h))
def Bm:Dg (iD (iV ⟨(pN b).neg,(pN b).aF⟩*iV ⟨(pD a).neg,(pD a).aF⟩)).aF/\(iD (iV ⟨(pN b).neg,(pN b).aF⟩*iV ⟨(pD a).neg,(pD a).aF⟩)).aF.length<=134217728/\((pN b).aF.length+(pD a).aF.length<=1099511627776/\Dg (pN b).aF/\Dg (pD a).aF):=pm (Gz (wV h)) (Lh (wU h))
def Ly:Dg (iD (iV ⟨(pD a).neg,(pD a).aF⟩*iV ⟨(pD b).neg,(pD b).aF⟩)).aF/\(iD (iV ⟨(pD a).neg,(pD a).aF⟩*iV ⟨(pD b).neg,(pD b).aF⟩)).aF.length<=134217728/\((pD a).aF.length+(pD b).aF.length<=1099511627776/\Dg (pD a).aF/\Dg (pD b).aF):=pm (Lh (wU h)) (Lh (wV h))
def afV:Dg (iD (iV ⟨(pN a).neg,(pN a).aF⟩*iV ⟨(pN b).neg,(pN b).aF⟩)).aF/\(iD (iV ⟨(pN a).neg,(pN a).aF⟩*iV ⟨(pN b).neg,(pN b).aF⟩)).aF.length<=134217728/\((pN a).aF.length+(pN b).aF.length<=1099511627776/\Dg (pN a).aF/\Dg (pN b).aF):=pm (Gz (wU h)) (Gz (wV h))
theorem afW:ji ⟨(iD (iV ⟨(pN a).neg,(pN a).aF⟩*iV ⟨(pD b).neg,(pD b).aF⟩)).neg,(iD (iV ⟨(pN a).neg,(pN a).aF⟩*iV ⟨(pD b).neg,(pD b).aF⟩)).aF⟩ ⟨(iD (iV ⟨(pN b).neg,(pN b).aF⟩*iV ⟨(pD a).neg,(pD a).aF⟩)).neg,(iD (iV ⟨(pN b).neg,(pN b).aF⟩*iV ⟨(pD a).neg,(pD a).aF⟩)).aF⟩=iD (rN a*rD b+rN b*rD a):=by
 rw[Ir (fA _) (fA _)];have c:∀x:bk,iV ⟨x.neg,x.aF⟩=iV x:=λx=>rfl
 rw[c,c,c,c,sh,sh,C5,C5,uJ,uJ]
def aCF:RR ⟨(iD (rN a*rD b+rN b*rD a)).neg,(iD (rN a*rD b+rN b*rD a)).aF⟩ ⟨(iD (iV ⟨(pD a).neg,(pD a).aF⟩*iV ⟨(pD b).neg,(pD b).aF⟩)).neg,(iD (iV ⟨(pD a).neg,(pD a).aF⟩*iV ⟨(pD b).neg,(pD b).aF⟩)).aF⟩:=by
 have c:∀x:bk,iV ⟨x.neg,x.aF⟩=iV x:=λx=>rfl
 have k1:=(Bl h).2.1;have k2:=(Bm h).2.1;have e:=(Ly h).2.1;rw[c,c,C5,uJ]at k1 k2;have d:=anH _ _ k1 k2;unfold RR;refine⟨fA _,fA _,by show(iD _).aF.length<=_;omega,by show(iD _).aF.length<=_;omega,?_⟩;rw[sh,c,c,uJ,uJ];exact Int.mul_pos (zw (vp (wU h)).2.1) (zw (vp (wV h)).2.1)
def aCG:(((iV ⟨(iD (rN a*rD b+rN b*rD a)).neg,(iD (rN a*rD b+rN b*rD a)).aF⟩:Int):Rat)/((iV ⟨(iD (iV ⟨(pD a).neg,(pD a).aF⟩*iV ⟨(pD b).neg,(pD b).aF⟩)).neg,(iD (iV ⟨(pD a).neg,(pD a).aF⟩*iV ⟨(pD b).neg,(pD b).aF⟩)).aF⟩:Int):Rat))=rQ a+rQ b:=by
 have c:∀x:bk,iV ⟨x.neg,x.aF⟩=iV x:=λx=>rfl
 rw[sh,sh,c,c,uJ,uJ];exact anE (vp (wU h)).2.1 (vp (wV h)).2.1
def aDg:RR ⟨(iD (iV ⟨(pN a).neg,(pN a).aF⟩*iV ⟨(pN b).neg,(pN b).aF⟩)).neg,(iD (iV ⟨(pN a).neg,(pN a).aF⟩*iV ⟨(pN b).neg,(pN b).aF⟩)).aF⟩ ⟨(iD (iV ⟨(pD a).neg,(pD a).aF⟩*iV ⟨(pD b).neg,(pD b).aF⟩)).neg,(iD (iV ⟨(pD a).neg,(pD a).aF⟩*iV ⟨(pD b).neg,(pD b).aF⟩)).aF⟩:=by
 have c:∀x:bk,iV ⟨x.neg,x.aF⟩=iV x:=λx=>rfl
 have k1:=(afV h).2.1;have d:=(Ly h).2.1;unfold RR;refine⟨fA _,fA _,by show(iD _).aF.length<=_;omega,by show(iD _).aF.length<=_;omega,?_⟩;rw[sh,c,c,uJ,uJ];exact Int.mul_pos (zw (vp (wU h)).2.1) (zw (vp (wV h)).2.1)
theorem aDh:(((iV ⟨(iD (iV ⟨(pN a).neg,(pN a).aF⟩*iV ⟨(pN b).neg,(pN b).aF⟩)).neg,(iD (iV ⟨(pN a).neg,(pN a).aF⟩*iV ⟨(pN b).neg,(pN b).aF⟩)).aF⟩:Int):Rat)/((iV ⟨(iD (iV ⟨(pD a).neg,(pD a).aF⟩*iV ⟨(pD b).neg,(pD b).aF⟩)).neg,(iD (iV ⟨(pD a).neg,(pD a).aF⟩*iV ⟨(pD b).neg,(pD b).aF⟩)).aF⟩:Int):Rat))=rQ a*rQ b:=by
 have c:∀x:bk,iV ⟨x.neg,x.aF⟩=iV x:=λx=>rfl
 rw[sh,sh,c,c,c,c,uJ,uJ,C5,C5];exact ayD
end
def aCJ(a b:cd)(h:ul a b):bh 78 [wE .cU a,wE .cU b] (eT .cU (fo (rQ a+rQ b))):=by
 refine vF func78 rfl [OU,OR,Je,ZI] [] ?_;repeat' first|intro _|apply aP
 all_goals first|exact aZ|((with_reducible show(_&&_)=true);kernel_rfl)| (with_reducible first|exact wU h|exact wV h)|rw[afW h];exact aCF h|rw[afW h,aCG h]|exact(Bl h).2.2.1|exact Tp (Bl h).2.1 ae|exact(Bl h).2.2.2.1 _ I|exact(Bl h).2.2.2.2 _ I|exact(Bm h).2.2.1|exact Tp (Bm h).2.1 ae|exact(Bm h).2.2.2.1 _ I|exact(Bm h).2.2.2.2 _ I|exact(Ly h).2.2.1|exact fA _ _ I
def asx:=eO (.el W.cU) (.el W.cU) aCJ
def aCL(a b:cd)(h:ul a b):bh 79 [wE .cU a,wE .cU b] (eT .cU (fo (rQ a*rQ b))):=by
 refine vF func79 rfl [OU,OR,Je,ZI] [] ?_;repeat' first|intro _|apply aP
 all_goals first|exact aZ|((with_reducible show(_&&_)=true);kernel_rfl)| (with_reducible first|exact wU h|exact wV h)|exact aDg h|rw[aDh h]|exact(Bl h).2.2.2.1 _ I|exact(Bl h).2.2.2.2 _ I|exact(Bm h).2.2.2.1 _ I|exact(Bm h).2.2.2.2 _ I|exact(Ly h).2.2.1|exact(afV h).2.2.1
def asy:=eO (.el W.cU) (.el W.cU) aCL
def aDy{x:cd}(h:RP x):gu ⟨(pN x).neg,(pN x).aF⟩=if rQ x<0 then-1 else if 0<rQ x then 1 else 0:=by have e:gu ⟨(pN x).neg,(pN x).aF⟩=if iV (pN x)<0 then-1 else if 0<iV (pN x)then 1 else 0:=qp (Gz h).1;rw[e,C5];have s:=aCC (a:=x) (vp h).2.1;simp only[s.1,s.2.1]
def aCN(x:cd)(h:RP x):bh 37 [wE .cU x] (iT (if rQ x<0 then-1 else if 0<rQ x then 1 else 0)):=by
 refine vF func37 rfl [OU,AB] [] ?_;repeat' first|intro _|apply aP
 all_goals first|exact aZ|omega|with_reducible exact aDy h
def asA:=dR (.el W.cU) aCN
def aao:fh prog 128:=fH func128 af rfl
def aea(p:List aL)(n:Nat)(h:NB n p):cN prog 128 (bJ (bP (U:=S) [])) (([wL .bt p]:zS0).map SE.den) (bJ (bP [(0,aV.aU (U:=S) W.bt (di p))])) (·∈[]) (ST.e (U:=S) (.c (.aW 0 W.bt (di p).length))).den:=by
 refine vO func128 rfl ⟨[],[Rp,Ro,Rr]⟩ [(3,⟨Nat,λx=>⟨[(3,bQ 0),(7,lT .bt p),(8,iT p.length),(9,iT x)],gH 0 1 2 (gQ p x),3⟩,λx=>x<=p.length/\True,λx=>p.length-x⟩)] [] ⟨[(2,.e (.c (.aW 0 W.bt (di p).length)))],[(0,aV.aU (U:=S) W.bt (di p))],4⟩ ?_;repeat' first|intro _|apply aP|refine aX 0 (aP ?_ λ(x:Nat)(a:x<=p.length/\True)=>?_)|refine aX (x+1) ?_
 all_goals first|exact aZ| (with_reducible first|rfl|exact PI p|exact PM p|exact PN p|exact PW h a.1)|exact aY List.length (FU a.1 I)|(rename_i b;with_reducible first|exact FU a.1 b|exact PV h a.1 b|exact PP b|exact PU b|exact uI b)|simp only[be,bj]at*;have:=a.1;omega|omega
def azR(p:List aL)(n:Nat)(h:NB n p):cN prog 128 (bJ (bP (U:=S) [(0,aV.aU (U:=S) W.bt p)])) (([.c (.aW 0 W.bt p.length)]:zS0).map SE.den) (bJ (bP [(0,aV.aU (U:=S) W.bt p),(1,aV.aU (U:=S) W.bt (di p))])) (·∈[0]) (ST.e (U:=S) (.c (.aW 1 W.bt (di p).length))).den:=by
 refine vO func128 rfl ⟨[],[Rp,Ro,Rr]⟩ [(3,⟨Nat,λx=>⟨[(3,bQ 1),(7,.e (.c (.aW 0 W.bt p.length))),(8,iT p.length),(9,iT x)],(0,.aU (U:=S) W.bt p)::gH 1 2 3 (gQ p x),4⟩,λx=>x<=p.length/\True,λx=>p.length-x⟩)] [0] ⟨[(2,.e (.c (.aW 1 W.bt (di p).length)))],[(0,aV.aU (U:=S) W.bt p),(1,aV.aU (U:=S) W.bt (di p))],4⟩ ?_;repeat' first|intro _|apply aP|refine aX 0 (aP ?_ λ(x:Nat)(a:x<=p.length/\True)=>?_)|refine aX (x+1) ?_
 all_goals first|exact aZ| (with_reducible first|rfl|exact PI p|exact PM p|exact PN p|exact PW h a.1)|exact aY List.length (FU a.1 I)|(rename_i b;with_reducible first|exact FU a.1 b|exact PV h a.1 b|exact PP b|exact PU b|exact uI b)|simp only[be,bj]at*;have:=a.1;omega|omega|unfold NB at h;simp only[be]at*;omega
def aF8(p:J):di (cv (.mk p.aJ p.neg p.aF p.aG) ⟨0,0,0,0⟩)=eI p:=by rw[bm];unfold eI;rfl
@[irreducible] def TP(l:List aL):=TT l/\(∀t∈l,Dg t.aF/\t.aF.length<=2000000)/\l.length<=2000000
def lJ{l:List aL}(h:TP l):=(TP.eq_1 ..).to_iff.1 h
def TP.nb(h:TP l):NB 2000000 l:=by have u:=lJ h;unfold NB LB;exact⟨λt a=>⟨(u.2.1 t a).2,(u.2.1 t a).1⟩,O,O⟩
theorem TP.id{l:List aL}(h:TP l):di l=l:=(lJ h).1.id
def Ld(l:List aL):J:=lQ (cC (l.length+4) l 4)
theorem TP.bp{l:List aL}(h:TP l):BM (di l) 4:=by rw[h.id];unfold BM;exact⟨rfl,(lJ h).1.bp⟩
def aAW(h:TP l):lQ (cC ((di l).length+4) (di l) 4)=Ld l:=by rw[h.id];rfl
def aF7(p:J)(h:bO p):bh 135 [wE .aH p] (lT .bt (eI p)):=by
 refine vG func135 rfl ⟨[OT],[aer]⟩ [] ?_;repeat' first|intro _|apply aP
 all_goals first|exact aZ| (with_reducible first|rfl|exact np1 h|exact np2 h|exact aF8 _)
def asS:=dR (.el W.aH) aF7
def aAV(l:List aL)(h:TP l/\kQ (cC ((di l).length+4) (di l) 4)):bh 139 [wL .bt l] (eT .aH (Ld l)):=by
 refine vF func139 rfl [OT,Zr,AA] [] ?_;repeat' first|intro _|apply aP
 all_goals first|exact aZ|with_reducible exact h.1.nb.e|exact h.1.bp|simp only[bm]at*;exact h.2|simp only[bm];rw[aAW h.1];done
def ass:=dR (.ls W.bt) aAV
def ag1(H:List (Nat×aV S))(args:zS0)(K:f_ S->Prop):Prop:=
 match H,args with
 |[(0,.aU W.bt p)],[.c (.aW 0 W.bt n)]=>(n=p.length/\TP p)/\K ⟨.e (.c (.aW 1 W.bt (di p).length)),[(0,.aU W.bt p),(1,.aU W.bt (di p))],[],[1]⟩
 |[],[.c (.d (.bf W.bt p))]=>TP p/\K ⟨.e (.c (.aW 0 W.bt (di p).length)),[(0,.aU W.bt (di p))],[],[]⟩
 |_,_=>False
def aAC:fk prog S where
 f:=128
 fX:=aao
 run:=ag1
 ok H args K h:=by
  unfold ag1 at h;split at h
  ·obtain⟨⟨rfl,c⟩,b⟩:=h;refine⟨_,?_,λu a d=>?_,b⟩
   ·exact(azR _ _ c.nb).fK λu a=>by have:u<1:=a.1;simp;omega
   ·have e:u<1:=a;obtain rfl:u=0:=O;rfl
  ·obtain⟨c,b⟩:=h;refine⟨_,?_,λu a d=>absurd a (l6 _),b⟩;exact cN.fK (stay':=λu=>u<0/\¬u∈[]) (aea _ _ c.nb) λu a=>absurd a.1 (l6 _)
  ·cases h
def aua:fh prog 224:=fH func224 af rfl
def aF1(p:List aL)(h:TP p):cN prog 224 (bJ (bP (U:=S) [(0,aV.aU (U:=S) W.bt p)])) (([.c (.aW 0 W.bt p.length)]:zS0).map SE.den) (bJ (bP (U:=S) [(0,.aU W.bt p),(1,.cells [.aW 2 W.bt (di p).length]),(2,.aU W.bt (di p))])) (·∈[0]) (ST.e (U:=S) (.c (.cr 271 [(1,0)]))).den:=by
 refine vO func224 rfl ⟨[],[aAC]⟩ [] [0] ⟨[(2,.e (.c (.cr 271 [(1,0)])))],[(0,.aU W.bt p),(1,.cells [.aW 2 W.bt (di p).length]),(2,.aU W.bt (di p))],3⟩ ?_;repeat' first|intro _|apply aP
 all_goals first|exact aZ| (with_reducible first|rfl|exact h)|rfl
def ahb(H:List (Nat×aV S))(args:zS0)(K:f_ S->Prop):Prop:=
 match H,args with
 |[(0,.aU W.bt p)],[.c (.aW 0 W.bt n)]=>(n=p.length/\TP p)/\K ⟨.e (.c (.cr 271 [(1,0)])),[(0,.aU W.bt p),(1,.cells [.aW 2 W.bt p.length]),(2,.aU W.bt p)],[],[1,2]⟩
 |_,_=>False
def aAK:fk prog S where
 f:=224
 fX:=aua
 run:=ahb
 ok H args K h:=by
  unfold ahb at h;split at h
  ·rename_i p n;obtain⟨⟨rfl,b⟩,c⟩:=h;have Z:=aF1 p b;rw[b.id]at Z;refine⟨_,?_,λu a d=>?_,c⟩
   ·exact Z.fK λu a=>by have:u<1:=a.1;simp;omega
   ·have e:u<1:=a;obtain rfl:u=0:=O;rfl
  ·cases h
def kq:Code->Code
 |.seq a _=>a
 |c=>c
def fJ:Code->Code
 |.seq _ b=>b
 |c=>c
def EZ:Code->Code
 |.block _ c=>c
 |.loop c=>c
 |c=>c
def rfA:Code->Code
 |.rangeFunc _ _ a _=>a
 |c=>c
def rfB:Code->Code
 |.rangeFunc _ _ _ b=>b
 |c=>c
def Bo:Code->Array Oper
 |.region _ a _=>a
 |_=>#[]
noncomputable def EW:Code:=(Tryz.f178.body).getD .skip
def k0:Code:=kq EW
def k1:Code:=kq (fJ EW)
def k2:Code:=kq (kq (fJ (fJ EW)))
def kRf:Code:=EZ (fJ (kq (fJ (fJ EW))))
def eR:Array Oper:=Bo (rfA kRf)
def eJ:Array Oper:=Bo (EZ (rfB kRf))
def qX:Array Oper:=Bo (kq (fJ (fJ (fJ EW))))
noncomputable def XU:Code:=(Tryz.f271.body).getD .skip
def j0:Code:=kq XU
def Kn:Code:=EZ (EZ (fJ XU))
def j1:Code:=kq Kn
def y9:Code:=kq (fJ Kn)
def Qk:Code:=EZ (kq (fJ (fJ Kn)))
def j2:Code:=kq Qk
def iI:Array Oper:=Bo (kq (fJ Qk))
def C9:Code:=fJ (fJ Qk)
def j4:Code:=fJ (fJ (fJ Kn))
def Qj:Array Oper:=iI.extract 0 6
def o6:Oper:=iI[6]!
def o7:Oper:=iI[7]!
def ao0:Tryz.f178.body=some (.seq k0 (.seq k1 (.seq (.seq k2 (.block 0 (.rangeFunc (.tmp 8) #[9,10] (.region 3 eR false) (.block 1 (.region 4 eJ false))))) (.seq (.region 5 qX false) .ret)))):=af
def ao2:Tryz.f271.body=some (.seq j0 (.block 0 (.loop (.seq j1 (.seq y9 (.seq (.block 1 (.seq j2 (.seq (.region 3 iI true) C9))) j4)))))):=af
def aAg:iI[6]?=some o6:=af
def aAj:iI[7]?=some o7:=af
def aAi:∃a,o6.op=.call { callee:=.value (.tmp 11),args:=#[.tmp 13,.tmp 16],argTypes:=a}:=⟨#[165,26],af⟩
def aAh:o6.dst=some 17:=af
def IV:Region.ready .any iI #[true,true,true,true,true,true,false,false]=[6]:=af
def IW:Region.ready .any iI #[true,true,true,true,true,true,true,false]=[7]:=af
def Oq:Region.ready .any iI #[true,true,true,true,true,true,true,true]=[]:=af
def aAa:Tryz.f271.ntmps=20:=af
def aDu:Tryz.f271.results.toList=[]:=af
def az9:Tryz.f178.ntmps=15:=af
def aDt:Tryz.f178.results.toList=[.cell 2 26]:=af
def azy:(Tryz.f178.name== "runtime.NumGoroutine")=false:=af
def S3c:List (List Bool):=acX (iI.extract 0 6) 7 [List.replicate 6 false]
def DK:G7 iI 6 S3c=true:=af
def Mg:iI.size=8:=af
def szP:Qj.size=6:=af
def Fz:(iI.toList.all λo=>match o.op with|.defer _=>false|_=>true)=true:=af
def FA:(eR.toList.all λo=>match o.op with|.defer _=>false|_=>true)=true:=af
def FB:(eJ.toList.all λo=>match o.op with|.defer _=>false|_=>true)=true:=af
def O4:(qX.toList.all λo=>match o.op with|.defer _=>false|_=>true)=true:=af
def g3:(iI.toList.all λo=>o.guard.isNone)=true:=af
def aun:fh prog 271:=fH func271 af rfl
@[irreducible] def gP(l:List aL)(x:Nat):Nat:=kF (l.take x)
@[irreducible] def jP(l:List aL)(x:Nat):aL:=(l[x]?).getD ⟨false,[],0,0,0,0⟩
def TM{l:List aL}{x:Nat}(h:l[(x:Int).toNat]?=some t):t=jP l x:=by rw[bI]at h;unfold jP;rw[h];rfl
def aiE{l:List aL}{x:Nat}(h:x<l.length):l[x]?=some (jP l x):=by unfold jP;rw[ca h];rfl
def abw(l:List aL):iD ((gP l 0:Nat):Int)=iD 0:=by unfold gP;rfl
def avG(l:List aL):gP l l.length=kF l:=by unfold gP;rw[eQ (bu _)]
def MU{l:List aL}(h:CT l)(t:aL)(a:t∈l):iV t.cZ≠0:=by obtain⟨z,b,e⟩:=h.co t a;rw[e,il];exact b
def Fi{l:List aL}(h:TP l)(a:t∈l):-pB 2000000<iV t.cZ/\iV t.cZ<pB 2000000:=y4 (x:=t.cZ) ((lJ h).2.1 t a).1 ((lJ h).2.1 t a).2
section
variable {l:List aL}(h:TP l){x:Nat}(hx:x<l.length)
include h hx
theorem Mj:jP l x∈l:=bF (aiE hx)
def aiF:jm ⟨(jP l x).neg,(jP l x).aF⟩=(jP l x).cZ:=by obtain⟨z,b,e⟩:=(lJ h).1.ct.co _ (Mj h hx);have a:(⟨(jP l x).neg,(jP l x).aF⟩:bk)=(jP l x).cZ:=rfl;rw[a,e,tJ (fA z),il]
def aFU:Sm (bk.mk (jP l x).neg (jP l x).aF).aF:=by have q:=(lJ h).2.1 _ (Mj h hx);show(jP l x).aF.length<=_;omega
def aFV(a:l[(x:Int).toNat]?=some t):Sm (bk.mk t.neg t.aF).aF:=by rw[TM a];exact aFU h hx
def abx:iD ((Int.gcd (iV ⟨(iD ((gP l x:Nat):Int)).neg,(iD ((gP l x:Nat):Int)).aF⟩) (iV ⟨(jm ⟨(jP l x).neg,(jP l x).aF⟩).neg,(jm ⟨(jP l x).neg,(jP l x).aF⟩).aF⟩):Nat):Int)=iD ((gP l (x+1):Nat):Int):=by rw[aiF h hx];have b:iV ⟨(iD ((gP l x:Nat):Int)).neg,(iD ((gP l x:Nat):Int)).aF⟩=((gP l x:Nat):Int):=il ((gP l x:Nat):Int);have a:iV ⟨(jP l x).cZ.neg,(jP l x).cZ.aF⟩=iV (jP l x).cZ:=rfl;rw[b,a];congr 2;unfold gP kF;rw[h_,aiE hx,Ak,List.foldl_append,Ni,List.foldl_nil];rfl
def avF:(iD ((gP l x:Nat):Int)).aF.length<=2000000:=by
 have b:=Fi h (Mj h hx);have c:gP l x=0\/∃t∈l,gP l x<=(iV t.cZ).natAbs:=by
  unfold gP;cases e:l.take x with
  |nil=>exact .inl rfl
  |cons u r=>have a:u∈l:=oi (i:=x) (by rw[e];exact bZ ..);have Z:=(JU (u::r) 0).2 u (bZ ..);have f:=MU (lJ h).1.ct u a;exact .inr ⟨u,a,Nat.le_of_dvd O Z⟩
 rcases c with e|⟨t,d,e⟩
 ·rw[e];exact qV ⟨O,O⟩
 ·have j:=Fi h d;exact qV ⟨O,O⟩
def avE:GP ⟨(iD ((gP l x:Nat):Int)).neg,(iD ((gP l x:Nat):Int)).aF⟩ ⟨(jm ⟨(jP l x).neg,(jP l x).aF⟩).neg,(jm ⟨(jP l x).neg,(jP l x).aF⟩).aF⟩:=by rw[aiF h hx];have q:=(lJ h).2.1 _ (Mj h hx);unfold GP;refine⟨fA _,q.1,eZ (avF h hx) O,by show(jP l x).aF.length<=_;omega⟩
end
def YF(y:Nat):ST S:=.e (.c (.d (.sc (.func (.yield y) #[] #[]))))
def wF(l:List aL)(x:Nat):List (Nat×aV S):=[(0,.aU W.bt l),(1,.cells [.d (.sc (.bool false)),.d (.sc (.slice Option.none 0 0))]),(2,.cells ((cQ .cR (iD ((gP l x:Nat):Int))).map .d)),(3,.cells [.aW 4 W.bt l.length]),(4,.aU W.bt l)]
def sS(l:List aL)(x:Nat):SS S:=⟨[(2,.e (.c (.ptr 1 0))),(3,.e (.c (.ptr 2 0))),(8,.e (.c (.cr 271 [(3,0)])))],wF l x,5⟩
def sA(l:List aL)(y x:Nat):SS S:=⟨[(0,YF y),(5,.e (.c (.aW 4 (U:=S) W.bt l.length))),(6,iT l.length),(7,iT x)],wF l x,5⟩
def inN(t:aL):ST S:=eT .cR (jm ⟨t.neg,t.aF⟩)
def sQ(l:List aL)(y x:Nat):SS S:=⟨[(0,YF y),(5,.e (.c (.aW 4 (U:=S) W.bt l.length))),(6,iT l.length),(7,iT x),(11,YF y),(16,inN (jP l x))],wF l x,5⟩
def sE(l:List aL)(x:Nat):SS S:=⟨[],wF l x,5⟩
abbrev nU:List Nat:=[0,1,2,3,4]
def tK:jT prog S:=⟨[uA,CH,ZA],[aAK]⟩
def fnl(l:List aL)(y:Nat)(a:mF)(b:SS S):Prop:=match a with|.ext i=>i=0/\b.heap=wF l l.length|_=>False
section
variable {l:List aL}(h:TP l)
include h
def aqp:Ut Vw 15 [0] tK k0 k1 k2 ⟨tY 0 [.c (.aW 0 W.bt l.length)],[(0,.aU W.bt l)],1⟩ (λa=>mt Vw [0] a (sS l 0) True):=by
 repeat' first|intro _|apply aP
 all_goals first|exact aZ| (with_reducible first|rfl|exact h)|omega|exact aY bk.neg (abw l).symm|exact aY bk.aF (abw l).symm|rfl
theorem aqn(y:Nat):fw Vw 20 nU tK [] j0 ⟨tY 0 [.c (.d (.sc (.func (.yield y) #[] #[]))),.c (.ptr 3 0)],wF l 0,5⟩ (jW mN λa=>mt Vw nU a (sA l y 0) True):=by
 repeat' first|intro _|apply aP
 all_goals first|exact aZ|with_reducible rfl|omega
def aqq(y x:Nat)(hx:x<l.length):Ut Vw 20 nU tK j1 y9 j2 (sA l y x) (λa=>wv Vw 20 Qj nU tK Qj.toList a [] [] (λa=>mt Vw nU a (sQ l y x) True)):=by
 repeat' first|intro _|apply aP
 all_goals first|exact aZ|with_reducible rfl|((with_reducible show(_&&_)=true);kernel_rfl)|omega|exact aFV h hx I|rename_i t b;exact aY (λt:aL=>(jm ⟨t.neg,t.aF⟩).neg) (TM b)|rename_i t b;exact aY (λt:aL=>(jm ⟨t.neg,t.aF⟩).aF) (TM b)|have Z:=‹decide (_<_)=false›;simp only[bj]at Z;omega
def aqm(x:Nat)(hx:x<l.length):pL Vw 15 eR nU tK eR.toList ⟨(10,inN (jP l x))::(9,.any)::(sS l x).aT,wF l x,5⟩ (λa=>pL Vw 15 eJ nU tK eJ.toList a (λa=>mt Vw nU a (sE l (x+1)) True)):=by
 repeat' first|intro _|apply aP
 all_goals first|exact aZ|with_reducible rfl|exact avE h hx|exact aY bk.neg (abx h hx)|exact aY bk.aF (abx h hx)
def aql(y x:Nat)(hx:x<l.length):pL Vw 20 iI nU tK [o7] ⟨(17,.e (.c (.d (.sc (.bool true)))))::(sQ l y x).aT,wF l (x+1),5⟩ (λa=>fw Vw 20 nU tK [] C9 a (jW mN λa=>fw Vw 20 nU tK [] j4 a (jW mN λa=>mt Vw nU a (sA l y (x+1)) True))):=by
 repeat' first|intro _|apply aP
 all_goals first|exact aZ|with_reducible rfl|omega|exact absurd ‹(!true)=true› ae|have Z:=(lJ h).2.2;omega
theorem aqr(y:Nat):fw Vw 20 nU tK [] j1 (sA l y l.length) (jW mN λa=>fw Vw 20 nU tK [] y9 a (fnl l y)):=by
 repeat' first|intro _|apply aP
 all_goals first|with_reducible rfl|have Z:=‹decide (_<_)=true›;simp only[be]at Z;omega|rfl
theorem aqo:pL Vw 15 qX [0] tK qX.toList (sS l l.length) (λa=>zy Vw a [.cell 2 26]=some (.e (y5 (iD ((gP l l.length:Nat):Int))))/\bX a.heap 0=some (.aU W.bt l)):=by
 repeat' first|intro _|apply aP
 all_goals first|rfl
end
def aFl(a:SS S):a.st.heap=bJ (bP a.heap):=rfl
def av8(l:List aL):∀b,(aV.aU (U:=S) W.bt l).den≠[.dV b]:=by
 intro b e;cases l with
 |nil=>cases e
 |cons a r=>injection e with e _;cases e
def UF{aS:aq}(σ:St):dm i aS σ σ:=λ_ _ _ _ _ R=>R
def arN(l:List aL)(h:TP l):cN prog 178 (bJ (bP (U:=S) [(0,aV.aU (U:=S) W.bt l)])) (([.c (.aW 0 W.bt l.length)]:zS0).map SE.den) (bJ (bP (U:=S) [(0,aV.aU (U:=S) W.bt l)])) (·∈[0]) (ST.e (U:=S) (y5 (iD (kF l:Int)))).den:=by
 have u:∀i s,((sS l 0).st.aT i).bK s->s∈nU:=Q_ rfl;rw[<-avG l]
 refine aCH (P:=prog) (aN:=nU) (eR:=eR) (eJ:=eJ) (g:=271) (k0:=k0) (k1:=k1) (k2:=k2) (qX:=qX) func178 azy ao0 az9 aun (cs0:=(aV.aU (U:=S) W.bt l).den) (args:=([.c (.aW 0 W.bt l.length)]:zS0).map SE.den) (ic rfl) (kT:=(sS l 0).st.aT) (H1:=(sE l 0).st.heap) (H8:=(sE l l.length).st.heap) u ae ?_ (LL:=3) rfl
  (λ{n y L D M z Z ta} K q t E H {pv} r=>?_) ?_ O4 (K0 rfl) (λs ⟨x,hx,j⟩=>Dz hx s j) (av8 l)
 ·have e:=XA (U:=S) [.c (.aW 0 W.bt l.length)] [(0,.aU W.bt l)] 1;have g:=ajd (V:=Vw) mixed (aqp h) (Q:=λs=>dm 15 (·∈[0]) s (sS l 0).st) (λb k=>(nY k 15).2);rw[<-e]at g;exact g
 ·refine awm (P:=prog) (aN:=nU) (eR:=eR) (eJ:=eJ) mixed (kT:=(sS l 0).st.aT) (A:=λx=>(sA l y x).st) (EQ:=λx=>(sQ l y x).st.aT) (Hp:=λx=>(sE l x).st.heap) (N:=l.length) u (λx hx=>Q_ rfl) FA FB (λx hx=>?_) func271 ao2 aAa aDu (l:=y) (LL:=3) ?_ (λx hx=>?_) aAg aAj aAi aAh (λx hx=>?_) ?_ (λx=>rfl) (λx hx=>rfl) DK Mg Fz g3 IV IW Oq K q t E H r
  ·exact Mx (aqm h x hx) (λb k=>⟨b.st,UF _,Mx k (λf k2=>⟨(sE l (x+1)).st,(nY k2 15).2,rfl⟩)⟩)
  ·have e:=XA (U:=S) [.c (.d (.sc (.func (.yield y) #[] #[]))),.c (.ptr 3 0)] (wF l 0) 5;have g:=pK mixed (aqn h y) (Q:=λs=>dm 20 (·∈nU) s (sA l y 0).st) (λb k=>(nY k 20).2);rw[<-e]at g;exact g
  ·refine ajd mixed (aqq h y x hx) (λb k C j Y a w R=>?_);have g:=ajg k j Y R (Q:=λe a w=>e=.normal/\gN C (sQ l y x).st a w) (λf k2 T B X=>⟨rfl,(nY k2 20).2 C j Y T B X⟩);rw[szP]at g;exact g
  ·exact Mx (aql h y x hx) (λb k=>⟨b.st,UF _,pK mixed k λo k2=>pK mixed k2 λv G=>(nY G 20).2⟩)
  ·refine pK mixed (aqr h y) λb k=>DX mixed y9 b _ k _ λp o m=>?_
   cases p with
   |fC=>cases m
   |ext i=>exact⟨m.1,by rw[aFl,m.2];rfl⟩
   |ret=>cases m
 ·exact Mx (aqo h) (λb k=>⟨b.st,UF _,_,by rw[aDt];exact SK k.1,pU.refl _,by rw[fZ,k.2];rfl⟩)
def ag0(H:List (Nat×aV S))(args:zS0)(K:f_ S->Prop):Prop:=
 match H,args with
 |[],[.c (.d (.bf W.bt p))]=>TP p/\K ⟨.e (.c (.aW 0 W.bt p.length)),[(0,.aU W.bt p)],[],[]⟩
 |_,_=>False
def aAB:fk prog S where
 f:=128
 fX:=aao
 run:=ag0
 ok H args K h:=by
  unfold ag0 at h;split at h
  ·rename_i p;obtain⟨b,c⟩:=h;refine⟨_,?_,λu a d=>absurd a (l6 _),c⟩;have Z:=aea p _ b.nb;rw[b.id]at Z;exact cN.fK (stay':=λu=>u<0/\¬u∈[]) Z λu a=>absurd a.1 (l6 _)
  ·cases h
def atX:fh prog 178:=fH func178 af rfl
def agN(H:List (Nat×aV S))(args:zS0)(K:f_ S->Prop):Prop:=
 match H,args with
 |[(0,.aU W.bt l)],[.c (.aW 0 W.bt n)]=>(n=l.length/\TP l)/\K ⟨.e (y5 (iD (kF l:Int))),[(0,.aU W.bt l)],[],[]⟩
 |_,_=>False
def aAv:fk prog S where
 f:=178
 fX:=atX
 run:=agN
 ok H args K h:=by
  unfold agN at h;split at h
  ·obtain⟨⟨rfl,c⟩,b⟩:=h;refine⟨_,?_,λu a d=>?_,b⟩
   ·exact(arN _ c).fK λu a=>by have:u<1:=a.1;simp;omega
   ·have e:u<1:=a;obtain rfl:u=0:=O;rfl
  ·cases h
def ltS{a:Type}{l:List a}{x:a}(h:l[i]?=some x):i<l.length:=(dM.1 h).1
def Qi(n:Int):iV ⟨(iD n).neg,(iD n).aF⟩=n:=il n
def dv(l:List aL):Int:=qm l (kF l)
@[irreducible] def mQ(l:List aL)(x:Nat):List aL:=(l.take x).map (p_ (dv l))++l.drop x
def Tc(l:List aL):l=mQ l 0:=by unfold mQ;simp
def G3(l:List aL)(x:Nat):(mQ l x).length=l.length:=by unfold mQ;simp;omega
def ahv{l:List aL}{x:Nat}(h:(mQ l x)[(x:Int).toNat]?=some t):l[x]?=some t:=by
 rw[bI]at h;have a:=ltS h;rw[G3]at a;have e:((l.take x).map (p_ (dv l))).length=x:=by simp;omega
 unfold mQ at h;rw[yq O,e,rT,m_]at h;simpa using h
def aEd{l:List aL}{x:Nat}(h:l[x]?=some t):(mQ l x).set (x:Int).toNat (p_ (dv l) t)=mQ l (x+1):=by
 have a:=ltS h;have e:((l.take x).map (p_ (dv l))).length=x:=by simp;omega
 rw[bI];unfold mQ;rw[vl _ _ O,e,rT,h_,h,gB,gh,mZ a,vm];rfl
section
variable {l:List aL}(h:TP l)
include h
def aty:dv l≠0/\∀t∈l,dv l∣iV t.cZ:=Th (lJ h).1.ct
def aEc(a:decide ((i:Int)<((mQ l i).length:Int))=false):mQ l i=tQ l:=by have a:=fg a;rw[G3]at a;rw[G9 (lJ h).1];unfold mQ dv;rw[eQ O,pR O,l4]
def avP(b:t∈l):kF l<=(iV t.cZ).natAbs:=by have a:=(JU l 0).2 t b;have u:=MU (lJ h).1.ct t b;exact Nat.le_of_dvd O a
def abD(d:l[Int.toNat 0]?=some t):Dg (iD (kF l:Int)).aF/\(iD (kF l:Int)).aF.length<=2000000:=by have c:=bF d;have a:=avP h c;have b:=Fi h c;exact⟨fA _,qV ⟨O,O⟩⟩
def aae(b:l[Int.toNat 0]?=some t)(Y:decide (gu ⟨t.neg,t.aF⟩<0)=true):iD (-iV ⟨(iD (kF l:Int)).neg,(iD (kF l:Int)).aF⟩)=iD (dv l):=by
 have c:=bF b;have Y:=eD Y;rw[qp (x:=⟨t.neg,t.aF⟩) ((lJ h).2.1 t c).1]at Y;have d:iV t.cZ<0:=by
  by_cases e:iV t.cZ<0
  ·exact e
  ·have f:¬iV (⟨t.neg,t.aF⟩:bk)<0:=e;rw[g f]at Y;split at Y<;>omega
 rw[Qi];cases l with
 |nil=>simp at b
 |cons a r=>have e:a=t:=an b;unfold dv qm;simp only;rw[e,aK d]
def aaf(b:l[Int.toNat 0]?=some t)(Y:decide (gu ⟨t.neg,t.aF⟩<0)=false):iD (kF l:Int)=iD (dv l):=by
 have c:=bF b;have Y:=fg Y;rw[qp (x:=⟨t.neg,t.aF⟩) ((lJ h).2.1 t c).1]at Y;have d:¬iV t.cZ<0:=λe=>by have f:iV (⟨t.neg,t.aF⟩:bk)<0:=e;rw[aK f]at Y;exact Y ae
 cases l with
 |nil=>simp at b
 |cons a r=>have e:a=t:=an b;unfold dv qm;simp only;rw[e,g d]
def aEe(c:(mQ l i)[(i:Int).toNat]?=some t):EX ⟨t.neg,t.aF⟩ ⟨(iD (dv l)).neg,(iD (dv l)).aF⟩:=by
 have a:=bF (ahv c);have d:=aty h;have b:=Fi h a;have q:=(lJ h).2.1 t a;have e:(dv l).natAbs<=(iV t.cZ).natAbs:=by have u:=MU (lJ h).1.ct t a;exact Nat.le_of_dvd O (Na.2 (d.2 t a))
 unfold EX QP;rw[Qi];exact⟨⟨q.1,fA _,eZ q.2 O,eZ (qV (k:=2000000) ⟨O,O⟩) O,d.1⟩,d.2 t a⟩
omit h in
theorem aEg{u:aL}(b:(mQ l i)[(i:Int).toNat]?=some t)(a:(mQ l i)[(i:Int).toNat]?=some u):(mQ l i).set (i:Int).toNat ⟨(iD (iV ⟨t.neg,t.aF⟩/iV ⟨(iD (dv l)).neg,(iD (dv l)).aF⟩)).neg,(iD (iV ⟨t.neg,t.aF⟩/iV ⟨(iD (dv l)).neg,(iD (dv l)).aF⟩)).aF,u.e1,u.e2,u.e3,u.e4⟩=mQ l (i+1):=by
 have e:u=t:=by rw[b]at a;injection a with a;exact a.symm
 subst e;rw[Qi];exact aEd (ahv b)
def aFa(a:((l.length:Int)==0)=true):l=tQ l:=by have a:(l.length:Int)=0:=an a;have e:l=[]:=fc O;rw[G9 (lJ h).1,e];rfl
end
def aE_(l:List aL)(h:TP l):bh 140 [wL .bt l] (lT .bt (tQ l)):=by
 refine vG func140 rfl ⟨[AB,asq,ar8],[aAB,aAv]⟩ [(8,⟨Nat,λx=>⟨[(3,.e (.c (.aW 0 W.bt (mQ l x).length))),(4,bQ 1),(23,iT (mQ l x).length),(24,iT x)],[(0,.aU (U:=S) W.bt (mQ l x)),(1,.cells ((cQ .cR (iD (dv l))).map .d))],2⟩,λx=>x<=l.length/\True,λx=>l.length-x⟩)] ?_;repeat' first|intro _|apply aP|refine aX 0 (aP ?_ λ(x:Nat)(b:x<=l.length/\True)=>?_)|refine aX (x+1) ?_
 all_goals first
  |exact aZ
  |with_reducible rfl
  |omega
  |((with_reducible show(_&&_)=true);kernel_rfl)
  |exact aFa h I
  |exact eZ (abD h I).2 O
  |exact(abD h I).1 _ I
  |exact aY bk.neg (aae h I I)
  |exact aY bk.aF (aae h I I)
  |exact aY bk.neg (aaf h I I)
  |exact aY bk.aF (aaf h I I)
  |exact aEe h I
  |exact aEg I I
  |exact aY (λl:List aL=>(l.length:Int)) (Tc _)
  |(have Z:=‹((l.length:Int)==0)=false›;have a:¬(l.length:Int)=0:=by simpa using Z
    omega)
  |have Z:=(lJ h).2.2;have a:=b.1;have g3:=G3 l x;simp only[be]at*;omega
  |have Z:=G3 l x;have a:=G3 l (x+1);omega
  |exact Tc _
  |exact aY List.length (Tc _)
  |exact aEc h I
def asP:=dR (.ls W.bt) aE_
def bO.tp(h:bO p):TP (eI p):=by
 have c:=aed h.nb;have e:=Rh h.nb;have f:=I9 p ⟨0,0,0,0⟩;have d:=h;unfold bO at d;unfold TP;refine⟨h.tt,λt b=>?_,?_⟩
 ·unfold eI at b;have a:=c t b;exact⟨a.2,O⟩
 ·unfold eI;omega
def bO.ts(h:bO p):TP (tQ (eI p)):=by have a:=h.tp;have u:=lJ a;obtain⟨d1,d2⟩:=Th u.1.ct;rw[G9 u.1];unfold TP;refine⟨Z5 d1 u.1 d2,λt c=>?_,by rw[dS];exact u.2.2⟩;obtain⟨v,d,rfl⟩:=cj.1 c;have b:=Fi a d;have e:(iV v.cZ/qm (eI p) (kF (eI p))).natAbs<=(iV v.cZ).natAbs:=Int.natAbs_ediv_le_natAbs _ _;exact⟨fA _,qV (k:=2000000) ⟨O,O⟩⟩
def bO.ss(h:bO p):kQ (cC ((di (tQ (eI p))).length+4) (di (tQ (eI p))) 4):=by have d:=h.tp;have u:=lJ d;have Y:=h.ts;have b:=lJ Y;rw[Y.id];refine(II (m:=2000000) (B:=1000000) O O _ _ _ (λt a=>⟨(b.2.1 t a).2,(b.2.1 t a).1⟩) ?_).sm O;rw[G9 u.1];intro t a;obtain⟨v,c,rfl⟩:=cj.1 a;have:=K6 h.eb v (by unfold eI at c;exact c);exact this
def aE9(h:bO p):Ld (tQ (eI p))=jO p:=by unfold jO Ld;rw[h.ts.id]
def aE8(p:J)(h:bO p):bh 94 [wE .aH p] (eT .aH (jO p)):=by
 refine vF func94 rfl [asS,asP,ass] [] ?_;repeat' first|intro _|apply aP
 all_goals first|exact aZ|(simp only[bm];first|exact h.tp|exact h.ts|exact⟨h.ts,h.ss⟩|exact h.ss|exact h|done)|simp only[bm];rw[aE9 h];done
def asN:=dR (.el W.aH) aE8
def YV(h:bO p):bO (.mk p.aJ p.neg p.aF p.aG):=by rw[bm];exact h
def cnI(h:bO p)(a:(da p).aJ=0):jm ⟨(da p).neg,(da p).aF⟩=iD (cV (da p)):=by
 have b:=(ur h).bw.oX a;have c:Dg (da p).aF:=by rw[b];exact fA _
 exact tJ c
def Yc(h:(d !=0)=true):d≠0:=an h
def Oc(h:(d !=0)=false):d=0:=an h
def cnS(h:bO p):Sm (da p).aF:=(np4 h).aF
def arK(p:J)(h:bO p):bh 93 [wE .aH p] (tT [.agg ((cQ .cR (if(da p).aJ=0 then iD (cV (da p))else⟨false,[]⟩)).map .d),bE (decide ((da p).aJ=0))]):=by
 refine vF func93 rfl [Zs,CH] [] ?_;repeat' first|intro _|apply aP
 all_goals first|exact aZ|with_reducible exact YV h|show Sm _;simp only[bm];exact cnS h|(simp only[bm]at*;rename_i a;first|rw[g (Yc a)];done|rw[s_ (Yc a)];done|rw[aK (Oc a),cnI h (Oc a)];done|rw[qP (Oc a)];done)
def Zu:=dR (.el W.aH) arK
def atE(h:bO p)(r:Int)(a:decide ((da p).aJ=0)=true):dP p r=tM (Y (js r) (tO (cV (da p)))):=by unfold dP;rw[aK (eD a)]
def atN(h:bO p)(r:Int)(a:decide ((da p).aJ=0)=false):dP p r=.mk 2 (lA (if gk 4 (dG p)<0 then Gx (js r)else js r)).1 (jO p) []:=by unfold dP;rw[g (fg a)]
def aoP{z:Int}:gu ⟨(iD z).neg,(iD z).aF⟩=tO z:=by
 have:=qp (x:=iD z) (fA z);rw[il]at this;show gu (iD z)=_;rw[this];unfold tO;split
 ·rfl
 ·split<;>split<;>omega
def aoL(r s:Int):(IntKind.i64.wrap ((BitVec.ofInt IntKind.i64.bits ((js r:Nat):Int) &&& BitVec.ofInt IntKind.i64.bits ((xe s:Nat):Int)).toNat:Int) !=0)=Y (js r) s:=by
 rw[N9 _ (pC r) _ (apO s)];unfold Y;cases h:(js r &&& xe s)with
 |zero=>rfl
 |succ n=>simp;omega
def aoI(h:bO p):br 4 (dG p):=by rw[qh h];exact(ur h).bw
def aoK:decide (tO d<0)=decide (d<0):=by unfold tO;split<;>(try split)<;>simp<;>omega
def aoG(r:Int):B6 ((js r:Nat):Int):=B6.of (pC r)
def XS(p:J)(r:Int)(h:bO p):bh 66 [wE .aH p,wI .i64 r] (eT .aQ (dP p r)):=by
 refine vF func66 rfl [Zu,Jo,AB,ar0,ZQ,yT,asa,ast,OX,asN] [] ?_;repeat' first|intro _|apply aP
 all_goals first|exact aZ|((with_reducible show(_&&_)=true);kernel_rfl)|omega|with_reducible exact YV h|show br 4 _;simp only[bm];exact aoI h|exact aoG r|simp only[bm]at*;rename_i a;rw[atE h r a,aK (eD a),aoP,aoL];done|(simp only[bm]at*;rename_i a c;have b:=c;rw[aoK]at b;rw[atN h r a];first|done|with_reducible rfl|simp only[F.aM];done|simp only[F.bW];rw[aK (eD b),bI,bI];done|simp only[F.bW];rw[g (fg b),bI];done|simp only[F.aH];done|simp only[F.aO];done)
def Ay:=eO (.el W.aH) (.int .i64) XS
def aqO{x:J}(h:(a_ p d)[i]?=some x):bG p d i=x:=by unfold bG;rw[h];rfl
def aqP(h:decide (((a_ p d).length:Int)<=r)=true):bG p d r.toNat=zP:=by have h:=eD h;unfold bG;rw[gp O];rfl
def aCU(h:(((a_ p d).length:Int)==0)=true):oM p d=zP:=by have h:((a_ p d).length:Int)=0:=an h;unfold oM;rw[aK (fc O)]
def aCV{lv:Int}(h:(((a_ p lv).length:Int)==0)=false):oM p lv=kG ((a_ p lv).take (((a_ p lv).length:Int)-1).toNat) lv:=by have h:((a_ p lv).length:Int)≠0:=an h;unfold oM;rw[g (λe=>h (by rw[e];rfl)),List.dropLast_eq_take];congr 2;omega
def jt.jp{lv:Int}(h:jt p lv)(n:Nat):JP ((a_ p lv).take n) lv/\(a_ p lv).length<=3/\(∀c∈a_ p lv,CZ c)/\lh lv:=by
 have z:=h.z;have a:=z.a;have f:=z.b;have i:=f;unfold lh at i;unfold CZ at a;obtain⟨d,k,l,o,Y⟩:=a;obtain⟨v,rfl⟩:∃v:Nat,lv=(v:Int):=⟨lv.toNat,O⟩;have co:=vz Y l O (lv:=v) O O;have hlen:(a_ p v).length<=3:=by
  have b:=h.d;unfold cK at b;cases m:bM p with
  |true=>rw[co.Dc m];simp
  |false=>rw[m]at b;have:=co.len m;simp only[iN,mK]at b;omega
 have j:=Ql (d:=12) (k:=k) O o (cs:=(a_ p v).take n) (lv:=v) O O (by rw[ez];omega) (λc a=>((co.sz c (oi a)).up l (bu _))) (λc a=>co.yY c (oi a));unfold JP;exact⟨⟨f,j.1⟩,hlen,λc a=>(co.sz c a).cz l o,f⟩
def aro(p:J)(a i:Int)(h:jt p a/\0<=i):bh 199 [wE .aH p,wI .i64 a,wI .i64 i] (eT .aH (bG p a i.toNat)):=by
 refine vF func199 rfl [Fs] [] ?_;repeat' first|intro _|apply aP
 all_goals(try simp only[bm]at*)
 all_goals first|exact aZ|omega|exact h.1|exfalso;have b:=h.2;rename_i Z;have Z:decide (i<0)=true:=Z;have Z:=eD Z;omega|rw[aqO I]|rw[aqP I]<;>rfl|simp only[bj]at*;omega
def Jh:=vb (.el W.aH) (.int .i64) (.int .i64) aro
def aCY(p:J)(a:Int)(h:jt p a):bh 201 [wE .aH p,wI .i64 a] (eT .aH (oM p a)):=by
 refine vF func201 rfl [Fs,Zo] [] ?_;repeat' first|intro _|apply aP
 all_goals(try simp only[bm]at*)
 all_goals first|exact aZ|omega|rw[aCU I]<;>rfl|rw[aCV I]|exact(jt.jp h _).1|simp only[lN,jC]at*;omega
def asB:=eO (.el W.aH) (.int .i64) aCY
def tk{l:List ByteArray}:l.take (i:Int).toNat=l.take i:=by rw[bI]
def KG(m:F):=m.aM=3\/m.aM=4
def Bd(h:(m.aM==1)=true):cG m=.mk 1 0 zP []:=by rw[Gt,aK (an h)]
def xB(h:(m.aM==2)=true):cG m=.mk 2 (jM m.bW) (dG m.aH) []:=by have h:m.aM=2:=an h;rw[Gt,g O,aK h]
def xC(h:m.aM=3\/m.aM=4):cG m=.mk m.aM 0 zP (m.aO.map cG):=by rw[Gt,g O,g O,aK h]
def Bc(a:(m.aM==1)=false)(b:(m.aM==2)=false)(c:(m.aM==3)=false)(d:(m.aM==4)=false):cG m=zM:=by have a:m.aM≠1:=an a;have b:m.aM≠2:=an b;have c:m.aM≠3:=an c;have d:m.aM≠4:=an d;rw[Gt,g a,g b,g O]
def ayN(h:(m.aM==1)=true):1=(cG m).aM:=by rw[Bd h];rfl
def ayG(a:(m.aM==1)=false)(b:(m.aM==2)=false)(c:(m.aM==3)=false)(d:(m.aM==4)=false):0=(cG m).aM:=by rw[Bc a b c d];rfl
def ayU(h:(m.aM==2)=true):2=(cG m).aM:=by rw[xB h];rfl
def ay3(h:KG m):m.aM=(cG m).aM:=by rw[xC h];rfl
def ayO(h:(m.aM==1)=true):0=(cG m).bW:=by rw[Bd h];rfl
def ayH(a:(m.aM==1)=false)(b:(m.aM==2)=false)(c:(m.aM==3)=false)(d:(m.aM==4)=false):0=(cG m).bW:=by rw[Bc a b c d];rfl
def ayV(h:(m.aM==2)=true)(a:decide (m.bW<1)=true):3=(cG m).bW:=by rw[xB h];simp only[be]at a;show 3=jM m.bW;unfold jM;rw[aK (.inl a)]
def ayW(h:(m.aM==2)=true)(a:decide (6<m.bW)=true):3=(cG m).bW:=by rw[xB h];simp only[be]at a;show 3=jM m.bW;unfold jM;rw[aK (.inr a)]
def ayX(h:(m.aM==2)=true)(a:decide (m.bW<1)=false)(b:decide (6<m.bW)=false):m.bW=(cG m).bW:=by rw[xB h];simp only[bj]at a b;show m.bW=jM m.bW;unfold jM;rw[g O]
def ay4(h:KG m):0=(cG m).bW:=by rw[xC h];rfl
def ayP(h:(m.aM==1)=true):0=(cG m).aH.aJ:=by rw[Bd h];rfl
def ayI(a:(m.aM==1)=false)(b:(m.aM==2)=false)(c:(m.aM==3)=false)(d:(m.aM==4)=false):0=(cG m).aH.aJ:=by rw[Bc a b c d];rfl
def ayY(h:(m.aM==2)=true):(dG (.mk m.aH.aJ m.aH.neg m.aH.aF m.aH.aG)).aJ=(cG m).aH.aJ:=by rw[xB h];rw[bm];rfl
def ay5(h:KG m):0=(cG m).aH.aJ:=by rw[xC h];rfl
def ayQ(h:(m.aM==1)=true):false=(cG m).aH.neg:=by rw[Bd h];rfl
def ayJ(a:(m.aM==1)=false)(b:(m.aM==2)=false)(c:(m.aM==3)=false)(d:(m.aM==4)=false):false=(cG m).aH.neg:=by rw[Bc a b c d];rfl
def ayZ(h:(m.aM==2)=true):(dG (.mk m.aH.aJ m.aH.neg m.aH.aF m.aH.aG)).neg=(cG m).aH.neg:=by rw[xB h];rw[bm];rfl
def ay6(h:KG m):false=(cG m).aH.neg:=by rw[xC h];rfl
def ayR(h:(m.aM==1)=true):(cG m).aH.aF=[]:=by rw[Bd h];rfl
def ayK(a:(m.aM==1)=false)(b:(m.aM==2)=false)(c:(m.aM==3)=false)(d:(m.aM==4)=false):(cG m).aH.aF=[]:=by rw[Bc a b c d];rfl
def ay0(h:(m.aM==2)=true):(dG (.mk m.aH.aJ m.aH.neg m.aH.aF m.aH.aG)).aF=(cG m).aH.aF:=by rw[xB h];rw[bm];rfl
def ay7(h:KG m):(cG m).aH.aF=[]:=by rw[xC h];rfl
def ayS(h:(m.aM==1)=true):(cG m).aH.aG=[]:=by rw[Bd h];rfl
def ayL(a:(m.aM==1)=false)(b:(m.aM==2)=false)(c:(m.aM==3)=false)(d:(m.aM==4)=false):(cG m).aH.aG=[]:=by rw[Bc a b c d];rfl
def ay1(h:(m.aM==2)=true):(dG (.mk m.aH.aJ m.aH.neg m.aH.aF m.aH.aG)).aG=(cG m).aH.aG:=by rw[xB h];rw[bm];rfl
def ay8(h:KG m):(cG m).aH.aG=[]:=by rw[xC h];rfl
def ayT(h:(m.aM==1)=true):(cG m).aO=[]:=by rw[Bd h];rfl
def ayM(a:(m.aM==1)=false)(b:(m.aM==2)=false)(c:(m.aM==3)=false)(d:(m.aM==4)=false):(cG m).aO=[]:=by rw[Bc a b c d];rfl
def ay2(h:(m.aM==2)=true):(cG m).aO=[]:=by rw[xB h];rfl
def ay9(h:KG m):m.aO.map cG=(cG m).aO:=by rw[xC h];rfl
@[irreducible] def ny(m:F)(i:Nat):List F:=(m.aO.take i).map cG
def acm(m:F):ny m 0=[]:=by unfold ny;rfl
def awD(m:F):(ny m 0).length=0:=by rw[acm];rfl
def awG(h:m.aO[(i:Int).toNat]?=some c):ny m i++[cG c]=ny m (i+1):=by rw[bI]at h;unfold ny;rw[h_,h,gB];rfl
def acn(m:F)(i:Nat):(ny m i).length<=m.aO.length:=by unfold ny;simp;omega
def awE(h:decide ((i:Int)<m.aO.length)=false):ny m i=m.aO.map cG:=by simp only[bj]at h;unfold ny;rw[eQ O]
def awF(a:KG m)(h:decide ((i:Int)<m.aO.length)=false):ny m i=(cG m).aO:=by rw[awE h];exact ay9 a
def Pg(h:b=!false):b=true:=h
def az5(h:iF m):bO (.mk m.aH.aJ m.aH.neg m.aH.aF m.aH.aG):=by rw[bm];exact h.np
@[reducible] def KD(c:F):F:=.mk (cG (.mk c.aM c.bW (.mk c.aH.aJ c.aH.neg c.aH.aF c.aH.aG) c.aO)).aM (cG (.mk c.aM c.bW (.mk c.aH.aJ c.aH.neg c.aH.aF c.aH.aG) c.aO)).bW (.mk (cG (.mk c.aM c.bW (.mk c.aH.aJ c.aH.neg c.aH.aF c.aH.aG) c.aO)).aH.aJ (cG (.mk c.aM c.bW (.mk c.aH.aJ c.aH.neg c.aH.aF c.aH.aG) c.aO)).aH.neg (cG (.mk c.aM c.bW (.mk c.aH.aJ c.aH.neg c.aH.aF c.aH.aG) c.aO)).aH.aF (cG (.mk c.aM c.bW (.mk c.aH.aJ c.aH.neg c.aH.aF c.aH.aG) c.aO)).aH.aG) (cG (.mk c.aM c.bW (.mk c.aH.aJ c.aH.neg c.aH.aF c.aH.aG) c.aO)).aO
def ax7(c:F):KD c=cG c:=by unfold KD;rw[CR,CR]
def aco(h:m.aO[(i:Int).toNat]?=some c):ny m i++[KD c]=ny m (i+1):=by rw[ax7];exact awG h
def awH(h:m.aO[(i:Int).toNat]?=some c):(ny m i).length+[KD c].length=(ny m (i+1)).length:=by rw[<-aco h];simp
def kb1(h:iF m)(i:Nat)(x:F):((ny m i).length+[x].length)*oP.dT<=140737488355328:=by have b:=acn m i;have c:=h.len;have e:oP.dT=104:=rfl;have a:[x].length=1:=rfl;rw[e,a];omega
def kb2(h:iF m)(i:Nat)(x:F):(ny m i).length+[x].length<=140737488355328:=by have b:=acn m i;have c:=h.len;have a:[x].length=1:=rfl;rw[a];omega
def kg3(h:(m.aM==3)=true):KG m:=.inl (an h)
def kg4(h:(m.aM==4)=true):KG m:=.inr (an h)
def azD(m:F)(j:iF m):bh 15 [wE .aQ m] (eT .aQ (cG m)):=by
 generalize o:SizeOf.sizeOf m=D
 induction D using Nat.strongRecOn generalizing m
 rename_i D l;subst o;refine vF func15 rfl [yT,uz Vw 15 (.el W.aQ) (λ(q:F)=>q∈m.aO) (λ(q:F)=>eT .aQ (cG q)) (λq c=>l _ (F.lt c) q (j.bz q c) rfl)] [(13,⟨Nat,λx=>⟨[(1,bQ 0),(2,bQ 1),(4,bQ 2),(34,iT m.aO.length),(35,iT x)],[(0,dh .aQ m),(1,dh .aQ zM),(2,.cells [cw m.aM,cw 0,cw 0,iG,fv,fv,.aW 3 W.aQ (ny m x).length]),(3,.aU (U:=S) W.aQ (ny m x))],4⟩,λx=>x<=m.aO.length/\KG m,λx=>m.aO.length-x⟩)] ?_;repeat' first|intro _|apply aP|refine aX 0 (aP ?_ λ(x:Nat)(d:x<=m.aO.length/\KG m)=>?_)|refine aX (x+1) ?_
 all_goals clear l
 all_goals first|exact aZ|((with_reducible show(_&&_)=true);kernel_rfl)| (with_reducible first|rfl|exact az5 j|exact acm m|exact awD m|exact d.2|exact kb1 j _ _|exact kb2 j _ _|exact IT _)|rename_i a b;exact absurd (a.symm.trans b) ae|(rename_i h;with_reducible first|exact ayN h|exact ayO h|exact ayP h|exact ayQ h|exact ayR h|exact ayS h|exact ayT h)|(rename_i c i f e;with_reducible first|exact ayG c i f e|exact ayH c i f e|exact ayI c i f e|exact ayJ c i f e|exact ayK c i f e|exact ayL c i f e|exact ayM c i f e)|rename_i k;with_reducible exact ayW ak k|rename_i k;with_reducible exact ayV ak (Pg k)|rename_i k n;with_reducible exact ayX ak k n|(with_reducible first|exact ayU ak|exact ayY ak|exact ayZ ak|exact ay0 ak|exact ay1 ak|exact ay2 ak)|(with_reducible first|exact ay3 d.2|exact ay4 d.2|exact ay5 d.2|exact ay6 d.2|exact ay7 d.2|exact ay8 d.2)|rename_i h;with_reducible exact awF d.2 h|(rename_i h;with_reducible first|exact F.at h|exact aco h|exact awH h)|(with_reducible first|exact kg3 ak|exact kg4 ak)|have:=j.len;omega|have:=j.len;(simp only[be,bj]at*;omega)|rfl
def ZF:=dR (.el W.aQ) azD
@[irreducible] def ph(m:F)(i:Nat):List J:=jK (m.aO.take i)
def aeN(m:F):ph m 0=[]:=by unfold ph;rw[iC,jK]
def aBg(m:F):(ph m 0).length=0:=by rw[aeN];rfl
def Li{m:F}(h:m.aO[(i:Int).toNat]?=some c):ph m i++fY (.mk c.aM c.bW (.mk c.aH.aJ c.aH.neg c.aH.aF c.aH.aG) c.aO)=ph m (i+1):=by rw[bI]at h;unfold ph;rw[CR,h_,h,ae9];simp only[Ak];rw[jK,jK,l4]
def aBh{m:F}(h:m.aO[(i:Int).toNat]?=some c):(ph m i).length+(fY (.mk c.aM c.bW (.mk c.aH.aJ c.aH.neg c.aH.aF c.aH.aG) c.aO)).length=(ph m (i+1)).length:=by rw[<-Li h];simp
theorem aiA:∀(l:zF0)(i:Nat),cy (l.take i)<=cy l
 |[],i=>by simp
 |m::r,0=>by rw[iC,gV];omega
 |m::r,i+1=>by have:=aiA r i;rw[pT,eE,eE];omega
def aFM{m:F}(h:c∈m.aO):bc c<=bc m:=by
 rw[kM m];obtain⟨i,e⟩:=yt h;have b:∀(l:zF0)(i:Nat),l[i]?=some c->bc c<=cy l:=by
  intro l
  induction l with
  |nil=>intro i h;simp at h
  |cons a r f=>
   intro i h;rw[eE];cases i with
   |zero=>simp only[jH,cY]at h;subst h;omega
   |succ i=>have:=f i (an h);omega
 have:=b _ i e;omega
def aeO(m:F)(i:Nat):(ph m i).length<=bc m:=by unfold ph;have b:=Si (m.aO.take i);have a:=aiA m.aO i;rw[kM];omega
def pb1{m:F}(h:bc m<=1000000)(a:m.aO[(i:Int).toNat]?=some c):((ph m i).length+(fY (.mk c.aM c.bW (.mk c.aH.aJ c.aH.neg c.aH.aF c.aH.aG) c.aO)).length)*lC.dT<=140737488355328:=by have b:=aeO m (i+1);rw[<-Li a,c_]at b;have e:lC.dT=64:=rfl;rw[e];omega
def pb2{m:F}(h:bc m<=1000000)(a:m.aO[(i:Int).toNat]?=some c):(ph m i).length+(fY (.mk c.aM c.bW (.mk c.aH.aJ c.aH.neg c.aH.aF c.aH.aG) c.aO)).length<=140737488355328:=by have b:=aeO m (i+1);rw[<-Li a,c_]at b;omega
def pA{m:F}(h:(m.aM==2)=true):[J.mk m.aH.aJ m.aH.neg m.aH.aF m.aH.aG]=fY m:=by rw[ae8,aK (an h),bm]
def pE{m:F}(h:(m.aM==2)=false)(a:decide ((i:Int)<m.aO.length)=false):ph m i=fY m:=by simp only[bj]at a;rw[ae8,g (an h)];unfold ph;rw[eQ O]
@[irreducible] def SZ(m:F):=bc m<=1000000
def SZ.le{m:F}(h:SZ m):=(SZ.eq_1 ..).to_iff.1 h
def SZ.len{m:F}(h:SZ m):m.aO.length<=1000000:=by have:=h.le;have:=rr m.aO;rw[kM]at*;omega
def aBy(m:F)(a:SZ m):bh 20 [wE .aQ m] (lT .aH (fY m)):=by
 generalize k:SizeOf.sizeOf m=D
 induction D using Nat.strongRecOn generalizing m
 rename_i D b;subst k;have f:∀c∈m.aO,SZ c:=λc j=>by have:=aFM j;have:=a.le;unfold SZ;omega
 refine vF func20 rfl [uz Vw 20 (.el W.aQ) (λ(q:F)=>q∈m.aO) (λ(q:F)=>lT .aH (fY q)) (λq i=>b _ (F.lt i) q (f q i) rfl)] [(5,⟨Nat,λx=>⟨[(1,bQ 0),(3,.e (.c (.aW 1 (U:=S) W.aH (ph m x).length))),(13,iT m.aO.length),(14,iT x)],[(0,dh .aQ m),(1,.aU (U:=S) W.aH (ph m x))],2⟩,λx=>x<=m.aO.length/\True,λx=>m.aO.length-x⟩)] ?_;repeat' first|intro _|apply aP|refine aX 0 (aP ?_ λ(x:Nat)(l:x<=m.aO.length/\True)=>?_)|refine aX (x+1) ?_
 all_goals clear b f
 all_goals first|exact aZ| (with_reducible first|rfl|exact aeN m|exact aBg m|exact IT _)|(rename_i h;with_reducible first|exact pA h|exact F.at h|exact pb1 a.le h|exact pb2 a.le h|exact Li h|exact aBh h)|rename_i h;with_reducible exact pE ak h|have:=a.len;omega|have:=a.len;(simp only[be,bj]at*;omega)
def asv:=dR (.el W.aQ) aBy
@[irreducible] def pF(p:J)(d:Int):Bool:=sf p 30 2&&nW d (dG p)
def aEX{d:Int}(h:sf (.mk p.aJ p.neg p.aF p.aG) 30 2=true):nW d (.mk (dG (.mk p.aJ p.neg p.aF p.aG)).aJ (dG (.mk p.aJ p.neg p.aF p.aG)).neg (dG (.mk p.aJ p.neg p.aF p.aG)).aF (dG (.mk p.aJ p.neg p.aF p.aG)).aG)=pF p d:=by rw[bm]at h;rw[bm,bm];unfold pF;rw[h];rfl
def ah7{d:Int}(h:sf (.mk p.aJ p.neg p.aF p.aG) 30 2=false):false=pF p d:=by rw[bm]at h;unfold pF;rw[h];rfl
def aEY{d:Int}(h:sf (.mk p.aJ p.neg p.aF p.aG) 30 2=!true):false=pF p d:=ah7 h
def aE0(a:jG p)(h:sf (.mk p.aJ p.neg p.aF p.aG) 30 2=true):bO (.mk p.aJ p.neg p.aF p.aG):=by rw[bm]at h⊢;exact JK (dg:=2) h a O O
def aEZ(p:J)(d:Int)(h:jG p/\0<=d/\d<=1000):bh 29 [wE .aH p,wI .i64 d] (bT (pF p d)):=by
 refine vF func29 rfl [Zz,yT,aso] [] ?_;obtain⟨a,c,b⟩:=h;repeat' first|intro _|apply aP
 all_goals first|exact aZ| (with_reducible first|exact c|exact b)|decide|(rename_i h;with_reducible first|exact aE0 a h|exact aEX h|exact ah7 h|exact aEY h)
def asM:=eO (.el W.aH) (.int .i64) aEZ
@[irreducible] def rj(m:F)(n d:Int):Bool:=qU m n&&(fY (cG m)).all λp=>pF p d
@[irreducible] def xS(l:zJ0)(d:Int)(i:Nat):Prop:=(l.take i).all (λp=>pF p d)=true
def aE1(l:zJ0)(d:Int):xS l d 0:=by unfold xS;rfl
def aE2{l:zJ0}{d:Int}(h:xS l d i)(a:l[(i:Int).toNat]?=some p)(Y:(!pF (.mk p.aJ p.neg p.aF p.aG) d)=false):xS l d (i+1):=by rw[bI]at a;rw[bm]at Y;unfold xS at*;rw[h_,a,List.all_append,h];simp only[Ak,wN,List.all_nil];simpa using Y
section
variable {m:F}{n d:Int}
@[reducible] def fM(m:F):F:=.mk m.aM m.bW (.mk m.aH.aJ m.aH.neg m.aH.aF m.aH.aG) m.aO
@[reducible] def fN(m:F):F:=.mk (cG (fM m)).aM (cG (fM m)).bW (.mk (cG (fM m)).aH.aJ (cG (fM m)).aH.neg (cG (fM m)).aH.aF (cG (fM m)).aH.aG) (cG (fM m)).aO
def C1(m:F):fM m=m:=CR m
def JG(m:F):fN m=cG m:=by unfold fN;rw[C1,CR]
def aEV(h:(!qU (fM m) n)=true):false=rj m n d:=by rw[C1]at h;unfold rj;have:qU m n=false:=an h;rw[this];rfl
def aET(a:(fY (fN m))[(i:Int).toNat]?=some p)(Y:(!pF (.mk p.aJ p.neg p.aF p.aG) d)=true):false=rj m n d:=by
 rw[JG]at a;rw[bm]at Y;unfold rj;have:((fY (cG m)).all λp=>pF p d)=false:=by rw[List.all_eq_false];exact⟨p,bF a,by simpa using Y⟩
 rw[this,Bool.and_false]
def aEW(h:(!qU (fM m) n)=false)(Y:xS (fY (fN m)) d i)(a:decide ((i:Int)<((fY (fN m)).length:Int))=false):true=rj m n d:=by rw[C1]at h;rw[JG]at Y a;simp only[bj]at a;unfold xS at Y;rw[eQ O]at Y;unfold rj;rw[Y];simpa using h.symm
def ah9(a:n<=1000000)(b:mz m)(h:(!qU (fM m) n)=false):iF (fM m):=by rw[C1]at h⊢;exact(FL a (an h) b).1
def Tq(a:n<=1000000)(b:mz m)(h:(!qU (fM m) n)=false):SZ (fN m):=by rw[C1]at h;rw[JG];have:=(FL a (an h) b).2;have:=ad4 m;unfold SZ;omega
def aE3(b:n<=1000000)(c:mz m)(h:(!qU (fM m) n)=false)(a:(fY (fN m))[(i:Int).toNat]?=some p):jG (.mk p.aJ p.neg p.aF p.aG):=by rw[C1]at h;rw[JG]at a;rw[bm];exact ae_ m (FL b (an h) c).1 p (bF a)
def ah8(a:n<=1000000)(b:mz m)(h:(!qU (fM m) n)=false):(fY (fN m)).length<=1000000:=by have c:=(Tq a b h).le;exact eZ (afb _) c
end
def aEU(m:F)(n d:Int)(h:mz m/\0<=n/\n<=1000000/\0<=d/\d<=1000):bh 9 [wE .aQ m,wI .i64 n,wI .i64 d] (bT (rj m n d)):=by
 refine vF func9 rfl [ar9,ZF,asv,asM] [(5,⟨Nat,λx=>⟨[(2,iT d),(7,lT .aH (fY (fN m))),(17,iT (fY (fN m)).length),(18,iT x)],[],0⟩,λx=>x<=(fY (fN m)).length/\(!qU (fM m) n)=false/\xS (fY (fN m)) d x,λx=>(fY (fN m)).length-x⟩)] ?_;obtain⟨c,j,a,i,f⟩:=h;repeat' first|intro _|apply aP|refine aX 0 (aP ?_ λ(x:Nat) (b:x<=(fY (fN m)).length/\(!qU (fM m) n)=false/\xS (fY (fN m)) d x)=>?_)|refine aX (x+1) ?_
 all_goals first|exact aZ| (with_reducible first|rfl|exact j|exact a|exact i|exact f|exact aE1 _ _|exact IT _|exact b.2.1)|(rename_i h;with_reducible first|exact aEV h|exact ah9 a c h|exact Tq a c h|exact h)|(rename_i h _;with_reducible first|exact ah9 a c h|exact Tq a c h|exact h)|(rename_i h;with_reducible first|exact aE3 a c b.2.1 h|exact aEW b.2.1 b.2.2 h)|(rename_i e h;with_reducible first|exact aET e h|exact aE2 b.2.2 e h)|have:=ah8 a c b.2.1;omega|have:=ah8 a c b.2.1;simp only[be,bj]at*;omega|omega
def asL:=vb (.el W.aQ) (.int .i64) (.int .i64) aEU
def kd(m:F):Int:=if m.aM<0\/4<m.aM then 0 else m.aM
def acs(h:decide (m.aM<0)=true):0=kd m:=by unfold kd;rw[aK (.inl (an h))]
def acu(h:decide (4<m.aM)=true):0=kd m:=by unfold kd;rw[aK (.inr (an h))]
def awQ(h:decide (m.aM<0)=false)(a:decide (4<m.aM)=false):m.aM=kd m:=by simp only[bj]at h a;unfold kd;rw[g O]
def awR(m:F):bh 68 [wE .aQ m] (iT (kd m)):=by
 refine vF func68 rfl [] [] ?_;repeat' first|intro _|apply aP
 all_goals first|exact aZ|(rename_i h;with_reducible first|exact acs h|exact acu h|exact acs (Pg h)|exact acu (Pg h))|rename_i h a;with_reducible exact awQ h a
def Jk:=dR (.el W.aQ) λm (_:True)=>awR m
