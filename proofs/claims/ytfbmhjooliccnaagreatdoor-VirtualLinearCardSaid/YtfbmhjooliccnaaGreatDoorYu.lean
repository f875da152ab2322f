/- A part of the proof of VirtualLinear: Kj to Kk2. No condition. -/
import Derived.Test.YtfbmhjooliccnaaGreatDoorYs
import Derived.Test.YtfbmhjooliccnaaGreatDoorYt
set_option linter.all false
set_option maxRecDepth 100000
set_option maxHeartbeats 60000000
noncomputable section
namespace Go.Proofs.YtfbmhjooliccnaaGreatDoor
open Go Go.Ab Go.Proofs.Tryz
variable {w:F}{X:Int}
def OF.q{m:F}(h:CM QO m)(I:ba m<=1000000000):OF m:=by unfold OF;exact⟨h.rm.imp λp a=>⟨(QO.rq p a).1,Sz.cz (QO.rq p a).2 O O⟩,I⟩
@[irreducible] def PJ(p:J)(lv:Int):=Ln 1490 p/\1<=lv/\lv<=4
section
variable {p:J}{lv:Int}(h:PJ p lv)
include h
def Ak:=(PJ.eq_1 ..).mp h
def Cc:PQ p lv:=by unfold PQ;have:=Ak h;exact⟨this.1.up O,this.2⟩
def PJc:ke p lv:=E4 (Cc h)
def NW:∃v:Nat,lv=(v:Int)/\1<=v/\v<=4:=E6 (Cc h)
def NV(i:Nat):GA lv (dV p lv i):=by obtain⟨v,rfl,b,a⟩:=NW h;have:=O6 (Ak h).1.sz O O b a i;exact⟨this.1.up O O,this.2⟩
def PJn(i:Nat):b8 (dV p lv i):=(NV h i).np
def PJm(i:Nat):fw (dV p lv i) (kP (-1)):=(NV h i).mm
def PJa(i:Nat)(r:Int):CM QO (dB (dV p lv i) r):=by obtain⟨v,rfl,c,b⟩:=NW h;exact((NV h i).at c b r).imp λp a=>GA.qo a
end
@[irreducible] def WH(lv:Int)(w:F):=CM (GA lv) w/\ba w<=10
def WH.q{lv:Int}(h:WH lv w):CM QO w/\ba w<=10:=by unfold WH at h;exact⟨h.1.imp λp a=>GA.qo a,h.2⟩
def aze{p:J}{lv:Int}(h:PJ p lv)(a:WH lv w):OF (df [w,dB (dV p lv 1) 4]):=by refine .q (.Ar a.q.1 (PJa h 1 4)) ?_;rw[MN,qX];have:=a.q.2;omega
theorem aHA(n:Int)(h:n.natAbs<=4):bh 241 [wI .i64 n] (eT .aF (kP n)):=by
 refine vF func241 rfl [CN,Pn] [] ?_;repeat' first|intro _|apply aQ
 all_goals(try simp only[bz,fI]at*)
 all_goals(try simp only[aco])
 all_goals first|exact bj|omega|exact ab7 h|exact iv _ _ Y
def asG:=dj (.int .i64) aHA
theorem azg(p:J)(lv:Int)(w:F)(h:PJ p lv/\WH lv w):bh 198 [wE .aF p,wI .i64 lv,wE .aP w] (eT .gi (pD p lv w)):=by
 refine vF func198 rfl [arG,FX,Pm,CL,Y6,asG] [] ?_;repeat' first|intro _|apply aQ
 all_goals(try simp only[bz,fI]at*)
 all_goals first|exact bj|omega|((with_reducible show(_&&_)=true);kernel_rfl)|with_reducible exact PJc h.1|exact PJn h.1 1|exact PJm h.1 0|exact aze h.1 h.2|rfl
def asg:=wK (.el W.aF) (.int .i64) (.el W.aP) azg
def aIZ(lv:Int):WH lv (.mk 1 0 zP []):=by unfold WH;exact⟨.tt,ae⟩
def tn1:Int.toNat 1=1:=rfl
def tn0:Int.toNat 0=0:=rfl
section
variable {p:J}{lv:Int}(h:PJ p lv)
include h
def PJz:ZL p lv:=NY (Cc h)
def NU:ez p lv<=1:=WD (Cc h)
omit h in
theorem rs0(a:decide (ez p lv<1)=true):gK p lv=[]:=by unfold gK;rw[aM (dO a)]
omit h in
theorem rs1(a:(ez p lv==1)=true):gK p lv=[pD p lv (.mk 1 0 zP [])]:=by have a:ez p lv=1:=an a;unfold gK;rw[Z O,aM a]
def rs2(d:decide (ez p lv<1)=false)(c:(ez p lv==1)=false):False:=by have a:ez p lv≠1:=an c;have b:=cQ d;have:=NU h;omega
end
theorem aFU(p:J)(lv:Int)(h:PJ p lv):bh 160 [wE .aF p,wI .i64 lv] (tT [.c (.d (.bN W.gi (gK p lv))),iE 0]):=by
 refine vF func160 rfl [CI,asg] [] ?_;repeat' first|exact(rs2 h Y Y).elim|intro _|apply aQ
 all_goals(try simp only[bz,fI,tn1,tn0]at*)
 all_goals first|exact bj|omega|with_reducible exact PJz h|exact aIZ _|rw[rs0 Y];done|rw[rs1 Y];rfl|exfalso;have u:=Ak h;have e:=‹decide (lv<1)=!false›;simp at e;omega|exfalso;have u:=Ak h;have d:=NU h;simp only[be,bc,gQ,jJ,iI]at*;omega
def asz:=eI (.el W.aF) (.int .i64) aFU
end Go.Proofs.YtfbmhjooliccnaaGreatDoor
