import Derived.Test.YtodilglobhifaaaGreatDoorX19
import Derived.Test.YtodilglobhifaaaGreatDoorX22
import Derived.Test.YtodilglobhifaaaGreatDoorX21
set_option linter.all false
set_option maxHeartbeats 0
set_option maxRecDepth 20000
open Go Go.Am Go.Proofs
namespace T
def aba{m:ah}{left:List (List Bool)}(hm:VM m)(hf:iP m left){c:Ct}(hc:c∈m.aI):(∀ x∈c.bQ,(0<=x.cls/\x.cls<left.length)/\1<=x.wt/\x.wt<=1000)/\0<=c.most/\bL c.bW/\c.bQ.length<=1000000:=by
 obtain⟨_,h2,h3,h4⟩:=uK (hm.ct c hc);refine⟨λx hx=>?_,h2.1,pC h3,?_⟩
 ·obtain⟨h5,h6⟩:=G1 h4 x hx;obtain⟨a,b,_,_⟩:=mj.1 h5;have:=hf.1;exact⟨⟨a,Bv⟩,h6⟩
 ·have:=QY hm h4;omega
def H3(x:Int):ak Tryz.prog 124 [aam x] [] (.agg (aP (fT x))) []:=by
 refine ak.aL 7 0 [.cell 2 185] Tryz.func124 ?_;refine Vb X0 ?_;simp(disch:=omega)only[Ac,↓Pc,simprocAttr,aP,fT,eM];exact aQ rfl rfl
def abx(m:ah)(p:Pr)(x y:Int)(jl:fG m p=true)(AW:∀ l∈m.cls,l.length<=24)(hx:0<=x/\x<(m.cls.getD p.fst.toNat default).length)(hy:0<=y/\y<(m.cls.getD p.snd.toNat default).length):
  ak Tryz.prog 133 [.agg (aB m),.agg (aO p),aam x,aam y] [] (aam (pB m p x y)) []:=by
 obtain⟨q1,q2,q3,q4,q5⟩:=xR jl;have wC:=AW _ (aF (l:=m.cls) (i:=p.fst.toNat) (d:=default) Bv);have uk:=AW _ (aF (l:=m.cls) (i:=p.snd.toNat) (d:=default) Bv);have Aw:=v7 (x:=x) (y:=y) (a:=(m.cls.getD p.fst.toNat default).length) (b:=(m.cls.getD p.snd.toNat default).length) hx hy Bv Bv;unfold pB;rw[<- q5]at Aw;generalize qC:m.cls.getD p.snd.toNat default=lb at *;generalize tP:x*(lb.length:Int)=xm at *;refine ak.aL 24 0 [.tmp 8] Tryz.func133 ?_;refine Vb (X2 @qC @tP) ?_;exact aQ rfl rfl
end T

