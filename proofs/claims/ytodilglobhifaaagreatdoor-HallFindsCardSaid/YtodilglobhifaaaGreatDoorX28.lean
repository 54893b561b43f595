import Derived.Test.YtodilglobhifaaaGreatDoorX23
import Derived.Test.YtodilglobhifaaaGreatDoorX27
set_option linter.all false
set_option maxHeartbeats 0
set_option maxRecDepth 20000
open Go Go.Am Go.Proofs
namespace T
def Yr(m:ah)(p:Pr)(x y:Int)(ny:gm m p=true)(z5:∀ l∈m.cls,l.length<=24)(hx:0<=x/\x<(m.cls.getD p.fst.toNat default).length)(hy:0<=y/\y<(m.cls.getD p.snd.toNat default).length):
  ao Tryz.prog 133 [.agg (aA m),.agg (bL p),aah x,aah y] [] (aah (nq m p x y)) []:=by
 obtain⟨q1,q2,q3,q4,q5⟩:=u7 ny;have vy:=z5 _ (aG (l:=m.cls) (i:=p.fst.toNat) (d:=default) Ay);have lq:=z5 _ (aG (l:=m.cls) (i:=p.snd.toNat) (d:=default) Ay);have vn:=u9 (x:=x) (y:=y) (a:=(m.cls.getD p.fst.toNat default).length) (b:=(m.cls.getD p.snd.toNat default).length) hx hy Ay Ay;unfold nq;rw[<- q5]at vn;generalize mI:m.cls.getD p.snd.toNat default=lb at *;generalize oN:x*(lb.length:Int)=xm at *;refine ao.aO 24 0 [.tmp 8] Tryz.func133 ?_;refine Vb (X2 @mI @oN) ?_;exact aT rfl rfl
end T

