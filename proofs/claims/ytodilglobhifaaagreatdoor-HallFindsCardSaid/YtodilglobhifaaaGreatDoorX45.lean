import Derived.Test.YtodilglobhifaaaGreatDoorX44
import Derived.Test.YtodilglobhifaaaGreatDoorX43
set_option linter.all false
set_option maxHeartbeats 0
set_option maxRecDepth 20000
open Go Go.Am Go.Proofs
namespace T
def LG.mono{m:ah}{B C:Int}{g:Lg}(h:LG m B g)(hc:B<=C):LG m C g:=⟨h.s,h.t,h.sl,h.tl,λr hr=>(h.sb r hr).mono hc,λr hr=>(h.tb r hr).mono hc⟩
def RX(b:Bool):List AV:=[.lit (.bool b)]
instance:Row RX 1:=⟨λ_=>rfl,λb v hv=>by
 simp only[RX,List.mem_singleton]at hv;subst hv;exact .inl ⟨_,rfl,rfl⟩⟩
def vP(m:ah):List (List Bool):=m.cls.map λl=>List.replicate l.length true
def xk(m:ah):List (List Bool):=if l7 m=0 then vP m else []
def De(xs:List (List Bool))(b:List Bool):rowsOf bE xs++[[AV.tree 1 (b8 b)]]=rowsOf bE (xs++[b]):=by simp[rowsOf,bE]
end T

