import Derived.Test.YtodilglobhifaaaDoorX34
import Derived.Test.YtodilglobhifaaaDoorX35
set_option linter.all false
set_option maxHeartbeats 0
set_option maxRecDepth 20000
open Go Go.Am Go.Proofs
namespace T
def LG.mono{m:ae}{B C:Int}{g:Lg}(h:LG m B g)(hc:B<=C):LG m C g:=⟨h.s,h.t,h.sl,h.tl,λr hr=>(h.sb r hr).mono hc,λr hr=>(h.tb r hr).mono hc⟩
def KE(b:Bool):List AV:=[.lit (.bool b)]
instance:Row KE 1:=⟨λ_=>rfl,λb v hv=>by
 simp only[KE,List.mem_singleton]at hv;subst hv;exact .inl ⟨_,rfl,rfl⟩⟩
def mf(m:ae):List (List Bool):=m.cls.map λl=>List.replicate l.length true
def jd(m:ae):List (List Bool):=if mR m=0 then mf m else []
def KA(xs:List (List Bool))(b:List Bool):rowsOf dN xs++[[AV.tree 1 (bP b)]]=rowsOf dN (xs++[b]):=by simp[rowsOf,dN]
end T

