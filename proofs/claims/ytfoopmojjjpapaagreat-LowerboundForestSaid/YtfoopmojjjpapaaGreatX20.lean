import Derived.Test.YtfoopmojjjpapaaGreatX19
import Derived.Test.YtfoopmojjjpapaaGreatX15
import Derived.Test.YtfoopmojjjpapaaGreatX12
set_option linter.all false
set_option maxHeartbeats 0
set_option maxRecDepth 20000
open Go Go.Am Go.Proofs
namespace T
def vC(L:List Int)(k:Nat):Ob:=.var [.tree 1 (ints L),OJ k]
structure mF(q:Nat)(m:aj):Prop where
 mb:MB m
 vX:m.cls.length<=q
 opt:∀ l∈m.cls,l.length<=25
abbrev OM(m:aj):Prop:=mF 25 m
def mF.mono{q r:Nat}{m:aj}(h:mF q m)(hr:q<=r):mF r m:=⟨h.mb,Nat.le_trans h.vX hr,h.opt⟩
def mF.rules{q:Nat}{m:aj}(h:mF q m)(r:Int):mF q ⟨m.cls,m.ae,m.aK,r⟩:=⟨⟨h.mb.cls,h.mb.opt,h.mb.ch,h.mb.ae,h.mb.aC,h.mb.aK,h.mb.En⟩,h.vX,h.opt⟩
def mF.ae{q:Nat}{m:aj}(h:mF q m){l:List Pr}(h1:l.length<9223372036854775808)(h2:∀ p∈l,p.aC.length<9223372036854775808):mF q ⟨m.cls,l,m.aK,m.rules⟩:=⟨⟨h.mb.cls,h.mb.opt,h.mb.ch,h1,h2,h.mb.aK,h.mb.En⟩,h.vX,h.opt⟩
def mF.aK{q:Nat}{m:aj}(h:mF q m){l:List Ct}(h1:l.length<9223372036854775808)(h2:∀ p∈l,p.a6.length<9223372036854775808):mF q ⟨m.cls,m.ae,l,m.rules⟩:=⟨⟨h.mb.cls,h.mb.opt,h.mb.ch,h.mb.ae,h.mb.aC,h1,h2⟩,h.vX,h.opt⟩
def mF.cls{q:Nat}{m:aj}(h:mF q m)(hq:q<=25){l:List (List dq)}(h1:l.length<=q)(h2:∀ x∈l,x.length<=25/\∀ o∈x,o.ch.length<9223372036854775808):mF q ⟨l,m.ae,m.aK,m.rules⟩ :=
 ⟨⟨Ji,λx hx=>by have:=(h2 x hx).1;omega,λx hx=>(h2 x hx).2,h.mb.ae,h.mb.aC,h.mb.aK,h.mb.En⟩,h1,λx hx=>(h2 x hx).1⟩
def VM.om{m:aj}(h:VM m):OM m:=⟨h.mb,by have:=h.cls;omega,λl hl=>by have:=h.opt l hl;omega⟩
structure OMx(q:Nat)(m m':aj):Prop where
 om:mF (q+1) m'
 cl:m'.cls=m.cls\/∃ x,(∀ o∈x,o.wk<=3)/\m'.cls=m.cls++[x]
end T

