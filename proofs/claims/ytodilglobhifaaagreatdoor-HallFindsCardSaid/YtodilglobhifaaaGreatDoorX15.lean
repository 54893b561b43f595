import Derived.Test.YtodilglobhifaaaGreatDoorX13
set_option linter.all false
set_option maxHeartbeats 0
set_option maxRecDepth 20000
namespace Go.Am
def ao.BQ{P:Program}{f:FuncId}{args:List AV}{aa aY NV:List Ob}{res NW:AV}(h:ao P f args aa res aY)(ht:aC aa.length ⟨λk=>[res].getD k .undef,aY⟩ ⟨λk=>[NW].getD k .undef,NV⟩):ao P f args aa NW NV:=by
 obtain⟨hc,h⟩:=h;refine⟨hc,λγ mH mE=>Calls.mono (h γ mH mE) ?_⟩;rintro e w'⟨cv,av,h1,h2,h3,h4,h5⟩;obtain⟨yz,a1,a2,a3,a4⟩:=ht aa γ av rfl h4 h5;exact⟨cv,yz,h1,a1.trans h2,a2.trans h3,a3,a4⟩
end Go.Am

