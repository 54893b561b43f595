import Derived.Test.YtafhoboejkcmiaaX13
set_option linter.unusedVariables false
set_option linter.unusedSimpArgs false
set_option linter.unnecessarySimpa false
set_option linter.unusedSectionVars false
set_option maxHeartbeats 64000000
set_option maxRecDepth 20000
namespace Go.Am
theorem Holds.turn {P:Program} {f:FuncId} {args:List AV} {objs objs' objs2:List Ob} {res res2:AV} (h:Holds P f args objs res objs') (ht:Turns objs.length ⟨fun k=>[res].getD k .undef,objs'⟩ ⟨fun k=>[res2].getD k .undef,objs2⟩):Holds P f args objs res2 objs2:=by
  obtain ⟨hc,h⟩:=h
  refine⟨hc,fun γ hs1 hs2=>Calls.mono (h γ hs1 hs2) ?_⟩
  rintro e w' ⟨cv,γ',h1,h2,h3,h4,h5⟩
  obtain ⟨γ2,a1,a2,a3,a4⟩:=ht objs γ γ' rfl h4 h5
  exact⟨cv,γ2,h1,a1.trans h2,a2.trans h3,a3,a4⟩
end Go.Am

