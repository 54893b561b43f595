import Derived.Test.YtfoopmojjjpapaaGreatX37
set_option linter.all false
set_option maxHeartbeats 0
set_option maxRecDepth 20000
open Go Go.Am Go.Proofs
namespace T
def o0:cz:=⟨0,0,0,0,0,[]⟩
def m1:ah:=⟨[[o0,o0],[o0,o0]],[⟨0,1,0,[0,2,4,3]⟩],[],1⟩
end T

