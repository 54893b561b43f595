import Derived.Test.YtdipcmigdbnheaaGreatX24
set_option linter.all false
set_option maxHeartbeats 0
set_option maxRecDepth 20000
open Go Go.Am Go.Proofs
namespace T
def o0:br:=⟨0,0,0,0,0,[]⟩
def m1:aj:=⟨[[o0,o0],[o0,o0]],[⟨0,1,0,[0,2,4,3]⟩],[],1⟩
end T

