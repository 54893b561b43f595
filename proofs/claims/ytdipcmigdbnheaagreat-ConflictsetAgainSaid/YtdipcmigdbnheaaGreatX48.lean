import Derived.Test.YtdipcmigdbnheaaGreatX46
set_option linter.all false
set_option maxHeartbeats 0
set_option maxRecDepth 20000
open Go Go.Am Go.Proofs
namespace T
def YY(m:aj)(hm:VM m)(l:List Int):an Tryz.prog 38 [.agg (av m),.tree 1 (aY (gv m.rules l))] [] (.bO [.agg (av (bA m l)),aa3 0]) []:=by
 have hr:=hm.iS;have h:=adY m (gv m.rules l) hm.mb (by rw[yi];omega);rw[show p7 m (gv m.rules l)=(fX m (gv m.rules l),0) by unfold p7;rw[if_neg (by rw[fc.2 hm];simp),if_neg (by rw[yi];omega)]]at h;exact h
end T

