import Derived.Test.YtjadfapldkfbpaaGreatX19
import Derived.Test.YtjadfapldkfbpaaGreatX26
set_option linter.all false
set_option maxHeartbeats 0
set_option maxRecDepth 20000
open Go Go.Am Go.Proofs
namespace T
def o0:bV:=⟨0,0,0,0,0,[]⟩
def m1:ah:=⟨[[o0,o0],[o0,o0]],[⟨0,1,0,[0,2,4,3]⟩],[],1⟩
def uA(xs:List Mv)(a b c d:Int):rowsOf bN xs++[[AV.lit (.int .i64 a),aaa b,aaa c,aaa d]]=rowsOf bN (xs++[⟨a,b,c,d⟩]):=by simp[rowsOf,bN]
def dmN(L:List Int)(m:ah)(k:Nat):Int:=(m.cls.getD (if da L (bR L k) 2=0 then(m.ae.getD (da L k m.ae.length).toNat default).fst else(m.ae.getD (da L k m.ae.length).toNat default).snd).toNat default).length
def Bz(L:List Int)(m:ah)(k:Nat):Mv×Nat :=
 let v1:=da L k m.ae.length
 let k1:=bR L k
 let v2:=da L k1 2
 let k2:=bR L k1
 let v3:=da L k2 41
 let k3:=bR L k2
 let vo:=da L k3 (dmN L m k)
 let k4:=bR L k3
 let k5:=bR L k4
 if xV L k4 9=true then(⟨v1,v2,vo,if da L k5 2=0 then -268435456 else 268435456⟩,bR L k5) else(⟨v1,v2,vo,v3-20⟩,k5)
def yA(L:List Int)(m:ah):Nat->Nat->List Mv->List Mv×Nat
 |0,k,l=>(l,k)
 |j+1,k,l=>if 0<m.ae.length then yA L m j (Bz L m k).2 (l++[(Bz L m k).1]) else(l,k)
def wU(L:List Int)(m:ah)(most k:Nat):List Mv×Nat:=yA L m (da L k (most+1)).toNat (bR L k) []
def akT{L:List Int}{m:ah}{k:Nat}(h:k<=L.length):(Bz L m k).2<=L.length:=by
 unfold Bz;dsimp only;split
 ·exact dN (dN (dN (dN (dN (dN h)))))
 ·exact dN (dN (dN (dN (dN h))))
end T

