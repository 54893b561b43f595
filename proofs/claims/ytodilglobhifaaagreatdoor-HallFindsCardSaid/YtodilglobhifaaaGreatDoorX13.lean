import Derived.Test.YtodilglobhifaaaGreatDoorX12
set_option linter.all false
set_option maxHeartbeats 0
set_option maxRecDepth 20000
namespace Go.Am
variable {P:Program} {N n0:Nat} {σ:St}
def BO{f:FuncId}{args:List AV}{dst:Option Tmp}{K:St->Prop}{eZ:AV->List Ob->Prop}(h:eM P f args σ.aa eZ)(hK:∀ res aY,eZ res aY->σ.aa.length<=aY.length/\K ((⟨σ.env,aY⟩:St).put dst res)):lL P f args dst K σ:=by
 refine⟨List.range σ.aa.length,false,args,σ.aa,eZ,h,⟨List.nodup_range,Dg,?_,rfl,?_⟩,λres aY hp=>⟨Dg,?_⟩⟩
 ·intro j o hj;have bw:=(List.getElem?_eq_some_iff.1 hj).1;rw[sV,yi];simpa [List.getD_eq_getElem?_getD,List.getElem?_range bw] using hj
 ·intro j c d hc hd;rw[hc]at hd;simp only[Option.some.injEq]at hd;subst hd;exact .eq (by rw[sV,sW])
 ·obtain⟨hl,hK⟩:=hK res aY hp;rw[sV,sW];have:aY.map (bu (λj=>j))=aY:=by
   have h:bu (λj=>j)=id:=by funext o;exact yi o
   simp[h]
  rw[this,KB _ _ hl];exact hK
end Go.Am
namespace Go.Am
variable {P:Program} {N n0:Nat} {σ:St} {Q:Exit->St->Prop}
end Go.Am

