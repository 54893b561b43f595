import Derived.Test.YtodilglobhifaaaDoorX11
set_option linter.all false
set_option maxHeartbeats 0
set_option maxRecDepth 20000
namespace Go.Am
variable {P:Program} {N n0:Nat} {σ:St}
def yA{f:FuncId}{args:List AV}{dst:Option Tmp}{K:St->Prop}{ej:AV->List Ob->Prop}(h:fX P f args σ.aa ej)(hK:∀ res aL,ej res aL->σ.aa.length<=aL.length/\K ((⟨σ.env,aL⟩:St).put dst res)):my P f args dst K σ:=by
 refine⟨List.range σ.aa.length,false,args,σ.aa,ej,h,⟨List.nodup_range,Eb,?_,rfl,?_⟩,λres aL hp=>⟨Eb,?_⟩⟩
 ·intro j o hj;have aZ:=(List.getElem?_eq_some_iff.1 hj).1;rw[pS,uS];simpa [List.getD_eq_getElem?_getD,List.getElem?_range aZ] using hj
 ·intro j c d hc hd;rw[hc]at hd;simp only[Option.some.injEq]at hd;subst hd;exact .eq (by rw[pS,pT])
 ·obtain⟨hl,hK⟩:=hK res aL hp;rw[pS,pT];have:aL.map (bf (λj=>j))=aL:=by
   have h:bf (λj=>j)=id:=by funext o;exact uS o
   simp[h]
  rw[this,GM _ _ hl];exact hK
end Go.Am
namespace Go.Am
variable {P:Program} {N n0:Nat} {σ:St} {Q:Exit->St->Prop}
end Go.Am
namespace Go.Am
variable {P:Program} {N n0:Nat} {σ:St} {Q:Exit->St->Prop}
def Jd(v v':AV):Prop:=v'=v\/(v=.lit (.slice none 0 0)/\∃ s,v'=.tree s [])
def yB:List AV->List AV->Prop
 |[],[]=>True
 |c::cs,d::ds=>Jd c d/\yB cs ds
 |_,_=>False
def yB.get:∀ {cs ds:List AV},yB cs ds->cs.length=ds.length/\∀ (j:Nat) d,ds[j]?=some d->∃ c,cs[j]?=some c/\Jd c d
 |[],[],_=>⟨rfl,Eb⟩
 |c::cs,d::ds,h=>by
  obtain⟨a,b⟩:=yB.get h.2;refine⟨by simp[a],λj d' hd=>?_⟩;cases j with
  |zero=>simp at hd;subst hd;exact⟨c,rfl,h.1⟩
  |succ j=>exact b j d' (by simpa using hd)
 |[],_::_,h=>h.elim
 |_::_,[],h=>h.elim
end Go.Am
namespace Go.Am
def ao.Je{P:Program}{f:FuncId}{args:List AV}{aa aL Jf:List Ob}{res Jg:AV}(h:ao P f args aa res aL)(ht:aR aa.length ⟨λk=>[res].getD k .undef,aL⟩ ⟨λk=>[Jg].getD k .undef,Jf⟩):ao P f args aa Jg Jf:=by
 obtain⟨hc,h⟩:=h;refine⟨hc,λγ pZ oI=>Calls.mono (h γ pZ oI) ?_⟩;rintro e w'⟨cv,ak,h1,h2,h3,h4,h5⟩;obtain⟨Ba,a1,a2,a3,a4⟩:=ht aa γ ak rfl h4 h5;exact⟨cv,Ba,h1,a1.trans h2,a2.trans h3,a3,a4⟩
end Go.Am

