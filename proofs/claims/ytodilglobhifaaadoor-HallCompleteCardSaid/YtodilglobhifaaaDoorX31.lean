import Derived.Test.YtodilglobhifaaaDoorX20
import Derived.Test.YtodilglobhifaaaDoorX29
import Derived.Test.YtodilglobhifaaaDoorX30
set_option linter.all false
set_option maxHeartbeats 0
set_option maxRecDepth 20000
open List renaming getD_eq_getElem?_getD→an,getElem?_append_left→bL,getElem?_eq_getElem→aN,take_add_one→Ec,set_append_right→sR
open Go Go.Am Go.Proofs
namespace T
section
variable {α:Type} [Inhabited α]
def fT(l:List α)(x:α)(j:Nat):List α:=l.take j++x::l.drop j
def R6(l:List α)(x:α){j:Nat}(hj:j<=l.length):(fT l x j).getD j default=x:=by
 unfold fT;rw[an,List.getElem?_append_right UU];simp[Nat.min_eq_left hj]
def R7(l:List α)(x:α){j:Nat}(hj:j+1<=l.length):(fT l x (j+1)).getD j default=l.getD j default:=by
 unfold fT;rw[an,bL UU,List.getElem?_take,if_pos z8,<- an]
def R8(l:List α)(x:α){j:Nat}(hj:j+1<=l.length):((fT l x (j+1)).set (j+1) (l.getD j default)).set j x=fT l x j:=by
 unfold fT;have h1:l.drop j=l.getD j default::l.drop (j+1):=by
  rw[List.drop_eq_getElem_cons z8,an,aN z8,Option.getD_some]
 have h2:l.take (j+1)=l.take j++[l.getD j default]:=by
  rw[Ec,an];rw[aN z8];rfl
 rw[h2,h1];have hl:(l.take j).length=j:=UU;rw[List.append_assoc,sR _ _ z8,hl,show j+1-j=1 by omega];rw[sR _ _ z8,hl,Nat.sub_self];rfl
def wz(l:List α)(x:α)(j:Nat):(fT l x j).length=l.length+1:=by unfold fT;simp;omega
def R9(l:List α)(x:α):fT l x l.length=l++[x]:=by unfold fT;simp
def Sa{out rest:List α}{x:α}{j:Nat}(hj:j<=out.length):(fT out x j++rest).getD j default=x:=by
 rw[an,bL (by rw[wz];omega),<- an,R6 _ _ hj]
def Sb{out rest:List α}{x:α}{j:Nat}(hj:j+1<=out.length):(fT out x (j+1)++rest).getD j default=out.getD j default:=by
 rw[an,bL (by rw[wz];omega),<- an,R7 _ _ hj]
def Lx{out rest:List α}{x:α}{j:Nat}(hj:j+1<=out.length):((fT out x (j+1)++rest).set (j+1) (out.getD j default)).set j x=fT out x j++rest:=by
 rw[List.set_append_left _ _ (by rw[wz];omega),List.set_append_left _ _ (by rw[List.length_set,wz];omega),R8 _ _ hj]
def Sd{out rest:List α}{x:α}{j:Nat}(hj:j+1<=out.length):((fT out x (j+1)++rest).set j x).set (j+1) (out.getD j default)=fT out x j++rest:=by
 rw[List.set_comm _ _ z8,Lx hj]
def Se{lt:α->α->Bool}{xs:List α}{i:Nat}(h:i<xs.length):fD lt (xs.take (i+1)) []=tN lt (xs.getD i default) (fD lt (xs.take i) []):=by
 rw[<- JR];congr 1;rw[Ec,an];rw[aN h];rfl
def Dd(lt:α->α->Bool)(l out:List α):(fD lt l out).length=out.length+l.length:=by
 rw[(Cm lt l out).length_eq,List.length_append]
end
def dO(C:List (Int×Int)):List AV:=[.tree 2 (rowsOf au C)]
def zt(a b:List (Int×Int)):Int:=j8 [eO (bI a).1 (bI b).1,eO (bI a).2 (bI b).2]
def Sf(a b:List (Int×Int)):gw a b=decide (zt a b<0):=by
 unfold gw zt;congr 1;generalize (bI a).1=p;generalize (bI b).1=q;generalize (bI a).2=r;generalize (bI b).2=s;unfold eO;rw[eq_iff_iff];simp only[j8];constructor
 ·rintro(h|⟨h1,h2⟩)
  ·rw[if_pos h];simp
  ·subst h1;rw[if_neg (Int.lt_irrefl _),if_neg (Int.lt_irrefl _),if_pos h2];simp
 ·intro h;by_cases h1:p<q
  ·exact .inl h1
  ·rw[if_neg h1]at h;by_cases h2:q<p
   ·rw[if_pos h2]at h;simp at h
   ·rw[if_neg h2]at h;by_cases h3:r<s
    ·exact .inr ⟨z8,h3⟩
    ·rw[if_neg h3]at h;by_cases h4:s<r
     ·rw[if_pos h4]at h;simp at h
     ·rw[if_neg h4]at h;simp at h
def Ly(xs:List (List (Int×Int)))(i:Nat)(C:List (Int×Int)):(rowsOf dO xs).set i [.tree 2 (rowsOf au C)]=rowsOf dO (xs.set i C):=xE (enc:=dO) xs i C
def Lz{l:List (List (Int×Int))}{j k:Nat}(hj:j<l.length)(h:k≠j)(y:List (Int×Int)):(rowsOf dO (l.set k y))[j]?=some [.tree 2 (rowsOf au (l.getD j default))]:=by
 unfold rowsOf;rw[List.getElem?_map,List.getElem?_set_ne h,an,aN hj];rfl
instance:Row dO 1:=⟨λ_=>rfl,λC v hv=>by
 unfold dO at hv;rw[List.mem_singleton]at hv;subst hv;exact .inr ⟨_,_,rfl⟩⟩
def LA(ρ:Nat->Nat)(S:List (List (Int×Int))):bf ρ (.arr 1 (rowsOf dO S))=.arr 1 (rowsOf dO S):=sW ρ 1 S
end T

