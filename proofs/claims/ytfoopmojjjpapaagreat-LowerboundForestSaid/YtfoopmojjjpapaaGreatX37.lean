import Derived.Test.YtfoopmojjjpapaaGreatX35
import Derived.Test.YtfoopmojjjpapaaGreatX31
import Derived.Test.YtfoopmojjjpapaaGreatX36
set_option linter.all false
set_option maxHeartbeats 0
set_option maxRecDepth 20000
open Go Go.Am
namespace T
def nF(X:List Mv):List Nd:=[⟨-1,[],X,[],[]⟩]
def TP{X:List Mv}(h:X.length<9223372036854775808):PB (nF X):=by
 refine⟨by show(1:Nat)<_;decide,λx hx=>?_,λx hx=>?_,λx hx=>?_,λx hx=>?_,λx hx l hl=>?_⟩;all_goals unfold nF at hx;rw[List.mem_singleton]at hx;subst hx
 ·show(0:Nat)<_;decide
 ·exact h
 ·show(0:Nat)<_;decide
 ·show(0:Nat)<_;decide
 ·simp at hl
def af7{m:aj}(hm:MB m):BB (dR m):=by
 unfold dR;split
 ·refine⟨by unfold dy;rw[List.length_map];exact hm.cls,λr hr=>?_⟩;obtain⟨l,hl,rfl⟩:=List.mem_map.1 hr;rw[List.length_replicate];exact hm.opt l hl
 ·exact⟨Fs,Fl⟩
def ab5(m:aj)(left:List (List Bool))(g:Lg):kU m left g<=1099511627776:=by
 unfold kU;split
 ·exact Int.le_refl _
 ·omega
def La{m:aj}{left:List (List Bool)}{X:List Mv}(h:(bP m left X).2=0):X.length<=2000:=by
 unfold bP gH at h;split at h
 ·rename_i h1;exact absurd h h1
 ·split at h
  ·cases h
  ·omega
def ab6{m:aj}{left:List (List Bool)}{X:List Mv}(h:(bP m left X).2=0):kR m left=0/\bP m left X=gH m left X/\(bP m left X).1<=1099511627776:=by
 unfold bP at h ⊢;split at h
 ·rename_i h1;exact absurd h h1
 ·rename_i h1;rw[if_neg h1];refine⟨Decidable.not_not.1 h1,rfl,?_⟩;unfold gH at h ⊢;split at h
  ·cases h
  ·split at h
   ·cases h
   ·rename_i h2 h3;rw[if_neg h2,if_neg h3];exact ab5 _ _ _
def TQ{m:aj}{X:List Mv}(h:(bP m (dR m) X).2=0):tx m (nF X)=((bP m (dR m) X).1,true):=by
 obtain⟨h1,h2,h3⟩:=ab6 h;have hv:=(GN h1).1;have qy:j6 m=0:=oB.2 hv;have hs:l9 m (nF X)=true:=by
  unfold l9 nF;simp[mC,oN,pL,j7,iZ,List.range_succ]
 have e:rP m (nF X) (jA m (nF X)) 1099511627776=((bP m (dR m) X).1,true):=by
  unfold rP;rw[if_pos ⟨qy,hs⟩];have ev:vs (nF X) (root m)=[(0,dR m,[])]:=rfl;rw[ev];rw[lf,if_neg Fl];have es:jA m (nF X) 1099511627776 (0,dR m,[])=((bP m (dR m) X).1,true):=by
   unfold jA;have en:nd (nF X) 0=⟨-1,[],X,[],[]⟩:=rfl;rw[if_neg (by dsimp only;rw[en];simp),if_neg (by dsimp only;rw[en];simp),en];dsimp only;rw[<- h2,h];rw[Int.min_eq_right h3];rfl
  rw[es,if_pos rfl];rfl
 unfold tx;rw[e,if_pos rfl]
def NV(m:aj):List Int->Nat
 |[]=>1
 |c::r=>1+(m.cls.getD c.toNat default).length*NV m r
def Sg(m:aj)(rounds:Int)(P:List Nd):List Int->List (List Bool)->Nat->Prop
 |[],L,lo=>nd P lo=Iv (jH m L rounds)
 |c::r,L,lo=>∃ ks,nd P lo=⟨c,ks,[],[],[]⟩/\ks.length=(m.cls.getD c.toNat default).length/\∀ o,o<ks.length->Sg m rounds P r (mB L c.toNat o) (ks.getD o 0).toNat
structure aoj(m:aj)(rounds:Int)(l ab r:List Int)(L:List (List Bool))(nodes res:List Nd):Prop where
 lt:nodes.length<res.length
 le:res.length=nodes.length+NV m r
 pre:∀ i,i<nodes.length->nd res i=nd nodes i
 Cu:jN m res (λa=>a=l) nodes.length res.length ab
 sg:∀ F:List Nd,(∀ i,nodes.length<=i->i<res.length->nd F i=nd res i)->Sg m rounds F r L nodes.length
end T

