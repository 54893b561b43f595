import Derived.Test.YtodilglobhifaaaDoorX19
import Derived.Test.YtodilglobhifaaaDoorX36
set_option linter.all false
set_option maxHeartbeats 0
set_option maxRecDepth 20000
open Go Go.Am
namespace T
def TQ(w o:Nat):List Bool:=(List.replicate w false).set o true
def TR(left:List (List Bool))(c o:Nat):List (List Bool):=left.set c (TQ (left.getD c default).length o)
abbrev kQ:=Nat×List (List Bool)×List Int
def DT:List Int->AV
 |[]=>.lit (.slice none 0 0)
 |x::r=>.tree 1 (ints (x::r))
def MI(s:kQ):List AV:=[UX s.1,.tree 1 (rowsOf dN s.2.1),DT s.2.2]
def TS(l:List Int):(∃ y,DT l=AV.lit y/\y.oneCell'=true)\/∃ s r,DT l=.tree s r:=by
 cases l with
 |nil=>exact .inl ⟨_,rfl,rfl⟩
 |cons x r=>exact .inr ⟨_,_,rfl⟩
instance:Row MI 3:=⟨λ_=>rfl,λx v hv=>by
 simp only[MI,List.mem_cons,List.not_mem_nil,or_false]at hv;rcases hv with rfl|rfl|rfl
 ·exact .inl ⟨_,rfl,rfl⟩
 ·exact .inr ⟨_,_,rfl⟩
 ·exact TS _⟩
def nd(P:List Nd)(i:Nat):Nd:=P.getD i default
def TT(P:List Nd)(s:kQ)(o:Nat):kQ:=(((nd P s.1).kids.getD o 0).toNat,TR s.2.1 (nd P s.1).cls.toNat o,s.2.2++[(nd P s.1).cls])
def TU(P:List Nd)(s:kQ)(n:Nat):List kQ:=(List.range n).map (TT P s)
def TV(P:List Nd)(s:kQ):List kQ:=TU P s (nd P s.1).kids.length
def MJ(P:List Nd):Nat->kQ->List kQ
 |0,_=>[]
 |f+1,s=>s::((TV P s).reverse.flatMap (MJ P f))
def vs(P:List Nd)(s:kQ):List kQ:=MJ P (P.length-s.1) s
def QV{m:ae}(h:VM m):mX m (jd m):=by
 unfold jd;rw[if_pos (yG.2 h)];refine⟨by simp[mf],λi hi=>?_⟩;have hi':i<m.cls.length:=by simpa [mf] using hi
 unfold mf;rw[qo _ _ _ hi',List.length_replicate]
def wX:List kQ->Prop
 |[]=>True
 |t::T=>T.length<=24*t.1/\wX T
def wX.push{T:List kQ}{i:Nat}(h:wX T)(hT:T.length<=24*i):∀ (L:List kQ),(∀ t∈L,i<t.1)->L.length<=24->wX (L++T)
 |[],_,_=>h
 |t::L,hl,hn=>by
  have h1:=hl t Eb;have h2:=wX.push h hT L (λu hu=>hl u (by simp[hu])) (by simp at hn;omega);refine⟨?_,h2⟩;simp only[List.length_cons]at hn;show(L++T).length<=_;rw[List.length_append];omega
end T

