import Derived.Test.YtdipcmigdbnheaaGreatX44
set_option linter.all false
set_option maxHeartbeats 0
set_option maxRecDepth 20000
open Go Go.Am Go.Proofs
namespace T
def VP(m:aj)(hm:VM m)(l:List Int)(hl:pZ m l):∃pa b tn,an Tryz.prog 66 [.agg (av m),.tree 1 (ints l)] [] (.bO [.agg [pa,aa3 (rC (bA m l)),aa3 b,tn],aa3 (mM (bA m l))]) [] /\
  eO pa=true/\eO tn=true/\b7 pa=true/\b7 tn=true/\(∀ ρ,aX ρ pa=pa)/\(∀ ρ,aX ρ tn=tn):=by
 have h:=NJ m hm l hl;generalize bA m l=r at *;unfold Aj at h;unfold rC;by_cases he:mM r=0
 ·rw[if_pos he]at h ⊢;exact⟨_,_,_,h,uV rfl,rfl,Ai _,rfl,Ah _,λ_=>rfl⟩
 ·rw[if_neg he]at h ⊢;exact⟨_,_,_,h,rfl,rfl,rfl,rfl,λ_=>rfl,λ_=>rfl⟩
def VO(m:aj)(hm:VM m):an Tryz.prog 65 [.agg (av m)] [] (.bO [.tree 1 (ints (ic m).1),aa3 (ic m).2]) []:=by
 have jQ:=Zb m hm;have rI:=TX hm;obtain⟨pa,b,tn,p6,n1,n2,s1,s2,r1,r2⟩:=VP m hm (fq m) rI;generalize ao:ic m=res;unfold ic at ao;have gp:=rI.1;generalize mM (bA m (fq m))=e0 at *;generalize rC (bA m (fq m))=t0 at *;refine an.aF 55 0 [.tmp 2,.tmp 3] Tryz.func65 ?_;repeat'(first|((fail_if_success (first|refine eG 2 ?_|refine eH 2 ?_));refine Xq X0 ?_;intro K hK)|refine Xo X0 ?_|refine Xc (jQ) ?_|(refine hK _ ?_;clear hK K)|refine Xy ?_|fail)
 ((refine Va X0 ?_)<;>try with_reducible intro K hK)
 (refine Xn [] (p6) ?_;simp(disch:=omega)only[Ac,↓Pc,simprocAttr,r1,r2])
 by_cases he:e0=0;rotate_left
 ·rw[if_pos he]at ao;subst ao;((try revert hK K);(repeat'(first|refine Vb (X5 @s1 @s2 @r1 @r2 @bne_self_eq_false.{0}) ?_|(refine V2 (X5 @s1 @s2 @r1 @r2 @bne_self_eq_false.{0}) ?_ ?_<;>try with_reducible intro hb)|(refine Xi ?_ ?_<;>try intro ht)|refine VD ?_ ?_|exact Xx|fail)))
  all_goals try(rw[s1,s2];rfl)
  all_goals exact du [] true aab trivial aab aab (aE.qF aE.nil (.pure rfl))
 rw[if_neg I6]at ao;by_cases ht:t0<1099511627776
 ·rw[if_pos ht]at ao;subst ao he;((try revert hK K);(repeat'(first|refine Vb (X5 @s1 @s2 @r1 @r2 @bne_self_eq_false.{0}) ?_|(refine Xi ?_ ?_<;>try intro ht)|refine VD ?_ ?_|exact Xx|fail)))
  all_goals try(rw[s1,s2];rfl)
  all_goals exact du [] true aab trivial aab aab (aE.qF aE.nil (.pure rfl))
 rw[if_neg ht]at ao;subst he;((try revert hK K);(repeat'(first|refine Vc (X5 @s1 @s2 @r1 @r2 @bne_self_eq_false.{0}) jQ ?_|(refine Xi ?_ ?_<;>try intro ht)|refine VD ?_ ?_|exact Xx|fail)))
 all_goals try(rw[s1,s2];rfl)
 refine bP (aB.oo 1 0 (cells:=av m) aa2 (by simp only[Kc,simprocAttr]) (by simp[av])) ?_;clear jQ p6 n1 n2 s1 s2 r1 r2 ht;generalize hA:fq m=A at *;refine aW (λz:Nat×List Int=>(⟨ax [(1,.cq (av m)),(4,.tree 1 (ints z.2)),(30,.tree 1 (ints A)),(31,aa3 A.length),(32,aa3 z.1)],[]⟩:St))
  (λz=>z.1<=A.length/\pZ m z.2/\xf m (A.drop z.1) z.2=res) (λz=>A.length-z.1) (0,A) ⟨Nat.zero_le _,rI,ao⟩ (Xs false [] X0) ?_
 rintro⟨i,l⟩⟨hi,hl,hr⟩Ql aq au;dsimp only at hi hl hr ⊢;by_cases hi':i<A.length
 ·have hd:=cS A i 0 hi';rw[hd,xf]at hr;have hw:=Gt l (A.getD i 0) hl.1;have wH:=hl.cY (A.getD i 0);obtain⟨pa,b,tn,p6,n1,n2,s1,s2,r1,r2⟩:=VP m hm _ wH;generalize bG:A.getD i 0=n at *;generalize cY l n=lw at *;generalize mM (bA m lw)=e0 at *;generalize rC (bA m lw)=t0 at *;repeat'(first|((fail_if_success (first|refine eG 10 ?_|refine eH 10 ?_));refine Xr @bG ?_;intro K hK)|(refine hK _ ?_;clear hK K)|(refine Xi ?_ ?_<;>try intro ht)|refine Xy ?_|refine Xd ?_ ?_|exact Xx|fail)
  refine lg [0,3,4] (.take 0 (.take 1 (.take 2 (.take 3 (.take 4 (.take 5 (.take 6 (.take 7 (.take 8 (.take 9 (.take 10 .nil))))))))))) rfl aab (by decide +kernel) ?_;simp(disch:=omega)only[Ac,↓Pc,simprocAttr,Pw,↓Lq,av];refine bF hw rfl rfl ?_;simp(disch:=omega)only[Ac,↓Pc,simprocAttr,Pw,↓Lq,av];refine bF p6 rfl (by simp[eO,gF,n1,n2]) ?_;simp(disch:=omega)only[Ac,↓Pc,simprocAttr,Pw,↓Lq,av,s1,s2];repeat(refine Xu ?_)
  by_cases he:e0=0;rotate_left
  ·rw[if_pos he]at hr;((repeat'(first|refine Va @bG ?_|(refine Xi ?_ ?_<;>try intro ht)|exact Xx|fail)))
   repeat(refine Xu ?_)
   refine Vb X0 ?_;subst hr;exact du [] true aab trivial aab aab (aE.qF aE.nil (.pure rfl))
  subst he;rw[if_neg Jd]at hr;by_cases ht:t0=1099511627776
  ·rw[if_pos ht]at hr;((repeat'(first|refine Vc @bne_self_eq_false.{0} hw ?_|(refine Xi ?_ ?_<;>try intro ht)|exact Xx|fail)))
   exact aq _ (i+1,lw) ⟨aaK,wH,hr⟩ aaK (Xs false [] X0)
  ·rw[if_neg ht]at hr;((repeat'(first|refine Va @bne_self_eq_false.{0} ?_|(refine Xi ?_ ?_<;>try intro ht)|exact Xx|fail)))
   exact aq _ (i+1,l) ⟨aaK,hl,hr⟩ aaK (Xs false [] X0)
 ·rw[List.drop_eq_nil_of_le I6,xf]at hr;((repeat'(first|refine Va X0 ?_|(refine Xi ?_ ?_<;>try intro ht)|exact Xx|fail)))
  refine au _ _ rfl ?_;clear aq au Ql;repeat(refine Xu ?_)
  refine Vb X0 ?_;subst hr;exact aO rfl rfl
def Gq(m:aj)(hm:MB m):an Tryz.prog 29 [.agg (av m)] [] (.bO [.tree 1 (ints (ig m).1),aa3 (ig m).2]) []:=by
 have h1:=p5 m hm;by_cases hv:eJ m=0;rotate_left
 ·rw[show ig m=([],eJ m) by unfold ig;rw[if_pos hv]];generalize eJ m=e at *;refine an.aF 14 0 [.tmp 2,.tmp 3] Tryz.func29 ?_;((repeat'(first|refine Vd X0 h1 ?_|(refine Xi ?_ ?_<;>try intro ht)|exact Xx|fail)))
  exact du [] true aab trivial aab aab (aE.qF aE.nil (.pure rfl))
 ·have h2:=VO m (fc.1 hv);rw[show ig m=ic m by unfold ig;rw[if_neg I6]];rw[hv]at h1;generalize ic m=rd at *;refine an.aF 14 0 [.tmp 2,.tmp 3] Tryz.func29 ?_;((repeat'(first|refine Vd @bne_self_eq_false.{0} (X2 h1 h2) ?_|(refine Xi ?_ ?_<;>try intro ht)|exact Xx|fail)))
  all_goals exact aO rfl rfl
end T

