import Derived.Test.YtdipcmigdbnheaaGreatX46
set_option linter.all false
set_option maxHeartbeats 0
set_option maxRecDepth 20000
open List renaming getD_eq_getElem?_getD→aA,getElem?_eq_getElem→bT,take_of_length_le→fP
open Go Go.Am Go.Proofs
namespace T
def aew:fF []=[]:=rfl
def aex(ρ:Nat->Nat)(n:Nat):bH ρ (.arr n [])=.arr n []:=rfl
def VN(m:aj)(hm:VM m)(hp:fo m<=1000)(l:List Int)(hl:pZ m l):∃pa b t,an Tryz.prog 66 [.agg (av m),.tree 1 (ints l)] [] (.bO [.agg [pa,aa3 t,aa3 b,.tree 5 (rowsOf cN (tryD (bA m l)).nodes)],aa3 0]) [] /\
  eO pa=true/\b7 pa=true/\(∀ ρ,aX ρ pa=pa)/\(iA m l=true->pa=.tree 1 (ints (tryD (bA m l)).plan)):=by
 have h:=NJ m hm l hl;have hv:VM (bA m l):=sv hm _;have cE:fo (bA m l)<=1000:=by rw[yh hm];exact hp
 have hf:=Ag hv cE;have hk:iA m l=true->(tryD (bA m l)).aU<1099511627776:=λhb=>(Gn hv cE λe=>by
  have:=hf.2.2.1 e;unfold iA at hb;rw[decide_eq_true_eq]at hb;exact this hb).2.2
 generalize bA m l=r at *;unfold Aj at h;rw[if_pos hf.1,hf.1]at h;exact⟨_,_,_,h,uV rfl,Ai _,Ah _,λhb=>by unfold dw;rw[if_pos (hk hb)]⟩
def YS(m:aj)(hm:MB m)(hp:VM m->fo m<=1000):an Tryz.prog 31 [.agg (av m)] [] (.bO [.agg (qZ (oZ m).1),aa3 (oZ m).2]) []:=by
 have h1:=p5 m hm;by_cases hv:eJ m=0;rotate_left
 ·rw[show oZ m=(qY,eJ m) by unfold oZ;rw[if_pos hv]];generalize eJ m=e at *;refine an.aF 69 0 [.cell 2 59,.tmp 3] Tryz.func31 ?_;((repeat'(first|refine Vd X0 h1 ?_|(refine Xi ?_ ?_<;>try intro ht)|exact Xx|fail)))
  simp(disch:=omega)only[Ac,↓Pc,simprocAttr,rowOf];refine du [] true aab trivial aab aab (aE.qF (aE.agg _ _ rfl (dS.spec (R:=aE _ _ _ _) (cs:=qZ qY) (ds:=[.lit (.slice none 0 0),.lit (.slice none 0 0),.lit (.slice none 0 0)]) ⟨.snap _ _ rfl (.nil 1),.snap _ _ rfl (.nil 5),.snap _ _ rfl (.nil 1),trivial⟩).2) (.pure rfl))
 have dH:=fc.1 hv;have hp:=hp dH;have h2:=VO m dH;by_cases hr:(ic m).2=0;rotate_left
 ·rw[show oZ m=(qY,(ic m).2) by unfold oZ;rw[if_neg I6,if_pos hr]];rw[hv]at h1;generalize ic m=rd at *;refine an.aF 69 0 [.cell 2 59,.tmp 3] Tryz.func31 ?_;((repeat'(first|refine Vd @bne_self_eq_false.{0} (X2 h1 h2) ?_|(refine Xi ?_ ?_<;>try intro ht)|exact Xx|fail)))
  simp(disch:=omega)only[Ac,↓Pc,simprocAttr,rowOf];refine du [] true aab trivial aab aab (aE.qF (aE.agg _ _ rfl (dS.spec (R:=aE _ _ _ _) (cs:=qZ qY) (ds:=[.lit (.slice none 0 0),.lit (.slice none 0 0),.lit (.slice none 0 0)]) ⟨.snap _ _ rfl (.nil 1),.snap _ _ rfl (.nil 5),.snap _ _ rfl (.nil 1),trivial⟩).2) (.pure rfl))
 have cD:=CX dH hp hr;rw[show oZ m=(lK m (ic m).1,0) by unfold oZ;rw[if_neg I6,if_neg I6]];rw[hv]at h1;rw[hr]at h2;have ou:=cD.ru dH;generalize (ic m).1=l at *;obtain⟨pa,b,t,h3,n1,s1,r1,_⟩:=VN m dH hp l ou;unfold lK qZ;dsimp only;have iT:=ou.1;generalize hP:(tryD (bA m l)).nodes=P at *;refine an.aF 69 0 [.cell 2 59,.tmp 3] Tryz.func31 ?_;((repeat'(first|refine Vc X0 h1 ?_|(refine Xi ?_ ?_<;>try intro ht)|exact Xx|fail))<;>try with_reducible intro K hK)
 (refine Xn [] (h2) ?_;simp(disch:=omega)only[Ac,↓Pc,simprocAttr])
 ((try revert hK K);(repeat'(first|refine Va X0 ?_|(refine Xi ?_ ?_<;>try intro ht)|exact Xx|fail))<;>try with_reducible intro K hK)
 (refine Xn [] (h3) ?_;simp(disch:=omega)only[Ac,↓Pc,simprocAttr,r1])
 ((try revert hK K);(repeat'(first|refine Va (X3 @s1 @r1 @bne_self_eq_false.{0}) ?_|(refine Xi ?_ ?_<;>try intro ht)|exact Xx|fail)))
 refine bP (aB.kN 3 2 1 rfl rfl aab) ?_;refine bP (aB.oo 1 0 (cells:=av m) aa2 (by simp only[Kc,simprocAttr]) (by simp[av])) ?_;clear h1 h2 h3 n1 s1 r1;generalize hS:(l.map λn=>(tryD (bA m (cY l n))).plan)=S;have Tg:S.length=l.length:=by rw[<- hS,List.length_map]
 refine aW (λi:Nat=>(⟨ax [(1,.cq (av m)),(2,.ptr 0 0 0),(5,.tree 1 (ints l)),(8,.ptr 1 0 0),(42,.tree 1 (ints l)),(43,aa3 l.length),(44,aa3 i)],[.var [.lit (.slice none 0 0),.lit (.slice none 0 0),.lit (.slice none 0 0)],.var [.tree 1 (ints l),.tree 5 (rowsOf cN P),.ref 2 1 0 i],.arr 1 (fF (S.take i))]⟩:St))
  (λi=>i<=l.length) (λi=>l.length-i) 0 (Nat.zero_le _) (by rw[List.take_zero];exact Xs false [1,3,4] (X2 @aew @aex)) ?_
 rintro i hi Ql aq au;by_cases hi':i<l.length
 ·have hw:=Gt l (l.getD i 0) ou.1;have wH:=ou.cY (l.getD i 0);obtain⟨pa,b,t,h3,n1,s1,r1,hq⟩:=VN m dH hp _ wH;have C0:=hq (cD.one _ (aC hi'));subst C0;clear hq n1 s1 r1;have ey:=iB (l:=S) (k:=i) I6;have hSi:S.getD i default=(tryD (bA m (cY l (l.getD i 0)))).plan:=by
   rw[<- hS,aA,List.getElem?_map,bT hi',aA,bT hi'];rfl
  rw[<- hSi]at h3;generalize bG:l.getD i 0=n at *;generalize (tryD (bA m (cY l n))).nodes=P2 at *;generalize cY l n=lw at *;generalize S.getD i default=q at *;repeat'(first|((fail_if_success (first|refine eG 14 ?_|refine eH 14 ?_));refine Xr @bG ?_;intro K hK)|(refine hK _ ?_;clear hK K)|(refine Xi ?_ ?_<;>try intro ht)|refine Xy ?_|refine Xd ?_ ?_|exact Xx|fail)
  refine lg [0,3,4] (.take 0 (.take 1 (.take 2 (.take 3 (.take 4 (.take 5 (.take 6 (.take 7 (.take 8 (.take 9 (.take 10 .nil))))))))))) rfl aab (by decide +kernel) ?_;simp(disch:=omega)only[Ac,↓Pc,simprocAttr,Pw,↓Lq,av];refine bF hw rfl rfl ?_;simp(disch:=omega)only[Ac,↓Pc,simprocAttr,Pw,↓Lq,av];refine bF h3 rfl rfl ?_;simp(disch:=omega)only[Ac,↓Pc,simprocAttr,Pw,↓Lq,av];repeat(refine Xu ?_)
  have yS:(fF (S.take i)).length=i:=by rw[pN,List.length_take];omega
  have hTt:(fF (S.take i)).take i=fF (S.take i):=fP I6;have hTa:fF (S.take i)++[[.tree 1 (ints q)]]=fF (S.take (i+1)):=by rw[ey,E9]
  clear ey;((repeat'(first|refine Va (X4 @bne_self_eq_false.{0} @yS @hTt @hTa) ?_|(refine Xi ?_ ?_<;>try intro ht)|exact Xx|fail)))
  all_goals exact aq _ (i+1) I6 I6 (Xs false [0,1,5] X0)
 ·obtain rfl:i=l.length:=I6;rw[fP I6];((repeat'(first|refine Va X0 ?_|(refine Xi ?_ ?_<;>try intro ht)|exact Xx|fail)))
  refine au _ _ rfl ?_;clear aq au Ql;repeat(refine Xu ?_)
  refine Vb X0 ?_;simp(disch:=omega)only[Ac,↓Pc,simprocAttr,rowOf];refine du [] true aab trivial aab aab (aE.qF (aE.agg _ _ rfl (dS.spec (R:=aE _ _ _ _) (cs:=[.tree 1 (ints l),.tree 5 (rowsOf cN P),.tree 1 (fF S)]) (ds:=[.tree 1 (ints l),.tree 5 (rowsOf cN P),.ref 2 1 0 l.length]) ⟨.pure rfl,.pure rfl,aE.bS rfl (JZ _) (by rw[pN,Tg]) (gG Jd) (JY _),trivial⟩).2) (.pure rfl))
end T

