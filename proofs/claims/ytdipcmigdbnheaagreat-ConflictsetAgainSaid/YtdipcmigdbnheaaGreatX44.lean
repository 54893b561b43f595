import Derived.Test.YtdipcmigdbnheaaGreatX39
import Derived.Test.YtdipcmigdbnheaaGreatX40
import Derived.Test.YtdipcmigdbnheaaGreatX42
import Derived.Test.YtdipcmigdbnheaaGreatX33
import Derived.Test.YtdipcmigdbnheaaGreatX43
set_option linter.all false
set_option maxHeartbeats 0
set_option maxRecDepth 20000
open Nat renaming le_refl→aG
open List renaming mem_append→cj,ext_getElem?→mZ,getElem?_eq_none→eE,range→aN
open Go Go.Am Go.Proofs
namespace T
def Ah(s:DS)(ρ:Nat->Nat):aX ρ (dw (.lit (.slice none 0 0)) 1099511627776 s)=dw (.lit (.slice none 0 0)) 1099511627776 s:=by unfold dw;split<;>rfl
def Ai(s:DS):b7 (dw (.lit (.slice none 0 0)) 1099511627776 s)=true:=by unfold dw;split<;>rfl
def Y5(m:aj)(hm:VM m)(hw:(bw (aH m)).whole=true):an Tryz.prog 18 [.agg (av m)] [] (.bO [tD (bw (aH m)),aa3 0]) []:=by
 have h1:=NF m hm;have h2:=NG (aH m) (sy hm) hw;have jn:=Ah (bw (aH m));have km:=Ai (bw (aH m));have ow:=uV (pv:=.lit (.slice none 0 0)) (t0:=1099511627776) (s:=bw (aH m)) rfl;unfold tD at *;generalize dw (.lit (.slice none 0 0)) 1099511627776 (bw (aH m))=pa at *;generalize bw (aH m)=s at *;generalize aH m=b at *;refine an.aF 19 0 [.cell 2 41,.tmp 3] Tryz.func18 ?_;((repeat'(first|refine Vd @bne_self_eq_false.{0} h1 ?_|(refine Xi ?_ ?_<;>try intro ht)|exact Xx|fail))<;>try with_reducible intro K hK)
 (refine Xn [] (h2) ?_;simp(disch:=omega)only[Ac,↓Pc,simprocAttr,jn])
 ((try revert hK K);(refine Vb (X2 @km @jn) ?_))
 all_goals
  simp(disch:=omega)only[Ac,↓Pc,simprocAttr,rowOf];exact aO (by simp[eO,gF,ow]) rfl
def Y6(m:aj)(hm:VM m)(hw:(bw (aH m)).whole=false):an Tryz.prog 18 [.agg (av m)] [] (.bO [wJ,aa3 61]) []:=by
 have h1:=NF m hm;have h2:=NH (aH m) (sy hm) hw;unfold wJ at *;generalize aH m=b at *;refine an.aF 19 0 [.cell 2 41,.tmp 3] Tryz.func18 ?_;((repeat'(first|refine Vd @bne_self_eq_false.{0} (X2 h1 h2) ?_|(refine Xi ?_ ?_<;>try intro ht)|exact Xx|fail)))
 all_goals
  simp(disch:=omega)only[Ac,↓Pc,simprocAttr,rowOf];exact aO rfl rfl
def Y7(x n:Int):an Tryz.prog 111 ([aa3 x]++[.cq [aa3 n]]) [] (.lit (.bool (x==n))) []:=by
 simp only[List.cons_append,List.nil_append];refine an.aF 7 0 [.tmp 3] Tryz.func111 ?_;refine Vb X0 ?_;exact aO rfl rfl
def Y8(g:FuncId)(aT:List AV):an Tryz.prog 109 [.tree 1 [],.fn g aT] [] (.tree 1 []) []:=by
 have gx:=NI [] g aT [] (λ_=>true) aab (λx hx=>by cases hx);rw[show dV (λ_:Int=>true) 0 [] = -1 from rfl,show ints []=[] from rfl]at gx;refine an.aF 42 0 [.tmp 4] Tryz.func109 ?_;((refine Va X0 ?_)<;>try with_reducible intro K hK)
 refine lh gx (aG _) ?_;simp(disch:=omega)only[Ac,↓Pc,simprocAttr];((try revert hK K);(repeat'(first|refine Vb X0 ?_|(refine Xi ?_ ?_<;>try intro ht)|exact Xx|fail)))
 exact aO rfl rfl
def Gt(l:List Int)(n:Int)(hl:l.length<=1000):an Tryz.prog 67 [.tree 1 (ints l),aa3 n] [] (.tree 1 (ints (cY l n))) []:=by
 refine an.aF 9 0 [.tmp 4] Tryz.func67 ?_;repeat'(first|((fail_if_success (first|refine eG 1 ?_|refine eH 1 ?_));refine Xr X0 ?_;intro K hK)|(refine hK _ ?_;clear hK K)|refine Xy ?_|fail)
 refine bP (aB.oo 3 0 (cells:=[aa3 n]) aa2 (by simp only[Kc,simprocAttr]) Jd) ?_;refine bP (σ':=⟨ax [(0,.tree 1 (ints l)),(3,.cq [aa3 n])],[]⟩) (Xs false [] X0) ?_;rcases Nat.eq_zero_or_pos l.length with h0|h0
 ·obtain rfl:=List.eq_nil_of_length_eq_zero h0;have hc:=Y9;have hd:=Y8 111 [.cq [aa3 n]];rw[show cY [] n=[] from rfl,show ints []=[] from rfl];((refine Vc X0 hc ?_)<;>try with_reducible intro K hK)
  refine g9 [] hd aab trivial ⟨.pure rfl,.pure rfl,trivial⟩ ?_;simp(disch:=omega)only[Ac,↓Pc,simprocAttr];((try revert hK K);(refine Vb X0 ?_))
  exact aO rfl rfl
 ·have hc:=Y' l h0 I6;have hd:=Za l [] 111 [.cq [aa3 n]] (λx=>x==n) [.arr 1 (ints l)] 0 (by rw[List.append_nil];rfl) (λrow hr=>by cases hr) I6 rfl (λx _=>Y7 x n);refine qW 3 aab _ rfl ?_;intro K hK;simp(disch:=omega)only[Ac,↓Pc,simprocAttr,List.take,List.drop];(refine Xn [] (hc) ?_;simp(disch:=omega)only[Ac,↓Pc,simprocAttr])
  refine⟨rfl,(show ma Tryz.prog 109 [.ref 0 1 0 l.length,.fn 111 [.cq [aa3 n]]] (some 8) _ _ from ?_)⟩;refine uS hd ?_;rintro r ob⟨rfl,q6,oy,aP,nw⟩;refine⟨q6.1,?_⟩;have iz:=(List.getElem?_eq_some_iff.1 aP).1;simp(disch:=omega)only[Ac,↓Pc,simprocAttr];refine hK _ ?_;clear hK K;repeat(refine Xu ?_)
  refine Vb X0 ?_;refine du [] true aab trivial aab aab (.snap _ _ rfl ?_);show b9 _ _ (.tree 1 (rowsOf gU (cY l n))) (.ref 0 1 0 (cY l n).length);have hO:fL 1 ob 0 ob.length (.ref 0 1 0 (cY l n).length) (rowsOf gU (cY l n)):=.inr ⟨0,oy,by rw[bW],aG _,iz,aP,λrow hr=>by
   rcases cj.1 hr with h|h
   ·exact eF _ row h
   ·exact nw row h⟩
  exact fL.bS hO (λi _ _=>gG Jd) (jh _)
def Ny{R:Int}{xs:List Int}{n:Int}(h0:0<=n)(h1:n<R):(gv R xs).set n.toNat true=gv R (xs++[n]):=by
 apply mZ;intro i;unfold gv;rw[List.getElem?_set];by_cases hi:i<R.toNat
 ·rw[o6 _ hi,o6 _ hi];by_cases e:n.toNat=i
  ·rw[if_pos e,if_pos (by simpa using by omega)];congr 1;rw[eq_comm,List.contains_eq_mem,decide_eq_true_eq,cj];right;simp;omega
  ·rw[if_neg e];congr 1;rw[List.contains_eq_mem,List.contains_eq_mem,decide_eq_decide,cj];constructor
   ·exact .inl
   ·rintro(h|h)
    ·exact h
    ·simp at h;omega
 ·rw[eE (l:=(aN R.toNat).map λ(i:Nat)=>(xs++[n]).contains (i:Int)) (by simpa using hi)];split
  ·rename_i e;rw[if_neg aaZ]
  ·exact eE (by simpa using hi)
def Nx(R:Int):gv R []=List.replicate R.toNat false:=by
 unfold gv;apply mZ;intro i;rw[List.getElem?_replicate];split
 ·rename_i h;rw[o6 _ h];rfl
 ·rename_i h;exact eE (by simpa using h)
def Gr(m:aj)(hm:VM m)(l:List Int)(hl:pZ m l):an Tryz.prog 70 [.tree 1 (ints l),.agg (av m)] [] (.tree 1 (aY (gv m.rules l))) []:=by
 have hr:=hm.iS;have nu:=hl.2;have iT:=hl.1;refine an.aF 22 0 [.tmp 4] Tryz.func70 ?_;refine Va X0 ?_;refine aW (λz:Nat=>(⟨ax [(5,.ref 1 1 0 m.rules.toNat),(11,.tree 1 (ints l)),(12,aa3 l.length),(13,aa3 z)],[.var (av m),.arr 1 (aY (gv m.rules (l.take z)))]⟩:St)) (λz=>z<=l.length) (λz=>l.length-z) 0 (Nat.zero_le _) (by rw[List.take_zero,Nx];exact Xv @av.eq_1) ?_;intro k hk Ql aq au;have cr:=yi m.rules (l.take k);by_cases aJ:k<l.length
 ·have hx:=nu _ (aC (l:=l) (d:=0) aJ);have ey:l.take (k+1)=l.take k++[l.getD k 0]:=iB aJ;have gr:=Ny (xs:=l.take k) hx.1 hx.2;rw[<- ey]at gr;generalize bG:l.getD k 0=x at *;generalize gv m.rules (l.take k)=bs at *;((repeat'(first|refine Va (X3 @bG @cr @gr) ?_|(refine Xi ?_ ?_<;>try intro ht)|exact Xx|fail)))
  all_goals try omega
  exact aq _ (k+1) I6 I6 (Xv @av.eq_1)
 ·obtain rfl:k=l.length:=I6;rw[List.take_length]at cr ⊢;((repeat'(first|refine Va X0 ?_|(refine Xi ?_ ?_<;>try intro ht)|exact Xx|fail)))
  refine au _ _ rfl ?_;clear aq au Ql;repeat(refine Xu ?_)
  generalize gv m.rules l=bs at *;refine Vb X0 ?_;exact du [] true aab trivial aab aab (aE.bS (rows:=aY bs) rfl (zt _) (by rw[vZ,cr]) (gG aab) (B1 _))
def Zb(m:aj)(hm:VM m):an Tryz.prog 108 [.agg (av m)] [] (.tree 1 (ints (fq m))) []:=by
 have hr:=hm.iS;unfold fq;refine an.aF 17 0 [.tmp 2] Tryz.func108 ?_;refine Va X0 ?_;refine aW (λz:Nat=>(⟨ax [(3,.ref 1 1 0 ((aN z).map λ(i:Nat)=>(i:Int)).length),(7,aa3 m.rules),(8,aa3 z)],[.var (av m),.arr 1 (ints ((aN z).map λ(i:Nat)=>(i:Int)))]⟩:St)) (λz=>(z:Int)<=m.rules) (λz=>m.rules.toNat-z) 0 I6 (Xv @av.eq_1) ?_;intro k hk Ql aq au;have cr:((aN k).map λ(i:Nat)=>(i:Int)).length=k:=Jd;have nf:((aN (k+1)).map λ(i:Nat)=>(i:Int))=((aN k).map λ(i:Nat)=>(i:Int))++[(k:Int)]:=by rw[List.range_succ,List.map_append];rfl
 by_cases aJ:(k:Int)<m.rules
 ·generalize hY:((aN k).map λ(i:Nat)=>(i:Int))=Y at *;((repeat'(first|refine Va X0 ?_|(refine Xi ?_ ?_<;>try intro ht)|exact Xx|fail)))
  all_goals try omega
  exact aq _ (k+1) I6 I6 (by rw[nf];exact Xs false [0,3] @av.eq_1)
 ·obtain rfl:k=m.rules.toNat:=I6;generalize ((aN m.rules.toNat).map λ(i:Nat)=>(i:Int))=Y at *;((repeat'(first|refine Va X0 ?_|(refine Xi ?_ ?_<;>try intro ht)|exact Xx|fail)))
  refine au _ _ rfl ?_;clear aq au Ql;repeat(refine Xu ?_)
  refine Vb X0 ?_;exact du [] true aab trivial aab aab (aE.bS (rows:=ints Y) rfl (pO _) (by rw[ni]) (gG aab) (qD _))
def wE{m:aj}(hm:VM m)(l:List Int):VM (bA m l):=sv hm _
def Gs(m:aj)(hm:VM m)(l:List Int):an Tryz.prog 69 [.agg (av m),.tree 1 (aY (gv m.rules l))] [] (.bO [.agg (av (bA m l)),aa3 0]) []:=by
 have hr:=hm.iS;have h:=Zc m (gv m.rules l) hm.mb (by rw[yi];omega);rw[show p7 m (gv m.rules l)=(fX m (gv m.rules l),0) by unfold p7;rw[if_neg (by rw[fc.2 hm];simp),if_neg (by rw[yi];omega)]]at h;exact h
def Aj(r:aj):AV:=if mM r=0 then tD (tryD r) else wJ
def Zd{r:aj}{q:List Int}(h:FP (aH r) q):FP r q:=⟨by rw[<- oz r];exact h.len,λj hj=>by rw[<- Ak r];exact h.get j hj⟩
def Ze{r:aj}(hr:VM r):oA r (bw r).plan (bw r).aU:=(yj hr (spl:=20000) aab (p0:=[]) (t0:=1099511627776) (.inl ⟨rfl,rfl⟩)).1
def NJ(m:aj)(hm:VM m)(l:List Int)(hl:pZ m l):an Tryz.prog 66 [.agg (av m),.tree 1 (ints l)] [] (.bO [Aj (bA m l),aa3 (mM (bA m l))]) []:=by
 have h1:=Gr m hm l hl;have h2:=Gs m hm l;have nC:=wE hm l;generalize ao:Aj (bA m l)=res;generalize o7:mM (bA m l)=ree;generalize gv m.rules l=kb at *;generalize bA m l=r at *;refine an.aF 53 0 [.cell 4 41,.tmp 5] Tryz.func66 ?_;repeat'(first|((fail_if_success (first|refine eG 1 ?_|refine eH 1 ?_));refine Xr X0 ?_;intro K hK)|(refine hK _ ?_;clear hK K)|refine Xy ?_|fail)
 refine bP (aB.oo 2 0 (cells:=av m) aa2 (by simp only[Kc,simprocAttr]) (by simp[av])) ?_;refine bP (σ':=⟨ax [(1,.tree 1 (ints l)),(2,.cq (av m)),(4,.ptr 0 0 0),(5,aa3 0)],[.var [.lit (.slice none 0 0),aa3 0,aa3 0,.lit (.slice none 0 0)]]⟩) (Xs false [1] X0) ?_;refine lg [0,2,3,4] (.take 0 (.take 1 (.take 2 (.take 3 (.take 4 (.take 5 (.take 6 (.take 7 (.take 8 (.take 9 (.take 10 .nil))))))))))) rfl aab (by decide +kernel) ?_;simp(disch:=omega)only[Ac,↓Pc,simprocAttr,Pw,↓Lq,av];refine bF h1 rfl rfl ?_;simp(disch:=omega)only[Ac,↓Pc,simprocAttr,Pw,↓Lq,av];refine bF h2 rfl rfl ?_;simp(disch:=omega)only[Ac,↓Pc,simprocAttr,Pw,↓Lq,av];repeat(refine Xu ?_)
 clear h1 h2;refine bP (σ':=⟨ax [(4,.ptr 0 0 0),(6,.ptr 1 0 0),(7,aa3 0)],[.var [.lit (.slice none 0 0),aa3 0,aa3 0,.lit (.slice none 0 0)],.var (av r)]⟩) (Xs false [0,1] @av.eq_1) ?_;unfold Aj at ao;unfold mM at ao o7;cases hw:(bw (aH r)).whole
 ·rw[if_pos hw]at ao o7;rw[if_neg aab]at ao;have h3:=Y6 r nC hw;unfold wJ at *;((repeat'(first|refine Vd @bne_self_eq_false.{0} h3 ?_|(refine Xi ?_ ?_<;>try intro ht)|exact Xx|fail)))
  all_goals
   simp(disch:=omega)only[Ac,↓Pc,simprocAttr,rowOf];subst ao o7;exact aO rfl rfl
 have nw:¬ (bw (aH r)).whole=false:=by rw[hw];simp
 rw[if_neg nw]at ao o7;have h3:=Y5 r nC hw;have jn:=Ah (bw (aH r));have km:=Ai (bw (aH r));have ow:=uV (pv:=.lit (.slice none 0 0)) (t0:=1099511627776) (s:=bw (aH r)) rfl;have uW:=Ze (sy nC);unfold tryD at ao;unfold tD at h3;by_cases ht:(bw (aH r)).aU=1099511627776
 ·have hT:uX r:=.inl ht;simp only[if_pos hT,↓reduceIte]at ao o7;unfold tD at ao;generalize dw (.lit (.slice none 0 0)) 1099511627776 (bw (aH r))=pa at *;clear hT;generalize bw (aH r)=s at *;((repeat'(first|refine Va @bne_self_eq_false.{0} ?_|(refine Xi ?_ ?_<;>try intro ht)|exact Xx|fail))<;>try with_reducible intro K hK)
  (refine Xn [] (h3) ?_;simp(disch:=omega)only[Ac,↓Pc,simprocAttr,jn])
  ((try revert hK K);(repeat'(first|refine Vb (X3 @km @jn @bne_self_eq_false.{0}) ?_|(refine Xi ?_ ?_<;>try intro ht)|exact Xx|fail)))
  all_goals
   simp(disch:=omega)only[Ac,↓Pc,simprocAttr,rowOf];subst ao o7;exact aO (by simp[eO,gF,ow]) rfl
 obtain⟨wK,NK,bq⟩:=uW.resolve_left (λh=>ht h.2);have dE:=Zd wK;have C0:dw (.lit (.slice none 0 0)) 1099511627776 (bw (aH r))=.tree 1 (ints (bw (aH r)).plan):=by unfold dw;rw[if_pos bq]
 have cy:=nC.cls;have h4:=NC r (bw (aH r)).plan nC.mb (by rw[dE.len];omega);rw[NL nC dE.pm]at h4;dsimp only at h4;rw[C0]at h3;by_cases gI:fM r (bw (aH r)).plan<1099511627776
 ·have hT:uX r:=.inr gI;simp only[if_pos hT,↓reduceIte]at ao o7;unfold tD at ao;rw[C0]at ao;unfold fM at gI;clear hT uW wK NK jn km ow;generalize jO (iC r (bw (aH r)).plan) 0=tt at *;generalize iC r (bw (aH r)).plan=rl at *;generalize bw (aH r)=s at *;((repeat'(first|refine Vd @bne_self_eq_false.{0} (X2 h3 h4) ?_|(refine Xi ?_ ?_<;>try intro ht)|exact Xx|fail)))
  all_goals
   simp(disch:=omega)only[Ac,↓Pc,simprocAttr,rowOf];subst ao o7;exact aO rfl rfl
 ·have hT:¬ uX r:=λh=>h.elim ht gI;simp only[if_neg hT]at ao o7;unfold fM at gI;clear hT uW wK NK jn km ow;cases C1:(bw r).whole
  ·have h5:=NH r nC C1;simp only[if_pos C1]at ao o7;rw[if_neg aab]at ao;unfold wJ at *;generalize jO (iC r (bw (aH r)).plan) 0=tt at *;generalize iC r (bw (aH r)).plan=rl at *;generalize bw (aH r)=s at *;((repeat'(first|refine Vd @bne_self_eq_false.{0} (X3 h3 h4 h5) ?_|(refine Xi ?_ ?_<;>try intro ht)|exact Xx|fail)))
   all_goals
    simp(disch:=omega)only[Ac,↓Pc,simprocAttr,rowOf];subst ao o7;exact aO rfl rfl
  ·have h5:=NG r nC C1;have Zg:¬ (bw r).whole=false:=by rw[C1];simp
   simp only[if_neg Zg,↓reduceIte]at ao o7;have jn:=Ah (bw r);have km:=Ai (bw r);have ow:=uV (pv:=.lit (.slice none 0 0)) (t0:=1099511627776) (s:=bw r) rfl;unfold tD at ao h5;generalize dw (.lit (.slice none 0 0)) 1099511627776 (bw r)=pa at *;generalize jO (iC r (bw (aH r)).plan) 0=tt at *;generalize iC r (bw (aH r)).plan=rl at *;generalize bw (aH r)=s at *;generalize bw r=s2 at *;((repeat'(first|refine Vc @bne_self_eq_false.{0} (X2 h3 h4) ?_|(refine Xi ?_ ?_<;>try intro ht)|exact Xx|fail))<;>try with_reducible intro K hK)
   (refine Xn [] (h5) ?_;simp(disch:=omega)only[Ac,↓Pc,simprocAttr,jn])
   ((try revert hK K);(refine Vb (X2 @km @jn) ?_))
   all_goals
    simp(disch:=omega)only[Ac,↓Pc,simprocAttr,rowOf];subst ao o7;exact aO (by simp[eO,gF,ow]) rfl
end T

