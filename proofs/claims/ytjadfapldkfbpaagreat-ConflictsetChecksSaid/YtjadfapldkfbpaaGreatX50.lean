import Derived.Test.YtjadfapldkfbpaaGreatX38
import Derived.Test.YtjadfapldkfbpaaGreatX45
import Derived.Test.YtjadfapldkfbpaaGreatX48
import Derived.Test.YtjadfapldkfbpaaGreatX49
import Derived.Test.YtjadfapldkfbpaaGreatX47
set_option linter.all false
set_option maxHeartbeats 0
set_option maxRecDepth 20000
open Nat renaming le_refl→aR,zero_le→aF,add_sub_cancel→BT,sub_self→jv
open List renaming mem_append→cz,ext_getElem?→jR,getElem?_eq_none→ei,range→aZ,take_zero→ky,take_length→sH
open Bool renaming false_and→jE,true_and→eX
open And renaming intro→cI
open Go Go.Am Go.Proofs
namespace T
def Fv(s:DS)(ρ:Nat->Nat):br ρ (eS (.lit (.slice none 0 0)) 1099511627776 s)=eS (.lit (.slice none 0 0)) 1099511627776 s:=by unfold eS;split<;>rfl
def Fw(s:DS):cJ (eS (.lit (.slice none 0 0)) 1099511627776 s)=true:=by unfold eS;split<;>rfl
def ahm(m:ah)(hm:VM m)(hw:(dY (db m)).whole=true):an Tryz.prog 50 [.agg (ao m)] [] (.bH [yf (dY (db m)),aaa 0]) []:=by
 have h1:=Y6 m hm;have h2:=Y7 (db m) (Fx hm) hw;have km:=Fv (dY (db m));have mu:=Fw (dY (db m));have r9:=zA (pv:=.lit (.slice none 0 0)) (t0:=1099511627776) (s:=dY (db m)) rfl;unfold yf at *;generalize eS (.lit (.slice none 0 0)) 1099511627776 (dY (db m))=pa at *;generalize dY (db m)=s at *;generalize db m=b at *;refine an.aC 19 0 [.cell 2 77,.tmp 3] Tryz.func50 ?_;((repeat'(first|refine Vd @bne_self_eq_false.{0} h1 ?_|(refine Xi ?_ ?_<;>try intro ht)|exact Xx|fail))<;>try with_reducible intro K hK)
 (refine Xn [] (h2) ?_;simp(disch:=omega)only[Ac,↓Pc,simprocAttr,km])
 ((try revert hK K);(refine Vb (X2 @mu @km) ?_))
 all_goals
  simp(disch:=omega)only[Ac,↓Pc,simprocAttr,rowOf];exact aE (by simp[gQ,jl,r9]) rfl
def ahn(m:ah)(hm:VM m)(hw:(dY (db m)).whole=false):an Tryz.prog 50 [.agg (ao m)] [] (.bH [wK,aaa 61]) []:=by
 have h1:=Y6 m hm;have h2:=Y8 (db m) (Fx hm) hw;unfold wK at *;generalize db m=b at *;refine an.aC 19 0 [.cell 2 77,.tmp 3] Tryz.func50 ?_;((repeat'(first|refine Vd @bne_self_eq_false.{0} (X2 h1 h2) ?_|(refine Xi ?_ ?_<;>try intro ht)|exact Xx|fail)))
 all_goals
  simp(disch:=omega)only[Ac,↓Pc,simprocAttr,rowOf];exact aE rfl rfl
def aho(x n:Int):an Tryz.prog 54 ([aaa x]++[.bm [aaa n]]) [] (.lit (.bool (x==n))) []:=by
 simp only[List.cons_append,List.nil_append];refine an.aC 7 0 [.tmp 3] Tryz.func54 ?_;refine Vb X0 ?_;exact aE rfl rfl
def ahp(g:FuncId)(a6:List AV):an Tryz.prog 52 [.tree 1 [],.fn g a6] [] (.tree 1 []) []:=by
 have eM:=Y9 [] g a6 [] (λ_=>true) Kq (λx hx=>by cases hx);rw[show dH (λ_:Int=>true) 0 [] = -1 from rfl,show ints []=[] from rfl]at eM;refine an.aC 42 0 [.tmp 4] Tryz.func52 ?_;((refine Va X0 ?_)<;>try with_reducible intro K hK)
 refine il eM (aR _) ?_;simp(disch:=omega)only[Ac,↓Pc,simprocAttr];((try revert hK K);(repeat'(first|refine Vb X0 ?_|(refine Xi ?_ ?_<;>try intro ht)|exact Xx|fail)))
 exact aE rfl rfl
def M'(l:List Int)(n:Int)(hl:l.length<=1000):an Tryz.prog 23 [.tree 1 (ints l),aaa n] [] (.tree 1 (ints (df l n))) []:=by
 refine an.aC 9 0 [.tmp 4] Tryz.func23 ?_;repeat'(first|((fail_if_success (first|refine dE 1 ?_|refine dF 1 ?_));refine Xr X0 ?_;intro K hK)|(refine hK _ ?_;clear hK K)|refine Xy ?_|fail)
 refine bD (ay.jf 3 0 (cells:=[aaa n]) P5 (by simp only[Kc,simprocAttr]) G9) ?_;refine bD (σ':=⟨au [(0,.tree 1 (ints l)),(3,.bm [aaa n])],[]⟩) (Xs false [] X0) ?_;rcases Nat.eq_zero_or_pos l.length with h0|h0
 ·obtain rfl:=List.eq_nil_of_length_eq_zero h0;have hc:=ahq;have hd:=ahp 54 [.bm [aaa n]];rw[show df [] n=[] from rfl,show ints []=[] from rfl];((refine Vc X0 hc ?_)<;>try with_reducible intro K hK)
  refine ez [] hd Kq trivial ⟨.pure rfl,.pure rfl,trivial⟩ ?_;simp(disch:=omega)only[Ac,↓Pc,simprocAttr];((try revert hK K);(refine Vb X0 ?_))
  exact aE rfl rfl
 ·have hc:=ahr l h0 G3;have hd:=ahs l [] 54 [.bm [aaa n]] (λx=>x==n) [.arr 1 (ints l)] 0 (by rw[List.append_nil];rfl) (λrow hr=>by cases hr) G3 rfl (λx _=>aho x n);refine sR 3 Kq _ rfl ?_;intro K hK;simp(disch:=omega)only[Ac,↓Pc,simprocAttr,List.take,List.drop];(refine Xn [] (hc) ?_;simp(disch:=omega)only[Ac,↓Pc,simprocAttr])
  refine⟨rfl,(show nF Tryz.prog 52 [.ref 0 1 0 l.length,.fn 54 [.bm [aaa n]]] (some 8) _ _ from ?_)⟩;refine wA hd ?_;rintro r ob⟨rfl,vt,sc,a8,lW⟩;refine⟨vt.1,?_⟩;have fX:=(List.getElem?_eq_some_iff.1 a8).1;simp(disch:=omega)only[Ac,↓Pc,simprocAttr];refine hK _ ?_;clear hK K;repeat(refine Xu ?_)
  refine Vb X0 ?_;refine dr [] true Kq trivial Kq Kq (.snap _ _ rfl ?_);show cG _ _ (.tree 1 (rowsOf jB (df l n))) (.ref 0 1 0 (df l n).length);have hO:iM 1 ob 0 ob.length (.ref 0 1 0 (df l n).length) (rowsOf jB (df l n)):=.inr ⟨0,sc,by rw[bX],aR _,fX,a8,λrow hr=>by
   rcases cz.1 hr with h|h
   ·exact fQ _ row h
   ·exact lW row h⟩
  exact iM.cp hO (λi _ _=>iD G9) (jX _)
def Y'{R:Int}{xs:List Int}{n:Int}(h0:0<=n)(h1:n<R):(jn R xs).set n.toNat true=jn R (xs++[n]):=by
 apply jR;intro i;unfold jn;rw[List.getElem?_set];by_cases hi:i<R.toNat
 ·rw[sZ _ hi,sZ _ hi];by_cases e:n.toNat=i
  ·rw[if_pos e,if_pos (by simpa using by omega)];congr 1;rw[eq_comm,List.contains_eq_mem,decide_eq_true_eq,cz];right;simp;omega
  ·rw[if_neg e];congr 1;rw[List.contains_eq_mem,List.contains_eq_mem,decide_eq_decide,cz];constructor
   ·exact .inl
   ·rintro(h|h)
    ·exact h
    ·simp at h;omega
 ·rw[ei (l:=(aZ R.toNat).map λ(i:Nat)=>(xs++[n]).contains (i:Int)) (by simpa using hi)];split
  ·rename_i e;rw[if_neg PX]
  ·exact ei (by simpa using hi)
def Za(R:Int):jn R []=List.replicate R.toNat false:=by
 unfold jn;apply jR;intro i;rw[List.getElem?_replicate];split
 ·rename_i h;rw[sZ _ h];rfl
 ·rename_i h;exact ei (by simpa using h)
def Na(m:ah)(hm:VM m)(l:List Int)(hl:ng m l):an Tryz.prog 27 [.tree 1 (ints l),.agg (ao m)] [] (.tree 1 (aX (jn m.rules l))) []:=by
 have hr:=hm.iI;have qx:=hl.2;have dI:=hl.1;refine an.aC 22 0 [.tmp 4] Tryz.func27 ?_;refine Va X0 ?_;refine aO (λz:Nat=>(⟨au [(5,.ref 1 1 0 m.rules.toNat),(11,.tree 1 (ints l)),(12,aaa l.length),(13,aaa z)],[.var (ao m),.arr 1 (aX (jn m.rules (l.take z)))]⟩:St)) (λz=>z<=l.length) (λz=>l.length-z) 0 (aF _) (by rw[ky,Za];exact Xv @ao.eq_1) ?_;intro k hk Ql ak ar;have cF:=CU m.rules (l.take k);by_cases aL:k<l.length
 ·have hx:=qx _ (aB (l:=l) (d:=0) aL);have cq:l.take (k+1)=l.take k++[l.getD k 0]:=eJ aL;have iq:=Y' (xs:=l.take k) hx.1 hx.2;rw[<- cq]at iq;generalize aS:l.getD k 0=x at *;generalize jn m.rules (l.take k)=bs at *;((repeat'(first|refine Va (X3 @aS @cF @iq) ?_|(refine Xi ?_ ?_<;>try intro ht)|exact Xx|fail)))
  all_goals try omega
  exact ak _ (k+1) G3 G3 (Xv @ao.eq_1)
 ·obtain rfl:k=l.length:=G3;rw[sH]at cF ⊢;((repeat'(first|refine Va X0 ?_|(refine Xi ?_ ?_<;>try intro ht)|exact Xx|fail)))
  refine ar _ _ rfl ?_;clear ak ar Ql;repeat(refine Xu ?_)
  generalize jn m.rules l=bs at *;refine Vb X0 ?_;exact dr [] true Kq trivial Kq Kq (aI.cp (rows:=aX bs) rfl (D9 _) (by rw[yU,cF]) (iD Kq) (HB _))
def aht(m:ah)(hm:VM m):an Tryz.prog 49 [.agg (ao m)] [] (.tree 1 (ints (ph m))) []:=by
 have hr:=hm.iI;unfold ph;refine an.aC 17 0 [.tmp 2] Tryz.func49 ?_;refine Va X0 ?_;refine aO (λz:Nat=>(⟨au [(3,.ref 1 1 0 ((aZ z).map λ(i:Nat)=>(i:Int)).length),(7,aaa m.rules),(8,aaa z)],[.var (ao m),.arr 1 (ints ((aZ z).map λ(i:Nat)=>(i:Int)))]⟩:St)) (λz=>(z:Int)<=m.rules) (λz=>m.rules.toNat-z) 0 G3 (Xv @ao.eq_1) ?_;intro k hk Ql ak ar;have cF:((aZ k).map λ(i:Nat)=>(i:Int)).length=k:=G9;have kH:((aZ (k+1)).map λ(i:Nat)=>(i:Int))=((aZ k).map λ(i:Nat)=>(i:Int))++[(k:Int)]:=by rw[List.range_succ,List.map_append];rfl
 by_cases aL:(k:Int)<m.rules
 ·generalize hY:((aZ k).map λ(i:Nat)=>(i:Int))=Y at *;((repeat'(first|refine Va X0 ?_|(refine Xi ?_ ?_<;>try intro ht)|exact Xx|fail)))
  all_goals try omega
  exact ak _ (k+1) G3 G3 (by rw[kH];exact Xs false [0,3] @ao.eq_1)
 ·obtain rfl:k=m.rules.toNat:=G3;generalize ((aZ m.rules.toNat).map λ(i:Nat)=>(i:Int))=Y at *;((repeat'(first|refine Va X0 ?_|(refine Xi ?_ ?_<;>try intro ht)|exact Xx|fail)))
  refine ar _ _ rfl ?_;clear ak ar Ql;repeat(refine Xu ?_)
  refine Vb X0 ?_;exact dr [] true Kq trivial Kq Kq (aI.cp (rows:=ints Y) rfl (ny _) (by rw[lh]) (iD Kq) (oa _))
def A8{m:ah}(hm:VM m)(l:List Int):VM (cj m l):=EZ hm _
def Nb(m:ah)(hm:VM m)(l:List Int):an Tryz.prog 26 [.agg (ao m),.tree 1 (aX (jn m.rules l))] [] (.bH [.agg (ao (cj m l)),aaa 0]) []:=by
 have hr:=hm.iI;have h:=ahu m (jn m.rules l) hm.mb (by rw[CU];omega);rw[show tW m (jn m.rules l)=(m5 m (jn m.rules l),0) by unfold tW;rw[if_neg (by rw[iu.2 hm];simp),if_neg (by rw[CU];omega)]]at h;exact h
def CV(r:ah):AV:=if kW r=0 then yf (tryD r) else wK
def ahv{r:ah}{q:List Int}(h:FP (db r) q):FP r q:=⟨by rw[<- A9 r];exact h.len,λj hj=>by rw[<- Zb r];exact h.get j hj⟩
def Nc(m:ah)(hm:VM m)(l:List Int)(hl:ng m l):an Tryz.prog 22 [.agg (ao m),.tree 1 (ints l)] [] (.bH [CV (cj m l),aaa (kW (cj m l))]) []:=by
 have h1:=Na m hm l hl;have h2:=Nb m hm l;have tN:=A8 hm l;generalize aj:CV (cj m l)=res;generalize s5:kW (cj m l)=ree;generalize jn m.rules l=kb at *;generalize cj m l=r at *;refine an.aC 53 0 [.cell 4 77,.tmp 5] Tryz.func22 ?_;repeat'(first|((fail_if_success (first|refine dE 1 ?_|refine dF 1 ?_));refine Xr X0 ?_;intro K hK)|(refine hK _ ?_;clear hK K)|refine Xy ?_|fail)
 refine bD (ay.jf 2 0 (cells:=ao m) P5 (by simp only[Kc,simprocAttr]) (by simp[ao])) ?_;refine bD (σ':=⟨au [(1,.tree 1 (ints l)),(2,.bm (ao m)),(4,.ptr 0 0 0),(5,aaa 0)],[.var [.lit (.slice none 0 0),aaa 0,aaa 0,.lit (.slice none 0 0)]]⟩) (Xs false [1] X0) ?_;refine jb [0,2,3,4] (.take 0 (.take 1 (.take 2 (.take 3 (.take 4 (.take 5 (.take 6 (.take 7 (.take 8 (.take 9 (.take 10 .nil))))))))))) rfl Kq (by decide +kernel) ?_;simp(disch:=omega)only[Ac,↓Pc,simprocAttr,Pw,↓Lq,ao];refine bK h1 rfl rfl ?_;simp(disch:=omega)only[Ac,↓Pc,simprocAttr,Pw,↓Lq,ao];refine bK h2 rfl rfl ?_;simp(disch:=omega)only[Ac,↓Pc,simprocAttr,Pw,↓Lq,ao];repeat(refine Xu ?_)
 clear h1 h2;refine bD (σ':=⟨au [(4,.ptr 0 0 0),(6,.ptr 1 0 0),(7,aaa 0)],[.var [.lit (.slice none 0 0),aaa 0,aaa 0,.lit (.slice none 0 0)],.var (ao r)]⟩) (Xs false [0,1] @ao.eq_1) ?_;unfold CV at aj;unfold kW at aj s5;cases hw:(dY (db r)).whole
 ·rw[if_pos hw]at aj s5;rw[if_neg Kq]at aj;have h3:=ahn r tN hw;unfold wK at *;((repeat'(first|refine Vd @bne_self_eq_false.{0} h3 ?_|(refine Xi ?_ ?_<;>try intro ht)|exact Xx|fail)))
  all_goals
   simp(disch:=omega)only[Ac,↓Pc,simprocAttr,rowOf];subst aj s5;exact aE rfl rfl
 have lW:¬ (dY (db r)).whole=false:=by rw[hw];simp
 rw[if_neg lW]at aj s5;have h3:=ahm r tN hw;have km:=Fv (dY (db r));have mu:=Fw (dY (db r));have r9:=zA (pv:=.lit (.slice none 0 0)) (t0:=1099511627776) (s:=dY (db r)) rfl;have CW:=Nf (Fx tN);unfold tryD at aj;unfold yf at h3;by_cases ht:(dY (db r)).cO=1099511627776
 ·have hT:Ba r:=.inl ht;simp only[if_pos hT,↓reduceIte]at aj s5;unfold yf at aj;generalize eS (.lit (.slice none 0 0)) 1099511627776 (dY (db r))=pa at *;clear hT;generalize dY (db r)=s at *;((repeat'(first|refine Va @bne_self_eq_false.{0} ?_|(refine Xi ?_ ?_<;>try intro ht)|exact Xx|fail))<;>try with_reducible intro K hK)
  (refine Xn [] (h3) ?_;simp(disch:=omega)only[Ac,↓Pc,simprocAttr,km])
  ((try revert hK K);(repeat'(first|refine Vb (X3 @mu @km @bne_self_eq_false.{0}) ?_|(refine Xi ?_ ?_<;>try intro ht)|exact Xx|fail)))
  all_goals
   simp(disch:=omega)only[Ac,↓Pc,simprocAttr,rowOf];subst aj s5;exact aE (by simp[gQ,jl,r9]) rfl
 obtain⟨Fy,bx⟩:=CW.resolve_left (λh=>ht h.2);have dV:=ahv Fy;have Zc:eS (.lit (.slice none 0 0)) 1099511627776 (dY (db r))=.tree 1 (ints (dY (db r)).plan):=by unfold eS;rw[if_pos bx]
 have bY:=tN.cls;have h4:=Zd r (dY (db r)).plan tN.mb (by rw[dV.len];omega);rw[Yx tN dV.pm]at h4;dsimp only at h4;rw[Zc]at h3;by_cases jG:wL r (dY (db r)).plan<1099511627776
 ·have hT:Ba r:=.inr jG;simp only[if_pos hT,↓reduceIte]at aj s5;unfold yf at aj;rw[Zc]at aj;unfold wL at jG;clear hT CW Fy km mu r9;generalize mC (mZ r (dY (db r)).plan) 0=tt at *;generalize mZ r (dY (db r)).plan=rl at *;generalize dY (db r)=s at *;((repeat'(first|refine Vd @bne_self_eq_false.{0} (X2 h3 h4) ?_|(refine Xi ?_ ?_<;>try intro ht)|exact Xx|fail)))
  all_goals
   simp(disch:=omega)only[Ac,↓Pc,simprocAttr,rowOf];subst aj s5;exact aE rfl rfl
 ·have hT:¬ Ba r:=λh=>h.elim ht jG;simp only[if_neg hT]at aj s5;unfold wL at jG;clear hT CW Fy km mu r9;cases I4:(dY r).whole
  ·have h5:=Y8 r tN I4;simp only[if_pos I4]at aj s5;rw[if_neg Kq]at aj;unfold wK at *;generalize mC (mZ r (dY (db r)).plan) 0=tt at *;generalize mZ r (dY (db r)).plan=rl at *;generalize dY (db r)=s at *;((repeat'(first|refine Vd @bne_self_eq_false.{0} (X3 h3 h4 h5) ?_|(refine Xi ?_ ?_<;>try intro ht)|exact Xx|fail)))
   all_goals
    simp(disch:=omega)only[Ac,↓Pc,simprocAttr,rowOf];subst aj s5;exact aE rfl rfl
  ·have h5:=Y7 r tN I4;have hw3:¬ (dY r).whole=false:=by rw[I4];simp
   simp only[if_neg hw3,↓reduceIte]at aj s5;have km:=Fv (dY r);have mu:=Fw (dY r);have r9:=zA (pv:=.lit (.slice none 0 0)) (t0:=1099511627776) (s:=dY r) rfl;unfold yf at aj h5;generalize eS (.lit (.slice none 0 0)) 1099511627776 (dY r)=pa at *;generalize mC (mZ r (dY (db r)).plan) 0=tt at *;generalize mZ r (dY (db r)).plan=rl at *;generalize dY (db r)=s at *;generalize dY r=s2 at *;((repeat'(first|refine Vc @bne_self_eq_false.{0} (X2 h3 h4) ?_|(refine Xi ?_ ?_<;>try intro ht)|exact Xx|fail))<;>try with_reducible intro K hK)
   (refine Xn [] (h5) ?_;simp(disch:=omega)only[Ac,↓Pc,simprocAttr,km])
   ((try revert hK K);(refine Vb (X2 @mu @km) ?_))
   all_goals
    simp(disch:=omega)only[Ac,↓Pc,simprocAttr,rowOf];subst aj s5;exact aE (by simp[gQ,jl,r9]) rfl
structure CB(c:sg):Prop where
 iI:c.rules.length<9223372036854775808
 Bb:c.p6.length<9223372036854775808
 row:∀ p∈c.p6,p.length<9223372036854775808
 sU:PB c.nodes
def ahx{m:ah}{l:List Int}(h:ng m l):df l (-1)=l:=ahy λhx=>by have:=(h.2 _ hx).1;omega
def ahz(m:ah)(hm:MB m)(c:sg)(hc:CB c)(Ze:VM m->ng m c.rules->an Tryz.prog 28 [.agg (ao (cj m c.rules)),.agg (aU c.nodes)] [] (.bH [aaa (lY (cj m c.rules) c.nodes).1,.lit (.bool (lY (cj m c.rules) c.nodes).2)]) []):an Tryz.prog 12 [.agg (ao m),.agg (bO c)] [] (.lit (.bool (wM m c))) []:=by
 have h1:=ud m hm;have cZ:=hc.iI;have dh:=hc.Bb;have ke:=hc.row;have b7:=hc.sU;clear hc;obtain⟨R,P,S⟩:=c;generalize aj:wM m ⟨R,P,S⟩=res;unfold wM at aj;unfold bO;dsimp only at cZ dh ke b7 Ze aj ⊢;by_cases hv:ek m=0;rotate_left
 ·rw[decide_eq_false (λe=>hv e.1),jE]at aj;subst aj;generalize ek m=e at *;refine an.aC 128 0 [.tmp 4] Tryz.func12 ?_;((try revert hK K);(repeat'(first|refine Vd X0 h1 ?_|(refine V2 X0 ?_ ?_<;>try with_reducible intro hb)|(refine Xi ?_ ?_<;>try intro ht)|refine VD ?_ ?_|exact Xx|fail))<;>try with_reducible intro K hK)
  all_goals try(exfalso;omega)
  all_goals exact aE rfl rfl
 by_cases hlen:S.length=R.length;rotate_left
 ·rw[decide_eq_false (λe=>hlen e.2),jE]at aj;subst aj;rw[hv]at h1;refine an.aC 128 0 [.tmp 4] Tryz.func12 ?_;((try revert hK K);(repeat'(first|refine Vd (X2 @bne_self_eq_false.{0} @lj) h1 ?_|(refine V2 (X2 @bne_self_eq_false.{0} @lj) ?_ ?_<;>try with_reducible intro hb)|(refine Xi ?_ ?_<;>try intro ht)|refine VD ?_ ?_|exact Xx|fail))<;>try with_reducible intro K hK)
  all_goals try(exfalso;omega)
  all_goals exact aE rfl rfl
 rw[decide_eq_true ⟨hv,hlen⟩,eX]at aj;rw[hv]at h1;have bP:=iu.1 hv;refine an.aC 128 0 [.tmp 4] Tryz.func12 ?_;((try revert hK K);(repeat'(first|refine Vc (X2 @bne_self_eq_false.{0} @lj) h1 ?_|(refine V2 (X2 @bne_self_eq_false.{0} @lj) ?_ ?_<;>try with_reducible intro hb)|(refine Xi ?_ ?_<;>try intro ht)|refine VD ?_ ?_|exact Xx|fail))<;>try with_reducible intro K hK)
 all_goals try(exfalso;omega)
 refine bD (ay.jf 2 0 (cells:=ao m) P5 (by simp only[Kc,simprocAttr]) (by simp[ao])) ?_;refine bD (ay.jf 3 1 (cells:=bO ⟨R,P,S⟩) P5 (by simp only[Kc,simprocAttr]) (by simp[bO])) ?_;unfold bO;dsimp only;generalize hF:mI (oH m.rules R) R.length 0=fb at *;refine aO (λi:Nat=>(⟨au [(2,.bm (ao m)),(3,.bm [.tree 1 (ints R),.tree 5 (rowsOf az P),.tree 1 (dQ S)]),(32,.tree 1 (ints R)),(33,aaa R.length),(34,aaa i)],[]⟩:St))
  (λi=>i<=R.length/\mI (oH m.rules R) (R.length-i) i=fb) (λi=>R.length-i) 0 ⟨aF _,hF⟩ (Xs false [] @lh) ?_
 rintro i⟨hi,hf⟩Ql ak ar;by_cases hi':i<R.length
 ·rw[show R.length-i=(R.length-(i+1))+1 by omega,mI]at hf;by_cases ha:oH m.rules R i=true
  ·rw[ha,eX]at hf;unfold oH at ha;rw[decide_eq_true_eq]at ha;obtain⟨a1,a2,a3⟩:=ha;cases i with
   |zero =>
    generalize aS:R.getD 0 0=n at *;((try revert hK K);(repeat'(first|refine Va @aS ?_|(refine V2 @aS ?_ ?_<;>try with_reducible intro hb)|(refine Xi ?_ ?_<;>try intro ht)|refine VD ?_ ?_|exact Xx|fail))<;>try with_reducible intro K hK)
    all_goals try(exfalso;omega)
    all_goals exact ak _ 1 ⟨G3,hf⟩ G3 (Xv X0)
   |succ j =>
    have qC:((j+1:Nat):Int)-1=(j:Nat):=G3;rw[BT]at a3;generalize aS:R.getD (j+1) 0=n at *;generalize gA:R.getD j 0=y at *;((try revert hK K);(repeat'(first|refine Va (X3 @aS @gA @qC) ?_|(refine V2 (X3 @aS @gA @qC) ?_ ?_<;>try with_reducible intro hb)|(refine Xi ?_ ?_<;>try intro ht)|refine VD ?_ ?_|exact Xx|fail))<;>try with_reducible intro K hK)
    all_goals try(exfalso;omega)
    all_goals exact ak _ (j+1+1) ⟨G3,hf⟩ G3 (Xv X0)
  ·rw[show oH m.rules R i=false by simpa using ha,jE]at hf;subst hf;rw[jE]at aj;subst aj;unfold oH at ha;rw[decide_eq_true_eq]at ha;cases i with
   |zero =>
    generalize aS:R.getD 0 0=n at *;((try revert hK K);(repeat'(first|refine Va @aS ?_|(refine V2 @aS ?_ ?_<;>try with_reducible intro hb)|(refine Xi ?_ ?_<;>try intro ht)|refine VD ?_ ?_|exact Xx|fail))<;>try with_reducible intro K hK)
    all_goals try(exfalso;omega)
    all_goals
     repeat(first|refine Xu ?_|(refine ba _ _ rfl ?_;clear a7 ba;try clear cL)|(refine eR _ _ rfl ?_;clear fJ eR;try clear kX)|(refine oD _ _ rfl ?_;clear Bd oD;try clear CX))
     ((try revert hK K);(repeat'(first|refine Vb X0 ?_|(refine V2 X0 ?_ ?_<;>try with_reducible intro hb)|(refine Xi ?_ ?_<;>try intro ht)|refine VD ?_ ?_|exact Xx|fail))<;>try with_reducible intro K hK)
     exact aE rfl rfl
   |succ j =>
    have qC:((j+1:Nat):Int)-1=(j:Nat):=G3;rw[BT]at ha;generalize aS:R.getD (j+1) 0=n at *;generalize gA:R.getD j 0=y at *;((try revert hK K);(repeat'(first|refine Va (X3 @aS @gA @qC) ?_|(refine V2 (X3 @aS @gA @qC) ?_ ?_<;>try with_reducible intro hb)|(refine Xi ?_ ?_<;>try intro ht)|refine VD ?_ ?_|exact Xx|fail))<;>try with_reducible intro K hK)
    all_goals try(exfalso;omega)
    all_goals
     repeat(first|refine Xu ?_|(refine ba _ _ rfl ?_;clear a7 ba;try clear cL)|(refine eR _ _ rfl ?_;clear fJ eR;try clear kX)|(refine oD _ _ rfl ?_;clear Bd oD;try clear CX))
     ((try revert hK K);(repeat'(first|refine Vb X0 ?_|(refine V2 X0 ?_ ?_<;>try with_reducible intro hb)|(refine Xi ?_ ?_<;>try intro ht)|refine VD ?_ ?_|exact Xx|fail))<;>try with_reducible intro K hK)
     exact aE rfl rfl
 ·obtain rfl:i=R.length:=G3;rw[jv]at hf;subst hf;rw[mI,eX]at aj;have nQ:=Zf bP (hF.trans rfl);have bS:=Na m bP R nQ;have nR:=Nb m bP R;have mo:VM (cj m R):=A8 bP R;have fC:=Ze bP nQ;unfold Ng at aj;dsimp only at aj;generalize hq:lY (cj m R) P=q at *;obtain⟨bn,ok⟩:=q;generalize cj m R=r at *;generalize jn m.rules R=kb at *;repeat'(first|((fail_if_success (first|refine dE 10 ?_|refine dF 10 ?_));refine Xr X0 ?_;intro K hK)|refine Xo X0 ?_|(refine hK _ ?_;clear hK K)|(refine Xg X0 ?_ ?_<;>try intro hb)|(refine Xi ?_ ?_<;>try intro ht)|refine Xy ?_|refine Xd ?_ ?_|exact Xx|fail)
  refine ar _ _ rfl ?_;clear ak ar Ql;repeat(first|refine Xu ?_)
  repeat'(first|((fail_if_success (first|refine dE 10 ?_|refine dF 10 ?_));refine Xr X0 ?_;intro K hK)|refine Xo X0 ?_|(refine hK _ ?_;clear hK K)|(refine Xg X0 ?_ ?_<;>try intro hb)|(refine Xi ?_ ?_<;>try intro ht)|refine Xy ?_|refine Xd ?_ ?_|exact Xx|fail)
  refine jb [0,2,3,4] (.take 0 (.take 1 (.take 2 (.take 3 (.take 4 (.take 5 (.take 6 (.take 7 (.take 8 (.take 9 (.take 10 .nil))))))))))) rfl Kq (by decide +kernel) ?_;simp(disch:=omega)only[Ac,↓Pc,simprocAttr,Pw,↓Lq,ao];repeat'(first|with_reducible refine cI ?_ ?_|omega|with_reducible rfl)
  refine bK bS rfl rfl ?_;simp(disch:=omega)only[Ac,↓Pc,simprocAttr,Pw,↓Lq,ao];repeat'(first|with_reducible refine cI ?_ ?_|omega|with_reducible rfl)
  refine bK nR rfl rfl ?_;simp(disch:=omega)only[Ac,↓Pc,simprocAttr,Pw,↓Lq,ao];repeat'(first|with_reducible refine cI ?_ ?_|omega|with_reducible rfl)
  repeat(first|refine Xu ?_)
  clear bS nR;by_cases pj:(bn,ok)=(1099511627776,true);rotate_left
  ·rw[decide_eq_false pj,jE]at aj;subst aj;have Nh:ok=true->bn≠1099511627776:=λe e'=>pj (by rw[e,e']);cases ok with
   |false =>
    ((try revert hK K);(repeat'(first|refine Vd X0 fC ?_|(refine V2 X0 ?_ ?_<;>try with_reducible intro hb)|(refine Xi ?_ ?_<;>try intro ht)|refine VD ?_ ?_|exact Xx|fail))<;>try with_reducible intro K hK)
    all_goals try(exfalso;omega)
    all_goals exact aE rfl rfl
   |true =>
    have ahA:=Nh rfl;((try revert hK K);(repeat'(first|refine Vd X0 fC ?_|(refine V2 X0 ?_ ?_<;>try with_reducible intro hb)|(refine Xi ?_ ?_<;>try intro ht)|refine VD ?_ ?_|exact Xx|fail))<;>try with_reducible intro K hK)
    all_goals try(exfalso;omega)
    all_goals exact aE rfl rfl
  rw[decide_eq_true pj,eX]at aj;obtain⟨rfl,rfl⟩:bn=1099511627776/\ok=true:=⟨congrArg Prod.fst pj,congrArg Prod.snd pj⟩;((try revert hK K);(repeat'(first|refine Vc @bne_self_eq_false.{0} fC ?_|(refine V2 @bne_self_eq_false.{0} ?_ ?_<;>try with_reducible intro hb)|(refine Xi ?_ ?_<;>try intro ht)|refine VD ?_ ?_|exact Xx|fail))<;>try with_reducible intro K hK)
  all_goals try(exfalso;omega)
  clear fC pj;clear hi' hi mo hq;refine aO (λi:Nat=>(⟨au [(2,.bm (ao m)),(3,.bm [.tree 1 (ints R),.tree 5 (rowsOf az P),.tree 1 (dQ S)]),(7,.tree 1 (ints R)),(85,.tree 1 (ints R)),(86,aaa R.length),(87,aaa i)],[]⟩:St))
   (λi=>i<=R.length/\mI (CY m ⟨R,P,S⟩) (R.length-i) i=res) (λi=>R.length-i) 0 ⟨aF _,aj⟩ (Xs false [] X0) ?_
  clear aj;rintro i⟨hi,hf⟩Ql ak ar;by_cases hi':i<R.length
  ·rw[show R.length-i=(R.length-(i+1))+1 by omega,mI]at hf;have bj:=ke _ (aB (d:=(default:List Int)) (show i<S.length by omega));have Fz:(S.getD i []).length<9223372036854775808:=bj;have eT:=ag4 m (S.getD i []) bP.mb Fz;have wN:=nQ.df (R.getD i 0);have hw:=M' R (R.getD i 0) nQ.1;have bS:=Na m bP _ wN;have nR:=Nb m bP (df R (R.getD i 0));have mo:VM (cj m (df R (R.getD i 0))):=A8 bP _;have nB:=Zd (cj m (df R (R.getD i 0))) (S.getD i []) mo.mb Fz;unfold CY at hf;dsimp only at hf;rw[show S.getD i default=S.getD i [] from rfl]at hf;generalize aS:R.getD i 0=n at *;generalize gA:S.getD i []=pl at *;generalize pe m pl=ce at *;generalize hq:pd (cj m (df R n)) pl=q at *;obtain⟨cO,rs,er⟩:=q;clear hq mo bj;generalize cj m (df R n)=r2 at *;generalize jn m.rules (df R n)=kb2 at *;generalize df R n=lw at *;dsimp only at hf nB;repeat'(first|((fail_if_success (first|refine dE 17 ?_|refine dF 17 ?_));refine Xr @aS ?_;intro K hK)|refine Xo @aS ?_|(refine hK _ ?_;clear hK K)|(refine Xg @aS ?_ ?_<;>try intro hb)|(refine Xi ?_ ?_<;>try intro ht)|refine Xy ?_|refine Xd ?_ ?_|exact Xx|fail)
   refine jb [0,2,5,6] (.take 0 (.take 1 (.take 2 (.take 3 (.take 4 (.take 5 (.take 6 (.take 7 .nil)))))))) rfl Kq (by decide +kernel) ?_;simp(disch:=omega)only[Ac,↓Pc,simprocAttr,Pw,↓Lq,ao,gA,lj];repeat'(first|with_reducible refine cI ?_ ?_|omega|with_reducible rfl)
   refine bK eT rfl rfl ?_;simp(disch:=omega)only[Ac,↓Pc,simprocAttr,Pw,↓Lq,ao];repeat'(first|with_reducible refine cI ?_ ?_|omega|with_reducible rfl)
   repeat(first|refine Xu ?_)
   clear eT;by_cases FA:ce=0;rotate_left
   ·rw[decide_eq_false (λe=>FA e.1),jE]at hf;subst hf;((try revert hK K);(repeat'(first|refine Va X0 ?_|(refine V2 X0 ?_ ?_<;>try with_reducible intro hb)|(refine Xi ?_ ?_<;>try intro ht)|refine VD ?_ ?_|exact Xx|fail))<;>try with_reducible intro K hK)
    all_goals try(exfalso;omega)
    all_goals
     repeat(first|refine Xu ?_|(refine ba _ _ rfl ?_;clear a7 ba;try clear cL)|(refine eR _ _ rfl ?_;clear fJ eR;try clear kX)|(refine oD _ _ rfl ?_;clear Bd oD;try clear CX))
     ((try revert hK K);(repeat'(first|refine Vb X0 ?_|(refine V2 X0 ?_ ?_<;>try with_reducible intro hb)|(refine Xi ?_ ?_<;>try intro ht)|refine VD ?_ ?_|exact Xx|fail))<;>try with_reducible intro K hK)
     exact aE rfl rfl
   subst FA;repeat'(first|((fail_if_success (first|refine dE 19 ?_|refine dF 19 ?_));refine Xr @bne_self_eq_false.{0} ?_;intro K hK)|refine Xo @bne_self_eq_false.{0} ?_|(refine hK _ ?_;clear hK K)|(refine Xg @bne_self_eq_false.{0} ?_ ?_<;>try intro hb)|(refine Xi ?_ ?_<;>try intro ht)|refine Xy ?_|refine Xd ?_ ?_|exact Xx|fail)
   all_goals try(exfalso;omega)
   refine jb [0,3,4,5,6] (.take 0 (.take 1 (.take 2 (.take 3 (.take 4 (.take 5 (.take 6 (.take 7 (.take 8 (.take 9 (.take 10 (.take 11 (.take 12 .nil))))))))))))) rfl Kq (by decide +kernel) ?_;simp(disch:=omega)only[Ac,↓Pc,simprocAttr,Pw,↓Lq,ao];repeat'(first|with_reducible refine cI ?_ ?_|omega|with_reducible rfl)
   refine bK hw rfl rfl ?_;simp(disch:=omega)only[Ac,↓Pc,simprocAttr,Pw,↓Lq,ao];repeat'(first|with_reducible refine cI ?_ ?_|omega|with_reducible rfl)
   refine bK bS rfl rfl ?_;simp(disch:=omega)only[Ac,↓Pc,simprocAttr,Pw,↓Lq,ao];repeat'(first|with_reducible refine cI ?_ ?_|omega|with_reducible rfl)
   refine bK nR rfl rfl ?_;simp(disch:=omega)only[Ac,↓Pc,simprocAttr,Pw,↓Lq,ao];repeat'(first|with_reducible refine cI ?_ ?_|omega|with_reducible rfl)
   repeat(first|refine Xu ?_)
   clear hw bS nR;refine bD (ay.jf 14 0 (cells:=ao r2) P5 (by simp only[Kc,simprocAttr]) (by simp[ao])) ?_;repeat'(first|((fail_if_success (first|refine dE 20 ?_|refine dF 20 ?_));refine Xr X0 ?_;intro K hK)|refine Xo X0 ?_|(refine hK _ ?_;clear hK K)|(refine Xg X0 ?_ ?_<;>try intro hb)|(refine Xi ?_ ?_<;>try intro ht)|refine Xy ?_|refine Xd ?_ ?_|exact Xx|fail)
   refine jb [0,2,5,6] (.take 0 (.take 1 (.take 2 (.take 3 (.take 4 (.take 5 (.take 6 (.take 7 (.take 8 (.take 9 (.take 10 (.take 11 (.take 12 (.take 13 .nil)))))))))))))) rfl Kq (by decide +kernel) ?_;simp(disch:=omega)only[Ac,↓Pc,simprocAttr,Pw,↓Lq,ao,gA,lj];repeat'(first|with_reducible refine cI ?_ ?_|omega|with_reducible rfl)
   refine bK nB rfl rfl ?_;simp(disch:=omega)only[Ac,↓Pc,simprocAttr,Pw,↓Lq,ao];repeat'(first|with_reducible refine cI ?_ ?_|omega|with_reducible rfl)
   repeat(first|refine Xu ?_)
   clear nB;by_cases aw:er=0/\cO<1099511627776
   ·rw[decide_eq_true ⟨rfl,aw⟩,eX]at hf;obtain⟨rfl,aw⟩:=aw;((try revert hK K);(repeat'(first|refine Va @bne_self_eq_false.{0} ?_|(refine V2 @bne_self_eq_false.{0} ?_ ?_<;>try with_reducible intro hb)|(refine Xi ?_ ?_<;>try intro ht)|refine VD ?_ ?_|exact Xx|fail))<;>try with_reducible intro K hK)
    all_goals try(exfalso;omega)
    all_goals exact ak _ (i+1) ⟨G3,hf⟩ G3 (Xs false [] X0)
   ·rw[decide_eq_false (λe=>aw e.2),jE]at hf;subst hf;by_cases her:er=0
    ·subst her;((try revert hK K);(repeat'(first|refine Va @bne_self_eq_false.{0} ?_|(refine V2 @bne_self_eq_false.{0} ?_ ?_<;>try with_reducible intro hb)|(refine Xi ?_ ?_<;>try intro ht)|refine VD ?_ ?_|exact Xx|fail))<;>try with_reducible intro K hK)
     all_goals try(exfalso;omega)
     all_goals
      repeat(first|refine Xu ?_|(refine ba _ _ rfl ?_;clear a7 ba;try clear cL)|(refine eR _ _ rfl ?_;clear fJ eR;try clear kX)|(refine oD _ _ rfl ?_;clear Bd oD;try clear CX))
      ((try revert hK K);(repeat'(first|refine Vb X0 ?_|(refine V2 X0 ?_ ?_<;>try with_reducible intro hb)|(refine Xi ?_ ?_<;>try intro ht)|refine VD ?_ ?_|exact Xx|fail))<;>try with_reducible intro K hK)
      exact aE rfl rfl
    ·((try revert hK K);(repeat'(first|refine Va X0 ?_|(refine V2 X0 ?_ ?_<;>try with_reducible intro hb)|(refine Xi ?_ ?_<;>try intro ht)|refine VD ?_ ?_|exact Xx|fail))<;>try with_reducible intro K hK)
     all_goals try(exfalso;omega)
     all_goals
      repeat(first|refine Xu ?_|(refine ba _ _ rfl ?_;clear a7 ba;try clear cL)|(refine eR _ _ rfl ?_;clear fJ eR;try clear kX)|(refine oD _ _ rfl ?_;clear Bd oD;try clear CX))
      ((try revert hK K);(repeat'(first|refine Vb X0 ?_|(refine V2 X0 ?_ ?_<;>try with_reducible intro hb)|(refine Xi ?_ ?_<;>try intro ht)|refine VD ?_ ?_|exact Xx|fail))<;>try with_reducible intro K hK)
      exact aE rfl rfl
  ·obtain rfl:i=R.length:=G3;rw[jv,mI]at hf;subst hf;((try revert hK K);(repeat'(first|refine Va X0 ?_|(refine V2 X0 ?_ ?_<;>try with_reducible intro hb)|(refine Xi ?_ ?_<;>try intro ht)|refine VD ?_ ?_|exact Xx|fail))<;>try with_reducible intro K hK)
   refine ar _ _ rfl ?_;clear ak ar Ql;repeat(first|refine Xu ?_)
   ((try revert hK K);(repeat'(first|refine Vb X0 ?_|(refine V2 X0 ?_ ?_<;>try with_reducible intro hb)|(refine Xi ?_ ?_<;>try intro ht)|refine VD ?_ ?_|exact Xx|fail))<;>try with_reducible intro K hK)
   exact aE rfl rfl
def Zg(m:ah)(hm:VM m)(l:List Int)(hl:ng m l):∃pa b tn,an Tryz.prog 22 [.agg (ao m),.tree 1 (ints l)] [] (.bH [.agg [pa,aaa (CZ (cj m l)),aaa b,tn],aaa (kW (cj m l))]) [] /\
  gQ pa=true/\gQ tn=true/\cJ pa=true/\cJ tn=true/\(∀ ρ,br ρ pa=pa)/\(∀ ρ,br ρ tn=tn):=by
 have h:=Nc m hm l hl;generalize cj m l=r at *;unfold CV at h;unfold CZ;by_cases he:kW r=0
 ·rw[if_pos he]at h ⊢;exact⟨_,_,_,h,zA rfl,rfl,Fw _,rfl,Fv _,λ_=>rfl⟩
 ·rw[if_neg he]at h ⊢;exact⟨_,_,_,h,rfl,rfl,rfl,rfl,λ_=>rfl,λ_=>rfl⟩
def Zh(m:ah)(hm:VM m):an Tryz.prog 21 [.agg (ao m)] [] (.bH [.tree 1 (ints (lM m).1),aaa (lM m).2]) []:=by
 have eB:=aht m hm;have vu:=Ni hm;obtain⟨pa,b,tn,nR,n1,n2,s1,s2,r1,r2⟩:=Zg m hm (ph m) vu;generalize aj:lM m=res;unfold lM at aj;have gJ:=vu.1;generalize kW (cj m (ph m))=e0 at *;generalize CZ (cj m (ph m))=t0 at *;refine an.aC 55 0 [.tmp 2,.tmp 3] Tryz.func21 ?_;repeat'(first|((fail_if_success (first|refine dE 2 ?_|refine dF 2 ?_));refine Xq X0 ?_;intro K hK)|refine Xo X0 ?_|refine Xc (eB) ?_|(refine hK _ ?_;clear hK K)|refine Xy ?_|fail)
 ((refine Va X0 ?_)<;>try with_reducible intro K hK)
 (refine Xn [] (nR) ?_;simp(disch:=omega)only[Ac,↓Pc,simprocAttr,r1,r2])
 by_cases he:e0=0;rotate_left
 ·rw[if_pos he]at aj;subst aj;((try revert hK K);(repeat'(first|refine Vb (X5 @s1 @s2 @r1 @r2 @bne_self_eq_false.{0}) ?_|(refine V2 (X5 @s1 @s2 @r1 @r2 @bne_self_eq_false.{0}) ?_ ?_<;>try with_reducible intro hb)|(refine Xi ?_ ?_<;>try intro ht)|refine VD ?_ ?_|exact Xx|fail)))
  all_goals try(rw[s1,s2];rfl)
  all_goals exact dr [] true Kq trivial Kq Kq (aI.mn aI.nil (.pure rfl))
 rw[if_neg G3]at aj;by_cases ht:t0<1099511627776
 ·rw[if_pos ht]at aj;subst aj he;((try revert hK K);(repeat'(first|refine Vb (X5 @s1 @s2 @r1 @r2 @bne_self_eq_false.{0}) ?_|(refine Xi ?_ ?_<;>try intro ht)|refine VD ?_ ?_|exact Xx|fail)))
  all_goals try(rw[s1,s2];rfl)
  all_goals exact dr [] true Kq trivial Kq Kq (aI.mn aI.nil (.pure rfl))
 rw[if_neg ht]at aj;subst he;((try revert hK K);(repeat'(first|refine Vc (X5 @s1 @s2 @r1 @r2 @bne_self_eq_false.{0}) eB ?_|(refine Xi ?_ ?_<;>try intro ht)|refine VD ?_ ?_|exact Xx|fail)))
 all_goals try(rw[s1,s2];rfl)
 refine bD (ay.jf 1 0 (cells:=ao m) P5 (by simp only[Kc,simprocAttr]) (by simp[ao])) ?_;clear eB nR n1 n2 s1 s2 r1 r2 ht;generalize hA:ph m=A at *;refine aO (λz:Nat×List Int=>(⟨au [(1,.bm (ao m)),(4,.tree 1 (ints z.2)),(30,.tree 1 (ints A)),(31,aaa A.length),(32,aaa z.1)],[]⟩:St))
  (λz=>z.1<=A.length/\ng m z.2/\Be m (A.drop z.1) z.2=res) (λz=>A.length-z.1) (0,A) ⟨aF _,vu,aj⟩ (Xs false [] X0) ?_
 rintro⟨i,l⟩⟨hi,hl,hr⟩Ql ak ar;dsimp only at hi hl hr ⊢;by_cases hi':i<A.length
 ·have hd:=cN A i 0 hi';rw[hd,Be]at hr;have hw:=M' l (A.getD i 0) hl.1;have wN:=hl.df (A.getD i 0);obtain⟨pa,b,tn,nR,n1,n2,s1,s2,r1,r2⟩:=Zg m hm _ wN;generalize aS:A.getD i 0=n at *;generalize df l n=lw at *;generalize kW (cj m lw)=e0 at *;generalize CZ (cj m lw)=t0 at *;repeat'(first|((fail_if_success (first|refine dE 10 ?_|refine dF 10 ?_));refine Xr @aS ?_;intro K hK)|(refine hK _ ?_;clear hK K)|(refine Xi ?_ ?_<;>try intro ht)|refine Xy ?_|refine Xd ?_ ?_|exact Xx|fail)
  refine jb [0,3,4] (.take 0 (.take 1 (.take 2 (.take 3 (.take 4 (.take 5 (.take 6 (.take 7 (.take 8 (.take 9 (.take 10 .nil))))))))))) rfl Kq (by decide +kernel) ?_;simp(disch:=omega)only[Ac,↓Pc,simprocAttr,Pw,↓Lq,ao];refine bK hw rfl rfl ?_;simp(disch:=omega)only[Ac,↓Pc,simprocAttr,Pw,↓Lq,ao];refine bK nR rfl (by simp[gQ,jl,n1,n2]) ?_;simp(disch:=omega)only[Ac,↓Pc,simprocAttr,Pw,↓Lq,ao,s1,s2];repeat(refine Xu ?_)
  by_cases he:e0=0;rotate_left
  ·rw[if_pos he]at hr;((repeat'(first|refine Va @aS ?_|(refine Xi ?_ ?_<;>try intro ht)|exact Xx|fail)))
   repeat(refine Xu ?_)
   refine Vb X0 ?_;subst hr;exact dr [] true Kq trivial Kq Kq (aI.mn aI.nil (.pure rfl))
  subst he;rw[if_neg G9]at hr;by_cases ht:t0=1099511627776
  ·rw[if_pos ht]at hr;((repeat'(first|refine Vc @bne_self_eq_false.{0} hw ?_|(refine Xi ?_ ?_<;>try intro ht)|exact Xx|fail)))
   exact ak _ (i+1,lw) ⟨Kw,wN,hr⟩ Kw (Xs false [] X0)
  ·rw[if_neg ht]at hr;((repeat'(first|refine Va @bne_self_eq_false.{0} ?_|(refine Xi ?_ ?_<;>try intro ht)|exact Xx|fail)))
   exact ak _ (i+1,l) ⟨Kw,hl,hr⟩ Kw (Xs false [] X0)
 ·rw[List.drop_eq_nil_of_le G3,Be]at hr;((repeat'(first|refine Va X0 ?_|(refine Xi ?_ ?_<;>try intro ht)|exact Xx|fail)))
  refine ar _ _ rfl ?_;clear ak ar Ql;repeat(refine Xu ?_)
  refine Vb X0 ?_;subst hr;exact aE rfl rfl
def ahD(m:ah)(hm:MB m):an Tryz.prog 14 [.agg (ao m)] [] (.bH [.tree 1 (ints (zB m).1),aaa (zB m).2]) []:=by
 have h1:=ud m hm;by_cases hv:ek m=0;rotate_left
 ·rw[show zB m=([],ek m) by unfold zB;rw[if_pos hv]];generalize ek m=e at *;refine an.aC 14 0 [.tmp 2,.tmp 3] Tryz.func14 ?_;((repeat'(first|refine Vd X0 h1 ?_|(refine Xi ?_ ?_<;>try intro ht)|exact Xx|fail)))
  exact dr [] true Kq trivial Kq Kq (aI.mn aI.nil (.pure rfl))
 ·have h2:=Zh m (iu.1 hv);rw[show zB m=lM m by unfold zB;rw[if_neg G3]];rw[hv]at h1;generalize lM m=rd at *;refine an.aC 14 0 [.tmp 2,.tmp 3] Tryz.func14 ?_;((repeat'(first|refine Vd @bne_self_eq_false.{0} (X2 h1 h2) ?_|(refine Xi ?_ ?_<;>try intro ht)|exact Xx|fail)))
  all_goals exact aE rfl rfl
def ahE(l:List Int)(x n:Int):df (l++[x]) n=if x=n then df l n else df l n++[x]:=by
 unfold df;rw[List.filter_append];by_cases h:x=n
 ·rw[if_pos h];simp[h]
 ·rw[if_neg h];simp[h]
def Zi(m:ah)(hm:VM m)(l:List Int)(hl:ng m l)(b:Int):an Tryz.prog 33 [.agg (ao m),.tree 1 (ints l),aaa b] [] (.tree 1 (aX (jn m.rules (df l b)))) []:=by
 have hr:=hm.iI;have qx:=hl.2;have dI:=hl.1;refine an.aC 31 0 [.tmp 6] Tryz.func33 ?_;refine Va X0 ?_;refine aO (λz:Nat=>(⟨au [(1,.tree 1 (ints l)),(2,aaa b),(7,.ref 1 1 0 m.rules.toNat),(8,aaa z)],[.var (ao m),.arr 1 (aX (jn m.rules (df (l.take z) b)))]⟩:St)) (λz=>z<=l.length) (λz=>l.length-z) 0 (aF _) (by rw[ky,show df [] b=[] from rfl,Za];exact Xv @ao.eq_1) ?_;intro k hk Ql ak ar;have cF:=CU m.rules (df (l.take k) b);by_cases aL:k<l.length
 ·have hx:=qx _ (aB (l:=l) (d:=0) aL);have cq:l.take (k+1)=l.take k++[l.getD k 0]:=eJ aL;have iq:=Y' (xs:=df (l.take k) b) hx.1 hx.2;have FB:=ahE (l.take k) (l.getD k 0) b;rw[<- cq]at FB;generalize aS:l.getD k 0=x at *;by_cases hb:x=b
  ·rw[if_pos hb]at FB;((repeat'(first|refine Va @aS ?_|(refine Xi ?_ ?_<;>try intro ht)|exact Xx|fail)))
   all_goals try(exfalso;simp_all;done)
   all_goals exact ak _ (k+1) G3 G3 (by rw[FB];exact Xv @ao.eq_1)
  ·rw[if_neg hb]at FB;rw[<- FB]at iq;generalize jn m.rules (df (l.take k) b)=bs at *;((repeat'(first|refine Va (X3 @aS @cF @iq) ?_|(refine Xi ?_ ?_<;>try intro ht)|exact Xx|fail)))
   all_goals try(exfalso;simp_all;done)
   all_goals try omega
   all_goals exact ak _ (k+1) G3 G3 (Xv @ao.eq_1)
 ·obtain rfl:k=l.length:=G3;rw[sH]at cF ⊢;((repeat'(first|refine Va X0 ?_|(refine Xi ?_ ?_<;>try intro ht)|exact Xx|fail)))
  refine ar _ _ rfl ?_;clear ak ar Ql;repeat(refine Xu ?_)
  generalize jn m.rules (df l b)=bs at *;refine Vb X0 ?_;exact dr [] true Kq trivial Kq Kq (aI.cp (rows:=aX bs) rfl (D9 _) (by rw[yU,cF]) (iD Kq) (HB _))
def Zj(m:ah)(hm:VM m)(l:List Int):an Tryz.prog 32 [.agg (ao m),.tree 1 (aX (jn m.rules l))] [] (.bH [.agg (ao (cj m l)),aaa 0]) []:=by
 have hr:=hm.iI;have h:=ahF m (jn m.rules l) hm.mb (by rw[CU];omega);rw[show tW m (jn m.rules l)=(m5 m (jn m.rules l),0) by unfold tW;rw[if_neg (by rw[iu.2 hm];simp),if_neg (by rw[CU];omega)]]at h;exact h
def ahG{m:ah}(hm:VM m)(l pl:List Int):pe (cj m l) pl=0↔pe m pl=0 :=
 ⟨λh=>Yy hm (Zk.1 (Mr h).2),λh=>Yy (EZ hm _:VM (cj m l)) (Zk.2 (Mr h).2)⟩
def ahH{m:ah}(hm:VM m)(c:sg)(i:Nat):CY m c i=decide (pe (cj m (df c.rules (c.rules.getD i 0))) (c.p6.getD i default)=0/\(pd (cj m (df c.rules (c.rules.getD i 0))) (c.p6.getD i default)).1<1099511627776):=by
 have hv:VM (cj m (df c.rules (c.rules.getD i 0))):=EZ hm _;have h:=ahG hm (df c.rules (c.rules.getD i 0)) (c.p6.getD i default);unfold CY;rw[decide_eq_decide];constructor
 ·rintro⟨a,b,d⟩;exact⟨h.2 a,d⟩
 ·rintro⟨a,d⟩;refine⟨h.1 a,?_,d⟩;rw[Yx hv (Mr a).2.pm]
def Nj(m:ah)(hm:MB m)(c:sg)(hc:CB c):an Tryz.prog 12 [.agg (ao m),.agg (bO c)] [] (.lit (.bool (wM m c))) [] :=
 ahz m hm c hc λbP _=>ahI (cj m c.rules) c.nodes (A8 bP c.rules).mb hc.sU
def ahJ(m:ah)(hm:MB m)(c:sg)(hc:CB c):an Tryz.prog 13 [.agg (ao m),.agg (bO c)] [] (.lit (.bool (wM m c))) []:=by
 have h1:=Bf m hm;have cZ:=hc.iI;have dh:=hc.Bb;have ke:=hc.row;have b7:=hc.sU;clear hc;obtain⟨R,P,S⟩:=c;generalize aj:wM m ⟨R,P,S⟩=res;unfold wM at aj;unfold bO;dsimp only at cZ dh ke b7 aj ⊢;by_cases hv:ek m=0;rotate_left
 ·rw[decide_eq_false (λe=>hv e.1),jE]at aj;subst aj;generalize ek m=e at *;refine an.aC 133 0 [.tmp 4] Tryz.func13 ?_;((repeat'(first|refine Vd X0 h1 ?_|(refine V2 X0 ?_ ?_<;>try with_reducible intro hb)|(refine Xi ?_ ?_<;>try intro ht)|exact Xx|fail)))
  all_goals exact aE rfl rfl
 by_cases hlen:S.length=R.length;rotate_left
 ·rw[decide_eq_false (λe=>hlen e.2),jE]at aj;subst aj;rw[hv]at h1;refine an.aC 133 0 [.tmp 4] Tryz.func13 ?_;((repeat'(first|refine Vd (X2 @bne_self_eq_false.{0} @lj) h1 ?_|(refine Xi ?_ ?_<;>try intro ht)|exact Xx|fail)))
  all_goals exact aE rfl rfl
 rw[decide_eq_true ⟨hv,hlen⟩,eX]at aj;rw[hv]at h1;have bP:=iu.1 hv;refine an.aC 133 0 [.tmp 4] Tryz.func13 ?_;((repeat'(first|refine Vc (X2 @bne_self_eq_false.{0} @lj) h1 ?_|(refine Xi ?_ ?_<;>try intro ht)|exact Xx|fail)))
 refine bD (ay.jf 2 0 (cells:=ao m) P5 (by simp only[Kc,simprocAttr]) (by simp[ao])) ?_;refine bD (ay.jf 3 1 (cells:=bO ⟨R,P,S⟩) P5 (by simp only[Kc,simprocAttr]) (by simp[bO])) ?_;unfold bO;dsimp only;generalize hF:mI (oH m.rules R) R.length 0=fb at *;refine aO (λi:Nat=>(⟨au [(2,.bm (ao m)),(3,.bm [.tree 1 (ints R),.tree 5 (rowsOf az P),.tree 1 (dQ S)]),(5,aaa i)],[]⟩:St))
  (λi=>i<=R.length/\mI (oH m.rules R) (R.length-i) i=fb) (λi=>R.length-i) 0 ⟨aF _,hF⟩ (Xs false [] X0) ?_
 rintro i⟨hi,hf⟩Ql ak ar;by_cases hi':i<R.length
 ·rw[show R.length-i=(R.length-(i+1))+1 by omega,mI]at hf;by_cases ha:oH m.rules R i=true
  ·rw[ha,eX]at hf;unfold oH at ha;rw[decide_eq_true_eq]at ha;obtain⟨a1,a2,a3⟩:=ha;cases i with
   |zero =>
    generalize aS:R.getD 0 0=n at *;((repeat'(first|refine Va @aS ?_|(refine V2 @aS ?_ ?_<;>try with_reducible intro hb)|(refine Xi ?_ ?_<;>try intro ht)|exact Xx|fail)))
    all_goals exact ak _ 1 ⟨G3,hf⟩ G3 (Xv X0)
   |succ j =>
    have qC:((j+1:Nat):Int)-1=(j:Nat):=G3;rw[BT]at a3;generalize aS:R.getD (j+1) 0=n at *;generalize gA:R.getD j 0=y at *;((repeat'(first|refine Va (X3 @aS @gA @qC) ?_|(refine V2 (X3 @aS @gA @qC) ?_ ?_<;>try with_reducible intro hb)|(refine Xi ?_ ?_<;>try intro ht)|exact Xx|fail)))
    all_goals exact ak _ (j+1+1) ⟨G3,hf⟩ G3 (Xv X0)
  ·rw[show oH m.rules R i=false by simpa using ha,jE]at hf;subst hf;rw[jE]at aj;subst aj;unfold oH at ha;rw[decide_eq_true_eq]at ha;cases i with
   |zero =>
    generalize aS:R.getD 0 0=n at *;((repeat'(first|refine Va @aS ?_|(refine V2 @aS ?_ ?_<;>try with_reducible intro hb)|(refine Xi ?_ ?_<;>try intro ht)|exact Xx|fail)))
    all_goals
     repeat(refine Xu ?_)
     ((repeat'(first|refine Vb X0 ?_|fail)))
     exact aE rfl rfl
   |succ j =>
    have qC:((j+1:Nat):Int)-1=(j:Nat):=G3;rw[BT]at ha;generalize aS:R.getD (j+1) 0=n at *;generalize gA:R.getD j 0=y at *;((repeat'(first|refine Va (X3 @aS @gA @qC) ?_|(refine V2 (X3 @aS @gA @qC) ?_ ?_<;>try with_reducible intro hb)|(refine Xi ?_ ?_<;>try intro ht)|exact Xx|fail)))
    all_goals
     repeat(refine Xu ?_)
     ((repeat'(first|refine Vb X0 ?_|fail)))
     exact aE rfl rfl
 ·obtain rfl:i=R.length:=G3;rw[jv]at hf;subst hf;rw[mI,eX]at aj;have nQ:=Zf bP (hF.trans rfl);have bS:=Zi m bP R nQ (-1);rw[ahx nQ]at bS;have nR:=Zj m bP R;have mo:VM (cj m R):=A8 bP R;have fC:=ahK (cj m R) P mo.mb b7 (λx left hx hv hf=>ahL _ x left hv hf (b7.bh x hx) (b7.cells x hx) (b7.cell x hx));rw[ahM]at fC;unfold Ng at aj;dsimp only at aj;generalize hq:lY (cj m R) P=q at *;obtain⟨bn,ok⟩:=q;generalize cj m R=r at *;generalize jn m.rules R=kb at *;repeat'(first|((fail_if_success (first|refine dE 8 ?_|refine dF 8 ?_));refine Xr X0 ?_;intro K hK)|(refine hK _ ?_;clear hK K)|(refine Xg X0 ?_ ?_<;>try intro hb)|(refine Xi ?_ ?_<;>try intro ht)|refine Xy ?_|refine Xd ?_ ?_|exact Xx|fail)
  refine ar _ _ rfl ?_;clear ak ar Ql;repeat(refine Xu ?_)
  refine Xy ?_;refine jb [0,1,3,4,5] (.take 0 (.take 1 (.take 2 (.take 3 (.take 4 (.take 5 (.take 6 (.take 7 (.take 8 (.take 9 (.take 10 (.take 11 .nil)))))))))))) rfl Kq (by decide +kernel) ?_;simp(disch:=omega)only[Ac,↓Pc,simprocAttr,Pw,↓Lq,ao];refine bK bS rfl rfl ?_;simp(disch:=omega)only[Ac,↓Pc,simprocAttr,Pw,↓Lq,ao];refine bK nR rfl rfl ?_;simp(disch:=omega)only[Ac,↓Pc,simprocAttr,Pw,↓Lq,ao];repeat(refine Xu ?_)
  clear bS nR;by_cases pj:(bn,ok)=(1099511627776,true);rotate_left
  ·rw[decide_eq_false pj,jE]at aj;subst aj;have Nh:ok=true->bn≠1099511627776:=λe e'=>pj (by rw[e,e']);cases ok with
   |false =>
    ((repeat'(first|refine Vd X0 fC ?_|(refine Xi ?_ ?_<;>try intro ht)|exact Xx|fail)))
    all_goals exact aE rfl rfl
   |true =>
    have ahA:=Nh rfl;((repeat'(first|refine Vd X0 fC ?_|(refine Xi ?_ ?_<;>try intro ht)|exact Xx|fail)))
    all_goals exact aE rfl rfl
  rw[decide_eq_true pj,eX]at aj;obtain⟨rfl,rfl⟩:bn=1099511627776/\ok=true:=⟨congrArg Prod.fst pj,congrArg Prod.snd pj⟩;((repeat'(first|refine Vc @bne_self_eq_false.{0} fC ?_|(refine Xi ?_ ?_<;>try intro ht)|exact Xx|fail)))
  clear fC pj;clear hi' hi mo hq;refine aO (λi:Nat=>(⟨au [(2,.bm (ao m)),(3,.bm [.tree 1 (ints R),.tree 5 (rowsOf az P),.tree 1 (dQ S)]),(10,aaa i)],[]⟩:St))
   (λi=>i<=R.length/\mI (CY m ⟨R,P,S⟩) (R.length-i) i=res) (λi=>R.length-i) 0 ⟨aF _,aj⟩ (Xs false [] X0) ?_
  clear aj;rintro i⟨hi,hf⟩Ql ak ar;by_cases hi':i<R.length
  ·rw[show R.length-i=(R.length-(i+1))+1 by omega,mI,ahH bP]at hf;have bj:=ke _ (aB (d:=(default:List Int)) (show i<S.length by omega));have Fz:(S.getD i []).length<9223372036854775808:=bj;have wN:=nQ.df (R.getD i 0);have bS:=Zi m bP R nQ (R.getD i 0);have nR:=Zj m bP (df R (R.getD i 0));have mo:VM (cj m (df R (R.getD i 0))):=A8 bP _;have eT:=ahN (cj m (df R (R.getD i 0))) (S.getD i []) mo.mb Fz;have nB:=ahO (cj m (df R (R.getD i 0))) (S.getD i []) mo.mb Fz;dsimp only at hf;rw[show S.getD i default=S.getD i [] from rfl]at hf;generalize aS:R.getD i 0=n at *;generalize gA:S.getD i []=pl at *;generalize hq:pd (cj m (df R n)) pl=q at *;obtain⟨cO,rs,er⟩:=q;clear hq mo bj;generalize cj m (df R n)=r2 at *;generalize pe r2 pl=ce at *;generalize jn m.rules (df R n)=kb2 at *;dsimp only at hf nB;repeat'(first|((fail_if_success (first|refine dE 15 ?_|refine dF 15 ?_));refine Xr @aS ?_;intro K hK)|(refine hK _ ?_;clear hK K)|(refine Xi ?_ ?_<;>try intro ht)|refine Xy ?_|exact Xx|fail)
   refine jb [0,1,3,5,8,9,10] (.take 0 (.take 1 (.take 2 (.take 3 (.take 4 (.take 5 (.take 6 (.take 7 (.take 8 (.take 9 (.take 10 (.take 11 (.take 12 (.take 13 (.take 14 (.take 15 (.take 16 .nil))))))))))))))))) rfl Kq (by decide +kernel) ?_;simp(disch:=omega)only[Ac,↓Pc,simprocAttr,Pw,↓Lq,ao,aS,lh];repeat'(first|with_reducible refine cI ?_ ?_|omega)
   refine bK bS rfl rfl ?_;simp(disch:=omega)only[Ac,↓Pc,simprocAttr,Pw,↓Lq,ao];refine bK nR rfl rfl ?_;simp(disch:=omega)only[Ac,↓Pc,simprocAttr,Pw,↓Lq,ao];repeat(refine Xu ?_)
   clear bS nR;refine bD (ay.jf 11 0 (cells:=ao r2) P5 (by simp only[Kc,simprocAttr]) (by simp[ao])) ?_;repeat'(first|refine Xy ?_|fail)
   refine jb [0,2,5,6] (.take 0 (.take 1 (.take 2 (.take 3 (.take 4 (.take 5 (.take 6 (.take 7 .nil)))))))) rfl Kq (by decide +kernel) ?_;simp(disch:=omega)only[Ac,↓Pc,simprocAttr,Pw,↓Lq,ao,gA,lj];repeat'(first|with_reducible refine cI ?_ ?_|omega)
   refine bK eT rfl rfl ?_;simp(disch:=omega)only[Ac,↓Pc,simprocAttr,Pw,↓Lq,ao];repeat(refine Xu ?_)
   clear eT;by_cases FA:ce=0;rotate_left
   ·rw[decide_eq_false (λe=>FA e.1),jE]at hf;subst hf;((repeat'(first|refine Va X0 ?_|(refine Xi ?_ ?_<;>try intro ht)|exact Xx|fail)))
    all_goals
     repeat(refine Xu ?_)
     refine Vb X0 ?_;exact aE rfl rfl
   subst FA;repeat'(first|(refine Xi ?_ ?_<;>try intro ht)|refine Xy ?_|exact Xx|fail)
   refine jb [0,2,5,6] (.take 0 (.take 1 (.take 2 (.take 3 (.take 4 (.take 5 (.take 6 (.take 7 (.take 8 (.take 9 (.take 10 (.take 11 (.take 12 (.take 13 .nil)))))))))))))) rfl Kq (by decide +kernel) ?_;simp(disch:=omega)only[Ac,↓Pc,simprocAttr,Pw,↓Lq,ao,gA,lj];repeat'(first|with_reducible refine cI ?_ ?_|omega)
   refine bK nB rfl rfl ?_;simp(disch:=omega)only[Ac,↓Pc,simprocAttr,Pw,↓Lq,ao];repeat(refine Xu ?_)
   clear nB;by_cases aw:cO<1099511627776
   ·rw[decide_eq_true ⟨rfl,aw⟩,eX]at hf;((repeat'(first|refine Va X0 ?_|(refine Xi ?_ ?_<;>try intro ht)|exact Xx|fail)))
    all_goals exact ak _ (i+1) ⟨G3,hf⟩ G3 (Xs false [] X0)
   ·rw[decide_eq_false (λe=>aw e.2),jE]at hf;subst hf;((repeat'(first|refine Va X0 ?_|(refine Xi ?_ ?_<;>try intro ht)|exact Xx|fail)))
    all_goals
     repeat(refine Xu ?_)
     refine Vb X0 ?_;exact aE rfl rfl
  ·obtain rfl:i=R.length:=G3;rw[jv,mI]at hf;subst hf;((repeat'(first|refine Va X0 ?_|(refine Xi ?_ ?_<;>try intro ht)|exact Xx|fail)))
   refine ar _ _ rfl ?_;clear ak ar Ql;repeat(refine Xu ?_)
   refine Vb X0 ?_;exact aE rfl rfl
end T

