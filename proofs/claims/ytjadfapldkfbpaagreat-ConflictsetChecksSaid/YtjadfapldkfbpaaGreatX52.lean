import Derived.Test.YtjadfapldkfbpaaGreatX50
set_option linter.all false
set_option maxHeartbeats 0
set_option maxRecDepth 20000
open Nat renaming zero_le→aF,sub_self→jv,zero_add→gf
open List renaming getD_eq_getElem?_getD→aG,getElem?_map→b6,getElem?_eq_getElem→bT,length_take→fy,take_of_length_le→ej,set_cons_succ→n6,set_cons_zero→mh,take→mS,drop→kC,length_nil→k8,length_append→bQ,mem_singleton→ec,map_take→xy
open And renaming intro→cI
open Go Go.Am Go.Proofs
namespace T
def anp:dQ []=[]:=rfl
def anq(ρ:Nat->Nat)(n:Nat):bU ρ (.arr n [])=.arr n []:=rfl
def adn(m:ah)(hm:VM m)(l:List Int)(hl:ng m l)(he:kW (cj m l)=0):∃pa b t,an Tryz.prog 22 [.agg (ao m),.tree 1 (ints l)] [] (.bH [.agg [pa,aaa t,aaa b,.tree 5 (rowsOf az (tryD (cj m l)).nodes)],aaa 0]) [] /\
  gQ pa=true/\cJ pa=true/\(∀ ρ,br ρ pa=pa)/\(pa=.tree 1 (ints (tryD (cj m l)).plan)\/(pa=.lit (.slice none 0 0)/\(tryD (cj m l)).plan=[])):=by
 have h:=Nc m hm l hl;have hw:=PE (A8 hm l);have hn:=hw.nil;generalize cj m l=r at *;unfold CV at h;rw[if_pos he,he]at h;refine⟨_,_,_,h,zA rfl,Fw _,Fv _,?_⟩;unfold eS;split
 ·exact .inl rfl
 ·rename_i ht;exact .inr ⟨rfl,hn ht⟩
def ado(m:ah)(hm:VM m)(l:List Int)(hl:ng m l)(he:kW (cj m l)≠0):an Tryz.prog 22 [.agg (ao m),.tree 1 (ints l)] [] (.bH [wK,aaa (kW (cj m l))]) []:=by
 have h:=Nc m hm l hl;unfold CV at h;rwa [if_neg he]at h
def adp(m:ah)(hm:MB m):an Tryz.prog 8 [.agg (ao m)] [] (.bH [.agg (bO (pz m).1),aaa (pz m).2]) []:=by
 have h1:=ud m hm;by_cases hv:ek m=0;rotate_left
 ·rw[show pz m=(qc,ek m) by unfold pz;rw[if_pos hv]];generalize ek m=e at *;refine an.aC 69 0 [.cell 2 28,.tmp 3] Tryz.func8 ?_;((try revert hK K);(repeat'(first|refine Vd X0 h1 ?_|(refine V2 X0 ?_ ?_<;>try with_reducible intro hb)|(refine Xi ?_ ?_<;>try intro ht)|refine VD ?_ ?_|exact Xx|fail))<;>try with_reducible intro K hK)
  all_goals try(exfalso;omega)
  simp(disch:=omega)only[Ac,↓Pc,simprocAttr,rowOf];refine dr [] true Kq trivial Kq Kq (aI.mn (aI.agg _ _ rfl (eY.spec (R:=aI _ _ _ _) (cs:=bO qc) (ds:=[.lit (.slice none 0 0),.lit (.slice none 0 0),.lit (.slice none 0 0)]) ⟨.snap _ _ rfl (.nil 1),.snap _ _ rfl (.nil 5),.snap _ _ rfl (.nil 1),trivial⟩).2) (.pure rfl))
 have bP:=iu.1 hv;have h2:=Zh m bP;by_cases hr:(lM m).2=0;rotate_left
 ·rw[show pz m=(qc,(lM m).2) by unfold pz;rw[if_neg G3,if_pos hr]];rw[hv]at h1;generalize lM m=rd at *;refine an.aC 69 0 [.cell 2 28,.tmp 3] Tryz.func8 ?_;((try revert hK K);(repeat'(first|refine Vd @bne_self_eq_false.{0} (X2 h1 h2) ?_|(refine V2 @bne_self_eq_false.{0} ?_ ?_<;>try with_reducible intro hb)|(refine Xi ?_ ?_<;>try intro ht)|refine VD ?_ ?_|exact Xx|fail))<;>try with_reducible intro K hK)
  all_goals try(exfalso;omega)
  simp(disch:=omega)only[Ac,↓Pc,simprocAttr,rowOf];refine dr [] true Kq trivial Kq Kq (aI.mn (aI.agg _ _ rfl (eY.spec (R:=aI _ _ _ _) (cs:=bO qc) (ds:=[.lit (.slice none 0 0),.lit (.slice none 0 0),.lit (.slice none 0 0)]) ⟨.snap _ _ rfl (.nil 1),.snap _ _ rfl (.nil 5),.snap _ _ rfl (.nil 1),trivial⟩).2) (.pure rfl))
 have nQ:=PD bP;generalize aj:pz m=res;unfold pz at aj;rw[if_neg G3,if_neg G3]at aj;rw[hv]at h1;rw[hr]at h2;generalize (lM m).1=l at *;by_cases he:kW (cj m l)=0;rotate_left
 ·rw[if_pos he]at aj;have h3:=ado m bP l nQ he;generalize kW (cj m l)=e at *;subst aj;unfold wK at h3;have pU:(e != 0)=true:=by simp[he]
  refine an.aC 69 0 [.cell 2 28,.tmp 3] Tryz.func8 ?_;((try revert hK K);(repeat'(first|refine Vd (X2 @bne_self_eq_false.{0} @pU) (X3 h1 h2 h3) ?_|(refine V2 (X2 @bne_self_eq_false.{0} @pU) ?_ ?_<;>try with_reducible intro hb)|(refine Xi ?_ ?_<;>try intro ht)|refine VD ?_ ?_|exact Xx|fail))<;>try with_reducible intro K hK)
  all_goals try(exfalso;omega)
  simp(disch:=omega)only[Ac,↓Pc,simprocAttr,rowOf];refine dr [] true Kq trivial Kq Kq (aI.mn (aI.agg _ _ rfl (eY.spec (R:=aI _ _ _ _) (cs:=bO qc) (ds:=[.lit (.slice none 0 0),.lit (.slice none 0 0),.lit (.slice none 0 0)]) ⟨.snap _ _ rfl (.nil 1),.snap _ _ rfl (.nil 5),.snap _ _ rfl (.nil 1),trivial⟩).2) (.pure rfl))
 rw[if_neg (by simpa using he)]at aj;obtain⟨pa,b,t,h3,n1,s1,r1,_⟩:=adn m bP l nQ he;have dI:=nQ.1;generalize hP:(tryD (cj m l)).nodes=P at *;refine an.aC 69 0 [.cell 2 28,.tmp 3] Tryz.func8 ?_;((try revert hK K);(repeat'(first|refine Vc X0 h1 ?_|(refine V2 X0 ?_ ?_<;>try with_reducible intro hb)|(refine Xi ?_ ?_<;>try intro ht)|refine VD ?_ ?_|exact Xx|fail))<;>try with_reducible intro K hK)
 (refine Xn [] (h2) ?_;simp(disch:=omega)only[Ac,↓Pc,simprocAttr])
 ((try revert hK K);(repeat'(first|refine Va X0 ?_|(refine V2 X0 ?_ ?_<;>try with_reducible intro hb)|(refine Xi ?_ ?_<;>try intro ht)|refine VD ?_ ?_|exact Xx|fail))<;>try with_reducible intro K hK)
 (refine Xn [] (h3) ?_;simp(disch:=omega)only[Ac,↓Pc,simprocAttr,r1])
 ((try revert hK K);(repeat'(first|refine Va (X3 @s1 @r1 @bne_self_eq_false.{0}) ?_|(refine V2 (X3 @s1 @r1 @bne_self_eq_false.{0}) ?_ ?_<;>try with_reducible intro hb)|(refine Xi ?_ ?_<;>try intro ht)|refine VD ?_ ?_|exact Xx|fail))<;>try with_reducible intro K hK)
 refine bD (ay.my 3 2 1 rfl rfl Kq) ?_;refine bD (ay.jf 1 0 (cells:=ao m) P5 (by simp only[Kc,simprocAttr]) (by simp[ao])) ?_;clear h1 h2 h3 n1 s1 r1;generalize hS:(l.map λn=>(tryD (cj m (df l n))).plan)=S;have w5:S.length=l.length:=by rw[<- hS,List.length_map]
 have hex:rh m l=⟨l,P,S⟩:=by unfold rh;rw[hP,hS]
 rw[hex]at aj;generalize hEE:z5 m l l=E at *;refine aO (λi:Nat=>(⟨au [(1,.bm (ao m)),(2,.ptr 0 0 0),(5,.tree 1 (ints l)),(8,.ptr 1 0 0),(42,.tree 1 (ints l)),(43,aaa l.length),(44,aaa i)],[.var [.lit (.slice none 0 0),.lit (.slice none 0 0),.lit (.slice none 0 0)],.var [.tree 1 (ints l),.tree 5 (rowsOf az P),.ref 2 1 0 i],.arr 1 (dQ (S.take i))]⟩:St))
  (λi=>i<=l.length/\z5 m l (l.drop i)=E) (λi=>l.length-i) 0 ⟨aF _,hEE⟩ (by rw[List.take_zero];exact Xs false [1,3,4] (X2 @anp @anq)) ?_
 rintro i⟨hi,hE⟩Ql ak ar;by_cases hi':i<l.length
 ·have hw:=M' l (l.getD i 0) nQ.1;have wN:=nQ.df (l.getD i 0);rw[cN l i 0 hi',z5]at hE;by_cases DE:kW (cj m (df l (l.getD i 0)))=0
  ·rw[if_neg (by simpa using DE)]at hE;obtain⟨pa,b,t,h3,n1,s1,r1,hq⟩:=adn m bP _ wN DE;have cq:=eJ (l:=S) (k:=i) G3;have hSi:S.getD i default=(tryD (cj m (df l (l.getD i 0)))).plan:=by
    rw[<- hS,aG,b6,bT hi',aG,bT hi'];rfl
   rw[<- hSi]at hq;generalize aS:l.getD i 0=n at *;generalize (tryD (cj m (df l n))).nodes=P2 at *;generalize df l n=lw at *;generalize S.getD i default=q at *;repeat'(first|((fail_if_success (first|refine dE 14 ?_|refine dF 14 ?_));refine Xr @aS ?_;intro K hK)|refine Xo @aS ?_|(refine hK _ ?_;clear hK K)|(refine Xg @aS ?_ ?_<;>try intro hb)|(refine Xi ?_ ?_<;>try intro ht)|refine Xy ?_|refine Xd ?_ ?_|exact Xx|fail)
   refine jb [0,3,4] (.take 0 (.take 1 (.take 2 (.take 3 (.take 4 (.take 5 (.take 6 (.take 7 (.take 8 (.take 9 (.take 10 .nil))))))))))) rfl Kq (by decide +kernel) ?_;simp(disch:=omega)only[Ac,↓Pc,simprocAttr,Pw,↓Lq,ao];repeat'(first|with_reducible refine cI ?_ ?_|omega|with_reducible rfl)
   refine bK hw rfl rfl ?_;simp(disch:=omega)only[Ac,↓Pc,simprocAttr,Pw,↓Lq,ao];repeat'(first|with_reducible refine cI ?_ ?_|omega|with_reducible rfl)
   have s8:(dQ (S.take i)).length=i:=by rw[lj,fy];omega
   have Kj:(dQ (S.take i)).take i=dQ (S.take i):=ej G3;have PG:dQ (S.take i)++[[.tree 1 (ints q)]]=dQ (S.take (i+1)):=by rw[cq,Hp]
   clear cq n1 s1 r1;rcases hq with rfl|⟨rfl,GJ⟩
   ·refine bK h3 rfl rfl ?_;simp(disch:=omega)only[Ac,↓Pc,simprocAttr,Pw,↓Lq,ao];repeat'(first|with_reducible refine cI ?_ ?_|omega|with_reducible rfl)
    repeat(first|refine Xu ?_)
    ((try revert hK K);(repeat'(first|refine Va (X4 @bne_self_eq_false.{0} @s8 @Kj @PG) ?_|(refine V2 (X4 @bne_self_eq_false.{0} @s8 @Kj @PG) ?_ ?_<;>try with_reducible intro hb)|(refine Xi ?_ ?_<;>try intro ht)|refine VD ?_ ?_|exact Xx|fail))<;>try with_reducible intro K hK)
    all_goals try(exfalso;omega)
    all_goals exact ak _ (i+1) ⟨G3,hE⟩ G3 (Xs false [0,1,5] X0)
   ·refine bK h3 rfl rfl ?_;simp(disch:=omega)only[Ac,↓Pc,simprocAttr,Pw,↓Lq,ao];repeat'(first|with_reducible refine cI ?_ ?_|omega|with_reducible rfl)
    repeat(first|refine Xu ?_)
    ((try revert hK K);(repeat'(first|refine Va (X3 @bne_self_eq_false.{0} @s8 @Kj) ?_|(refine V2 (X3 @bne_self_eq_false.{0} @s8 @Kj) ?_ ?_<;>try with_reducible intro hb)|(refine Xi ?_ ?_<;>try intro ht)|refine VD ?_ ?_|exact Xx|fail))<;>try with_reducible intro K hK)
    all_goals try(exfalso;omega)
    have zq:(dQ (S.take i)++[[AV.lit (.slice none 0 0)]])[i]?=some [.lit (.slice none 0 0)]:=by rw[List.getElem?_append_right G3,s8,jv];rfl
    have xN:(dQ (S.take i)++[[AV.lit (.slice none 0 0)]]).set i [.tree 1 []]=dQ (S.take (i+1)):=by
     rw[<- PG,List.set_append_right _ _ G3,s8,jv,GJ];rfl
    refine ak _ (i+1) ⟨G3,hE⟩ G3 (ay.trans (ay.ME 5 i 1 (cells':=[.tree 1 []]) rfl zq ⟨.inr ⟨rfl,_,rfl⟩,trivial⟩) ?_);dsimp only[n6,mh];rw[xN];exact Xs false [0,1,5] X0
  ·rw[if_pos DE]at hE;have h3:=ado m bP _ wN DE;unfold wK at h3;generalize kW (cj m (df l (l.getD i 0)))=e at *;have pU:(e != 0)=true:=by simp[DE]
   subst hE;rw[if_pos DE]at aj;subst aj;generalize aS:l.getD i 0=n at *;generalize df l n=lw at *;repeat'(first|((fail_if_success (first|refine dE 14 ?_|refine dF 14 ?_));refine Xr @aS ?_;intro K hK)|refine Xo @aS ?_|(refine hK _ ?_;clear hK K)|(refine Xg @aS ?_ ?_<;>try intro hb)|(refine Xi ?_ ?_<;>try intro ht)|refine Xy ?_|refine Xd ?_ ?_|exact Xx|fail)
   refine jb [0,3,4] (.take 0 (.take 1 (.take 2 (.take 3 (.take 4 (.take 5 (.take 6 (.take 7 (.take 8 (.take 9 (.take 10 .nil))))))))))) rfl Kq (by decide +kernel) ?_;simp(disch:=omega)only[Ac,↓Pc,simprocAttr,Pw,↓Lq,ao];repeat'(first|with_reducible refine cI ?_ ?_|omega|with_reducible rfl)
   refine bK hw rfl rfl ?_;simp(disch:=omega)only[Ac,↓Pc,simprocAttr,Pw,↓Lq,ao];repeat'(first|with_reducible refine cI ?_ ?_|omega|with_reducible rfl)
   refine bK h3 rfl rfl ?_;simp(disch:=omega)only[Ac,↓Pc,simprocAttr,Pw,↓Lq,ao];repeat'(first|with_reducible refine cI ?_ ?_|omega|with_reducible rfl)
   repeat(first|refine Xu ?_)
   ((try revert hK K);(repeat'(first|refine Va @pU ?_|(refine V2 @pU ?_ ?_<;>try with_reducible intro hb)|(refine Xi ?_ ?_<;>try intro ht)|refine VD ?_ ?_|exact Xx|fail))<;>try with_reducible intro K hK)
   all_goals try(exfalso;omega)
   refine ar _ _ rfl ?_;repeat(first|refine Xu ?_)
   refine Xe ?_;simp(disch:=omega)only[Ac,↓Pc,simprocAttr,rowOf];refine dr [] true Kq trivial Kq Kq (aI.mn (aI.agg _ _ rfl (eY.spec (R:=aI _ _ _ _) (cs:=bO qc) (ds:=[.lit (.slice none 0 0),.lit (.slice none 0 0),.lit (.slice none 0 0)]) ⟨.snap _ _ rfl (.nil 1),.snap _ _ rfl (.nil 5),.snap _ _ rfl (.nil 1),trivial⟩).2) (.pure rfl))
 ·obtain rfl:i=l.length:=G3;rw[List.drop_eq_nil_of_le G3,z5]at hE;subst hE;rw[if_neg G9]at aj;subst aj;rw[ej G3];((try revert hK K);(repeat'(first|refine Va X0 ?_|(refine V2 X0 ?_ ?_<;>try with_reducible intro hb)|(refine Xi ?_ ?_<;>try intro ht)|refine VD ?_ ?_|exact Xx|fail))<;>try with_reducible intro K hK)
  refine ar _ _ rfl ?_;clear ak ar Ql;repeat(first|refine Xu ?_)
  ((try revert hK K);(repeat'(first|refine Vb X0 ?_|(refine V2 X0 ?_ ?_<;>try with_reducible intro hb)|(refine Xi ?_ ?_<;>try intro ht)|refine VD ?_ ?_|exact Xx|fail))<;>try with_reducible intro K hK)
  simp(disch:=omega)only[Ac,↓Pc,simprocAttr,rowOf];refine dr [] true Kq trivial Kq Kq (aI.mn (aI.agg _ _ rfl (eY.spec (R:=aI _ _ _ _) (cs:=[.tree 1 (ints l),.tree 5 (rowsOf az P),.tree 1 (dQ S)]) (ds:=[.tree 1 (ints l),.tree 5 (rowsOf az P),.ref 2 1 0 l.length]) ⟨.pure rfl,.pure rfl,aI.cp rfl (xJ _) (by rw[lj,w5]) (iD G9) (xI _),trivial⟩).2) (.pure rfl))
def GY:CB qc:=⟨Kq,Kq,λ_ h=>(by cases h),⟨Kq,λ_ h=>(by cases h),λ_ h=>(by cases h),λ_ h=>(by cases h),λ_ h=>(by cases h),λ_ h=>(by cases h)⟩⟩
def ant{m:ah}(hm:VM m){l:List Int}(h:ng m l):CB (rh m l):=by
 obtain⟨h1,h2,h3,h4⟩:=ann hm h;exact⟨h1,h2,h3,h4⟩
def adq(m:ah):CB (pz m).1:=by
 unfold pz;split
 ·exact GY
 rename_i hv;have bP:VM m:=iu.1 (by simpa using hv);split
 ·exact GY
 split
 ·exact GY
 split
 ·exact GY
 ·exact ant bP (PD bP)
def oA3:bV:=⟨0,0,0,0,0,[(1,1099511627776)]⟩
def mg:ah:=⟨[[oA3]],[],[],3⟩
def DF:VM mg:=iu.1 (by decide +kernel)
def adr:lM mg=([1],0):=by decide +kernel
def anv:wM mg qc=false:=by decide +kernel
def anw:wM mg (rh mg [1])=true:=by decide +kernel
def ads:pz mg=(rh mg [1],0):=by
 have h1:kW (cj mg [1])=0:=by decide +kernel
 have h2:z5 mg [1] [1]=0:=by decide +kernel
 unfold pz;rw[if_neg (by rw[iu.2 DF];simp),adr,if_neg G9,if_neg (by rw[h1];simp),if_neg (by rw[h2];simp)]
def adt:an Tryz.prog 5 [] [] (.lit (.bool true)) []:=by
 have h1:=ahD mg DF.mb;rw[show zB mg=([1],0) by unfold zB;rw[if_neg (by rw[iu.2 DF];simp)];exact adr]at h1;have h2:=adp mg DF.mb;rw[ads]at h2;have jr:CB (rh mg [1]):=by have:=adq mg;rwa [ads]at this
 have h3:=Nj mg DF.mb (rh mg [1]) jr;rw[anw]at h3;have h4:=Nj mg DF.mb qc GY;rw[anv]at h4;have h5:=afZ [1] [1] Kq;rw[show decide (([1]:List Int)=[1])=true from rfl]at h5;dsimp only at h1 h2;unfold bO at h2 h3;unfold rh at h2 h3;dsimp only at h2 h3;generalize (tryD (cj mg [1])).nodes=P at *;generalize ([1].map λn=>(tryD (cj mg (df [1] n))).plan)=S at *;refine an.aC 44 0 [.tmp 0] Tryz.func5 ?_;repeat'(first|((fail_if_success (first|refine dE 1 ?_|refine dF 1 ?_));refine Xr X0 ?_;intro K hK)|(refine hK _ ?_;clear hK K)|refine XY ?_|fail)
 refine MC 6 Kq ?_;intro K K1 hK zE;simp(disch:=omega)only[Ac,↓Pc,simprocAttr,mS];refine zE _ ⟨au [(11,.agg (ao mg))],[]⟩ ?_ ?_
 ·refine ay.aq [] true _ _ Kq trivial Kq Kq ⟨?_,trivial⟩;simp only[Kc,simprocAttr];refine aI.agg _ _ rfl (eY.spec (R:=aI _ _ _ _) (cs:=ao mg) (ds:=[.ref 2 1 0 1,.lit (.slice none 0 0),.lit (.slice none 0 0),aaa 3]) ⟨.snap _ _ rfl ?_,.snap _ _ rfl (.nil 4),.snap _ _ rfl (.nil 4),.pure rfl,trivial⟩).2;exact cG.mk rfl rfl (iD Kq) (fQ _) ⟨⟨cG.mk rfl rfl (iD Kq) (fQ _) ⟨⟨.lit _,.lit _,.lit _,.lit _,.lit _,cG.mk rfl rfl (iD Kq) (fQ _) ⟨⟨.lit _,.lit _,trivial⟩,trivial⟩,trivial⟩,trivial⟩,trivial⟩,trivial⟩
 clear zE K1;simp(disch:=omega)only[Ac,↓Pc,simprocAttr,kC];refine hK _ ?_;clear hK K;generalize mg=m at *;repeat(refine Xu ?_)
 ((refine Vd X0 (X2 h1 h2) ?_)<;>try with_reducible intro K hK)
 (refine Xf [] (h5) ?_;simp(disch:=omega)only[Ac,↓Pc,simprocAttr])
 ((try revert hK K);(refine Vd X0 h3 ?_)<;>try with_reducible intro K hK)
 refine pI [] h4 Kq trivial ⟨.pure rfl,(aI.agg _ _ rfl (eY.spec (R:=aI _ _ _ _) (cs:=bO qc) (ds:=[.lit (.slice none 0 0),.lit (.slice none 0 0),.lit (.slice none 0 0)]) ⟨aI.nil,aI.nil,aI.nil,trivial⟩).2),trivial⟩ rfl G9 ?_;simp(disch:=omega)only[Ac,↓Pc,simprocAttr];((try revert hK K);(refine Vb X0 ?_))
 all_goals exact aE rfl rfl
def aoM(tape:List Int)(raw:sg)(z6 qf:Int)(adu:CB raw)(hw:dS z6)(Cj:dS qf):an Tryz.prog 3 [.tree 1 (ints tape),.agg (bO raw),aaa z6,aaa qf] [] (.lit (.bool true)) []:=by
  have km:=adu.sU.sU;have cZ:=adu.Bb;refine an.aC 145 0 [.tmp 8] Tryz.func3 ?_;repeat'(first|((fail_if_success (first|refine dE 3 ?_|refine dF 3 ?_));refine Xq @bO.eq_1 ?_;intro K hK)|refine Xo @bO.eq_1 ?_|refine Xc (afY _) ?_|refine Xc (adt) ?_|(refine hK _ ?_;clear hK K)|(refine Xg @bO.eq_1 ?_ ?_<;>try intro hb)|(refine Xi ?_ ?_<;>try intro ht)|refine XY ?_|refine Xd ?_ ?_|exact Xx|fail)
  all_goals try(exact aE rfl rfl)
  all_goals try(exfalso;omega)
  have hL:tape.length<1000000:=G3;refine bD (ay.jf 5 0 (cells:=bO raw) P5 (by simp only[Kc,simprocAttr]) (by simp[bO])) ?_;refine bD (σ':=⟨au [(0,.tree 1 (ints tape)),(2,aaa z6),(3,aaa qf),(5,.bm (bO raw))],[]⟩) (Xs false [] @bO.eq_1) ?_;have jo:=alE tape 0 (aF _) hL;unfold ef at jo;repeat'(first|((fail_if_success (first|refine dE 4 ?_|refine dF 4 ?_));refine Xq X0 ?_;intro K hK)|refine Xo X0 ?_|refine Xc (Ws tape) ?_|(refine hK _ ?_;clear hK K)|(refine Xg X0 ?_ ?_<;>try intro hb)|(refine Xi ?_ ?_<;>try intro ht)|refine Xy ?_|refine Xd ?_ ?_|exact Xx|fail)
  (refine Xn [] (Ws tape) ?_;simp(disch:=omega)only[Ac,↓Pc,simprocAttr])
  repeat'(first|((fail_if_success (first|refine dE 4 ?_|refine dF 4 ?_));refine Xr X0 ?_;intro K hK)|refine Xo X0 ?_|(refine hK _ ?_;clear hK K)|(refine Xg X0 ?_ ?_<;>try intro hb)|(refine Xi ?_ ?_<;>try intro ht)|refine Xy ?_|refine Xd ?_ ?_|exact Xx|fail)
  refine sR 1 Kq _ rfl ?_;intro K hK;simp(disch:=omega)only[Ac,↓Pc,simprocAttr,mS,kC];refine⟨rfl,(show nF Tryz.prog 7 [.ptr 0 0 0] (some 38) _ _ from ?_)⟩;refine EH [0] jo Kq ⟨rfl,trivial⟩ ⟨.eq rfl,trivial⟩ ?_;rintro r os⟨m,k,hm,hk,rfl,rfl⟩;simp(disch:=omega)only[Ac,↓Pc,simprocAttr,kC];refine hK _ ?_;clear hK K jo;have PH:=hm.om.mb;have hex:=adp m PH;have jr:=adq m;obtain⟨lr,sP⟩:=ano m;generalize (pz m).1=c at *;generalize (pz m).2=ce at *;repeat'(first|((fail_if_success (first|refine dE 5 ?_|refine dF 5 ?_));refine Xr X0 ?_;intro K hK)|refine Xo X0 ?_|(refine hK _ ?_;clear hK K)|(refine Xg X0 ?_ ?_<;>try intro hb)|(refine Xi ?_ ?_<;>try intro ht)|refine Xy ?_|refine Xd ?_ ?_|exact Xx|fail)
  refine bD (ay.jf 10 1 (cells:=ao m) P5 (by simp only[Kc,simprocAttr]) (by simp[ao])) ?_;repeat'(first|((fail_if_success (first|refine dE 6 ?_|refine dF 6 ?_));refine Xq @bO.eq_1 ?_;intro K hK)|refine Xo @bO.eq_1 ?_|refine Xc (hex) ?_|(refine hK _ ?_;clear hK K)|(refine Xg @bO.eq_1 ?_ ?_<;>try intro hb)|(refine Xi ?_ ?_<;>try intro ht)|refine Xy ?_|refine Xd ?_ ?_|exact Xx|fail)
  refine bD (ay.jf 11 2 (cells:=bO c) P5 (by simp only[Kc,simprocAttr]) (by simp[bO])) ?_;have cB:=jr.iI;have bL:=jr.Bb;refine bD (σ':=⟨au [(2,aaa z6),(3,aaa qf),(5,.bm (bO raw)),(9,.ptr 0 0 0),(10,.bm (ao m)),(11,.bm (bO c))],[ef tape k]⟩) (by unfold ef;exact Xs false [0] (X2 @bO.eq_1 @ao.eq_1)) ?_;have aoN:∀ id:Nat,id∈[0]->id<2:=G9;have aoO:∀ id:Nat,id∈[0]->id<3:=G9;have aoP:∀ id:Nat,id∈[0]->id<1:=G9;refine E1 ?_;intro Q hn he;refine wa ⟨au [(2,aaa z6),(3,aaa qf),(5,.bm (bO raw)),(9,.ptr 0 0 0),(10,.bm (ao m)),(11,.bm (bO c)),(13,.ptr 1 0 0)],[ef tape k,.var [.ref 2 1 0 c.rules.length,.tree 5 (rowsOf az c.nodes),.ref 3 1 0 c.p6.length],.arr 1 (ints c.rules),.arr 1 (dQ c.p6)]⟩ hn ?_ (λkey=>?_);rotate_left
  · (try clear hn;try clear he)
    refine alk [0] [1,4,6] [2,7] (.take 0 (.take 1 (.take 3 (.take 4 (.take 5 (.take 6 (.both 2 (.both 7 (.take 8 (.take 9 (.take 10 .nil))) 9 (.take 7 (.take 8 (.take 10 .nil)))) 9 (.take 2 (.take 7 (.take 8 (.take 10 .nil))))))))))) rfl Kq (by decide +kernel) ?_;unfold ef at *;simp(disch:=omega)only[Ac,↓Pc,simprocAttr,Ra,j8,bO,↓Lq];repeat'(first|with_reducible refine cI ?_ ?_|omega|with_reducible rfl|assumption)
    all_goals refine key _ ?_
    · exact Xs false [0,3,1,2] @bO.eq_1
    · exact Xs false [0,2,1,3] @bO.eq_1
    · exact Xs false [0,1,2,3] @bO.eq_1
  clear hex;repeat'(first|((fail_if_success (first|refine dE 7 ?_|refine dF 7 ?_));refine Xr X0 ?_;intro K hK)|refine Xo X0 ?_|(refine hK _ ?_;clear hK K)|(refine Xg X0 ?_ ?_<;>try intro hb)|(refine Xi ?_ ?_<;>try intro ht)|refine Xy ?_|refine Xd ?_ ?_|exact Xx|fail)
  refine Ms ?_;intro Q hn he;have key:∀ (X:sg) (st:St),CB X->ay 0 st ⟨au [(5,.bm (bO raw)),(10,.bm (ao m)),(11,.bm (bO c)),(13,.bm (bO X))],[]⟩->Q .normal st:=λX st hX ht=>by
    refine hn _ (bD ht ?_);(try clear hn;try clear he;clear ht)
    have hls:∀ y∈[raw,c,X],CB y:=λy hy=>by
      simp only[List.mem_cons,List.not_mem_nil,or_false]at hy;rcases hy with rfl|rfl|rfl<;>assumption
    ((try revert hK K);(repeat'(first|refine Va @bO.eq_1 ?_|(refine V2 @bO.eq_1 ?_ ?_<;>try with_reducible intro hb)|(refine Xi ?_ ?_<;>try intro ht)|refine VD ?_ ?_|exact Xx|fail))<;>try with_reducible intro K hK)
    refine bD (ay.abE 130 0 3 (rows:=rowsOf bO [raw,c,X]) rfl (by rw[bX,show [raw,c,X].length=3 from rfl];simp only[Kc,simprocAttr]) (fQ _) (jX _)) ?_;have vx:[raw,c,X].length=3:=rfl;generalize [raw,c,X]=ls at *;refine aO (λi:Nat=>(⟨au [(10,.bm (ao m)),(130,.tree 3 (rowsOf bO ls)),(131,aaa 3),(132,aaa i)],[]⟩:St)) (λi=>i<=3) (λi=>3-i) 0 (aF _) ?_ ?_
    · exact Xs false [] @ao.eq_1
    rintro i hi Ql ak ar;by_cases hi':i<3
    · have o6:=hls (ls.getD i ⟨[],[],[]⟩) (aB G3)
      have vC:(rowsOf bO ls)[i]?=some (bO (ls.getD i ⟨[],[],[]⟩)):=by
        unfold rowsOf;rw[b6,bT G3,aG,bT G3];rfl
      have jO:(rowsOf bO ls).getD i []=bO (ls.getD i ⟨[],[],[]⟩):=by rw[aG,vC];rfl
      have dI:(rowsOf bO ls).length=3:=by rw[bX];exact vx
      generalize ls.getD i ⟨[],[],[]⟩=y at *;have hC:=Nj m PH y o6;have hR:=ahJ m PH y o6;generalize wM m y=bb at *;((try revert hK K);(repeat'(first|refine Vc (X4 @jO @dI @bO.eq_1 @bne_self_eq_false.{0}) (X2 hC hR) ?_|(refine V2 (X4 @jO @dI @bO.eq_1 @bne_self_eq_false.{0}) ?_ ?_<;>try with_reducible intro hb)|(refine Xi ?_ ?_<;>try intro ht)|refine VD ?_ ?_|exact Xx|fail))<;>try with_reducible intro K hK)
      all_goals try(exfalso;omega)
      exact ak _ (i+1) G3 G3 (Xs false [] @ao.eq_1)
    · ((try revert hK K);(repeat'(first|refine Va X0 ?_|(refine V2 X0 ?_ ?_<;>try with_reducible intro hb)|(refine Xi ?_ ?_<;>try intro ht)|refine VD ?_ ?_|exact Xx|fail))<;>try with_reducible intro K hK)
      refine ar _ _ rfl ?_;clear ak ar Ql;repeat(first|refine Xu ?_)
      ((try revert hK K);(repeat'(first|refine Vd X0 adt ?_|(refine V2 X0 ?_ ?_<;>try with_reducible intro hb)|(refine Xi ?_ ?_<;>try intro ht)|refine VD ?_ ?_|exact Xx|fail))<;>try with_reducible intro K hK)
      exact aE rfl rfl
  (try clear hn)
  have BO:=Iw z6 6 (by unfold dS;omega);have hmr:=Io z6 6 G3;generalize ve z6 6=w at *;have uc:=hm.gm;have dh:=λb=>ak1 m (by have:=uc.cls;omega) uc.opt tape k b hk hL;have gF:=λb=>adl (L:=tape) (b:=b) m.cls k [] hk;have aoQ:=uc.cls;have ln:=jr.row;have eK:=jr.sU;obtain⟨R,N,S⟩:=c;dsimp only at *;obtain rfl|rfl|rfl|rfl|rfl|rfl:w=0\/w=1\/w=2\/w=3\/w=4\/w=5:=G3
  ·
    repeat'(first|((fail_if_success (first|refine dE 9 ?_|refine dF 9 ?_));refine Xq X0 ?_;intro K hK)|refine Xo X0 ?_|refine Xc (BO) ?_|(refine hK _ ?_;clear hK K)|(refine Xg X0 ?_ ?_<;>try intro hb)|(refine Xi ?_ ?_<;>try intro ht)|refine Xy ?_|refine Xd ?_ ?_|exact Xx|fail)
    have hm7:=Iw qf 7 (by unfold dS;omega);have aoR:=Io qf 7 G3;generalize ve qf 7=v at *;refine bD (σ':=⟨au [(3,aaa qf),(5,.bm (bO raw)),(9,.ptr 0 0 0),(10,.bm (ao m)),(11,.bm (bO ⟨R,N,S⟩)),(13,.ptr 1 0 0)],[ef tape k,.var [.ref 2 1 0 R.length,.tree 5 (rowsOf az N),.ref 3 1 0 S.length],.arr 1 (ints R),.arr 1 (dQ S)]⟩) (by unfold ef;exact Xv X0) ?_;refine jb [3] (.take 0 (.take 1 (.take 2 (.take 3 (.take 4 (.take 5 (.take 6 (.take 7 (.take 8 .nil))))))))) rfl Kq (by decide +kernel) ?_;unfold ef at *;simp(disch:=omega)only[Ac,↓Pc,simprocAttr,Pw,↓Lq,yV];repeat'(first|with_reducible refine cI ?_ ?_|omega|with_reducible rfl)
    all_goals
      refine bK hm7 rfl rfl ?_;simp(disch:=omega)only[Ac,↓Pc,simprocAttr,Pw,↓Lq,yV];repeat'(first|with_reducible refine cI ?_ ?_|omega|with_reducible rfl)
    repeat(first|refine Xu ?_)
    have hp:=dh true;have hs:=gF true;clear dh gF BO hm7;generalize tV tape true m.cls k []=q at *;obtain⟨q,k3⟩:=q;dsimp only at hp hs;rw[k8,gf]at hs;have gD:(R++[v-1]).length=R.length+1:=G9;rw[<- gD];have anz:CB ⟨R++[v-1],N,S++[q]⟩:=⟨by show(R++[v-1]).length<_;omega,by show(S++[q]).length<_;rw[bQ,List.length_singleton];omega,λp hp=>by
      rcases List.mem_append.1 hp with hp|hp
      · exact ln p hp
      · rw[ec]at hp;subst hp;omega,eK⟩
    have hRb:(R++[v-1]).length<=1001:=G3;generalize R++[v-1]=R2 at *;refine bD (σ':=⟨au [(5,.bm (bO raw)),(9,.ptr 0 0 0),(10,.bm (ao m)),(11,.bm (bO ⟨R,N,S⟩)),(13,.ptr 1 0 0)],[ef tape k,.var [.ref 2 1 0 R2.length,.tree 5 (rowsOf az N),.ref 3 1 0 S.length],.arr 1 (ints R2),.arr 1 (dQ S)]⟩) (by unfold ef;exact Xs false [0,1,5,3] (X2 @bO.eq_1 @ao.eq_1)) ?_;unfold ef at *;refine Ia 0 [3] [4] (.take 0 (.take 1 (.take 2 (.take 3 (.take 4 (.take 5 (.take 6 (.take 7 (.take 8 .nil))))))))) rfl Kq (by decide +kernel) ?_;simp(disch:=omega)only[Ac,↓Pc,simprocAttr,Hc,gK,↓Lq,ao];simp only[ao]at hp;(refine AK (hp) rfl rfl rfl rfl (by(repeat'(first|exact trivial|refine cI ?_ ?_))<;>first|exact .inl ⟨rfl,rfl⟩|exact .inr ⟨rfl,rfl⟩) ?_;simp(disch:=omega)only[Ac,↓Pc,simprocAttr,Hc,gK,↓Lq,Hp])
    repeat'(first|with_reducible refine cI ?_ ?_|omega|with_reducible rfl)
    repeat(first|refine Xu ?_)
    refine key ⟨R2,N,S++[q]⟩ _ anz (ay.trans (ay.kQ 2 1 0 1 (rows:=ints R2) rfl rfl (by rw[lh];rfl) (ny _) (oa _)) (ay.trans (ay.kQ 5 1 2 1 (rows:=dQ (S++[q])) rfl rfl (by rw[lj,bQ];rfl) (xJ _) (xI _)) (ay.trans (ay.jf 13 1 (cells:=bO ⟨R2,N,S++[q]⟩) P5 (by simp only[Kc,simprocAttr]) (by simp[bO])) ?_)));dsimp only[n6,mh];exact Xs false [] (X2 @bO.eq_1 @ao.eq_1)
  ·
    repeat'(first|((fail_if_success (first|refine dE 12 ?_|refine dF 12 ?_));refine Xq X0 ?_;intro K hK)|refine Xo X0 ?_|refine Xc (BO) ?_|(refine hK _ ?_;clear hK K)|(refine Xg X0 ?_ ?_<;>try intro hb)|(refine Xi ?_ ?_<;>try intro ht)|refine Xy ?_|refine Xd ?_ ?_|exact Xx|fail)
    refine bD (ay.kQ 2 1 0 1 (rows:=ints R) rfl rfl (by rw[lh];rfl) (ny _) (oa _)) ?_;refine bD (ay.kQ 3 1 2 1 (rows:=dQ S) rfl rfl (by rw[lj];rfl) (xJ _) (xI _)) ?_;dsimp only[n6,mh];have iU:(ints R).length=R.length:=lh R;have fA:(dQ S).length=S.length:=lj S;have om0:∀ (f:Operand->AV),Option.map f none=none:=λ_=>rfl;((try revert hK K);(repeat'(first|refine Va (X4 @iU @fA @om0 @implies_true.{0}) ?_|(refine V2 (X4 @iU @fA @om0 @implies_true.{0}) ?_ ?_<;>try with_reducible intro hb)|(refine Xi ?_ ?_<;>try intro ht)|refine VD ?_ ?_|exact Xx|fail))<;>try with_reducible intro K hK)
    all_goals try(exfalso;omega)
    · rw[show ∀ n,mS n (ints R)=ints (R.take n) from λn=>xy.symm,show ∀ n,mS n (dQ S)=dQ (S.take n) from λn=>xy.symm]
      refine key ⟨R.take ((R.length:Int)-1).toNat,N,S.take (min ((R.length:Int)-1) S.length).toNat⟩ _ ⟨by show(R.take _).length<_;rw[fy];omega,by show(S.take _).length<_;rw[fy];omega,λp hp=>ln p (List.mem_of_mem_take hp),eK⟩ (ay.trans (ay.jf 13 1 (cells:=bO ⟨R.take ((R.length:Int)-1).toNat,N,S.take (min ((R.length:Int)-1) S.length).toNat⟩) P5 (by simp only[Kc,simprocAttr]) (by simp[bO])) ?_);exact Xs false [] (X2 @bO.eq_1 @ao.eq_1)
    · refine key ⟨R,N,S⟩ _ jr (ay.trans (ay.jf 13 1 (cells:=bO ⟨R,N,S⟩) P5 (by simp only[Kc,simprocAttr]) (by simp[bO])) ?_)
      exact Xs false [] (X2 @bO.eq_1 @ao.eq_1)
  ·
    repeat'(first|((fail_if_success (first|refine dE 19 ?_|refine dF 19 ?_));refine Xq X0 ?_;intro K hK)|refine Xo X0 ?_|refine Xc (BO) ?_|(refine hK _ ?_;clear hK K)|(refine Xg X0 ?_ ?_<;>try intro hb)|(refine Xi ?_ ?_<;>try intro ht)|refine Xy ?_|refine Xd ?_ ?_|exact Xx|fail)
    rotate_left
    · refine key ⟨R,N,S⟩ _ jr (ay.trans (ay.kQ 2 1 0 1 (rows:=ints R) rfl rfl (by rw[lh];rfl) (ny _) (oa _)) (ay.trans (ay.kQ 3 1 2 1 (rows:=dQ S) rfl rfl (by rw[lj];rfl) (xJ _) (xI _)) (ay.trans (ay.jf 13 1 (cells:=bO ⟨R,N,S⟩) P5 (by simp only[Kc,simprocAttr]) (by simp[bO])) ?_)))
      dsimp only[n6,mh];exact Xs false [] (X2 @bO.eq_1 @ao.eq_1)
    have hmn:=Iw qf (S.length:Int) (by unfold dS;omega);have qQ:=Io qf (S.length:Int) G3;generalize ve qf (S.length:Int)=v at *;refine bD (σ':=⟨au [(3,aaa qf),(5,.bm (bO raw)),(9,.ptr 0 0 0),(10,.bm (ao m)),(11,.bm (bO ⟨R,N,S⟩)),(13,.ptr 1 0 0),(15,aaa S.length)],[ef tape k,.var [.ref 2 1 0 R.length,.tree 5 (rowsOf az N),.ref 3 1 0 S.length],.arr 1 (ints R),.arr 1 (dQ S)]⟩) (by unfold ef;exact Xv X0) ?_;unfold ef at *;refine Ia 0 [4,6] [10] (.take 0 (.take 1 (.take 2 (.take 3 (.take 4 (.take 5 (.take 6 (.take 7 (.take 8 (.take 9 (.take 10 (.take 11 (.take 12 .nil))))))))))))) rfl Kq (by decide +kernel) ?_;simp(disch:=omega)only[Ac,↓Pc,simprocAttr,Hc,gK,↓Lq,ao];repeat'(first|with_reducible refine cI ?_ ?_|omega|with_reducible rfl)
    refine bK hmn rfl rfl ?_;simp(disch:=omega)only[Ac,↓Pc,simprocAttr,Hc,gK,↓Lq,ao];repeat'(first|with_reducible refine cI ?_ ?_|omega|with_reducible rfl)
    have hp:=dh (EF qf 1==0);have hs:=gF (EF qf 1==0);clear dh gF;generalize (EF qf 1==0)=b at *;generalize tV tape b m.cls k []=q at *;obtain⟨q,k3⟩:=q;dsimp only at hp hs;rw[k8,gf]at hs;simp only[ao]at hp;have hse:∀ x:List Int,(dQ S).set v.toNat [.tree 1 (ints x)]=dQ (S.set v.toNat x):=λx=>by unfold dQ;rw[List.map_set]
    (refine AK (hp) rfl rfl rfl rfl (by(repeat'(first|exact trivial|refine cI ?_ ?_))<;>first|exact .inl ⟨rfl,rfl⟩|exact .inr ⟨rfl,rfl⟩) ?_;simp(disch:=omega)only[Ac,↓Pc,simprocAttr,Hc,gK,↓Lq,hse])
    repeat'(first|with_reducible refine cI ?_ ?_|omega|with_reducible rfl)
    repeat(first|refine Xu ?_)
    have w5:(S.set v.toNat q).length=S.length:=List.length_set ..;rw[<- w5];refine key ⟨R,N,S.set v.toNat q⟩ _ ⟨jr.iI,by rw[w5];exact jr.Bb,λp hp=>(List.mem_or_eq_of_mem_set hp).elim (ln p) λe=>by rw[e];omega,eK⟩ (ay.trans (ay.kQ 2 1 0 1 (rows:=ints R) rfl rfl (by rw[lh];rfl) (ny _) (oa _)) (ay.trans (ay.kQ 3 1 2 1 (rows:=dQ (S.set v.toNat q)) rfl rfl (by rw[lj];rfl) (xJ _) (xI _)) (ay.trans (ay.jf 13 1 (cells:=bO ⟨R,N,S.set v.toNat q⟩) P5 (by simp only[Kc,simprocAttr]) (by simp[bO])) ?_)));dsimp only[n6,mh];exact Xs false [] (X2 @bO.eq_1 @ao.eq_1)
  ·
    ((try revert hK K);(repeat'(first|refine Vc X0 BO ?_|(refine V2 X0 ?_ ?_<;>try with_reducible intro hb)|(refine Xi ?_ ?_<;>try intro ht)|refine VD ?_ ?_|exact Xx|fail))<;>try with_reducible intro K hK)
    refine key ⟨R,[eW []],S⟩ _ ⟨jr.iI,jr.Bb,ln,⟨(show(1:Nat)<9223372036854775808 by decide),λx hx=>by rw[ec.1 hx];decide,λx hx=>by rw[ec.1 hx];decide,λx hx=>by rw[ec.1 hx];decide,λx hx=>by rw[ec.1 hx];decide,λx hx l hl=>by rw[ec.1 hx]at hl;cases hl⟩⟩ (ay.trans (ay.kQ 2 1 0 1 (rows:=ints R) rfl rfl (by rw[lh];rfl) (ny _) (oa _)) (ay.trans (ay.kQ 3 1 2 1 (rows:=dQ S) rfl rfl (by rw[lj];rfl) (xJ _) (xI _)) (ay.trans (ay.ME 4 0 5 (cells':=az (eW [])) rfl rfl acs) (ay.trans (ay.kQ 4 1 1 5 (rows:=rowsOf az [eW []]) rfl rfl rfl (fQ _) (jX _)) (ay.trans (ay.jf 13 1 (cells:=bO ⟨R,[eW []],S⟩) P5 (by simp only[Kc,simprocAttr]) (by simp[bO])) ?_)))));dsimp only[n6,mh];exact Xs false [] (X2 @bO.eq_1 @ao.eq_1)
  ·
    have zr:=alN m uc tape hL 3 Kq Kq k hk;obtain⟨dJ,kR⟩:=anm uc hk;generalize ku m tape 3 [] k []=q at *;obtain⟨P,k3⟩:=q;dsimp only at zr dJ;unfold ef at *;repeat'(first|((fail_if_success (first|refine dE 23 ?_|refine dF 23 ?_));refine Xq X0 ?_;intro K hK)|refine Xo X0 ?_|refine Xc (BO) ?_|(refine hK _ ?_;clear hK K)|(refine Xg X0 ?_ ?_<;>try intro hb)|(refine Xi ?_ ?_<;>try intro ht)|refine Xy ?_|refine Xd ?_ ?_|exact Xx|fail)
    ((try revert hK K);(repeat'(first|refine Va X0 ?_|(refine V2 X0 ?_ ?_<;>try with_reducible intro hb)|(refine Xi ?_ ?_<;>try intro ht)|refine VD ?_ ?_|exact Xx|fail))<;>try with_reducible intro K hK)
    refine ez [0] zr Kq ⟨rfl,trivial⟩ ⟨.eq rfl,.pure rfl,.pure rfl,trivial⟩ ?_;((try revert hK K);(repeat'(first|refine Va @aU.eq_1 ?_|(refine V2 @aU.eq_1 ?_ ?_<;>try with_reducible intro hb)|(refine Xi ?_ ?_<;>try intro ht)|refine VD ?_ ?_|exact Xx|fail))<;>try with_reducible intro K hK)
    refine key ⟨R,P,S⟩ _ ⟨jr.iI,jr.Bb,ln,dJ⟩ (ay.trans (ay.kQ 2 1 0 1 (rows:=ints R) rfl rfl (by rw[lh];rfl) (ny _) (oa _)) (ay.trans (ay.kQ 3 1 2 1 (rows:=dQ S) rfl rfl (by rw[lj];rfl) (xJ _) (xI _)) (ay.trans (ay.jf 13 1 (cells:=bO ⟨R,P,S⟩) P5 (by simp only[Kc,simprocAttr]) (by simp[bO])) ?_)));dsimp only[n6,mh];exact Xs false [] (X2 @bO.eq_1 @ao.eq_1)
  ·
    ((try revert hK K);(repeat'(first|refine Vc X0 BO ?_|(refine V2 X0 ?_ ?_<;>try with_reducible intro hb)|(refine Xi ?_ ?_<;>try intro ht)|refine VD ?_ ?_|exact Xx|fail))<;>try with_reducible intro K hK)
    refine key ⟨R,N,S⟩ _ jr (ay.trans (ay.kQ 2 1 0 1 (rows:=ints R) rfl rfl (by rw[lh];rfl) (ny _) (oa _)) (ay.trans (ay.kQ 3 1 2 1 (rows:=dQ S) rfl rfl (by rw[lj];rfl) (xJ _) (xI _)) (ay.trans (ay.jf 13 1 (cells:=bO ⟨R,N,S⟩) P5 (by simp only[Kc,simprocAttr]) (by simp[bO])) ?_)));dsimp only[n6,mh];exact Xs false [] @bO.eq_1
end T

