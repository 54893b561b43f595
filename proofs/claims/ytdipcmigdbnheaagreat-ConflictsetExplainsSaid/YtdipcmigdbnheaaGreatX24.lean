import Derived.Test.YtdipcmigdbnheaaGreatX23
set_option linter.all false
set_option maxHeartbeats 0
set_option maxRecDepth 20000
open Nat renaming zero_le→aI,le_refl→aN,zero_add→gn,lt_succ_self→ql,add_zero→iS,reduceEqDiff→BI,reduceBEq→pE,lt_irrefl→BF
open List renaming cons_append→dS,nil_append→dY,drop_eq_nil_of_le→cR,length_append→bQ,length_set→bF,getElem?_append_left→cT,getElem?_set_ne→bR,getElem?_eq_some_iff→a8,mem_append→cH,getD_eq_getElem?_getD→aA,set_append_left→GR,filter_append→BG,take_length→rB,mem_of_mem_drop→vT,length_take→eN,replicate→bH,append_nil→g9,append_assoc→cM,map_take→z6,take_append_of_le_length→GQ,length_map→dX,eq_of_mem_replicate→Dw,range→aW,map_congr_left→l8,take→kL,drop→iT,getElem?_set_self→Kg,length→oW,eq_nil_of_length_eq_zero→rz,getElem?_map→cj,getElem?_eq_getElem→bK,getElem?_eq_none→dW
open Bool renaming not_false→je,not_true→gT
open Option renaming map_none→oU,map_some→fl
open Go Go.Am Go.Proofs
namespace T
def ade(l:List (Int×Int))(g:FuncId)(bj:List AV)(aa:List Ob)(p:(Int×Int)->Bool)(hl:l.length<9223372036854775808)(hg:∀ x∈l,ao Tryz.prog g ([.agg (aL x)]++bj) aa (.lit (.bool (p x))) aa):
  ao Tryz.prog 92 [.tree 2 (rowsOf aL l),.fn g bj] aa (aaC (dG p 0 l)) aa:=by
 generalize ak:dG p 0 l=res;refine ao.aD 19 aa.length [.tmp 4] Tryz.func92 ?_;refine Vb (X3 @b8 @gf @aL.eq_1) ?_;refine aM (λk:Nat=>(⟨aw [(0,.tree 2 (rowsOf aL l)),(1,.fn g bj),(7,aaC l.length),(8,aaC k)],aa⟩:St)) (λk=>k<=l.length/\dG p k (l.drop k)=res) (λk=>l.length-k) 0 ⟨aI _,ak⟩ (Xv X0) ?_;rintro k⟨hk,hr⟩Ql an ar;by_cases aK:k<l.length
 ·have hx:=hg _ (ay (d:=default) aK);have hd:=cP l k default aK;generalize aS:l.getD k default=x at *;rw[hd,dG]at hr;simp only[dS,dY,aL]at hx;((repeat'(first|refine Vb (X4 @b8 @gf @aL.eq_1 @aS) ?_|(refine Xi ?_ ?_<;>try intro ht)|exact Xx|fail))<;>try with_reducible intro K hK)
  refine ig hx (aN _) ?_;((try revert hK K);(repeat'(first|refine Vb (X3 @b8 @gf @aL.eq_1) ?_|(refine Xi ?_ ?_<;>try intro ht)|fail)))
  ·rw[if_pos (by assumption)]at hr;rw[<- hr];exact eu rfl (aN _) rfl
  ·rw[if_neg (by simp_all)]at hr;exact an _ (k+1) ⟨GC,hr⟩ GC (Xv X0)
 ·((repeat'(first|refine Vb (X3 @b8 @gf @aL.eq_1) ?_|(refine Xi ?_ ?_<;>try intro ht)|exact Xx|fail)))
  rw[cR GC,dG]at hr;rw[<- hr];exact eu rfl (aN _) rfl
def JV{α:Type}(p:α->Bool):∀ (l:List α) (k:Nat),dG p k l = -1->l.filter (λx=>!p x)=l
 |[],k,_=>rfl
 |x::r,k,h=>by
  rw[dG]at h;split at h
  ·omega
  ·rename_i hp;rw[List.filter_cons_of_pos (by simpa using hp),JV p r (k+1) h]
def JW{α:Type}(p:α->Bool):∀ (l:List α) (k:Nat),dG p k l≠-1->∃ i,dG p k l=((k+i:Nat):Int)/\i<l.length/\(l.take (i+1)).filter (λx=>!p x)=l.take i
 |[],k,h=>absurd rfl h
 |x::r,k,h=>by
  rw[dG]at h ⊢;by_cases hp:p x=true
  ·rw[if_pos hp];exact⟨0,rfl,GF,by simp[hp]⟩
  ·rw[if_neg hp]at h ⊢;obtain⟨i,h1,h2,h3⟩:=JW p r (k+1) h;refine⟨i+1,by rw[h1];congr 1;omega,aar,?_⟩;rw[List.take_succ_cons,List.filter_cons_of_pos (by simpa using hp),h3];rfl
def Pb{α:Type}{Y:List α}{i:Nat}{x:α}(h:i<Y.length):(Y.set i x).take (i+1)=Y.take i++[x]:=by
 rw[List.take_succ_eq_append_getElem (by simpa using h),List.take_set_of_le (aN _)];simp
def fF.JX{σ:St}{kp:Nat->Prop}{ρ:Nat->Nat}{snap:Bool}:∀ {l:List AV},ju l=true->fF (aJ σ kp ρ snap) l l
 |[],_=>trivial
 |v::l,h=>by
  simp only[ju,Bool.and_eq_true]at h;exact⟨.pure h.1,fF.JX h.2⟩
def mG(b:Nat)(os ob:List Ob):Prop:=os.length<=ob.length/\∀ k,k≠b->k<os.length->ob[k]?=os[k]?
def mG.refl(b:Nat)(os:List Ob):mG b os os:=⟨aN _,λ_ _ _=>rfl⟩
def mG.step{b:Nat}{os ob:List Ob}(h:mG b os ob)(y:Ob)(L:List Ob):mG b os (ob.set b y++L) :=
 ⟨by rw[bQ,bF];have:=h.1;omega,λk h1 h2=>by
  rw[cT (by rw[bF];have:=h.1;omega),bR (Ne.symm h1)];exact h.2 k h1 h2⟩
def mG.app{b:Nat}{os ob:List Ob}(h:mG b os ob)(L:List Ob):mG b os (ob++L) :=
 ⟨by rw[bQ];have:=h.1;omega,λk h1 h2=>by rw[cT (by have:=h.1;omega)];exact h.2 k h1 h2⟩
def am0(xs:List (Int×Int))(rest:List (List AV))(g:FuncId)(bj:List AV)(p:(Int×Int)->Bool)(os:List Ob)(b:Nat)(hb:os[b]?=some (.arr 2 (rowsOf aL xs++rest)))(hw:∀ row∈rest,row.length=2)(hl:xs.length<1000000)(tv:ju bj=true)(hg:∀ x∈xs,ao Tryz.prog g ([.agg (aL x)]++bj) [] (.lit (.bool (p x))) []):
  fh Tryz.prog 47 [.ref b 2 0 xs.length,.fn g bj] os (λr ob=>r=.ref b 2 0 (xs.filter λx=>!p x).length/\mG b os ob/\∃ rX,ob[b]?=some (.arr 2 (rowsOf aL (xs.filter λx=>!p x)++rX))/\∀ row∈rX,row.length=2):=by
 have eh:=ade xs g bj [] p GC hg;have qx:=(a8.1 hb).1;have Gn:∀ row∈rowsOf aL xs++rest,row.length=2:=λrow hr=>by
  rcases cH.1 hr with h|h
  ·exact gr _ row h
  ·exact hw row h
 have mK:∀ e:Nat->AV,cL ⟨e,os⟩ (·∈([]:List Nat)) (.tree 2 (rowsOf aL xs)) (.ref b 2 0 xs.length):=λe =>
  iP.cC (.inr ⟨b,rest,by rw[b8],aI _,qx,hb,Gn⟩) (λi _ _=>GF) (kW _)
 refine fh.aD 42 os.length [.tmp 4] Tryz.func47 ?_;((refine Va X0 ?_)<;>try with_reducible intro K hK)
 refine nM [] eh Px trivial ⟨aJ.snap _ _ rfl (mK _),.pure (by simpa [gL] using tv),trivial⟩ rfl GF ?_;simp(disch:=omega)only[Ac,↓Pc,simprocAttr];by_cases vN:dG p 0 xs = -1
 ·have fC:=JV p xs 0 vN;rw[vN];((try revert hK K);(repeat'(first|refine Va X0 ?_|(refine Xi ?_ ?_<;>try intro ht)|exact Xx|fail)))
  unfold gu;simp only[eF,ew];simp(disch:=omega)only[Ac,↓Pc,simprocAttr];exact⟨_,_,⟨by rw[fC],mG.refl _ _,rest,by rw[fC];exact hb,hw⟩,eu rfl (aN _) rfl⟩
 ·obtain⟨i0,h1,h2,h3⟩:=JW p xs 0 vN;rw[gn]at h1;rw[h1];clear eh mK;((try revert hK K);(repeat'(first|refine Va X0 ?_|(refine Xi ?_ ?_<;>try intro ht)|exact Xx|fail)))
  refine aM (λz:Nat×Nat×List (Int×Int)×List Ob=>(⟨aw [(0,.ref b 2 0 xs.length),(1,.fn g bj),(5,aaC z.2.1),(6,aaC z.1)],z.2.2.2⟩:St))
   (λz=>z.1<=xs.length/\z.2.1<z.1/\z.2.2.1.length=xs.length/\(xs.take z.1).filter (λx=>!p x)=z.2.2.1.take z.2.1/\(∀ k,z.1<=k->z.2.2.1.getD k default=xs.getD k default)/\mG b os z.2.2.2/\z.2.2.2[b]?=some (.arr 2 (rowsOf aL z.2.2.1++rest)))
   (λz=>xs.length-z.1) (i0+1,i0,xs,os) ⟨h2,ql _,rfl,h3,λ_ _=>rfl,mG.refl _ _,hb⟩ (Xv X0) ?_
  rintro⟨j,i,Y,ob⟩⟨hj,tc,hY,j',p7,jO,bk⟩Ql an ar;dsimp only at hj tc hY j' p7 jO bk ⊢;have gM:(rowsOf aL Y++rest).length=xs.length+rest.length:=by rw[bQ,b8,hY]
  have fX:=bg bk;have fM:=λl y=>fP bk l (y:=y);by_cases db:j<xs.length
  ·have sh:=ay (l:=xs) (d:=default) db;have hx:=hg _ sh;have bq:(rowsOf aL Y++rest)[j]?=some (aL (xs.getD j default)):=by
    rw[cT (by rw[b8];omega),za _ _ GC,p7 j (aN _)]
   have Gp:(rowsOf aL Y++rest).getD j []=aL (xs.getD j default):=by rw[aA,bq];rfl
   have Gq:(rowsOf aL Y++rest)[i]?=some (aL (Y.getD i default)):=by
    rw[cT (by rw[b8];omega),za _ _ GC]
   generalize Y.getD i default=y0 at *;have cN:=eG db;generalize aS:xs.getD j default=x at *;simp only[dS,dY,aL]at hx;have iy:(rowsOf aL Y++rest).set i [aaC x.1,aaC x.2]=rowsOf aL (Y.set i x)++rest:=by
    rw[GR _ _ (by rw[b8];omega),<- Ce];rfl
   generalize qQ:rowsOf aL Y++rest=R at *;repeat'(first|((fail_if_success (first|refine eT 8 ?_|refine eU 8 ?_));refine Xr (X5 @bk @gM @bq @Gp (X2 @aL.eq_1 @cy)) ?_;intro K hK)|(refine hK _ ?_;clear hK K)|(refine Xi ?_ ?_<;>try intro ht)|refine Xy ?_|refine Xd ?_ ?_|exact Xx|fail)
   ((refine Va @cy ?_)<;>try with_reducible intro K hK)
   refine jn [] hx Px trivial ⟨.pure rfl,fF.JX tv⟩ ?_;simp(disch:=omega)only[Ac,↓Pc,simprocAttr,cy];have wU:=(a8.1 bk).1;cases lR:p x
   ·((try revert hK K);(repeat'(first|refine Va (X5 @bk @fX @fM @gM (X5 @Gq @aL.eq_1 @iy @lR (X2 @cy @je))) ?_|(refine Xi ?_ ?_<;>try intro ht)|exact Xx|fail)))
    all_goals try(exfalso;simp_all;done)
    all_goals
     exact an _ (j+1,i+1,Y.set i x,ob.set b (.arr 2 (rowsOf aL (Y.set i x)++rest))++[.var (aL x)]) ⟨PA,PA,by simpa using hY,by
      dsimp only;rw[cN,BG,j',Pb GC];simp[lR],λk hk=>by
      dsimp only at hk ⊢;rw[aA,bR GC,<- aA];exact p7 k GC,jO.step _ _,bg (kh bk) _⟩ PA (Xv @aL.eq_1)
   ·((try revert hK K);(repeat'(first|refine Va (X5 @bk @fX @fM @gM (X3 @lR @cy @gT)) ?_|(refine Xi ?_ ?_<;>try intro ht)|exact Xx|fail)))
    all_goals try(exfalso;simp_all;done)
    all_goals
     exact an _ (j+1,i,Y,ob++[.var (aL x)]) ⟨PA,PA,hY,by
      dsimp only;rw[cN,BG,j'];simp[lR],λk hk=>p7 k (by dsimp only at hk;omega),jO.app _,by dsimp only;rw[qQ];exact bg bk _⟩ PA (Xv @aL.eq_1)
  ·obtain rfl:j=xs.length:=GC;rw[rB]at j';((repeat'(first|refine Va (X2 @bk @gM) ?_|(refine Xi ?_ ?_<;>try intro ht)|exact Xx|fail)))
   refine ar _ _ rfl ?_;clear an ar Ql;repeat(refine Xu ?_)
   have lL:=λy=>kh (y:=y) bk;have Gr:∀ row∈(rowsOf aL Y++rest).drop (i+(xs.length-i)),row.length=2:=λrow hr=>by
    rcases cH.1 (vT hr) with h|h
    ·exact gr _ row h
    ·exact hw row h
   refine Va (X5 @bk @gM @lL @oU.{0,0} @fl.{0,0}) ?_;unfold gu;simp only[eF,ew];simp(disch:=omega)only[Ac,↓Pc,simprocAttr];have gD:(xs.filter λx=>!p x).length=i:=by rw[j',eN];omega
   refine⟨_,_,⟨by rw[gD],by have:=jO.step (.arr 2 ((rowsOf aL Y++rest).take i++bH (xs.length-i) [aaC 0,aaC 0]++(rowsOf aL Y++rest).drop (i+(xs.length-i)))) [];rwa [g9]at this,bH (xs.length-i) [aaC 0,aaC 0]++(rowsOf aL Y++rest).drop (i+(xs.length-i)),?_,λrow hr=>?_⟩,eu rfl (by rw[bF];exact jO.1) rfl⟩
   ·rw[lL,<- cM,j'];congr 4;unfold rowsOf;rw[z6,GQ (by rw[dX];omega)]
   ·rcases cH.1 hr with h|h
    ·rw[Dw h];rfl
    ·exact Gr row h
def jF(n:Int):List AV:=[aaC n]
instance:Row jF 1:=⟨λ_=>rfl,λ_=>zb rfl⟩
def U2(l:List Int)(g:FuncId)(bj:List AV)(aa:List Ob)(p:Int->Bool)(hl:l.length<9223372036854775808)(hg:∀ x∈l,ao Tryz.prog g ([aaC x]++bj) aa (.lit (.bool (p x))) aa):
  ao Tryz.prog 164 [.tree 1 (ints l),.fn g bj] aa (aaC (dG p 0 l)) aa:=by
 generalize ak:dG p 0 l=res;refine ao.aD 19 aa.length [.tmp 4] Tryz.func164 ?_;refine Vb @iS ?_;refine aM (λk:Nat=>(⟨aw [(0,.tree 1 (ints l)),(1,.fn g bj),(7,aaC l.length),(8,aaC k)],aa⟩:St)) (λk=>k<=l.length/\dG p k (l.drop k)=res) (λk=>l.length-k) 0 ⟨aI _,ak⟩ (Xv X0) ?_;rintro k⟨hk,hr⟩Ql an ar;by_cases aK:k<l.length
 ·have hx:=hg _ (ay (d:=0) aK);have hd:=cP l k 0 aK;generalize aS:l.getD k 0=x at *;rw[hd,dG]at hr;simp only[dS,dY]at hx;((repeat'(first|refine Vb (X2 @iS @aS) ?_|(refine Xi ?_ ?_<;>try intro ht)|exact Xx|fail))<;>try with_reducible intro K hK)
  refine ig hx (aN _) ?_;((try revert hK K);(repeat'(first|refine Vb @iS ?_|(refine Xi ?_ ?_<;>try intro ht)|fail)))
  ·rw[if_pos (by assumption)]at hr;rw[<- hr];exact eu rfl (aN _) rfl
  ·rw[if_neg (by simp_all)]at hr;exact an _ (k+1) ⟨GC,hr⟩ GC (Xv X0)
 ·((repeat'(first|refine Vb @iS ?_|(refine Xi ?_ ?_<;>try intro ht)|exact Xx|fail)))
  rw[cR GC,dG]at hr;rw[<- hr];exact eu rfl (aN _) rfl
def agK(xs:List Int)(rest:List (List AV))(g:FuncId)(bj:List AV)(p:Int->Bool)(os:List Ob)(b:Nat)(hb:os[b]?=some (.arr 1 (rowsOf jF xs++rest)))(hw:∀ row∈rest,row.length=1)(hl:xs.length<1000000)(tv:ju bj=true)(hg:∀ x∈xs,ao Tryz.prog g ([aaC x]++bj) [] (.lit (.bool (p x))) []):
  fh Tryz.prog 109 [.ref b 1 0 xs.length,.fn g bj] os (λr ob=>r=.ref b 1 0 (xs.filter λx=>!p x).length/\mG b os ob/\∃ rX,ob[b]?=some (.arr 1 (rowsOf jF (xs.filter λx=>!p x)++rX))/\∀ row∈rX,row.length=1):=by
 have eh:=U2 xs g bj [] p GC hg;have qx:=(a8.1 hb).1;have Gn:∀ row∈rowsOf jF xs++rest,row.length=1:=λrow hr=>by
  rcases cH.1 hr with h|h
  ·exact gr _ row h
  ·exact hw row h
 have mK:∀ e:Nat->AV,cL ⟨e,os⟩ (·∈([]:List Nat)) (.tree 1 (rowsOf jF xs)) (.ref b 1 0 xs.length):=λe =>
  iP.cC (.inr ⟨b,rest,by rw[b8],aI _,qx,hb,Gn⟩) (λi _ _=>GF) (kW _)
 refine fh.aD 42 os.length [.tmp 4] Tryz.func109 ?_;((refine Va X0 ?_)<;>try with_reducible intro K hK)
 refine nM [] eh Px trivial ⟨aJ.snap _ _ rfl (mK _),.pure (by simpa [gL] using tv),trivial⟩ rfl GF ?_;simp(disch:=omega)only[Ac,↓Pc,simprocAttr];by_cases vN:dG p 0 xs = -1
 ·have fC:=JV p xs 0 vN;rw[vN];((try revert hK K);(repeat'(first|refine Va X0 ?_|(refine Xi ?_ ?_<;>try intro ht)|exact Xx|fail)))
  unfold gu;simp only[eF,ew];simp(disch:=omega)only[Ac,↓Pc,simprocAttr];exact⟨_,_,⟨by rw[fC],mG.refl _ _,rest,by rw[fC];exact hb,hw⟩,eu rfl (aN _) rfl⟩
 ·obtain⟨i0,h1,h2,h3⟩:=JW p xs 0 vN;rw[gn]at h1;rw[h1];clear eh mK;((try revert hK K);(repeat'(first|refine Va X0 ?_|(refine Xi ?_ ?_<;>try intro ht)|exact Xx|fail)))
  refine aM (λz:Nat×Nat×List Int×List Ob=>(⟨aw [(0,.ref b 1 0 xs.length),(1,.fn g bj),(5,aaC z.2.1),(6,aaC z.1)],z.2.2.2⟩:St))
   (λz=>z.1<=xs.length/\z.2.1<z.1/\z.2.2.1.length=xs.length/\(xs.take z.1).filter (λx=>!p x)=z.2.2.1.take z.2.1/\(∀ k,z.1<=k->z.2.2.1.getD k default=xs.getD k default)/\mG b os z.2.2.2/\z.2.2.2[b]?=some (.arr 1 (rowsOf jF z.2.2.1++rest)))
   (λz=>xs.length-z.1) (i0+1,i0,xs,os) ⟨h2,ql _,rfl,h3,λ_ _=>rfl,mG.refl _ _,hb⟩ (Xv X0) ?_
  rintro⟨j,i,Y,ob⟩⟨hj,tc,hY,j',p7,jO,bk⟩Ql an ar;dsimp only at hj tc hY j' p7 jO bk ⊢;have gM:(rowsOf jF Y++rest).length=xs.length+rest.length:=by rw[bQ,b8,hY]
  have fX:=bg bk;have fM:=λl y=>fP bk l (y:=y);by_cases db:j<xs.length
  ·have sh:=ay (l:=xs) (d:=default) db;have hx:=hg _ sh;have bq:(rowsOf jF Y++rest)[j]?=some (jF (xs.getD j default)):=by
    rw[cT (by rw[b8];omega),za _ _ GC,p7 j (aN _)]
   have Gp:(rowsOf jF Y++rest).getD j []=jF (xs.getD j default):=by rw[aA,bq];rfl
   have Gq:(rowsOf jF Y++rest)[i]?=some (jF (Y.getD i default)):=by
    rw[cT (by rw[b8];omega),za _ _ GC]
   generalize Y.getD i default=y0 at *;have cN:=eG db;generalize aS:xs.getD j default=x at *;simp only[dS,dY,jF]at hx;have iy:(rowsOf jF Y++rest).set i [aaC x]=rowsOf jF (Y.set i x)++rest:=by
    rw[GR _ _ (by rw[b8];omega),<- Ce];rfl
   generalize qQ:rowsOf jF Y++rest=R at *;repeat'(first|((fail_if_success (first|refine eT 8 ?_|refine eU 8 ?_));refine Xr (X5 @bk @gM @bq @Gp (X2 @jF.eq_1 @cy)) ?_;intro K hK)|(refine hK _ ?_;clear hK K)|(refine Xi ?_ ?_<;>try intro ht)|refine Xy ?_|refine Xd ?_ ?_|exact Xx|fail)
   ((refine Va @cy ?_)<;>try with_reducible intro K hK)
   refine jn [] hx Px trivial ⟨.pure rfl,fF.JX tv⟩ ?_;simp(disch:=omega)only[Ac,↓Pc,simprocAttr,cy];have wU:=(a8.1 bk).1;cases lR:p x
   ·((try revert hK K);(repeat'(first|refine Va (X5 @bk @fX @fM @gM (X5 @Gq @jF.eq_1 @iy @lR (X2 @cy @je))) ?_|(refine Xi ?_ ?_<;>try intro ht)|exact Xx|fail)))
    all_goals try(exfalso;simp_all;done)
    all_goals
     exact an _ (j+1,i+1,Y.set i x,ob.set b (.arr 1 (rowsOf jF (Y.set i x)++rest))) ⟨PA,PA,by simpa using hY,by
      dsimp only;rw[cN,BG,j',Pb GC];simp[lR],λk hk=>by
      dsimp only at hk ⊢;rw[aA,bR GC,<- aA];exact p7 k GC,(by have:=jO.step (.arr 1 (rowsOf jF (Y.set i x)++rest)) [];rwa [g9]at this),kh bk⟩ PA (Xv @jF.eq_1)
   ·((try revert hK K);(repeat'(first|refine Va (X5 @bk @fX @fM @gM (X3 @lR @cy @gT)) ?_|(refine Xi ?_ ?_<;>try intro ht)|exact Xx|fail)))
    all_goals try(exfalso;simp_all;done)
    all_goals
     exact an _ (j+1,i,Y,ob) ⟨PA,PA,hY,by
      dsimp only;rw[cN,BG,j'];simp[lR],λk hk=>p7 k (by dsimp only at hk;omega),jO,by dsimp only;rw[qQ];exact bk⟩ PA (Xv @jF.eq_1)
  ·obtain rfl:j=xs.length:=GC;rw[rB]at j';((repeat'(first|refine Va (X2 @bk @gM) ?_|(refine Xi ?_ ?_<;>try intro ht)|exact Xx|fail)))
   refine ar _ _ rfl ?_;clear an ar Ql;repeat(refine Xu ?_)
   have lL:=λy=>kh (y:=y) bk;have Gr:∀ row∈(rowsOf jF Y++rest).drop (i+(xs.length-i)),row.length=1:=λrow hr=>by
    rcases cH.1 (vT hr) with h|h
    ·exact gr _ row h
    ·exact hw row h
   refine Va (X5 @bk @gM @lL @oU.{0,0} @fl.{0,0}) ?_;unfold gu;simp only[eF,ew];simp(disch:=omega)only[Ac,↓Pc,simprocAttr];rw[show ints (bH (xs.length-i) 0)=bH (xs.length-i) [AV.lit (.int .i64 0)] by simp[ints]];have gD:(xs.filter λx=>!p x).length=i:=by rw[j',eN];omega
   refine⟨_,_,⟨by rw[gD],by have:=jO.step (.arr 1 ((rowsOf jF Y++rest).take i++bH (xs.length-i) [aaC 0]++(rowsOf jF Y++rest).drop (i+(xs.length-i)))) [];rwa [g9]at this,bH (xs.length-i) [aaC 0]++(rowsOf jF Y++rest).drop (i+(xs.length-i)),?_,λrow hr=>?_⟩,eu rfl (by rw[bF];exact jO.1) rfl⟩
   ·rw[lL,<- cM,j'];congr 4;unfold rowsOf;rw[z6,GQ (by rw[dX];omega)]
   ·rcases cH.1 hr with h|h
    ·rw[Dw h];rfl
    ·exact Gr row h
def agJ(xs:List Int)(h:0<xs.length)(hl:xs.length<549755813888):ao Tryz.prog 110 [.tree 1 (ints xs)] [] (.ref 0 1 0 xs.length) [.arr 1 (ints xs)]:=by
 refine ao.aD 8 0 [.tmp 2] Tryz.func110 ?_;((repeat'(first|refine Vb @BT ?_|(refine Xi ?_ ?_<;>try intro ht)|exact Xx|fail)))
 exact Xw false [1] X0
def agI:ao Tryz.prog 110 [.tree 1 []] [] (.tree 1 []) []:=by
 refine ao.empty (pre:=[]) (post:=[]) (λa cap=>?_);rw[dY];cases a with
 |none =>
  refine ao.aD 8 0 [.tmp 2] Tryz.func110 ?_;((repeat'(first|refine Vb @Option.isNone_none.{0} ?_|(refine Xi ?_ ?_<;>try intro ht)|exact Xx|fail)))
  all_goals first|(refine cZ [] true Px trivial Px Px ?_;exact aJ.nil)|(exfalso;simp at *;done)
 |some ad =>
  refine ao.aD 8 0 [.tmp 2] Tryz.func110 ?_;refine xG Px ?_;intro K hK;simp(disch:=omega)only[Ac,↓Pc,simprocAttr];refine hK _ ?_;clear hK K;refine Wk ?_;intro Q hn he;((refine xG Px ?_);intro K hK;simp(disch:=omega)only[Ac,↓Pc,simprocAttr,Option.isNone_some];skip);(refine hK _ ?_;clear hK K)
  refine D0 (t:=false) (by simp only[oE,Lc,↓reduceIte,BI,pE]) (λht=>by simp at ht) (λht=>?_);refine DZ ?_;refine hn _ ?_;(try clear hn;try clear he;try clear Q;clear ht)
  refine bY (aF.Ep 0 1 (by(simp only[oE,sc,Rc,↓reduceIte,BI,pE,ev,eZ,St.put];exact rfl))) ?_;refine Vb (X3 @List.length_nil.{0} @g9.{0} @List.all_nil.{0}) ?_;refine cZ [] true Px trivial Px Px ?_;exact aJ.cC (rows:=[]) rfl GF rfl (iK Px) GF
def am1(xs:List Ct)(rest:List (List AV))(g:FuncId)(bj:List AV)(p:Ct->Bool)(os:List Ob)(b:Nat)(hb:os[b]?=some (.arr 4 (rowsOf aV xs++rest)))(hw:∀ row∈rest,row.length=4)(hl:xs.length<1000000)(tv:ju bj=true)(hg:∀ x∈xs,ao Tryz.prog g ([.agg (aV x)]++bj) [] (.lit (.bool (p x))) []):
  fh Tryz.prog 49 [.ref b 4 0 xs.length,.fn g bj] os (λr ob=>r=.ref b 4 0 (xs.filter λx=>!p x).length/\mG b os ob/\∃ rX,ob[b]?=some (.arr 4 (rowsOf aV (xs.filter λx=>!p x)++rX))/\∀ row∈rX,row.length=4):=by
 have eh:=Y3 xs g bj [] p GC hg;have qx:=(a8.1 hb).1;have Gn:∀ row∈rowsOf aV xs++rest,row.length=4:=λrow hr=>by
  rcases cH.1 hr with h|h
  ·exact gr _ row h
  ·exact hw row h
 have mK:∀ e:Nat->AV,cL ⟨e,os⟩ (·∈([]:List Nat)) (.tree 4 (rowsOf aV xs)) (.ref b 4 0 xs.length):=λe =>
  iP.cC (.inr ⟨b,rest,by rw[b8],aI _,qx,hb,Gn⟩) (λi _ _=>GF) (kW _)
 refine fh.aD 42 os.length [.tmp 4] Tryz.func49 ?_;((refine Va X0 ?_)<;>try with_reducible intro K hK)
 refine nM [] eh Px trivial ⟨aJ.snap _ _ rfl (mK _),.pure (by simpa [gL] using tv),trivial⟩ rfl GF ?_;simp(disch:=omega)only[Ac,↓Pc,simprocAttr];by_cases vN:dG p 0 xs = -1
 ·have fC:=JV p xs 0 vN;rw[vN];((try revert hK K);(repeat'(first|refine Va X0 ?_|(refine Xi ?_ ?_<;>try intro ht)|exact Xx|fail)))
  unfold gu;simp only[eF,ew];simp(disch:=omega)only[Ac,↓Pc,simprocAttr];exact⟨_,_,⟨by rw[fC],mG.refl _ _,rest,by rw[fC];exact hb,hw⟩,eu rfl (aN _) rfl⟩
 ·obtain⟨i0,h1,h2,h3⟩:=JW p xs 0 vN;rw[gn]at h1;rw[h1];clear eh mK;((try revert hK K);(repeat'(first|refine Va X0 ?_|(refine Xi ?_ ?_<;>try intro ht)|exact Xx|fail)))
  refine aM (λz:Nat×Nat×List Ct×List Ob=>(⟨aw [(0,.ref b 4 0 xs.length),(1,.fn g bj),(5,aaC z.2.1),(6,aaC z.1)],z.2.2.2⟩:St))
   (λz=>z.1<=xs.length/\z.2.1<z.1/\z.2.2.1.length=xs.length/\(xs.take z.1).filter (λx=>!p x)=z.2.2.1.take z.2.1/\(∀ k,z.1<=k->z.2.2.1.getD k default=xs.getD k default)/\mG b os z.2.2.2/\z.2.2.2[b]?=some (.arr 4 (rowsOf aV z.2.2.1++rest)))
   (λz=>xs.length-z.1) (i0+1,i0,xs,os) ⟨h2,ql _,rfl,h3,λ_ _=>rfl,mG.refl _ _,hb⟩ (Xv X0) ?_
  rintro⟨j,i,Y,ob⟩⟨hj,tc,hY,j',p7,jO,bk⟩Ql an ar;dsimp only at hj tc hY j' p7 jO bk ⊢;have gM:(rowsOf aV Y++rest).length=xs.length+rest.length:=by rw[bQ,b8,hY]
  have fX:=bg bk;have fM:=λl y=>fP bk l (y:=y);by_cases db:j<xs.length
  ·have sh:=ay (l:=xs) (d:=default) db;have hx:=hg _ sh;have bq:(rowsOf aV Y++rest)[j]?=some (aV (xs.getD j default)):=by
    rw[cT (by rw[b8];omega),za _ _ GC,p7 j (aN _)]
   have Gp:(rowsOf aV Y++rest).getD j []=aV (xs.getD j default):=by rw[aA,bq];rfl
   have Gq:(rowsOf aV Y++rest)[i]?=some (aV (Y.getD i default)):=by
    rw[cT (by rw[b8];omega),za _ _ GC]
   generalize Y.getD i default=y0 at *;have cN:=eG db;generalize aS:xs.getD j default=x at *;simp only[dS,dY,aV]at hx;have iy:(rowsOf aV Y++rest).set i [aaC x.bz,.tree 3 (rowsOf iM x.aH),aaC x.most,aaC x.bM]=rowsOf aV (Y.set i x)++rest:=by
    rw[GR _ _ (by rw[b8];omega),<- Ce];rfl
   generalize qQ:rowsOf aV Y++rest=R at *;repeat'(first|((fail_if_success (first|refine eT 8 ?_|refine eU 8 ?_));refine Xr (X5 @bk @gM @bq @Gp (X2 @aV.eq_1 @cy)) ?_;intro K hK)|(refine hK _ ?_;clear hK K)|(refine Xi ?_ ?_<;>try intro ht)|refine Xy ?_|refine Xd ?_ ?_|exact Xx|fail)
   ((refine Va @cy ?_)<;>try with_reducible intro K hK)
   refine jn [] hx Px trivial ⟨.pure rfl,fF.JX tv⟩ ?_;simp(disch:=omega)only[Ac,↓Pc,simprocAttr,cy];have wU:=(a8.1 bk).1;cases lR:p x
   ·((try revert hK K);(repeat'(first|refine Va (X5 @bk @fX @fM @gM (X5 @Gq @aV.eq_1 @iy @lR (X2 @cy @je))) ?_|(refine Xi ?_ ?_<;>try intro ht)|exact Xx|fail)))
    all_goals try(exfalso;simp_all;done)
    all_goals
     exact an _ (j+1,i+1,Y.set i x,ob.set b (.arr 4 (rowsOf aV (Y.set i x)++rest))++[.var (aV x)]) ⟨PA,PA,by simpa using hY,by
      dsimp only;rw[cN,BG,j',Pb GC];simp[lR],λk hk=>by
      dsimp only at hk ⊢;rw[aA,bR GC,<- aA];exact p7 k GC,jO.step _ _,bg (kh bk) _⟩ PA (Xv @aV.eq_1)
   ·((try revert hK K);(repeat'(first|refine Va (X5 @bk @fX @fM @gM (X3 @lR @cy @gT)) ?_|(refine Xi ?_ ?_<;>try intro ht)|exact Xx|fail)))
    all_goals try(exfalso;simp_all;done)
    all_goals
     exact an _ (j+1,i,Y,ob++[.var (aV x)]) ⟨PA,PA,hY,by
      dsimp only;rw[cN,BG,j'];simp[lR],λk hk=>p7 k (by dsimp only at hk;omega),jO.app _,by dsimp only;rw[qQ];exact bg bk _⟩ PA (Xv @aV.eq_1)
  ·obtain rfl:j=xs.length:=GC;rw[rB]at j';((repeat'(first|refine Va (X2 @bk @gM) ?_|(refine Xi ?_ ?_<;>try intro ht)|exact Xx|fail)))
   refine ar _ _ rfl ?_;clear an ar Ql;repeat(refine Xu ?_)
   have lL:=λy=>kh (y:=y) bk;have Gr:∀ row∈(rowsOf aV Y++rest).drop (i+(xs.length-i)),row.length=4:=λrow hr=>by
    rcases cH.1 (vT hr) with h|h
    ·exact gr _ row h
    ·exact hw row h
   refine Va (X5 @bk @gM @lL @oU.{0,0} @fl.{0,0}) ?_;unfold gu;simp only[eF,ew];simp(disch:=omega)only[Ac,↓Pc,simprocAttr];have gD:(xs.filter λx=>!p x).length=i:=by rw[j',eN];omega
   refine⟨_,_,⟨by rw[gD],by have:=jO.step (.arr 4 ((rowsOf aV Y++rest).take i++bH (xs.length-i) [aaC 0,.lit (.slice none 0 0),aaC 0,aaC 0]++(rowsOf aV Y++rest).drop (i+(xs.length-i)))) [];rwa [g9]at this,bH (xs.length-i) [aaC 0,.lit (.slice none 0 0),aaC 0,aaC 0]++(rowsOf aV Y++rest).drop (i+(xs.length-i)),?_,λrow hr=>?_⟩,eu rfl (by rw[bF];exact jO.1) rfl⟩
   ·rw[lL,<- cM,j'];congr 4;unfold rowsOf;rw[z6,GQ (by rw[dX];omega)]
   ·rcases cH.1 hr with h|h
    ·rw[Dw h];rfl
    ·exact Gr row h
def adf(x:Int×Int):ao Tryz.prog 48 [.agg (aL x)] [] (.lit (.bool (!l5 x.2))) []:=by
 unfold l5;refine ao.aD 6 0 [.tmp 2] Tryz.func48 ?_;refine Vb @aL.eq_1 ?_;exact aE rfl rfl
def am2(x:Ct):ao Tryz.prog 50 [.agg (aV x)] [] (.lit (.bool (!l5 x.bM))) []:=by
 unfold l5;refine ao.aD 6 0 [.tmp 2] Tryz.func50 ?_;refine Vb @aV.eq_1 ?_;exact aE rfl rfl
def am3(g:FuncId)(hg:∀ x:Int×Int,ao Tryz.prog g [.agg (aL x)] [] (.lit (.bool (!l5 x.2))) []):ao Tryz.prog 47 [.tree 2 [],.fn g []] [] (.tree 2 []) []:=by
 have eh:=ade [] g [] [] (λx=>!l5 x.2) Px (λx hx=>by cases hx);rw[show dG (λx:Int×Int=>!l5 x.2) 0 [] = -1 from rfl,show rowsOf aL []=[] from rfl]at eh;refine ao.aD 42 0 [.tmp 4] Tryz.func47 ?_;((repeat'(first|refine Vd X0 eh ?_|(refine Xi ?_ ?_<;>try intro ht)|exact Xx|fail)))
 exact aE rfl rfl
def am4(o:bU):j3 (iq o)=j3 o:=rfl
def am5(A:Nat->List AV)(C:Nat->AV){n k:Nat}(hk:k<n)(v:AV):((aW n).map λq=>A q++[C q]).set k (A k++[v])=(aW n).map λq=>A q++[if q=k then v else C q]:=by
 rw[ai1];refine l8 λq _=>?_;by_cases e:q=k
 ·subst e;rw[if_pos rfl,if_pos rfl]
 ·rw[if_neg e,if_neg e]
def adg{L:List bU}{q:Nat}(hq:q<L.length):(L.map iq).getD q default=iq (L.getD q default):=iR _ _ _ hq
def am6{L:List bU}{os:List Ob}{l r ac hi:Nat}{C:Nat->AV}(Db:ac<r)(h:cX 6 (λq=>x7 (if q<L.length then(iq (L.getD q default)).ch else(L.getD q default).ch)) os ac l hi L.length (λq=>j3 (L.getD q default)) C):x9 (L.map iq) os l r (.ref ac 6 0 L.length):=by
 refine⟨ac,hi,C,by rw[dX],Db,?_⟩;rw[dX];refine h.CV (λq hq=>?_) (λ_ _=>rfl) (λq hq os l r v hv=>?_)
 ·rw[adg hq,am4]
 ·rw[adg hq];rw[if_pos hq]at hv;exact hv
def UZ(m:aj)(hm:VM m):ao Tryz.prog 15 [.agg (aq m)] [] (.bJ [.agg (aq (aU m)),aaC 0]) []:=by
 have h1:=tV m hm.mb;rw[eK.2 hm]at h1;have htw:=ahm m hm;have nu:=hm.cls;have s5:=hm.ae;have ht4:=hm.av;refine ao.aD 73 0 [.cell 2 29,.tmp 3] Tryz.func15 ?_;repeat'(first|((fail_if_success (first|refine eT 4 ?_|refine eU 4 ?_));refine Xq X0 ?_;intro K hK)|refine Xo X0 ?_|refine Xc (h1) ?_|(refine hK _ ?_;clear hK K)|(refine Xi ?_ ?_<;>try intro ht)|refine Xy ?_|exact Xx|fail)
 refine bY (aF.mR 1 0 (cells:=aq m) aau (by simp only[Kc,simprocAttr]) (by simp[aq])) ?_;refine bY (σ':=⟨aw [(1,.cq (aq m)),(2,.ptr 0 0 0),(3,aaC 0)],[.var zM]⟩) (Xs false [1] @zM.eq_1) ?_;refine pe 1 Px _ rfl ?_;intro K hK;simp(disch:=omega)only[Ac,↓Pc,simprocAttr,kL,iT,aq];refine⟨rfl,(show lP Tryz.prog 46 [.agg (aq m)] (some 20) _ _ from ?_)⟩;refine rP htw ?_;rintro r os⟨f0,a,b,d,rfl,Ar,C,l2,h2,C2,hC,hP,aon,hd,Jl⟩;refine⟨Nat.succ_le_of_lt (a8.1 f0).1,?_⟩;have aoo:=(a8.1 f0).1;have OG:=hC.len;have am7:=hP.len;have aop:=(a8.1 hd).1;simp(disch:=omega)only[Ac,↓Pc,simprocAttr,cy];refine hK _ ?_;clear hK K;repeat(refine Xu ?_)
 have gq:(os++[Ob.var [.ref a 1 0 m.cls.length,.ref b 4 0 m.ae.length,.ref d 4 0 m.av.length,aaC m.rules]])[os.length]?=some (.var [.ref a 1 0 m.cls.length,.ref b 4 0 m.ae.length,.ref d 4 0 m.av.length,aaC m.rules]):=kf _ _ _;have JY:=cX.same (λc=>wD _) hC (gy.app (by have:=hC.at_;omega) [Ob.var [.ref a 1 0 m.cls.length,.ref b 4 0 m.ae.length,.ref d 4 0 m.av.length,aaC m.rules]] _) (cT OG);have Pe:=cX.same (λc=>ya _) hP (gy.app (by have:=hP.at_;omega) [Ob.var [.ref a 1 0 m.cls.length,.ref b 4 0 m.ae.length,.ref d 4 0 m.av.length,aaC m.rules]] _) (cT am7);have f1:=bg f0 [Ob.var [.ref a 1 0 m.cls.length,.ref b 4 0 m.ae.length,.ref d 4 0 m.av.length,aaC m.rules]];have gd:=bg hd [Ob.var [.ref a 1 0 m.cls.length,.ref b 4 0 m.ae.length,.ref d 4 0 m.av.length,aaC m.rules]];have hql:os.length+1<=(os++[Ob.var [.ref a 1 0 m.cls.length,.ref b 4 0 m.ae.length,.ref d 4 0 m.av.length,aaC m.rules]]).length:=GF;clear hC hP f0 hd htw;have Vj:=JY.at_;have Ig:=Pe.at_;have Ih:=Pe.tZ;generalize os++[Ob.var [.ref a 1 0 m.cls.length,.ref b 4 0 m.ae.length,.ref d 4 0 m.av.length,aaC m.rules]]=o1 at *;generalize os.length=q at *;have jm:=JY.arr;refine bY (σ':=⟨aw [(2,.ptr 0 0 0),(5,.ptr q 0 0)],o1⟩) (Xv X0) ?_;refine Va (X2 @gq @jm) ?_;refine aM (λz:Nat×List Ob=>(⟨aw [(2,.ptr 0 0 0),(5,.ptr q 0 0),(22,.ref a 1 0 m.cls.length),(23,aaC m.cls.length),(24,aaC z.1)],z.2⟩:St))
  (λz=>z.1<=m.cls.length/\gy Ar (q+1) o1 z.2/\z.2[0]?=some (.var zM)/\q+1<=z.2.length/\cX 1 (λc=>x9 (if c<z.1 then(m.cls.getD c default).map iq else m.cls.getD c default)) z.2 a 1 Ar m.cls.length (λ_=>[]) C)
  (λz=>m.cls.length-z.1) (0,o1) ⟨aI _,λ_ _ _=>rfl,f1,hql,JY⟩ (Xv X0) ?_
 rintro⟨i,ob⟩⟨hi,jy,k0,cI,JZ⟩Ql an ar;dsimp only at hi jy k0 cI JZ ⊢;by_cases hi':i<m.cls.length
 ·have fi:=ay (d:=default) hi';have s6:=hm.opt _ fi;have ET:=λo ho=>Vh hm fi (o:=o) ho;obtain⟨l,r,hl,hr,hO,Cc⟩:=JZ.at (λc=>wD _) hi';have Pf:x9 (m.cls.getD i default) ob l r (C i):=by
   have:=hO;rw[if_neg (BF i)]at this;exact this
  clear hO;obtain⟨ac,hi3,CC,hCi,Db,hR⟩:=Pf;have aoq:=hR.len;have aor:=hR.at_;have aos:=hR.tZ;have rU:=JZ.arr;have xf:((aW m.cls.length).map λc=>([]:List AV)++[C c])[i]?=some [AV.ref ac 6 0 (m.cls.getD i default).length]:=by
   rw[sY _ hi',hCi];rfl
  have gM:=AS (λc=>([]:List AV)++[C c]) m.cls.length;have hr6:=hR.arr;generalize B8:(aW m.cls.length).map (λc=>([]:List AV)++[C c])=R1 at rU xf gM;generalize hLL:m.cls.getD i default=L at *;((repeat'(first|refine Va (X4 @rU @xf @gM @hr6) ?_|(refine Xi ?_ ?_<;>try intro ht)|exact Xx|fail)))
  refine aM (λz:Nat×List Ob=>(⟨aw [(2,.ptr 0 0 0),(5,.ptr q 0 0),(22,.ref a 1 0 m.cls.length),(23,aaC m.cls.length),(24,aaC i),(7,.ref ac 6 0 L.length),(28,.ref ac 6 0 L.length),(29,aaC L.length),(30,aaC z.1)],z.2⟩:St))
   (λz=>z.1<=L.length/\ob.length<=z.2.length/\(∀ j,j<ob.length->(j<l\/r<=j)->z.2[j]?=ob[j]?)/\∃ CC,cX 6 (λq=>x7 (if q<z.1 then(iq (L.getD q default)).ch else(L.getD q default).ch)) z.2 ac l hi3 L.length (λq=>j3 (L.getD q default)) CC)
   (λz=>L.length-z.1) (0,ob) ⟨aI _,aN _,λ_ _ _=>rfl,CC,hR⟩ (Xv X0) ?_
  rintro⟨k,ot⟩⟨hk,hlen,dZ,CD,hS⟩cJ ba bd;dsimp only at hk hlen dZ hS ⊢;by_cases aK:k<L.length
  ·have fj:=ay (l:=L) (d:=default) aK;have cm:=ET _ fj;obtain⟨l',r',jT,uF,hH,anb⟩:=hS.at (λq=>Ii _) aK;have hH2:iP 2 ot l' r' (CD k) (rowsOf aL (L.getD k default).ch):=by
    have:=hH;unfold x7 at this;rw[if_neg (BF k)]at this;exact this
   clear hH;have fM:=hS.len;have aot:=hS.at_;have J0:=hS.arr;have yC:((aW L.length).map λq=>j3 (L.getD q default)++[CD q])[k]?=some (j3 (L.getD k default)++[CD k]):=sY _ aK;have J1:=AS (λq=>j3 (L.getD q default)++[CD q]) L.length;have hRs:=λv=>am5 (λq=>j3 (L.getD q default)) CD aK v;have lU:∀ (v:AV) (o2:List Ob),iP 2 o2 l' r' v (rowsOf aL (iq (L.getD k default)).ch)->(∀ j,j<ot.length->(j<l'\/r'<=j)->o2[j]?=ot[j]?)->ot.length<=o2.length->∀ st,
     aF 0 st ⟨aw [(2,.ptr 0 0 0),(5,.ptr q 0 0),(22,.ref a 1 0 m.cls.length),(23,aaC m.cls.length),(24,aaC i),(7,.ref ac 6 0 L.length),(28,.ref ac 6 0 L.length),(29,aaC L.length),(30,aaC (k+1:Nat))],o2.set ac (.arr 6 (((aW L.length).map λq=>j3 (L.getD q default)++[CD q]).set k (j3 (L.getD k default)++[v])))⟩->cJ .normal st:=by
    intro v o2 hv ur mj st cN;rw[hRs]at cN;refine ba st (k+1,o2.set ac (.arr 6 ((aW L.length).map λq=>j3 (L.getD q default)++[if q=k then v else CD q]))) ⟨aK,by dsimp only;rw[bF];omega,λj h1 h2=>?_,λq=>if q=k then v else CD q,?_⟩ PA cN
    ·dsimp only;rw[bR GC,ur j GC GC];exact dZ j h1 h2
    ·refine anb _ v _ ?_ ?_ (λj h1 h2 h3=>?_) (λj h1 h2 os l r w hw=>?_)
     ·exact Kg GC
     ·show x7 _ _ _ _ _;rw[if_pos (ql k)];exact iP.same hv (gy.set (.inr GC) _)
     ·rw[bR GC];exact ur j GC h3
     ·show x7 _ _ _ _ _;by_cases e:j<k
      ·rw[if_pos e]at hw;rw[if_pos GC];exact hw
      ·rw[if_neg e]at hw;rw[if_neg GC];exact hw
   generalize kY:L.getD k default=o at *;have Pg:j3 o=[aaC o.wk,aaC o.day,aaC o.st,aaC o.len,aaC o.room]:=rfl;rw[Pg]at yC;generalize qQ:(aW L.length).map (λq=>j3 (L.getD q default)++[CD q])=R6 at *;rcases hH2 with⟨hv,hx⟩|⟨bc,rest,hv,qZ,uf,C0,Dl⟩
   ·have e9:=am3 48 adf;rw[hv,hx]at yC;simp only[dS,dY]at yC;have EU:o.ch=[]:=by
     have:=congrArg oW hx;rw[b8]at this;exact rz this
    ((repeat'(first|refine Vc (X3 @J0 @yC @J1) e9 ?_|(refine Xi ?_ ?_<;>try intro ht)|exact Xx|fail)))
    exact lU (.tree 2 []) ot (.inl ⟨by unfold iq;rw[EU];rfl,by unfold iq;rw[EU];rfl⟩) (λ_ _ _=>rfl) (aN _) _ (by rw[Pg];exact Xv X0)
   ·have e9:=am0 o.ch rest 48 [] (λc=>!l5 c.2) ot bc C0 (λrow hr=>Dl row (by simp[hr])) GC rfl (λx _=>adf x);have Ph:(o.ch.filter λx=>!(λc:Int×Int=>!l5 c.2) x)=(iq o).ch:=by
     unfold iq;dsimp only;congr 1;funext x;exact Bool.not_not _
    rw[Ph]at e9;rw[hv,b8]at yC;simp only[dS,dY]at yC;repeat'(first|((fail_if_success (first|refine eT 11 ?_|refine eU 11 ?_));refine Xr (X3 @J0 @yC @J1) ?_;intro K hK)|(refine hK _ ?_;clear hK K)|(refine Xi ?_ ?_<;>try intro ht)|refine Xy ?_|exact Xx|fail)
    refine pe 7 Px _ rfl ?_;intro K hK;simp(disch:=omega)only[Ac,↓Pc,simprocAttr,kL,iT,J0,yC,J1];refine⟨⟨GC,GC⟩,rfl,(show lP Tryz.prog 47 [.ref bc 2 0 o.ch.length,.fn 48 []] (some 40) _ _ from ?_)⟩;refine rP e9 ?_;rintro r1 o2⟨rfl,vh,rX,bk,nT⟩;refine⟨vh.1,?_⟩;have ang:o2[ac]?=some (.arr 6 R6):=(vh.2 ac GC fM).trans J0;simp(disch:=omega)only[Ac,↓Pc,simprocAttr,ang,yC,J1];refine⟨⟨GC,GC⟩,hK _ ?_⟩;clear hK K;repeat(refine Xu ?_)
    refine Va X0 ?_;exact lU (.ref bc 2 0 (iq o).ch.length) o2 (.inr ⟨bc,rX,by rw[b8],qZ,uf,bk,λrow hr=>by
     rcases cH.1 hr with h|h
     ·exact gr _ row h
     ·exact nT row h⟩) (λj h1 h2=>vh.2 j GC h1) vh.1 _ (by rw[Pg];exact Xv X0)
  ·obtain rfl:k=L.length:=GC;((repeat'(first|refine Va X0 ?_|(refine Xi ?_ ?_<;>try intro ht)|exact Xx|fail)))
   refine bd _ _ rfl ?_;clear ba bd;repeat(refine Xu ?_)
   refine Va X0 ?_;have gp:=(Cc (λc=>x9 (if c<i+1 then(m.cls.getD c default).map iq else m.cls.getD c default)) (C i) ot (by
     rw[dZ a GC GC,rU,<- B8];congr 2;refine l8 λj _=>?_;by_cases e:j=i
     ·rw[if_pos e,e]
     ·rw[if_neg e]) (by
     rw[if_pos (ql i),hLL,hCi];exact am6 Db hS) (λj h1 h2 h3=>dZ j GC h3) (λj h1 h2 os l r w hw=>by
     by_cases e:j<i
     ·rw[if_pos e]at hw;rw[if_pos GC];exact hw
     ·rw[if_neg e]at hw;rw[if_neg GC];exact hw)).CV (C':=C) (Pd':=λc=>x9 (if c<i+1 then(m.cls.getD c default).map iq else m.cls.getD c default)) (A':=λ_=>[]) (λ_ _=>rfl) (λj _=>by
     by_cases e:j=i
     ·rw[if_pos e,e]
     ·rw[if_neg e]) (λ_ _ _ _ _ _ h=>h)
   exact an _ (i+1,ot) ⟨PA,λj h1 h2=>(dZ j GC GC).trans (jy j h1 h2),(dZ 0 GC GC).trans k0,PA,gp⟩ PA (Xv X0)
 obtain rfl:i=m.cls.length:=GC;((repeat'(first|refine Va X0 ?_|(refine Xi ?_ ?_<;>try intro ht)|exact Xx|fail)))
 refine ar _ _ rfl ?_;clear an ar Ql;repeat(refine Xu ?_)
 clear JY jm;have gq1:=(jy q GC GC).trans gq;have gd1:=(jy d GC GC).trans gd;have hP2:=cX.same (λc=>ya _) Pe (jy.mono GC GC) (jy b GC GC);have ky:=hP2.arr;have aou:=AS (λi=>kz (m.ae.getD i default)++[C2 i]) m.ae.length;refine Va (X2 @gq1 @ky) ?_;refine aM (λz:Nat×List Ob=>(⟨aw [(2,.ptr 0 0 0),(5,.ptr q 0 0),(46,.ref b 4 0 m.ae.length),(47,aaC m.ae.length),(48,aaC z.1)],z.2⟩:St))
  (λz=>z.1<=m.ae.length/\gy 0 l2 ob z.2/\gy h2 (q+1) ob z.2/\q+1<=z.2.length/\cX 4 (λc=>wF (if c<z.1 then(jP (m.ae.getD c default)).aB else(m.ae.getD c default).aB)) z.2 b l2 h2 m.ae.length (λc=>kz (m.ae.getD c default)) C2)
  (λz=>m.ae.length-z.1) (0,ob) ⟨aI _,λ_ _ _=>rfl,λ_ _ _=>rfl,cI,hP2⟩ (Xv X0) ?_
 rintro⟨i,ot⟩⟨hi,jS,jC,hlen,Gs⟩Ql an ar;dsimp only at hi jS jC hlen Gs ⊢;by_cases hi':i<m.ae.length
 ·have uc:=ay (l:=m.ae) (d:=default) hi';have cu:=Mp hm uc;obtain⟨l,r,hl,hr,hO,Cc⟩:=Gs.at (λc=>ya _) hi';have Pf:iP 1 ot l r (C2 i) (ints (m.ae.getD i default).aB):=by
   have:=hO;unfold wF at this;rw[if_neg (BF i)]at this;exact this
  clear hO;have rU:=Gs.arr;have ani:=Gs.len;have xf:((aW m.ae.length).map λc=>kz (m.ae.getD c default)++[C2 c])[i]?=some (kz (m.ae.getD i default)++[C2 i]):=sY _ hi';have gM:=AS (λc=>kz (m.ae.getD c default)++[C2 c]) m.ae.length;have lU:∀ o2:List Ob,iP 1 o2 l r (C2 i) (ints (jP (m.ae.getD i default)).aB)->(∀ j,j<ot.length->(j<l\/r<=j)->o2[j]?=ot[j]?)->ot.length<=o2.length->∀ st,
    aF 0 st ⟨aw [(2,.ptr 0 0 0),(5,.ptr q 0 0),(46,.ref b 4 0 m.ae.length),(47,aaC m.ae.length),(48,aaC (i+1:Nat))],o2⟩->Ql .normal st:=by
   intro o2 hv ur mj st cN;have gp:=(Cc (λc=>wF (if c<i+1 then(jP (m.ae.getD c default)).aB else(m.ae.getD c default).aB)) (C2 i) o2 (by
     rw[ur b ani GC,rU];congr 2;refine l8 λj _=>?_;by_cases e:j=i
     ·rw[if_pos e,e]
     ·rw[if_neg e]) (by
     show wF _ _ _ _ _;rw[if_pos (ql i)];exact hv) (λj h1 h2 h3=>ur j GC h3) (λj h1 h2 os l r w hw=>by
     show wF _ _ _ _ _;by_cases e:j<i
     ·rw[if_pos e]at hw;rw[if_pos GC];exact hw
     ·rw[if_neg e]at hw;rw[if_neg GC];exact hw)).CV (C':=C2) (Pd':=λc=>wF (if c<i+1 then(jP (m.ae.getD c default)).aB else(m.ae.getD c default).aB)) (A':=λc=>kz (m.ae.getD c default)) (λ_ _=>rfl) (λj _=>by
     by_cases e:j=i
     ·rw[if_pos e,e]
     ·rw[if_neg e]) (λ_ _ _ _ _ _ h=>h)
   exact an st (i+1,o2) ⟨hi',λj h1 h2=>(ur j GC GC).trans (jS j h1 h2),λj h1 h2=>(ur j GC GC).trans (jC j h1 h2),PA,gp⟩ PA cN
  clear Cc;generalize b6:m.ae.getD i default=p at *;have Io:kz p=[aaC p.fst,aaC p.snd,aaC p.bz]:=rfl;rw[Io]at xf;simp only[dS,dY]at xf;generalize qQ:(aW m.ae.length).map (λc=>kz (m.ae.getD c default)++[C2 c])=R2 at *;rcases Pf with⟨hv,hx⟩|⟨tb,rest,hv,qZ,uf,C0,Dl⟩
  ·have ht0:p.aB=[]:=by
    have:=congrArg oW hx;rw[lI]at this;exact rz this
   rw[hv]at xf;rw[ht0]at xf;((repeat'(first|refine Va (X4 @rU @xf @gM @cy) ?_|(refine Xi ?_ ?_<;>try intro ht)|exact Xx|fail)))
   refine aM (λz:Unit=>(⟨aw [(2,.ptr 0 0 0),(5,.ptr q 0 0),(46,.ref b 4 0 m.ae.length),(47,aaC m.ae.length),(48,aaC i),(54,aaC 0),(55,aaC 0)],ot++[.var [aaC p.fst,aaC p.snd,aaC p.bz,.tree 1 (ints [])]]⟩:St)) (λ_=>True) (λ_=>0) () trivial (Xv X0) ?_;rintro⟨⟩_ cJ ba bd;((repeat'(first|refine Va X0 ?_|(refine Xi ?_ ?_<;>try intro ht)|exact Xx|fail)))
   refine bd _ _ rfl ?_;clear ba bd;repeat(refine Xu ?_)
   refine Va X0 ?_;refine lU (ot++[.var [aaC p.fst,aaC p.snd,aaC p.bz,.tree 1 (ints [])]]) (.inl ⟨?_,?_⟩) (λj h1 _=>cT h1) GF _ (Xv X0)
   ·rw[hv,ht0];unfold jP;rw[ht0];rfl
   ·unfold jP;rw[ht0];rfl
  ·rw[lI]at hv;rw[hv]at xf;have nW:=(a8.1 C0).1;have hbo:=bg C0;((repeat'(first|refine Va (X5 @rU @xf @gM @cy @hbo) ?_|(refine Xi ?_ ?_<;>try intro ht)|exact Xx|fail)))
   have qm:(ot++[Ob.var [aaC p.fst,aaC p.snd,aaC p.bz,.ref tb 1 0 p.aB.length]])[ot.length]?=some (.var [aaC p.fst,aaC p.snd,aaC p.bz,.ref tb 1 0 p.aB.length]):=kf _ _ _;refine aM (λz:Nat×List Int×List Ob=>(⟨aw [(2,.ptr 0 0 0),(5,.ptr q 0 0),(46,.ref b 4 0 m.ae.length),(47,aaC m.ae.length),(48,aaC i),(10,.ptr ot.length 0 0),(53,.ref tb 1 0 p.aB.length),(54,aaC p.aB.length),(55,aaC z.1)],z.2.2⟩:St))
    (λz=>z.1<=p.aB.length/\z.2.1.length=p.aB.length/\(∀ j,j<p.aB.length->z.2.1.getD j 0=if j<z.1 then nG (p.aB.getD j 0) else p.aB.getD j 0)/\mG tb (ot++[Ob.var [aaC p.fst,aaC p.snd,aaC p.bz,.ref tb 1 0 p.aB.length]]) z.2.2/\z.2.2[tb]?=some (.arr 1 (ints z.2.1++rest)))
    (λz=>p.aB.length-z.1) (0,p.aB,ot++[Ob.var [aaC p.fst,aaC p.snd,aaC p.bz,.ref tb 1 0 p.aB.length]]) ⟨aI _,rfl,λ_ _=>GF,mG.refl _ _,hbo _⟩ (Xv X0) ?_
   rintro⟨k,X,ox⟩⟨hk,hX,hU,jO,bk⟩cJ ba bd;dsimp only at hk hX hU jO bk ⊢;have D6:ox[ot.length]?=some (.var [aaC p.fst,aaC p.snd,aaC p.bz,.ref tb 1 0 p.aB.length]):=(jO.2 _ GC GF).trans qm;by_cases aK:k<p.aB.length
   ·have bq:(ints X++rest)[k]?=some [aaC (p.aB.getD k 0)]:=by
     have h5:=hU k aK;rw[if_neg (BF k)]at h5;rw[cT (by rw[lI];omega),<- h5];unfold ints;rw[cj,aA,bK GC];rfl
    have cD:(ints X++rest).length=p.aB.length+rest.length:=by rw[bQ,lI,hX]
    have iy:(ints X++rest).set k [aaC 0]=ints (X.set k 0)++rest:=by
     rw[GR _ _ (by rw[lI];omega)];unfold ints;rw[<- List.map_set]
    generalize aS:p.aB.getD k 0=x at *;have HQ:∀ j,j<p.aB.length->j≠k->X.getD j 0=if j<k+1 then nG (p.aB.getD j 0) else p.aB.getD j 0:=λj h1 h2=>by
     rw[hU j h1];by_cases e:j<k
     ·rw[if_pos e,if_pos GC]
     ·rw[if_neg e,if_neg GC]
    by_cases hF:x=1099511627776
    ·((repeat'(first|refine Va (X4 @D6 @bk @bq @cD) ?_|(refine Xi ?_ ?_<;>try intro ht)|exact Xx|fail)))
     all_goals try(exfalso;simp_all;done)
     all_goals
      refine ba _ (k+1,X,ox) ⟨aK,hX,λj hj=>?_,jO,bk⟩ PA (Xv X0);by_cases e:j=k
      ·subst e;have:=hU j hj;dsimp only;rw[this,aS,if_neg (BF _),if_pos (ql _),hF];rfl
      ·exact HQ j hj e
    ·((repeat'(first|refine Va (X5 @D6 @bk @bq @cD @iy) ?_|(refine Xi ?_ ?_<;>try intro ht)|exact Xx|fail)))
     all_goals try(exfalso;simp_all;done)
     all_goals
      refine ba _ (k+1,X.set k 0,ox.set tb (.arr 1 (ints (X.set k 0)++rest))) ⟨aK,by dsimp only;rw[bF];exact hX,λj hj=>?_,by have:=jO.step (.arr 1 (ints (X.set k 0)++rest)) [];rwa [g9]at this,kh bk⟩ PA (Xv X0);dsimp only;by_cases e:j=k
      ·subst e;rw[aA,Kg GC,aS,if_pos (ql _)];unfold nG;rw[if_neg hF];rfl
      ·rw[aA,bR (Ne.symm e),<- aA];exact HQ j hj e
   ·obtain rfl:k=p.aB.length:=GC;((repeat'(first|refine Va X0 ?_|(refine Xi ?_ ?_<;>try intro ht)|exact Xx|fail)))
    refine bd _ _ rfl ?_;clear ba bd;repeat(refine Xu ?_)
    refine Va X0 ?_;have hXe:X=p.aB.map nG:=by
     apply List.ext_getElem?;intro j;by_cases e:j<p.aB.length
     ·have:=hU j e;rw[if_pos e,aA,aA,bK GC,bK e]at this;rw[cj,bK GC,bK e];simpa using this
     ·rw[dW GC,dW (by simpa using e)]
    refine lU ox ?_ (λj h1 h2=>(jO.2 j GC aar).trans (cT h1)) (by have:=jO.1;simp at this;omega) _ (Xv X0);refine .inr ⟨tb,rest,?_,qZ,uf,?_,λrow xP=>?_⟩
    ·rw[hv,lI];unfold jP;simp
    ·rw[bk,hXe];rfl
    ·rcases cH.1 xP with h|h
     ·exact rH _ row h
     ·exact Dl row (by simp[h])
 obtain rfl:i=m.ae.length:=GC;((repeat'(first|refine Va X0 ?_|(refine Xi ?_ ?_<;>try intro ht)|exact Xx|fail)))
 refine ar _ _ rfl ?_;clear an ar Ql;repeat(refine Xu ?_)
 have gq2:=(jC q GC GC).trans gq1;have gd2:=(jC d GC GC).trans gd1;have k2:=(jS 0 GC GC).trans k0;have hC2:=cX.same (λc=>wD _) JZ (jS.mono GC GC) (jS a GC GC);have ado:=am1 m.av [] 50 [] (λc=>!l5 c.bM) ot d (by rw[g9];exact gd2) (λrow hr=>by cases hr) GC rfl (λx _=>am2 x);have Ph:(m.av.filter λx=>!(λc:Ct=>!l5 c.bM) x)=(aU m).av:=by
  unfold aU;dsimp only;congr 1;funext x;exact Bool.not_not _
 rw[Ph]at ado
 refine Xy ?_;refine pe 2 Px _ rfl ?_;intro K hK;simp(disch:=omega)only[Ac,↓Pc,simprocAttr,kL,iT,gq2];refine⟨rfl,(show lP Tryz.prog 49 [.ref d 4 0 m.av.length,.fn 50 []] (some 70) _ _ from ?_)⟩;refine rP ado ?_;rintro r1 o2⟨rfl,vh,rX,bk,nT⟩;refine⟨vh.1,?_⟩;have gq3:o2[q]?=_:=(vh.2 q GC GC).trans gq2;have k3:o2[0]?=_:=(vh.2 0 GC GC).trans k2;have gqs:=λy=>kh (y:=y) gq3;simp(disch:=omega)only[Ac,↓Pc,simprocAttr,gq3,gqs];refine hK _ ?_;clear hK K;repeat(refine Xu ?_)
 have wC:=(a8.1 bk).1;have k4:∀ Y,(o2.set q Y)[0]?=some (.var zM):=λY=>(bR GC).trans k3;have hS:∀ (Y Z:Ob) (lo hi:Nat),1<=lo->hi<=d->gy lo hi ot ((o2.set q Y).set 0 Z):=λY Z lo hi h1 h2 j j1 j2=>by
  rw[bR GC,bR GC];exact vh.2 j GC GC
 have hfC:∀ Y Z,Cv (aU m).cls ((o2.set q Y).set 0 Z) a 1 Ar (aU m).cls.length C:=λY Z=>by
  unfold Cv;rw[rY];refine cX.CV (cX.same (λc=>wD _) hC2 (hS Y Z _ _ (aN _) GC) (hS Y Z a (a+1) (by have:=hC2.tZ;omega) GC a (aN _) (ql _))) (λ_ _=>rfl) (λ_ _=>rfl) (λc hc os l r v hv=>?_);rw[if_pos hc]at hv;have e:(aU m).cls.getD c default=(m.cls.getD c default).map iq:=iR _ _ _ hc;rw[e];exact hv
 have hfP:∀ Y Z,ES (aU m).ae ((o2.set q Y).set 0 Z) b l2 h2 (aU m).ae.length C2:=λY Z=>by
  unfold ES;rw[show(aU m).ae.length=m.ae.length by simp[aU]];refine cX.CV (cX.same (λc=>ya _) Gs (hS Y Z _ _ GC GC) (hS Y Z b (b+1) GC GC b (aN _) (ql _))) (λc hc=>?_) (λ_ _=>rfl) (λc hc os l r v hv=>?_)
  ·have e:(aU m).ae.getD c default=jP (m.ae.getD c default):=iR _ _ _ hc;rw[e];rfl
  ·have rJ:wF _ os l r v:=hv;rw[if_pos hc]at rJ;have e:(aU m).ae.getD c default=jP (m.ae.getD c default):=iR _ _ _ hc;rw[e];exact rJ
 have hfD:∀ Y Z,iP 4 ((o2.set q Y).set 0 Z) d (d+1) (.ref d 4 0 (aU m).av.length) (rowsOf aV (aU m).av):=λY Z =>
  .inr ⟨d,rX,by rw[b8],aN _,ql _,by rw[bR GC,bR GC];exact bk,λrow hr=>by
   rcases cH.1 hr with h|h
   ·exact gr _ row h
   ·exact nT row h⟩
 have rN:(aU m).ae.length=m.ae.length:=by simp[aU]
 have k5:=λY Z=>kh (y:=Z) (k4 Y);refine Vb (X3 @gqs @k4 @zM.eq_1) ?_;simp(disch:=omega)only[Ac,↓Pc,simprocAttr,rowOf,k5];refine cZ [] true Px trivial Px Px (aJ.lq (aJ.agg _ _ rfl (fF.spec (R:=aJ _ _ _ _) (cs:=aq (aU m)) (ds:=[.ref a 1 0 m.cls.length,.ref b 4 0 m.ae.length,.ref d 4 0 (aU m).av.length,aaC m.rules]) ⟨.snap _ _ rfl ?_,.snap _ _ rfl ?_,.snap _ _ rfl ?_,.pure rfl,trivial⟩).2) (.pure rfl))
 ·rw[<- rY m];exact ai3 (hfC _ _) (λi _ _=>iK GF)
 ·rw[<- rN];exact ai4 (hfP _ _) (λi _ _=>iK GF)
 ·exact iP.cC (hfD _ _) (λi _ _=>iK GF) (kW _)
end T

