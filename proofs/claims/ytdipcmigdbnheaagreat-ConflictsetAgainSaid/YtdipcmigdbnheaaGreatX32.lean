import Derived.Test.YtdipcmigdbnheaaGreatX31
set_option linter.all false
set_option maxHeartbeats 0
set_option maxRecDepth 20000
open Nat renaming zero_le→aQ,le_refl→aG,zero_add→eW,lt_succ_self→m5,add_zero→jb,reduceEqDiff→xr,reduceBEq→s0,lt_irrefl→xq
open List renaming cons_append→cW,nil_append→da,drop_eq_nil_of_le→cU,length_append→bR,length_set→bE,getElem?_append_left→cd,getElem?_set_ne→bj,getElem?_eq_some_iff→aM,mem_append→cj,getD_eq_getElem?_getD→aA,set_append_left→EX,filter_append→zi,take_length→um,mem_of_mem_drop→rO,length_take→iL,replicate→b6,append_nil→gb,append_assoc→dC,map_take→xp,take_append_of_le_length→BH,length_map→ed,eq_of_mem_replicate→zd,range→aN,map_congr_left→kG,take→mA,drop→kH,getElem?_set_self→EU,length→rS,eq_nil_of_length_eq_zero→oO,getElem?_map→cg,getElem?_eq_getElem→bT,getElem?_eq_none→eE
open Bool renaming not_false→m4,not_true→lA
open Option renaming map_none→m0,map_some→fR
open Go Go.Am Go.Proofs
namespace T
def Vy(l:List (Int×Int))(g:FuncId)(aT:List AV)(aa:List Ob)(p:(Int×Int)->Bool)(hl:l.length<9223372036854775808)(hg:∀ x∈l,an Tryz.prog g ([.agg (bz x)]++aT) aa (.lit (.bool (p x))) aa):
  an Tryz.prog 92 [.tree 2 (rowsOf bz l),.fn g aT] aa (aa3 (dV p 0 l)) aa:=by
 generalize ao:dV p 0 l=res;refine an.aF 19 aa.length [.tmp 4] Tryz.func92 ?_;refine Vb (X3 @bW @hU @bz.eq_1) ?_;refine aW (λk:Nat=>(⟨ax [(0,.tree 2 (rowsOf bz l)),(1,.fn g aT),(7,aa3 l.length),(8,aa3 k)],aa⟩:St)) (λk=>k<=l.length/\dV p k (l.drop k)=res) (λk=>l.length-k) 0 ⟨aQ _,ao⟩ (Xv X0) ?_;rintro k⟨hk,hr⟩Ql aq au;by_cases aJ:k<l.length
 ·have hx:=hg _ (aC (d:=default) aJ);have hd:=cS l k default aJ;generalize bG:l.getD k default=x at *;rw[hd,dV]at hr;simp only[cW,da,bz]at hx;((repeat'(first|refine Vb (X4 @bW @hU @bz.eq_1 @bG) ?_|(refine Xi ?_ ?_<;>try intro ht)|exact Xx|fail))<;>try with_reducible intro K hK)
  refine lh hx (aG _) ?_;((try revert hK K);(repeat'(first|refine Vb (X3 @bW @hU @bz.eq_1) ?_|(refine Xi ?_ ?_<;>try intro ht)|fail)))
  ·rw[if_pos (by assumption)]at hr;rw[<- hr];exact fB rfl (aG _) rfl
  ·rw[if_neg (by simp_all)]at hr;exact aq _ (k+1) ⟨I6,hr⟩ I6 (Xv X0)
 ·((repeat'(first|refine Vb (X3 @bW @hU @bz.eq_1) ?_|(refine Xi ?_ ?_<;>try intro ht)|exact Xx|fail)))
  rw[cU I6,dV]at hr;rw[<- hr];exact fB rfl (aG _) rfl
def Et{α:Type}(p:α->Bool):∀ (l:List α) (k:Nat),dV p k l = -1->l.filter (λx=>!p x)=l
 |[],k,_=>rfl
 |x::r,k,h=>by
  rw[dV]at h;split at h
  ·omega
  ·rename_i hp;rw[List.filter_cons_of_pos (by simpa using hp),Et p r (k+1) h]
def Eu{α:Type}(p:α->Bool):∀ (l:List α) (k:Nat),dV p k l≠-1->∃ i,dV p k l=((k+i:Nat):Int)/\i<l.length/\(l.take (i+1)).filter (λx=>!p x)=l.take i
 |[],k,h=>absurd rfl h
 |x::r,k,h=>by
  rw[dV]at h ⊢;by_cases hp:p x=true
  ·rw[if_pos hp];exact⟨0,rfl,Jd,by simp[hp]⟩
  ·rw[if_neg hp]at h ⊢;obtain⟨i,h1,h2,h3⟩:=Eu p r (k+1) h;refine⟨i+1,by rw[h1];congr 1;omega,aaZ,?_⟩;rw[List.take_succ_cons,List.filter_cons_of_pos (by simpa using hp),h3];rfl
def IW{α:Type}{Y:List α}{i:Nat}{x:α}(h:i<Y.length):(Y.set i x).take (i+1)=Y.take i++[x]:=by
 rw[List.take_succ_eq_append_getElem (by simpa using h),List.take_set_of_le (aG _)];simp
def dS.Ev{σ:St}{kp:Nat->Prop}{ρ:Nat->Nat}{snap:Bool}:∀ {l:List AV},gF l=true->dS (aE σ kp ρ snap) l l
 |[],_=>trivial
 |v::l,h=>by
  simp only[gF,Bool.and_eq_true]at h;exact⟨.pure h.1,dS.Ev h.2⟩
def kd(b:Nat)(os ob:List Ob):Prop:=os.length<=ob.length/\∀ k,k≠b->k<os.length->ob[k]?=os[k]?
def kd.refl(b:Nat)(os:List Ob):kd b os os:=⟨aG _,λ_ _ _=>rfl⟩
def kd.step{b:Nat}{os ob:List Ob}(h:kd b os ob)(y:Ob)(L:List Ob):kd b os (ob.set b y++L) :=
 ⟨by rw[bR,bE];have:=h.1;omega,λk h1 h2=>by
  rw[cd (by rw[bE];have:=h.1;omega),bj (Ne.symm h1)];exact h.2 k h1 h2⟩
def kd.app{b:Nat}{os ob:List Ob}(h:kd b os ob)(L:List Ob):kd b os (ob++L) :=
 ⟨by rw[bR];have:=h.1;omega,λk h1 h2=>by rw[cd (by have:=h.1;omega)];exact h.2 k h1 h2⟩
def ad8(xs:List (Int×Int))(rest:List (List AV))(g:FuncId)(aT:List AV)(p:(Int×Int)->Bool)(os:List Ob)(b:Nat)(hb:os[b]?=some (.arr 2 (rowsOf bz xs++rest)))(hw:∀ row∈rest,row.length=2)(hl:xs.length<1000000)(vB:gF aT=true)(hg:∀ x∈xs,an Tryz.prog g ([.agg (bz x)]++aT) [] (.lit (.bool (p x))) []):
  ez Tryz.prog 47 [.ref b 2 0 xs.length,.fn g aT] os (λr ob=>r=.ref b 2 0 (xs.filter λx=>!p x).length/\kd b os ob/\∃ oy,ob[b]?=some (.arr 2 (rowsOf bz (xs.filter λx=>!p x)++oy))/\∀ row∈oy,row.length=2):=by
 have gx:=Vy xs g aT [] p I6 hg;have nq:=(aM.1 hb).1;have Bp:∀ row∈rowsOf bz xs++rest,row.length=2:=λrow hr=>by
  rcases cj.1 hr with h|h
  ·exact eF _ row h
  ·exact hw row h
 have kh:∀ e:Nat->AV,b9 ⟨e,os⟩ (·∈([]:List Nat)) (.tree 2 (rowsOf bz xs)) (.ref b 2 0 xs.length):=λe =>
  fL.bS (.inr ⟨b,rest,by rw[bW],aQ _,nq,hb,Bp⟩) (λi _ _=>Jd) (jh _)
 refine ez.aF 42 os.length [.tmp 4] Tryz.func47 ?_;((refine Va X0 ?_)<;>try with_reducible intro K hK)
 refine n6 [] gx aab trivial ⟨aE.snap _ _ rfl (kh _),.pure (by simpa [eO] using vB),trivial⟩ rfl Jd ?_;simp(disch:=omega)only[Ac,↓Pc,simprocAttr];by_cases rH:dV p 0 xs = -1
 ·have eA:=Et p xs 0 rH;rw[rH];((try revert hK K);(repeat'(first|refine Va X0 ?_|(refine Xi ?_ ?_<;>try intro ht)|exact Xx|fail)))
  unfold fJ;simp only[dQ,dK];simp(disch:=omega)only[Ac,↓Pc,simprocAttr];exact⟨_,_,⟨by rw[eA],kd.refl _ _,rest,by rw[eA];exact hb,hw⟩,fB rfl (aG _) rfl⟩
 ·obtain⟨i0,h1,h2,h3⟩:=Eu p xs 0 rH;rw[eW]at h1;rw[h1];clear gx kh;((try revert hK K);(repeat'(first|refine Va X0 ?_|(refine Xi ?_ ?_<;>try intro ht)|exact Xx|fail)))
  refine aW (λz:Nat×Nat×List (Int×Int)×List Ob=>(⟨ax [(0,.ref b 2 0 xs.length),(1,.fn g aT),(5,aa3 z.2.1),(6,aa3 z.1)],z.2.2.2⟩:St))
   (λz=>z.1<=xs.length/\z.2.1<z.1/\z.2.2.1.length=xs.length/\(xs.take z.1).filter (λx=>!p x)=z.2.2.1.take z.2.1/\(∀ k,z.1<=k->z.2.2.1.getD k default=xs.getD k default)/\kd b os z.2.2.2/\z.2.2.2[b]?=some (.arr 2 (rowsOf bz z.2.2.1++rest)))
   (λz=>xs.length-z.1) (i0+1,i0,xs,os) ⟨h2,m5 _,rfl,h3,λ_ _=>rfl,kd.refl _ _,hb⟩ (Xv X0) ?_
  rintro⟨j,i,Y,ob⟩⟨hj,pg,hY,iy,mW,gY,aP⟩Ql aq au;dsimp only at hj pg hY iy mW gY aP ⊢;have eV:(rowsOf bz Y++rest).length=xs.length+rest.length:=by rw[bR,bW,hY]
  have gp:=bC aP;have fl:=λl y=>gP aP l (y:=y);by_cases dG:j<xs.length
  ·have sE:=aC (l:=xs) (d:=default) dG;have hx:=hg _ sE;have aZ:(rowsOf bz Y++rest)[j]?=some (bz (xs.getD j default)):=by
    rw[cd (by rw[bW];omega),uL _ _ I6,mW j (aG _)]
   have Br:(rowsOf bz Y++rest).getD j []=bz (xs.getD j default):=by rw[aA,aZ];rfl
   have Bs:(rowsOf bz Y++rest)[i]?=some (bz (Y.getD i default)):=by
    rw[cd (by rw[bW];omega),uL _ _ I6]
   generalize Y.getD i default=y0 at *;have ey:=iB dG;generalize bG:xs.getD j default=x at *;simp only[cW,da,bz]at hx;have gr:(rowsOf bz Y++rest).set i [aa3 x.1,aa3 x.2]=rowsOf bz (Y.set i x)++rest:=by
    rw[EX _ _ (by rw[bW];omega),<- x8];rfl
   generalize nW:rowsOf bz Y++rest=R at *;repeat'(first|((fail_if_success (first|refine eG 8 ?_|refine eH 8 ?_));refine Xr (X5 @aP @eV @aZ @Br (X2 @bz.eq_1 @dr)) ?_;intro K hK)|(refine hK _ ?_;clear hK K)|(refine Xi ?_ ?_<;>try intro ht)|refine Xy ?_|refine Xd ?_ ?_|exact Xx|fail)
   ((refine Va @dr ?_)<;>try with_reducible intro K hK)
   refine g9 [] hx aab trivial ⟨.pure rfl,dS.Ev vB⟩ ?_;simp(disch:=omega)only[Ac,↓Pc,simprocAttr,dr];have vr:=(aM.1 aP).1;cases kC:p x
   ·((try revert hK K);(repeat'(first|refine Va (X5 @aP @gp @fl @eV (X5 @Bs @bz.eq_1 @gr @kC (X2 @dr @m4))) ?_|(refine Xi ?_ ?_<;>try intro ht)|exact Xx|fail)))
    all_goals try(exfalso;simp_all;done)
    all_goals
     exact aq _ (j+1,i+1,Y.set i x,ob.set b (.arr 2 (rowsOf bz (Y.set i x)++rest))++[.var (bz x)]) ⟨aaK,aaK,by simpa using hY,by
      dsimp only;rw[ey,zi,iy,IW I6];simp[kC],λk hk=>by
      dsimp only at hk ⊢;rw[aA,bj I6,<- aA];exact mW k I6,gY.step _ _,bC (iH aP) _⟩ aaK (Xv @bz.eq_1)
   ·((try revert hK K);(repeat'(first|refine Va (X5 @aP @gp @fl @eV (X3 @kC @dr @lA)) ?_|(refine Xi ?_ ?_<;>try intro ht)|exact Xx|fail)))
    all_goals try(exfalso;simp_all;done)
    all_goals
     exact aq _ (j+1,i,Y,ob++[.var (bz x)]) ⟨aaK,aaK,hY,by
      dsimp only;rw[ey,zi,iy];simp[kC],λk hk=>mW k (by dsimp only at hk;omega),gY.app _,by dsimp only;rw[nW];exact bC aP _⟩ aaK (Xv @bz.eq_1)
  ·obtain rfl:j=xs.length:=I6;rw[um]at iy;((repeat'(first|refine Va (X2 @aP @eV) ?_|(refine Xi ?_ ?_<;>try intro ht)|exact Xx|fail)))
   refine au _ _ rfl ?_;clear aq au Ql;repeat(refine Xu ?_)
   have l8:=λy=>iH (y:=y) aP;have Bt:∀ row∈(rowsOf bz Y++rest).drop (i+(xs.length-i)),row.length=2:=λrow hr=>by
    rcases cj.1 (rO hr) with h|h
    ·exact eF _ row h
    ·exact hw row h
   refine Va (X5 @aP @eV @l8 @m0.{0,0} @fR.{0,0}) ?_;unfold fJ;simp only[dQ,dK];simp(disch:=omega)only[Ac,↓Pc,simprocAttr];have l6:(xs.filter λx=>!p x).length=i:=by rw[iy,iL];omega
   refine⟨_,_,⟨by rw[l6],by have:=gY.step (.arr 2 ((rowsOf bz Y++rest).take i++b6 (xs.length-i) [aa3 0,aa3 0]++(rowsOf bz Y++rest).drop (i+(xs.length-i)))) [];rwa [gb]at this,b6 (xs.length-i) [aa3 0,aa3 0]++(rowsOf bz Y++rest).drop (i+(xs.length-i)),?_,λrow hr=>?_⟩,fB rfl (by rw[bE];exact gY.1) rfl⟩
   ·rw[l8,<- dC,iy];congr 4;unfold rowsOf;rw[xp,BH (by rw[ed];omega)]
   ·rcases cj.1 hr with h|h
    ·rw[zd h];rfl
    ·exact Bt row h
def gU(n:Int):List AV:=[aa3 n]
instance:Row gU 1:=⟨λ_=>rfl,λ_=>uM rfl⟩
def NI(l:List Int)(g:FuncId)(aT:List AV)(aa:List Ob)(p:Int->Bool)(hl:l.length<9223372036854775808)(hg:∀ x∈l,an Tryz.prog g ([aa3 x]++aT) aa (.lit (.bool (p x))) aa):
  an Tryz.prog 164 [.tree 1 (ints l),.fn g aT] aa (aa3 (dV p 0 l)) aa:=by
 generalize ao:dV p 0 l=res;refine an.aF 19 aa.length [.tmp 4] Tryz.func164 ?_;refine Vb @jb ?_;refine aW (λk:Nat=>(⟨ax [(0,.tree 1 (ints l)),(1,.fn g aT),(7,aa3 l.length),(8,aa3 k)],aa⟩:St)) (λk=>k<=l.length/\dV p k (l.drop k)=res) (λk=>l.length-k) 0 ⟨aQ _,ao⟩ (Xv X0) ?_;rintro k⟨hk,hr⟩Ql aq au;by_cases aJ:k<l.length
 ·have hx:=hg _ (aC (d:=0) aJ);have hd:=cS l k 0 aJ;generalize bG:l.getD k 0=x at *;rw[hd,dV]at hr;simp only[cW,da]at hx;((repeat'(first|refine Vb (X2 @jb @bG) ?_|(refine Xi ?_ ?_<;>try intro ht)|exact Xx|fail))<;>try with_reducible intro K hK)
  refine lh hx (aG _) ?_;((try revert hK K);(repeat'(first|refine Vb @jb ?_|(refine Xi ?_ ?_<;>try intro ht)|fail)))
  ·rw[if_pos (by assumption)]at hr;rw[<- hr];exact fB rfl (aG _) rfl
  ·rw[if_neg (by simp_all)]at hr;exact aq _ (k+1) ⟨I6,hr⟩ I6 (Xv X0)
 ·((repeat'(first|refine Vb @jb ?_|(refine Xi ?_ ?_<;>try intro ht)|exact Xx|fail)))
  rw[cU I6,dV]at hr;rw[<- hr];exact fB rfl (aG _) rfl
def Za(xs:List Int)(rest:List (List AV))(g:FuncId)(aT:List AV)(p:Int->Bool)(os:List Ob)(b:Nat)(hb:os[b]?=some (.arr 1 (rowsOf gU xs++rest)))(hw:∀ row∈rest,row.length=1)(hl:xs.length<1000000)(vB:gF aT=true)(hg:∀ x∈xs,an Tryz.prog g ([aa3 x]++aT) [] (.lit (.bool (p x))) []):
  ez Tryz.prog 109 [.ref b 1 0 xs.length,.fn g aT] os (λr ob=>r=.ref b 1 0 (xs.filter λx=>!p x).length/\kd b os ob/\∃ oy,ob[b]?=some (.arr 1 (rowsOf gU (xs.filter λx=>!p x)++oy))/\∀ row∈oy,row.length=1):=by
 have gx:=NI xs g aT [] p I6 hg;have nq:=(aM.1 hb).1;have Bp:∀ row∈rowsOf gU xs++rest,row.length=1:=λrow hr=>by
  rcases cj.1 hr with h|h
  ·exact eF _ row h
  ·exact hw row h
 have kh:∀ e:Nat->AV,b9 ⟨e,os⟩ (·∈([]:List Nat)) (.tree 1 (rowsOf gU xs)) (.ref b 1 0 xs.length):=λe =>
  fL.bS (.inr ⟨b,rest,by rw[bW],aQ _,nq,hb,Bp⟩) (λi _ _=>Jd) (jh _)
 refine ez.aF 42 os.length [.tmp 4] Tryz.func109 ?_;((refine Va X0 ?_)<;>try with_reducible intro K hK)
 refine n6 [] gx aab trivial ⟨aE.snap _ _ rfl (kh _),.pure (by simpa [eO] using vB),trivial⟩ rfl Jd ?_;simp(disch:=omega)only[Ac,↓Pc,simprocAttr];by_cases rH:dV p 0 xs = -1
 ·have eA:=Et p xs 0 rH;rw[rH];((try revert hK K);(repeat'(first|refine Va X0 ?_|(refine Xi ?_ ?_<;>try intro ht)|exact Xx|fail)))
  unfold fJ;simp only[dQ,dK];simp(disch:=omega)only[Ac,↓Pc,simprocAttr];exact⟨_,_,⟨by rw[eA],kd.refl _ _,rest,by rw[eA];exact hb,hw⟩,fB rfl (aG _) rfl⟩
 ·obtain⟨i0,h1,h2,h3⟩:=Eu p xs 0 rH;rw[eW]at h1;rw[h1];clear gx kh;((try revert hK K);(repeat'(first|refine Va X0 ?_|(refine Xi ?_ ?_<;>try intro ht)|exact Xx|fail)))
  refine aW (λz:Nat×Nat×List Int×List Ob=>(⟨ax [(0,.ref b 1 0 xs.length),(1,.fn g aT),(5,aa3 z.2.1),(6,aa3 z.1)],z.2.2.2⟩:St))
   (λz=>z.1<=xs.length/\z.2.1<z.1/\z.2.2.1.length=xs.length/\(xs.take z.1).filter (λx=>!p x)=z.2.2.1.take z.2.1/\(∀ k,z.1<=k->z.2.2.1.getD k default=xs.getD k default)/\kd b os z.2.2.2/\z.2.2.2[b]?=some (.arr 1 (rowsOf gU z.2.2.1++rest)))
   (λz=>xs.length-z.1) (i0+1,i0,xs,os) ⟨h2,m5 _,rfl,h3,λ_ _=>rfl,kd.refl _ _,hb⟩ (Xv X0) ?_
  rintro⟨j,i,Y,ob⟩⟨hj,pg,hY,iy,mW,gY,aP⟩Ql aq au;dsimp only at hj pg hY iy mW gY aP ⊢;have eV:(rowsOf gU Y++rest).length=xs.length+rest.length:=by rw[bR,bW,hY]
  have gp:=bC aP;have fl:=λl y=>gP aP l (y:=y);by_cases dG:j<xs.length
  ·have sE:=aC (l:=xs) (d:=default) dG;have hx:=hg _ sE;have aZ:(rowsOf gU Y++rest)[j]?=some (gU (xs.getD j default)):=by
    rw[cd (by rw[bW];omega),uL _ _ I6,mW j (aG _)]
   have Br:(rowsOf gU Y++rest).getD j []=gU (xs.getD j default):=by rw[aA,aZ];rfl
   have Bs:(rowsOf gU Y++rest)[i]?=some (gU (Y.getD i default)):=by
    rw[cd (by rw[bW];omega),uL _ _ I6]
   generalize Y.getD i default=y0 at *;have ey:=iB dG;generalize bG:xs.getD j default=x at *;simp only[cW,da,gU]at hx;have gr:(rowsOf gU Y++rest).set i [aa3 x]=rowsOf gU (Y.set i x)++rest:=by
    rw[EX _ _ (by rw[bW];omega),<- x8];rfl
   generalize nW:rowsOf gU Y++rest=R at *;repeat'(first|((fail_if_success (first|refine eG 8 ?_|refine eH 8 ?_));refine Xr (X5 @aP @eV @aZ @Br (X2 @gU.eq_1 @dr)) ?_;intro K hK)|(refine hK _ ?_;clear hK K)|(refine Xi ?_ ?_<;>try intro ht)|refine Xy ?_|refine Xd ?_ ?_|exact Xx|fail)
   ((refine Va @dr ?_)<;>try with_reducible intro K hK)
   refine g9 [] hx aab trivial ⟨.pure rfl,dS.Ev vB⟩ ?_;simp(disch:=omega)only[Ac,↓Pc,simprocAttr,dr];have vr:=(aM.1 aP).1;cases kC:p x
   ·((try revert hK K);(repeat'(first|refine Va (X5 @aP @gp @fl @eV (X5 @Bs @gU.eq_1 @gr @kC (X2 @dr @m4))) ?_|(refine Xi ?_ ?_<;>try intro ht)|exact Xx|fail)))
    all_goals try(exfalso;simp_all;done)
    all_goals
     exact aq _ (j+1,i+1,Y.set i x,ob.set b (.arr 1 (rowsOf gU (Y.set i x)++rest))) ⟨aaK,aaK,by simpa using hY,by
      dsimp only;rw[ey,zi,iy,IW I6];simp[kC],λk hk=>by
      dsimp only at hk ⊢;rw[aA,bj I6,<- aA];exact mW k I6,(by have:=gY.step (.arr 1 (rowsOf gU (Y.set i x)++rest)) [];rwa [gb]at this),iH aP⟩ aaK (Xv @gU.eq_1)
   ·((try revert hK K);(repeat'(first|refine Va (X5 @aP @gp @fl @eV (X3 @kC @dr @lA)) ?_|(refine Xi ?_ ?_<;>try intro ht)|exact Xx|fail)))
    all_goals try(exfalso;simp_all;done)
    all_goals
     exact aq _ (j+1,i,Y,ob) ⟨aaK,aaK,hY,by
      dsimp only;rw[ey,zi,iy];simp[kC],λk hk=>mW k (by dsimp only at hk;omega),gY,by dsimp only;rw[nW];exact aP⟩ aaK (Xv @gU.eq_1)
  ·obtain rfl:j=xs.length:=I6;rw[um]at iy;((repeat'(first|refine Va (X2 @aP @eV) ?_|(refine Xi ?_ ?_<;>try intro ht)|exact Xx|fail)))
   refine au _ _ rfl ?_;clear aq au Ql;repeat(refine Xu ?_)
   have l8:=λy=>iH (y:=y) aP;have Bt:∀ row∈(rowsOf gU Y++rest).drop (i+(xs.length-i)),row.length=1:=λrow hr=>by
    rcases cj.1 (rO hr) with h|h
    ·exact eF _ row h
    ·exact hw row h
   refine Va (X5 @aP @eV @l8 @m0.{0,0} @fR.{0,0}) ?_;unfold fJ;simp only[dQ,dK];simp(disch:=omega)only[Ac,↓Pc,simprocAttr];rw[show ints (b6 (xs.length-i) 0)=b6 (xs.length-i) [AV.lit (.int .i64 0)] by simp[ints]];have l6:(xs.filter λx=>!p x).length=i:=by rw[iy,iL];omega
   refine⟨_,_,⟨by rw[l6],by have:=gY.step (.arr 1 ((rowsOf gU Y++rest).take i++b6 (xs.length-i) [aa3 0]++(rowsOf gU Y++rest).drop (i+(xs.length-i)))) [];rwa [gb]at this,b6 (xs.length-i) [aa3 0]++(rowsOf gU Y++rest).drop (i+(xs.length-i)),?_,λrow hr=>?_⟩,fB rfl (by rw[bE];exact gY.1) rfl⟩
   ·rw[l8,<- dC,iy];congr 4;unfold rowsOf;rw[xp,BH (by rw[ed];omega)]
   ·rcases cj.1 hr with h|h
    ·rw[zd h];rfl
    ·exact Bt row h
def Y'(xs:List Int)(h:0<xs.length)(hl:xs.length<549755813888):an Tryz.prog 110 [.tree 1 (ints xs)] [] (.ref 0 1 0 xs.length) [.arr 1 (ints xs)]:=by
 refine an.aF 8 0 [.tmp 2] Tryz.func110 ?_;((repeat'(first|refine Vb @zs ?_|(refine Xi ?_ ?_<;>try intro ht)|exact Xx|fail)))
 exact Xw false [1] X0
def Y9:an Tryz.prog 110 [.tree 1 []] [] (.tree 1 []) []:=by
 refine an.empty (pre:=[]) (post:=[]) (λa cap=>?_);rw[da];cases a with
 |none =>
  refine an.aF 8 0 [.tmp 2] Tryz.func110 ?_;((repeat'(first|refine Vb @Option.isNone_none.{0} ?_|(refine Xi ?_ ?_<;>try intro ht)|exact Xx|fail)))
  all_goals first|(refine du [] true aab trivial aab aab ?_;exact aE.nil)|(exfalso;simp at *;done)
 |some ad =>
  refine an.aF 8 0 [.tmp 2] Tryz.func110 ?_;refine tk aab ?_;intro K hK;simp(disch:=omega)only[Ac,↓Pc,simprocAttr];refine hK _ ?_;clear hK K;refine Wk ?_;intro Q hn he;((refine tk aab ?_);intro K hK;simp(disch:=omega)only[Ac,↓Pc,simprocAttr,Option.isNone_some];skip);(refine hK _ ?_;clear hK K)
  refine zD (t:=false) (by simp only[l9,Lc,↓reduceIte,xr,s0]) (λht=>by simp at ht) (λht=>?_);refine zC ?_;refine hn _ ?_;(try clear hn;try clear he;try clear Q;clear ht)
  refine bP (aB.CF 0 1 (by(simp only[l9,oB,Rc,↓reduceIte,xr,s0,ev,dM,St.put];exact rfl))) ?_;refine Vb (X3 @List.length_nil.{0} @gb.{0} @List.all_nil.{0}) ?_;refine du [] true aab trivial aab aab ?_;exact aE.bS (rows:=[]) rfl Jd rfl (gG aab) Jd
def ad9(xs:List Ct)(rest:List (List AV))(g:FuncId)(aT:List AV)(p:Ct->Bool)(os:List Ob)(b:Nat)(hb:os[b]?=some (.arr 4 (rowsOf aK xs++rest)))(hw:∀ row∈rest,row.length=4)(hl:xs.length<1000000)(vB:gF aT=true)(hg:∀ x∈xs,an Tryz.prog g ([.agg (aK x)]++aT) [] (.lit (.bool (p x))) []):
  ez Tryz.prog 49 [.ref b 4 0 xs.length,.fn g aT] os (λr ob=>r=.ref b 4 0 (xs.filter λx=>!p x).length/\kd b os ob/\∃ oy,ob[b]?=some (.arr 4 (rowsOf aK (xs.filter λx=>!p x)++oy))/\∀ row∈oy,row.length=4):=by
 have gx:=Rf xs g aT [] p I6 hg;have nq:=(aM.1 hb).1;have Bp:∀ row∈rowsOf aK xs++rest,row.length=4:=λrow hr=>by
  rcases cj.1 hr with h|h
  ·exact eF _ row h
  ·exact hw row h
 have kh:∀ e:Nat->AV,b9 ⟨e,os⟩ (·∈([]:List Nat)) (.tree 4 (rowsOf aK xs)) (.ref b 4 0 xs.length):=λe =>
  fL.bS (.inr ⟨b,rest,by rw[bW],aQ _,nq,hb,Bp⟩) (λi _ _=>Jd) (jh _)
 refine ez.aF 42 os.length [.tmp 4] Tryz.func49 ?_;((refine Va X0 ?_)<;>try with_reducible intro K hK)
 refine n6 [] gx aab trivial ⟨aE.snap _ _ rfl (kh _),.pure (by simpa [eO] using vB),trivial⟩ rfl Jd ?_;simp(disch:=omega)only[Ac,↓Pc,simprocAttr];by_cases rH:dV p 0 xs = -1
 ·have eA:=Et p xs 0 rH;rw[rH];((try revert hK K);(repeat'(first|refine Va X0 ?_|(refine Xi ?_ ?_<;>try intro ht)|exact Xx|fail)))
  unfold fJ;simp only[dQ,dK];simp(disch:=omega)only[Ac,↓Pc,simprocAttr];exact⟨_,_,⟨by rw[eA],kd.refl _ _,rest,by rw[eA];exact hb,hw⟩,fB rfl (aG _) rfl⟩
 ·obtain⟨i0,h1,h2,h3⟩:=Eu p xs 0 rH;rw[eW]at h1;rw[h1];clear gx kh;((try revert hK K);(repeat'(first|refine Va X0 ?_|(refine Xi ?_ ?_<;>try intro ht)|exact Xx|fail)))
  refine aW (λz:Nat×Nat×List Ct×List Ob=>(⟨ax [(0,.ref b 4 0 xs.length),(1,.fn g aT),(5,aa3 z.2.1),(6,aa3 z.1)],z.2.2.2⟩:St))
   (λz=>z.1<=xs.length/\z.2.1<z.1/\z.2.2.1.length=xs.length/\(xs.take z.1).filter (λx=>!p x)=z.2.2.1.take z.2.1/\(∀ k,z.1<=k->z.2.2.1.getD k default=xs.getD k default)/\kd b os z.2.2.2/\z.2.2.2[b]?=some (.arr 4 (rowsOf aK z.2.2.1++rest)))
   (λz=>xs.length-z.1) (i0+1,i0,xs,os) ⟨h2,m5 _,rfl,h3,λ_ _=>rfl,kd.refl _ _,hb⟩ (Xv X0) ?_
  rintro⟨j,i,Y,ob⟩⟨hj,pg,hY,iy,mW,gY,aP⟩Ql aq au;dsimp only at hj pg hY iy mW gY aP ⊢;have eV:(rowsOf aK Y++rest).length=xs.length+rest.length:=by rw[bR,bW,hY]
  have gp:=bC aP;have fl:=λl y=>gP aP l (y:=y);by_cases dG:j<xs.length
  ·have sE:=aC (l:=xs) (d:=default) dG;have hx:=hg _ sE;have aZ:(rowsOf aK Y++rest)[j]?=some (aK (xs.getD j default)):=by
    rw[cd (by rw[bW];omega),uL _ _ I6,mW j (aG _)]
   have Br:(rowsOf aK Y++rest).getD j []=aK (xs.getD j default):=by rw[aA,aZ];rfl
   have Bs:(rowsOf aK Y++rest)[i]?=some (aK (Y.getD i default)):=by
    rw[cd (by rw[bW];omega),uL _ _ I6]
   generalize Y.getD i default=y0 at *;have ey:=iB dG;generalize bG:xs.getD j default=x at *;simp only[cW,da,aK]at hx;have gr:(rowsOf aK Y++rest).set i [aa3 x.aV,.tree 3 (rowsOf gL x.aS),aa3 x.most,aa3 x.bM]=rowsOf aK (Y.set i x)++rest:=by
    rw[EX _ _ (by rw[bW];omega),<- x8];rfl
   generalize nW:rowsOf aK Y++rest=R at *;repeat'(first|((fail_if_success (first|refine eG 8 ?_|refine eH 8 ?_));refine Xr (X5 @aP @eV @aZ @Br (X2 @aK.eq_1 @dr)) ?_;intro K hK)|(refine hK _ ?_;clear hK K)|(refine Xi ?_ ?_<;>try intro ht)|refine Xy ?_|refine Xd ?_ ?_|exact Xx|fail)
   ((refine Va @dr ?_)<;>try with_reducible intro K hK)
   refine g9 [] hx aab trivial ⟨.pure rfl,dS.Ev vB⟩ ?_;simp(disch:=omega)only[Ac,↓Pc,simprocAttr,dr];have vr:=(aM.1 aP).1;cases kC:p x
   ·((try revert hK K);(repeat'(first|refine Va (X5 @aP @gp @fl @eV (X5 @Bs @aK.eq_1 @gr @kC (X2 @dr @m4))) ?_|(refine Xi ?_ ?_<;>try intro ht)|exact Xx|fail)))
    all_goals try(exfalso;simp_all;done)
    all_goals
     exact aq _ (j+1,i+1,Y.set i x,ob.set b (.arr 4 (rowsOf aK (Y.set i x)++rest))++[.var (aK x)]) ⟨aaK,aaK,by simpa using hY,by
      dsimp only;rw[ey,zi,iy,IW I6];simp[kC],λk hk=>by
      dsimp only at hk ⊢;rw[aA,bj I6,<- aA];exact mW k I6,gY.step _ _,bC (iH aP) _⟩ aaK (Xv @aK.eq_1)
   ·((try revert hK K);(repeat'(first|refine Va (X5 @aP @gp @fl @eV (X3 @kC @dr @lA)) ?_|(refine Xi ?_ ?_<;>try intro ht)|exact Xx|fail)))
    all_goals try(exfalso;simp_all;done)
    all_goals
     exact aq _ (j+1,i,Y,ob++[.var (aK x)]) ⟨aaK,aaK,hY,by
      dsimp only;rw[ey,zi,iy];simp[kC],λk hk=>mW k (by dsimp only at hk;omega),gY.app _,by dsimp only;rw[nW];exact bC aP _⟩ aaK (Xv @aK.eq_1)
  ·obtain rfl:j=xs.length:=I6;rw[um]at iy;((repeat'(first|refine Va (X2 @aP @eV) ?_|(refine Xi ?_ ?_<;>try intro ht)|exact Xx|fail)))
   refine au _ _ rfl ?_;clear aq au Ql;repeat(refine Xu ?_)
   have l8:=λy=>iH (y:=y) aP;have Bt:∀ row∈(rowsOf aK Y++rest).drop (i+(xs.length-i)),row.length=4:=λrow hr=>by
    rcases cj.1 (rO hr) with h|h
    ·exact eF _ row h
    ·exact hw row h
   refine Va (X5 @aP @eV @l8 @m0.{0,0} @fR.{0,0}) ?_;unfold fJ;simp only[dQ,dK];simp(disch:=omega)only[Ac,↓Pc,simprocAttr];have l6:(xs.filter λx=>!p x).length=i:=by rw[iy,iL];omega
   refine⟨_,_,⟨by rw[l6],by have:=gY.step (.arr 4 ((rowsOf aK Y++rest).take i++b6 (xs.length-i) [aa3 0,.lit (.slice none 0 0),aa3 0,aa3 0]++(rowsOf aK Y++rest).drop (i+(xs.length-i)))) [];rwa [gb]at this,b6 (xs.length-i) [aa3 0,.lit (.slice none 0 0),aa3 0,aa3 0]++(rowsOf aK Y++rest).drop (i+(xs.length-i)),?_,λrow hr=>?_⟩,fB rfl (by rw[bE];exact gY.1) rfl⟩
   ·rw[l8,<- dC,iy];congr 4;unfold rowsOf;rw[xp,BH (by rw[ed];omega)]
   ·rcases cj.1 hr with h|h
    ·rw[zd h];rfl
    ·exact Bt row h
def Vz(x:Int×Int):an Tryz.prog 48 [.agg (bz x)] [] (.lit (.bool (!jU x.2))) []:=by
 unfold jU;refine an.aF 6 0 [.tmp 2] Tryz.func48 ?_;refine Vb @bz.eq_1 ?_;exact aO rfl rfl
def aea(x:Ct):an Tryz.prog 50 [.agg (aK x)] [] (.lit (.bool (!jU x.bM))) []:=by
 unfold jU;refine an.aF 6 0 [.tmp 2] Tryz.func50 ?_;refine Vb @aK.eq_1 ?_;exact aO rfl rfl
def aeb(g:FuncId)(hg:∀ x:Int×Int,an Tryz.prog g [.agg (bz x)] [] (.lit (.bool (!jU x.2))) []):an Tryz.prog 47 [.tree 2 [],.fn g []] [] (.tree 2 []) []:=by
 have gx:=Vy [] g [] [] (λx=>!jU x.2) aab (λx hx=>by cases hx);rw[show dV (λx:Int×Int=>!jU x.2) 0 [] = -1 from rfl,show rowsOf bz []=[] from rfl]at gx;refine an.aF 42 0 [.tmp 4] Tryz.func47 ?_;((repeat'(first|refine Vd X0 gx ?_|(refine Xi ?_ ?_<;>try intro ht)|exact Xx|fail)))
 exact aO rfl rfl
def aec(o:br):il (fA o)=il o:=rfl
def aed(A:Nat->List AV)(C:Nat->AV){n k:Nat}(hk:k<n)(v:AV):((aN n).map λq=>A q++[C q]).set k (A k++[v])=(aN n).map λq=>A q++[if q=k then v else C q]:=by
 rw[abn];refine kG λq _=>?_;by_cases e:q=k
 ·subst e;rw[if_pos rfl,if_pos rfl]
 ·rw[if_neg e,if_neg e]
def VA{L:List br}{q:Nat}(hq:q<L.length):(L.map fA).getD q default=fA (L.getD q default):=ik _ _ _ hq
def aee{L:List br}{os:List Ob}{l r ac hi:Nat}{C:Nat->AV}(yW:ac<r)(h:cn 6 (λq=>tU (if q<L.length then(fA (L.getD q default)).ch else(L.getD q default).ch)) os ac l hi L.length (λq=>il (L.getD q default)) C):tW (L.map fA) os l r (.ref ac 6 0 L.length):=by
 refine⟨ac,hi,C,by rw[ed],yW,?_⟩;rw[ed];refine h.yL (λq hq=>?_) (λ_ _=>rfl) (λq hq os l r v hv=>?_)
 ·rw[VA hq,aec]
 ·rw[VA hq];rw[if_pos hq]at hv;exact hv
def NF(m:aj)(hm:VM m):an Tryz.prog 15 [.agg (av m)] [] (.bO [.agg (av (aH m)),aa3 0]) []:=by
 have h1:=p5 m hm.mb;rw[fc.2 hm]at h1;have VB:=ad3 m hm;have tE:=hm.cls;have ym:=hm.ae;have ht4:=hm.ar;refine an.aF 73 0 [.cell 2 29,.tmp 3] Tryz.func15 ?_;repeat'(first|((fail_if_success (first|refine eG 4 ?_|refine eH 4 ?_));refine Xq X0 ?_;intro K hK)|refine Xo X0 ?_|refine Xc (h1) ?_|(refine hK _ ?_;clear hK K)|(refine Xi ?_ ?_<;>try intro ht)|refine Xy ?_|exact Xx|fail)
 refine bP (aB.oo 1 0 (cells:=av m) aa2 (by simp only[Kc,simprocAttr]) (by simp[av])) ?_;refine bP (σ':=⟨ax [(1,.cq (av m)),(2,.ptr 0 0 0),(3,aa3 0)],[.var zM]⟩) (Xs false [1] @zM.eq_1) ?_;refine qW 1 aab _ rfl ?_;intro K hK;simp(disch:=omega)only[Ac,↓Pc,simprocAttr,mA,kH,av];refine⟨rfl,(show ma Tryz.prog 46 [.agg (av m)] (some 20) _ _ from ?_)⟩;refine uS VB ?_;rintro r os⟨f0,a,b,d,rfl,wc,C,l2,h2,C2,hC,hP,aft,hd,hbd⟩;refine⟨Nat.succ_le_of_lt (aM.1 f0).1,?_⟩;have afv:=(aM.1 f0).1;have aef:=hC.len;have aeg:=hP.len;have afw:=(aM.1 hd).1;simp(disch:=omega)only[Ac,↓Pc,simprocAttr,dr];refine hK _ ?_;clear hK K;repeat(refine Xu ?_)
 have gq:(os++[Ob.var [.ref a 1 0 m.cls.length,.ref b 4 0 m.ae.length,.ref d 4 0 m.ar.length,aa3 m.rules]])[os.length]?=some (.var [.ref a 1 0 m.cls.length,.ref b 4 0 m.ae.length,.ref d 4 0 m.ar.length,aa3 m.rules]):=lR _ _ _;have Ew:=cn.same (λc=>sM _) hC (eD.app (by have:=hC.at_;omega) [Ob.var [.ref a 1 0 m.cls.length,.ref b 4 0 m.ae.length,.ref d 4 0 m.ar.length,aa3 m.rules]] _) (cd aef);have IX:=cn.same (λc=>tV _) hP (eD.app (by have:=hP.at_;omega) [Ob.var [.ref a 1 0 m.cls.length,.ref b 4 0 m.ae.length,.ref d 4 0 m.ar.length,aa3 m.rules]] _) (cd aeg);have f1:=bC f0 [Ob.var [.ref a 1 0 m.cls.length,.ref b 4 0 m.ae.length,.ref d 4 0 m.ar.length,aa3 m.rules]];have gd:=bC hd [Ob.var [.ref a 1 0 m.cls.length,.ref b 4 0 m.ae.length,.ref d 4 0 m.ar.length,aa3 m.rules]];have hql:os.length+1<=(os++[Ob.var [.ref a 1 0 m.cls.length,.ref b 4 0 m.ae.length,.ref d 4 0 m.ar.length,aa3 m.rules]]).length:=Jd;clear hC hP f0 hd VB;have Vq:=Ew.at_;have Ep:=IX.at_;have Er:=IX.qh;generalize os++[Ob.var [.ref a 1 0 m.cls.length,.ref b 4 0 m.ae.length,.ref d 4 0 m.ar.length,aa3 m.rules]]=o1 at *;generalize os.length=q at *;have j3:=Ew.arr;refine bP (σ':=⟨ax [(2,.ptr 0 0 0),(5,.ptr q 0 0)],o1⟩) (Xv X0) ?_;refine Va (X2 @gq @j3) ?_;refine aW (λz:Nat×List Ob=>(⟨ax [(2,.ptr 0 0 0),(5,.ptr q 0 0),(22,.ref a 1 0 m.cls.length),(23,aa3 m.cls.length),(24,aa3 z.1)],z.2⟩:St))
  (λz=>z.1<=m.cls.length/\eD wc (q+1) o1 z.2/\z.2[0]?=some (.var zM)/\q+1<=z.2.length/\cn 1 (λc=>tW (if c<z.1 then(m.cls.getD c default).map fA else m.cls.getD c default)) z.2 a 1 wc m.cls.length (λ_=>[]) C)
  (λz=>m.cls.length-z.1) (0,o1) ⟨aQ _,λ_ _ _=>rfl,f1,hql,Ew⟩ (Xv X0) ?_
 rintro⟨i,ob⟩⟨hi,jl,k0,cr,Ex⟩Ql aq au;dsimp only at hi jl k0 cr Ex ⊢;by_cases hi':i<m.cls.length
 ·have gK:=aC (d:=default) hi';have vf:=hm.opt _ gK;have AW:=λo ho=>Vo hm gK (o:=o) ho;obtain⟨l,r,hl,hr,hO,x5⟩:=Ex.at (λc=>sM _) hi';have IY:tW (m.cls.getD i default) ob l r (C i):=by
   have:=hO;rw[if_neg (xq i)]at this;exact this
  clear hO;obtain⟨ac,hi3,CC,VC,yW,hR⟩:=IY;have afx:=hR.len;have afy:=hR.at_;have afz:=hR.qh;have rI:=Ex.arr;have sU:((aN m.cls.length).map λc=>([]:List AV)++[C c])[i]?=some [AV.ref ac 6 0 (m.cls.getD i default).length]:=by
   rw[o6 _ hi',VC];rfl
  have eV:=xg (λc=>([]:List AV)++[C c]) m.cls.length;have hr6:=hR.arr;generalize xV:(aN m.cls.length).map (λc=>([]:List AV)++[C c])=R1 at rI sU eV;generalize hLL:m.cls.getD i default=L at *;((repeat'(first|refine Va (X4 @rI @sU @eV @hr6) ?_|(refine Xi ?_ ?_<;>try intro ht)|exact Xx|fail)))
  refine aW (λz:Nat×List Ob=>(⟨ax [(2,.ptr 0 0 0),(5,.ptr q 0 0),(22,.ref a 1 0 m.cls.length),(23,aa3 m.cls.length),(24,aa3 i),(7,.ref ac 6 0 L.length),(28,.ref ac 6 0 L.length),(29,aa3 L.length),(30,aa3 z.1)],z.2⟩:St))
   (λz=>z.1<=L.length/\ob.length<=z.2.length/\(∀ j,j<ob.length->(j<l\/r<=j)->z.2[j]?=ob[j]?)/\∃ CC,cn 6 (λq=>tU (if q<z.1 then(fA (L.getD q default)).ch else(L.getD q default).ch)) z.2 ac l hi3 L.length (λq=>il (L.getD q default)) CC)
   (λz=>L.length-z.1) (0,ob) ⟨aQ _,aG _,λ_ _ _=>rfl,CC,hR⟩ (Xv X0) ?_
  rintro⟨k,ot⟩⟨hk,hlen,dE,CD,hS⟩eR bX bQ;dsimp only at hk hlen dE hS ⊢;by_cases aJ:k<L.length
  ·have dZ:=aC (l:=L) (d:=default) aJ;have cy:=AW _ dZ;obtain⟨l',r',g6,qz,hH,ael⟩:=hS.at (λq=>DQ _) aJ;have hH2:fL 2 ot l' r' (CD k) (rowsOf bz (L.getD k default).ch):=by
    have:=hH;unfold tU at this;rw[if_neg (xq k)]at this;exact this
   clear hH;have fl:=hS.len;have afA:=hS.at_;have Ey:=hS.arr;have ud:((aN L.length).map λq=>il (L.getD q default)++[CD q])[k]?=some (il (L.getD k default)++[CD k]):=o6 _ aJ;have Ez:=xg (λq=>il (L.getD q default)++[CD q]) L.length;have hRs:=λv=>aed (λq=>il (L.getD q default)) CD aJ v;have mg:∀ (v:AV) (o2:List Ob),fL 2 o2 l' r' v (rowsOf bz (fA (L.getD k default)).ch)->(∀ j,j<ot.length->(j<l'\/r'<=j)->o2[j]?=ot[j]?)->ot.length<=o2.length->∀ st,
     aB 0 st ⟨ax [(2,.ptr 0 0 0),(5,.ptr q 0 0),(22,.ref a 1 0 m.cls.length),(23,aa3 m.cls.length),(24,aa3 i),(7,.ref ac 6 0 L.length),(28,.ref ac 6 0 L.length),(29,aa3 L.length),(30,aa3 (k+1:Nat))],o2.set ac (.arr 6 (((aN L.length).map λq=>il (L.getD q default)++[CD q]).set k (il (L.getD k default)++[v])))⟩->eR .normal st:=by
    intro v o2 hv qo nu st ey;rw[hRs]at ey;refine bX st (k+1,o2.set ac (.arr 6 ((aN L.length).map λq=>il (L.getD q default)++[if q=k then v else CD q]))) ⟨aJ,by dsimp only;rw[bE];omega,λj h1 h2=>?_,λq=>if q=k then v else CD q,?_⟩ aaK ey
    ·dsimp only;rw[bj I6,qo j I6 I6];exact dE j h1 h2
    ·refine ael _ v _ ?_ ?_ (λj h1 h2 h3=>?_) (λj h1 h2 os l r w hw=>?_)
     ·exact EU I6
     ·show tU _ _ _ _ _;rw[if_pos (m5 k)];exact fL.same hv (eD.set (.inr I6) _)
     ·rw[bj I6];exact qo j I6 h3
     ·show tU _ _ _ _ _;by_cases e:j<k
      ·rw[if_pos e]at hw;rw[if_pos I6];exact hw
      ·rw[if_neg e]at hw;rw[if_neg I6];exact hw
   generalize me:L.getD k default=o at *;have IZ:il o=[aa3 o.wk,aa3 o.day,aa3 o.st,aa3 o.len,aa3 o.room]:=rfl;rw[IZ]at ud;generalize nW:(aN L.length).map (λq=>il (L.getD q default)++[CD q])=R6 at *;rcases hH2 with⟨hv,hx⟩|⟨bc,rest,hv,I0,vj,yQ,y7⟩
   ·have jx:=aeb 48 Vz;rw[hv,hx]at ud;simp only[cW,da]at ud;have Bn:o.ch=[]:=by
     have:=congrArg rS hx;rw[bW]at this;exact oO this
    ((repeat'(first|refine Vc (X3 @Ey @ud @Ez) jx ?_|(refine Xi ?_ ?_<;>try intro ht)|exact Xx|fail)))
    exact mg (.tree 2 []) ot (.inl ⟨by unfold fA;rw[Bn];rfl,by unfold fA;rw[Bn];rfl⟩) (λ_ _ _=>rfl) (aG _) _ (by rw[IZ];exact Xv X0)
   ·have jx:=ad8 o.ch rest 48 [] (λc=>!jU c.2) ot bc yQ (λrow hr=>y7 row (by simp[hr])) I6 rfl (λx _=>Vz x);have I1:(o.ch.filter λx=>!(λc:Int×Int=>!jU c.2) x)=(fA o).ch:=by
     unfold fA;dsimp only;congr 1;funext x;exact Bool.not_not _
    rw[I1]at jx;rw[hv,bW]at ud;simp only[cW,da]at ud;repeat'(first|((fail_if_success (first|refine eG 11 ?_|refine eH 11 ?_));refine Xr (X3 @Ey @ud @Ez) ?_;intro K hK)|(refine hK _ ?_;clear hK K)|(refine Xi ?_ ?_<;>try intro ht)|refine Xy ?_|exact Xx|fail)
    refine qW 7 aab _ rfl ?_;intro K hK;simp(disch:=omega)only[Ac,↓Pc,simprocAttr,mA,kH,Ey,ud,Ez];refine⟨⟨I6,I6⟩,rfl,(show ma Tryz.prog 47 [.ref bc 2 0 o.ch.length,.fn 48 []] (some 40) _ _ from ?_)⟩;refine uS jx ?_;rintro r1 o2⟨rfl,q6,oy,aP,nw⟩;refine⟨q6.1,?_⟩;have aeo:o2[ac]?=some (.arr 6 R6):=(q6.2 ac I6 fl).trans Ey;simp(disch:=omega)only[Ac,↓Pc,simprocAttr,aeo,ud,Ez];refine⟨⟨I6,I6⟩,hK _ ?_⟩;clear hK K;repeat(refine Xu ?_)
    refine Va X0 ?_;exact mg (.ref bc 2 0 (fA o).ch.length) o2 (.inr ⟨bc,oy,by rw[bW],I0,vj,aP,λrow hr=>by
     rcases cj.1 hr with h|h
     ·exact eF _ row h
     ·exact nw row h⟩) (λj h1 h2=>q6.2 j I6 h1) q6.1 _ (by rw[IZ];exact Xv X0)
  ·obtain rfl:k=L.length:=I6;((repeat'(first|refine Va X0 ?_|(refine Xi ?_ ?_<;>try intro ht)|exact Xx|fail)))
   refine bQ _ _ rfl ?_;clear bX bQ;repeat(refine Xu ?_)
   refine Va X0 ?_;have fV:=(x5 (λc=>tW (if c<i+1 then(m.cls.getD c default).map fA else m.cls.getD c default)) (C i) ot (by
     rw[dE a I6 I6,rI,<- xV];congr 2;refine kG λj _=>?_;by_cases e:j=i
     ·rw[if_pos e,e]
     ·rw[if_neg e]) (by
     rw[if_pos (m5 i),hLL,VC];exact aee yW hS) (λj h1 h2 h3=>dE j I6 h3) (λj h1 h2 os l r w hw=>by
     by_cases e:j<i
     ·rw[if_pos e]at hw;rw[if_pos I6];exact hw
     ·rw[if_neg e]at hw;rw[if_neg I6];exact hw)).yL (C':=C) (Pd':=λc=>tW (if c<i+1 then(m.cls.getD c default).map fA else m.cls.getD c default)) (A':=λ_=>[]) (λ_ _=>rfl) (λj _=>by
     by_cases e:j=i
     ·rw[if_pos e,e]
     ·rw[if_neg e]) (λ_ _ _ _ _ _ h=>h)
   exact aq _ (i+1,ot) ⟨aaK,λj h1 h2=>(dE j I6 I6).trans (jl j h1 h2),(dE 0 I6 I6).trans k0,aaK,fV⟩ aaK (Xv X0)
 obtain rfl:i=m.cls.length:=I6;((repeat'(first|refine Va X0 ?_|(refine Xi ?_ ?_<;>try intro ht)|exact Xx|fail)))
 refine au _ _ rfl ?_;clear aq au Ql;repeat(refine Xu ?_)
 clear Ew j3;have VE:=(jl q I6 I6).trans gq;have gd1:=(jl d I6 I6).trans gd;have VF:=cn.same (λc=>tV _) IX (jl.mono I6 I6) (jl b I6 I6);have mL:=VF.arr;have afB:=xg (λi=>iY (m.ae.getD i default)++[C2 i]) m.ae.length;refine Va (X2 @VE @mL) ?_;refine aW (λz:Nat×List Ob=>(⟨ax [(2,.ptr 0 0 0),(5,.ptr q 0 0),(46,.ref b 4 0 m.ae.length),(47,aa3 m.ae.length),(48,aa3 z.1)],z.2⟩:St))
  (λz=>z.1<=m.ae.length/\eD 0 l2 ob z.2/\eD h2 (q+1) ob z.2/\q+1<=z.2.length/\cn 4 (λc=>sL (if c<z.1 then(gZ (m.ae.getD c default)).ay else(m.ae.getD c default).ay)) z.2 b l2 h2 m.ae.length (λc=>iY (m.ae.getD c default)) C2)
  (λz=>m.ae.length-z.1) (0,ob) ⟨aQ _,λ_ _ _=>rfl,λ_ _ _=>rfl,cr,VF⟩ (Xv X0) ?_
 rintro⟨i,ot⟩⟨hi,kf,jc,hlen,Bu⟩Ql aq au;dsimp only at hi kf jc hlen Bu ⊢;by_cases hi':i<m.ae.length
 ·have w5:=aC (l:=m.ae) (d:=default) hi';have cE:=IQ hm w5;obtain⟨l,r,hl,hr,hO,x5⟩:=Bu.at (λc=>tV _) hi';have IY:fL 1 ot l r (C2 i) (ints (m.ae.getD i default).ay):=by
   have:=hO;unfold sL at this;rw[if_neg (xq i)]at this;exact this
  clear hO;have rI:=Bu.arr;have aeq:=Bu.len;have sU:((aN m.ae.length).map λc=>iY (m.ae.getD c default)++[C2 c])[i]?=some (iY (m.ae.getD i default)++[C2 i]):=o6 _ hi';have eV:=xg (λc=>iY (m.ae.getD c default)++[C2 c]) m.ae.length;have mg:∀ o2:List Ob,fL 1 o2 l r (C2 i) (ints (gZ (m.ae.getD i default)).ay)->(∀ j,j<ot.length->(j<l\/r<=j)->o2[j]?=ot[j]?)->ot.length<=o2.length->∀ st,
    aB 0 st ⟨ax [(2,.ptr 0 0 0),(5,.ptr q 0 0),(46,.ref b 4 0 m.ae.length),(47,aa3 m.ae.length),(48,aa3 (i+1:Nat))],o2⟩->Ql .normal st:=by
   intro o2 hv qo nu st ey;have fV:=(x5 (λc=>sL (if c<i+1 then(gZ (m.ae.getD c default)).ay else(m.ae.getD c default).ay)) (C2 i) o2 (by
     rw[qo b aeq I6,rI];congr 2;refine kG λj _=>?_;by_cases e:j=i
     ·rw[if_pos e,e]
     ·rw[if_neg e]) (by
     show sL _ _ _ _ _;rw[if_pos (m5 i)];exact hv) (λj h1 h2 h3=>qo j I6 h3) (λj h1 h2 os l r w hw=>by
     show sL _ _ _ _ _;by_cases e:j<i
     ·rw[if_pos e]at hw;rw[if_pos I6];exact hw
     ·rw[if_neg e]at hw;rw[if_neg I6];exact hw)).yL (C':=C2) (Pd':=λc=>sL (if c<i+1 then(gZ (m.ae.getD c default)).ay else(m.ae.getD c default).ay)) (A':=λc=>iY (m.ae.getD c default)) (λ_ _=>rfl) (λj _=>by
     by_cases e:j=i
     ·rw[if_pos e,e]
     ·rw[if_neg e]) (λ_ _ _ _ _ _ h=>h)
   exact aq st (i+1,o2) ⟨hi',λj h1 h2=>(qo j I6 I6).trans (kf j h1 h2),λj h1 h2=>(qo j I6 I6).trans (jc j h1 h2),aaK,fV⟩ aaK ey
  clear x5;generalize cG:m.ae.getD i default=p at *;have Da:iY p=[aa3 p.fst,aa3 p.snd,aa3 p.aV]:=rfl;rw[Da]at sU;simp only[cW,da]at sU;generalize nW:(aN m.ae.length).map (λc=>iY (m.ae.getD c default)++[C2 c])=R2 at *;rcases IY with⟨hv,hx⟩|⟨tb,rest,hv,I0,vj,yQ,y7⟩
  ·have ht0:p.ay=[]:=by
    have:=congrArg rS hx;rw[ni]at this;exact oO this
   rw[hv]at sU;rw[ht0]at sU;((repeat'(first|refine Va (X4 @rI @sU @eV @dr) ?_|(refine Xi ?_ ?_<;>try intro ht)|exact Xx|fail)))
   refine aW (λz:Unit=>(⟨ax [(2,.ptr 0 0 0),(5,.ptr q 0 0),(46,.ref b 4 0 m.ae.length),(47,aa3 m.ae.length),(48,aa3 i),(54,aa3 0),(55,aa3 0)],ot++[.var [aa3 p.fst,aa3 p.snd,aa3 p.aV,.tree 1 (ints [])]]⟩:St)) (λ_=>True) (λ_=>0) () trivial (Xv X0) ?_;rintro⟨⟩_ eR bX bQ;((repeat'(first|refine Va X0 ?_|(refine Xi ?_ ?_<;>try intro ht)|exact Xx|fail)))
   refine bQ _ _ rfl ?_;clear bX bQ;repeat(refine Xu ?_)
   refine Va X0 ?_;refine mg (ot++[.var [aa3 p.fst,aa3 p.snd,aa3 p.aV,.tree 1 (ints [])]]) (.inl ⟨?_,?_⟩) (λj h1 _=>cd h1) Jd _ (Xv X0)
   ·rw[hv,ht0];unfold gZ;rw[ht0];rfl
   ·unfold gZ;rw[ht0];rfl
  ·rw[ni]at hv;rw[hv]at sU;have yR:=(aM.1 yQ).1;have VG:=bC yQ;((repeat'(first|refine Va (X5 @rI @sU @eV @dr @VG) ?_|(refine Xi ?_ ?_<;>try intro ht)|exact Xx|fail)))
   have m6:(ot++[Ob.var [aa3 p.fst,aa3 p.snd,aa3 p.aV,.ref tb 1 0 p.ay.length]])[ot.length]?=some (.var [aa3 p.fst,aa3 p.snd,aa3 p.aV,.ref tb 1 0 p.ay.length]):=lR _ _ _;refine aW (λz:Nat×List Int×List Ob=>(⟨ax [(2,.ptr 0 0 0),(5,.ptr q 0 0),(46,.ref b 4 0 m.ae.length),(47,aa3 m.ae.length),(48,aa3 i),(10,.ptr ot.length 0 0),(53,.ref tb 1 0 p.ay.length),(54,aa3 p.ay.length),(55,aa3 z.1)],z.2.2⟩:St))
    (λz=>z.1<=p.ay.length/\z.2.1.length=p.ay.length/\(∀ j,j<p.ay.length->z.2.1.getD j 0=if j<z.1 then kY (p.ay.getD j 0) else p.ay.getD j 0)/\kd tb (ot++[Ob.var [aa3 p.fst,aa3 p.snd,aa3 p.aV,.ref tb 1 0 p.ay.length]]) z.2.2/\z.2.2[tb]?=some (.arr 1 (ints z.2.1++rest)))
    (λz=>p.ay.length-z.1) (0,p.ay,ot++[Ob.var [aa3 p.fst,aa3 p.snd,aa3 p.aV,.ref tb 1 0 p.ay.length]]) ⟨aQ _,rfl,λ_ _=>Jd,kd.refl _ _,VG _⟩ (Xv X0) ?_
   rintro⟨k,X,ox⟩⟨hk,hX,fD,gY,aP⟩eR bX bQ;dsimp only at hk hX fD gY aP ⊢;have zJ:ox[ot.length]?=some (.var [aa3 p.fst,aa3 p.snd,aa3 p.aV,.ref tb 1 0 p.ay.length]):=(gY.2 _ I6 Jd).trans m6;by_cases aJ:k<p.ay.length
   ·have aZ:(ints X++rest)[k]?=some [aa3 (p.ay.getD k 0)]:=by
     have h5:=fD k aJ;rw[if_neg (xq k)]at h5;rw[cd (by rw[ni];omega),<- h5];unfold ints;rw[cg,aA,bT I6];rfl
    have cD:(ints X++rest).length=p.ay.length+rest.length:=by rw[bR,ni,hX]
    have gr:(ints X++rest).set k [aa3 0]=ints (X.set k 0)++rest:=by
     rw[EX _ _ (by rw[ni];omega)];unfold ints;rw[<- List.map_set]
    generalize bG:p.ay.getD k 0=x at *;have CP:∀ j,j<p.ay.length->j≠k->X.getD j 0=if j<k+1 then kY (p.ay.getD j 0) else p.ay.getD j 0:=λj h1 h2=>by
     rw[fD j h1];by_cases e:j<k
     ·rw[if_pos e,if_pos I6]
     ·rw[if_neg e,if_neg I6]
    by_cases hF:x=1099511627776
    ·((repeat'(first|refine Va (X4 @zJ @aP @aZ @cD) ?_|(refine Xi ?_ ?_<;>try intro ht)|exact Xx|fail)))
     all_goals try(exfalso;simp_all;done)
     all_goals
      refine bX _ (k+1,X,ox) ⟨aJ,hX,λj hj=>?_,gY,aP⟩ aaK (Xv X0);by_cases e:j=k
      ·subst e;have:=fD j hj;dsimp only;rw[this,bG,if_neg (xq _),if_pos (m5 _),hF];rfl
      ·exact CP j hj e
    ·((repeat'(first|refine Va (X5 @zJ @aP @aZ @cD @gr) ?_|(refine Xi ?_ ?_<;>try intro ht)|exact Xx|fail)))
     all_goals try(exfalso;simp_all;done)
     all_goals
      refine bX _ (k+1,X.set k 0,ox.set tb (.arr 1 (ints (X.set k 0)++rest))) ⟨aJ,by dsimp only;rw[bE];exact hX,λj hj=>?_,by have:=gY.step (.arr 1 (ints (X.set k 0)++rest)) [];rwa [gb]at this,iH aP⟩ aaK (Xv X0);dsimp only;by_cases e:j=k
      ·subst e;rw[aA,EU I6,bG,if_pos (m5 _)];unfold kY;rw[if_neg hF];rfl
      ·rw[aA,bj (Ne.symm e),<- aA];exact CP j hj e
   ·obtain rfl:k=p.ay.length:=I6;((repeat'(first|refine Va X0 ?_|(refine Xi ?_ ?_<;>try intro ht)|exact Xx|fail)))
    refine bQ _ _ rfl ?_;clear bX bQ;repeat(refine Xu ?_)
    refine Va X0 ?_;have hXe:X=p.ay.map kY:=by
     apply List.ext_getElem?;intro j;by_cases e:j<p.ay.length
     ·have:=fD j e;rw[if_pos e,aA,aA,bT I6,bT e]at this;rw[cg,bT I6,bT e];simpa using this
     ·rw[eE I6,eE (by simpa using e)]
    refine mg ox ?_ (λj h1 h2=>(gY.2 j I6 aaZ).trans (cd h1)) (by have:=gY.1;simp at this;omega) _ (Xv X0);refine .inr ⟨tb,rest,?_,I0,vj,?_,λrow wD=>?_⟩
    ·rw[hv,ni];unfold gZ;simp
    ·rw[aP,hXe];rfl
    ·rcases cj.1 wD with h|h
     ·exact pO _ row h
     ·exact y7 row (by simp[h])
 obtain rfl:i=m.ae.length:=I6;((repeat'(first|refine Va X0 ?_|(refine Xi ?_ ?_<;>try intro ht)|exact Xx|fail)))
 refine au _ _ rfl ?_;clear aq au Ql;repeat(refine Xu ?_)
 have VH:=(jc q I6 I6).trans VE;have gd2:=(jc d I6 I6).trans gd1;have k2:=(kf 0 I6 I6).trans k0;have VI:=cn.same (λc=>sM _) Ex (kf.mono I6 I6) (kf a I6 I6);have VJ:=ad9 m.ar [] 50 [] (λc=>!jU c.bM) ot d (by rw[gb];exact gd2) (λrow hr=>by cases hr) I6 rfl (λx _=>aea x);have I1:(m.ar.filter λx=>!(λc:Ct=>!jU c.bM) x)=(aH m).ar:=by
  unfold aH;dsimp only;congr 1;funext x;exact Bool.not_not _
 rw[I1]at VJ;refine Xy ?_;refine qW 2 aab _ rfl ?_;intro K hK;simp(disch:=omega)only[Ac,↓Pc,simprocAttr,mA,kH,VH];refine⟨rfl,(show ma Tryz.prog 49 [.ref d 4 0 m.ar.length,.fn 50 []] (some 70) _ _ from ?_)⟩;refine uS VJ ?_;rintro r1 o2⟨rfl,q6,oy,aP,nw⟩;refine⟨q6.1,?_⟩;have VK:o2[q]?=_:=(q6.2 q I6 I6).trans VH;have k3:o2[0]?=_:=(q6.2 0 I6 I6).trans k2;have VL:=λy=>iH (y:=y) VK;simp(disch:=omega)only[Ac,↓Pc,simprocAttr,VK,VL];refine hK _ ?_;clear hK K;repeat(refine Xu ?_)
 have sB:=(aM.1 aP).1;have k4:∀ Y,(o2.set q Y)[0]?=some (.var zM):=λY=>(bj I6).trans k3;have hS:∀ (Y Z:Ob) (lo hi:Nat),1<=lo->hi<=d->eD lo hi ot ((o2.set q Y).set 0 Z):=λY Z lo hi h1 h2 j j1 j2=>by
  rw[bj I6,bj I6];exact q6.2 j I6 I6
 have hfC:∀ Y Z,yM (aH m).cls ((o2.set q Y).set 0 Z) a 1 wc (aH m).cls.length C:=λY Z=>by
  unfold yM;rw[oz];refine cn.yL (cn.same (λc=>sM _) VI (hS Y Z _ _ (aG _) I6) (hS Y Z a (a+1) (by have:=VI.qh;omega) I6 a (aG _) (m5 _))) (λ_ _=>rfl) (λ_ _=>rfl) (λc hc os l r v hv=>?_);rw[if_pos hc]at hv;have e:(aH m).cls.getD c default=(m.cls.getD c default).map fA:=ik _ _ _ hc;rw[e];exact hv
 have hfP:∀ Y Z,AP (aH m).ae ((o2.set q Y).set 0 Z) b l2 h2 (aH m).ae.length C2:=λY Z=>by
  unfold AP;rw[show(aH m).ae.length=m.ae.length by simp[aH]];refine cn.yL (cn.same (λc=>tV _) Bu (hS Y Z _ _ I6 I6) (hS Y Z b (b+1) I6 I6 b (aG _) (m5 _))) (λc hc=>?_) (λ_ _=>rfl) (λc hc os l r v hv=>?_)
  ·have e:(aH m).ae.getD c default=gZ (m.ae.getD c default):=ik _ _ _ hc;rw[e];rfl
  ·have n7:sL _ os l r v:=hv;rw[if_pos hc]at n7;have e:(aH m).ae.getD c default=gZ (m.ae.getD c default):=ik _ _ _ hc;rw[e];exact n7
 have hfD:∀ Y Z,fL 4 ((o2.set q Y).set 0 Z) d (d+1) (.ref d 4 0 (aH m).ar.length) (rowsOf aK (aH m).ar):=λY Z =>
  .inr ⟨d,oy,by rw[bW],aG _,m5 _,by rw[bj I6,bj I6];exact aP,λrow hr=>by
   rcases cj.1 hr with h|h
   ·exact eF _ row h
   ·exact nw row h⟩
 have si:(aH m).ae.length=m.ae.length:=by simp[aH]
 have k5:=λY Z=>iH (y:=Z) (k4 Y);refine Vb (X3 @VL @k4 @zM.eq_1) ?_;simp(disch:=omega)only[Ac,↓Pc,simprocAttr,rowOf,k5];refine du [] true aab trivial aab aab (aE.qF (aE.agg _ _ rfl (dS.spec (R:=aE _ _ _ _) (cs:=av (aH m)) (ds:=[.ref a 1 0 m.cls.length,.ref b 4 0 m.ae.length,.ref d 4 0 (aH m).ar.length,aa3 m.rules]) ⟨.snap _ _ rfl ?_,.snap _ _ rfl ?_,.snap _ _ rfl ?_,.pure rfl,trivial⟩).2) (.pure rfl))
 ·rw[<- oz m];exact abp (hfC _ _) (λi _ _=>gG Jd)
 ·rw[<- si];exact abq (hfP _ _) (λi _ _=>gG Jd)
 ·exact fL.bS (hfD _ _) (λi _ _=>gG Jd) (jh _)
end T

