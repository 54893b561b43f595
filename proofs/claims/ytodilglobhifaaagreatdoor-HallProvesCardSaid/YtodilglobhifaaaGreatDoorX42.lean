import Derived.Test.YtodilglobhifaaaGreatDoorX40
import Derived.Test.YtodilglobhifaaaGreatDoorX41
set_option linter.all false
set_option maxHeartbeats 0
set_option maxRecDepth 20000
open List renaming take→jg,drop→fW,length_take→fE,mem_singleton→bK,take_of_length_le→fD,all_eq_true→eS,replicate→aD,map_take→yX,map_append→iJ,map_replicate→E5,length_replicate→w6,mem_reverse→JM,flatMap_cons→qW,length→E6,length_map→eA,getElem?_eq_getElem→aT,getD_eq_getElem?_getD→ax,length_append→aK
open Nat renaming zero_le→aS,min_eq_left→ud
open Go Go.Am Go.Proofs
namespace T
def LG.mono{m:ah}{B C:Int}{g:Lg}(h:LG m B g)(hc:B<=C):LG m C g:=⟨h.s,h.t,h.sl,h.tl,λr hr=>(h.sb r hr).mono hc,λr hr=>(h.tb r hr).mono hc⟩
def aay(m:ah)(left:List (List Bool))(l:List Mv)(hm:VM m)(hf:iP m left)(hl:l.length<9223372036854775808):ak Tryz.prog 41 [.agg (aB m),.tree 1 (rowsOf bl left),.tree 4 (rowsOf cu l)] [] (.bH [aam (we m left l).1,aam (we m left l).2]) []:=by
 generalize aq:we m left l=res;unfold we at aq;refine ak.aL 33 0 [.tmp 6,.tmp 7] Tryz.func41 ?_;by_cases hlen:2000<l.length
 ·rw[if_pos hlen]at aq;subst aq;((repeat'(first|refine Vb X0 ?_|(refine Xi ?_ ?_<;>try intro ht)|exact Xx|fail)))
  all_goals exact aQ rfl rfl
 rw[if_neg hlen]at aq;repeat'(first|((fail_if_success (first|refine gx 3 ?_|refine gy 3 ?_));refine Xr X0 ?_;intro K hK)|(refine hK _ ?_;clear hK K)|(refine Xi ?_ ?_<;>try intro ht)|refine XY ?_|exact Xx|fail)
 refine pe 1 aac _ rfl ?_;intro K hK;simp(disch:=omega)only[Ac,↓Pc,simprocAttr,jg,fW];refine⟨rfl,(show jS Tryz.prog 87 [.agg (aB m)] (some 15) _ _ from ?_)⟩;refine rL (aaz hm [.var (aB m)]) ?_;rintro r os⟨gi,ai,bi,D,E,rfl,tG,bh⟩;refine⟨bh.len,?_⟩;have f0:=bh 0 _ rfl;simp(disch:=omega)only[Ac,↓Pc,simprocAttr,fW];refine hK _ ?_;clear hK K;repeat(refine Xu ?_)
 refine Va X0 ?_;refine aW (λz:Nat×List Ob=>(⟨ao [(1,.tree 1 (rowsOf bl left)),(8,.ptr gi 0 0),(16,.tree 4 (rowsOf cu l)),(17,aam l.length),(18,aam z.1)],z.2⟩:St))
  (λz=>z.1<=l.length/\LO aP (GB m gi ai bi D E) D E (kT m (l.take z.1) (S0 m,T0 m)).1 (kT m (l.take z.1) (S0 m,T0 m)).2 z.2/\∀ x∈l.take z.1,lF m x=true)
  (λz=>l.length-z.1) (0,os) ⟨aS _,tG,Jy⟩ (Xv X0) ?_
 clear tG bh f0;rintro⟨i,ob⟩⟨hi,tG,hall⟩Ql an aw;dsimp only at hi tG hall ⊢;have tH:=(Rr hm (l.take i) hall);rw[fE,ud hi]at tH;by_cases hi':i<l.length
 ·have lI:kT m (l.take (i+1)) (S0 m,T0 m)=jK m (l.getD i default) (kT m (l.take i) (S0 m,T0 m)):=by rw[jb hi',Zl]
  have lV:=jb hi';have bP:=aF (d:=default) hi';generalize kT m (l.take i) (S0 m,T0 m)=g at *;generalize br:l.getD i default=x at *;have hval:=aaA hm (tG.app [.var (cu x)]) tH x;have aeM:ob.length<(ob++[Ob.var (cu x)]).length:=Jy;have hvx:(ob++[Ob.var (cu x)])[ob.length]?=some (.var (cu x)):=jH _ _ _;repeat'(first|((fail_if_success (first|refine gx 7 ?_|refine gy 7 ?_));refine Xr (X3 @br @cu.eq_1 @a8) ?_;intro K hK)|(refine hK _ ?_;clear hK K)|(refine Xi ?_ ?_<;>try intro ht)|refine Xy ?_|refine Xd ?_ ?_|exact Xx|fail)
  refine pe 2 aac _ rfl ?_;intro K hK;simp(disch:=omega)only[Ac,↓Pc,simprocAttr,jg,fW,a8];refine⟨rfl,(show jS Tryz.prog 88 [.ptr gi 0 0,.agg (cu x)] (some 24) _ _ from ?_)⟩;refine rL hval ?_;rintro r tI⟨rfl,lx,rfl⟩;refine⟨Jy,?_⟩;simp(disch:=omega)only[Ac,↓Pc,simprocAttr,fW];refine hK _ ?_;clear hK K;repeat(refine Xu ?_)
  by_cases hx:lF m x=true
  ·rw[hx];have hmv:=aaD hm (tG.app (.var (cu x)::lx)) (B:=1099511627776+268435456*25*i) Bv tH x hx;have evx:=aA hvx;repeat'(first|(refine Xi ?_ ?_<;>try intro ht)|refine Xy ?_|exact Xx|fail)
   refine pe 2 aac _ rfl ?_;intro K hK;simp(disch:=omega)only[Ac,↓Pc,simprocAttr,jg,fW,a8,cu,List.append_assoc];refine⟨rfl,(show jS Tryz.prog 89 [.ptr gi 0 0,.agg (cu x)] (some 28) _ _ from ?_)⟩;refine rL hmv ?_;rintro r yi⟨rfl,tJ,rK⟩;refine⟨rK,?_⟩;simp(disch:=omega)only[Ac,↓Pc,simprocAttr,fW];refine hK _ ?_;clear hK K;repeat(refine Xu ?_)
   refine Va X0 ?_;refine an _ (i+1,yi) ⟨aad,by rw[lI];exact tJ,λy hy=>by
    dsimp only at hy;rw[lV]at hy;rcases List.mem_append.1 hy with hy|hy
    ·exact hall y hy
    ·simp only[bK]at hy;subst hy;exact hx⟩ aad ?_
   exact Xv X0
  ·have bR:lF m x=false:=by simpa using hx
   rw[bR];rw[if_pos (by rw[List.all_eq_false];exact⟨x,bP,hx⟩)]at aq;((repeat'(first|refine Va @Bool.not_false ?_|(refine Xi ?_ ?_<;>try intro ht)|exact Xx|fail)))
   repeat(refine Xu ?_)
   refine Vb X0 ?_;exact aQ rfl (by rw[<- aq])
 ·rw[fD Bv]at tG tH hall;rw[if_neg (by rw[Bool.not_eq_false];exact eS.2 hall)]at aq;generalize kT m l (S0 m,T0 m)=g at *;obtain⟨g1,g2⟩:=g;dsimp only at tG;have hval:=aaE hm tG (tH.mono (by unfold uN;omega)) hf;((repeat'(first|refine Va X0 ?_|(refine Xi ?_ ?_<;>try intro ht)|exact Xx|fail)))
  refine aw _ _ rfl ?_;clear an aw Ql;repeat(refine Xu ?_)
  refine Xy ?_;refine pe 2 aac _ rfl ?_;intro K hK;simp(disch:=omega)only[Ac,↓Pc,simprocAttr,jg,fW];refine⟨rfl,(show jS Tryz.prog 90 [.ptr gi 0 0,.tree 1 (rowsOf bl left)] (some 32) _ _ from ?_)⟩;refine rL hval ?_;rintro r yi⟨rfl,rK⟩;refine⟨rK,?_⟩;simp(disch:=omega)only[Ac,↓Pc,simprocAttr,fW];refine hK _ ?_;clear hK K;repeat(refine Xu ?_)
  subst aq;refine Vb X0 ?_;exact aQ rfl rfl
def kB(b:Bool):List AV:=[.lit (.bool b)]
instance:Row kB 1:=⟨λ_=>rfl,λb v hv=>by
 simp only[kB,bK]at hv;subst hv;exact .inl ⟨_,rfl,rfl⟩⟩
def aaF(xs:List Bool):rowsOf kB xs=b8 xs:=by simp[rowsOf,kB,b8]
def oM(n i:Nat)(s:Bool):List Bool:=aD i s++aD (n-i) false
def aaG{n i j:Nat}{s:Bool}(h:j<=i):(rowsOf kB (oM n i s)).take j=rowsOf kB (aD j s):=by
 unfold oM rowsOf;rw[<- yX,List.take_append_of_le_length aak,List.take_replicate,ud h]
def aaH{n i j:Nat}{s:Bool}(h:i+j<=n)(hj:j<=i):rowsOf kB (aD i s)++jg j (rowsOf kB (aD i s))++fW (i+j) (rowsOf kB (oM n i s))=rowsOf kB (oM n (i+j) s):=by
 unfold oM rowsOf;rw[<- yX,<- List.map_drop,<- iJ,<- iJ,List.take_replicate,ud hj,List.drop_append,List.drop_eq_nil_of_le Jy,List.drop_replicate,List.nil_append,List.replicate_append_replicate];congr 3;simp;omega
def aaI{n i:Nat}{s:Bool}(h:i<=n):(oM n i s).length=n:=by simp[oM];omega
def aaJ(s:Bool)(n:Nat)(hn:n<=1048576):ak Tryz.prog 118 [.tree 1 [kB s],aam (n:Nat)] [] (.ref 0 1 0 n) [.arr 1 (rowsOf kB (aD n s))]:=by
 have hm:=Wh n Bv;refine ak.aL 48 0 [.tmp 4] Tryz.func118 ?_;((repeat'(first|refine Vc (X5 @BZ @B0 @We @Wf (X4 @MG @Wa @Option.isSome_some.{0} @OL)) hm ?_|(refine Xi ?_ ?_<;>try intro ht)|exact Xx|fail)))
 have e0:jg (min 1 n) [kB s]++fW (min 1 n) (aD n [AV.lit (Value.bool false)])=rowsOf kB (oM n (min 1 n) s):=by
  unfold oM rowsOf;rw[List.drop_replicate];rcases Nat.eq_zero_or_pos n with h|h
  ·subst h;rfl
  ·rw[ud h,iJ,E5,E5];rfl
 have e0':jg (min 1 n) [kB s]++fW (min 1 n) (b8 (aD n false))=rowsOf kB (oM n (min 1 n) s):=by
  rw[<- e0];simp[b8]
 first|rw[e0]|rw[e0']
 refine aW (λi:Nat=>(⟨ao [(7,.ref 0 1 0 n),(8,aam i)],[.arr 1 (rowsOf kB (oM n i s))]⟩:St)) (λi=>i<=n/\(i=0->n=0)) (λi=>n-i) (min 1 n) ⟨Bv,Bv⟩ (Xv X0) ?_;rintro i⟨hi,hr⟩Ql an aw;by_cases hi':i<n
 ·have e1:i+min i (n-i)<=n:=Bv;have hl:=aaI (s:=s) hi;have Fk:=λn s=>aaG (n:=n) (s:=s) (Nat.le_refl i);((repeat'(first|refine Va (X5 @Option.map_none.{0,0} @List.drop_zero.{0} @Fk @cK (X3 @w6.{0} @FH @hl)) ?_|(refine Xi ?_ ?_<;>try intro ht)|exact Xx|fail)))
  rw[aaH e1 (Nat.min_le_left _ _)];exact an _ (i+min i (n-i)) ⟨Bv,Bv⟩ Bv (Xv X0)
 ·obtain rfl:i=n:=Bv;((repeat'(first|refine Va X0 ?_|(refine Xi ?_ ?_<;>try intro ht)|exact Xx|fail)))
  refine aw _ _ rfl ?_;clear an aw Ql;repeat(refine Xu ?_)
  refine Vb X0 ?_;have e2:oM i i s=aD i s:=by simp[oM]
  rw[e2];exact Xw false [0] X0
def lJ(m:ah):List (List Bool):=m.cls.map λl=>aD l.length true
def iv(m:ah):List (List Bool):=if mI m=0 then lJ m else []
def HV(xs:List (List Bool))(b:List Bool):rowsOf bl xs++[[AV.tree 1 (b8 b)]]=rowsOf bl (xs++[b]):=by simp[rowsOf,bl]
def aaL(m:ah)(hm:MB m):ak Tryz.prog 79 [.agg (aB m)] [] (.tree 1 (rowsOf bl (iv m))) []:=by
 have h1:=Fh m hm;have pY:=hm.cls;generalize aq:iv m=res;unfold iv at aq;refine ak.aL 25 0 [.tmp 2] Tryz.func79 ?_;by_cases hv:mI m=0;rotate_left
 ·rw[if_neg hv]at aq;rw[<- aq];generalize mI m=e at *;((repeat'(first|refine Vd X0 h1 ?_|(refine Xi ?_ ?_<;>try intro ht)|exact Xx|fail)))
  exact rp [] true aac trivial aac aac bt.nil
 rw[if_pos hv]at aq;rw[hv]at h1;have kA:=v5.1 hv;have wv:=kA.cls;((repeat'(first|refine Vd @bne_self_eq_false.{0} h1 ?_|(refine Xi ?_ ?_<;>try intro ht)|exact Xx|fail)))
 refine aW (λz:Nat×List (List Bool)=>(⟨ao [(1,.ptr 0 0 0),(3,.ref 1 1 0 z.2.length),(10,.tree 1 (rowsOf bw m.cls)),(11,aam m.cls.length),(12,aam z.1)],[.var (aB m),.arr 1 (rowsOf bl z.2)]⟩:St))
  (λz=>z.1<=m.cls.length/\z.2=(lJ m).take z.1) (λz=>m.cls.length-z.1) (0,[]) ⟨aS _,rfl⟩ ?_ ?_
 ·refine aC.trans (aC.nil 3 1 (by simp only[Kc,simprocAttr]) aac) ?_;exact Xv X0
 rintro⟨i,xs⟩⟨hi,ef⟩Ql an aw;dsimp only at hi ef ⊢;have fS:(lJ m).length=m.cls.length:=by simp[lJ]
 by_cases hi':i<m.cls.length
 ·have qG:xs.length=i:=by rw[ef,fE];omega
  have lI:(lJ m).take (i+1)=xs++[aD (m.cls.getD i default).length true]:=by
   rw[jb Bv,<- ef];unfold lJ;rw[nP _ _ _ hi']
  have Fp:=kA.opt _ (aF (d:=default) hi');generalize bC:m.cls.getD i default=c at *;have HW:=aaJ true c.length Bv;repeat'(first|((fail_if_success (first|refine gx 7 ?_|refine gy 7 ?_));refine Xr (X2 @bC @bw.eq_1) ?_;intro K hK)|(refine hK _ ?_;clear hK K)|(refine Xi ?_ ?_<;>try intro ht)|refine Xy ?_|refine Xd ?_ ?_|exact Xx|fail)
  refine PS 5 aac ?_;intro K K1 hK nT;simp(disch:=omega)only[Ac,↓Pc,simprocAttr,jg];refine sP [] HW aac trivial ⟨bt.fz (rows:=rowsOf kB [true]) rfl rfl Jy,.pure rfl,trivial⟩ rfl (by simp[zx,kB,rowsOf,flat]) ?_;simp(disch:=omega)only[Ac,↓Pc,simprocAttr];refine nT _ ⟨ao [(1,.ptr 0 0 0),(3,.ref 1 1 0 xs.length),(10,.tree 1 (rowsOf bw m.cls)),(11,aam m.cls.length),(12,aam i),(16,.ref 1 1 0 xs.length),(20,.tree 1 (b8 (aD c.length true)))],[.var (aB m),.arr 1 (rowsOf bl xs)]⟩ ?_ ?_
  ·rw[<- aaF];exact Xs true [0,1] X0
  clear nT K1;simp(disch:=omega)only[Ac,↓Pc,simprocAttr,fW,HV];repeat'(first|with_reducible refine And.intro ?_ ?_|omega)
  refine hK _ ?_;clear hK K;repeat(refine Xu ?_)
  refine Va X0 ?_;refine an _ (i+1,xs++[aD c.length true]) ⟨aad,lI.symm⟩ aad ?_;exact Xs false [0,3] X0
 ·rw[fD Bv]at ef;((repeat'(first|refine Va X0 ?_|(refine Xi ?_ ?_<;>try intro ht)|exact Xx|fail)))
  refine aw _ _ rfl ?_;clear an aw Ql;repeat(refine Xu ?_)
  refine Vb X0 ?_;rw[ef,aq];exact Xw true [] X0
abbrev e8:=Nat×List (List Bool)×List Int
def oN:List Int->AV
 |[]=>.lit (.slice none 0 0)
 |x::r=>.tree 1 (ints (x::r))
def j3(s:e8):List AV:=[aam s.1,.tree 1 (rowsOf bl s.2.1),oN s.2.2]
def SI(l:List Int):(∃ y,oN l=AV.lit y/\y.oneCell'=true)\/∃ s r,oN l=.tree s r:=by
 cases l with
 |nil=>exact .inl ⟨_,rfl,rfl⟩
 |cons x r=>exact .inr ⟨_,_,rfl⟩
def SJ(l:List Int)(x:Value):kN [oN l,.lit x]=true:=by cases l<;>rfl
def aaM(l:List Int):ca (oN l)=true:=by cases l<;>rfl
instance:Row j3 3:=⟨λ_=>rfl,λx v hv=>by
 simp only[j3,List.mem_cons,List.not_mem_nil,or_false]at hv;rcases hv with rfl|rfl|rfl
 ·exact .inl ⟨_,rfl,rfl⟩
 ·exact .inr ⟨_,_,rfl⟩
 ·exact SI _⟩
def nd(P:List Nd)(i:Nat):Nd:=P.getD i default
def tK(P:List Nd)(s:e8)(o:Nat):e8:=(((nd P s.1).kids.getD o 0).toNat,wx s.2.1 (nd P s.1).cls.toNat o,s.2.2++[(nd P s.1).cls])
def iw(P:List Nd)(s:e8)(n:Nat):List e8:=(List.range n).map (tK P s)
def sh(P:List Nd)(s:e8):List e8:=iw P s (nd P s.1).kids.length
def SK(P:List Nd)(s:e8)(n:Nat):iw P s (n+1)=iw P s n++[tK P s n]:=by unfold iw;rw[List.range_succ,iJ];rfl
def qH(P:List Nd):Nat->e8->List e8
 |0,_=>[]
 |f+1,s=>s::((sh P s).reverse.flatMap (qH P f))
def vs(P:List Nd)(s:e8):List e8:=qH P (P.length-s.1) s
def Down(P:List Nd):Prop:=∀ i,i<P.length->∀ k∈(nd P i).kids,(i:Int)<k/\k<P.length
def SL{m:ah}{P:List Nd}(h:mq m P=true){i:Nat}(hi:i<P.length):kY m P.length i (nd P i)=true:=by
 cases hb:kY m P.length i (nd P i) with
 |true=>rfl
 |false=>rw[Sw hi hb]at h;cases h
def aaN{m:ah}{P:List Nd}(h:mq m P=true):Down P:=λi hi k hk=>by
 have:=SL h hi;unfold kY at this;rw[Bool.and_eq_true,eS]at this;have h2:=this.2 k hk;unfold tC at h2;exact of_decide_eq_true h2
def aaO{m:ah}{P:List Nd}(h:mq m P=true):1<=P.length/\P.length<=20000:=by
 by_cases hs:1<=P.length/\P.length<=20000
 ·exact hs
 ·rw[Sx hs]at h;cases h
def DL{P:List Nd}{s t:e8}(h:t∈sh P s):∃o,o<(nd P s.1).kids.length/\t=tK P s o:=by
 unfold sh iw at h;obtain⟨o,ho,rfl⟩:=List.mem_map.1 h;exact⟨o,List.mem_range.1 ho,rfl⟩
def AL{P:List Nd}(hd:Down P){s:e8}(hs:s.1<P.length){o:Nat}(ho:o<(nd P s.1).kids.length):s.1<(tK P s o).1/\(tK P s o).1<P.length/\(((tK P s o).1:Nat):Int)=(nd P s.1).kids.getD o 0:=by
 have:=hd s.1 hs _ (aF (l:=(nd P s.1).kids) (i:=o) (d:=0) ho);unfold tK;dsimp only;omega
def aaP{P:List Nd}(hd:Down P):∀ (f:Nat) (s:e8),s.1<P.length->P.length-s.1<=f->qH P f s=qH P (P.length-s.1) s:=by
 intro f
 induction f using Nat.strongRecOn with
 |_ f ih =>
  intro s hs hf;cases f with
  |zero=>omega
  |succ f =>
   obtain⟨g,hg⟩:∃g,P.length-s.1=g+1:=⟨P.length-s.1-1,Bv⟩;rw[hg,qH,qH];refine congrArg _ ?_;have key:∀ t∈(sh P s).reverse,qH P f t=qH P g t:=λt ht=>by
    obtain⟨o,ho,rfl⟩:=DL (JM.1 ht);obtain⟨h1,h2,_⟩:=AL hd hs ho;rw[ih f Bv _ h2 Bv,ih g Bv _ h2 Bv]
   generalize (sh P s).reverse=L at key
   induction L with
   |nil=>rfl
   |cons t L HX=>rw[qW,qW,key t Jy,HX λu hu=>key u (by simp[hu])]
def aaQ{P:List Nd}(hd:Down P){s:e8}(hs:s.1<P.length):vs P s=s::(sh P s).reverse.flatMap (vs P):=by
 unfold vs;obtain⟨g,hg⟩:∃g,P.length-s.1=g+1:=⟨P.length-s.1-1,Bv⟩;rw[hg,qH];refine congrArg _ ?_;have key:∀ t∈(sh P s).reverse,qH P g t=qH P (P.length-t.1) t:=λt ht=>by
  obtain⟨o,ho,rfl⟩:=DL (JM.1 ht);obtain⟨h1,h2,_⟩:=AL hd hs ho;exact aaP hd g _ h2 Bv
 generalize (sh P s).reverse=L at key
 induction L with
 |nil=>rfl
 |cons t L HX=>rw[qW,qW,key t Jy,HX λu hu=>key u (by simp[hu])]
def wy{α:Type}(P:List Nd)(step:α->e8->α×Bool):List e8->α->α×Bool
 |[],a=>(a,true)
 |s::L,a=>if s.2.2.contains (nd P s.1).cls=true then(a,false) else if(step a s).2=true then wy P step L (step a s).1 else((step a s).1,false)
def root(m:ah):e8:=(0,iv m,[])
def qI{α:Type}(m:ah)(P:List Nd)(step:α->e8->α×Bool)(a:α):α×Bool :=
 if mI m=0/\mq m P=true then wy P step (vs P (root m)) a else(a,false)
def wz(m:ah)(P:List Nd)(s:e8):Prop:=s.1<P.length/\iP m s.2.1/\s.2.2.length<=s.1
def aaR{m:ah}{x y:List (List Bool)}(h:iP m x)(he:y.map E6=x.map E6):iP m y:=by
 have hl:=congrArg E6 he;rw[eA,eA]at hl;refine⟨by rw[hl];exact h.1,λi hi=>?_⟩;have h2:=congrArg (λz=>z[i]?) he;simp only[List.getElem?_map]at h2;rw[aT hi,aT Bv]at h2;simp only[Option.map_some,Option.some.injEq]at h2;rw[<- h.2 i Bv,ax,ax,aT hi,aT Bv];exact h2
def aaS {m:ah} {P:List Nd} (hd:Down P) {s:e8} (h:wz m P s) {o:Nat} (ho:o<(nd P s.1).kids.length):wz m P (tK P s o) :=
  ⟨(AL hd h.1 ho).2.1,aaR h.2.1 (aaT _ _ _),by
    have h1:=(AL hd h.1 ho).1
    have h2:=h.2.2
    show (s.2.2++[_]).length<=_
    rw[aK,List.length_singleton];omega⟩
def aaU{m:ah}(h:VM m):iP m (iv m):=by
 unfold iv;rw[if_pos (v5.2 h)];refine⟨by simp[lJ],λi hi=>?_⟩;have hi':i<m.cls.length:=by simpa [lJ] using hi
 unfold lJ;rw[nP _ _ _ hi',w6]
def wA:List e8->Prop
 |[]=>True
 |t::T=>T.length<=24*t.1/\wA T
def wA.push{T:List e8}{i:Nat}(h:wA T)(hT:T.length<=24*i):∀ (L:List e8),(∀ t∈L,i<t.1)->L.length<=24->wA (L++T)
 |[],_,_=>h
 |t::L,hl,hn=>by
  have h1:=hl t Jy;have h2:=wA.push h hT L (λu hu=>hl u (by simp[hu])) (by simp at hn;omega);refine⟨?_,h2⟩;simp only[List.length_cons]at hn;show(L++T).length<=_;rw[aK];omega
end T

