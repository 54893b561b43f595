import Derived.Test.YtjadfapldkfbpaaGreatX24
set_option linter.all false
set_option maxHeartbeats 0
set_option maxRecDepth 20000
open Nat renaming zero_le→aF,le_refl→aR,eq_zero_or_pos→n7,sub_self→jv,zero_add→gf,lt_succ_self→uK
open List renaming map_cons→dK,cons_append→dP,nil_append→dZ,drop_eq_nil_of_le→cM,map_nil→k7,append_nil→ic,getElem?_append_left→dg,length_set→bw,getElem?_set_ne→bM,range→aZ,take_of_length_le→ej,eq_nil_of_length_eq_zero→sF,append_assoc→cY,length_append→bQ,getElem?_eq_some_iff→aY,getElem?_append_right→fO,length_take→fy,take_length→sH,mem_append→cz,getD_eq_getElem?_getD→aG,set_append_left→Hf,filter_append→BY,mem_of_mem_drop→vT,replicate→bG,map_take→xy,take_append_of_le_length→Hg,length_map→eO,eq_of_mem_replicate→BU,filter_cons→z9,filter_nil→DX
open Bool renaming and_eq_true→bk,not_false→jP,not_true→iZ
open And renaming intro→cI
open Option renaming map_none→oN,map_some→fE
open Go Go.Am Go.Proofs
namespace T
def Dt{σ:St}{kp:Nat->Prop}{ρ:Nat->Nat}(e:Int):aI σ kp ρ true (.bH [.agg (ao It),aaa e]) (.bH [.agg [.lit (.slice none 0 0),.lit (.slice none 0 0),.lit (.slice none 0 0),aaa 0],aaa e]) :=
 .mn (.agg _ _ rfl (eY.spec (R:=aI σ kp ρ true) (cs:=ao It) (ds:=[.lit (.slice none 0 0),.lit (.slice none 0 0),.lit (.slice none 0 0),aaa 0]) ⟨.nil,.nil,.nil,.pure rfl,trivial⟩).2) (.pure rfl)
def abv{m:ah}(hm:VM m){l:List bV}(hl:l∈m.cls){o:bV}(ho:o∈l):o.ch.length<=56/\∀ c∈o.ch,0<=c.1/\c.1<m.rules:=by
 have h:=hm.oB l hl o ho;refine⟨by have:=ET hm.iI.1 h;have:=hm.iI;omega,λc hc=>?_⟩;have:=(AP h c hc).1;rwa [jI,decide_eq_true_eq]at this
def Nu{m:ah}(h:VM m){p:Pr}(hp:p∈m.ae):p.aD.length<=576:=by
 obtain⟨_,h1,h2,h3,h4⟩:=m4 (jy h.pr p hp);have a:=h.opt _ (aB (l:=m.cls) (i:=p.fst.toNat) (d:=default) G3);have b:=h.opt _ (aB (l:=m.cls) (i:=p.snd.toNat) (d:=default) G3);have:((m.cls.getD p.fst.toNat default).length:Int)*(m.cls.getD p.snd.toNat default).length<=24*24:=Int.mul_le_mul G3 G3 G3 G3;omega
def ak2(aH:List Bool)(o:bV):(mF aH o).wk=o.wk/\(mF aH o).day=o.day/\(mF aH o).st=o.st/\(mF aH o).len=o.len/\(mF aH o).room=o.room/\(mF aH o).ch=o.ch.filter λc=>hU aH c.1:=⟨rfl,rfl,rfl,rfl,rfl,rfl⟩
def sv(m:ah)(aH:List Bool)(cls:List (List bV)):List Ob :=
 [.var (ao m),.var [.tree 1 (aX aH)],.var [.lit (.slice none 0 0),.lit (.slice none 0 0),.lit (.slice none 0 0),aaa 0],
  .var [.ref 4 1 0 cls.length,.lit (.slice none 0 0),.lit (.slice none 0 0),aaa m.rules],.arr 1 (rowsOf a9 cls)]
def ahu(m:ah)(aH:List Bool)(hb:MB m)(hk:aH.length<9223372036854775808):an Tryz.prog 26 [.agg (ao m),.tree 1 (aX aH)] [] (.bH [.agg (ao (tW m aH).1),aaa (tW m aH).2]) []:=by
 generalize aj:tW m aH=res;unfold tW at aj;have hval:=ud m hb;by_cases hv:ek m=0;rotate_left
 ·rw[if_pos hv]at aj;subst aj;refine an.aC 72 0 [.cell 4 37,.tmp 5] Tryz.func26 ?_;((try revert hK K);(repeat'(first|refine Vd X0 hval ?_|(refine V2 X0 ?_ ?_<;>try with_reducible intro hb)|(refine Xi ?_ ?_<;>try intro ht)|refine VD ?_ ?_|exact Xx|fail))<;>try with_reducible intro K hK)
  all_goals try(exfalso;omega)
  simp(disch:=omega)only[Ac,↓Pc,simprocAttr];exact dr [] true Kq trivial Kq Kq (Dt _)
 rw[if_neg G3]at aj;rw[hv]at hval;by_cases cF:(aH.length:Int)=m.rules;rotate_left
 ·rw[if_pos cF]at aj;subst aj;refine an.aC 72 0 [.cell 4 37,.tmp 5] Tryz.func26 ?_;((try revert hK K);(repeat'(first|refine Vd X0 hval ?_|(refine V2 X0 ?_ ?_<;>try with_reducible intro hb)|(refine Xi ?_ ?_<;>try intro ht)|refine VD ?_ ?_|exact Xx|fail))<;>try with_reducible intro K hK)
  all_goals try(exfalso;omega)
  simp(disch:=omega)only[Ac,↓Pc,simprocAttr];exact dr [] true Kq trivial Kq Kq (Dt _)
 rw[if_neg G3]at aj;have hm:=iu.1 hv;have zG:=hm.cls;have ke:=akd aH m.ae (by have:=hm.ae;omega) (λc hc=>by have:=m4 (jy hm.pr c hc);omega) (λc hc=>by have:=Nu hm hc;omega);have zH:=akg aH m.ax (by have:=hm.ax;omega) (λc hc=>by have:=nG (hm.ct c hc);omega) (λc hc=>by have:=AQ hm (nG (hm.ct c hc)).2.2.2;omega);unfold m5 at aj;generalize eT:(m.cls.map λl=>l.map (mF aH))=OO at *;generalize (m.ae.filter λp=>hU aH p.bF)=abw at *;generalize (m.ax.filter λc=>hU aH c.bF)=abx at *;subst aj;refine an.aC 72 0 [.cell 4 37,.tmp 5] Tryz.func26 ?_;((try revert hK K);(repeat'(first|refine Vd X0 hval ?_|(refine V2 X0 ?_ ?_<;>try with_reducible intro hb)|(refine Xi ?_ ?_<;>try intro ht)|refine VD ?_ ?_|exact Xx|fail))<;>try with_reducible intro K hK)
 all_goals try(exfalso;omega)
 refine aO (λz:Nat×List (List bV)=>(⟨au [(2,.ptr 0 0 0),(3,.ptr 1 0 0),(4,.ptr 2 0 0),(7,.ptr 3 0 0),(30,.tree 1 (rowsOf a9 m.cls)),(31,aaa m.cls.length),(32,aaa z.1)],sv m aH z.2⟩:St))
  (λz=>z.1<=m.cls.length/\z.2.length=z.1/\z.2++(m.cls.drop z.1).map (λl=>l.map (mF aH))=OO) (λz=>m.cls.length-z.1) (0,[]) ⟨aF _,rfl,eT⟩ (by
   refine ay.trans (ay.my 3 0 1 rfl rfl Kq) ?_;unfold sv;exact Xv X0) ?_
 rintro⟨i,cls⟩⟨hi,bY,cB⟩Ql ak ar;dsimp only at hi bY cB ⊢;unfold sv;by_cases hi':i<m.cls.length
 ·have hd:=cN m.cls i default hi';have qW:=aB (d:=(default:List bV)) hi';have sh:=hm.opt _ qW;generalize dI:m.cls.getD i default=l at *;rw[hd,dK]at cB;generalize vC:l.map (mF aH)=OP at *;((try revert hK K);(repeat'(first|refine Va @dI ?_|(refine V2 @dI ?_ ?_<;>try with_reducible intro hb)|(refine Xi ?_ ?_<;>try intro ht)|refine VD ?_ ?_|exact Xx|fail))<;>try with_reducible intro K hK)
  refine aO (λz:Nat×List bV=>(⟨au [(2,.ptr 0 0 0),(3,.ptr 1 0 0),(4,.ptr 2 0 0),(7,.ptr 3 0 0),(30,.tree 1 (rowsOf a9 m.cls)),(31,aaa m.cls.length),(32,aaa i),(10,.ref 5 6 0 z.2.length),(36,.tree 6 (rowsOf cK l)),(37,aaa l.length),(38,aaa z.1)],sv m aH cls++[.arr 6 (rowsOf cK z.2)]⟩:St))
   (λz=>z.1<=l.length/\z.2.length=z.1/\z.2++(l.drop z.1).map (mF aH)=OP) (λz=>l.length-z.1) (0,[]) ⟨aF _,rfl,vC⟩ (by
    refine ay.trans (ay.nil 10 6 (by simp only[Kc,simprocAttr]) Kq) ?_;unfold sv;exact Xv X0) ?_
  rintro⟨k,ol⟩⟨iK,fX,vH⟩cL a7 ba;dsimp only at iK fX vH ⊢;unfold sv;simp only[dP,dZ];by_cases aL:k<l.length
  ·have wI:=cN l k default aL;have fq:=aB (d:=(default:bV)) aL;obtain⟨lr,sP⟩:=abv hm qW fq;generalize kY:l.getD k default=o at *;have bS:=aka aH o.ch G3 (λc hc=>by have:=sP c hc;omega);rw[wI,dK]at vH;((try revert hK K);(repeat'(first|refine Va @kY ?_|(refine V2 @kY ?_ ?_<;>try with_reducible intro hb)|(refine Xi ?_ ?_<;>try intro ht)|refine VD ?_ ?_|exact Xx|fail))<;>try with_reducible intro K hK)
   (refine Xn [1] (bS) ?_;simp(disch:=omega)only[Ac,↓Pc,simprocAttr,kY])
   ((try revert hK K);(repeat'(first|refine Va X0 ?_|(refine V2 X0 ?_ ?_<;>try with_reducible intro hb)|(refine Xi ?_ ?_<;>try intro ht)|refine VD ?_ ?_|exact Xx|fail))<;>try with_reducible intro K hK)
   refine a7 _ (k+1,ol++[mF aH o]) ⟨Kw,PX,by rw[<- vH];simp⟩ Kw ?_;have e:=lJ (enc:=cK) ol (mF aH o);simp only[cK,ak2]at e;rw[e];unfold sv;simp only[dP,dZ];exact Xs false [0,1,2,3,4,8] X0
  ·((try revert hK K);(repeat'(first|refine Va X0 ?_|(refine V2 X0 ?_ ?_<;>try with_reducible intro hb)|(refine Xi ?_ ?_<;>try intro ht)|refine VD ?_ ?_|exact Xx|fail))<;>try with_reducible intro K hK)
   rw[cM G3,k7,ic]at vH;subst vH;refine ba _ _ rfl ?_;clear a7 ba cL;repeat(first|refine Xu ?_)
   refine bD (σ':=⟨au [(2,.ptr 0 0 0),(3,.ptr 1 0 0),(4,.ptr 2 0 0),(7,.ptr 3 0 0),(30,.tree 1 (rowsOf a9 m.cls)),(31,aaa m.cls.length),(32,aaa i),(10,.tree 6 (rowsOf cK ol))],sv m aH cls⟩) (by unfold sv;exact Xs true [0,1,2,3,4] X0) ?_;unfold sv;((try revert hK K);(repeat'(first|refine Va X0 ?_|(refine V2 X0 ?_ ?_<;>try with_reducible intro hb)|(refine Xi ?_ ?_<;>try intro ht)|refine VD ?_ ?_|exact Xx|fail))<;>try with_reducible intro K hK)
   refine ak _ (i+1,cls++[ol]) ⟨Kw,PX,by rw[<- cB];simp⟩ Kw ?_;have e:=lJ (enc:=a9) cls ol;simp only[a9]at e;rw[e];unfold sv;exact Xs false [0,1,2,3,6] X0
 ·((try revert hK K);(repeat'(first|refine Va X0 ?_|(refine V2 X0 ?_ ?_<;>try with_reducible intro hb)|(refine Xi ?_ ?_<;>try intro ht)|refine VD ?_ ?_|exact Xx|fail))<;>try with_reducible intro K hK)
  rw[cM G3,k7,ic]at cB;refine ar _ _ rfl ?_;clear ak ar Ql;repeat(first|refine Xu ?_)
  refine bD (σ':=⟨au [(2,.ptr 0 0 0),(3,.ptr 1 0 0),(4,.ptr 2 0 0),(7,.ptr 3 0 0)],sv m aH cls⟩) (by unfold sv;exact Xv X0) ?_;unfold sv;refine bD (ay.kQ 4 3 0 1 rfl rfl (by rw[bX];rfl) (fQ _) (jX _)) ?_;((try revert hK K);(repeat'(first|refine Vb X0 ?_|(refine V2 X0 ?_ ?_<;>try with_reducible intro hb)|(refine Xi ?_ ?_<;>try intro ht)|refine VD ?_ ?_|exact Xx|fail))<;>try with_reducible intro K hK)
  (refine Xn [1] (ke) ?_;simp(disch:=omega)only[Ac,↓Pc,simprocAttr])
  ((try revert hK K);(repeat'(first|refine Vb X0 ?_|(refine V2 X0 ?_ ?_<;>try with_reducible intro hb)|(refine Xi ?_ ?_<;>try intro ht)|refine VD ?_ ?_|exact Xx|fail))<;>try with_reducible intro K hK)
  (refine Xn [1] (zH) ?_;simp(disch:=omega)only[Ac,↓Pc,simprocAttr])
  ((try revert hK K);(repeat'(first|refine Vb X0 ?_|(refine V2 X0 ?_ ?_<;>try with_reducible intro hb)|(refine Xi ?_ ?_<;>try intro ht)|refine VD ?_ ?_|exact Xx|fail))<;>try with_reducible intro K hK)
  simp(disch:=omega)only[Ac,↓Pc,simprocAttr];rw[<- cB];exact aE rfl rfl
def zM:List AV:=[.lit (.slice none 0 0),.lit (.slice none 0 0),.lit (.slice none 0 0),aaa 0]
def TwO(m:ah)(a b d:Nat)(os:List Ob):Prop :=
 ∃ h1 C l2 h2 C2,C5 m.cls os a 1 h1 m.cls.length C/\FG m.ae os b l2 h2 m.ae.length C2/\a<l2/\os[d]?=some (.arr 4 (rowsOf aV m.ax))/\b<d
def aby{w:Nat}{os:List Ob}{l r b:Nat}{X:List (List AV)}(h:os[b]?=some (.arr w X))(hl:l<=b)(hr:b<r)(hw:∀ row∈X,row.length=w):iM w os l r (.ref b w 0 X.length) X :=
 .inr ⟨b,[],rfl,hl,hr,by rw[ic];exact h,by rw[ic];exact hw⟩
def Zt{m:ah}(hm:VM m){c:List bV}(hc:c∈m.cls){o:bV}(ho:o∈c):o.ch.length<=100:=by
 have h:=hm.oB c hc o ho;have hr:=hm.iI;cases fC:o.ch with
 |nil=>simp
 |cons x r =>
  rw[fC,eH]at h;simp only[bk,decide_eq_true_eq,jI]at h;rcases Ir h.2 with rfl|h2
  ·simp
  ·simp only[List.length_cons];omega
def gB.OQ{m b:Nat}{ot:List Ob}(hb:m<=b)(hl:m<=ot.length)(y:Ob)(L:List Ob):gB 4 m ot ((ot.set b .gone).set 3 y++L):=λi h1 h2=>by
 rw[dg (by rw[bw,bw];omega),bM G3,bM G3]
def Bh{α:Type}(f:Nat->α)(n:Nat):((aZ n).map f).length=n:=G9
def OR{α:Type}(f:Nat->α)(n:Nat):((aZ n).map f).take n=(aZ n).map f:=ej G9
def ahV(m:ah)(hm:VM m):fG Tryz.prog 130 [.agg (ao m)] [.var zM] (λr os=>os[0]?=some (.var zM)/\∃ a b d,r=.agg [.ref a 1 0 m.cls.length,.ref b 4 0 m.ae.length,.ref d 4 0 m.ax.length,aaa m.rules]/\TwO m a b d os):=by
 have nL:=hm.cls;have s7:=hm.ae;have ht4:=hm.ax;unfold zM;refine fG.aC 83 1 [.cell 2 37] Tryz.func130 ?_;repeat'(first|((fail_if_success (first|refine dE 2 ?_|refine dF 2 ?_));refine Xr @ao.eq_1 ?_;intro K hK)|(refine hK _ ?_;clear hK K)|refine Xy ?_|fail)
 refine bD (ay.jf 1 1 (cells:=ao m) P5 (by simp only[Kc,simprocAttr]) (by simp[ao])) ?_;refine bD (ay.my 3 0 1 P5 rfl Kq) ?_;refine bD (σ':=⟨au [(1,.bm (ao m)),(2,.ptr 2 0 0),(3,.ptr 3 0 0)],[.var zM,.gone,.var zM,.var [.ref 4 1 0 0,.lit (.slice none 0 0),.lit (.slice none 0 0),aaa m.rules],.arr 1 []]⟩) (Xv X0) ?_;refine Va @ao.eq_1 ?_;have abz:∀ o:bV,jM o=[aaa o.wk,aaa o.day,aaa o.st,aaa o.len,aaa o.room]:=λ_=>rfl;refine aO (λz:Nat×List Ob=>(⟨au [(1,.bm (ao m)),(2,.ptr 2 0 0),(3,.ptr 3 0 0),(17,.tree 1 (rowsOf a9 m.cls)),(18,aaa m.cls.length),(19,aaa z.1)],z.2⟩:St))
  (λz=>z.1<=m.cls.length/\z.2[0]?=some (.var zM)/\z.2[2]?=some (.var zM)/\∃ a hi C,z.2[3]?=some (.var [.ref a 1 0 z.1,.lit (.slice none 0 0),.lit (.slice none 0 0),aaa m.rules])/\C5 m.cls z.2 a 4 hi z.1 C)
  (λz=>m.cls.length-z.1) (0,[.var zM,.gone,.var zM,.var [.ref 4 1 0 0,.lit (.slice none 0 0),.lit (.slice none 0 0),aaa m.rules],.arr 1 []])
  ⟨aF _,rfl,rfl,4,4,λ_=>.undef,rfl,cX.nil rfl 4 (aR _) _ _⟩ (Xv @ao.eq_1) ?_
 rintro⟨i,os⟩⟨hi,f0,f2,a,Cm,C,f3,hC⟩Ql ak ar;dsimp only at hi f0 f2 f3 hC ⊢;by_cases hi':i<m.cls.length
 ·have eT:=aB (d:=default) hi';have sh:=hm.opt _ eT;have FD:=λo ho=>Zt hm eT (o:=o) ho;generalize aM:m.cls.getD i default=l at *;((repeat'(first|refine Va (X2 @aM @a9.eq_1) ?_|(refine Xi ?_ ?_<;>try intro ht)|exact Xx|fail)))
  refine aO (λz:Nat×Nat×List Ob=>(⟨au [(1,.bm (ao m)),(2,.ptr 2 0 0),(3,.ptr 3 0 0),(17,.tree 1 (rowsOf a9 m.cls)),(18,aaa m.cls.length),(19,aaa i),(6,.ref z.2.1 6 0 z.1),(23,.tree 6 (rowsOf cK l)),(24,aaa l.length),(25,aaa z.1)],z.2.2⟩:St))
   (λz=>z.1<=l.length/\gB 0 os.length os z.2.2/\∃ hi C,cX 6 (λk=>yg (l.getD k default).ch) z.2.2 z.2.1 os.length hi z.1 (λk=>jM (l.getD k default)) C)
   (λz=>l.length-z.1) (0,os.length,os++[.arr 6 []]) ⟨aF _,gB.app (aR _) _ _,os.length,λ_=>.undef,cX.nil (kj _ _ _) _ (aR _) _ _⟩ ?_ ?_
  ·refine ay.trans (ay.nil 6 6 (by simp only[Kc,simprocAttr]) Kq) ?_;exact Xv X0
  rintro⟨k,b,ot⟩⟨hk,jo,ow,C2,hR⟩cL a7 ba;dsimp only at hk jo hR ⊢;by_cases aL:k<l.length
  ·have fq:=aB (l:=l) (d:=default) aL;have bY:=FD _ fq;have jc:=hR.arr;have yC:=hR.len;have I8:=hR.at_;have I9:=hR.uj;have BC:=λX v h2=>hR.app (λk=>Ja _) X (v:=v) yC (aR _) rfl h2;have gD:=Bh (λk=>jM (l.getD k default)++[C2 k]) k;have zP:=OR (λk=>jM (l.getD k default)++[C2 k]) k;generalize qN:(aZ k).map (λk=>jM (l.getD k default)++[C2 k])=R at *;generalize kY:l.getD k default=o at *;repeat'(first|((fail_if_success (first|refine dE 1 ?_|refine dF 1 ?_));refine Xr (X3 @kY @cD @cK.eq_1) ?_;intro K hK)|(refine hK _ ?_;clear hK K)|(refine Xi ?_ ?_<;>try intro ht)|refine Xy ?_|refine Xd ?_ ?_|exact Xx|fail)
   refine bD (ay.jf 8 ot.length (cells:=cK o) (by simp(disch:=omega)only[Ac,↓Pc,simprocAttr,cD,cK]) (by simp only[Kc,simprocAttr]) (by simp[cK])) ?_;rw[zx];have gJ:=bf jc;have fA:=λl y=>gz jc l (y:=y);rcases n7 o.ch.length with h0|h0
   ·have FE:=sF h0;have eK:an Tryz.prog 151 [.tree 2 (rowsOf aK [])] [] (.tree 2 (rowsOf aK [])) []:=akh;refine jb [2,4] (.take 0 (.take 3 (.take 4 (.both 1 (.take 2 (.take 5 (.take 6 (.take 7 (.take 8 (.take 9 .nil)))))) 5 (.take 1 (.take 2 (.take 6 (.take 7 (.take 8 (.take 9 .nil)))))))))) rfl Kq (by decide +kernel) ?_;simp(disch:=omega)only[Ac,↓Pc,simprocAttr,Pw,↓Lq,cK,FE];(with_reducible refine cI ?_ ?_)
    all_goals
     (refine Xn [] (eK) ?_;simp(disch:=omega)only[Ac,↓Pc,simprocAttr,Pw,↓Lq,cD,cY,bQ,gJ,fA,gD,zP])
     repeat'(first|with_reducible refine cI ?_ ?_|omega)
    all_goals
     repeat(refine Xu ?_)
     ((repeat'(first|refine Va X0 ?_|fail)))
     have hq:=BC [Ob.gone,Ob.arr 6 [jM o++[AV.tree 2 (rowsOf aK [])]]] (AV.tree 2 (rowsOf aK [])) (λos' _=>by
      show yg o.ch _ _ _ _;rw[FE];exact .inl ⟨rfl,rfl⟩)
     exact a7 _ (k+1,ot.length+2,ot.set b Ob.gone++[Ob.gone,Ob.arr 6 [jM o++[AV.tree 2 (rowsOf aK [])]],Ob.arr 6 (R++[jM o++[AV.tree 2 (rowsOf aK [])]])]) ⟨Kw,jo.trans (gB.kill G3 yC _),_,_,hq⟩ Kw (Xv @abz)
   ·have eK:=aki o.ch h0 G3;refine jb [2,4] (.take 0 (.take 3 (.take 4 (.both 1 (.take 2 (.take 5 (.take 6 (.take 7 (.take 8 (.take 9 .nil)))))) 5 (.take 1 (.take 2 (.take 6 (.take 7 (.take 8 (.take 9 .nil)))))))))) rfl Kq (by decide +kernel) ?_;simp(disch:=omega)only[Ac,↓Pc,simprocAttr,Pw,↓Lq,cK];(with_reducible refine cI ?_ ?_)
    all_goals
     (refine Xn [] (eK) ?_;simp(disch:=omega)only[Ac,↓Pc,simprocAttr,Pw,↓Lq,cD,cY,bQ,gJ,fA,gD,zP])
     repeat'(first|with_reducible refine cI ?_ ?_|omega)
    all_goals
     repeat(refine Xu ?_)
     ((repeat'(first|refine Va X0 ?_|fail)))
     have hq:=BC [Ob.gone,Ob.arr 2 (rowsOf aK o.ch),Ob.arr 6 [jM o++[AV.ref (ot.length+1) 2 0 o.ch.length]]] (AV.ref (ot.length+1) 2 0 o.ch.length) (λos' iB=>by
      show iM 2 os' ot.length (ot.length+3) (.ref (ot.length+1) 2 0 o.ch.length) (rowsOf aK o.ch);rw[<- bX (enc:=aK)];refine aby (b:=ot.length+1) ?_ G3 G9 (fQ _);rw[iB _ G3 G9,nN];rfl)
     exact a7 _ (k+1,ot.length+3,ot.set b Ob.gone++[Ob.gone,Ob.arr 2 (rowsOf aK o.ch),Ob.arr 6 [jM o++[AV.ref (ot.length+1) 2 0 o.ch.length]],Ob.arr 6 (R++[jM o++[AV.ref (ot.length+1) 2 0 o.ch.length]])]) ⟨Kw,jo.trans (gB.kill G3 yC _),_,_,hq⟩ Kw (Xv @abz)
  ·obtain rfl:k=l.length:=G3;have yC:=hR.len;have I8:=hR.at_;have I9:=hR.uj;have Gu:=hC.len;have Zs:=hC.at_;have ak4:=hC.uj;have h3l:=(aY.1 f3).1;have k0:ot[0]?=some (.var zM):=(jo 0 G3 G3).trans f0;have k2:ot[2]?=some (.var zM):=(jo 2 G3 G3).trans f2;have k3:ot[3]?=some (.var [.ref a 1 0 i,.lit (.slice none 0 0),.lit (.slice none 0 0),aaa m.rules]):=(jo 3 G3 h3l).trans f3;have hC':C5 m.cls ot a 4 Cm i C:=cX.same (λc=>wO _) hC (jo.mono G3 G3) (jo a G3 Gu);have BC:=λX v h2=>cX.app (λc=>wO _) hC' X (v:=v) (l0:=os.length) Gu G3 rfl h2;have jc:=hC'.arr;have gD:=Bh (λk=>([]:List AV)++[C k]) i;have zP:=OR (λk=>([]:List AV)++[C k]) i;generalize qN:(aZ i).map (λk=>([]:List AV)++[C k])=R at *;have gJ:=bf jc;have fA:=λl y=>gz jc l (y:=y);have nj:(ot.set a .gone)[3]?=_:=(bM G3).trans k3;have cF:=bf k3;have BD:=bf nj;have BE:=λl y=>gz nj l (y:=y);((repeat'(first|refine Va X0 ?_|(refine Xi ?_ ?_<;>try intro ht)|exact Xx|fail)))
   refine ba _ _ rfl ?_;clear a7 ba;repeat(refine Xu ?_)
   refine Va (X5 @cD @cY.{0} @bQ.{0} @gJ (X5 @fA @gD @zP @k3 (X4 @nj @cF @BD @BE))) ?_;have hq:=BC [Ob.arr 1 [[AV.ref b 6 0 l.length]]] (AV.ref b 6 0 l.length) (λos' iB=>by
    show yh (m.cls.getD i default) os' os.length (ot.length+1) (.ref b 6 0 l.length);rw[aM];have jS:∀ j,os.length<=j->j<ot.length->os'[j]?=ot[j]?:=λj h1 h2=>(iB j h1 G3).trans (dg h2);exact⟨b,ow,C2,rfl,G3,hR.same (λk=>Ja _) (λj h1 h2=>jS j h1 G3) (jS b G3 yC)⟩)
   have w8:=cX.Gn (λc=>wO _) hq (q:=3) G3 (Ob.var [.ref (ot.length+1) 1 0 (i+1),.lit (.slice none 0 0),.lit (.slice none 0 0),aaa m.rules]);rw[gz nj]at w8;exact ak _ (i+1,(ot.set a Ob.gone).set 3 (Ob.var [.ref (ot.length+1) 1 0 (i+1),.lit (.slice none 0 0),.lit (.slice none 0 0),aaa m.rules])++[Ob.arr 1 [[AV.ref b 6 0 l.length]],Ob.arr 1 (R++[[AV.ref b 6 0 l.length]])])
    ⟨Kw,bf ((bM G3).trans ((bM G3).trans k0)) _,bf ((bM G3).trans ((bM G3).trans k2)) _,ot.length+1,_,_,bf (j3 nj) _,w8⟩ Kw (Xv @ao.eq_1)
 obtain rfl:i=m.cls.length:=G3;have Gu:=hC.len;have Zs:=hC.at_;have ak4:=hC.uj;have h3l:=(aY.1 f3).1;((repeat'(first|refine Va X0 ?_|(refine Xi ?_ ?_<;>try intro ht)|exact Xx|fail)))
 refine ar _ _ rfl ?_;clear ak ar Ql;repeat(refine Xu ?_)
 refine Va @ao.eq_1 ?_;refine bD (ay.my 3 1 4 f3 rfl Kq) ?_;rw[gz f3];have wj:∀ Y:Ob,(os.set 3 Y++[Ob.arr 4 []])[os.length]?=some (.arr 4 []):=λY=>by
  rw[fO (by rw[bw];exact aR _),bw,jv];rfl
 have xZ:∀ Y:Ob,gB 4 os.length os (os.set 3 Y++[Ob.arr 4 []]):=λY j h1 h2=>by
  rw[dg (by rw[bw];exact h2),bM G3]
 refine aO (λz:Nat×List Ob=>(⟨au [(1,.bm (ao m)),(2,.ptr 2 0 0),(3,.ptr 3 0 0),(47,.tree 4 (rowsOf aQ m.ae)),(48,aaa m.ae.length),(49,aaa z.1)],z.2⟩:St))
  (λz=>z.1<=m.ae.length/\z.2[0]?=some (.var zM)/\z.2[2]?=some (.var zM)/\gB 4 os.length os z.2/\∃ b hi C,z.2[3]?=some (.var [.ref a 1 0 m.cls.length,.ref b 4 0 z.1,.lit (.slice none 0 0),aaa m.rules])/\FG m.ae z.2 b os.length hi z.1 C)
  (λz=>m.ae.length-z.1) (0,os.set 3 (.var [.ref a 1 0 m.cls.length,.ref os.length 4 0 0,.lit (.slice none 0 0),aaa m.rules])++[Ob.arr 4 []])
  ⟨aF _,bf ((bM G3).trans f0) _,bf ((bM G3).trans f2) _,xZ _,os.length,os.length,λ_=>.undef,bf (j3 f3) _,cX.nil (wj _) _ (aR _) _ _⟩ (Xv @ao.eq_1) ?_
 rintro⟨i,ot⟩⟨hi,k0,k2,jo,b,ow,C2,k3,hP⟩Ql ak ar;dsimp only at hi k0 k2 jo k3 hP ⊢;by_cases hi':i<m.ae.length
 ·have wR:=aB (l:=m.ae) (d:=default) hi';have dh:=Nu hm wR;have yC:=hP.len;have I8:=hP.at_;have I9:=hP.uj;have BC:=λX v h2=>cX.app (λc=>yi _) hP X (v:=v) yC (aR _) rfl h2;have jc:=hP.arr;have gD:=Bh (λk=>kq (m.ae.getD k default)++[C2 k]) i;have zP:=OR (λk=>kq (m.ae.getD k default)++[C2 k]) i;generalize qN:(aZ i).map (λk=>kq (m.ae.getD k default)++[C2 k])=R at *;generalize bL:m.ae.getD i default=p at *;have abC:∀ p:Pr,kq p=[aaa p.fst,aaa p.snd,aaa p.bF]:=λ_=>rfl;have gJ:=bf jc;have fA:=λl y=>gz jc l (y:=y);have nj:(ot.set b .gone)[3]?=_:=(bM G3).trans k3;have cF:=bf k3;have BD:=bf nj;have BE:=λl y=>gz nj l (y:=y);rcases n7 p.aD.length with h0|h0
  ·have ht0:=sF h0;have eK:=aaW [] Kq;((repeat'(first|refine Vc (X5 @bL @aQ.eq_1 @ht0 @cD (X5 @cY.{0} @bQ.{0} @gJ @fA (X5 @gD @zP @k3 @nj (X3 @cF @BD @BE)))) eK ?_|(refine Xi ?_ ?_<;>try intro ht)|exact Xx|fail)))
   have hq:=BC [Ob.var (kq p++[AV.tree 1 (ints [])]),Ob.arr 4 [kq p++[AV.tree 1 (ints [])]]] (AV.tree 1 (ints [])) (λos' _=>by
    show wQ p.aD _ _ _ _;rw[ht0];exact .inl ⟨rfl,rfl⟩)
   have w8:=cX.Gn (λc=>yi _) hq (q:=3) G3 (Ob.var [.ref a 1 0 m.cls.length,.ref (ot.length+2) 4 0 (i+1),.lit (.slice none 0 0),aaa m.rules]);rw[gz nj]at w8;exact ak _ (i+1,(ot.set b Ob.gone).set 3 (Ob.var [.ref a 1 0 m.cls.length,.ref (ot.length+2) 4 0 (i+1),.lit (.slice none 0 0),aaa m.rules])++[Ob.var (kq p++[AV.tree 1 (ints [])]),Ob.arr 4 [kq p++[AV.tree 1 (ints [])]],Ob.arr 4 (R++[kq p++[AV.tree 1 (ints [])]])])
    ⟨Kw,bf ((bM G3).trans ((bM G3).trans k0)) _,bf ((bM G3).trans ((bM G3).trans k2)) _,jo.trans (gB.OQ G3 G3 _ _),ot.length+2,_,_,bf (j3 nj) _,w8⟩ Kw (Xv (X2 @ao.eq_1 @abC))
  ·have eK:=Z0 p.aD h0 G3;((repeat'(first|refine Va (X5 @bL @aQ.eq_1 @cD @cY.{0} (X5 @bQ.{0} @gJ @fA @gD (X5 @zP @k3 @nj @cF (X2 @BD @BE)))) ?_|(refine Xi ?_ ?_<;>try intro ht)|exact Xx|fail))<;>try with_reducible intro K hK)
   (refine Xn [] (eK) ?_;simp(disch:=omega)only[Ac,↓Pc,simprocAttr,cD,cY,bQ])
   ((try revert hK K);((refine Va (X5 @bL @aQ.eq_1 @cD @cY.{0} (X5 @bQ.{0} @gJ @fA @gD (X5 @zP @k3 @nj @cF (X2 @BD @BE)))) ?_)))
   have hq:=BC [Ob.var (kq p++[AV.ref (ot.length+1) 1 0 p.aD.length]),Ob.arr 1 (ints p.aD),Ob.arr 4 [kq p++[AV.ref (ot.length+1) 1 0 p.aD.length]]] (AV.ref (ot.length+1) 1 0 p.aD.length) (λos' iB=>by
    show iM 1 os' ot.length (ot.length+3) (.ref (ot.length+1) 1 0 p.aD.length) (ints p.aD);rw[<- lh p.aD];refine aby (b:=ot.length+1) ?_ G3 G3 (ny _);rw[iB _ G3 G9,nN];rfl)
   have w8:=cX.Gn (λc=>yi _) hq (q:=3) G3 (Ob.var [.ref a 1 0 m.cls.length,.ref (ot.length+3) 4 0 (i+1),.lit (.slice none 0 0),aaa m.rules]);rw[gz nj]at w8;exact ak _ (i+1,(ot.set b Ob.gone).set 3 (Ob.var [.ref a 1 0 m.cls.length,.ref (ot.length+3) 4 0 (i+1),.lit (.slice none 0 0),aaa m.rules])++[Ob.var (kq p++[AV.ref (ot.length+1) 1 0 p.aD.length]),Ob.arr 1 (ints p.aD),Ob.arr 4 [kq p++[AV.ref (ot.length+1) 1 0 p.aD.length]],Ob.arr 4 (R++[kq p++[AV.ref (ot.length+1) 1 0 p.aD.length]])])
    ⟨Kw,bf ((bM G3).trans ((bM G3).trans k0)) _,bf ((bM G3).trans ((bM G3).trans k2)) _,jo.trans (gB.OQ G3 G3 _ _),ot.length+3,_,_,bf (j3 nj) _,w8⟩ Kw (Xv (X2 @ao.eq_1 @abC))
 obtain rfl:i=m.ae.length:=G3;have yC:=hP.len;have I8:=hP.at_;have I9:=hP.uj;have aor:=(aY.1 k3).1;((repeat'(first|refine Va X0 ?_|(refine Xi ?_ ?_<;>try intro ht)|exact Xx|fail)))
 refine ar _ _ rfl ?_;clear ak ar Ql;repeat(refine Xu ?_)
 refine Va @ao.eq_1 ?_;refine bD (ay.my 3 2 4 k3 rfl Kq) ?_;rw[gz k3];have wj:∀ Y:Ob,(ot.set 3 Y++[Ob.arr 4 []])[ot.length]?=some (.arr 4 []):=λY=>by
  rw[fO (by rw[bw];exact aR _),bw,jv];rfl
 have xZ:∀ Y:Ob,gB 4 ot.length ot (ot.set 3 Y++[Ob.arr 4 []]):=λY j h1 h2=>by
  rw[dg (by rw[bw];exact h2),bM G3]
 refine aO (λz:Nat×List Ob=>(⟨au [(1,.bm (ao m)),(2,.ptr 2 0 0),(3,.ptr 3 0 0),(65,.tree 4 (rowsOf aV m.ax)),(66,aaa m.ax.length),(67,aaa z.1)],z.2⟩:St))
  (λz=>z.1<=m.ax.length/\z.2[0]?=some (.var zM)/\z.2[2]?=some (.var zM)/\gB 4 ot.length ot z.2/\∃ d,z.2[3]?=some (.var [.ref a 1 0 m.cls.length,.ref b 4 0 m.ae.length,.ref d 4 0 z.1,aaa m.rules])/\ot.length<=d/\z.2[d]?=some (.arr 4 (rowsOf aV (m.ax.take z.1))))
  (λz=>m.ax.length-z.1) (0,ot.set 3 (.var [.ref a 1 0 m.cls.length,.ref b 4 0 m.ae.length,.ref ot.length 4 0 0,aaa m.rules])++[Ob.arr 4 []])
  ⟨aF _,bf ((bM G3).trans k0) _,bf ((bM G3).trans k2) _,xZ _,ot.length,bf (j3 k3) _,aR _,wj _⟩ (Xv @ao.eq_1) ?_
 clear xZ wj;rintro⟨i,oc⟩⟨hi,g0,g2,ov,d,g3,hd,gd⟩Ql ak ar;dsimp only at hi g0 g2 ov g3 gd ⊢;have A2:=(aY.1 gd).1;by_cases hi':i<m.ax.length
 ·have eT:=aB (l:=m.ax) (d:=default) hi';have xR:(m.ax.getD i default).aJ.length<549755813888:=by
   obtain⟨_,_,_,h4⟩:=nG (hm.ct _ eT);have:=AQ hm h4;omega
  have cq:=eJ hi';have mJ:(rowsOf aV (m.ax.take i)).length=i:=by rw[bX,fy];omega
  have jg:(rowsOf aV (m.ax.take i)).take i=rowsOf aV (m.ax.take i):=ej G3;have kH:=lJ (enc:=aV) (m.ax.take i) (m.ax.getD i default);rw[<- cq]at kH;generalize hR:rowsOf aV (m.ax.take i)=R at *;generalize aM:m.ax.getD i default=c at *;have eK:=aaX c.aJ xR;have gJ:=bf gd;have fA:=λl y=>gz gd l (y:=y);have nj:(oc.set d .gone)[3]?=_:=(bM G3).trans g3;have cF:=bf g3;have BD:=bf nj;have BE:=λl y=>gz nj l (y:=y);((repeat'(first|refine Vc (X5 @aM @aV.eq_1 @cD @cY.{0} (X5 @bQ.{0} @gJ @fA @mJ (X5 @jg @g3 @nj @cF (X2 @BD @BE)))) eK ?_|(refine Xi ?_ ?_<;>try intro ht)|exact Xx|fail)))
  refine ak _ (i+1,(oc.set d Ob.gone).set 3 (Ob.var [.ref a 1 0 m.cls.length,.ref b 4 0 m.ae.length,.ref (oc.length+2) 4 0 (i+1),aaa m.rules])++[Ob.var (aV c),Ob.arr 4 [aV c],Ob.arr 4 (R++[aV c])])
   ⟨Kw,bf ((bM G3).trans ((bM G3).trans g0)) _,bf ((bM G3).trans ((bM G3).trans g2)) _,ov.trans (gB.OQ G3 G3 _ _),oc.length+2,bf (j3 nj) _,G3,?_⟩ Kw (Xv (X2 @ao.eq_1 @aV.eq_1))
  rw[fO (by rw[bw,bw];omega),bw,bw,Nat.add_sub_cancel_left,<- kH];rfl
 obtain rfl:i=m.ax.length:=G3;rw[sH]at gd;((repeat'(first|refine Va X0 ?_|(refine Xi ?_ ?_<;>try intro ht)|exact Xx|fail)))
 refine ar _ _ rfl ?_;clear ak ar Ql;repeat(refine Xu ?_)
 refine Va (X3 @g3 @g2 @zM.eq_1) ?_;have g2s:=λy=>j3 (y:=y) g2;unfold gR;simp only[eQ,eG];simp(disch:=omega)only[Ac,↓Pc,simprocAttr,g2s];have aos:=(aY.1 g3).1;have e1:=cX.same (λc=>wO _) hC (jo.mono (aR _) G3) (jo a G3 Gu);have e2:=cX.same (λc=>wO _) e1 (ov.mono (aR _) G3) (ov a G3 G3);have e3:=cX.same (λc=>yi _) hP (ov.mono G3 G3) (ov b G3 yC);refine⟨_,_,⟨(bM G3).trans g0,a,b,d,rfl,Cm,C,os.length,ow,C2,cX.low (cX.Gn (λc=>wO _) e2 G3 _) G3,cX.Gn (λc=>yi _) e3 G3 _,Gu,(bM G3).trans gd,G3⟩,ey rfl ?_ rfl⟩;rw[bw];omega
def Zp(l:List (Int×Int))(g:FuncId)(a6:List AV)(aa:List Ob)(p:(Int×Int)->Bool)(hl:l.length<9223372036854775808)(hg:∀ x∈l,an Tryz.prog g ([.agg (aK x)]++a6) aa (.lit (.bool (p x))) aa):
  an Tryz.prog 152 [.tree 2 (rowsOf aK l),.fn g a6] aa (aaa (dH p 0 l)) aa:=by
 generalize aj:dH p 0 l=res;refine an.aC 19 aa.length [.tmp 4] Tryz.func152 ?_;refine Vb (X3 @bX @fY @aK.eq_1) ?_;refine aO (λk:Nat=>(⟨au [(0,.tree 2 (rowsOf aK l)),(1,.fn g a6),(7,aaa l.length),(8,aaa k)],aa⟩:St)) (λk=>k<=l.length/\dH p k (l.drop k)=res) (λk=>l.length-k) 0 ⟨aF _,aj⟩ (Xv X0) ?_;rintro k⟨hk,hr⟩Ql ak ar;by_cases aL:k<l.length
 ·have hx:=hg _ (aB (d:=default) aL);have hd:=cN l k default aL;generalize aS:l.getD k default=x at *;rw[hd,dH]at hr;simp only[dP,dZ,aK]at hx;((repeat'(first|refine Vb (X4 @bX @fY @aK.eq_1 @aS) ?_|(refine Xi ?_ ?_<;>try intro ht)|exact Xx|fail))<;>try with_reducible intro K hK)
  refine il hx (aR _) ?_;((try revert hK K);(repeat'(first|refine Vb (X3 @bX @fY @aK.eq_1) ?_|(refine Xi ?_ ?_<;>try intro ht)|fail)))
  ·rw[if_pos (by assumption)]at hr;rw[<- hr];exact ey rfl (aR _) rfl
  ·rw[if_neg (by simp_all)]at hr;exact ak _ (k+1) ⟨G3,hr⟩ G3 (Xv X0)
 ·((repeat'(first|refine Vb (X3 @bX @fY @aK.eq_1) ?_|(refine Xi ?_ ?_<;>try intro ht)|exact Xx|fail)))
  rw[cM G3,dH]at hr;rw[<- hr];exact ey rfl (aR _) rfl
def JU{α:Type}(p:α->Bool):∀ (l:List α) (k:Nat),dH p k l = -1->l.filter (λx=>!p x)=l
 |[],k,_=>rfl
 |x::r,k,h=>by
  rw[dH]at h;split at h
  ·omega
  ·rename_i hp;rw[List.filter_cons_of_pos (by simpa using hp),JU p r (k+1) h]
def JV{α:Type}(p:α->Bool):∀ (l:List α) (k:Nat),dH p k l≠-1->∃ i,dH p k l=((k+i:Nat):Int)/\i<l.length/\(l.take (i+1)).filter (λx=>!p x)=l.take i
 |[],k,h=>absurd rfl h
 |x::r,k,h=>by
  rw[dH]at h ⊢;by_cases hp:p x=true
  ·rw[if_pos hp];exact⟨0,rfl,G9,by simp[hp]⟩
  ·rw[if_neg hp]at h ⊢;obtain⟨i,h1,h2,h3⟩:=JV p r (k+1) h;refine⟨i+1,by rw[h1];congr 1;omega,PX,?_⟩;rw[List.take_succ_cons,List.filter_cons_of_pos (by simpa using hp),h3];rfl
def OS{α:Type}{Y:List α}{i:Nat}{x:α}(h:i<Y.length):(Y.set i x).take (i+1)=Y.take i++[x]:=by
 rw[List.take_succ_eq_append_getElem (by simpa using h),List.take_set_of_le (aR _)];simp
def eY.JW{σ:St}{kp:Nat->Prop}{ρ:Nat->Nat}{snap:Bool}:∀ {l:List AV},jl l=true->eY (aI σ kp ρ snap) l l
 |[],_=>trivial
 |v::l,h=>by
  simp only[jl,bk]at h;exact⟨.pure h.1,eY.JW h.2⟩
def lZ(b:Nat)(os ob:List Ob):Prop:=os.length<=ob.length/\∀ k,k≠b->k<os.length->ob[k]?=os[k]?
def lZ.refl(b:Nat)(os:List Ob):lZ b os os:=⟨aR _,λ_ _ _=>rfl⟩
def lZ.step{b:Nat}{os ob:List Ob}(h:lZ b os ob)(y:Ob)(L:List Ob):lZ b os (ob.set b y++L) :=
 ⟨by rw[bQ,bw];have:=h.1;omega,λk h1 h2=>by
  rw[dg (by rw[bw];have:=h.1;omega),bM (Ne.symm h1)];exact h.2 k h1 h2⟩
def lZ.app{b:Nat}{os ob:List Ob}(h:lZ b os ob)(L:List Ob):lZ b os (ob++L) :=
 ⟨by rw[bQ];have:=h.1;omega,λk h1 h2=>by rw[dg (by have:=h.1;omega)];exact h.2 k h1 h2⟩
def ah5(xs:List (Int×Int))(rest:List (List AV))(g:FuncId)(a6:List AV)(p:(Int×Int)->Bool)(os:List Ob)(b:Nat)(hb:os[b]?=some (.arr 2 (rowsOf aK xs++rest)))(hw:∀ row∈rest,row.length=2)(hl:xs.length<1000000)(q6:jl a6=true)(hg:∀ x∈xs,an Tryz.prog g ([.agg (aK x)]++a6) [] (.lit (.bool (p x))) []):
  fG Tryz.prog 131 [.ref b 2 0 xs.length,.fn g a6] os (λr ob=>r=.ref b 2 0 (xs.filter λx=>!p x).length/\lZ b os ob/\∃ sc,ob[b]?=some (.arr 2 (rowsOf aK (xs.filter λx=>!p x)++sc))/\∀ row∈sc,row.length=2):=by
 have eM:=Zp xs g a6 [] p G3 hg;have qu:=(aY.1 hb).1;have Gv:∀ row∈rowsOf aK xs++rest,row.length=2:=λrow hr=>by
  rcases cz.1 hr with h|h
  ·exact fQ _ row h
  ·exact hw row h
 have mj:∀ e:Nat->AV,cG ⟨e,os⟩ (·∈([]:List Nat)) (.tree 2 (rowsOf aK xs)) (.ref b 2 0 xs.length):=λe =>
  iM.cp (.inr ⟨b,rest,by rw[bX],aF _,qu,hb,Gv⟩) (λi _ _=>G9) (jX _)
 refine fG.aC 42 os.length [.tmp 4] Tryz.func131 ?_;((refine Va X0 ?_)<;>try with_reducible intro K hK)
 refine pI [] eM Kq trivial ⟨aI.snap _ _ rfl (mj _),.pure (by simpa [gQ] using q6),trivial⟩ rfl G9 ?_;simp(disch:=omega)only[Ac,↓Pc,simprocAttr];by_cases vI:dH p 0 xs = -1
 ·have fK:=JU p xs 0 vI;rw[vI];((try revert hK K);(repeat'(first|refine Va X0 ?_|(refine Xi ?_ ?_<;>try intro ht)|exact Xx|fail)))
  unfold gR;simp only[eQ,eG];simp(disch:=omega)only[Ac,↓Pc,simprocAttr];exact⟨_,_,⟨by rw[fK],lZ.refl _ _,rest,by rw[fK];exact hb,hw⟩,ey rfl (aR _) rfl⟩
 ·obtain⟨i0,h1,h2,h3⟩:=JV p xs 0 vI;rw[gf]at h1;rw[h1];clear eM mj;((try revert hK K);(repeat'(first|refine Va X0 ?_|(refine Xi ?_ ?_<;>try intro ht)|exact Xx|fail)))
  refine aO (λz:Nat×Nat×List (Int×Int)×List Ob=>(⟨au [(0,.ref b 2 0 xs.length),(1,.fn g a6),(5,aaa z.2.1),(6,aaa z.1)],z.2.2.2⟩:St))
   (λz=>z.1<=xs.length/\z.2.1<z.1/\z.2.2.1.length=xs.length/\(xs.take z.1).filter (λx=>!p x)=z.2.2.1.take z.2.1/\(∀ k,z.1<=k->z.2.2.1.getD k default=xs.getD k default)/\lZ b os z.2.2.2/\z.2.2.2[b]?=some (.arr 2 (rowsOf aK z.2.2.1++rest)))
   (λz=>xs.length-z.1) (i0+1,i0,xs,os) ⟨h2,uK _,rfl,h3,λ_ _=>rfl,lZ.refl _ _,hb⟩ (Xv X0) ?_
  rintro⟨j,i,Y,ob⟩⟨hj,yx,hY,jW,oF,jC,a8⟩Ql ak ar;dsimp only at hj yx hY jW oF jC a8 ⊢;have gD:(rowsOf aK Y++rest).length=xs.length+rest.length:=by rw[bQ,bX,hY]
  have gJ:=bf a8;have fA:=λl y=>gz a8 l (y:=y);by_cases dx:j<xs.length
  ·have sq:=aB (l:=xs) (d:=default) dx;have hx:=hg _ sq;have bj:(rowsOf aK Y++rest)[j]?=some (aK (xs.getD j default)):=by
    rw[dg (by rw[bX];omega),xS _ _ G3,oF j (aR _)]
   have Gw:(rowsOf aK Y++rest).getD j []=aK (xs.getD j default):=by rw[aG,bj];rfl
   have Gx:(rowsOf aK Y++rest)[i]?=some (aK (Y.getD i default)):=by
    rw[dg (by rw[bX];omega),xS _ _ G3]
   generalize Y.getD i default=y0 at *;have cq:=eJ dx;generalize aS:xs.getD j default=x at *;simp only[dP,dZ,aK]at hx;have iq:(rowsOf aK Y++rest).set i [aaa x.1,aaa x.2]=rowsOf aK (Y.set i x)++rest:=by
    rw[Hf _ _ (by rw[bX];omega),<- Cv];rfl
   generalize qN:rowsOf aK Y++rest=R at *;repeat'(first|((fail_if_success (first|refine dE 8 ?_|refine dF 8 ?_));refine Xr (X5 @a8 @gD @bj @Gw (X2 @aK.eq_1 @cD)) ?_;intro K hK)|(refine hK _ ?_;clear hK K)|(refine Xi ?_ ?_<;>try intro ht)|refine Xy ?_|refine Xd ?_ ?_|exact Xx|fail)
   ((refine Va @cD ?_)<;>try with_reducible intro K hK)
   refine ez [] hx Kq trivial ⟨.pure rfl,eY.JW q6⟩ ?_;simp(disch:=omega)only[Ac,↓Pc,simprocAttr,cD];have w7:=(aY.1 a8).1;cases lP:p x
   ·((try revert hK K);(repeat'(first|refine Va (X5 @a8 @gJ @fA @gD (X5 @Gx @aK.eq_1 @iq @lP (X2 @cD @jP))) ?_|(refine Xi ?_ ?_<;>try intro ht)|exact Xx|fail)))
    all_goals try(exfalso;simp_all;done)
    all_goals
     exact ak _ (j+1,i+1,Y.set i x,ob.set b (.arr 2 (rowsOf aK (Y.set i x)++rest))++[.var (aK x)]) ⟨Kw,Kw,by simpa using hY,by
      dsimp only;rw[cq,BY,jW,OS G3];simp[lP],λk hk=>by
      dsimp only at hk ⊢;rw[aG,bM G3,<- aG];exact oF k G3,jC.step _ _,bf (j3 a8) _⟩ Kw (Xv @aK.eq_1)
   ·((try revert hK K);(repeat'(first|refine Va (X5 @a8 @gJ @fA @gD (X3 @lP @cD @iZ)) ?_|(refine Xi ?_ ?_<;>try intro ht)|exact Xx|fail)))
    all_goals try(exfalso;simp_all;done)
    all_goals
     exact ak _ (j+1,i,Y,ob++[.var (aK x)]) ⟨Kw,Kw,hY,by
      dsimp only;rw[cq,BY,jW];simp[lP],λk hk=>oF k (by dsimp only at hk;omega),jC.app _,by dsimp only;rw[qN];exact bf a8 _⟩ Kw (Xv @aK.eq_1)
  ·obtain rfl:j=xs.length:=G3;rw[sH]at jW;((repeat'(first|refine Va (X2 @a8 @gD) ?_|(refine Xi ?_ ?_<;>try intro ht)|exact Xx|fail)))
   refine ar _ _ rfl ?_;clear ak ar Ql;repeat(refine Xu ?_)
   have lH:=λy=>j3 (y:=y) a8;have Gy:∀ row∈(rowsOf aK Y++rest).drop (i+(xs.length-i)),row.length=2:=λrow hr=>by
    rcases cz.1 (vT hr) with h|h
    ·exact fQ _ row h
    ·exact hw row h
   refine Va (X5 @a8 @gD @lH @oN.{0,0} @fE.{0,0}) ?_;unfold gR;simp only[eQ,eG];simp(disch:=omega)only[Ac,↓Pc,simprocAttr];have iU:(xs.filter λx=>!p x).length=i:=by rw[jW,fy];omega
   refine⟨_,_,⟨by rw[iU],by have:=jC.step (.arr 2 ((rowsOf aK Y++rest).take i++bG (xs.length-i) [aaa 0,aaa 0]++(rowsOf aK Y++rest).drop (i+(xs.length-i)))) [];rwa [ic]at this,bG (xs.length-i) [aaa 0,aaa 0]++(rowsOf aK Y++rest).drop (i+(xs.length-i)),?_,λrow hr=>?_⟩,ey rfl (by rw[bw];exact jC.1) rfl⟩
   ·rw[lH,<- cY,jW];congr 4;unfold rowsOf;rw[xy,Hg (by rw[eO];omega)]
   ·rcases cz.1 hr with h|h
    ·rw[BU h];rfl
    ·exact Gy row h
def aia(xs:List Ct)(rest:List (List AV))(g:FuncId)(a6:List AV)(p:Ct->Bool)(os:List Ob)(b:Nat)(hb:os[b]?=some (.arr 4 (rowsOf aV xs++rest)))(hw:∀ row∈rest,row.length=4)(hl:xs.length<1000000)(q6:jl a6=true)(hg:∀ x∈xs,an Tryz.prog g ([.agg (aV x)]++a6) [] (.lit (.bool (p x))) []):
  fG Tryz.prog 133 [.ref b 4 0 xs.length,.fn g a6] os (λr ob=>r=.ref b 4 0 (xs.filter λx=>!p x).length/\lZ b os ob/\∃ sc,ob[b]?=some (.arr 4 (rowsOf aV (xs.filter λx=>!p x)++sc))/\∀ row∈sc,row.length=4):=by
 have eM:=Wy xs g a6 [] p G3 hg;have qu:=(aY.1 hb).1;have Gv:∀ row∈rowsOf aV xs++rest,row.length=4:=λrow hr=>by
  rcases cz.1 hr with h|h
  ·exact fQ _ row h
  ·exact hw row h
 have mj:∀ e:Nat->AV,cG ⟨e,os⟩ (·∈([]:List Nat)) (.tree 4 (rowsOf aV xs)) (.ref b 4 0 xs.length):=λe =>
  iM.cp (.inr ⟨b,rest,by rw[bX],aF _,qu,hb,Gv⟩) (λi _ _=>G9) (jX _)
 refine fG.aC 42 os.length [.tmp 4] Tryz.func133 ?_;((refine Va X0 ?_)<;>try with_reducible intro K hK)
 refine pI [] eM Kq trivial ⟨aI.snap _ _ rfl (mj _),.pure (by simpa [gQ] using q6),trivial⟩ rfl G9 ?_;simp(disch:=omega)only[Ac,↓Pc,simprocAttr];by_cases vI:dH p 0 xs = -1
 ·have fK:=JU p xs 0 vI;rw[vI];((try revert hK K);(repeat'(first|refine Va X0 ?_|(refine Xi ?_ ?_<;>try intro ht)|exact Xx|fail)))
  unfold gR;simp only[eQ,eG];simp(disch:=omega)only[Ac,↓Pc,simprocAttr];exact⟨_,_,⟨by rw[fK],lZ.refl _ _,rest,by rw[fK];exact hb,hw⟩,ey rfl (aR _) rfl⟩
 ·obtain⟨i0,h1,h2,h3⟩:=JV p xs 0 vI;rw[gf]at h1;rw[h1];clear eM mj;((try revert hK K);(repeat'(first|refine Va X0 ?_|(refine Xi ?_ ?_<;>try intro ht)|exact Xx|fail)))
  refine aO (λz:Nat×Nat×List Ct×List Ob=>(⟨au [(0,.ref b 4 0 xs.length),(1,.fn g a6),(5,aaa z.2.1),(6,aaa z.1)],z.2.2.2⟩:St))
   (λz=>z.1<=xs.length/\z.2.1<z.1/\z.2.2.1.length=xs.length/\(xs.take z.1).filter (λx=>!p x)=z.2.2.1.take z.2.1/\(∀ k,z.1<=k->z.2.2.1.getD k default=xs.getD k default)/\lZ b os z.2.2.2/\z.2.2.2[b]?=some (.arr 4 (rowsOf aV z.2.2.1++rest)))
   (λz=>xs.length-z.1) (i0+1,i0,xs,os) ⟨h2,uK _,rfl,h3,λ_ _=>rfl,lZ.refl _ _,hb⟩ (Xv X0) ?_
  rintro⟨j,i,Y,ob⟩⟨hj,yx,hY,jW,oF,jC,a8⟩Ql ak ar;dsimp only at hj yx hY jW oF jC a8 ⊢;have gD:(rowsOf aV Y++rest).length=xs.length+rest.length:=by rw[bQ,bX,hY]
  have gJ:=bf a8;have fA:=λl y=>gz a8 l (y:=y);by_cases dx:j<xs.length
  ·have sq:=aB (l:=xs) (d:=default) dx;have hx:=hg _ sq;have bj:(rowsOf aV Y++rest)[j]?=some (aV (xs.getD j default)):=by
    rw[dg (by rw[bX];omega),xS _ _ G3,oF j (aR _)]
   have Gw:(rowsOf aV Y++rest).getD j []=aV (xs.getD j default):=by rw[aG,bj];rfl
   have Gx:(rowsOf aV Y++rest)[i]?=some (aV (Y.getD i default)):=by
    rw[dg (by rw[bX];omega),xS _ _ G3]
   generalize Y.getD i default=y0 at *;have cq:=eJ dx;generalize aS:xs.getD j default=x at *;simp only[dP,dZ,aV]at hx;have iq:(rowsOf aV Y++rest).set i [aaa x.bF,.tree 3 (rowsOf iH x.aJ),aaa x.most,aaa x.b8]=rowsOf aV (Y.set i x)++rest:=by
    rw[Hf _ _ (by rw[bX];omega),<- Cv];rfl
   generalize qN:rowsOf aV Y++rest=R at *;repeat'(first|((fail_if_success (first|refine dE 8 ?_|refine dF 8 ?_));refine Xr (X5 @a8 @gD @bj @Gw (X2 @aV.eq_1 @cD)) ?_;intro K hK)|(refine hK _ ?_;clear hK K)|(refine Xi ?_ ?_<;>try intro ht)|refine Xy ?_|refine Xd ?_ ?_|exact Xx|fail)
   ((refine Va @cD ?_)<;>try with_reducible intro K hK)
   refine ez [] hx Kq trivial ⟨.pure rfl,eY.JW q6⟩ ?_;simp(disch:=omega)only[Ac,↓Pc,simprocAttr,cD];have w7:=(aY.1 a8).1;cases lP:p x
   ·((try revert hK K);(repeat'(first|refine Va (X5 @a8 @gJ @fA @gD (X5 @Gx @aV.eq_1 @iq @lP (X2 @cD @jP))) ?_|(refine Xi ?_ ?_<;>try intro ht)|exact Xx|fail)))
    all_goals try(exfalso;simp_all;done)
    all_goals
     exact ak _ (j+1,i+1,Y.set i x,ob.set b (.arr 4 (rowsOf aV (Y.set i x)++rest))++[.var (aV x)]) ⟨Kw,Kw,by simpa using hY,by
      dsimp only;rw[cq,BY,jW,OS G3];simp[lP],λk hk=>by
      dsimp only at hk ⊢;rw[aG,bM G3,<- aG];exact oF k G3,jC.step _ _,bf (j3 a8) _⟩ Kw (Xv @aV.eq_1)
   ·((try revert hK K);(repeat'(first|refine Va (X5 @a8 @gJ @fA @gD (X3 @lP @cD @iZ)) ?_|(refine Xi ?_ ?_<;>try intro ht)|exact Xx|fail)))
    all_goals try(exfalso;simp_all;done)
    all_goals
     exact ak _ (j+1,i,Y,ob++[.var (aV x)]) ⟨Kw,Kw,hY,by
      dsimp only;rw[cq,BY,jW];simp[lP],λk hk=>oF k (by dsimp only at hk;omega),jC.app _,by dsimp only;rw[qN];exact bf a8 _⟩ Kw (Xv @aV.eq_1)
  ·obtain rfl:j=xs.length:=G3;rw[sH]at jW;((repeat'(first|refine Va (X2 @a8 @gD) ?_|(refine Xi ?_ ?_<;>try intro ht)|exact Xx|fail)))
   refine ar _ _ rfl ?_;clear ak ar Ql;repeat(refine Xu ?_)
   have lH:=λy=>j3 (y:=y) a8;have Gy:∀ row∈(rowsOf aV Y++rest).drop (i+(xs.length-i)),row.length=4:=λrow hr=>by
    rcases cz.1 (vT hr) with h|h
    ·exact fQ _ row h
    ·exact hw row h
   refine Va (X5 @a8 @gD @lH @oN.{0,0} @fE.{0,0}) ?_;unfold gR;simp only[eQ,eG];simp(disch:=omega)only[Ac,↓Pc,simprocAttr];have iU:(xs.filter λx=>!p x).length=i:=by rw[jW,fy];omega
   refine⟨_,_,⟨by rw[iU],by have:=jC.step (.arr 4 ((rowsOf aV Y++rest).take i++bG (xs.length-i) [aaa 0,.lit (.slice none 0 0),aaa 0,aaa 0]++(rowsOf aV Y++rest).drop (i+(xs.length-i)))) [];rwa [ic]at this,bG (xs.length-i) [aaa 0,.lit (.slice none 0 0),aaa 0,aaa 0]++(rowsOf aV Y++rest).drop (i+(xs.length-i)),?_,λrow hr=>?_⟩,ey rfl (by rw[bw];exact jC.1) rfl⟩
   ·rw[lH,<- cY,jW];congr 4;unfold rowsOf;rw[xy,Hg (by rw[eO];omega)]
   ·rcases cz.1 hr with h|h
    ·rw[BU h];rfl
    ·exact Gy row h
def gM(m:ah)(cls:List (List bV))(ae:List Pr)(ax:List Ct):List Ob :=
 [.var (ao m),.var [.lit (.slice none 0 0),.lit (.slice none 0 0),.lit (.slice none 0 0),aaa 0],
  .var [.ref 3 1 0 cls.length,.ref 4 4 0 ae.length,.ref 5 4 0 ax.length,aaa m.rules],.arr 1 (rowsOf a9 cls),.arr 4 (rowsOf aQ ae),.arr 4 (rowsOf aV ax)]
def ahF(m:ah)(aH:List Bool)(hb:MB m)(hk:aH.length<9223372036854775808):an Tryz.prog 32 [.agg (ao m),.tree 1 (aX aH)] [] (.bH [.agg (ao (tW m aH).1),aaa (tW m aH).2]) []:=by
 generalize aj:tW m aH=res;unfold tW at aj;have hval:=Bf m hb;by_cases hv:ek m=0;rotate_left
 ·rw[if_pos hv]at aj;subst aj;refine an.aC 153 0 [.cell 4 37,.tmp 5] Tryz.func32 ?_;((repeat'(first|refine Vd X0 hval ?_|(refine Xi ?_ ?_<;>try intro ht)|exact Xx|fail)))
  simp(disch:=omega)only[Ac,↓Pc,simprocAttr];exact dr [] true Kq trivial Kq Kq (Dt _)
 rw[if_neg G3]at aj;rw[hv]at hval;by_cases cF:(aH.length:Int)=m.rules;rotate_left
 ·rw[if_pos cF]at aj;subst aj;refine an.aC 153 0 [.cell 4 37,.tmp 5] Tryz.func32 ?_;((repeat'(first|refine Vd X0 hval ?_|(refine Xi ?_ ?_<;>try intro ht)|exact Xx|fail)))
  simp(disch:=omega)only[Ac,↓Pc,simprocAttr];exact dr [] true Kq trivial Kq Kq (Dt _)
 rw[if_neg G3]at aj;have hm:=iu.1 hv;have zG:=hm.cls;have dh:=hm.ae;have aot:=hm.ax;unfold m5 at aj;generalize eT:(m.cls.map λl=>l.map (mF aH))=OO at *;generalize wR:(m.ae.filter λp=>hU aH p.bF)=abw at *;generalize yQ:(m.ax.filter λc=>hU aH c.bF)=abx at *;subst aj;refine an.aC 153 0 [.cell 4 37,.tmp 5] Tryz.func32 ?_;((repeat'(first|refine Vd X0 hval ?_|(refine Xi ?_ ?_<;>try intro ht)|exact Xx|fail)))
 refine aO (λz:Nat×List (List bV)=>(⟨au [(1,.tree 1 (aX aH)),(2,.ptr 0 0 0),(4,.ptr 1 0 0),(7,.ptr 2 0 0),(8,aaa z.1)],gM m z.2 [] []⟩:St))
  (λz=>z.1<=m.cls.length/\z.2.length=z.1/\z.2++(m.cls.drop z.1).map (λl=>l.map (mF aH))=OO) (λz=>m.cls.length-z.1) (0,[]) ⟨aF _,rfl,eT⟩ (by
   refine ay.trans (ay.my 2 0 1 rfl rfl Kq) ?_;refine ay.trans (ay.my 2 1 4 rfl rfl Kq) ?_;refine ay.trans (ay.my 2 2 4 rfl rfl Kq) ?_;unfold gM;exact Xv X0) ?_
 rintro⟨i,cls⟩⟨hi,bY,cB⟩Ql ak ar;dsimp only at hi bY cB ⊢;unfold gM;by_cases hi':i<m.cls.length
 ·have hd:=cN m.cls i default hi';have qW:=aB (d:=(default:List bV)) hi';have sh:=hm.opt _ qW;generalize dI:m.cls.getD i default=l at *;rw[hd,dK]at cB;generalize vC:l.map (mF aH)=OP at *;((repeat'(first|refine Va @dI ?_|(refine Xi ?_ ?_<;>try intro ht)|exact Xx|fail)))
  refine aO (λz:Nat×List bV=>(⟨au [(1,.tree 1 (aX aH)),(2,.ptr 0 0 0),(4,.ptr 1 0 0),(7,.ptr 2 0 0),(8,aaa i),(9,.ref 6 6 0 z.2.length),(10,aaa z.1)],gM m cls [] []++[.arr 6 (rowsOf cK z.2)]⟩:St))
   (λz=>z.1<=l.length/\z.2.length=z.1/\z.2++(l.drop z.1).map (mF aH)=OP) (λz=>l.length-z.1) (0,[]) ⟨aF _,rfl,vC⟩ (by
    refine ay.trans (ay.nil 9 6 (by simp only[Kc,simprocAttr]) Kq) ?_;unfold gM;exact Xv X0) ?_
  rintro⟨k,ol⟩⟨iK,fX,vH⟩cL a7 ba;dsimp only at iK fX vH ⊢;unfold gM;simp only[dP,dZ];by_cases aL:k<l.length
  ·have wI:=cN l k default aL;have fq:=aB (d:=(default:bV)) aL;obtain⟨lr,sP⟩:=abv hm qW fq;generalize kY:l.getD k default=o at *;rw[wI,dK]at vH;generalize Bn:mF aH o=ko at *;generalize fC:(o.ch.filter λc=>hU aH c.1)=ak6;((repeat'(first|refine Va (X2 @dI @kY) ?_|(refine Xi ?_ ?_<;>try intro ht)|exact Xx|fail)))
   refine aO (λz:Nat×List (Int×Int)=>(⟨au [(1,.tree 1 (aX aH)),(2,.ptr 0 0 0),(4,.ptr 1 0 0),(7,.ptr 2 0 0),(8,aaa i),(9,.ref 6 6 0 ol.length),(10,aaa k),(11,.ptr 7 0 0),(12,.tree 2 (rowsOf aK o.ch)),(13,aaa z.1)],
     gM m cls [] []++[.arr 6 (rowsOf cK ol),.var [aaa o.wk,aaa o.day,aaa o.st,aaa o.len,aaa o.room,.ref 8 2 0 z.2.length],.arr 2 (rowsOf aK z.2)]⟩:St))
    (λz=>z.1<=o.ch.length/\z.2.length<=z.1/\z.2++((o.ch.drop z.1).filter λc=>hU aH c.1)=ak6) (λz=>o.ch.length-z.1) (0,[]) ⟨aF _,aR _,fC⟩ (by
     refine ay.trans (ay.my 7 5 2 rfl rfl Kq) ?_;unfold gM;exact Xv X0) ?_
   rintro⟨j,ch⟩⟨hj,th,zQ⟩kX fJ eR;dsimp only at hj th zQ ⊢;unfold gM;simp only[dP,dZ];by_cases dx:j<o.ch.length
   ·have qV:=cN o.ch j default dx;have ak7:=aB (d:=(default:Int×Int)) dx;have ln:=sP _ ak7;generalize aM:o.ch.getD j default=c at *;rw[qV,z9]at zQ;generalize p5:hU aH c.1=kb at *;have Gz:aH.getD c.1.toNat false=kb:=p5;((repeat'(first|refine Va (X2 @aM @Gz) ?_|(refine Xi ?_ ?_<;>try intro ht)|exact Xx|fail)))
    ·rw[if_pos (by assumption)]at zQ;refine fJ _ (j+1,ch++[c]) ⟨Kw,PX,by rw[<- zQ];simp⟩ Kw ?_;have e:=lJ (enc:=aK) ch c;simp only[aK]at e;rw[e];unfold gM;simp only[dP,dZ];exact Xs false [0,1,2,3,4,5,6,7,10] X0
    ·rw[if_neg (by simp[*])]at zQ;refine fJ _ (j+1,ch) ⟨Kw,Kw,zQ⟩ Kw ?_;unfold gM;exact Xv X0
   ·((repeat'(first|refine Va X0 ?_|(refine Xi ?_ ?_<;>try intro ht)|exact Xx|fail)))
    rw[cM G3,DX,ic]at zQ;refine eR _ _ rfl ?_;clear fJ eR kX;repeat(refine Xu ?_)
    refine bD (σ':=⟨au [(1,.tree 1 (aX aH)),(2,.ptr 0 0 0),(4,.ptr 1 0 0),(7,.ptr 2 0 0),(8,aaa i),(9,.ref 6 6 0 ol.length),(10,aaa k),(11,.ptr 7 0 0)],
     gM m cls [] []++[.arr 6 (rowsOf cK ol),.var [aaa o.wk,aaa o.day,aaa o.st,aaa o.len,aaa o.room,.ref 8 2 0 ch.length],.arr 2 (rowsOf aK ch)]⟩) (by unfold gM;exact Xv X0) ?_
    unfold gM;simp only[dP,dZ];refine bD (ay.kQ 8 7 5 2 rfl rfl (by rw[bX];rfl) (fQ _) (jX _)) ?_;refine Va X0 ?_;have abD:mF aH o=⟨o.wk,o.day,o.st,o.len,o.room,ch⟩:=by rw[mF,fC,zQ]
    refine a7 _ (k+1,ol++[ko]) ⟨Kw,PX,by rw[<- vH];simp⟩ Kw ?_;have e:=lJ (enc:=cK) ol ko;rw[<- Bn,abD]at e;simp only[cK]at e;rw[e,<- Bn,abD];unfold gM;simp only[dP,dZ];exact Xs false [0,1,2,3,4,5,10] X0
  ·((repeat'(first|refine Va @dI ?_|(refine Xi ?_ ?_<;>try intro ht)|exact Xx|fail)))
   rw[cM G3,k7,ic]at vH;refine ba _ _ rfl ?_;clear a7 ba cL;repeat(refine Xu ?_)
   refine bD (σ':=⟨au [(1,.tree 1 (aX aH)),(2,.ptr 0 0 0),(4,.ptr 1 0 0),(7,.ptr 2 0 0),(8,aaa i),(9,.tree 6 (rowsOf cK ol))],gM m cls [] []⟩) (by unfold gM;exact Xs true [0,1,2,3,4,5] X0) ?_;unfold gM;refine Va X0 ?_;refine ak _ (i+1,cls++[ol]) ⟨Kw,PX,by rw[<- cB,<- vH];simp⟩ Kw ?_;have e:=lJ (enc:=a9) cls ol;simp only[a9]at e;rw[e];unfold gM;exact Xs false [0,1,2,7,4,5] X0
 ·((repeat'(first|refine Va X0 ?_|(refine Xi ?_ ?_<;>try intro ht)|exact Xx|fail)))
  rw[cM G3,k7,ic]at cB;refine ar _ _ rfl ?_;clear ak ar Ql;repeat(refine Xu ?_)
  refine bD (σ':=⟨au [(1,.tree 1 (aX aH)),(2,.ptr 0 0 0),(4,.ptr 1 0 0),(7,.ptr 2 0 0)],gM m cls [] []⟩) (by unfold gM;exact Xv X0) ?_;unfold gM;refine Va X0 ?_;refine aO (λz:Nat×List Pr=>(⟨au [(1,.tree 1 (aX aH)),(2,.ptr 0 0 0),(4,.ptr 1 0 0),(7,.ptr 2 0 0),(14,aaa z.1)],gM m cls z.2 []⟩:St))
   (λz=>z.1<=m.ae.length/\z.2.length<=z.1/\z.2++((m.ae.drop z.1).filter λp=>hU aH p.bF)=abw) (λz=>m.ae.length-z.1) (0,[]) ⟨aF _,aR _,wR⟩ (by unfold gM;exact Xv X0) ?_
  clear hi hi';rintro⟨i,ae⟩⟨hi,bL,km⟩Ql ak ar;dsimp only at hi bL km ⊢;unfold gM;by_cases hi':i<m.ae.length
  ·have hd:=cN m.ae i default hi';have dJ:=m4 (jy hm.pr _ (aB (d:=(default:Pr)) hi'));generalize aM:m.ae.getD i default=c at *;rw[hd,z9]at km;generalize p5:hU aH c.bF=kb at *;have Gz:aH.getD c.bF.toNat false=kb:=p5;((repeat'(first|refine Va (X2 @aM @Gz) ?_|(refine Xi ?_ ?_<;>try intro ht)|exact Xx|fail)))
   ·rw[if_pos (by assumption)]at km;refine ak _ (i+1,ae++[c]) ⟨Kw,PX,by rw[<- km];simp⟩ Kw ?_;have e:=lJ (enc:=aQ) ae c;simp only[aQ]at e;rw[e];unfold gM;exact Xs false [0,1,2,3,7,5] X0
   ·rw[if_neg (by simp[*])]at km;refine ak _ (i+1,ae) ⟨Kw,Kw,km⟩ Kw ?_;unfold gM;exact Xv X0
  ·((repeat'(first|refine Va X0 ?_|(refine Xi ?_ ?_<;>try intro ht)|exact Xx|fail)))
   rw[cM G3,DX,ic]at km;refine ar _ _ rfl ?_;clear ak ar Ql;repeat(refine Xu ?_)
   refine bD (σ':=⟨au [(1,.tree 1 (aX aH)),(2,.ptr 0 0 0),(4,.ptr 1 0 0),(7,.ptr 2 0 0)],gM m cls ae []⟩) (by unfold gM;exact Xv X0) ?_;unfold gM;refine Va X0 ?_;refine aO (λz:Nat×List Ct=>(⟨au [(1,.tree 1 (aX aH)),(2,.ptr 0 0 0),(4,.ptr 1 0 0),(7,.ptr 2 0 0),(15,aaa z.1)],gM m cls ae z.2⟩:St))
    (λz=>z.1<=m.ax.length/\z.2.length<=z.1/\z.2++((m.ax.drop z.1).filter λp=>hU aH p.bF)=abx) (λz=>m.ax.length-z.1) (0,[]) ⟨aF _,aR _,yQ⟩ (by unfold gM;exact Xv X0) ?_
   clear hi hi';rintro⟨i,ax⟩⟨hi,bL,sk⟩Ql ak ar;dsimp only at hi bL sk ⊢;unfold gM;by_cases hi':i<m.ax.length
   ·have hd:=cN m.ax i default hi';have jr:=nG (hm.ct _ (aB (d:=(default:Ct)) hi'));generalize aM:m.ax.getD i default=c at *;rw[hd,z9]at sk;generalize p5:hU aH c.bF=kb at *;have Gz:aH.getD c.bF.toNat false=kb:=p5;((repeat'(first|refine Va (X2 @aM @Gz) ?_|(refine Xi ?_ ?_<;>try intro ht)|exact Xx|fail)))
    ·rw[if_pos (by assumption)]at sk;refine ak _ (i+1,ax++[c]) ⟨Kw,PX,by rw[<- sk];simp⟩ Kw ?_;have e:=lJ (enc:=aV) ax c;simp only[aV]at e;rw[e];unfold gM;exact Xs false [0,1,2,3,4,7] X0
    ·rw[if_neg (by simp[*])]at sk;refine ak _ (i+1,ax) ⟨Kw,Kw,sk⟩ Kw ?_;unfold gM;exact Xv X0
   ·((repeat'(first|refine Va X0 ?_|(refine Xi ?_ ?_<;>try intro ht)|exact Xx|fail)))
    rw[cM G3,DX,ic]at sk;refine ar _ _ rfl ?_;clear ak ar Ql;repeat(refine Xu ?_)
    refine bD (σ':=⟨au [(4,.ptr 1 0 0),(7,.ptr 2 0 0)],gM m cls ae ax⟩) (by unfold gM;exact Xv X0) ?_;unfold gM;refine bD (ay.kQ 3 2 0 1 rfl rfl (by rw[bX];rfl) (fQ _) (jX _)) ?_;refine bD (ay.kQ 4 2 1 4 rfl rfl (by rw[bX];rfl) (fQ _) (jX _)) ?_;refine bD (ay.kQ 5 2 2 4 rfl rfl (by rw[bX];rfl) (fQ _) (jX _)) ?_;refine Vb X0 ?_;simp(disch:=omega)only[Ac,↓Pc,simprocAttr];rw[<- cB,<- km,<- sk];exact aE rfl rfl
end T

