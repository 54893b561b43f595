import Derived.Test.YtfoopmojjjpapaaGreatX37
import Derived.Test.YtfoopmojjjpapaaGreatX38
import Derived.Test.YtfoopmojjjpapaaGreatX39
import Derived.Test.YtfoopmojjjpapaaGreatX28
set_option linter.all false
set_option maxHeartbeats 0
set_option maxRecDepth 20000
open List renaming replicate→aJ,length→kI,getElem?_map→b9,getElem?_set→bY,getElem?_eq_getElem→bT,mem_singleton→cU,length_replicate→mL,map_append→dR,append_assoc→bC,mem_cons→bj,mem_cons_of_mem→dS,set_set→wE,length_set→bK,map_set→rV,length_append→bE,not_mem_nil→gU,take→iv,cons_append→dq,getD_eq_getElem?_getD→aB,length_take→e8,take_length→Cv,take_of_length_le→c8,nil_append→ec
open Option renaming some→cj
open Nat renaming sub_self→iT,zero_le→aT
open And renaming intro→cJ
open Go Go.Am Go.Proofs
namespace T
def yC(w o:Nat):List Bool:=(aJ w false).set o true
def nL(left:List (List Bool))(c o:Nat):List (List Bool):=left.set c (yC (left.getD c default).length o)
def YM(w o:Nat):(yC w o).length=w:=by simp[yC]
def XI(left:List (List Bool))(c o:Nat):(nL left c o).map kI=left.map kI:=by
 unfold nL;apply List.ext_getElem?;intro j;rw[b9,b9,bY];split
 ·rename_i e;subst e;split
  ·rename_i h2;rw[bT h2];simp[YM,h2]
  ·rename_i h2;rw[List.getElem?_eq_none Iv]
 ·rfl
def YN{σ:St}{kp:Nat->Prop}{c d:List AV}(h:∀ v∈c,(∃ x,v=AV.lit x)\/∃ s r,v=AV.tree s r)(e:d=c):ju (cK σ kp) c d:=by
 subst e
 induction d with
 |nil=>trivial
 |cons v l ih =>
  refine⟨?_,ih λx hx=>h x (by simp[hx])⟩;rcases h v Iw with⟨x,rfl⟩|⟨s,r,rfl⟩
  ·exact .lit _
  ·exact .tree _ _
def ahZ{σ:St}{kp:Nat->Prop}{oi k c:Nat}{left:List (List Bool)}{r:List Bool}(hc:c<left.length)(ho:σ.aa[oi]?=some (.arr 1 ((rowsOf aA left).set c [.ref k 1 0 r.length])))(hk:¬ kp oi)(hr:σ.aa[k]?=some (.arr 1 (bm r)))(y7:¬ kp k):
  cK σ kp (.tree 1 (rowsOf aA (left.set c r))) (.ref oi 1 0 left.length) :=
 cK.mk ho (by simp[rowsOf]) hk (ig _) (kL.D6 (f:=λ_=>[]) (g:=λ_=>[]) (by simp[rowsOf]) λj x d hx hd=>by
  unfold rowsOf at hx hd;rw[b9,bY]at hx;rw[bY]at hd;by_cases e:c=j
  ·subst e;rw[if_pos rfl,if_pos hc]at hx;rw[if_pos rfl,if_pos (by simpa using hc)]at hd;cases hx;cases hd;exact⟨YO hr y7,trivial⟩
  ·rw[if_neg e]at hx hd;rw[b9]at hd;rw[hx]at hd;simp only[cj.injEq]at hd;cases hl:left[j]? with
   |none=>rw[hl]at hx;cases hx
   |some y =>
    rw[hl]at hx;simp only[Option.map_some,cj.injEq]at hx;subst hx;exact YN (λv hv=>by simp only[aA,cU]at hv;exact .inr ⟨_,_,hv⟩) hd.symm)
def Yg(xs:List Int)(h:0<xs.length)(hl:xs.length<549755813888):Holds Tryz.prog 69 [.tree 1 (ints xs)] [] (.ref 0 1 0 xs.length) [.arr 1 (ints xs)]:=by
 refine Holds.aK 8 0 [.tmp 2] Tryz.func69 ?_;((repeat'(first|refine Vb @Fj ?_|(refine Xi ?_ ?_<;>try intro ht)|exact Xx|fail)))
 exact Xw false [1] X0
def ah0(xs:List (List Bool))(h:0<xs.length)(hl:xs.length<549755813888):Holds Tryz.prog 130 [.tree 1 (rowsOf aA xs)] [] (.ref 0 1 0 xs.length) [.arr 1 (rowsOf aA xs)]:=by
 refine Holds.aK 8 0 [.tmp 2] Tryz.func130 ?_;((repeat'(first|refine Vb X0 ?_|(refine Xi ?_ ?_<;>try intro ht)|exact Xx|fail)))
 exact Xw false [1] X0
def agR:Holds Tryz.prog 69 [.lit (.slice none 0 0)] [] (.lit (.slice none 0 0)) []:=by
 refine Holds.aK 8 0 [.tmp 2] Tryz.func69 ?_;((repeat'(first|refine Vb @Option.isNone_none.{0} ?_|(refine Xi ?_ ?_<;>try intro ht)|exact Xx|fail)))
 all_goals first|exact aS rfl rfl|(exfalso;simp at *;done)
def agQ(left:List (List Bool))(c o:Nat)(hc:c<left.length)(ho:o<(left.getD c default).length)(hl:left.length<549755813888)(hw:(left.getD c default).length<549755813888):
  Holds Tryz.prog 97 [.tree 1 (rowsOf aA left),NX c,NX o] [] (.tree 1 (rowsOf aA (nL left c o))) []:=by
 unfold nL;have iK:∀ r:List AV,((rowsOf aA left).set c r)[c]?=some r:=λr=>by rw[bY,if_pos rfl,if_pos (by simpa [rowsOf] using hc)]
 have k8:∀ r:List AV,((rowsOf aA left).set c r).length=left.length:=λr=>by simp[rowsOf]
 generalize gr:left.getD c default=row at *;have Ln:(aJ row.length false).length=row.length:=mL;refine Holds.aK 26 0 [.tmp 6] Tryz.func97 ?_;((refine Vb X0 ?_)<;>try with_reducible intro K hK)
 (refine Xn [] (ah0 left Iv hl) ?_;simp(disch:=omega)only[Ac,↓Pc,simprocAttr,iT,Nat.sub_zero])
 ((try revert hK K);(refine Vb (X5 @gr @aA.eq_1 @A4 @iK (X3 @k8 @Ln @xS)) ?_))
 refine j2 [] true NF trivial NF NF (.snap _ _ rfl ?_);have cQ:(yC row.length o).length=row.length:=YM _ _;exact ahZ (k:=1) (r:=yC row.length o) hc (by rw[cQ];rfl) (kh NF) rfl (kh NF)
section
variable {m:ah} {can:List (List Bool)} {gi ai bi mi:Nat} {D E:List (Nat×Nat)} {W:WS} {os:List Ob}
def mD(n:Nat):List Int:=(List.range n).map λ(i:Nat)=>(i:Int)
def ah1(N k:Nat)(hk:k<N):(mD k++aJ (N-k) 0).set k (k:Int)=mD (k+1)++aJ (N-(k+1)) 0:=by
 have h1:(mD k).length=k:=by simp[mD]
 rw[List.set_append,if_neg Iv,h1,iT,show N-k=(N-(k+1))+1 by omega,List.replicate_succ,List.set_cons_zero];show _=mD (k+1)++_;unfold mD;rw[List.range_succ,dR,bC];rfl
def ah2(hm:VM m)(hf:df m can)(h:WF m can gi ai bi mi D E W os)(hs:mF m W){B:Int}(hB:0<=B/\B<=288230376151711744)(hW:WB B W){round:Nat}(Xp:round<=64):
  cL Tryz.prog 39 [.ptr gi 0 0,NX round] os λr ob=>r=.bu []/\WF m can gi ai bi mi D E (pK m can W round) ob/\Kp mi D E os ob/\mF m (pK m can W round)/\WB (B+14843406974976) (pK m can W round):=by
 have oL:=hm.ae;have qG:=hm.cls;have fv:=h.v;have YP:=aM fv;have e0:∀ N:Nat,aJ N (0:Int)=mD 0++aJ (N-0) 0:=λN=>by simp[mD]
 refine cL.aK 141 os.length [] Tryz.func39 ?_;((try revert hK K);(repeat'(first|refine Va (X5 @fv @YP @ao.eq_1 @bF @bC.{0}) ?_|(refine V2 (X5 @fv @YP @ao.eq_1 @bF @bC.{0}) ?_ ?_<;>try with_reducible intro hb)|(refine Xi ?_ ?_<;>try intro ht)|refine VD ?_ ?_|exact Xx|fail))<;>try with_reducible intro K hK)
 have hN:m.cls.length<9223372036854775808:=Iv;generalize L3:m.cls.length=N at *;refine cp (σ':=⟨an [(1,NX round),(2,.ptr os.length 0 0),(4,NX m.ae.length),(5,.ref (os.length+1) 1 0 N),(32,NX N),(33,NX 0)],os++[.var [.ptr gi 0 0],.arr 1 (ints (mD 0++aJ (N-0) 0))]⟩) (by rw[<- e0];exact Xv X0) ?_;clear e0;refine aU (λk:Nat=>(⟨an [(1,NX round),(2,.ptr os.length 0 0),(4,NX m.ae.length),(5,.ref (os.length+1) 1 0 N),(32,NX N),(33,NX k)],os++[.var [.ptr gi 0 0],.arr 1 (ints (mD k++aJ (N-k) 0))]⟩:St))
  (λk=>k<=N) (λk=>N-k) 0 (aT _) (Xv X0) ?_
 rintro k hk Ql ak ar;have cQ:(mD k++aJ (N-k) 0).length=N:=by simp[mD];omega
 by_cases ba:k<N
 ·have xX:=ah1 N k ba;((try revert hK K);(repeat'(first|refine Va (X3 @bF @cQ @xX) ?_|(refine V2 (X3 @bF @cQ @xX) ?_ ?_<;>try with_reducible intro hb)|(refine Xi ?_ ?_<;>try intro ht)|refine VD ?_ ?_|exact Xx|fail))<;>try with_reducible intro K hK)
  exact ak _ (k+1) Iv Iv (Xv X0)
 ·obtain rfl:k=N:=Iv;((try revert hK K);(repeat'(first|refine Va X0 ?_|(refine V2 X0 ?_ ?_<;>try with_reducible intro hb)|(refine Xi ?_ ?_<;>try intro ht)|refine VD ?_ ?_|exact Xx|fail))<;>try with_reducible intro K hK)
  refine ar _ _ rfl ?_;clear ak ar Ql;repeat(first|refine Xu ?_)
  rw[iT,List.replicate_zero,List.append_nil]at cQ ⊢;((try revert hK K);(repeat'(first|refine Va (X3 @bF @bC.{0} @cQ) ?_|(refine V2 (X3 @bF @bC.{0} @cQ) ?_ ?_<;>try with_reducible intro hb)|(refine Xi ?_ ?_<;>try intro ht)|refine VD ?_ ?_|exact Xx|fail))<;>try with_reducible intro K hK)
  have D7:∀ p∈((os.length,Ob.var [.ptr gi 0 0])::(os.length+3,.var [.ref (os.length+2) 1 0 k])::nM os),p.1≠os.length+1:=λp hp=>by
   rcases bj.1 hp with rfl|hp
   ·dsimp only;omega
   rcases bj.1 hp with rfl|hp
   ·dsimp only;omega
   ·have:=iG (yI.1 hp);omega
  have YQ:LR ((os.length+1,Ob.arr 1 (ints (mD k)))::(os.length,Ob.var [.ptr gi 0 0])::(os.length+3,.var [.ref (os.length+2) 1 0 k])::nM os) (os.length+2) (aJ k (0,[])) (os++[.var [.ptr gi 0 0],.arr 1 (ints (mD k)),.arr 1 (aJ k [.lit (.slice none 0 0)]),.var [.ref (os.length+2) 1 0 k]]):=by
   have h1:=LR.start (F:=(os.length+1,Ob.arr 1 (ints (mD k)))::(os.length,Ob.var [.ptr gi 0 0])::nM os) (ob:=os++[.var [.ptr gi 0 0],.arr 1 (ints (mD k))]) (N:=k) (λp hp=>by
    rcases bj.1 hp with rfl|hp
    ·rw[kS];rfl
    rcases bj.1 hp with rfl|hp
    ·exact kq _ _ _
    ·exact aM (yI.1 hp) _)
   have h2:=LR.more h1 (l:=[Ob.var [.ref (os.length+2) 1 0 k]]) (F':=(os.length+1,Ob.arr 1 (ints (mD k)))::(os.length,Ob.var [.ptr gi 0 0])::(os.length+3,.var [.ref (os.length+2) 1 0 k])::nM os) (λp hp=>by
    rcases bj.1 hp with rfl|hp
    ·exact .inl Iw
    rcases bj.1 hp with rfl|hp
    ·exact .inl Iw
    rcases bj.1 hp with rfl|hp
    ·exact .inr ⟨0,Iw,rfl⟩
    ·exact .inl (by simp[hp]))
   simpa [bC] using h2
  have ni:kE m round 0=(mD k,aJ k []):=by rw[kE,L3];rfl
  have xZ:(aJ k ((0:Nat),([]:List Int))).map (·.2)=aJ k []:=by rw[List.map_replicate]
  refine aU (λz:Nat×List (Nat×List Int)×List Ob=>(⟨an [(1,NX round),(2,.ptr os.length 0 0),(4,NX m.ae.length),(5,.ref (os.length+1) 1 0 k),(7,.ptr (os.length+3) 0 0),(44,NX m.ae.length),(45,NX z.1)],z.2.2⟩:St))
   (λz=>z.1<=m.ae.length/\LR ((os.length+1,Ob.arr 1 (ints (kE m round z.1).1))::(os.length,Ob.var [.ptr gi 0 0])::(os.length+3,.var [.ref (os.length+2) 1 0 k])::nM os) (os.length+2) z.2.1 z.2.2/\z.2.1.map (·.2)=(kE m round z.1).2/\os.length+4<=z.2.2.length)
   (λz=>m.ae.length-z.1) (0,aJ k (0,[]),os++[.var [.ptr gi 0 0],.arr 1 (ints (mD k)),.arr 1 (aJ k [.lit (.slice none 0 0)]),.var [.ref (os.length+2) 1 0 k]]) ⟨aT _,by dsimp only;rw[ni];exact YQ,by dsimp only;rw[ni];exact xZ,Iw⟩ (Xv X0) ?_
  clear YQ xZ ni cQ hk ba ht;rintro⟨j,Q,ob⟩⟨hj,hL,hQ,bI⟩Ql ak ar;dsimp only at hj hL hQ bI ⊢;by_cases fe:j<m.ae.length
  ·have hp:(j+round)%m.ae.length<m.ae.length:=Nat.mod_lt _ Iv;have fK:((j:Int)+(round:Int)).tmod (m.ae.length:Int)=(((j+round)%m.ae.length:Nat):Int):=by rw[Int.tmod_eq_emod_of_nonneg Iv];push_cast;rfl
   obtain⟨dN,q1,q2,q3,q4,q5⟩:=yJ hm hp;obtain⟨hl1,q8⟩:=Hj (m:=m) round j;have hvs:kE m round (j+1)=B1 m (kE m round j) ((j+round)%m.ae.length):=rfl;have fA:=hL.fx (os.length,Ob.var [.ptr gi 0 0]) Iw;have fT:=hL.fx (os.length+1,Ob.arr 1 (ints (kE m round j).1)) Iw;have fB:=hL.fx (os.length+3,Ob.var [.ref (os.length+2) 1 0 k]) Iw;have Hk:∀ i o,os[i]?=some o->ob[i]?=some o:=λi o hi=>hL.fx (i,o) (dS _ (dS _ (dS _ (yI.2 hi))));have fg:=Hk _ _ fv;dsimp only at fA fT fB;generalize (j+round)%m.ae.length=p at *;generalize dU:kE m round j=st at *;have gu:m.ae.getD p default=cN m p:=rfl;have e1:(cN m p).fst=((aD m p 0:Nat):Int):=by show _=((cN m p).fst.toNat:Int);omega
   have e2:(cN m p).snd=((aD m p 1:Nat):Int):=by show _=((cN m p).snd.toNat:Int);omega
   have ha:aD m p 0<k:=by have:(cN m p).fst.toNat=aD m p 0:=rfl;omega
   have hb:aD m p 1<k:=by have:(cN m p).snd.toNat=aD m p 1:=rfl;omega
   repeat'(first|((fail_if_success (first|refine ei 14 ?_|refine ej 14 ?_));refine Xr (X5 @fA @fT @fg @ao.eq_1 (X5 @aH.eq_1 @fK @gu @e1 @e2)) ?_;intro K hK)|refine Xo (X5 @fA @fT @fg @ao.eq_1 (X5 @aH.eq_1 @fK @gu @e1 @e2)) ?_|(refine hK _ ?_;clear hK K)|(refine Xg (X5 @fA @fT @fg @ao.eq_1 (X5 @aH.eq_1 @fK @gu @e1 @e2)) ?_ ?_<;>try intro hb)|(refine Xi ?_ ?_<;>try intro ht)|refine Xy ?_|refine Xd ?_ ?_|exact Xx|fail)
   have iz:kE m round (j+1)=if st.1.getD (aD m p 0) 0=st.1.getD (aD m p 1) 0 then st else(mG st.1 (aD m p 0) (st.1.getD (aD m p 1) 0) st.1.length,(st.2.set (aD m p 0) (st.2.getD (aD m p 0) default++[(p:Int)])).set (aD m p 1) (st.2.getD (aD m p 1) default++[(p:Int)])):=hvs;generalize aD m p 1=b at *;generalize aD m p 0=a at *;have xj:st.1.length=k:=Iv;by_cases iY:st.1.getD a 0=st.1.getD b 0
   ·rw[if_pos iY]at iz;((try revert hK K);(repeat'(first|refine Va (X3 @fT @xj @iY) ?_|(refine V2 (X3 @fT @xj @iY) ?_ ?_<;>try with_reducible intro hb)|(refine Xi ?_ ?_<;>try intro ht)|refine VD ?_ ?_|exact Xx|fail))<;>try with_reducible intro K hK)
    all_goals try(exfalso;omega)
    exact ak _ (j+1,Q,ob) ⟨NN,by dsimp only;rw[iz];exact hL,by dsimp only;rw[iz];exact hQ,bI⟩ NN (Xv X0)
   ·rw[if_neg iY]at iz;((try revert hK K);(repeat'(first|refine Va (X2 @fT @xj) ?_|(refine V2 (X2 @fT @xj) ?_ ?_<;>try with_reducible intro hb)|(refine Xi ?_ ?_<;>try intro ht)|refine VD ?_ ?_|exact Xx|fail))<;>try with_reducible intro K hK)
    all_goals try(exfalso;omega)
    have sT:=λy:Ob=>lZ (y:=y) fT;have aX:=Hl st.1 a (st.1.getD b 0) iY;have ov:=Hm st.1 a (st.1.getD b 0);have ht0:mG st.1 a (st.1.getD b 0) 0=st.1:=rfl;have e9:∀ i,mG st.1 a (st.1.getD b 0) (i+1)=_:=λi=>mG.eq_2 ..;have l8:=λy=>hL.head D7 (y:=y);refine aU (λi:Nat=>(⟨an [(1,NX round),(2,.ptr os.length 0 0),(4,NX m.ae.length),(5,.ref (os.length+1) 1 0 k),(7,.ptr (os.length+3) 0 0),(9,NX p),(10,NX a),(11,NX b),(12,NX (st.1.getD b 0)),(44,NX m.ae.length),(45,NX j),(84,.ref (os.length+1) 1 0 k),(85,NX k),(86,NX i)],ob.set (os.length+1) (.arr 1 (ints (mG st.1 a (st.1.getD b 0) i)))⟩:St))
     (λi=>i<=k) (λi=>k-i) 0 (aT _) ?_ ?_
    ·rw[ht0,ah4 fT];exact Xv X0
    rintro i hi c7 br bx;have eV:=aX i;have lg:=ov i;by_cases aq:i<k
    ·have Hn:=e9 i;generalize YR:mG st.1 a (st.1.getD b 0) (i+1)=u1 at *;generalize mG st.1 a (st.1.getD b 0) i=u at *;generalize st.1.getD b 0=dY at *;by_cases Ho:u.getD i 0=dY
     ·rw[if_pos Ho]at Hn;((try revert hK K);(repeat'(first|refine Va (X5 @sT @lg @xj @Ho @wE.{0}) ?_|(refine V2 (X5 @sT @lg @xj @Ho @wE.{0}) ?_ ?_<;>try with_reducible intro hb)|(refine Xi ?_ ?_<;>try intro ht)|refine VD ?_ ?_|exact Xx|fail))<;>try with_reducible intro K hK)
      all_goals try(exfalso;omega)
      exact br _ (i+1) Iv Iv (by rw[YR,Hn];exact Xv X0)
     ·rw[if_neg Ho]at Hn;((try revert hK K);(repeat'(first|refine Va (X4 @sT @lg @xj @wE.{0}) ?_|(refine V2 (X4 @sT @lg @xj @wE.{0}) ?_ ?_<;>try with_reducible intro hb)|(refine Xi ?_ ?_<;>try intro ht)|refine VD ?_ ?_|exact Xx|fail))<;>try with_reducible intro K hK)
      all_goals try(exfalso;omega)
      exact br _ (i+1) Iv Iv (by rw[YR,Hn];exact Xv X0)
    ·obtain rfl:i=k:=Iv;((try revert hK K);(repeat'(first|refine Va X0 ?_|(refine V2 X0 ?_ ?_<;>try with_reducible intro hb)|(refine Xi ?_ ?_<;>try intro ht)|refine VD ?_ ?_|exact Xx|fail))<;>try with_reducible intro K hK)
     refine bx _ _ rfl ?_;clear br bx c7;repeat(first|refine Xu ?_)
     have l9:=l8 (.arr 1 (ints (mG st.1 a (st.1.getD b 0) i)));clear l8 sT e9 ht0 aX;rw[xj]at iz;generalize mG st.1 a (st.1.getD b 0) i=tt at *;generalize ah5:ob.set (os.length+1) (.arr 1 (ints tt))=ke at *;have amr:os.length+4<=ke.length:=by rw[<- ah5,bK];exact bI
     have L4:Q.length=i:=by have:=congrArg kI hQ;simp at this;omega
     refine Hp (λs=>∃ Q2 o2,LR ((os.length+1,Ob.arr 1 (ints tt))::(os.length,Ob.var [.ptr gi 0 0])::(os.length+3,.var [.ref (os.length+2) 1 0 i])::nM os) (os.length+2) Q2 o2/\Q2.map (·.2)=(kE m round (j+1)).2/\os.length+4<=o2.length /\
      aF os.length s ⟨an [(1,NX round),(2,.ptr os.length 0 0),(4,NX m.ae.length),(5,.ref (os.length+1) 1 0 i),(7,.ptr (os.length+3) 0 0),(44,NX m.ae.length),(45,NX j)],o2⟩) ?_ ?_
     ·rintro s ⟨Q2,o2,h1,h2,h3,h4⟩;repeat(first|refine Xu ?_)
      refine cp h4 ?_;((try revert hK K);(repeat'(first|refine Va X0 ?_|(refine V2 X0 ?_ ?_<;>try with_reducible intro hb)|(refine Xi ?_ ?_<;>try intro ht)|refine VD ?_ ?_|exact Xx|fail))<;>try with_reducible intro K hK)
      exact ak _ (j+1,Q2,o2) ⟨NN,by dsimp only;rw[iz];exact h1,h2,h3⟩ NN (Xv X0)
     intro QQ key;clear ak ar;have g7:=aM (l9.fx (os.length+3,Ob.var [.ref (os.length+2) 1 0 i]) Iw);have gL:=aM l9.ls;have hra:(rowsOf kW Q)[a]?=some [tw (Q.getD a default)]:=by rw[Hq Iv,L5]
     have Di:(rowsOf kW Q)[b]?=some [tw (Q.getD b default)]:=by rw[Hq Iv,L5]
     have BF:st.2.getD a default=(Q.getD a default).2:=by rw[<- hQ,L6 Iv]
     have YS:st.2.getD b default=(Q.getD b default).2:=by rw[<- hQ,L6 Iv]
     have ca:=l9.cell (show a<Q.length by omega);have cb:=l9.cell (show b<Q.length by omega);have BN:=λ(fin:List Ob) (pa pb:Nat)=>l9.ah7 (show a<Q.length by omega) (show b<Q.length by omega) (λe=>iY (by rw[e])) (n:=(p:Int)) (fin:=fin) (pa:=pa) (pb:=pb);have d3:=λc hc hn=>l9.rO (os.length+3,Ob.var [.ref (os.length+2) 1 0 i]) Iw |>.2 c hc hn;have r2:=λc hc hn=>(l9.row c hc hn).2;have qa:Af [os.length+2,os.length+3] (tw (Q.getD a default))=True:=YT λhn hm=>by
      rcases bj.1 hm with e|hm
      ·exact r2 a Iv hn e
      ·exact d3 a Iv hn (cU.1 hm).symm
     have qb:Af [os.length+2,os.length+3] (tw (Q.getD b default))=True:=YT λhn hm=>by
      rcases bj.1 hm with e|hm
      ·exact r2 b Iv hn e
      ·exact d3 b Iv hn (cU.1 hm).symm
     rw[BF,YS]at iz;have Ha:(Q.getD a default).2.length<4001:=by
      have:=(Hs (m:=m) round j a).1;rw[dU,BF]at this;omega
     have rG:(Q.getD b default).2.length<4001:=by
      have:=(Hs (m:=m) round j b).1;rw[dU,YS]at this;omega
     have n7:∀ c,c<Q.length->(Q.getD c default).2≠[]->os.length+3≠(Q.getD c default).1:=d3;have n8:∀ c,c<Q.length->(Q.getD c default).2≠[]->os.length+2≠(Q.getD c default).1:=λc hc hn=>Ne.symm (r2 c hc hn);have cb2:(Q.getD b default).2≠[]->(pL (Q.getD a default) ke)[(Q.getD b default).1]?=some (.arr 1 (ints (Q.getD b default).2)):=λhn=>Ag (cb hn) λD8 e=>iY (by rw[l9.inj b a Iv Iv hn D8 e]);have f7:=l9.fx (os.length+3,Ob.var [.ref (os.length+2) 1 0 i]) Iw;have fL:=l9.ls;have YU:=Ag f7 (n7 a Iv);have YV:=Ag YU (n7 b Iv);have YW:=Ag fL (n8 a Iv);have D9:=Ag YW (n8 b Iv);have DB:=λ(k:Nat) (o:Ob) (h1:ke[k]?=some o) (h2:(Q.getD a default).2≠[]->k≠(Q.getD a default).1) (h3:(Q.getD b default).2≠[]->k≠(Q.getD b default).1)=>Ag (Ag h1 h2) h3;have dA:=YX ca;have dB:=YX cb2;have l2:=YY (Q.getD a default) ke;have l3:=(YY (Q.getD b default) (pL (Q.getD a default) ke)).trans l2;have hes:=λpa=>YZ Q a pa (Q.getD a default).2 (p:Int);have ah':=λpa pb=>YZ (Q.set a (pa,(Q.getD a default).2++[(p:Int)])) b pb (Q.getD b default).2 (p:Int);have aia:∀ pa,(rowsOf kW (Q.set a (pa,(Q.getD a default).2++[(p:Int)])))[b]?=some [tw (Q.getD b default)]:=λpa=>by
      rw[Hq NP,L7 _ _ _ _ Iv,if_neg (λe=>iY (by rw[e])),L5]
     have hFm:∀ q,os.length<=q->q=os.length+2->True:=λ_ _ _=>trivial;generalize Q.getD a default=A0 at *;generalize Q.getD b default=B0 at *;generalize hX3:pL B0 (pL A0 ke)=X3 at *;generalize pL A0 ke=X2 at *;have uk:(os.length+2∈[os.length+2,os.length+3])=True:=Iw;have LX:(os.length+3∈[os.length+2,os.length+3])=True:=Iw;have hQr:(rowsOf kW Q).length=i:=by rw[cf];exact L4
     have e2:=λl k=>yK l2 l k;have e3:=λl k=>yK l3 l k;have e20:=λx l=>Ht l2 x l;have e30:=λx l=>Ht l3 x l;have s3:=iN D9;have s4:=λy=>iN (lZ (y:=y) D9);have s5:=λy=>aM (lZ (y:=y) D9);have s7:=λy=>aM (e7 (y:=y) YV (show os.length+2≠os.length+3 by omega));have f7l:=aM f7;have aif:=aM YU;have aih:=aM YV;have fLl:=aM fL;have aij:=aM YW;have aik:=aM D9;have kD:∀ (s:St) (c:Nat) (l:List Ob),c=1\/c=2->l.length=4->l[c]?=some (.arr 1 (ints (A0.2++[(p:Int)])))->l[3]?=some (.arr 1 (ints (B0.2++[(p:Int)]))) ->
       aF os.length s ⟨an [(1,NX round),(2,.ptr os.length 0 0),(4,NX m.ae.length),(5,.ref (os.length+1) 1 0 i),(7,.ptr (os.length+3) 0 0),(44,NX m.ae.length),(45,NX j)],(X3.set (os.length+2) (.arr 1 (rowsOf kW (Q.set a (ke.length+c,A0.2++[(p:Int)]))))).set (os.length+2) (.arr 1 (rowsOf kW ((Q.set a (ke.length+c,A0.2++[(p:Int)])).set b (ke.length+3,B0.2++[(p:Int)]))))++l⟩->QQ .normal s:=λs c l hc hl h1 h2 ht=>by
      refine key _ ⟨_,_,BN _ (ke.length+c) (ke.length+3) Iv Iv Iv (λq o e1 e2 e3 e4=>aM (e7 (e7 (DB q o e1 e3 e4) (Ne.symm e2)) (Ne.symm e2)) _) (aM (lZ (lZ D9)) _) ?_ ?_,?_,?_,ht⟩
      ·rw[yK (by simp[l3])];exact h1
      ·rw[yK (by simp[l3])];exact h2
      ·rw[iz,rV,rV,hQ]
      ·simp[l3];omega
     refine Y0 [os.length+2,os.length+3] [] [10,17] (.take 0 (.take 1 (.take 3 (.take 4 (.take 5 (.take 6 (.take 7 (.take 8 (.take 11 (.take 12 (.take 13 (.take 14 (.take 15 (.three 2 (.both 9 (.both 10 (.take 16 (.take 17 (.take 18 (.take 19 (.take 20 (.take 21 .nil)))))) 16 (.take 10 (.take 17 (.take 18 (.take 19 (.take 20 (.take 21 .nil))))))) 16 (.take 9 (.take 10 (.take 17 (.take 18 (.take 19 (.take 20 (.take 21 .nil)))))))) 9 (.three 2 (.both 10 (.take 16 (.take 17 (.take 18 (.take 19 (.take 20 (.take 21 .nil)))))) 16 (.take 10 (.take 17 (.take 18 (.take 19 (.take 20 (.take 21 .nil))))))) 10 (.both 2 (.take 16 (.take 17 (.take 18 (.take 19 (.take 20 (.take 21 .nil)))))) 16 (.both 2 (.take 17 (.take 18 (.take 19 (.take 20 (.take 21 .nil))))) 17 (.take 18 (.both 2 (.take 19 (.take 20 (.take 21 .nil))) 19 (.take 2 (.take 20 (.take 21 .nil))))))) 16 (.both 2 (.take 10 (.take 17 (.take 18 (.take 19 (.take 20 (.take 21 .nil)))))) 10 (.both 2 (.take 17 (.take 18 (.take 19 (.take 20 (.take 21 .nil))))) 17 (.take 18 (.both 2 (.take 19 (.take 20 (.take 21 .nil))) 19 (.take 2 (.take 20 (.take 21 .nil)))))))) 16 (.both 2 (.take 9 (.take 10 (.take 17 (.take 18 (.take 19 (.take 20 (.take 21 .nil))))))) 9 (.both 2 (.take 10 (.take 17 (.take 18 (.take 19 (.take 20 (.take 21 .nil)))))) 10 (.both 2 (.take 17 (.take 18 (.take 19 (.take 20 (.take 21 .nil))))) 17 (.take 18 (.both 2 (.take 19 (.take 20 (.take 21 .nil))) 19 (.take 2 (.take 20 (.take 21 .nil)))))))))))))))))))))) rfl NF (by decide +kernel) ?_;simp(disch:=omega)only[Ac,↓Pc,simprocAttr,Ra,ja,uk,LX,f7,fL,f7l,aif,aih,fLl,aij,aik,hra,Di,aia,hes,ah',qa,qb,↓dA,↓dB,l2,l3,e2,e3,e20,e30,s3,s4,s5,s7,hQr,bF,bC,bE];repeat'(first|with_reducible refine cJ ?_ ?_|omega|with_reducible rfl|(intro id bO;simp only[bj,gU,or_false]at bO;omega))
     all_goals first
      | (refine kD _ 1 [.arr 1 [[NX p]],.arr 1 (ints (A0.2++[(p:Int)])),.arr 1 [[NX p]],.arr 1 (ints (B0.2++[(p:Int)]))] (.inl rfl) rfl rfl rfl ?_;exact Xv X0;done)
      | (refine kD _ 2 [.arr 1 [[NX p]],.arr 1 [[NX p]],.arr 1 (ints (A0.2++[(p:Int)])),.arr 1 (ints (B0.2++[(p:Int)]))] (.inr rfl) rfl rfl rfl ?_;exact Xv X0;done)
      |skip
  ·obtain rfl:j=m.ae.length:=Iv;((try revert hK K);(repeat'(first|refine Va X0 ?_|(refine V2 X0 ?_ ?_<;>try with_reducible intro hb)|(refine Xi ?_ ?_<;>try intro ht)|refine VD ?_ ?_|exact Xx|fail))<;>try with_reducible intro K hK)
   refine ar _ _ rfl ?_;clear ak ar Ql;repeat(first|refine Xu ?_)
   have fA:=hL.fx (os.length,Ob.var [.ptr gi 0 0]) Iw;have fT:=hL.fx (os.length+1,Ob.arr 1 (ints (kE m round m.ae.length).1)) Iw;have fB:=hL.fx (os.length+3,Ob.var [.ref (os.length+2) 1 0 k]) Iw;have Hk:∀ i o,os[i]?=some o->ob[i]?=some o:=λi o hi=>hL.fx (i,o) (dS _ (dS _ (dS _ (yI.2 hi))));dsimp only at fA fT fB;obtain⟨hl1,q8⟩:=Hj (m:=m) round m.ae.length;have ail:=Hs (m:=m) round m.ae.length;have L8:pK m can W round=(ma m can (kE m round m.ae.length).2 (W,aJ m.cls.length false) m.cls.length).1:=rfl;rw[L8];generalize kE m round m.ae.length=st at *;have xk:=aM fT;have kx:st.1.length=k:=Iv;repeat'(first|((fail_if_success (first|refine ei 27 ?_|refine ej 27 ?_));refine Xr (X5 @fT @xk @bF @bC.{0} (X3 @Ea @kx @A4)) ?_;intro K hK)|refine Xo (X5 @fT @xk @bF @bC.{0} (X3 @Ea @kx @A4)) ?_|(refine hK _ ?_;clear hK K)|(refine Xg (X5 @fT @xk @bF @bC.{0} (X3 @Ea @kx @A4)) ?_ ?_<;>try intro hb)|(refine Xi ?_ ?_<;>try intro ht)|refine Xy ?_|refine Xd ?_ ?_|exact Xx|fail)
   have Eb:=hL.app [.arr 1 (bm (aJ k false)),.var [.ref ob.length 1 0 k],.var [.fn 70 [.ptr (ob.length+1) 0 0,.ptr (os.length+3) 0 0,.ptr os.length 0 0,.ptr (ob.length+2) 0 0]]];have L4:Q.length=k:=by have:=congrArg kI hQ;simp at this;omega
   refine cp (σ':=⟨an [(15,.ptr (ob.length+1) 0 0),(16,.ptr (ob.length+2) 0 0)],ob++[.arr 1 (bm (aJ k false)),.var [.ref ob.length 1 0 k],.var [.fn 70 [.ptr (ob.length+1) 0 0,.ptr (os.length+3) 0 0,.ptr os.length 0 0,.ptr (ob.length+2) 0 0]]]⟩) (Xv X0) ?_;generalize B3:ob++[Ob.arr 1 (bm (aJ k false)),.var [.ref ob.length 1 0 k],.var [.fn 70 [.ptr (ob.length+1) 0 0,.ptr (os.length+3) 0 0,.ptr os.length 0 0,.ptr (ob.length+2) 0 0]]]=rP at *;have Hu:=Eb.fx (os.length+3,Ob.var [.ref (os.length+2) 1 0 k]) Iw;have vP:=λi (hi:i∈nm (os.length+2) Q)=>Eb.at_ hi;have Hv:=λi (hi:i∈nm (os.length+2) Q)=>hL.lt hi;have n0:os.length ∉ nm (os.length+2) Q:=λhi=>vP _ hi (os.length,Ob.var [.ptr gi 0 0]) Iw rfl;have n3:os.length+3 ∉ nm (os.length+2) Q:=λhi=>vP _ hi (os.length+3,Ob.var [.ref (os.length+2) 1 0 k]) Iw rfl;have Y1:∀ i o,os[i]?=some o->i ∉ nm (os.length+2) Q:=λi o ho hi=>vP _ hi (i,o) (dS _ (dS _ (dS _ (yI.2 ho)))) rfl;have p0:rP[os.length]?=some (.var [.ptr gi 0 0]):=by rw[<- B3];exact aM fA _
   have Y2:∀ i o,os[i]?=some o->rP[i]?=some o:=λi o hi=>by rw[<- B3];exact aM (Hk i o hi) _
   have b0:rP[ob.length]?=some (.arr 1 (bm (aJ k false))):=by rw[<- B3];exact kq _ _ _
   have b1:rP[ob.length+1]?=some (.var [.ref ob.length 1 0 k]):=by rw[<- B3,kS];rfl
   have b2:rP[ob.length+2]?=some (.var [.fn 70 [.ptr (ob.length+1) 0 0,.ptr (os.length+3) 0 0,.ptr os.length 0 0,.ptr (ob.length+2) 0 0]]):=by rw[<- B3,kS];rfl
   have l4:rP.length=ob.length+3:=by rw[<- B3];simp
   refine cp (aF.aim (os.length+3) 0 (λi=>i ∉ nm (os.length+2) Q) (v:=.tree 1 (fc (Q.map (·.2))))
    (os2:=uN (nm (os.length+2) Q) (rP.set (os.length+3) (.var [.tree 1 (fc (Q.map (·.2)))]))) Hu rfl n3 (by rw[Y3,bK]) (λi o ho=>?_) ?_) ?_
   ·dsimp only at ho;have hx:∀ y,(rP.set (os.length+3) y)[i]?=some (if i=os.length+3 then y else o):=λy=>by
     by_cases e:i=os.length+3
     ·subst e;rw[if_pos rfl];exact lZ Hu
     ·rw[if_neg e];exact e7 ho (Ne.symm e)
    by_cases hi:i∈nm (os.length+2) Q
    ·exact .inr ⟨λhn=>hn hi,by rw[L9 (hx _),if_pos hi]⟩
    ·exact .inl ⟨hi,by rw[L9 (hx _),if_neg hi];rfl⟩
   ·have:=ain Eb.ls Eb.row (an [(15,.ptr (ob.length+1) 0 0),(16,.ptr (ob.length+2) 0 0)]);rw[L4]at this;exact this
   dsimp only;have k5:∀ i o,rP[i]?=some o->i≠os.length+3->i ∉ nm (os.length+2) Q ->
     (uN (nm (os.length+2) Q) (rP.set (os.length+3) (.var [.tree 1 (fc (Q.map (·.2)))])))[i]?=some o:=λi o ho h1 h2=>Ma (e7 ho (Ne.symm h1)) h2
   have k6:(uN (nm (os.length+2) Q) (rP.set (os.length+3) (.var [.tree 1 (fc (Q.map (·.2)))])))[os.length+3]?=some (.var [.tree 1 (fc (Q.map (·.2)))]):=Ma (lZ Hu) n3;have k7:(uN (nm (os.length+2) Q) (rP.set (os.length+3) (.var [.tree 1 (fc (Q.map (·.2)))]))).length=ob.length+3:=by rw[Y3,bK];exact l4
   generalize uN (nm (os.length+2) Q) (rP.set (os.length+3) (.var [.tree 1 (fc (Q.map (·.2)))]))=Ec at *;have x0:=k5 os.length _ p0 Iv n0;have xa:=k5 ob.length _ b0 Iv (λhi=>by have:=Hv _ hi;omega);have xs:=k5 (ob.length+1) _ b1 Iv (λhi=>by have:=Hv _ hi;omega);have xu:=k5 (ob.length+2) _ b2 Iv (λhi=>by have:=Hv _ hi;omega);have Mb:∀ i o,os[i]?=some o->Ec[i]?=some o:=λi o hi=>k5 i o (Y2 i o hi) (by have:=iG hi;omega) (Y1 i o hi);have Hw:UF 70 gi (ob.length+1) ob.length (os.length+3) os.length (ob.length+2) st.2 (aJ k false) Ec:=⟨by rw[mL];exact xs,xa,by rw[<- hQ];exact k6,x0,xu⟩;have Y4:=h.pre (ob:=Ec) Iv Mb;have Y5:Kp mi ((ob.length,0)::D) E os Ec:=⟨Iv,λi o _ _ hi=>Mb i o hi⟩;have Md:=iG h.mp;have tx:=iG h.v;have kM:=iG h.a;have pJ:=iG h.b;have hUN:UN gi ai bi mi D E (ob.length+1) ob.length (os.length+3) os.length (ob.length+2):=⟨λi hi=>⟨Iv,λhm=>by have:=h.lt i hm;omega⟩,Iv,Iv,Iv,Iv,Iv,Iv,Iv⟩;clear k5 k6 k7 x0 xa xs xu Mb p0 Y2 b0 b1 b2 vP Hv n0 n3 Y1 Hu Eb hL fA fT fB xk Hk;have hlA:∀ c,(ma m can st.2 (W,aJ k false) c).2.length=k->True:=λ_ _=>trivial;have pJ:st.2.length=m.cls.length:=Iv;have pg:∀ c,c<m.cls.length->(st.2.getD c default).length<9223372036854775808/\∀ x∈st.2.getD c default,0<=x/\x<m.ae.length:=λc hc=>by
    obtain⟨i1,i2⟩:=ail c;refine⟨Iv,λx hx=>⟨(i2 x hx).1,(i2 x hx).2 ?_⟩⟩;rcases Nat.eq_zero_or_pos m.ae.length with h0|h0
    ·rw[h0]at i1;rw[List.length_eq_zero_iff.1 (Nat.le_zero.1 i1)]at hx;cases hx
    ·exact h0
   have Me:ma m can st.2 (W,aJ k false) 0=(W,aJ k false):=rfl;have hAs:∀ c,ma m can st.2 (W,aJ k false) (c+1)=if(ma m can st.2 (W,aJ k false) c).2.getD c false=true then ma m can st.2 (W,aJ k false) c else iQ m can st.2 (m.cls.length+1) (ma m can st.2 (W,aJ k false) c) c:=λc=>rfl;have lh:nT (aJ k false)=0:=by unfold nT;simp[List.count_replicate]
   rw[L3];have xs:=Hw.s;have xa:=Hw.a;((try revert hK K);(repeat'(first|refine Va (X3 @xs @xa @mL.{0}) ?_|(refine V2 (X3 @xs @xa @mL.{0}) ?_ ?_<;>try with_reducible intro hb)|(refine Xi ?_ ?_<;>try intro ht)|refine VD ?_ ?_|exact Xx|fail))<;>try with_reducible intro K hK)
   refine aU (λz:Nat×List Ob=>(⟨an [(15,.ptr (ob.length+1) 0 0),(16,.ptr (ob.length+2) 0 0),(128,NX k),(129,NX z.1)],z.2⟩:St))
    (λz=>z.1<=k/\WF m can gi ai bi mi D E (ma m can st.2 (W,aJ k false) z.1).1 z.2/\UF 70 gi (ob.length+1) ob.length (os.length+3) os.length (ob.length+2) st.2 (ma m can st.2 (W,aJ k false) z.1).2 z.2/\Kp mi ((ob.length,0)::D) E os z.2/\(ma m can st.2 (W,aJ k false) z.1).2.length=k/\mF m (ma m can st.2 (W,aJ k false) z.1).1/\WB (B+618475290624*(nT (ma m can st.2 (W,aJ k false) z.1).2:Nat)) (ma m can st.2 (W,aJ k false) z.1).1)
    (λz=>k-z.1) (0,Ec) ⟨aT _,Y4,Hw,Y5,by dsimp only;rw[Me];simp,hs,by dsimp only;rw[Me];dsimp only;rw[lh];exact hW.mono Iv⟩ (Xv X0) ?_
   (try clear lh;clear Y4 Hw Y5 Me xs xa)
   rintro⟨c,o6⟩⟨hc,h1,h2,h3,h4,h5,h6⟩Ql ak ar;dsimp only at hc h1 h2 h3 h4 h5 h6 ⊢;by_cases fD:c<k
   ·have tz:=hAs c;generalize tA:ma m can st.2 (W,aJ k false) (c+1)=r1 at *;generalize ma m can st.2 (W,aJ k false) c=r0 at *;have fs:=h2.s;have fa:=h2.a;have fu:=h2.u;by_cases eO:r0.2.getD c false=true
    ·rw[if_pos eO]at tz;((try revert hK K);(repeat'(first|refine Va (X4 @fs @fa @eO @h4) ?_|(refine V2 (X4 @fs @fa @eO @h4) ?_ ?_<;>try with_reducible intro hb)|(refine Xi ?_ ?_<;>try intro ht)|refine VD ?_ ?_|exact Xx|fail))<;>try with_reducible intro K hK)
     all_goals try(exfalso;omega)
     exact ak _ (c+1,o6) ⟨NN,by dsimp only;rw[tA,tz];exact h1,by dsimp only;rw[tA,tz];exact h2,h3,by dsimp only;rw[tA,tz];exact h4,by dsimp only;rw[tA,tz];exact h5,by dsimp only;rw[tA,tz];exact h6⟩ NN (Xv X0)
    ·rw[if_neg eO]at tz;have vR:r0.2.getD c false=false:=by simpa using eO
     have nB:=aiq hm hf hUN pJ pg (m.cls.length+1) r0 c o6 B Iv Iv vR Iv h1 h2 h5 Iv Iv h6;repeat'(first|((fail_if_success (first|refine ei 31 ?_|refine ej 31 ?_));refine Xr (X4 @fs @fa @vR @h4) ?_;intro K hK)|refine Xo (X4 @fs @fa @vR @h4) ?_|(refine hK _ ?_;clear hK K)|(refine Xg (X4 @fs @fa @vR @h4) ?_ ?_<;>try intro hb)|(refine Xi ?_ ?_<;>try intro ht)|refine Xy ?_|refine Xd ?_ ?_|exact Xx|fail)
     all_goals try(exfalso;omega)
     refine nf 2 NF _ rfl ?_;intro K hK;simp(disch:=omega)only[Ac,↓Pc,simprocAttr,iv,List.drop,fu,Ea];repeat'(first|with_reducible refine cJ ?_ ?_|omega|with_reducible rfl)
     refine⟨rfl,(show jz Tryz.prog 70 [NX c,.ptr (ob.length+1) 0 0,.ptr (os.length+3) 0 0,.ptr os.length 0 0,.ptr (ob.length+2) 0 0] (some 139) _ _ from ?_)⟩;refine qx nB ?_;rintro r o7⟨rfl,g1,g2,g3,g4⟩;refine⟨g3.len,?_⟩;simp(disch:=omega)only[Ac,↓Pc,simprocAttr,List.drop];refine hK _ ?_;clear hK K;repeat(first|refine Xu ?_)
     ((try revert hK K);(repeat'(first|refine Va X0 ?_|(refine V2 X0 ?_ ?_<;>try with_reducible intro hb)|(refine Xi ?_ ?_<;>try intro ht)|refine VD ?_ ?_|exact Xx|fail))<;>try with_reducible intro K hK)
     exact ak _ (c+1,o7) ⟨NN,by dsimp only;rw[tA,tz];exact g1,by dsimp only;rw[tA,tz];exact g2,h3.trans g3,by dsimp only;rw[tA,tz];exact g4.len.trans L3,by dsimp only;rw[tA,tz];exact g4.sh,by dsimp only;rw[tA,tz];exact g4.wb.mono Iv⟩ NN (Xv X0)
   ·obtain rfl:c=k:=Iv;((try revert hK K);(repeat'(first|refine Va X0 ?_|(refine V2 X0 ?_ ?_<;>try with_reducible intro hb)|(refine Xi ?_ ?_<;>try intro ht)|refine VD ?_ ?_|exact Xx|fail))<;>try with_reducible intro K hK)
    refine ar _ _ rfl ?_;clear ak ar Ql;repeat(first|refine Xu ?_)
    ((try revert hK K);(repeat'(first|refine Vb X0 ?_|(refine V2 X0 ?_ ?_<;>try with_reducible intro hb)|(refine Xi ?_ ?_<;>try intro ht)|refine VD ?_ ?_|exact Xx|fail))<;>try with_reducible intro K hK)
    unfold eH;simp only[dx,du];have hnk:=Mf (ma m can st.2 (W,aJ c false) c).2;exact⟨.bu [],_,⟨rfl,h1,⟨h3.len,λi o e1 e2 e3=>h3.same i o e1 (λhm=>by
     rw[dq,List.map_cons]at hm;rcases bj.1 hm with e|hm
     ·have:=iG e3;dsimp only at e;omega
     ·exact e2 hm) e3⟩,h5,h6.mono Iv⟩,ed rfl h3.len rfl⟩
end
section
variable {m:ah} {os:List Ob}
def air(hm:VM m){left:List (List Bool)}(hf:df m left)(os:List Ob):
  cL Tryz.prog 38 [.agg (ao m),.tree 1 (rowsOf aA left)] os λr ob=>∃ gi ai bi mi D E,r=.ptr gi 0 0/\WF m (dP m left m.cls.length) gi ai bi mi D E (W0 m) ob/\os.length<=ob.length/\(∀ (i:Nat) o,os[i]?=some o->ob[i]?=some o)/\os.length<=mi/\∀ i∈(D++E).map (·.1),os.length<=i:=by
 have oL:=hm.ae;have qG:=hm.cls;refine cL.aK 110 os.length [.tmp 4] Tryz.func38 ?_;((try revert hK K);(repeat'(first|refine Va (X3 @ao.eq_1 @bF @bC.{0}) ?_|(refine V2 (X3 @ao.eq_1 @bF @bC.{0}) ?_ ?_<;>try with_reducible intro hb)|(refine Xi ?_ ?_<;>try intro ht)|refine VD ?_ ?_|exact Xx|fail))<;>try with_reducible intro K hK)
 refine cp (σ':=⟨an [(1,.tree 1 (rowsOf aA left)),(2,.ptr os.length 0 0),(5,.ptr (os.length+2) 0 0),(22,.tree 1 (rowsOf aQ m.cls)),(23,NX m.cls.length),(24,NX 0)],os++[.var (ao m),.mp 3 [],.var (ao m++[.lit (.slice none 0 0),.lit (.slice none 0 0),.lit (.slice none 0 0),.dt (os.length+1)])]⟩) (Xv @ao.eq_1) ?_;refine cp (ais m os _ _ _ _) ?_;refine aU (λz:Nat×List (Nat×List Int)×Nat×Nat×List Ob=>(⟨an [(1,.tree 1 (rowsOf aA left)),(2,.ptr os.length 0 0),(5,.ptr (os.length+2) 0 0),(22,.tree 1 (rowsOf aQ m.cls)),(23,NX m.cls.length),(24,NX z.1)],z.2.2.2.2⟩:St))
  (λz=>z.1<=m.cls.length/\FX (BW m left os z.1 z.2.1 z.2.2.1 z.2.2.2.1) z.2.2.2.2/\z.2.1.map (·.2)=(m.cls.take z.1).map bV)
  (λz=>m.cls.length-z.1) (0,[],os.length+3,os.length+4,os++[.var (ao m),.mp 3 [],gW m (os.length+1) (os.length+3) (os.length+4) (os.length+5) 0 0,.arr 1 [],.arr 1 [],.arr 1 []]) ⟨aT _,BW0 m left os,Iw⟩ (Xv X0) ?_
 rintro⟨c,Q,ci,oi,ob⟩⟨hc,hF,hQ⟩Ql ak ar;dsimp only at hc hF hQ ⊢;by_cases fD:c<m.cls.length
 ·have uH:=hm.opt _ (aG (l:=m.cls) (i:=c) (d:=default) fD);have ng:=hm.ry _ (aG (l:=m.cls) (i:=c) (d:=default) fD);have iA:=eZ fD;have DE:=hf.2 c (by have:=hf.1;omega);have iH:=aiu m left c;have Y6:=Mg (X:=left) (c:=c) (by have:=hf.1;omega);have amx:=hf.1;generalize fh:m.cls.getD c default=l at *;generalize Br:left.getD c default=row at *;repeat'(first|((fail_if_success (first|refine ei 7 ?_|refine ej 7 ?_));refine Xr (X2 @fh @aQ.eq_1) ?_;intro K hK)|refine Xo (X2 @fh @aQ.eq_1) ?_|(refine hK _ ?_;clear hK K)|(refine Xg (X2 @fh @aQ.eq_1) ?_ ?_<;>try intro hb)|(refine Xi ?_ ?_<;>try intro ht)|refine Xy ?_|refine Xd ?_ ?_|exact Xx|fail)
  ((try revert hK K);(repeat'(first|refine Va X0 ?_|(refine V2 X0 ?_ ?_<;>try with_reducible intro hb)|(refine Xi ?_ ?_<;>try intro ht)|refine VD ?_ ?_|exact Xx|fail))<;>try with_reducible intro K hK)
  have cQ:row.length=l.length:=DE;refine cp (aF.nil 8 1 (by simp only[Kc,simprocAttr]) NF) ?_;refine cp (aF.nil 9 1 (by simp only[Kc,simprocAttr]) NF) ?_;dsimp only;rw[bC,bE];refine aU (λz:Nat×Nat×Nat×List Ob=>(⟨an [(1,.tree 1 (rowsOf aA left)),(2,.ptr os.length 0 0),(5,.ptr (os.length+2) 0 0),(6,NX c),(8,.ref z.2.1 1 0 z.1),(9,.ref z.2.2.1 1 0 z.1),(22,.tree 1 (rowsOf aQ m.cls)),(23,NX m.cls.length),(24,NX c),(29,.tree 6 (rowsOf b6 l)),(30,NX l.length),(31,NX z.1)],z.2.2.2⟩:St))
   (λz=>z.1<=l.length/\FX ((z.2.1,.arr 1 (bm ((gw l row).take z.1)))::(z.2.2.1,.arr 1 (ints ((bV l).take z.1)))::BW m left os c Q ci oi) z.2.2.2)
   (λz=>l.length-z.1) (0,ob.length,ob.length+1,ob++[.arr 1 [],.arr 1 []]) ⟨aT _,?_⟩ ?_ ?_
  ·exact hF.news (N:=[(ob.length,.arr 1 []),(ob.length+1,.arr 1 [])]) (l:=[.arr 1 [],.arr 1 []]) (λp hp=>by
    simp only[bj,gU,or_false]at hp;rcases hp with rfl|rfl
    ·exact⟨0,rfl,rfl⟩
    ·exact⟨1,rfl,rfl⟩) Iw
  ·exact Xv X0
  clear hF;rintro⟨k,x,y,o2⟩⟨hk,hF⟩c7 br bx;dsimp only at hk hF ⊢;by_cases ba:k<l.length
  ·have Mh:=ng _ (aG (l:=l) (i:=k) (d:=default) ba);have eP:=Dt Mh;have A9:qB (l.getD k default)=((l.getD k default).ch.map (·.2)).foldl dZ 0:=rfl;have lj:(gw l row).take (k+1)=(gw l row).take k++[row.getD k false&&decide (qB (l.getD k default)<1099511627776)]:=by
    rw[eZ (by simp[gw];exact ba)];congr 2;unfold gw;rw[aB,b9,List.getElem?_range ba];rfl
   have Hx:(bV l).take (k+1)=(bV l).take k++[qB (l.getD k default)]:=by
    rw[eZ (by simp[bV];exact ba)];congr 2;unfold bV;rw[aB,b9,aB,bT ba];rfl
   have bG:((gw l row).take k).length=k:=by rw[e8];simp[gw];omega
   have mV:((bV l).take k).length=k:=by rw[e8];simp[bV];omega
   generalize tu:l.getD k default=o at *;have Yo:o.ch.length<9223372036854775808:=by have h1:=V4 hm.uA.1 Mh;have h2:=hm.uA.2;omega
   ((try revert hK K);(repeat'(first|refine Va (X4 @tu @b6.eq_1 @bF @bC.{0}) ?_|(refine V2 (X4 @tu @b6.eq_1 @bF @bC.{0}) ?_ ?_<;>try with_reducible intro hb)|(refine Xi ?_ ?_<;>try intro ht)|refine VD ?_ ?_|exact Xx|fail))<;>try with_reducible intro K hK)
   have Y7:=GC Mh;refine aU (λz:Nat×List Ob=>(⟨an [(1,.tree 1 (rowsOf aA left)),(2,.ptr os.length 0 0),(5,.ptr (os.length+2) 0 0),(6,NX c),(8,.ref x 1 0 k),(9,.ref y 1 0 k),(10,NX k),(12,NX (((o.ch.take z.1).map (·.2)).foldl dZ 0)),(22,.tree 1 (rowsOf aQ m.cls)),(23,NX m.cls.length),(24,NX c),(29,.tree 6 (rowsOf b6 l)),(30,NX l.length),(31,NX k),(37,.tree 2 (rowsOf dj o.ch)),(38,NX o.ch.length),(39,NX z.1)],z.2⟩:St))
    (λz=>z.1<=o.ch.length/\FX ((x,.arr 1 (bm ((gw l row).take k)))::(y,.arr 1 (ints ((bV l).take k)))::BW m left os c Q ci oi) z.2)
    (λz=>o.ch.length-z.1) (0,o2++[.var (b6 o)]) ⟨aT _,hF.app _⟩ (Xv (X3 @List.take_zero.{0} @List.map_nil.{0,0} @List.foldl_nil.{0,0})) ?_
   clear hF;rintro⟨q,o3⟩⟨hq,hF⟩mC gG fI;dsimp only at hq hF ⊢;have C3:bM (((o.ch.take q).map (·.2)).foldl dZ 0):=Ds _ _ (λv hv=>by
    obtain⟨w,hw,rfl⟩:=List.mem_map.1 hv;exact Y7 w (List.mem_of_mem_take hw)) (by unfold bM;decide)
   unfold bM at C3;by_cases vz:q<o.ch.length
   ·have jI:((o.ch.take (q+1)).map (·.2)).foldl dZ 0=min ((((o.ch.take q).map (·.2)).foldl dZ 0)+(o.ch.getD q default).2) 1099511627776:=by
     rw[eZ vz,dR,List.foldl_append];rfl
    have Ed:=Y7 _ (aG (l:=o.ch) (i:=q) (d:=default) vz);unfold bM at Ed;generalize Hy:((o.ch.take (q+1)).map (·.2)).foldl dZ 0=s1 at *;generalize ((o.ch.take q).map (·.2)).foldl dZ 0=s0 at *;generalize bd:o.ch.getD q default=cc at *;((try revert hK K);(repeat'(first|refine Va (X4 @bd @dj.eq_1 @bF @bC.{0}) ?_|(refine V2 (X4 @bd @dj.eq_1 @bF @bC.{0}) ?_ ?_<;>try with_reducible intro hb)|(refine Xi ?_ ?_<;>try intro ht)|refine VD ?_ ?_|exact Xx|fail))<;>try with_reducible intro K hK)
    all_goals try(exfalso;omega)
    exact gG _ (q+1,_) ⟨NN,hF.app [.var (dj cc)]⟩ NN (by dsimp only;rw[Hy,jI];exact Xv @dj.eq_1)
   ·obtain rfl:q=o.ch.length:=Iv;rw[Cv]at C3 ⊢;((try revert hK K);(repeat'(first|refine Va X0 ?_|(refine V2 X0 ?_ ?_<;>try with_reducible intro hb)|(refine Xi ?_ ?_<;>try intro ht)|refine VD ?_ ?_|exact Xx|fail))<;>try with_reducible intro K hK)
    refine fI _ _ rfl ?_;clear gG fI mC;repeat(first|refine Xu ?_)
    rw[<- A9]at C3 ⊢;generalize D1:qB o=sm at *;have fx:=hF.at_ (x,.arr 1 (bm ((gw l row).take k))) Iw;have fy:=hF.at_ (y,.arr 1 (ints ((bV l).take k))) Iw;have qh:x≠y:=FX.ne (P:=[]) (a:=(x,.arr 1 (bm ((gw l row).take k)))) (b:=(y,.arr 1 (ints ((bV l).take k)))) hF Iw;dsimp only at fx fy;have Y8:=aM fx;have Y9:=aM fy;have sx:=iN fx;have Hz:=e7 (y:=.gone) fy qh;have Y':=aM Hz;have sy:=iN Hz;have Ah:=(hF.kill .gone).kill .gone;have lc:(bm ((gw l row).take k)).length=k:=by rw[xR];exact bG
    have lo:(ints ((bV l).take k)).length=k:=by rw[wJ];exact mV
    have tc:iv k (bm ((gw l row).take k))=bm ((gw l row).take k):=c8 Iv;have to:iv k (ints ((bV l).take k))=ints ((bV l).take k):=c8 Iv;have Za:∀ l2 k2,((o3.set x .gone).set y .gone++l2)[o3.length+k2]?=l2[k2]?:=λl2 k2=>yK Iw l2 k2;generalize Zb:row.getD k false=rk at *;have kD:∀ bv,bv=(rk&&decide (sm<1099511627776))->FX ((o3.length+1,.arr 1 (bm ((gw l row).take (k+1))))::(o3.length+3,.arr 1 (ints ((bV l).take (k+1))))::BW m left os c Q ci oi) ((o3.set x .gone).set y .gone++[.arr 1 [[.lit (.bool bv)]],.arr 1 (bm ((gw l row).take k++[bv])),.arr 1 [[NX sm]],.arr 1 (ints ((bV l).take k++[sm]))]):=λbv hbv=>by
     rw[lj,Hx,<- hbv];have s9:((o3.set x .gone).set y .gone).length=o3.length:=Iw;have h:=Ah.news (N:=[(o3.length+1,.arr 1 (bm ((gw l row).take k++[bv]))),(o3.length+3,.arr 1 (ints ((bV l).take k++[sm])))]) (l:=[.arr 1 [[.lit (.bool bv)]],.arr 1 (bm ((gw l row).take k++[bv])),.arr 1 [[NX sm]],.arr 1 (ints ((bV l).take k++[sm]))]) (λp hp=>by
      rw[s9];simp only[bj,gU,or_false]at hp;rcases hp with rfl|rfl
      ·exact⟨1,rfl,rfl⟩
      ·exact⟨3,rfl,rfl⟩) Iw
     exact h
    ((try revert hK K);(repeat'(first|refine Va (X5 @bF @bC.{0} @bE.{0} @bK.{0} (X5 @Y6 @Br @aA.eq_1 @Zb (X5 @fx @Y8 @sx @fy (X5 @Y9 @Hz @Y' @sy (X5 @lc @lo @tc @to (X4 @oH @Za @CE @CD)))))) ?_|(refine V2 (X5 @bF @bC.{0} @bE.{0} @bK.{0} (X5 @Y6 @Br @aA.eq_1 @Zb (X5 @fx @Y8 @sx @fy (X5 @Y9 @Hz @Y' @sy (X5 @lc @lo @tc @to (X4 @oH @Za @CE @CD)))))) ?_ ?_<;>try with_reducible intro hb)|(refine Xi ?_ ?_<;>try intro ht)|refine VD ?_ ?_|exact Xx|fail))<;>try with_reducible intro K hK)
    all_goals first
     |exact br _ (k+1,o3.length+1,o3.length+3,_) ⟨NN,kD (decide (sm<1099511627776)) (by simp[*])⟩ NN (Xv X0)
     |exact br _ (k+1,o3.length+1,o3.length+3,_) ⟨NN,kD false (by simp[*])⟩ NN (Xv X0)
  ·obtain rfl:k=l.length:=Iv;have e1:(gw l row).take l.length=gw l row:=c8 (by simp[gw]);have e2:(bV l).take l.length=bV l:=c8 (by simp[bV]);rw[e1,e2]at hF;((try revert hK K);(repeat'(first|refine Va X0 ?_|(refine V2 X0 ?_ ?_<;>try with_reducible intro hb)|(refine Xi ?_ ?_<;>try intro ht)|refine VD ?_ ?_|exact Xx|fail))<;>try with_reducible intro K hK)
   refine bx _ _ rfl ?_;clear br bx c7;repeat(first|refine Xu ?_)
   have mV:(bV l).length=l.length:=by simp[bV]
   have bG:(gw l row).length=l.length:=by simp[gw]
   have fx:=hF.at_ (x,.arr 1 (bm (gw l row))) Iw;refine cp (aF.zW 8 x 1 (rows:=bm (gw l row)) fx (by rw[xR,bG];simp only[Kc,simprocAttr]) (Fl _) (I8 _)) ?_;have Ah:=hF.kill .gone;dsimp only;generalize o2.set x .gone=o4 at *;have dU :∃o6,FX (lA (y,bV l)::BW m left os c Q ci oi) o6/\aF os.length ⟨an [(1,.tree 1 (rowsOf aA left)),(2,.ptr os.length 0 0),(5,.ptr (os.length+2) 0 0),(8,.tree 1 (bm (gw l row))),(9,.ref y 1 0 l.length),(22,.tree 1 (rowsOf aQ m.cls)),(23,NX m.cls.length),(24,NX c)],o4⟩
     ⟨an [(1,.tree 1 (rowsOf aA left)),(2,.ptr os.length 0 0),(5,.ptr (os.length+2) 0 0),(8,.tree 1 (bm (gw l row))),(9,oN (y,l.length)),(22,.tree 1 (rowsOf aQ m.cls)),(23,NX m.cls.length),(24,NX c)],o6⟩:=by
    unfold lA oN;dsimp only;by_cases h0:l.length=0
    ·have hl0:bV l=[]:=List.length_eq_zero_iff.1 (mV.trans h0);rw[hl0,if_pos rfl,if_pos h0];rw[hl0]at Ah;refine⟨o4.set y .gone,Ah.put _,?_⟩;refine aF.trans (aF.zW 9 y 1 (rows:=[]) (Ah.at_ (y,.arr 1 (ints [])) Iw) (by rw[h0];rfl) Iw Iw) ?_;exact Xv X0
    ·have hl0:bV l≠[]:=λe=>h0 (by rw[<- mV,e];rfl);rw[if_neg hl0,if_neg h0];exact⟨o4,Ah,by exact Xv X0⟩
   obtain⟨o6,B4,hT⟩:=dU;refine cp (σ':=⟨an [(1,.tree 1 (rowsOf aA left)),(2,.ptr os.length 0 0),(5,.ptr (os.length+2) 0 0),(8,.tree 1 (bm (gw l row))),(9,.ref y 1 0 l.length),(22,.tree 1 (rowsOf aQ m.cls)),(23,NX m.cls.length),(24,NX c)],o4⟩) (Xv X0) ?_;refine cp hT ?_;clear hT hF Ah fx o4;have s8:Q.length=c:=by have:=congrArg kI hQ;simp at this;omega
   have fG:=B4.at_ (os.length+2,gW m (os.length+1) ci oi (os.length+5) c 0) (by simp[BW]);have fC:=B4.at_ (ci,.arr 1 (rowsOf aA (dP m left c))) (by simp[BW]);have fO:=B4.at_ (oi,.arr 1 (rowsOf dH (dQ Q))) (by simp[BW]);unfold gW ao at fG;dsimp only[dq,ec]at fG fC fO;have Ee:(lA (y,bV l)::BW m left os c Q ci oi).Perm ((ci,.arr 1 (rowsOf aA (dP m left c)))::(oi,.arr 1 (rowsOf dH (dQ Q)))::(os.length+2,gW m (os.length+1) ci oi (os.length+5) c 0)::lA (y,bV l)::(os.length+5,.arr 1 [])::(os.length,.var (ao m))::(os.length+1,.mp 3 [])::(Q.map lA++nM os)):=by
    exact aiw _ _ _ _ _
   have Ai:=B4.perm Ee;have aix:ci≠oi:=FX.ne (P:=[]) (a:=(ci,.arr 1 (rowsOf aA (dP m left c)))) (b:=(oi,.arr 1 (rowsOf dH (dQ Q)))) Ai Iw;have Mi:ci≠os.length+2:=FX.ne (P:=[]) (a:=(ci,.arr 1 (rowsOf aA (dP m left c)))) (b:=(os.length+2,gW m (os.length+1) ci oi (os.length+5) c 0)) Ai Iw;have Mj:oi≠os.length+2:=FX.ne (P:=[(ci,.arr 1 (rowsOf aA (dP m left c)))]) (a:=(oi,.arr 1 (rowsOf dH (dQ Q)))) (b:=(os.length+2,gW m (os.length+1) ci oi (os.length+5) c 0)) Ai Iw;have fCl:=aM fC;have fOl:=aM fO;have B5:=aM fG;have sC:=iN fC;have vS:=e7 (y:=.gone) fG Mi;have B6:=aM vS;have Mk:=e7 (y:=.gone) fO aix;have aiA:=aM Mk;have sO:=iN Mk;have Ef:=e7 (y:=.gone) vS Mj;have aiB:=aM Ef;have Eg:=(Ai.kill .gone).kill .gone;have lC:(rowsOf aA (dP m left c)).length=c:=by rw[cf];simp[dP]
   have lO:(rowsOf dH (dQ Q)).length=c:=by rw[cf];simp[dQ,s8]
   have tC:iv c (rowsOf aA (dP m left c))=rowsOf aA (dP m left c):=c8 Iv;have tO:iv c (rowsOf dH (dQ Q))=rowsOf dH (dQ Q):=c8 Iv;have rm:rowsOf aA (dP m left c)++[[.tree 1 (bm (gw l row))]]=rowsOf aA (dP m left (c+1)):=by rw[iH];unfold rowsOf;rw[dR];rfl
   have yd:rowsOf dH (dQ Q)++[[oN (y,l.length)]]=rowsOf dH (dQ (Q++[(y,bV l)])):=by rw[<- Ml,show(bV l).length=l.length by simp[bV]]
   have l6:((o6.set ci .gone).set oi .gone).length=o6.length:=Iw;have l5:(o6.set ci Ob.gone).length=o6.length:=Iw;have e5:=λl k=>yK l5 l k;have e50:=λx l=>Ht l5 x l;have e6:=λl k=>yK l6 l k;have e60:=λx l=>Ht l6 x l;have sG:=iN Ef;have sG2:=λy=>iN (lZ (y:=y) Ef);have sG5:=λy=>aM (lZ (y:=y) Ef);have sQ:(os.length+2∈[os.length+2])=True:=Iw;have D5:(ci ∉ [os.length+2])=True:=by simp[Mi]
   have hmo:(oi ∉ [os.length+2])=True:=by simp[Mj]
   have aiH:(ci∈[os.length+2])=False:=by simp[Mi]
   have aiI:(oi∈[os.length+2])=False:=by simp[Mj]
   have rh:=aiJ (y,l.length);have aiK:cellsOf (oN (y,l.length))=[oN (y,l.length)]:=by unfold oN;split<;>rfl
   have amy:=iG fG;have kD:∀ (s:St) (cc:Nat) (G1:Ob) (l4:List Ob),cc=1\/cc=2->l4[cc]?=some (.arr 1 (rowsOf aA (dP m left (c+1))))->l4[3]?=some (.arr 1 (rowsOf dH (dQ (Q++[(y,bV l)])))) ->
     aF os.length s ⟨an [(1,.tree 1 (rowsOf aA left)),(2,.ptr os.length 0 0),(5,.ptr (os.length+2) 0 0),(22,.tree 1 (rowsOf aQ m.cls)),(23,NX m.cls.length),(24,NX c)],(((o6.set ci .gone).set oi .gone).set (os.length+2) G1).set (os.length+2) (gW m (os.length+1) (o6.length+cc) (o6.length+3) (os.length+5) (c+1) 0)++l4⟩ ->
     ∃ cc l4,FX (BW m left os (c+1) (Q++[(y,bV l)]) (o6.length+cc) (o6.length+3)) l4/\aF os.length s ⟨an [(1,.tree 1 (rowsOf aA left)),(2,.ptr os.length 0 0),(5,.ptr (os.length+2) 0 0),(22,.tree 1 (rowsOf aQ m.cls)),(23,NX m.cls.length),(24,NX c)],l4⟩:=λs cc G1 l4 bd h1 h2 ht=>by
    refine⟨cc,_,?_,ht⟩;have h:=((Eg.put G1).put (gW m (os.length+1) (o6.length+cc) (o6.length+3) (os.length+5) (c+1) 0)).news (N:=[(o6.length+cc,.arr 1 (rowsOf aA (dP m left (c+1)))),(o6.length+3,.arr 1 (rowsOf dH (dQ (Q++[(y,bV l)]))))]) (l:=l4) (λp hp=>by
     simp only[bK];simp only[bj,gU,or_false]at hp;rcases hp with rfl|rfl
     ·exact⟨cc,rfl,h1⟩
     ·exact⟨3,rfl,h2⟩) NP
    have h':=h.perm (aiL _ _ _ _ _ _ _ _ _);unfold BW;rw[dR,bC];exact h'
   refine Hp (λs=>∃ cc l4,FX (BW m left os (c+1) (Q++[(y,bV l)]) (o6.length+cc) (o6.length+3)) l4/\aF os.length s ⟨an [(1,.tree 1 (rowsOf aA left)),(2,.ptr os.length 0 0),(5,.ptr (os.length+2) 0 0),(22,.tree 1 (rowsOf aQ m.cls)),(23,NX m.cls.length),(24,NX c)],l4⟩) ?_ ?_
   ·rintro s ⟨cc,l4,h1,h2⟩;repeat(first|refine Xu ?_)
    refine cp h2 ?_;((try revert hK K);(repeat'(first|refine Va X0 ?_|(refine V2 X0 ?_ ?_<;>try with_reducible intro hb)|(refine Xi ?_ ?_<;>try intro ht)|refine VD ?_ ?_|exact Xx|fail))<;>try with_reducible intro K hK)
    exact ak _ (c+1,Q++[(y,bV l)],o6.length+cc,o6.length+3,l4) ⟨NN,h1,by dsimp only;rw[dR,hQ,iA,dR];rfl⟩ NN (Xv X0)
   intro QQ key;clear ak ar;refine Y0 [os.length+2] [] [8,15] (.take 0 (.take 1 (.take 2 (.take 3 (.take 4 (.take 5 (.take 6 (.take 9 (.take 10 (.take 11 (.take 12 (.take 13 (.both 7 (.both 8 (.take 14 (.take 15 (.take 16 (.take 17 (.take 18 (.take 19 (.take 20 (.take 21 .nil)))))))) 14 (.take 8 (.take 15 (.take 16 (.take 17 (.take 18 (.take 19 (.take 20 (.take 21 .nil))))))))) 14 (.take 7 (.take 8 (.take 15 (.take 16 (.take 17 (.take 18 (.take 19 (.take 20 (.take 21 .nil)))))))))))))))))))))) rfl NF (by decide +kernel) ?_;simp(disch:=omega)only[Ac,↓Pc,simprocAttr,Ra,ja,sQ,D5,hmo,aiH,aiI,not_false_eq_true,fC,fO,fG,fCl,fOl,B5,sC,vS,B6,Mk,aiA,sO,Ef,aiB,lC,lO,tC,tO,rm,yd,l5,l6,e5,e50,e6,e60,sG,sG2,sG5,rh,aiK,bF,bC,bE];repeat'(first|with_reducible refine cJ ?_ ?_|omega|with_reducible rfl|(intro id bO;simp only[bj,gU,or_false]at bO;omega))
   all_goals first
    | (refine key _ (kD _ 1 (.var (ao m++[.ref (o6.length+1) 1 0 (c+1),.ref oi 1 0 c,.ref (os.length+5) 1 0 0,.dt (os.length+1)])) [.arr 1 [[.tree 1 (bm (gw l row))]],.arr 1 (rowsOf aA (dP m left (c+1))),.arr 1 [[oN (y,l.length)]],.arr 1 (rowsOf dH (dQ (Q++[(y,bV l)])))] (.inl rfl) rfl rfl ?_);exact Xv (X2 @gW.eq_1 @ao.eq_1);done)
    | (refine key _ (kD _ 2 (.var (ao m++[.ref (o6.length+2) 1 0 (c+1),.ref oi 1 0 c,.ref (os.length+5) 1 0 0,.dt (os.length+1)])) [.arr 1 [[.tree 1 (bm (gw l row))]],.arr 1 [[oN (y,l.length)]],.arr 1 (rowsOf aA (dP m left (c+1))),.arr 1 (rowsOf dH (dQ (Q++[(y,bV l)])))] (.inr rfl) rfl rfl ?_);exact Xv (X2 @gW.eq_1 @ao.eq_1);done)
    | (refine key _ (kD _ 2 (.var (ao m++[.ref (o6.length+2) 1 0 (c+1),.ref oi 1 0 c,.ref (os.length+5) 1 0 0,.dt (os.length+1)])) [.arr 1 [[oN (y,l.length)]],.arr 1 [[.tree 1 (bm (gw l row))]],.arr 1 (rowsOf aA (dP m left (c+1))),.arr 1 (rowsOf dH (dQ (Q++[(y,bV l)])))] (.inr rfl) rfl rfl ?_);exact Xv (X2 @gW.eq_1 @ao.eq_1);done)
 ·obtain rfl:c=m.cls.length:=Iv;rw[Cv]at hQ;((try revert hK K);(repeat'(first|refine Va X0 ?_|(refine V2 X0 ?_ ?_<;>try with_reducible intro hb)|(refine Xi ?_ ?_<;>try intro ht)|refine VD ?_ ?_|exact Xx|fail))<;>try with_reducible intro K hK)
  refine ar _ _ rfl ?_;clear ak ar Ql;repeat(first|refine Xu ?_)
  have D7:FX (B2 m left os Q ci oi (os.length+5) 0 []) ob:=hF.perm (aiM _ _ _ _ _ _ _);clear hF;have fA:=D7.at_ (os.length,.var (ao m)) (by simp[B2,BR]);dsimp only at fA;((try revert hK K);(repeat'(first|refine Va (X2 @fA @ao.eq_1) ?_|(refine V2 (X2 @fA @ao.eq_1) ?_ ?_<;>try with_reducible intro hb)|(refine Xi ?_ ?_<;>try intro ht)|refine VD ?_ ?_|exact Xx|fail))<;>try with_reducible intro K hK)
  refine aU (λz:Nat×List (Nat×List Int)×Nat×List Ob=>(⟨an [(5,.ptr (os.length+2) 0 0),(90,.tree 4 (rowsOf aH m.ae)),(91,NX m.ae.length),(92,NX z.1)],z.2.2.2⟩:St))
   (λz=>z.1<=m.ae.length/\FX (B2 m left os Q ci oi z.2.2.1 z.1 z.2.1) z.2.2.2/\z.2.1.map (·.2)=(m.ae.take z.1).map (·.ax))
   (λz=>m.ae.length-z.1) (0,[],os.length+5,ob) ⟨aT _,D7,Iw⟩ (Xv X0) ?_
  clear D7 fA;rintro⟨j,QE,ti,ob⟩⟨hj,hF,yL⟩Ql ak ar;dsimp only at hj hF yL ⊢;by_cases fe:j<m.ae.length
  ·have iA:=eZ fe;obtain⟨dN,_⟩:=yJ hm fe;have nk:(cN m j).ax.length<=576:=by
    obtain⟨_,_,_,_,h1⟩:=qz dN;have a:=Aj hm (cN m j).fst.toNat;have b:=Aj hm (cN m j).snd.toNat;have h2:(cN m j).ax.length=cF m (cN m j).fst.toNat*cF m (cN m j).snd.toNat:=by exact_mod_cast h1
    rw[h2];exact Nat.mul_le_mul a b
   have gu:m.ae.getD j default=cN m j:=rfl;rw[gu]at iA;generalize cN m j=p at *;have s8:QE.length=j:=by have:=congrArg kI yL;simp at this;omega
   have fG:=hF.at_ (os.length+2,gW m (os.length+1) ci oi ti m.cls.length j) (by simp[B2]);have fT:=hF.at_ (ti,.arr 1 (rowsOf dH (dQ QE))) (by simp[B2]);unfold gW ao at fG;dsimp only[dq,ec]at fG fT;have zu:os.length+2≠ti:=FX.ne (P:=[]) (a:=(os.length+2,gW m (os.length+1) ci oi ti m.cls.length j)) (b:=(ti,.arr 1 (rowsOf dH (dQ QE)))) hF Iw;have Ai:FX ((ti,.arr 1 (rowsOf dH (dQ QE)))::(os.length+2,gW m (os.length+1) ci oi ti m.cls.length j)::(QE.map lA++BR m left os Q ci oi)) ob:=hF.perm (List.Perm.swap _ _ _);have Eg:=Ai.kill .gone;have xk:=aM fT;have B5:=aM fG;have sT:=iN fT;have vS:=e7 (y:=.gone) fG (Ne.symm zu);have B6:=aM vS;have sG:=iN vS;have lT:(rowsOf dH (dQ QE)).length=j:=by rw[cf];simp[dQ,s8]
   have tT:iv j (rowsOf dH (dQ QE))=rowsOf dH (dQ QE):=c8 Iv;have yd:rowsOf dH (dQ QE)++[[oN (ob.length+1,p.ax.length)]]=rowsOf dH (dQ (QE++[(ob.length+1,p.ax)])):=Ml QE (ob.length+1,p.ax);have tx:=iG fG;repeat'(first|((fail_if_success (first|refine ei 23 ?_|refine ej 23 ?_));refine Xr (X3 @gu @bF @bC.{0}) ?_;intro K hK)|refine Xo (X3 @gu @bF @bC.{0}) ?_|(refine hK _ ?_;clear hK K)|(refine Xg (X3 @gu @bF @bC.{0}) ?_ ?_<;>try intro hb)|(refine Xi ?_ ?_<;>try intro ht)|refine Xy ?_|refine Xd ?_ ?_|exact Xx|fail)
   refine cp (σ':=⟨an [(5,.ptr (os.length+2) 0 0),(16,.ptr ob.length 0 0),(90,.tree 4 (rowsOf aH m.ae)),(91,NX m.ae.length),(92,NX j)],ob++[.var (aH p)]⟩) (Xv @aH.eq_1) ?_;refine Hp (λs=>∃ q tn l4,FX (B2 m left os Q ci oi tn (j+1) (QE++[(q,p.ax)])) l4/\aF os.length s ⟨an [(5,.ptr (os.length+2) 0 0),(90,.tree 4 (rowsOf aH m.ae)),(91,NX m.ae.length),(92,NX j)],l4⟩) ?_ ?_
   ·rintro s ⟨q,tn,l4,h1,h2⟩;repeat(first|refine Xu ?_)
    refine cp h2 ?_;((try revert hK K);(repeat'(first|refine Va X0 ?_|(refine V2 X0 ?_ ?_<;>try with_reducible intro hb)|(refine Xi ?_ ?_<;>try intro ht)|refine VD ?_ ?_|exact Xx|fail))<;>try with_reducible intro K hK)
    exact ak _ (j+1,QE++[(q,p.ax)],tn,l4) ⟨NN,h1,by dsimp only;rw[dR,yL,iA,dR];rfl⟩ NN (Xv X0)
   intro QQ key;clear ak ar;by_cases h0:p.ax.length=0
   ·have HA:p.ax=[]:=List.length_eq_zero_iff.1 h0;have bG:=ahX p.ax Iv;rw[HA]at bG key;have Zc:rowsOf dH (dQ QE)++[[.tree 1 (ints [])]]=rowsOf dH (dQ (QE++[(ti,[])])):=Ml QE (ti,[]);have hg5:FX ((os.length+2,gW m (os.length+1) ci oi ti m.cls.length j)::(ti,.gone)::(QE.map lA++BR m left os Q ci oi)) (ob.set ti .gone):=(Ai.put .gone).perm (List.Perm.swap _ _ _);have kD:FX (B2 m left os Q ci oi (ob.length+2) (j+1) (QE++[(ti,[])])) ((ob.set ti .gone).set (os.length+2) (gW m (os.length+1) ci oi (ob.length+2) m.cls.length (j+1))++[.var [NX p.fst,NX p.snd,NX p.dK,.tree 1 (ints [])],.arr 1 [[.tree 1 (ints [])]],.arr 1 (rowsOf dH (dQ (QE++[(ti,[])])))]):=by
     have h:=(hg5.put (gW m (os.length+1) ci oi (ob.length+2) m.cls.length (j+1))).news (N:=[(ob.length+2,.arr 1 (rowsOf dH (dQ (QE++[(ti,[])]))))]) (l:=[.var [NX p.fst,NX p.snd,NX p.dK,.tree 1 (ints [])],.arr 1 [[.tree 1 (ints [])]],.arr 1 (rowsOf dH (dQ (QE++[(ti,[])])))]) (λq hq=>by
      simp only[bK];rw[cU]at hq;subst hq;exact⟨2,rfl,rfl⟩) Iw
     have h':=h.perm (aiO _ _ _ _ _);unfold B2;rw[dR,bC];exact h'
    rw[HA]at yd nk;refine nY [] (.take 0 (.take 1 (.take 5 (.take 6 (.both 2 (.both 3 (.both 4 (.take 7 (.take 8 (.take 9 (.take 10 (.take 11 (.take 12 .nil)))))) 7 (.take 4 (.take 8 (.take 9 (.take 10 (.take 11 (.take 12 .nil))))))) 7 (.take 3 (.take 4 (.take 8 (.take 9 (.take 10 (.take 11 (.take 12 .nil)))))))) 7 (.take 2 (.take 3 (.take 4 (.take 8 (.take 9 (.take 10 (.take 11 (.take 12 .nil))))))))))))) rfl NF (by decide +kernel) ?_;simp(disch:=omega)only[Ac,↓Pc,simprocAttr,Pw,fT,fG,xk,B5,sT,vS,B6,sG,lT,tT,Zc,aH,HA,oH,bF,bC,bE];repeat'(first|with_reducible refine cJ ?_ ?_|omega|with_reducible rfl)
    all_goals
     (refine Xn [] (bG) ?_;simp(disch:=omega)only[Ac,↓Pc,simprocAttr,Pw,fT,fG,xk,B5,sT,vS,B6,sG,lT,tT,Zc,aH,HA,oH,bF,bC,bE])
     repeat'(first|with_reducible refine cJ ?_ ?_|omega|with_reducible rfl)
    all_goals exact key _ ⟨ti,ob.length+2,_,kD,by exact Xv (X2 @gW.eq_1 @ao.eq_1)⟩
   ·have bG:=Yg p.ax Iv Iv;have Zd:rowsOf dH (dQ QE)++[[.ref (ob.length+1) 1 0 p.ax.length]]=rowsOf dH (dQ (QE++[(ob.length+1,p.ax)])):=by rw[<- yd];unfold oN;rw[if_neg h0]
    have kD:FX (B2 m left os Q ci oi (ob.length+3) (j+1) (QE++[(ob.length+1,p.ax)])) ((ob.set ti .gone).set (os.length+2) (gW m (os.length+1) ci oi (ob.length+3) m.cls.length (j+1))++[.var (aH p),.arr 1 (ints p.ax),.arr 1 [[.ref (ob.length+1) 1 0 p.ax.length]],.arr 1 (rowsOf dH (dQ (QE++[(ob.length+1,p.ax)])))]):=by
     have h:=(Eg.put (gW m (os.length+1) ci oi (ob.length+3) m.cls.length (j+1))).news (N:=[(ob.length+3,.arr 1 (rowsOf dH (dQ (QE++[(ob.length+1,p.ax)])))),lA (ob.length+1,p.ax)]) (l:=[.var (aH p),.arr 1 (ints p.ax),.arr 1 [[.ref (ob.length+1) 1 0 p.ax.length]],.arr 1 (rowsOf dH (dQ (QE++[(ob.length+1,p.ax)])))]) (λq hq=>by
      simp only[bK];simp only[bj,gU,or_false]at hq;rcases hq with rfl|rfl
      ·exact⟨3,rfl,rfl⟩
      ·refine⟨1,rfl,?_⟩;unfold lA;dsimp only;rw[if_neg (λe=>h0 (by rw[e];rfl))];rfl) (by simp[lA])
     have h':=h.perm (aiP _ _ _ _ _);unfold B2;rw[dR,bC];exact h'
    refine nY [] (.take 0 (.take 1 (.take 5 (.take 6 (.both 2 (.both 3 (.both 4 (.take 7 (.take 8 (.take 9 (.take 10 (.take 11 (.take 12 .nil)))))) 7 (.take 4 (.take 8 (.take 9 (.take 10 (.take 11 (.take 12 .nil))))))) 7 (.take 3 (.take 4 (.take 8 (.take 9 (.take 10 (.take 11 (.take 12 .nil)))))))) 7 (.take 2 (.take 3 (.take 4 (.take 8 (.take 9 (.take 10 (.take 11 (.take 12 .nil))))))))))))) rfl NF (by decide +kernel) ?_;simp(disch:=omega)only[Ac,↓Pc,simprocAttr,Pw,fT,fG,xk,B5,sT,vS,B6,sG,lT,tT,Zd,aH,oH,bF,bC,bE];repeat'(first|with_reducible refine cJ ?_ ?_|omega|with_reducible rfl)
    all_goals
     (refine Xn [] (bG) ?_;simp(disch:=omega)only[Ac,↓Pc,simprocAttr,Pw,fT,fG,xk,B5,sT,vS,B6,sG,lT,tT,Zd,aH,oH,bF,bC,bE,Fk])
     repeat'(first|with_reducible refine cJ ?_ ?_|omega|with_reducible rfl)
    all_goals exact key _ ⟨ob.length+1,ob.length+3,_,kD,by exact Xv (X3 @gW.eq_1 @ao.eq_1 @aH.eq_1)⟩
  ·obtain rfl:j=m.ae.length:=Iv;rw[Cv]at yL;((try revert hK K);(repeat'(first|refine Va X0 ?_|(refine V2 X0 ?_ ?_<;>try with_reducible intro hb)|(refine Xi ?_ ?_<;>try intro ht)|refine VD ?_ ?_|exact Xx|fail))<;>try with_reducible intro K hK)
   refine ar _ _ rfl ?_;clear ak ar Ql;repeat(first|refine Xu ?_)
   have fG:=hF.at_ (os.length+2,gW m (os.length+1) ci oi ti m.cls.length m.ae.length) (by simp[B2]);have fC:=hF.at_ (ci,.arr 1 (rowsOf aA (dP m left m.cls.length))) (by simp[B2,BR]);dsimp only at fG fC;unfold gW at fG;refine cp (aF.wT ci (os.length+2) 4 1 (cells:=ao m++[.ref ci 1 0 m.cls.length,.ref oi 1 0 m.cls.length,.ref ti 1 0 m.ae.length,.dt (os.length+1)]) (rows:=rowsOf aA (dP m left m.cls.length)) fG fC (by rw[cf];simp[dP,ao]) (ig _) (my _)) ?_;obtain⟨Ze,pI,gf⟩:=aiQ hQ yL hF;have hlen:os.length<=((ob.set ci .gone).set (os.length+2) (.var (ao m++[.tree 1 (rowsOf aA (dP m left m.cls.length)),.ref oi 1 0 m.cls.length,.ref ti 1 0 m.ae.length,.dt (os.length+1)]))).length:=by
    have:=iG fG;simp only[bK];omega
   refine cp (σ':=⟨an [(5,.ptr (os.length+2) 0 0)],(ob.set ci .gone).set (os.length+2) (.var (ao m++[.tree 1 (rowsOf aA (dP m left m.cls.length)),.ref oi 1 0 m.cls.length,.ref ti 1 0 m.ae.length,.dt (os.length+1)]))⟩) (Xv @ao.eq_1) ?_;generalize (ob.set ci .gone).set (os.length+2) (.var (ao m++[.tree 1 (rowsOf aA (dP m left m.cls.length)),.ref oi 1 0 m.cls.length,.ref ti 1 0 m.ae.length,.dt (os.length+1)]))=o9 at *;have tx:=iG Ze.v;((try revert hK K);(repeat'(first|refine Vb X0 ?_|(refine V2 X0 ?_ ?_<;>try with_reducible intro hb)|(refine Xi ?_ ?_<;>try intro ht)|refine VD ?_ ?_|exact Xx|fail))<;>try with_reducible intro K hK)
   unfold eH;simp only[dx,du];simp(disch:=omega)only[Ac,↓Pc,simprocAttr];exact⟨_,_,⟨_,_,_,_,_,_,rfl,Ze,hlen,pI,Iv,gf⟩,ed rfl hlen rfl⟩
end
end T

