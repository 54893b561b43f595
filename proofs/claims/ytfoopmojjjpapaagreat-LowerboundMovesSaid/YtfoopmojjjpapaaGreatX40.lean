import Derived.Test.YtfoopmojjjpapaaGreatX37
import Derived.Test.YtfoopmojjjpapaaGreatX38
import Derived.Test.YtfoopmojjjpapaaGreatX39
import Derived.Test.YtfoopmojjjpapaaGreatX28
set_option linter.all false
set_option maxHeartbeats 0
set_option maxRecDepth 20000
open List renaming replicate→aJ,length→kI,getElem?_map→b9,getElem?_set→bY,getElem?_eq_getElem→bT,mem_singleton→cU,length_replicate→mL,map_append→dS,append_assoc→bC,mem_cons→bj,mem_cons_of_mem→dI,set_set→wG,length_set→bK,map_set→rV,length_append→bF,not_mem_nil→gU,take→iv,cons_append→dh,getD_eq_getElem?_getD→aB,length_take→e8,take_length→Cy,take_of_length_le→c8,nil_append→ec
open Option renaming some→cm
open Nat renaming sub_self→iT,zero_le→aT
open And renaming intro→cK
open Go Go.Am Go.Proofs
namespace T
def yE(w o:Nat):List Bool:=(aJ w false).set o true
def nL(left:List (List Bool))(c o:Nat):List (List Bool):=left.set c (yE (left.getD c default).length o)
def YQ(w o:Nat):(yE w o).length=w:=by simp[yE]
def XM(left:List (List Bool))(c o:Nat):(nL left c o).map kI=left.map kI:=by
 unfold nL;apply List.ext_getElem?;intro j;rw[b9,b9,bY];split
 ·rename_i e;subst e;split
  ·rename_i h2;rw[bT h2];simp[YQ,h2]
  ·rename_i h2;rw[List.getElem?_eq_none Ix]
 ·rfl
def YR{σ:St}{kp:Nat->Prop}{c d:List AV}(h:∀ v∈c,(∃ x,v=AV.lit x)\/∃ s r,v=AV.tree s r)(e:d=c):ju (cL σ kp) c d:=by
 subst e
 induction d with
 |nil=>trivial
 |cons v l ih =>
  refine⟨?_,ih λx hx=>h x (by simp[hx])⟩;rcases h v Iy with⟨x,rfl⟩|⟨s,r,rfl⟩
  ·exact .lit _
  ·exact .tree _ _
def ah3{σ:St}{kp:Nat->Prop}{oi k c:Nat}{left:List (List Bool)}{r:List Bool}(hc:c<left.length)(ho:σ.aa[oi]?=some (.arr 1 ((rowsOf aA left).set c [.ref k 1 0 r.length])))(hk:¬ kp oi)(hr:σ.aa[k]?=some (.arr 1 (bm r)))(y9:¬ kp k):
  cL σ kp (.tree 1 (rowsOf aA (left.set c r))) (.ref oi 1 0 left.length) :=
 cL.mk ho (by simp[rowsOf]) hk (ig _) (kL.D9 (f:=λ_=>[]) (g:=λ_=>[]) (by simp[rowsOf]) λj x d hx hd=>by
  unfold rowsOf at hx hd;rw[b9,bY]at hx;rw[bY]at hd;by_cases e:c=j
  ·subst e;rw[if_pos rfl,if_pos hc]at hx;rw[if_pos rfl,if_pos (by simpa using hc)]at hd;cases hx;cases hd;exact⟨YS hr y9,trivial⟩
  ·rw[if_neg e]at hx hd;rw[b9]at hd;rw[hx]at hd;simp only[cm.injEq]at hd;cases hl:left[j]? with
   |none=>rw[hl]at hx;cases hx
   |some y =>
    rw[hl]at hx;simp only[Option.map_some,cm.injEq]at hx;subst hx;exact YR (λv hv=>by simp only[aA,cU]at hv;exact .inr ⟨_,_,hv⟩) hd.symm)
def Yk(xs:List Int)(h:0<xs.length)(hl:xs.length<549755813888):Holds Tryz.prog 69 [.tree 1 (ints xs)] [] (.ref 0 1 0 xs.length) [.arr 1 (ints xs)]:=by
 refine Holds.aK 8 0 [.tmp 2] Tryz.func69 ?_;((repeat'(first|refine Vb @Fm ?_|(refine Xi ?_ ?_<;>try intro ht)|exact Xx|fail)))
 exact Xw false [1] X0
def ah4(xs:List (List Bool))(h:0<xs.length)(hl:xs.length<549755813888):Holds Tryz.prog 130 [.tree 1 (rowsOf aA xs)] [] (.ref 0 1 0 xs.length) [.arr 1 (rowsOf aA xs)]:=by
 refine Holds.aK 8 0 [.tmp 2] Tryz.func130 ?_;((repeat'(first|refine Vb X0 ?_|(refine Xi ?_ ?_<;>try intro ht)|exact Xx|fail)))
 exact Xw false [1] X0
def agV:Holds Tryz.prog 69 [.lit (.slice none 0 0)] [] (.lit (.slice none 0 0)) []:=by
 refine Holds.aK 8 0 [.tmp 2] Tryz.func69 ?_;((repeat'(first|refine Vb @Option.isNone_none.{0} ?_|(refine Xi ?_ ?_<;>try intro ht)|exact Xx|fail)))
 all_goals first|exact aS rfl rfl|(exfalso;simp at *;done)
def agU(left:List (List Bool))(c o:Nat)(hc:c<left.length)(ho:o<(left.getD c default).length)(hl:left.length<549755813888)(hw:(left.getD c default).length<549755813888):
  Holds Tryz.prog 97 [.tree 1 (rowsOf aA left),N0 c,N0 o] [] (.tree 1 (rowsOf aA (nL left c o))) []:=by
 unfold nL;have iL:∀ r:List AV,((rowsOf aA left).set c r)[c]?=some r:=λr=>by rw[bY,if_pos rfl,if_pos (by simpa [rowsOf] using hc)]
 have k8:∀ r:List AV,((rowsOf aA left).set c r).length=left.length:=λr=>by simp[rowsOf]
 generalize gq:left.getD c default=row at *;have Lr:(aJ row.length false).length=row.length:=mL;refine Holds.aK 26 0 [.tmp 6] Tryz.func97 ?_;((refine Vb X0 ?_)<;>try with_reducible intro K hK)
 (refine Xn [] (ah4 left Ix hl) ?_;simp(disch:=omega)only[Ac,↓Pc,simprocAttr,iT,Nat.sub_zero])
 ((try revert hK K);(refine Vb (X5 @gq @aA.eq_1 @A7 @iL (X3 @k8 @Lr @wM)) ?_))
 refine j1 [] true NI trivial NI NI (.snap _ _ rfl ?_);have cI:(yE row.length o).length=row.length:=YQ _ _;exact ah3 (k:=1) (r:=yE row.length o) hc (by rw[cI];rfl) (kh NI) rfl (kh NI)
section
variable {m:ah} {can:List (List Bool)} {gi ai bi mi:Nat} {D E:List (Nat×Nat)} {W:WS} {os:List Ob}
def mD(n:Nat):List Int:=(List.range n).map λ(i:Nat)=>(i:Int)
def ah5(N k:Nat)(hk:k<N):(mD k++aJ (N-k) 0).set k (k:Int)=mD (k+1)++aJ (N-(k+1)) 0:=by
 have h1:(mD k).length=k:=by simp[mD]
 rw[List.set_append,if_neg Ix,h1,iT,show N-k=(N-(k+1))+1 by omega,List.replicate_succ,List.set_cons_zero];show _=mD (k+1)++_;unfold mD;rw[List.range_succ,dS,bC];rfl
def ah6(hm:VM m)(hf:df m can)(h:WF m can gi ai bi mi D E W os)(hs:mF m W){B:Int}(hB:0<=B/\B<=288230376151711744)(hW:WB B W){round:Nat}(XC:round<=64):
  cQ Tryz.prog 39 [.ptr gi 0 0,N0 round] os λr ob=>r=.bu []/\WF m can gi ai bi mi D E (pL m can W round) ob/\Kp mi D E os ob/\mF m (pL m can W round)/\WB (B+14843406974976) (pL m can W round):=by
 have oL:=hm.ae;have qH:=hm.cls;have fv:=h.v;have YT:=aL fv;have e0:∀ N:Nat,aJ N (0:Int)=mD 0++aJ (N-0) 0:=λN=>by simp[mD]
 refine cQ.aK 141 os.length [] Tryz.func39 ?_;((try revert hK K);(repeat'(first|refine Va (X5 @fv @YT @ao.eq_1 @bE @bC.{0}) ?_|(refine V2 (X5 @fv @YT @ao.eq_1 @bE @bC.{0}) ?_ ?_<;>try with_reducible intro hb)|(refine Xi ?_ ?_<;>try intro ht)|refine VD ?_ ?_|exact Xx|fail))<;>try with_reducible intro K hK)
 have hN:m.cls.length<9223372036854775808:=Ix;generalize L6:m.cls.length=N at *;refine cr (σ':=⟨an [(1,N0 round),(2,.ptr os.length 0 0),(4,N0 m.ae.length),(5,.ref (os.length+1) 1 0 N),(32,N0 N),(33,N0 0)],os++[.var [.ptr gi 0 0],.arr 1 (ints (mD 0++aJ (N-0) 0))]⟩) (by rw[<- e0];exact Xv X0) ?_;clear e0;refine aU (λk:Nat=>(⟨an [(1,N0 round),(2,.ptr os.length 0 0),(4,N0 m.ae.length),(5,.ref (os.length+1) 1 0 N),(32,N0 N),(33,N0 k)],os++[.var [.ptr gi 0 0],.arr 1 (ints (mD k++aJ (N-k) 0))]⟩:St))
  (λk=>k<=N) (λk=>N-k) 0 (aT _) (Xv X0) ?_
 rintro k hk Ql ak ar;have cI:(mD k++aJ (N-k) 0).length=N:=by simp[mD];omega
 by_cases ba:k<N
 ·have xZ:=ah5 N k ba;((try revert hK K);(repeat'(first|refine Va (X3 @bE @cI @xZ) ?_|(refine V2 (X3 @bE @cI @xZ) ?_ ?_<;>try with_reducible intro hb)|(refine Xi ?_ ?_<;>try intro ht)|refine VD ?_ ?_|exact Xx|fail))<;>try with_reducible intro K hK)
  exact ak _ (k+1) Ix Ix (Xv X0)
 ·obtain rfl:k=N:=Ix;((try revert hK K);(repeat'(first|refine Va X0 ?_|(refine V2 X0 ?_ ?_<;>try with_reducible intro hb)|(refine Xi ?_ ?_<;>try intro ht)|refine VD ?_ ?_|exact Xx|fail))<;>try with_reducible intro K hK)
  refine ar _ _ rfl ?_;clear ak ar Ql;repeat(first|refine Xu ?_)
  rw[iT,List.replicate_zero,List.append_nil]at cI ⊢;((try revert hK K);(repeat'(first|refine Va (X3 @bE @bC.{0} @cI) ?_|(refine V2 (X3 @bE @bC.{0} @cI) ?_ ?_<;>try with_reducible intro hb)|(refine Xi ?_ ?_<;>try intro ht)|refine VD ?_ ?_|exact Xx|fail))<;>try with_reducible intro K hK)
  have Ea:∀ p∈((os.length,Ob.var [.ptr gi 0 0])::(os.length+3,.var [.ref (os.length+2) 1 0 k])::nM os),p.1≠os.length+1:=λp hp=>by
   rcases bj.1 hp with rfl|hp
   ·dsimp only;omega
   rcases bj.1 hp with rfl|hp
   ·dsimp only;omega
   ·have:=iH (yK.1 hp);omega
  have YU:LR ((os.length+1,Ob.arr 1 (ints (mD k)))::(os.length,Ob.var [.ptr gi 0 0])::(os.length+3,.var [.ref (os.length+2) 1 0 k])::nM os) (os.length+2) (aJ k (0,[])) (os++[.var [.ptr gi 0 0],.arr 1 (ints (mD k)),.arr 1 (aJ k [.lit (.slice none 0 0)]),.var [.ref (os.length+2) 1 0 k]]):=by
   have h1:=LR.start (F:=(os.length+1,Ob.arr 1 (ints (mD k)))::(os.length,Ob.var [.ptr gi 0 0])::nM os) (ob:=os++[.var [.ptr gi 0 0],.arr 1 (ints (mD k))]) (N:=k) (λp hp=>by
    rcases bj.1 hp with rfl|hp
    ·rw[kS];rfl
    rcases bj.1 hp with rfl|hp
    ·exact kq _ _ _
    ·exact aL (yK.1 hp) _)
   have h2:=LR.more h1 (l:=[Ob.var [.ref (os.length+2) 1 0 k]]) (F':=(os.length+1,Ob.arr 1 (ints (mD k)))::(os.length,Ob.var [.ptr gi 0 0])::(os.length+3,.var [.ref (os.length+2) 1 0 k])::nM os) (λp hp=>by
    rcases bj.1 hp with rfl|hp
    ·exact .inl Iy
    rcases bj.1 hp with rfl|hp
    ·exact .inl Iy
    rcases bj.1 hp with rfl|hp
    ·exact .inr ⟨0,Iy,rfl⟩
    ·exact .inl (by simp[hp]))
   simpa [bC] using h2
  have ni:kE m round 0=(mD k,aJ k []):=by rw[kE,L6];rfl
  have x8:(aJ k ((0:Nat),([]:List Int))).map (·.2)=aJ k []:=by rw[List.map_replicate]
  refine aU (λz:Nat×List (Nat×List Int)×List Ob=>(⟨an [(1,N0 round),(2,.ptr os.length 0 0),(4,N0 m.ae.length),(5,.ref (os.length+1) 1 0 k),(7,.ptr (os.length+3) 0 0),(44,N0 m.ae.length),(45,N0 z.1)],z.2.2⟩:St))
   (λz=>z.1<=m.ae.length/\LR ((os.length+1,Ob.arr 1 (ints (kE m round z.1).1))::(os.length,Ob.var [.ptr gi 0 0])::(os.length+3,.var [.ref (os.length+2) 1 0 k])::nM os) (os.length+2) z.2.1 z.2.2/\z.2.1.map (·.2)=(kE m round z.1).2/\os.length+4<=z.2.2.length)
   (λz=>m.ae.length-z.1) (0,aJ k (0,[]),os++[.var [.ptr gi 0 0],.arr 1 (ints (mD k)),.arr 1 (aJ k [.lit (.slice none 0 0)]),.var [.ref (os.length+2) 1 0 k]]) ⟨aT _,by dsimp only;rw[ni];exact YU,by dsimp only;rw[ni];exact x8,Iy⟩ (Xv X0) ?_
  clear YU x8 ni cI hk ba ht;rintro⟨j,Q,ob⟩⟨hj,hL,hQ,bI⟩Ql ak ar;dsimp only at hj hL hQ bI ⊢;by_cases fe:j<m.ae.length
  ·have hp:(j+round)%m.ae.length<m.ae.length:=Nat.mod_lt _ Ix;have fK:((j:Int)+(round:Int)).tmod (m.ae.length:Int)=(((j+round)%m.ae.length:Nat):Int):=by rw[Int.tmod_eq_emod_of_nonneg Ix];push_cast;rfl
   obtain⟨dO,q1,q2,q3,q4,q5⟩:=yL hm hp;obtain⟨hl1,q9⟩:=Hm (m:=m) round j;have hvs:kE m round (j+1)=B4 m (kE m round j) ((j+round)%m.ae.length):=rfl;have fA:=hL.fx (os.length,Ob.var [.ptr gi 0 0]) Iy;have fT:=hL.fx (os.length+1,Ob.arr 1 (ints (kE m round j).1)) Iy;have fB:=hL.fx (os.length+3,Ob.var [.ref (os.length+2) 1 0 k]) Iy;have Hn:∀ i o,os[i]?=some o->ob[i]?=some o:=λi o hi=>hL.fx (i,o) (dI _ (dI _ (dI _ (yK.2 hi))));have fg:=Hn _ _ fv;dsimp only at fA fT fB;generalize (j+round)%m.ae.length=p at *;generalize dU:kE m round j=st at *;have gr:m.ae.getD p default=cN m p:=rfl;have e1:(cN m p).fst=((aD m p 0:Nat):Int):=by show _=((cN m p).fst.toNat:Int);omega
   have e2:(cN m p).snd=((aD m p 1:Nat):Int):=by show _=((cN m p).snd.toNat:Int);omega
   have ha:aD m p 0<k:=by have:(cN m p).fst.toNat=aD m p 0:=rfl;omega
   have hb:aD m p 1<k:=by have:(cN m p).snd.toNat=aD m p 1:=rfl;omega
   repeat'(first|((fail_if_success (first|refine ei 14 ?_|refine ej 14 ?_));refine Xr (X5 @fA @fT @fg @ao.eq_1 (X5 @aH.eq_1 @fK @gr @e1 @e2)) ?_;intro K hK)|refine Xo (X5 @fA @fT @fg @ao.eq_1 (X5 @aH.eq_1 @fK @gr @e1 @e2)) ?_|(refine hK _ ?_;clear hK K)|(refine Xg (X5 @fA @fT @fg @ao.eq_1 (X5 @aH.eq_1 @fK @gr @e1 @e2)) ?_ ?_<;>try intro hb)|(refine Xi ?_ ?_<;>try intro ht)|refine Xy ?_|refine Xd ?_ ?_|exact Xx|fail)
   have iz:kE m round (j+1)=if st.1.getD (aD m p 0) 0=st.1.getD (aD m p 1) 0 then st else(mG st.1 (aD m p 0) (st.1.getD (aD m p 1) 0) st.1.length,(st.2.set (aD m p 0) (st.2.getD (aD m p 0) default++[(p:Int)])).set (aD m p 1) (st.2.getD (aD m p 1) default++[(p:Int)])):=hvs;generalize aD m p 1=b at *;generalize aD m p 0=a at *;have xn:st.1.length=k:=Ix;by_cases iY:st.1.getD a 0=st.1.getD b 0
   ·rw[if_pos iY]at iz;((try revert hK K);(repeat'(first|refine Va (X3 @fT @xn @iY) ?_|(refine V2 (X3 @fT @xn @iY) ?_ ?_<;>try with_reducible intro hb)|(refine Xi ?_ ?_<;>try intro ht)|refine VD ?_ ?_|exact Xx|fail))<;>try with_reducible intro K hK)
    all_goals try(exfalso;omega)
    exact ak _ (j+1,Q,ob) ⟨NQ,by dsimp only;rw[iz];exact hL,by dsimp only;rw[iz];exact hQ,bI⟩ NQ (Xv X0)
   ·rw[if_neg iY]at iz;((try revert hK K);(repeat'(first|refine Va (X2 @fT @xn) ?_|(refine V2 (X2 @fT @xn) ?_ ?_<;>try with_reducible intro hb)|(refine Xi ?_ ?_<;>try intro ht)|refine VD ?_ ?_|exact Xx|fail))<;>try with_reducible intro K hK)
    all_goals try(exfalso;omega)
    have sT:=λy:Ob=>lZ (y:=y) fT;have aX:=Ho st.1 a (st.1.getD b 0) iY;have ov:=Hp st.1 a (st.1.getD b 0);have ht0:mG st.1 a (st.1.getD b 0) 0=st.1:=rfl;have e9:∀ i,mG st.1 a (st.1.getD b 0) (i+1)=_:=λi=>mG.eq_2 ..;have l8:=λy=>hL.head Ea (y:=y);refine aU (λi:Nat=>(⟨an [(1,N0 round),(2,.ptr os.length 0 0),(4,N0 m.ae.length),(5,.ref (os.length+1) 1 0 k),(7,.ptr (os.length+3) 0 0),(9,N0 p),(10,N0 a),(11,N0 b),(12,N0 (st.1.getD b 0)),(44,N0 m.ae.length),(45,N0 j),(84,.ref (os.length+1) 1 0 k),(85,N0 k),(86,N0 i)],ob.set (os.length+1) (.arr 1 (ints (mG st.1 a (st.1.getD b 0) i)))⟩:St))
     (λi=>i<=k) (λi=>k-i) 0 (aT _) ?_ ?_
    ·rw[ht0,ah8 fT];exact Xv X0
    rintro i hi c7 br bx;have eV:=aX i;have lg:=ov i;by_cases aq:i<k
    ·have Hq:=e9 i;generalize YV:mG st.1 a (st.1.getD b 0) (i+1)=u1 at *;generalize mG st.1 a (st.1.getD b 0) i=u at *;generalize st.1.getD b 0=dY at *;by_cases Hs:u.getD i 0=dY
     ·rw[if_pos Hs]at Hq;((try revert hK K);(repeat'(first|refine Va (X5 @sT @lg @xn @Hs @wG.{0}) ?_|(refine V2 (X5 @sT @lg @xn @Hs @wG.{0}) ?_ ?_<;>try with_reducible intro hb)|(refine Xi ?_ ?_<;>try intro ht)|refine VD ?_ ?_|exact Xx|fail))<;>try with_reducible intro K hK)
      all_goals try(exfalso;omega)
      exact br _ (i+1) Ix Ix (by rw[YV,Hq];exact Xv X0)
     ·rw[if_neg Hs]at Hq;((try revert hK K);(repeat'(first|refine Va (X4 @sT @lg @xn @wG.{0}) ?_|(refine V2 (X4 @sT @lg @xn @wG.{0}) ?_ ?_<;>try with_reducible intro hb)|(refine Xi ?_ ?_<;>try intro ht)|refine VD ?_ ?_|exact Xx|fail))<;>try with_reducible intro K hK)
      all_goals try(exfalso;omega)
      exact br _ (i+1) Ix Ix (by rw[YV,Hq];exact Xv X0)
    ·obtain rfl:i=k:=Ix;((try revert hK K);(repeat'(first|refine Va X0 ?_|(refine V2 X0 ?_ ?_<;>try with_reducible intro hb)|(refine Xi ?_ ?_<;>try intro ht)|refine VD ?_ ?_|exact Xx|fail))<;>try with_reducible intro K hK)
     refine bx _ _ rfl ?_;clear br bx c7;repeat(first|refine Xu ?_)
     have l9:=l8 (.arr 1 (ints (mG st.1 a (st.1.getD b 0) i)));clear l8 sT e9 ht0 aX;rw[xn]at iz;generalize mG st.1 a (st.1.getD b 0) i=tt at *;generalize ah9:ob.set (os.length+1) (.arr 1 (ints tt))=kd at *;have amu:os.length+4<=kd.length:=by rw[<- ah9,bK];exact bI
     have L7:Q.length=i:=by have:=congrArg kI hQ;simp at this;omega
     refine Ht (λs=>∃ Q2 o2,LR ((os.length+1,Ob.arr 1 (ints tt))::(os.length,Ob.var [.ptr gi 0 0])::(os.length+3,.var [.ref (os.length+2) 1 0 i])::nM os) (os.length+2) Q2 o2/\Q2.map (·.2)=(kE m round (j+1)).2/\os.length+4<=o2.length /\
      aF os.length s ⟨an [(1,N0 round),(2,.ptr os.length 0 0),(4,N0 m.ae.length),(5,.ref (os.length+1) 1 0 i),(7,.ptr (os.length+3) 0 0),(44,N0 m.ae.length),(45,N0 j)],o2⟩) ?_ ?_
     ·rintro s ⟨Q2,o2,h1,h2,h3,h4⟩;repeat(first|refine Xu ?_)
      refine cr h4 ?_;((try revert hK K);(repeat'(first|refine Va X0 ?_|(refine V2 X0 ?_ ?_<;>try with_reducible intro hb)|(refine Xi ?_ ?_<;>try intro ht)|refine VD ?_ ?_|exact Xx|fail))<;>try with_reducible intro K hK)
      exact ak _ (j+1,Q2,o2) ⟨NQ,by dsimp only;rw[iz];exact h1,h2,h3⟩ NQ (Xv X0)
     intro QQ key;clear ak ar;have g7:=aL (l9.fx (os.length+3,Ob.var [.ref (os.length+2) 1 0 i]) Iy);have gL:=aL l9.ls;have hra:(rowsOf kW Q)[a]?=some [tx (Q.getD a default)]:=by rw[Hu Ix,L8]
     have Dk:(rowsOf kW Q)[b]?=some [tx (Q.getD b default)]:=by rw[Hu Ix,L8]
     have BI:st.2.getD a default=(Q.getD a default).2:=by rw[<- hQ,L9 Ix]
     have YW:st.2.getD b default=(Q.getD b default).2:=by rw[<- hQ,L9 Ix]
     have ca:=l9.cell (show a<Q.length by omega);have cb:=l9.cell (show b<Q.length by omega);have BS:=λ(fin:List Ob) (pa pb:Nat)=>l9.aia (show a<Q.length by omega) (show b<Q.length by omega) (λe=>iY (by rw[e])) (n:=(p:Int)) (fin:=fin) (pa:=pa) (pb:=pb);have d3:=λc hc hn=>l9.rO (os.length+3,Ob.var [.ref (os.length+2) 1 0 i]) Iy |>.2 c hc hn;have r2:=λc hc hn=>(l9.row c hc hn).2;have qa:Ah [os.length+2,os.length+3] (tx (Q.getD a default))=True:=YX λhn hm=>by
      rcases bj.1 hm with e|hm
      ·exact r2 a Ix hn e
      ·exact d3 a Ix hn (cU.1 hm).symm
     have qb:Ah [os.length+2,os.length+3] (tx (Q.getD b default))=True:=YX λhn hm=>by
      rcases bj.1 hm with e|hm
      ·exact r2 b Ix hn e
      ·exact d3 b Ix hn (cU.1 hm).symm
     rw[BI,YW]at iz;have He:(Q.getD a default).2.length<4001:=by
      have:=(Hv (m:=m) round j a).1;rw[dU,BI]at this;omega
     have rG:(Q.getD b default).2.length<4001:=by
      have:=(Hv (m:=m) round j b).1;rw[dU,YW]at this;omega
     have n7:∀ c,c<Q.length->(Q.getD c default).2≠[]->os.length+3≠(Q.getD c default).1:=d3;have n8:∀ c,c<Q.length->(Q.getD c default).2≠[]->os.length+2≠(Q.getD c default).1:=λc hc hn=>Ne.symm (r2 c hc hn);have cb2:(Q.getD b default).2≠[]->(pM (Q.getD a default) kd)[(Q.getD b default).1]?=some (.arr 1 (ints (Q.getD b default).2)):=λhn=>Ai (cb hn) λEb e=>iY (by rw[l9.inj b a Ix Ix hn Eb e]);have f7:=l9.fx (os.length+3,Ob.var [.ref (os.length+2) 1 0 i]) Iy;have fL:=l9.ls;have YY:=Ai f7 (n7 a Ix);have YZ:=Ai YY (n7 b Ix);have Y0:=Ai fL (n8 a Ix);have Ec:=Ai Y0 (n8 b Ix);have DD:=λ(k:Nat) (o:Ob) (h1:kd[k]?=some o) (h2:(Q.getD a default).2≠[]->k≠(Q.getD a default).1) (h3:(Q.getD b default).2≠[]->k≠(Q.getD b default).1)=>Ai (Ai h1 h2) h3;have dA:=Y1 ca;have dB:=Y1 cb2;have l2:=Y2 (Q.getD a default) kd;have l3:=(Y2 (Q.getD b default) (pM (Q.getD a default) kd)).trans l2;have hes:=λpa=>Y3 Q a pa (Q.getD a default).2 (p:Int);have aid:=λpa pb=>Y3 (Q.set a (pa,(Q.getD a default).2++[(p:Int)])) b pb (Q.getD b default).2 (p:Int);have aie:∀ pa,(rowsOf kW (Q.set a (pa,(Q.getD a default).2++[(p:Int)])))[b]?=some [tx (Q.getD b default)]:=λpa=>by
      rw[Hu NS,Ma _ _ _ _ Ix,if_neg (λe=>iY (by rw[e])),L8]
     have hFm:∀ q,os.length<=q->q=os.length+2->True:=λ_ _ _=>trivial;generalize Q.getD a default=A0 at *;generalize Q.getD b default=B0 at *;generalize hX3:pM B0 (pM A0 kd)=X3 at *;generalize pM A0 kd=X2 at *;have uk:(os.length+2∈[os.length+2,os.length+3])=True:=Iy;have L0:(os.length+3∈[os.length+2,os.length+3])=True:=Iy;have hQr:(rowsOf kW Q).length=i:=by rw[cf];exact L7
     have e2:=λl k=>yM l2 l k;have e3:=λl k=>yM l3 l k;have e20:=λx l=>Hw l2 x l;have e30:=λx l=>Hw l3 x l;have s3:=iD Ec;have s4:=λy=>iD (lZ (y:=y) Ec);have s5:=λy=>aL (lZ (y:=y) Ec);have s7:=λy=>aL (e7 (y:=y) YZ (show os.length+2≠os.length+3 by omega));have f7l:=aL f7;have aik:=aL YY;have ail:=aL YZ;have fLl:=aL fL;have ain:=aL Y0;have aio:=aL Ec;have kD:∀ (s:St) (c:Nat) (l:List Ob),c=1\/c=2->l.length=4->l[c]?=some (.arr 1 (ints (A0.2++[(p:Int)])))->l[3]?=some (.arr 1 (ints (B0.2++[(p:Int)]))) ->
       aF os.length s ⟨an [(1,N0 round),(2,.ptr os.length 0 0),(4,N0 m.ae.length),(5,.ref (os.length+1) 1 0 i),(7,.ptr (os.length+3) 0 0),(44,N0 m.ae.length),(45,N0 j)],(X3.set (os.length+2) (.arr 1 (rowsOf kW (Q.set a (kd.length+c,A0.2++[(p:Int)]))))).set (os.length+2) (.arr 1 (rowsOf kW ((Q.set a (kd.length+c,A0.2++[(p:Int)])).set b (kd.length+3,B0.2++[(p:Int)]))))++l⟩->QQ .normal s:=λs c l hc hl h1 h2 ht=>by
      refine key _ ⟨_,_,BS _ (kd.length+c) (kd.length+3) Ix Ix Ix (λq o e1 e2 e3 e4=>aL (e7 (e7 (DD q o e1 e3 e4) (Ne.symm e2)) (Ne.symm e2)) _) (aL (lZ (lZ Ec)) _) ?_ ?_,?_,?_,ht⟩
      ·rw[yM (by simp[l3])];exact h1
      ·rw[yM (by simp[l3])];exact h2
      ·rw[iz,rV,rV,hQ]
      ·simp[l3];omega
     refine Y4 [os.length+2,os.length+3] [] [10,17] (.take 0 (.take 1 (.take 3 (.take 4 (.take 5 (.take 6 (.take 7 (.take 8 (.take 11 (.take 12 (.take 13 (.take 14 (.take 15 (.three 2 (.both 9 (.both 10 (.take 16 (.take 17 (.take 18 (.take 19 (.take 20 (.take 21 .nil)))))) 16 (.take 10 (.take 17 (.take 18 (.take 19 (.take 20 (.take 21 .nil))))))) 16 (.take 9 (.take 10 (.take 17 (.take 18 (.take 19 (.take 20 (.take 21 .nil)))))))) 9 (.three 2 (.both 10 (.take 16 (.take 17 (.take 18 (.take 19 (.take 20 (.take 21 .nil)))))) 16 (.take 10 (.take 17 (.take 18 (.take 19 (.take 20 (.take 21 .nil))))))) 10 (.both 2 (.take 16 (.take 17 (.take 18 (.take 19 (.take 20 (.take 21 .nil)))))) 16 (.both 2 (.take 17 (.take 18 (.take 19 (.take 20 (.take 21 .nil))))) 17 (.take 18 (.both 2 (.take 19 (.take 20 (.take 21 .nil))) 19 (.take 2 (.take 20 (.take 21 .nil))))))) 16 (.both 2 (.take 10 (.take 17 (.take 18 (.take 19 (.take 20 (.take 21 .nil)))))) 10 (.both 2 (.take 17 (.take 18 (.take 19 (.take 20 (.take 21 .nil))))) 17 (.take 18 (.both 2 (.take 19 (.take 20 (.take 21 .nil))) 19 (.take 2 (.take 20 (.take 21 .nil)))))))) 16 (.both 2 (.take 9 (.take 10 (.take 17 (.take 18 (.take 19 (.take 20 (.take 21 .nil))))))) 9 (.both 2 (.take 10 (.take 17 (.take 18 (.take 19 (.take 20 (.take 21 .nil)))))) 10 (.both 2 (.take 17 (.take 18 (.take 19 (.take 20 (.take 21 .nil))))) 17 (.take 18 (.both 2 (.take 19 (.take 20 (.take 21 .nil))) 19 (.take 2 (.take 20 (.take 21 .nil)))))))))))))))))))))) rfl NI (by decide +kernel) ?_;simp(disch:=omega)only[Ac,↓Pc,simprocAttr,Ra,ja,uk,L0,f7,fL,f7l,aik,ail,fLl,ain,aio,hra,Dk,aie,hes,aid,qa,qb,↓dA,↓dB,l2,l3,e2,e3,e20,e30,s3,s4,s5,s7,hQr,bE,bC,bF];repeat'(first|with_reducible refine cK ?_ ?_|omega|with_reducible rfl|(intro id bO;simp only[bj,gU,or_false]at bO;omega))
     all_goals first
      | (refine kD _ 1 [.arr 1 [[N0 p]],.arr 1 (ints (A0.2++[(p:Int)])),.arr 1 [[N0 p]],.arr 1 (ints (B0.2++[(p:Int)]))] (.inl rfl) rfl rfl rfl ?_;exact Xv X0;done)
      | (refine kD _ 2 [.arr 1 [[N0 p]],.arr 1 [[N0 p]],.arr 1 (ints (A0.2++[(p:Int)])),.arr 1 (ints (B0.2++[(p:Int)]))] (.inr rfl) rfl rfl rfl ?_;exact Xv X0;done)
      |skip
  ·obtain rfl:j=m.ae.length:=Ix;((try revert hK K);(repeat'(first|refine Va X0 ?_|(refine V2 X0 ?_ ?_<;>try with_reducible intro hb)|(refine Xi ?_ ?_<;>try intro ht)|refine VD ?_ ?_|exact Xx|fail))<;>try with_reducible intro K hK)
   refine ar _ _ rfl ?_;clear ak ar Ql;repeat(first|refine Xu ?_)
   have fA:=hL.fx (os.length,Ob.var [.ptr gi 0 0]) Iy;have fT:=hL.fx (os.length+1,Ob.arr 1 (ints (kE m round m.ae.length).1)) Iy;have fB:=hL.fx (os.length+3,Ob.var [.ref (os.length+2) 1 0 k]) Iy;have Hn:∀ i o,os[i]?=some o->ob[i]?=some o:=λi o hi=>hL.fx (i,o) (dI _ (dI _ (dI _ (yK.2 hi))));dsimp only at fA fT fB;obtain⟨hl1,q9⟩:=Hm (m:=m) round m.ae.length;have aip:=Hv (m:=m) round m.ae.length;have Mb:pL m can W round=(ma m can (kE m round m.ae.length).2 (W,aJ m.cls.length false) m.cls.length).1:=rfl;rw[Mb];generalize kE m round m.ae.length=st at *;have xo:=aL fT;have kx:st.1.length=k:=Ix;repeat'(first|((fail_if_success (first|refine ei 27 ?_|refine ej 27 ?_));refine Xr (X5 @fT @xo @bE @bC.{0} (X3 @Ed @kx @A7)) ?_;intro K hK)|refine Xo (X5 @fT @xo @bE @bC.{0} (X3 @Ed @kx @A7)) ?_|(refine hK _ ?_;clear hK K)|(refine Xg (X5 @fT @xo @bE @bC.{0} (X3 @Ed @kx @A7)) ?_ ?_<;>try intro hb)|(refine Xi ?_ ?_<;>try intro ht)|refine Xy ?_|refine Xd ?_ ?_|exact Xx|fail)
   have Ee:=hL.app [.arr 1 (bm (aJ k false)),.var [.ref ob.length 1 0 k],.var [.fn 70 [.ptr (ob.length+1) 0 0,.ptr (os.length+3) 0 0,.ptr os.length 0 0,.ptr (ob.length+2) 0 0]]];have L7:Q.length=k:=by have:=congrArg kI hQ;simp at this;omega
   refine cr (σ':=⟨an [(15,.ptr (ob.length+1) 0 0),(16,.ptr (ob.length+2) 0 0)],ob++[.arr 1 (bm (aJ k false)),.var [.ref ob.length 1 0 k],.var [.fn 70 [.ptr (ob.length+1) 0 0,.ptr (os.length+3) 0 0,.ptr os.length 0 0,.ptr (ob.length+2) 0 0]]]⟩) (Xv X0) ?_;generalize B5:ob++[Ob.arr 1 (bm (aJ k false)),.var [.ref ob.length 1 0 k],.var [.fn 70 [.ptr (ob.length+1) 0 0,.ptr (os.length+3) 0 0,.ptr os.length 0 0,.ptr (ob.length+2) 0 0]]]=rP at *;have Hx:=Ee.fx (os.length+3,Ob.var [.ref (os.length+2) 1 0 k]) Iy;have vR:=λi (hi:i∈nm (os.length+2) Q)=>Ee.at_ hi;have Hy:=λi (hi:i∈nm (os.length+2) Q)=>hL.lt hi;have n0:os.length ∉ nm (os.length+2) Q:=λhi=>vR _ hi (os.length,Ob.var [.ptr gi 0 0]) Iy rfl;have n3:os.length+3 ∉ nm (os.length+2) Q:=λhi=>vR _ hi (os.length+3,Ob.var [.ref (os.length+2) 1 0 k]) Iy rfl;have Y5:∀ i o,os[i]?=some o->i ∉ nm (os.length+2) Q:=λi o ho hi=>vR _ hi (i,o) (dI _ (dI _ (dI _ (yK.2 ho)))) rfl;have p0:rP[os.length]?=some (.var [.ptr gi 0 0]):=by rw[<- B5];exact aL fA _
   have Y6:∀ i o,os[i]?=some o->rP[i]?=some o:=λi o hi=>by rw[<- B5];exact aL (Hn i o hi) _
   have b0:rP[ob.length]?=some (.arr 1 (bm (aJ k false))):=by rw[<- B5];exact kq _ _ _
   have b1:rP[ob.length+1]?=some (.var [.ref ob.length 1 0 k]):=by rw[<- B5,kS];rfl
   have b2:rP[ob.length+2]?=some (.var [.fn 70 [.ptr (ob.length+1) 0 0,.ptr (os.length+3) 0 0,.ptr os.length 0 0,.ptr (ob.length+2) 0 0]]):=by rw[<- B5,kS];rfl
   have l4:rP.length=ob.length+3:=by rw[<- B5];simp
   refine cr (aF.aiq (os.length+3) 0 (λi=>i ∉ nm (os.length+2) Q) (v:=.tree 1 (fc (Q.map (·.2))))
    (os2:=uN (nm (os.length+2) Q) (rP.set (os.length+3) (.var [.tree 1 (fc (Q.map (·.2)))]))) Hx rfl n3 (by rw[Y7,bK]) (λi o ho=>?_) ?_) ?_
   ·dsimp only at ho;have hx:∀ y,(rP.set (os.length+3) y)[i]?=some (if i=os.length+3 then y else o):=λy=>by
     by_cases e:i=os.length+3
     ·subst e;rw[if_pos rfl];exact lZ Hx
     ·rw[if_neg e];exact e7 ho (Ne.symm e)
    by_cases hi:i∈nm (os.length+2) Q
    ·exact .inr ⟨λhn=>hn hi,by rw[Md (hx _),if_pos hi]⟩
    ·exact .inl ⟨hi,by rw[Md (hx _),if_neg hi];rfl⟩
   ·have:=air Ee.ls Ee.row (an [(15,.ptr (ob.length+1) 0 0),(16,.ptr (ob.length+2) 0 0)]);rw[L7]at this;exact this
   dsimp only;have k5:∀ i o,rP[i]?=some o->i≠os.length+3->i ∉ nm (os.length+2) Q ->
     (uN (nm (os.length+2) Q) (rP.set (os.length+3) (.var [.tree 1 (fc (Q.map (·.2)))])))[i]?=some o:=λi o ho h1 h2=>Me (e7 ho (Ne.symm h1)) h2
   have k6:(uN (nm (os.length+2) Q) (rP.set (os.length+3) (.var [.tree 1 (fc (Q.map (·.2)))])))[os.length+3]?=some (.var [.tree 1 (fc (Q.map (·.2)))]):=Me (lZ Hx) n3;have k7:(uN (nm (os.length+2) Q) (rP.set (os.length+3) (.var [.tree 1 (fc (Q.map (·.2)))]))).length=ob.length+3:=by rw[Y7,bK];exact l4
   generalize uN (nm (os.length+2) Q) (rP.set (os.length+3) (.var [.tree 1 (fc (Q.map (·.2)))]))=Ef at *;have x0:=k5 os.length _ p0 Ix n0;have xa:=k5 ob.length _ b0 Ix (λhi=>by have:=Hy _ hi;omega);have xs:=k5 (ob.length+1) _ b1 Ix (λhi=>by have:=Hy _ hi;omega);have xu:=k5 (ob.length+2) _ b2 Ix (λhi=>by have:=Hy _ hi;omega);have Mf:∀ i o,os[i]?=some o->Ef[i]?=some o:=λi o hi=>k5 i o (Y6 i o hi) (by have:=iH hi;omega) (Y5 i o hi);have Hz:UF 70 gi (ob.length+1) ob.length (os.length+3) os.length (ob.length+2) st.2 (aJ k false) Ef:=⟨by rw[mL];exact xs,xa,by rw[<- hQ];exact k6,x0,xu⟩;have Y8:=h.pre (ob:=Ef) Ix Mf;have Y9:Kp mi ((ob.length,0)::D) E os Ef:=⟨Ix,λi o _ _ hi=>Mf i o hi⟩;have Mg:=iH h.mp;have tz:=iH h.v;have kM:=iH h.a;have pK:=iH h.b;have hUN:UN gi ai bi mi D E (ob.length+1) ob.length (os.length+3) os.length (ob.length+2):=⟨λi hi=>⟨Ix,λhm=>by have:=h.lt i hm;omega⟩,Ix,Ix,Ix,Ix,Ix,Ix,Ix⟩;clear k5 k6 k7 x0 xa xs xu Mf p0 Y6 b0 b1 b2 vR Hy n0 n3 Y5 Hx Ee hL fA fT fB xo Hn;have hlA:∀ c,(ma m can st.2 (W,aJ k false) c).2.length=k->True:=λ_ _=>trivial;have pK:st.2.length=m.cls.length:=Ix;have pg:∀ c,c<m.cls.length->(st.2.getD c default).length<9223372036854775808/\∀ x∈st.2.getD c default,0<=x/\x<m.ae.length:=λc hc=>by
    obtain⟨i1,i2⟩:=aip c;refine⟨Ix,λx hx=>⟨(i2 x hx).1,(i2 x hx).2 ?_⟩⟩;rcases Nat.eq_zero_or_pos m.ae.length with h0|h0
    ·rw[h0]at i1;rw[List.length_eq_zero_iff.1 (Nat.le_zero.1 i1)]at hx;cases hx
    ·exact h0
   have Mh:ma m can st.2 (W,aJ k false) 0=(W,aJ k false):=rfl;have hAs:∀ c,ma m can st.2 (W,aJ k false) (c+1)=if(ma m can st.2 (W,aJ k false) c).2.getD c false=true then ma m can st.2 (W,aJ k false) c else iQ m can st.2 (m.cls.length+1) (ma m can st.2 (W,aJ k false) c) c:=λc=>rfl;have lh:nT (aJ k false)=0:=by unfold nT;simp[List.count_replicate]
   rw[L6];have xs:=Hz.s;have xa:=Hz.a;((try revert hK K);(repeat'(first|refine Va (X3 @xs @xa @mL.{0}) ?_|(refine V2 (X3 @xs @xa @mL.{0}) ?_ ?_<;>try with_reducible intro hb)|(refine Xi ?_ ?_<;>try intro ht)|refine VD ?_ ?_|exact Xx|fail))<;>try with_reducible intro K hK)
   refine aU (λz:Nat×List Ob=>(⟨an [(15,.ptr (ob.length+1) 0 0),(16,.ptr (ob.length+2) 0 0),(128,N0 k),(129,N0 z.1)],z.2⟩:St))
    (λz=>z.1<=k/\WF m can gi ai bi mi D E (ma m can st.2 (W,aJ k false) z.1).1 z.2/\UF 70 gi (ob.length+1) ob.length (os.length+3) os.length (ob.length+2) st.2 (ma m can st.2 (W,aJ k false) z.1).2 z.2/\Kp mi ((ob.length,0)::D) E os z.2/\(ma m can st.2 (W,aJ k false) z.1).2.length=k/\mF m (ma m can st.2 (W,aJ k false) z.1).1/\WB (B+618475290624*(nT (ma m can st.2 (W,aJ k false) z.1).2:Nat)) (ma m can st.2 (W,aJ k false) z.1).1)
    (λz=>k-z.1) (0,Ef) ⟨aT _,Y8,Hz,Y9,by dsimp only;rw[Mh];simp,hs,by dsimp only;rw[Mh];dsimp only;rw[lh];exact hW.mono Ix⟩ (Xv X0) ?_
   (try clear lh;clear Y8 Hz Y9 Mh xs xa)
   rintro⟨c,o6⟩⟨hc,h1,h2,h3,h4,h5,h6⟩Ql ak ar;dsimp only at hc h1 h2 h3 h4 h5 h6 ⊢;by_cases fD:c<k
   ·have tA:=hAs c;generalize tB:ma m can st.2 (W,aJ k false) (c+1)=r1 at *;generalize ma m can st.2 (W,aJ k false) c=r0 at *;have fs:=h2.s;have fa:=h2.a;have fu:=h2.u;by_cases eO:r0.2.getD c false=true
    ·rw[if_pos eO]at tA;((try revert hK K);(repeat'(first|refine Va (X4 @fs @fa @eO @h4) ?_|(refine V2 (X4 @fs @fa @eO @h4) ?_ ?_<;>try with_reducible intro hb)|(refine Xi ?_ ?_<;>try intro ht)|refine VD ?_ ?_|exact Xx|fail))<;>try with_reducible intro K hK)
     all_goals try(exfalso;omega)
     exact ak _ (c+1,o6) ⟨NQ,by dsimp only;rw[tB,tA];exact h1,by dsimp only;rw[tB,tA];exact h2,h3,by dsimp only;rw[tB,tA];exact h4,by dsimp only;rw[tB,tA];exact h5,by dsimp only;rw[tB,tA];exact h6⟩ NQ (Xv X0)
    ·rw[if_neg eO]at tA;have vT:r0.2.getD c false=false:=by simpa using eO
     have nB:=aiu hm hf hUN pK pg (m.cls.length+1) r0 c o6 B Ix Ix vT Ix h1 h2 h5 Ix Ix h6;repeat'(first|((fail_if_success (first|refine ei 31 ?_|refine ej 31 ?_));refine Xr (X4 @fs @fa @vT @h4) ?_;intro K hK)|refine Xo (X4 @fs @fa @vT @h4) ?_|(refine hK _ ?_;clear hK K)|(refine Xg (X4 @fs @fa @vT @h4) ?_ ?_<;>try intro hb)|(refine Xi ?_ ?_<;>try intro ht)|refine Xy ?_|refine Xd ?_ ?_|exact Xx|fail)
     all_goals try(exfalso;omega)
     refine nf 2 NI _ rfl ?_;intro K hK;simp(disch:=omega)only[Ac,↓Pc,simprocAttr,iv,List.drop,fu,Ed];repeat'(first|with_reducible refine cK ?_ ?_|omega|with_reducible rfl)
     refine⟨rfl,(show jz Tryz.prog 70 [N0 c,.ptr (ob.length+1) 0 0,.ptr (os.length+3) 0 0,.ptr os.length 0 0,.ptr (ob.length+2) 0 0] (some 139) _ _ from ?_)⟩;refine qy nB ?_;rintro r o7⟨rfl,g1,g2,g3,g4⟩;refine⟨g3.len,?_⟩;simp(disch:=omega)only[Ac,↓Pc,simprocAttr,List.drop];refine hK _ ?_;clear hK K;repeat(first|refine Xu ?_)
     ((try revert hK K);(repeat'(first|refine Va X0 ?_|(refine V2 X0 ?_ ?_<;>try with_reducible intro hb)|(refine Xi ?_ ?_<;>try intro ht)|refine VD ?_ ?_|exact Xx|fail))<;>try with_reducible intro K hK)
     exact ak _ (c+1,o7) ⟨NQ,by dsimp only;rw[tB,tA];exact g1,by dsimp only;rw[tB,tA];exact g2,h3.trans g3,by dsimp only;rw[tB,tA];exact g4.len.trans L6,by dsimp only;rw[tB,tA];exact g4.sh,by dsimp only;rw[tB,tA];exact g4.wb.mono Ix⟩ NQ (Xv X0)
   ·obtain rfl:c=k:=Ix;((try revert hK K);(repeat'(first|refine Va X0 ?_|(refine V2 X0 ?_ ?_<;>try with_reducible intro hb)|(refine Xi ?_ ?_<;>try intro ht)|refine VD ?_ ?_|exact Xx|fail))<;>try with_reducible intro K hK)
    refine ar _ _ rfl ?_;clear ak ar Ql;repeat(first|refine Xu ?_)
    ((try revert hK K);(repeat'(first|refine Vb X0 ?_|(refine V2 X0 ?_ ?_<;>try with_reducible intro hb)|(refine Xi ?_ ?_<;>try intro ht)|refine VD ?_ ?_|exact Xx|fail))<;>try with_reducible intro K hK)
    unfold eH;simp only[dx,dv];have hnk:=Mi (ma m can st.2 (W,aJ c false) c).2;exact⟨.bu [],_,⟨rfl,h1,⟨h3.len,λi o e1 e2 e3=>h3.same i o e1 (λhm=>by
     rw[dh,List.map_cons]at hm;rcases bj.1 hm with e|hm
     ·have:=iH e3;dsimp only at e;omega
     ·exact e2 hm) e3⟩,h5,h6.mono Ix⟩,ed rfl h3.len rfl⟩
end
section
variable {m:ah} {os:List Ob}
def aiv(hm:VM m){left:List (List Bool)}(hf:df m left)(os:List Ob):
  cQ Tryz.prog 38 [.agg (ao m),.tree 1 (rowsOf aA left)] os λr ob=>∃ gi ai bi mi D E,r=.ptr gi 0 0/\WF m (dR m left m.cls.length) gi ai bi mi D E (W0 m) ob/\os.length<=ob.length/\(∀ (i:Nat) o,os[i]?=some o->ob[i]?=some o)/\os.length<=mi/\∀ i∈(D++E).map (·.1),os.length<=i:=by
 have oL:=hm.ae;have qH:=hm.cls;refine cQ.aK 110 os.length [.tmp 4] Tryz.func38 ?_;((try revert hK K);(repeat'(first|refine Va (X3 @ao.eq_1 @bE @bC.{0}) ?_|(refine V2 (X3 @ao.eq_1 @bE @bC.{0}) ?_ ?_<;>try with_reducible intro hb)|(refine Xi ?_ ?_<;>try intro ht)|refine VD ?_ ?_|exact Xx|fail))<;>try with_reducible intro K hK)
 refine cr (σ':=⟨an [(1,.tree 1 (rowsOf aA left)),(2,.ptr os.length 0 0),(5,.ptr (os.length+2) 0 0),(22,.tree 1 (rowsOf aQ m.cls)),(23,N0 m.cls.length),(24,N0 0)],os++[.var (ao m),.mp 3 [],.var (ao m++[.lit (.slice none 0 0),.lit (.slice none 0 0),.lit (.slice none 0 0),.du (os.length+1)])]⟩) (Xv @ao.eq_1) ?_;refine cr (aiw m os _ _ _ _) ?_;refine aU (λz:Nat×List (Nat×List Int)×Nat×Nat×List Ob=>(⟨an [(1,.tree 1 (rowsOf aA left)),(2,.ptr os.length 0 0),(5,.ptr (os.length+2) 0 0),(22,.tree 1 (rowsOf aQ m.cls)),(23,N0 m.cls.length),(24,N0 z.1)],z.2.2.2.2⟩:St))
  (λz=>z.1<=m.cls.length/\FX (BW m left os z.1 z.2.1 z.2.2.1 z.2.2.2.1) z.2.2.2.2/\z.2.1.map (·.2)=(m.cls.take z.1).map bV)
  (λz=>m.cls.length-z.1) (0,[],os.length+3,os.length+4,os++[.var (ao m),.mp 3 [],gW m (os.length+1) (os.length+3) (os.length+4) (os.length+5) 0 0,.arr 1 [],.arr 1 [],.arr 1 []]) ⟨aT _,BW0 m left os,Iy⟩ (Xv X0) ?_
 rintro⟨c,Q,ci,oi,ob⟩⟨hc,hF,hQ⟩Ql ak ar;dsimp only at hc hF hQ ⊢;by_cases fD:c<m.cls.length
 ·have uH:=hm.opt _ (aG (l:=m.cls) (i:=c) (d:=default) fD);have ng:=hm.rz _ (aG (l:=m.cls) (i:=c) (d:=default) fD);have iA:=eZ fD;have DH:=hf.2 c (by have:=hf.1;omega);have iI:=aiy m left c;have Y':=Mj (X:=left) (c:=c) (by have:=hf.1;omega);have amz:=hf.1;generalize fh:m.cls.getD c default=l at *;generalize Bu:left.getD c default=row at *;repeat'(first|((fail_if_success (first|refine ei 7 ?_|refine ej 7 ?_));refine Xr (X2 @fh @aQ.eq_1) ?_;intro K hK)|refine Xo (X2 @fh @aQ.eq_1) ?_|(refine hK _ ?_;clear hK K)|(refine Xg (X2 @fh @aQ.eq_1) ?_ ?_<;>try intro hb)|(refine Xi ?_ ?_<;>try intro ht)|refine Xy ?_|refine Xd ?_ ?_|exact Xx|fail)
  ((try revert hK K);(repeat'(first|refine Va X0 ?_|(refine V2 X0 ?_ ?_<;>try with_reducible intro hb)|(refine Xi ?_ ?_<;>try intro ht)|refine VD ?_ ?_|exact Xx|fail))<;>try with_reducible intro K hK)
  have cI:row.length=l.length:=DH;refine cr (aF.nil 8 1 (by simp only[Kc,simprocAttr]) NI) ?_;refine cr (aF.nil 9 1 (by simp only[Kc,simprocAttr]) NI) ?_;dsimp only;rw[bC,bF];refine aU (λz:Nat×Nat×Nat×List Ob=>(⟨an [(1,.tree 1 (rowsOf aA left)),(2,.ptr os.length 0 0),(5,.ptr (os.length+2) 0 0),(6,N0 c),(8,.ref z.2.1 1 0 z.1),(9,.ref z.2.2.1 1 0 z.1),(22,.tree 1 (rowsOf aQ m.cls)),(23,N0 m.cls.length),(24,N0 c),(29,.tree 6 (rowsOf b6 l)),(30,N0 l.length),(31,N0 z.1)],z.2.2.2⟩:St))
   (λz=>z.1<=l.length/\FX ((z.2.1,.arr 1 (bm ((gw l row).take z.1)))::(z.2.2.1,.arr 1 (ints ((bV l).take z.1)))::BW m left os c Q ci oi) z.2.2.2)
   (λz=>l.length-z.1) (0,ob.length,ob.length+1,ob++[.arr 1 [],.arr 1 []]) ⟨aT _,?_⟩ ?_ ?_
  ·exact hF.news (N:=[(ob.length,.arr 1 []),(ob.length+1,.arr 1 [])]) (l:=[.arr 1 [],.arr 1 []]) (λp hp=>by
    simp only[bj,gU,or_false]at hp;rcases hp with rfl|rfl
    ·exact⟨0,rfl,rfl⟩
    ·exact⟨1,rfl,rfl⟩) Iy
  ·exact Xv X0
  clear hF;rintro⟨k,x,y,o2⟩⟨hk,hF⟩c7 br bx;dsimp only at hk hF ⊢;by_cases ba:k<l.length
  ·have Mk:=ng _ (aG (l:=l) (i:=k) (d:=default) ba);have eP:=Dv Mk;have Bd:qC (l.getD k default)=((l.getD k default).ch.map (·.2)).foldl dZ 0:=rfl;have lj:(gw l row).take (k+1)=(gw l row).take k++[row.getD k false&&decide (qC (l.getD k default)<1099511627776)]:=by
    rw[eZ (by simp[gw];exact ba)];congr 2;unfold gw;rw[aB,b9,List.getElem?_range ba];rfl
   have HA:(bV l).take (k+1)=(bV l).take k++[qC (l.getD k default)]:=by
    rw[eZ (by simp[bV];exact ba)];congr 2;unfold bV;rw[aB,b9,aB,bT ba];rfl
   have bG:((gw l row).take k).length=k:=by rw[e8];simp[gw];omega
   have mV:((bV l).take k).length=k:=by rw[e8];simp[bV];omega
   generalize tv:l.getD k default=o at *;have Ys:o.ch.length<9223372036854775808:=by have h1:=V7 hm.uA.1 Mk;have h2:=hm.uA.2;omega
   ((try revert hK K);(repeat'(first|refine Va (X4 @tv @b6.eq_1 @bE @bC.{0}) ?_|(refine V2 (X4 @tv @b6.eq_1 @bE @bC.{0}) ?_ ?_<;>try with_reducible intro hb)|(refine Xi ?_ ?_<;>try intro ht)|refine VD ?_ ?_|exact Xx|fail))<;>try with_reducible intro K hK)
   have Za:=GG Mk;refine aU (λz:Nat×List Ob=>(⟨an [(1,.tree 1 (rowsOf aA left)),(2,.ptr os.length 0 0),(5,.ptr (os.length+2) 0 0),(6,N0 c),(8,.ref x 1 0 k),(9,.ref y 1 0 k),(10,N0 k),(12,N0 (((o.ch.take z.1).map (·.2)).foldl dZ 0)),(22,.tree 1 (rowsOf aQ m.cls)),(23,N0 m.cls.length),(24,N0 c),(29,.tree 6 (rowsOf b6 l)),(30,N0 l.length),(31,N0 k),(37,.tree 2 (rowsOf dm o.ch)),(38,N0 o.ch.length),(39,N0 z.1)],z.2⟩:St))
    (λz=>z.1<=o.ch.length/\FX ((x,.arr 1 (bm ((gw l row).take k)))::(y,.arr 1 (ints ((bV l).take k)))::BW m left os c Q ci oi) z.2)
    (λz=>o.ch.length-z.1) (0,o2++[.var (b6 o)]) ⟨aT _,hF.app _⟩ (Xv (X3 @List.take_zero.{0} @List.map_nil.{0,0} @List.foldl_nil.{0,0})) ?_
   clear hF;rintro⟨q,o3⟩⟨hq,hF⟩mC gG fI;dsimp only at hq hF ⊢;have C5:bM (((o.ch.take q).map (·.2)).foldl dZ 0):=Du _ _ (λv hv=>by
    obtain⟨w,hw,rfl⟩:=List.mem_map.1 hv;exact Za w (List.mem_of_mem_take hw)) (by unfold bM;decide)
   unfold bM at C5;by_cases vA:q<o.ch.length
   ·have jH:((o.ch.take (q+1)).map (·.2)).foldl dZ 0=min ((((o.ch.take q).map (·.2)).foldl dZ 0)+(o.ch.getD q default).2) 1099511627776:=by
     rw[eZ vA,dS,List.foldl_append];rfl
    have Eg:=Za _ (aG (l:=o.ch) (i:=q) (d:=default) vA);unfold bM at Eg;generalize HB:((o.ch.take (q+1)).map (·.2)).foldl dZ 0=s1 at *;generalize ((o.ch.take q).map (·.2)).foldl dZ 0=s0 at *;generalize bc:o.ch.getD q default=cc at *;((try revert hK K);(repeat'(first|refine Va (X4 @bc @dm.eq_1 @bE @bC.{0}) ?_|(refine V2 (X4 @bc @dm.eq_1 @bE @bC.{0}) ?_ ?_<;>try with_reducible intro hb)|(refine Xi ?_ ?_<;>try intro ht)|refine VD ?_ ?_|exact Xx|fail))<;>try with_reducible intro K hK)
    all_goals try(exfalso;omega)
    exact gG _ (q+1,_) ⟨NQ,hF.app [.var (dm cc)]⟩ NQ (by dsimp only;rw[HB,jH];exact Xv @dm.eq_1)
   ·obtain rfl:q=o.ch.length:=Ix;rw[Cy]at C5 ⊢;((try revert hK K);(repeat'(first|refine Va X0 ?_|(refine V2 X0 ?_ ?_<;>try with_reducible intro hb)|(refine Xi ?_ ?_<;>try intro ht)|refine VD ?_ ?_|exact Xx|fail))<;>try with_reducible intro K hK)
    refine fI _ _ rfl ?_;clear gG fI mC;repeat(first|refine Xu ?_)
    rw[<- Bd]at C5 ⊢;generalize D4:qC o=sm at *;have fx:=hF.at_ (x,.arr 1 (bm ((gw l row).take k))) Iy;have fy:=hF.at_ (y,.arr 1 (ints ((bV l).take k))) Iy;have qj:x≠y:=FX.ne (P:=[]) (a:=(x,.arr 1 (bm ((gw l row).take k)))) (b:=(y,.arr 1 (ints ((bV l).take k)))) hF Iy;dsimp only at fx fy;have Zb:=aL fx;have Zc:=aL fy;have sx:=iD fx;have HC:=e7 (y:=.gone) fy qj;have Zd:=aL HC;have sy:=iD HC;have Aj:=(hF.kill .gone).kill .gone;have lc:(bm ((gw l row).take k)).length=k:=by rw[xU];exact bG
    have lo:(ints ((bV l).take k)).length=k:=by rw[wL];exact mV
    have tc:iv k (bm ((gw l row).take k))=bm ((gw l row).take k):=c8 Ix;have to:iv k (ints ((bV l).take k))=ints ((bV l).take k):=c8 Ix;have Ze:∀ l2 k2,((o3.set x .gone).set y .gone++l2)[o3.length+k2]?=l2[k2]?:=λl2 k2=>yM Iy l2 k2;generalize Zf:row.getD k false=rk at *;have kD:∀ bv,bv=(rk&&decide (sm<1099511627776))->FX ((o3.length+1,.arr 1 (bm ((gw l row).take (k+1))))::(o3.length+3,.arr 1 (ints ((bV l).take (k+1))))::BW m left os c Q ci oi) ((o3.set x .gone).set y .gone++[.arr 1 [[.lit (.bool bv)]],.arr 1 (bm ((gw l row).take k++[bv])),.arr 1 [[N0 sm]],.arr 1 (ints ((bV l).take k++[sm]))]):=λbv hbv=>by
     rw[lj,HA,<- hbv];have ta:((o3.set x .gone).set y .gone).length=o3.length:=Iy;have h:=Aj.news (N:=[(o3.length+1,.arr 1 (bm ((gw l row).take k++[bv]))),(o3.length+3,.arr 1 (ints ((bV l).take k++[sm])))]) (l:=[.arr 1 [[.lit (.bool bv)]],.arr 1 (bm ((gw l row).take k++[bv])),.arr 1 [[N0 sm]],.arr 1 (ints ((bV l).take k++[sm]))]) (λp hp=>by
      rw[ta];simp only[bj,gU,or_false]at hp;rcases hp with rfl|rfl
      ·exact⟨1,rfl,rfl⟩
      ·exact⟨3,rfl,rfl⟩) Iy
     exact h
    ((try revert hK K);(repeat'(first|refine Va (X5 @bE @bC.{0} @bF.{0} @bK.{0} (X5 @Y' @Bu @aA.eq_1 @Zf (X5 @fx @Zb @sx @fy (X5 @Zc @HC @Zd @sy (X5 @lc @lo @tc @to (X4 @oH @Ze @CG @CF)))))) ?_|(refine V2 (X5 @bE @bC.{0} @bF.{0} @bK.{0} (X5 @Y' @Bu @aA.eq_1 @Zf (X5 @fx @Zb @sx @fy (X5 @Zc @HC @Zd @sy (X5 @lc @lo @tc @to (X4 @oH @Ze @CG @CF)))))) ?_ ?_<;>try with_reducible intro hb)|(refine Xi ?_ ?_<;>try intro ht)|refine VD ?_ ?_|exact Xx|fail))<;>try with_reducible intro K hK)
    all_goals first
     |exact br _ (k+1,o3.length+1,o3.length+3,_) ⟨NQ,kD (decide (sm<1099511627776)) (by simp[*])⟩ NQ (Xv X0)
     |exact br _ (k+1,o3.length+1,o3.length+3,_) ⟨NQ,kD false (by simp[*])⟩ NQ (Xv X0)
  ·obtain rfl:k=l.length:=Ix;have e1:(gw l row).take l.length=gw l row:=c8 (by simp[gw]);have e2:(bV l).take l.length=bV l:=c8 (by simp[bV]);rw[e1,e2]at hF;((try revert hK K);(repeat'(first|refine Va X0 ?_|(refine V2 X0 ?_ ?_<;>try with_reducible intro hb)|(refine Xi ?_ ?_<;>try intro ht)|refine VD ?_ ?_|exact Xx|fail))<;>try with_reducible intro K hK)
   refine bx _ _ rfl ?_;clear br bx c7;repeat(first|refine Xu ?_)
   have mV:(bV l).length=l.length:=by simp[bV]
   have bG:(gw l row).length=l.length:=by simp[gw]
   have fx:=hF.at_ (x,.arr 1 (bm (gw l row))) Iy;refine cr (aF.zY 8 x 1 (rows:=bm (gw l row)) fx (by rw[xU,bG];simp only[Kc,simprocAttr]) (Fp _) (I' _)) ?_;have Aj:=hF.kill .gone;dsimp only;generalize o2.set x .gone=o4 at *;have dU :∃o6,FX (lA (y,bV l)::BW m left os c Q ci oi) o6/\aF os.length ⟨an [(1,.tree 1 (rowsOf aA left)),(2,.ptr os.length 0 0),(5,.ptr (os.length+2) 0 0),(8,.tree 1 (bm (gw l row))),(9,.ref y 1 0 l.length),(22,.tree 1 (rowsOf aQ m.cls)),(23,N0 m.cls.length),(24,N0 c)],o4⟩
     ⟨an [(1,.tree 1 (rowsOf aA left)),(2,.ptr os.length 0 0),(5,.ptr (os.length+2) 0 0),(8,.tree 1 (bm (gw l row))),(9,oN (y,l.length)),(22,.tree 1 (rowsOf aQ m.cls)),(23,N0 m.cls.length),(24,N0 c)],o6⟩:=by
    unfold lA oN;dsimp only;by_cases h0:l.length=0
    ·have hl0:bV l=[]:=List.length_eq_zero_iff.1 (mV.trans h0);rw[hl0,if_pos rfl,if_pos h0];rw[hl0]at Aj;refine⟨o4.set y .gone,Aj.put _,?_⟩;refine aF.trans (aF.zY 9 y 1 (rows:=[]) (Aj.at_ (y,.arr 1 (ints [])) Iy) (by rw[h0];rfl) Iy Iy) ?_;exact Xv X0
    ·have hl0:bV l≠[]:=λe=>h0 (by rw[<- mV,e];rfl);rw[if_neg hl0,if_neg h0];exact⟨o4,Aj,by exact Xv X0⟩
   obtain⟨o6,B6,hT⟩:=dU;refine cr (σ':=⟨an [(1,.tree 1 (rowsOf aA left)),(2,.ptr os.length 0 0),(5,.ptr (os.length+2) 0 0),(8,.tree 1 (bm (gw l row))),(9,.ref y 1 0 l.length),(22,.tree 1 (rowsOf aQ m.cls)),(23,N0 m.cls.length),(24,N0 c)],o4⟩) (Xv X0) ?_;refine cr hT ?_;clear hT hF Aj fx o4;have s9:Q.length=c:=by have:=congrArg kI hQ;simp at this;omega
   have fG:=B6.at_ (os.length+2,gW m (os.length+1) ci oi (os.length+5) c 0) (by simp[BW]);have fC:=B6.at_ (ci,.arr 1 (rowsOf aA (dR m left c))) (by simp[BW]);have fO:=B6.at_ (oi,.arr 1 (rowsOf dH (dQ Q))) (by simp[BW]);unfold gW ao at fG;dsimp only[dh,ec]at fG fC fO;have Eh:(lA (y,bV l)::BW m left os c Q ci oi).Perm ((ci,.arr 1 (rowsOf aA (dR m left c)))::(oi,.arr 1 (rowsOf dH (dQ Q)))::(os.length+2,gW m (os.length+1) ci oi (os.length+5) c 0)::lA (y,bV l)::(os.length+5,.arr 1 [])::(os.length,.var (ao m))::(os.length+1,.mp 3 [])::(Q.map lA++nM os)):=by
    exact aiA _ _ _ _ _
   have Ak:=B6.perm Eh;have aiB:ci≠oi:=FX.ne (P:=[]) (a:=(ci,.arr 1 (rowsOf aA (dR m left c)))) (b:=(oi,.arr 1 (rowsOf dH (dQ Q)))) Ak Iy;have Ml:ci≠os.length+2:=FX.ne (P:=[]) (a:=(ci,.arr 1 (rowsOf aA (dR m left c)))) (b:=(os.length+2,gW m (os.length+1) ci oi (os.length+5) c 0)) Ak Iy;have Mm:oi≠os.length+2:=FX.ne (P:=[(ci,.arr 1 (rowsOf aA (dR m left c)))]) (a:=(oi,.arr 1 (rowsOf dH (dQ Q)))) (b:=(os.length+2,gW m (os.length+1) ci oi (os.length+5) c 0)) Ak Iy;have fCl:=aL fC;have fOl:=aL fO;have B7:=aL fG;have sC:=iD fC;have vU:=e7 (y:=.gone) fG Ml;have B8:=aL vU;have Mn:=e7 (y:=.gone) fO aiB;have aiE:=aL Mn;have sO:=iD Mn;have Ei:=e7 (y:=.gone) vU Mm;have aiF:=aL Ei;have Ej:=(Ak.kill .gone).kill .gone;have lC:(rowsOf aA (dR m left c)).length=c:=by rw[cf];simp[dR]
   have lO:(rowsOf dH (dQ Q)).length=c:=by rw[cf];simp[dQ,s9]
   have tC:iv c (rowsOf aA (dR m left c))=rowsOf aA (dR m left c):=c8 Ix;have tO:iv c (rowsOf dH (dQ Q))=rowsOf dH (dQ Q):=c8 Ix;have rn:rowsOf aA (dR m left c)++[[.tree 1 (bm (gw l row))]]=rowsOf aA (dR m left (c+1)):=by rw[iI];unfold rowsOf;rw[dS];rfl
   have yf:rowsOf dH (dQ Q)++[[oN (y,l.length)]]=rowsOf dH (dQ (Q++[(y,bV l)])):=by rw[<- Mo,show(bV l).length=l.length by simp[bV]]
   have l6:((o6.set ci .gone).set oi .gone).length=o6.length:=Iy;have l5:(o6.set ci Ob.gone).length=o6.length:=Iy;have e5:=λl k=>yM l5 l k;have e50:=λx l=>Hw l5 x l;have e6:=λl k=>yM l6 l k;have e60:=λx l=>Hw l6 x l;have sG:=iD Ei;have sG2:=λy=>iD (lZ (y:=y) Ei);have sG5:=λy=>aL (lZ (y:=y) Ei);have sR:(os.length+2∈[os.length+2])=True:=Iy;have D8:(ci ∉ [os.length+2])=True:=by simp[Ml]
   have hmo:(oi ∉ [os.length+2])=True:=by simp[Mm]
   have aiL:(ci∈[os.length+2])=False:=by simp[Ml]
   have aiM:(oi∈[os.length+2])=False:=by simp[Mm]
   have ri:=aiN (y,l.length);have aiO:cellsOf (oN (y,l.length))=[oN (y,l.length)]:=by unfold oN;split<;>rfl
   have amA:=iH fG;have kD:∀ (s:St) (cc:Nat) (G1:Ob) (l4:List Ob),cc=1\/cc=2->l4[cc]?=some (.arr 1 (rowsOf aA (dR m left (c+1))))->l4[3]?=some (.arr 1 (rowsOf dH (dQ (Q++[(y,bV l)])))) ->
     aF os.length s ⟨an [(1,.tree 1 (rowsOf aA left)),(2,.ptr os.length 0 0),(5,.ptr (os.length+2) 0 0),(22,.tree 1 (rowsOf aQ m.cls)),(23,N0 m.cls.length),(24,N0 c)],(((o6.set ci .gone).set oi .gone).set (os.length+2) G1).set (os.length+2) (gW m (os.length+1) (o6.length+cc) (o6.length+3) (os.length+5) (c+1) 0)++l4⟩ ->
     ∃ cc l4,FX (BW m left os (c+1) (Q++[(y,bV l)]) (o6.length+cc) (o6.length+3)) l4/\aF os.length s ⟨an [(1,.tree 1 (rowsOf aA left)),(2,.ptr os.length 0 0),(5,.ptr (os.length+2) 0 0),(22,.tree 1 (rowsOf aQ m.cls)),(23,N0 m.cls.length),(24,N0 c)],l4⟩:=λs cc G1 l4 bc h1 h2 ht=>by
    refine⟨cc,_,?_,ht⟩;have h:=((Ej.put G1).put (gW m (os.length+1) (o6.length+cc) (o6.length+3) (os.length+5) (c+1) 0)).news (N:=[(o6.length+cc,.arr 1 (rowsOf aA (dR m left (c+1)))),(o6.length+3,.arr 1 (rowsOf dH (dQ (Q++[(y,bV l)]))))]) (l:=l4) (λp hp=>by
     simp only[bK];simp only[bj,gU,or_false]at hp;rcases hp with rfl|rfl
     ·exact⟨cc,rfl,h1⟩
     ·exact⟨3,rfl,h2⟩) NS
    have h':=h.perm (aiP _ _ _ _ _ _ _ _ _);unfold BW;rw[dS,bC];exact h'
   refine Ht (λs=>∃ cc l4,FX (BW m left os (c+1) (Q++[(y,bV l)]) (o6.length+cc) (o6.length+3)) l4/\aF os.length s ⟨an [(1,.tree 1 (rowsOf aA left)),(2,.ptr os.length 0 0),(5,.ptr (os.length+2) 0 0),(22,.tree 1 (rowsOf aQ m.cls)),(23,N0 m.cls.length),(24,N0 c)],l4⟩) ?_ ?_
   ·rintro s ⟨cc,l4,h1,h2⟩;repeat(first|refine Xu ?_)
    refine cr h2 ?_;((try revert hK K);(repeat'(first|refine Va X0 ?_|(refine V2 X0 ?_ ?_<;>try with_reducible intro hb)|(refine Xi ?_ ?_<;>try intro ht)|refine VD ?_ ?_|exact Xx|fail))<;>try with_reducible intro K hK)
    exact ak _ (c+1,Q++[(y,bV l)],o6.length+cc,o6.length+3,l4) ⟨NQ,h1,by dsimp only;rw[dS,hQ,iA,dS];rfl⟩ NQ (Xv X0)
   intro QQ key;clear ak ar;refine Y4 [os.length+2] [] [8,15] (.take 0 (.take 1 (.take 2 (.take 3 (.take 4 (.take 5 (.take 6 (.take 9 (.take 10 (.take 11 (.take 12 (.take 13 (.both 7 (.both 8 (.take 14 (.take 15 (.take 16 (.take 17 (.take 18 (.take 19 (.take 20 (.take 21 .nil)))))))) 14 (.take 8 (.take 15 (.take 16 (.take 17 (.take 18 (.take 19 (.take 20 (.take 21 .nil))))))))) 14 (.take 7 (.take 8 (.take 15 (.take 16 (.take 17 (.take 18 (.take 19 (.take 20 (.take 21 .nil)))))))))))))))))))))) rfl NI (by decide +kernel) ?_;simp(disch:=omega)only[Ac,↓Pc,simprocAttr,Ra,ja,sR,D8,hmo,aiL,aiM,not_false_eq_true,fC,fO,fG,fCl,fOl,B7,sC,vU,B8,Mn,aiE,sO,Ei,aiF,lC,lO,tC,tO,rn,yf,l5,l6,e5,e50,e6,e60,sG,sG2,sG5,ri,aiO,bE,bC,bF];repeat'(first|with_reducible refine cK ?_ ?_|omega|with_reducible rfl|(intro id bO;simp only[bj,gU,or_false]at bO;omega))
   all_goals first
    | (refine key _ (kD _ 1 (.var (ao m++[.ref (o6.length+1) 1 0 (c+1),.ref oi 1 0 c,.ref (os.length+5) 1 0 0,.du (os.length+1)])) [.arr 1 [[.tree 1 (bm (gw l row))]],.arr 1 (rowsOf aA (dR m left (c+1))),.arr 1 [[oN (y,l.length)]],.arr 1 (rowsOf dH (dQ (Q++[(y,bV l)])))] (.inl rfl) rfl rfl ?_);exact Xv (X2 @gW.eq_1 @ao.eq_1);done)
    | (refine key _ (kD _ 2 (.var (ao m++[.ref (o6.length+2) 1 0 (c+1),.ref oi 1 0 c,.ref (os.length+5) 1 0 0,.du (os.length+1)])) [.arr 1 [[.tree 1 (bm (gw l row))]],.arr 1 [[oN (y,l.length)]],.arr 1 (rowsOf aA (dR m left (c+1))),.arr 1 (rowsOf dH (dQ (Q++[(y,bV l)])))] (.inr rfl) rfl rfl ?_);exact Xv (X2 @gW.eq_1 @ao.eq_1);done)
    | (refine key _ (kD _ 2 (.var (ao m++[.ref (o6.length+2) 1 0 (c+1),.ref oi 1 0 c,.ref (os.length+5) 1 0 0,.du (os.length+1)])) [.arr 1 [[oN (y,l.length)]],.arr 1 [[.tree 1 (bm (gw l row))]],.arr 1 (rowsOf aA (dR m left (c+1))),.arr 1 (rowsOf dH (dQ (Q++[(y,bV l)])))] (.inr rfl) rfl rfl ?_);exact Xv (X2 @gW.eq_1 @ao.eq_1);done)
 ·obtain rfl:c=m.cls.length:=Ix;rw[Cy]at hQ;((try revert hK K);(repeat'(first|refine Va X0 ?_|(refine V2 X0 ?_ ?_<;>try with_reducible intro hb)|(refine Xi ?_ ?_<;>try intro ht)|refine VD ?_ ?_|exact Xx|fail))<;>try with_reducible intro K hK)
  refine ar _ _ rfl ?_;clear ak ar Ql;repeat(first|refine Xu ?_)
  have Ea:FX (B2 m left os Q ci oi (os.length+5) 0 []) ob:=hF.perm (aiQ _ _ _ _ _ _ _);clear hF;have fA:=Ea.at_ (os.length,.var (ao m)) (by simp[B2,BR]);dsimp only at fA;((try revert hK K);(repeat'(first|refine Va (X2 @fA @ao.eq_1) ?_|(refine V2 (X2 @fA @ao.eq_1) ?_ ?_<;>try with_reducible intro hb)|(refine Xi ?_ ?_<;>try intro ht)|refine VD ?_ ?_|exact Xx|fail))<;>try with_reducible intro K hK)
  refine aU (λz:Nat×List (Nat×List Int)×Nat×List Ob=>(⟨an [(5,.ptr (os.length+2) 0 0),(90,.tree 4 (rowsOf aH m.ae)),(91,N0 m.ae.length),(92,N0 z.1)],z.2.2.2⟩:St))
   (λz=>z.1<=m.ae.length/\FX (B2 m left os Q ci oi z.2.2.1 z.1 z.2.1) z.2.2.2/\z.2.1.map (·.2)=(m.ae.take z.1).map (·.ax))
   (λz=>m.ae.length-z.1) (0,[],os.length+5,ob) ⟨aT _,Ea,Iy⟩ (Xv X0) ?_
  clear Ea fA;rintro⟨j,QE,ti,ob⟩⟨hj,hF,yN⟩Ql ak ar;dsimp only at hj hF yN ⊢;by_cases fe:j<m.ae.length
  ·have iA:=eZ fe;obtain⟨dO,_⟩:=yL hm fe;have nk:(cN m j).ax.length<=576:=by
    obtain⟨_,_,_,_,h1⟩:=qA dO;have a:=Al hm (cN m j).fst.toNat;have b:=Al hm (cN m j).snd.toNat;have h2:(cN m j).ax.length=cF m (cN m j).fst.toNat*cF m (cN m j).snd.toNat:=by exact_mod_cast h1
    rw[h2];exact Nat.mul_le_mul a b
   have gr:m.ae.getD j default=cN m j:=rfl;rw[gr]at iA;generalize cN m j=p at *;have s9:QE.length=j:=by have:=congrArg kI yN;simp at this;omega
   have fG:=hF.at_ (os.length+2,gW m (os.length+1) ci oi ti m.cls.length j) (by simp[B2]);have fT:=hF.at_ (ti,.arr 1 (rowsOf dH (dQ QE))) (by simp[B2]);unfold gW ao at fG;dsimp only[dh,ec]at fG fT;have zx:os.length+2≠ti:=FX.ne (P:=[]) (a:=(os.length+2,gW m (os.length+1) ci oi ti m.cls.length j)) (b:=(ti,.arr 1 (rowsOf dH (dQ QE)))) hF Iy;have Ak:FX ((ti,.arr 1 (rowsOf dH (dQ QE)))::(os.length+2,gW m (os.length+1) ci oi ti m.cls.length j)::(QE.map lA++BR m left os Q ci oi)) ob:=hF.perm (List.Perm.swap _ _ _);have Ej:=Ak.kill .gone;have xo:=aL fT;have B7:=aL fG;have sT:=iD fT;have vU:=e7 (y:=.gone) fG (Ne.symm zx);have B8:=aL vU;have sG:=iD vU;have lT:(rowsOf dH (dQ QE)).length=j:=by rw[cf];simp[dQ,s9]
   have tT:iv j (rowsOf dH (dQ QE))=rowsOf dH (dQ QE):=c8 Ix;have yf:rowsOf dH (dQ QE)++[[oN (ob.length+1,p.ax.length)]]=rowsOf dH (dQ (QE++[(ob.length+1,p.ax)])):=Mo QE (ob.length+1,p.ax);have tz:=iH fG;repeat'(first|((fail_if_success (first|refine ei 23 ?_|refine ej 23 ?_));refine Xr (X3 @gr @bE @bC.{0}) ?_;intro K hK)|refine Xo (X3 @gr @bE @bC.{0}) ?_|(refine hK _ ?_;clear hK K)|(refine Xg (X3 @gr @bE @bC.{0}) ?_ ?_<;>try intro hb)|(refine Xi ?_ ?_<;>try intro ht)|refine Xy ?_|refine Xd ?_ ?_|exact Xx|fail)
   refine cr (σ':=⟨an [(5,.ptr (os.length+2) 0 0),(16,.ptr ob.length 0 0),(90,.tree 4 (rowsOf aH m.ae)),(91,N0 m.ae.length),(92,N0 j)],ob++[.var (aH p)]⟩) (Xv @aH.eq_1) ?_;refine Ht (λs=>∃ q tn l4,FX (B2 m left os Q ci oi tn (j+1) (QE++[(q,p.ax)])) l4/\aF os.length s ⟨an [(5,.ptr (os.length+2) 0 0),(90,.tree 4 (rowsOf aH m.ae)),(91,N0 m.ae.length),(92,N0 j)],l4⟩) ?_ ?_
   ·rintro s ⟨q,tn,l4,h1,h2⟩;repeat(first|refine Xu ?_)
    refine cr h2 ?_;((try revert hK K);(repeat'(first|refine Va X0 ?_|(refine V2 X0 ?_ ?_<;>try with_reducible intro hb)|(refine Xi ?_ ?_<;>try intro ht)|refine VD ?_ ?_|exact Xx|fail))<;>try with_reducible intro K hK)
    exact ak _ (j+1,QE++[(q,p.ax)],tn,l4) ⟨NQ,h1,by dsimp only;rw[dS,yN,iA,dS];rfl⟩ NQ (Xv X0)
   intro QQ key;clear ak ar;by_cases h0:p.ax.length=0
   ·have HD:p.ax=[]:=List.length_eq_zero_iff.1 h0;have bG:=ah1 p.ax Ix;rw[HD]at bG key;have Zg:rowsOf dH (dQ QE)++[[.tree 1 (ints [])]]=rowsOf dH (dQ (QE++[(ti,[])])):=Mo QE (ti,[]);have hg5:FX ((os.length+2,gW m (os.length+1) ci oi ti m.cls.length j)::(ti,.gone)::(QE.map lA++BR m left os Q ci oi)) (ob.set ti .gone):=(Ak.put .gone).perm (List.Perm.swap _ _ _);have kD:FX (B2 m left os Q ci oi (ob.length+2) (j+1) (QE++[(ti,[])])) ((ob.set ti .gone).set (os.length+2) (gW m (os.length+1) ci oi (ob.length+2) m.cls.length (j+1))++[.var [N0 p.fst,N0 p.snd,N0 p.dL,.tree 1 (ints [])],.arr 1 [[.tree 1 (ints [])]],.arr 1 (rowsOf dH (dQ (QE++[(ti,[])])))]):=by
     have h:=(hg5.put (gW m (os.length+1) ci oi (ob.length+2) m.cls.length (j+1))).news (N:=[(ob.length+2,.arr 1 (rowsOf dH (dQ (QE++[(ti,[])]))))]) (l:=[.var [N0 p.fst,N0 p.snd,N0 p.dL,.tree 1 (ints [])],.arr 1 [[.tree 1 (ints [])]],.arr 1 (rowsOf dH (dQ (QE++[(ti,[])])))]) (λq hq=>by
      simp only[bK];rw[cU]at hq;subst hq;exact⟨2,rfl,rfl⟩) Iy
     have h':=h.perm (aiS _ _ _ _ _);unfold B2;rw[dS,bC];exact h'
    rw[HD]at yf nk;refine nY [] (.take 0 (.take 1 (.take 5 (.take 6 (.both 2 (.both 3 (.both 4 (.take 7 (.take 8 (.take 9 (.take 10 (.take 11 (.take 12 .nil)))))) 7 (.take 4 (.take 8 (.take 9 (.take 10 (.take 11 (.take 12 .nil))))))) 7 (.take 3 (.take 4 (.take 8 (.take 9 (.take 10 (.take 11 (.take 12 .nil)))))))) 7 (.take 2 (.take 3 (.take 4 (.take 8 (.take 9 (.take 10 (.take 11 (.take 12 .nil))))))))))))) rfl NI (by decide +kernel) ?_;simp(disch:=omega)only[Ac,↓Pc,simprocAttr,Pw,fT,fG,xo,B7,sT,vU,B8,sG,lT,tT,Zg,aH,HD,oH,bE,bC,bF];repeat'(first|with_reducible refine cK ?_ ?_|omega|with_reducible rfl)
    all_goals
     (refine Xn [] (bG) ?_;simp(disch:=omega)only[Ac,↓Pc,simprocAttr,Pw,fT,fG,xo,B7,sT,vU,B8,sG,lT,tT,Zg,aH,HD,oH,bE,bC,bF])
     repeat'(first|with_reducible refine cK ?_ ?_|omega|with_reducible rfl)
    all_goals exact key _ ⟨ti,ob.length+2,_,kD,by exact Xv (X2 @gW.eq_1 @ao.eq_1)⟩
   ·have bG:=Yk p.ax Ix Ix;have Zh:rowsOf dH (dQ QE)++[[.ref (ob.length+1) 1 0 p.ax.length]]=rowsOf dH (dQ (QE++[(ob.length+1,p.ax)])):=by rw[<- yf];unfold oN;rw[if_neg h0]
    have kD:FX (B2 m left os Q ci oi (ob.length+3) (j+1) (QE++[(ob.length+1,p.ax)])) ((ob.set ti .gone).set (os.length+2) (gW m (os.length+1) ci oi (ob.length+3) m.cls.length (j+1))++[.var (aH p),.arr 1 (ints p.ax),.arr 1 [[.ref (ob.length+1) 1 0 p.ax.length]],.arr 1 (rowsOf dH (dQ (QE++[(ob.length+1,p.ax)])))]):=by
     have h:=(Ej.put (gW m (os.length+1) ci oi (ob.length+3) m.cls.length (j+1))).news (N:=[(ob.length+3,.arr 1 (rowsOf dH (dQ (QE++[(ob.length+1,p.ax)])))),lA (ob.length+1,p.ax)]) (l:=[.var (aH p),.arr 1 (ints p.ax),.arr 1 [[.ref (ob.length+1) 1 0 p.ax.length]],.arr 1 (rowsOf dH (dQ (QE++[(ob.length+1,p.ax)])))]) (λq hq=>by
      simp only[bK];simp only[bj,gU,or_false]at hq;rcases hq with rfl|rfl
      ·exact⟨3,rfl,rfl⟩
      ·refine⟨1,rfl,?_⟩;unfold lA;dsimp only;rw[if_neg (λe=>h0 (by rw[e];rfl))];rfl) (by simp[lA])
     have h':=h.perm (aiT _ _ _ _ _);unfold B2;rw[dS,bC];exact h'
    refine nY [] (.take 0 (.take 1 (.take 5 (.take 6 (.both 2 (.both 3 (.both 4 (.take 7 (.take 8 (.take 9 (.take 10 (.take 11 (.take 12 .nil)))))) 7 (.take 4 (.take 8 (.take 9 (.take 10 (.take 11 (.take 12 .nil))))))) 7 (.take 3 (.take 4 (.take 8 (.take 9 (.take 10 (.take 11 (.take 12 .nil)))))))) 7 (.take 2 (.take 3 (.take 4 (.take 8 (.take 9 (.take 10 (.take 11 (.take 12 .nil))))))))))))) rfl NI (by decide +kernel) ?_;simp(disch:=omega)only[Ac,↓Pc,simprocAttr,Pw,fT,fG,xo,B7,sT,vU,B8,sG,lT,tT,Zh,aH,oH,bE,bC,bF];repeat'(first|with_reducible refine cK ?_ ?_|omega|with_reducible rfl)
    all_goals
     (refine Xn [] (bG) ?_;simp(disch:=omega)only[Ac,↓Pc,simprocAttr,Pw,fT,fG,xo,B7,sT,vU,B8,sG,lT,tT,Zh,aH,oH,bE,bC,bF,Fo])
     repeat'(first|with_reducible refine cK ?_ ?_|omega|with_reducible rfl)
    all_goals exact key _ ⟨ob.length+1,ob.length+3,_,kD,by exact Xv (X3 @gW.eq_1 @ao.eq_1 @aH.eq_1)⟩
  ·obtain rfl:j=m.ae.length:=Ix;rw[Cy]at yN;((try revert hK K);(repeat'(first|refine Va X0 ?_|(refine V2 X0 ?_ ?_<;>try with_reducible intro hb)|(refine Xi ?_ ?_<;>try intro ht)|refine VD ?_ ?_|exact Xx|fail))<;>try with_reducible intro K hK)
   refine ar _ _ rfl ?_;clear ak ar Ql;repeat(first|refine Xu ?_)
   have fG:=hF.at_ (os.length+2,gW m (os.length+1) ci oi ti m.cls.length m.ae.length) (by simp[B2]);have fC:=hF.at_ (ci,.arr 1 (rowsOf aA (dR m left m.cls.length))) (by simp[B2,BR]);dsimp only at fG fC;unfold gW at fG;refine cr (aF.wW ci (os.length+2) 4 1 (cells:=ao m++[.ref ci 1 0 m.cls.length,.ref oi 1 0 m.cls.length,.ref ti 1 0 m.ae.length,.du (os.length+1)]) (rows:=rowsOf aA (dR m left m.cls.length)) fG fC (by rw[cf];simp[dR,ao]) (ig _) (my _)) ?_;obtain⟨Zi,pJ,gd⟩:=aiU hQ yN hF;have hlen:os.length<=((ob.set ci .gone).set (os.length+2) (.var (ao m++[.tree 1 (rowsOf aA (dR m left m.cls.length)),.ref oi 1 0 m.cls.length,.ref ti 1 0 m.ae.length,.du (os.length+1)]))).length:=by
    have:=iH fG;simp only[bK];omega
   refine cr (σ':=⟨an [(5,.ptr (os.length+2) 0 0)],(ob.set ci .gone).set (os.length+2) (.var (ao m++[.tree 1 (rowsOf aA (dR m left m.cls.length)),.ref oi 1 0 m.cls.length,.ref ti 1 0 m.ae.length,.du (os.length+1)]))⟩) (Xv @ao.eq_1) ?_;generalize (ob.set ci .gone).set (os.length+2) (.var (ao m++[.tree 1 (rowsOf aA (dR m left m.cls.length)),.ref oi 1 0 m.cls.length,.ref ti 1 0 m.ae.length,.du (os.length+1)]))=o9 at *;have tz:=iH Zi.v;((try revert hK K);(repeat'(first|refine Vb X0 ?_|(refine V2 X0 ?_ ?_<;>try with_reducible intro hb)|(refine Xi ?_ ?_<;>try intro ht)|refine VD ?_ ?_|exact Xx|fail))<;>try with_reducible intro K hK)
   unfold eH;simp only[dx,dv];simp(disch:=omega)only[Ac,↓Pc,simprocAttr];exact⟨_,_,⟨_,_,_,_,_,_,rfl,Zi,hlen,pJ,Ix,gd⟩,ed rfl hlen rfl⟩
end
end T

