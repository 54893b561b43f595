import Derived.Test.YtfoopmojjjpapaaGreatX30
import Derived.Test.YtfoopmojjjpapaaGreatX31
import Derived.Test.YtfoopmojjjpapaaGreatX21
set_option linter.all false
set_option maxHeartbeats 0
set_option maxRecDepth 20000
open List renaming replicate→aK,length→jB,getElem?_map→bI,getElem?_set→bU,getElem?_eq_getElem→bF,mem_singleton→cV,length_replicate→lE,map_append→dS,append_assoc→bE,mem_cons→bw,mem_cons_of_mem→dR,set_set→wD,length_set→bJ,map_set→sr,length_append→bO,not_mem_nil→iM,take→ja,cons_append→dx,getD_eq_getElem?_getD→az,length_take→eY,take_length→wG,take_of_length_le→dm,nil_append→eC
open Option renaming some→cA
open Nat renaming sub_self→jz,zero_le→aS
open And renaming intro→c6
open Go Go.Am Go.Proofs
namespace T
def wZ(w o:Nat):List Bool:=(aK w false).set o true
def gZ(left:List (List Bool))(c o:Nat):List (List Bool):=left.set c (wZ (left.getD c default).length o)
def abq(w o:Nat):(wZ w o).length=w:=by simp[wZ]
def Mk(left:List (List Bool))(c o:Nat):(gZ left c o).map jB=left.map jB:=by
 unfold gZ;apply List.ext_getElem?;intro j;rw[bI,bI,bU];split
 ·rename_i e;subst e;split
  ·rename_i h2;rw[bF h2];simp[abq,h2]
  ·rename_i h2;rw[List.getElem?_eq_none GK]
 ·rfl
def abr{σ:St}{kp:Nat->Prop}{c d:List AV}(h:∀ v∈c,(∃ x,v=AV.lit x)\/∃ s r,v=AV.tree s r)(e:d=c):jE (cQ σ kp) c d:=by
 subst e
 induction d with
 |nil=>trivial
 |cons v l ih =>
  refine⟨?_,ih λx hx=>h x (by simp[hx])⟩;rcases h v GM with⟨x,rfl⟩|⟨s,r,rfl⟩
  ·exact .lit _
  ·exact .tree _ _
def akC{σ:St}{kp:Nat->Prop}{oi k c:Nat}{left:List (List Bool)}{r:List Bool}(hc:c<left.length)(ho:σ.aa[oi]?=some (.arr 1 ((rowsOf aC left).set c [.ref k 1 0 r.length])))(hk:¬ kp oi)(hr:σ.aa[k]?=some (.arr 1 (a8 r)))(AG:¬ kp k):
  cQ σ kp (.tree 1 (rowsOf aC (left.set c r))) (.ref oi 1 0 left.length) :=
 cQ.mk ho (by simp[rowsOf]) hk (jd _) (lH.FY (f:=λ_=>[]) (g:=λ_=>[]) (by simp[rowsOf]) λj x d hx hd=>by
  unfold rowsOf at hx hd;rw[bI,bU]at hx;rw[bU]at hd;by_cases e:c=j
  ·subst e;rw[if_pos rfl,if_pos hc]at hx;rw[if_pos rfl,if_pos (by simpa using hc)]at hd;cases hx;cases hd;exact⟨abp hr AG,trivial⟩
  ·rw[if_neg e]at hx hd;rw[bI]at hd;rw[hx]at hd;simp only[cA.injEq]at hd;cases hl:left[j]? with
   |none=>rw[hl]at hx;cases hx
   |some y =>
    rw[hl]at hx;simp only[Option.map_some,cA.injEq]at hx;subst hx;exact abr (λv hv=>by simp only[aC,cV]at hv;exact .inr ⟨_,_,hv⟩) hd.symm)
def Yk(xs:List Int)(h:0<xs.length)(hl:xs.length<549755813888):Holds Tryz.prog 69 [.tree 1 (ints xs)] [] (.ref 0 1 0 xs.length) [.arr 1 (ints xs)]:=by
 refine Holds.aM 8 0 [.tmp 2] Tryz.func69 ?_;((repeat'(first|refine Vb @Ha ?_|(refine Xi ?_ ?_<;>try intro ht)|exact Xx|fail)))
 exact Xw false [1] X0
def akD(xs:List (List Bool))(h:0<xs.length)(hl:xs.length<549755813888):Holds Tryz.prog 130 [.tree 1 (rowsOf aC xs)] [] (.ref 0 1 0 xs.length) [.arr 1 (rowsOf aC xs)]:=by
 refine Holds.aM 8 0 [.tmp 2] Tryz.func130 ?_;((repeat'(first|refine Vb X0 ?_|(refine Xi ?_ ?_<;>try intro ht)|exact Xx|fail)))
 exact Xw false [1] X0
def aiH:Holds Tryz.prog 69 [.lit (.slice none 0 0)] [] (.lit (.slice none 0 0)) []:=by
 refine Holds.aM 8 0 [.tmp 2] Tryz.func69 ?_;((repeat'(first|refine Vb @Option.isNone_none.{0} ?_|(refine Xi ?_ ?_<;>try intro ht)|exact Xx|fail)))
 all_goals first|exact aO rfl rfl|(exfalso;simp at *;done)
def aiG(left:List (List Bool))(c o:Nat)(hc:c<left.length)(ho:o<(left.getD c default).length)(hl:left.length<549755813888)(hw:(left.getD c default).length<549755813888):
  Holds Tryz.prog 97 [.tree 1 (rowsOf aC left),Qf c,Qf o] [] (.tree 1 (rowsOf aC (gZ left c o))) []:=by
 unfold gZ;have jZ:∀ r:List AV,((rowsOf aC left).set c r)[c]?=some r:=λr=>by rw[bU,if_pos rfl,if_pos (by simpa [rowsOf] using hc)]
 have lX:∀ r:List AV,((rowsOf aC left).set c r).length=left.length:=λr=>by simp[rowsOf]
 generalize gX:left.getD c default=row at *;have NQ:(aK row.length false).length=row.length:=lE;refine Holds.aM 26 0 [.tmp 6] Tryz.func97 ?_;((refine Vb X0 ?_)<;>try with_reducible intro K hK)
 (refine Xn [] (akD left GK hl) ?_;simp(disch:=omega)only[Ac,↓Pc,simprocAttr,jz,Nat.sub_zero])
 ((try revert hK K);(refine Vb (X5 @gX @aC.eq_1 @Cv @jZ (X3 @lX @NQ @q8)) ?_))
 refine iD [] true GS trivial GS GS (.snap _ _ rfl ?_);have cD:(wZ row.length o).length=row.length:=abq _ _;exact akC (k:=1) (r:=wZ row.length o) hc (by rw[cD];rfl) (jD GS) rfl (jD GS)
section
variable {m:ah} {can:List (List Bool)} {gi ai bi mi:Nat} {D E:List (Nat×Nat)} {W:WS} {os:List Ob}
def nF(n:Nat):List Int:=(List.range n).map λ(i:Nat)=>(i:Int)
def akE(N k:Nat)(hk:k<N):(nF k++aK (N-k) 0).set k (k:Int)=nF (k+1)++aK (N-(k+1)) 0:=by
 have h1:(nF k).length=k:=by simp[nF]
 rw[List.set_append,if_neg GK,h1,jz,show N-k=(N-(k+1))+1 by omega,List.replicate_succ,List.set_cons_zero];show _=nF (k+1)++_;unfold nF;rw[List.range_succ,dS,bE];rfl
def akF(hm:VM m)(hf:dh m can)(h:WF m can gi ai bi mi D E W os)(hs:nG m W){B:Int}(hB:0<=B/\B<=288230376151711744)(hW:WB B W){round:Nat}(S8:round<=64):
  cX Tryz.prog 39 [.ptr gi 0 0,Qf round] os λr ob=>r=.bD []/\WF m can gi ai bi mi D E (qE m can W round) ob/\Kp mi D E os ob/\nG m (qE m can W round)/\WB (B+14843406974976) (qE m can W round):=by
 have pT:=hm.ae;have rT:=hm.cls;have fv:=h.v;have fvl:=aN fv;have e0:∀ N:Nat,aK N (0:Int)=nF 0++aK (N-0) 0:=λN=>by simp[nF]
 refine cX.aM 141 os.length [] Tryz.func39 ?_;((try revert hK K);(repeat'(first|refine Va (X5 @fv @fvl @an.eq_1 @bH @bE.{0}) ?_|(refine V2 (X5 @fv @fvl @an.eq_1 @bH @bE.{0}) ?_ ?_<;>try with_reducible intro hb)|(refine Xi ?_ ?_<;>try intro ht)|refine VD ?_ ?_|exact Xx|fail))<;>try with_reducible intro K hK)
 have hN:m.cls.length<9223372036854775808:=GK;generalize On:m.cls.length=N at *;refine cL (σ':=⟨ao [(1,Qf round),(2,.ptr os.length 0 0),(4,Qf m.ae.length),(5,.ref (os.length+1) 1 0 N),(32,Qf N),(33,Qf 0)],os++[.var [.ptr gi 0 0],.arr 1 (ints (nF 0++aK (N-0) 0))]⟩) (by rw[<- e0];exact Xv X0) ?_;clear e0;refine aR (λk:Nat=>(⟨ao [(1,Qf round),(2,.ptr os.length 0 0),(4,Qf m.ae.length),(5,.ref (os.length+1) 1 0 N),(32,Qf N),(33,Qf k)],os++[.var [.ptr gi 0 0],.arr 1 (ints (nF k++aK (N-k) 0))]⟩:St))
  (λk=>k<=N) (λk=>N-k) 0 (aS _) (Xv X0) ?_
 rintro k hk Ql ak aq;have cD:(nF k++aK (N-k) 0).length=N:=by simp[nF];omega
 by_cases bg:k<N
 ·have zr:=akE N k bg;((try revert hK K);(repeat'(first|refine Va (X3 @bH @cD @zr) ?_|(refine V2 (X3 @bH @cD @zr) ?_ ?_<;>try with_reducible intro hb)|(refine Xi ?_ ?_<;>try intro ht)|refine VD ?_ ?_|exact Xx|fail))<;>try with_reducible intro K hK)
  exact ak _ (k+1) GK GK (Xv X0)
 ·obtain rfl:k=N:=GK;((try revert hK K);(repeat'(first|refine Va X0 ?_|(refine V2 X0 ?_ ?_<;>try with_reducible intro hb)|(refine Xi ?_ ?_<;>try intro ht)|refine VD ?_ ?_|exact Xx|fail))<;>try with_reducible intro K hK)
  refine aq _ _ rfl ?_;clear ak aq Ql;repeat(first|refine Xu ?_)
  rw[jz,List.replicate_zero,List.append_nil]at cD ⊢;((try revert hK K);(repeat'(first|refine Va (X3 @bH @bE.{0} @cD) ?_|(refine V2 (X3 @bH @bE.{0} @cD) ?_ ?_<;>try with_reducible intro hb)|(refine Xi ?_ ?_<;>try intro ht)|refine VD ?_ ?_|exact Xx|fail))<;>try with_reducible intro K hK)
  have FZ:∀ p∈((os.length,Ob.var [.ptr gi 0 0])::(os.length+3,.var [.ref (os.length+2) 1 0 k])::oY os),p.1≠os.length+1:=λp hp=>by
   rcases bw.1 hp with rfl|hp
   ·dsimp only;omega
   rcases bw.1 hp with rfl|hp
   ·dsimp only;omega
   ·have:=iY (Ad.1 hp);omega
  have hLR:LR ((os.length+1,Ob.arr 1 (ints (nF k)))::(os.length,Ob.var [.ptr gi 0 0])::(os.length+3,.var [.ref (os.length+2) 1 0 k])::oY os) (os.length+2) (aK k (0,[])) (os++[.var [.ptr gi 0 0],.arr 1 (ints (nF k)),.arr 1 (aK k [.lit (.slice none 0 0)]),.var [.ref (os.length+2) 1 0 k]]):=by
   have h1:=LR.start (F:=(os.length+1,Ob.arr 1 (ints (nF k)))::(os.length,Ob.var [.ptr gi 0 0])::oY os) (ob:=os++[.var [.ptr gi 0 0],.arr 1 (ints (nF k))]) (N:=k) (λp hp=>by
    rcases bw.1 hp with rfl|hp
    ·rw[kP];rfl
    rcases bw.1 hp with rfl|hp
    ·exact kl _ _ _
    ·exact aN (Ad.1 hp) _)
   have h2:=LR.more h1 (l:=[Ob.var [.ref (os.length+2) 1 0 k]]) (F':=(os.length+1,Ob.arr 1 (ints (nF k)))::(os.length,Ob.var [.ptr gi 0 0])::(os.length+3,.var [.ref (os.length+2) 1 0 k])::oY os) (λp hp=>by
    rcases bw.1 hp with rfl|hp
    ·exact .inl GM
    rcases bw.1 hp with rfl|hp
    ·exact .inl GM
    rcases bw.1 hp with rfl|hp
    ·exact .inr ⟨0,GM,rfl⟩
    ·exact .inl (by simp[hp]))
   simpa [bE] using h2
  have qy:lq m round 0=(nF k,aK k []):=by rw[lq,On];rfl
  have zt:(aK k ((0:Nat),([]:List Int))).map (·.2)=aK k []:=by rw[List.map_replicate]
  refine aR (λz:Nat×List (Nat×List Int)×List Ob=>(⟨ao [(1,Qf round),(2,.ptr os.length 0 0),(4,Qf m.ae.length),(5,.ref (os.length+1) 1 0 k),(7,.ptr (os.length+3) 0 0),(44,Qf m.ae.length),(45,Qf z.1)],z.2.2⟩:St))
   (λz=>z.1<=m.ae.length/\LR ((os.length+1,Ob.arr 1 (ints (lq m round z.1).1))::(os.length,Ob.var [.ptr gi 0 0])::(os.length+3,.var [.ref (os.length+2) 1 0 k])::oY os) (os.length+2) z.2.1 z.2.2/\z.2.1.map (·.2)=(lq m round z.1).2/\os.length+4<=z.2.2.length)
   (λz=>m.ae.length-z.1) (0,aK k (0,[]),os++[.var [.ptr gi 0 0],.arr 1 (ints (nF k)),.arr 1 (aK k [.lit (.slice none 0 0)]),.var [.ref (os.length+2) 1 0 k]]) ⟨aS _,by dsimp only;rw[qy];exact hLR,by dsimp only;rw[qy];exact zt,GM⟩ (Xv X0) ?_
  clear hLR zt qy cD hk bg ht;rintro⟨j,Q,ob⟩⟨hj,hL,hQ,bP⟩Ql ak aq;dsimp only at hj hL hQ bP ⊢;by_cases fe:j<m.ae.length
  ·have hp:(j+round)%m.ae.length<m.ae.length:=Nat.mod_lt _ GK;have gk:((j:Int)+(round:Int)).tmod (m.ae.length:Int)=(((j+round)%m.ae.length:Nat):Int):=by rw[Int.tmod_eq_emod_of_nonneg GK];push_cast;rfl
   obtain⟨dO,q1,q2,q3,q4,q5⟩:=Ae hm hp;obtain⟨vH,re⟩:=Jn (m:=m) round j;have hvs:lq m round (j+1)=Di m (lq m round j) ((j+round)%m.ae.length):=rfl;have fA:=hL.fx (os.length,Ob.var [.ptr gi 0 0]) GM;have fT:=hL.fx (os.length+1,Ob.arr 1 (ints (lq m round j).1)) GM;have fB:=hL.fx (os.length+3,Ob.var [.ref (os.length+2) 1 0 k]) GM;have Jo:∀ i o,os[i]?=some o->ob[i]?=some o:=λi o hi=>hL.fx (i,o) (dR _ (dR _ (dR _ (Ad.2 hi))));have fg:=Jo _ _ fv;dsimp only at fA fT fB;generalize (j+round)%m.ae.length=p at *;generalize dV:lq m round j=st at *;have fR:m.ae.getD p default=cS m p:=rfl;have e1:(cS m p).fst=((aE m p 0:Nat):Int):=by show _=((cS m p).fst.toNat:Int);omega
   have e2:(cS m p).snd=((aE m p 1:Nat):Int):=by show _=((cS m p).snd.toNat:Int);omega
   have ha:aE m p 0<k:=by have:(cS m p).fst.toNat=aE m p 0:=rfl;omega
   have hb:aE m p 1<k:=by have:(cS m p).snd.toNat=aE m p 1:=rfl;omega
   repeat'(first|((fail_if_success (first|refine eM 14 ?_|refine eN 14 ?_));refine Xr (X5 @fA @fT @fg @an.eq_1 (X5 @aI.eq_1 @gk @fR @e1 @e2)) ?_;intro K hK)|refine Xo (X5 @fA @fT @fg @an.eq_1 (X5 @aI.eq_1 @gk @fR @e1 @e2)) ?_|(refine hK _ ?_;clear hK K)|(refine Xg (X5 @fA @fT @fg @an.eq_1 (X5 @aI.eq_1 @gk @fR @e1 @e2)) ?_ ?_<;>try intro hb)|(refine Xi ?_ ?_<;>try intro ht)|refine Xy ?_|refine Xd ?_ ?_|exact Xx|fail)
   have iQ:lq m round (j+1)=if st.1.getD (aE m p 0) 0=st.1.getD (aE m p 1) 0 then st else(nD st.1 (aE m p 0) (st.1.getD (aE m p 1) 0) st.1.length,(st.2.set (aE m p 0) (st.2.getD (aE m p 0) default++[(p:Int)])).set (aE m p 1) (st.2.getD (aE m p 1) default++[(p:Int)])):=hvs;generalize aE m p 1=b at *;generalize aE m p 0=a at *;have yK:st.1.length=k:=GK;by_cases ju:st.1.getD a 0=st.1.getD b 0
   ·rw[if_pos ju]at iQ;((try revert hK K);(repeat'(first|refine Va (X3 @fT @yK @ju) ?_|(refine V2 (X3 @fT @yK @ju) ?_ ?_<;>try with_reducible intro hb)|(refine Xi ?_ ?_<;>try intro ht)|refine VD ?_ ?_|exact Xx|fail))<;>try with_reducible intro K hK)
    all_goals try(exfalso;omega)
    exact ak _ (j+1,Q,ob) ⟨PW,by dsimp only;rw[iQ];exact hL,by dsimp only;rw[iQ];exact hQ,bP⟩ PW (Xv X0)
   ·rw[if_neg ju]at iQ;((try revert hK K);(repeat'(first|refine Va (X2 @fT @yK) ?_|(refine V2 (X2 @fT @yK) ?_ ?_<;>try with_reducible intro hb)|(refine Xi ?_ ?_<;>try intro ht)|refine VD ?_ ?_|exact Xx|fail))<;>try with_reducible intro K hK)
    all_goals try(exfalso;omega)
    have sT:=λy:Ob=>mR (y:=y) fT;have bf:=Jp st.1 a (st.1.getD b 0) ju;have rq:=Jq st.1 a (st.1.getD b 0);have ht0:nD st.1 a (st.1.getD b 0) 0=st.1:=rfl;have ez:∀ i,nD st.1 a (st.1.getD b 0) (i+1)=_:=λi=>nD.eq_2 ..;have mU:=λy=>hL.head FZ (y:=y);refine aR (λi:Nat=>(⟨ao [(1,Qf round),(2,.ptr os.length 0 0),(4,Qf m.ae.length),(5,.ref (os.length+1) 1 0 k),(7,.ptr (os.length+3) 0 0),(9,Qf p),(10,Qf a),(11,Qf b),(12,Qf (st.1.getD b 0)),(44,Qf m.ae.length),(45,Qf j),(84,.ref (os.length+1) 1 0 k),(85,Qf k),(86,Qf i)],ob.set (os.length+1) (.arr 1 (ints (nD st.1 a (st.1.getD b 0) i)))⟩:St))
     (λi=>i<=k) (λi=>k-i) 0 (aS _) ?_ ?_
    ·rw[ht0,akH fT];exact Xv X0
    rintro i hi cJ bj br;have fD:=bf i;have lZ:=rq i;by_cases ar:i<k
    ·have Jr:=ez i;generalize hu1:nD st.1 a (st.1.getD b 0) (i+1)=u1 at *;generalize nD st.1 a (st.1.getD b 0) i=u at *;generalize st.1.getD b 0=eA at *;by_cases jn:u.getD i 0=eA
     ·rw[if_pos jn]at Jr;((try revert hK K);(repeat'(first|refine Va (X5 @sT @lZ @yK @jn @wD.{0}) ?_|(refine V2 (X5 @sT @lZ @yK @jn @wD.{0}) ?_ ?_<;>try with_reducible intro hb)|(refine Xi ?_ ?_<;>try intro ht)|refine VD ?_ ?_|exact Xx|fail))<;>try with_reducible intro K hK)
      all_goals try(exfalso;omega)
      exact bj _ (i+1) GK GK (by rw[hu1,Jr];exact Xv X0)
     ·rw[if_neg jn]at Jr;((try revert hK K);(repeat'(first|refine Va (X4 @sT @lZ @yK @wD.{0}) ?_|(refine V2 (X4 @sT @lZ @yK @wD.{0}) ?_ ?_<;>try with_reducible intro hb)|(refine Xi ?_ ?_<;>try intro ht)|refine VD ?_ ?_|exact Xx|fail))<;>try with_reducible intro K hK)
      all_goals try(exfalso;omega)
      exact bj _ (i+1) GK GK (by rw[hu1,Jr];exact Xv X0)
    ·obtain rfl:i=k:=GK;((try revert hK K);(repeat'(first|refine Va X0 ?_|(refine V2 X0 ?_ ?_<;>try with_reducible intro hb)|(refine Xi ?_ ?_<;>try intro ht)|refine VD ?_ ?_|exact Xx|fail))<;>try with_reducible intro K hK)
     refine br _ _ rfl ?_;clear bj br cJ;repeat(first|refine Xu ?_)
     have mV:=mU (.arr 1 (ints (nD st.1 a (st.1.getD b 0) i)));clear mU sT ez ht0 bf;rw[yK]at iQ;generalize nD st.1 a (st.1.getD b 0) i=tt at *;generalize akI:ob.set (os.length+1) (.arr 1 (ints tt))=kT at *;have apm:os.length+4<=kT.length:=by rw[<- akI,bJ];exact bP
     have Oo:Q.length=i:=by have:=congrArg jB hQ;simp at this;omega
     refine Js (λs=>∃ Q2 o2,LR ((os.length+1,Ob.arr 1 (ints tt))::(os.length,Ob.var [.ptr gi 0 0])::(os.length+3,.var [.ref (os.length+2) 1 0 i])::oY os) (os.length+2) Q2 o2/\Q2.map (·.2)=(lq m round (j+1)).2/\os.length+4<=o2.length /\
      aH os.length s ⟨ao [(1,Qf round),(2,.ptr os.length 0 0),(4,Qf m.ae.length),(5,.ref (os.length+1) 1 0 i),(7,.ptr (os.length+3) 0 0),(44,Qf m.ae.length),(45,Qf j)],o2⟩) ?_ ?_
     ·rintro s ⟨Q2,o2,h1,h2,h3,h4⟩;repeat(first|refine Xu ?_)
      refine cL h4 ?_;((try revert hK K);(repeat'(first|refine Va X0 ?_|(refine V2 X0 ?_ ?_<;>try with_reducible intro hb)|(refine Xi ?_ ?_<;>try intro ht)|refine VD ?_ ?_|exact Xx|fail))<;>try with_reducible intro K hK)
      exact ak _ (j+1,Q2,o2) ⟨PW,by dsimp only;rw[iQ];exact h1,h2,h3⟩ PW (Xv X0)
     intro QQ key;clear ak aq;have g7:=aN (mV.fx (os.length+3,Ob.var [.ref (os.length+2) 1 0 i]) GM);have gL:=aN mV.ls;have hra:(rowsOf lS Q)[a]?=some [uP (Q.getD a default)]:=by rw[Jt GK,Oq]
     have E':(rowsOf lS Q)[b]?=some [uP (Q.getD b default)]:=by rw[Jt GK,Oq]
     have Dg:st.2.getD a default=(Q.getD a default).2:=by rw[<- hQ,Ot GK]
     have hgb:st.2.getD b default=(Q.getD b default).2:=by rw[<- hQ,Ot GK]
     have ca:=mV.cell (show a<Q.length by omega);have cb:=mV.cell (show b<Q.length by omega);have yl:=λ(fin:List Ob) (pa pb:Nat)=>mV.akK (show a<Q.length by omega) (show b<Q.length by omega) (λe=>ju (by rw[e])) (n:=(p:Int)) (fin:=fin) (pa:=pa) (pb:=pb);have d3:=λc hc hn=>mV.tA (os.length+3,Ob.var [.ref (os.length+2) 1 0 i]) GM |>.2 c hc hn;have r2:=λc hc hn=>(mV.row c hc hn).2;have qa:BK [os.length+2,os.length+3] (uP (Q.getD a default))=True:=abx λhn hm=>by
      rcases bw.1 hm with e|hm
      ·exact r2 a GK hn e
      ·exact d3 a GK hn (cV.1 hm).symm
     have qb:BK [os.length+2,os.length+3] (uP (Q.getD b default))=True:=abx λhn hm=>by
      rcases bw.1 hm with e|hm
      ·exact r2 b GK hn e
      ·exact d3 b GK hn (cV.1 hm).symm
     rw[Dg,hgb]at iQ;have I9:(Q.getD a default).2.length<4001:=by
      have:=(Ju (m:=m) round j a).1;rw[dV,Dg]at this;omega
     have z':(Q.getD b default).2.length<4001:=by
      have:=(Ju (m:=m) round j b).1;rw[dV,hgb]at this;omega
     have n7:∀ c,c<Q.length->(Q.getD c default).2≠[]->os.length+3≠(Q.getD c default).1:=d3;have n8:∀ c,c<Q.length->(Q.getD c default).2≠[]->os.length+2≠(Q.getD c default).1:=λc hc hn=>Ne.symm (r2 c hc hn);have cb2:(Q.getD b default).2≠[]->(qO (Q.getD a default) kT)[(Q.getD b default).1]?=some (.arr 1 (ints (Q.getD b default).2)):=λhn=>BL (cb hn) λET e=>ju (by rw[mV.inj b a GK GK hn ET e]);have f7:=mV.fx (os.length+3,Ob.var [.ref (os.length+2) 1 0 i]) GM;have fL:=mV.ls;have f7a:=BL f7 (n7 a GK);have f7b:=BL f7a (n7 b GK);have fLa:=BL fL (n8 a GK);have F1:=BL fLa (n8 b GK);have FQ:=λ(k:Nat) (o:Ob) (h1:kT[k]?=some o) (h2:(Q.getD a default).2≠[]->k≠(Q.getD a default).1) (h3:(Q.getD b default).2≠[]->k≠(Q.getD b default).1)=>BL (BL h1 h2) h3;have dA:=abB ca;have dB:=abB cb2;have l2:=abC (Q.getD a default) kT;have l3:=(abC (Q.getD b default) (qO (Q.getD a default) kT)).trans l2;have hes:=λpa=>abD Q a pa (Q.getD a default).2 (p:Int);have akN:=λpa pb=>abD (Q.set a (pa,(Q.getD a default).2++[(p:Int)])) b pb (Q.getD b default).2 (p:Int);have akO:∀ pa,(rowsOf lS (Q.set a (pa,(Q.getD a default).2++[(p:Int)])))[b]?=some [uP (Q.getD b default)]:=λpa=>by
      rw[Jt P2,Ou _ _ _ _ GK,if_neg (λe=>ju (by rw[e])),Oq]
     have hFm:∀ q,os.length<=q->q=os.length+2->True:=λ_ _ _=>trivial;generalize Q.getD a default=A0 at *;generalize Q.getD b default=B0 at *;generalize hX3:qO B0 (qO A0 kT)=X3 at *;generalize qO A0 kT=X2 at *;have vG:(os.length+2∈[os.length+2,os.length+3])=True:=GM;have Oi:(os.length+3∈[os.length+2,os.length+3])=True:=GM;have hQr:(rowsOf lS Q).length=i:=by rw[cH];exact Oo
     have e2:=λl k=>Af l2 l k;have e3:=λl k=>Af l3 l k;have e20:=λx l=>Jv l2 x l;have e30:=λx l=>Jv l3 x l;have s3:=iy F1;have s4:=λy=>iy (mR (y:=y) F1);have s5:=λy=>aN (mR (y:=y) F1);have s7:=λy=>aN (fJ (y:=y) f7b (show os.length+2≠os.length+3 by omega));have f7l:=aN f7;have akT:=aN f7a;have akU:=aN f7b;have fLl:=aN fL;have akW:=aN fLa;have akX:=aN F1;have lv:∀ (s:St) (c:Nat) (l:List Ob),c=1\/c=2->l.length=4->l[c]?=some (.arr 1 (ints (A0.2++[(p:Int)])))->l[3]?=some (.arr 1 (ints (B0.2++[(p:Int)]))) ->
       aH os.length s ⟨ao [(1,Qf round),(2,.ptr os.length 0 0),(4,Qf m.ae.length),(5,.ref (os.length+1) 1 0 i),(7,.ptr (os.length+3) 0 0),(44,Qf m.ae.length),(45,Qf j)],(X3.set (os.length+2) (.arr 1 (rowsOf lS (Q.set a (kT.length+c,A0.2++[(p:Int)]))))).set (os.length+2) (.arr 1 (rowsOf lS ((Q.set a (kT.length+c,A0.2++[(p:Int)])).set b (kT.length+3,B0.2++[(p:Int)]))))++l⟩->QQ .normal s:=λs c l hc hl h1 h2 ht=>by
      refine key _ ⟨_,_,yl _ (kT.length+c) (kT.length+3) GK GK GK (λq o e1 e2 e3 e4=>aN (fJ (fJ (FQ q o e1 e3 e4) (Ne.symm e2)) (Ne.symm e2)) _) (aN (mR (mR F1)) _) ?_ ?_,?_,?_,ht⟩
      ·rw[Af (by simp[l3])];exact h1
      ·rw[Af (by simp[l3])];exact h2
      ·rw[iQ,sr,sr,hQ]
      ·simp[l3];omega
     refine abE [os.length+2,os.length+3] [] [10,17] (.take 0 (.take 1 (.take 3 (.take 4 (.take 5 (.take 6 (.take 7 (.take 8 (.take 11 (.take 12 (.take 13 (.take 14 (.take 15 (.three 2 (.both 9 (.both 10 (.take 16 (.take 17 (.take 18 (.take 19 (.take 20 (.take 21 .nil)))))) 16 (.take 10 (.take 17 (.take 18 (.take 19 (.take 20 (.take 21 .nil))))))) 16 (.take 9 (.take 10 (.take 17 (.take 18 (.take 19 (.take 20 (.take 21 .nil)))))))) 9 (.three 2 (.both 10 (.take 16 (.take 17 (.take 18 (.take 19 (.take 20 (.take 21 .nil)))))) 16 (.take 10 (.take 17 (.take 18 (.take 19 (.take 20 (.take 21 .nil))))))) 10 (.both 2 (.take 16 (.take 17 (.take 18 (.take 19 (.take 20 (.take 21 .nil)))))) 16 (.both 2 (.take 17 (.take 18 (.take 19 (.take 20 (.take 21 .nil))))) 17 (.take 18 (.both 2 (.take 19 (.take 20 (.take 21 .nil))) 19 (.take 2 (.take 20 (.take 21 .nil))))))) 16 (.both 2 (.take 10 (.take 17 (.take 18 (.take 19 (.take 20 (.take 21 .nil)))))) 10 (.both 2 (.take 17 (.take 18 (.take 19 (.take 20 (.take 21 .nil))))) 17 (.take 18 (.both 2 (.take 19 (.take 20 (.take 21 .nil))) 19 (.take 2 (.take 20 (.take 21 .nil)))))))) 16 (.both 2 (.take 9 (.take 10 (.take 17 (.take 18 (.take 19 (.take 20 (.take 21 .nil))))))) 9 (.both 2 (.take 10 (.take 17 (.take 18 (.take 19 (.take 20 (.take 21 .nil)))))) 10 (.both 2 (.take 17 (.take 18 (.take 19 (.take 20 (.take 21 .nil))))) 17 (.take 18 (.both 2 (.take 19 (.take 20 (.take 21 .nil))) 19 (.take 2 (.take 20 (.take 21 .nil)))))))))))))))))))))) rfl GS (by decide +kernel) ?_;simp(disch:=omega)only[Ac,↓Pc,simprocAttr,Ra,jy,vG,Oi,f7,fL,f7l,akT,akU,fLl,akW,akX,hra,E',akO,hes,akN,qa,qb,↓dA,↓dB,l2,l3,e2,e3,e20,e30,s3,s4,s5,s7,hQr,bH,bE,bO];repeat'(first|with_reducible refine c6 ?_ ?_|omega|with_reducible rfl|(intro id bX;simp only[bw,iM,or_false]at bX;omega))
     all_goals first
      | (refine lv _ 1 [.arr 1 [[Qf p]],.arr 1 (ints (A0.2++[(p:Int)])),.arr 1 [[Qf p]],.arr 1 (ints (B0.2++[(p:Int)]))] (.inl rfl) rfl rfl rfl ?_;exact Xv X0;done)
      | (refine lv _ 2 [.arr 1 [[Qf p]],.arr 1 [[Qf p]],.arr 1 (ints (A0.2++[(p:Int)])),.arr 1 (ints (B0.2++[(p:Int)]))] (.inr rfl) rfl rfl rfl ?_;exact Xv X0;done)
      |skip
  ·obtain rfl:j=m.ae.length:=GK;((try revert hK K);(repeat'(first|refine Va X0 ?_|(refine V2 X0 ?_ ?_<;>try with_reducible intro hb)|(refine Xi ?_ ?_<;>try intro ht)|refine VD ?_ ?_|exact Xx|fail))<;>try with_reducible intro K hK)
   refine aq _ _ rfl ?_;clear ak aq Ql;repeat(first|refine Xu ?_)
   have fA:=hL.fx (os.length,Ob.var [.ptr gi 0 0]) GM;have fT:=hL.fx (os.length+1,Ob.arr 1 (ints (lq m round m.ae.length).1)) GM;have fB:=hL.fx (os.length+3,Ob.var [.ref (os.length+2) 1 0 k]) GM;have Jo:∀ i o,os[i]?=some o->ob[i]?=some o:=λi o hi=>hL.fx (i,o) (dR _ (dR _ (dR _ (Ad.2 hi))));dsimp only at fA fT fB;obtain⟨vH,re⟩:=Jn (m:=m) round m.ae.length;have akY:=Ju (m:=m) round m.ae.length;have Ov:qE m can W round=(mS m can (lq m round m.ae.length).2 (W,aK m.cls.length false) m.cls.length).1:=rfl;rw[Ov];generalize lq m round m.ae.length=st at *;have yL:=aN fT;have iK:st.1.length=k:=GK;repeat'(first|((fail_if_success (first|refine eM 27 ?_|refine eN 27 ?_));refine Xr (X5 @fT @yL @bH @bE.{0} (X3 @F3 @iK @Cv)) ?_;intro K hK)|refine Xo (X5 @fT @yL @bH @bE.{0} (X3 @F3 @iK @Cv)) ?_|(refine hK _ ?_;clear hK K)|(refine Xg (X5 @fT @yL @bH @bE.{0} (X3 @F3 @iK @Cv)) ?_ ?_<;>try intro hb)|(refine Xi ?_ ?_<;>try intro ht)|refine Xy ?_|refine Xd ?_ ?_|exact Xx|fail)
   have F4:=hL.app [.arr 1 (a8 (aK k false)),.var [.ref ob.length 1 0 k],.var [.fn 70 [.ptr (ob.length+1) 0 0,.ptr (os.length+3) 0 0,.ptr os.length 0 0,.ptr (ob.length+2) 0 0]]];have Oo:Q.length=k:=by have:=congrArg jB hQ;simp at this;omega
   refine cL (σ':=⟨ao [(15,.ptr (ob.length+1) 0 0),(16,.ptr (ob.length+2) 0 0)],ob++[.arr 1 (a8 (aK k false)),.var [.ref ob.length 1 0 k],.var [.fn 70 [.ptr (ob.length+1) 0 0,.ptr (os.length+3) 0 0,.ptr os.length 0 0,.ptr (ob.length+2) 0 0]]]⟩) (Xv X0) ?_;generalize Dy:ob++[Ob.arr 1 (a8 (aK k false)),.var [.ref ob.length 1 0 k],.var [.fn 70 [.ptr (ob.length+1) 0 0,.ptr (os.length+3) 0 0,.ptr os.length 0 0,.ptr (ob.length+2) 0 0]]]=pW at *;have Jw:=F4.fx (os.length+3,Ob.var [.ref (os.length+2) 1 0 k]) GM;have xD:=λi (hi:i∈oB (os.length+2) Q)=>F4.at_ hi;have Jx:=λi (hi:i∈oB (os.length+2) Q)=>hL.lt hi;have n0:os.length ∉ oB (os.length+2) Q:=λhi=>xD _ hi (os.length,Ob.var [.ptr gi 0 0]) GM rfl;have n3:os.length+3 ∉ oB (os.length+2) Q:=λhi=>xD _ hi (os.length+3,Ob.var [.ref (os.length+2) 1 0 k]) GM rfl;have abF:∀ i o,os[i]?=some o->i ∉ oB (os.length+2) Q:=λi o ho hi=>xD _ hi (i,o) (dR _ (dR _ (dR _ (Ad.2 ho)))) rfl;have p0:pW[os.length]?=some (.var [.ptr gi 0 0]):=by rw[<- Dy];exact aN fA _
   have abG:∀ i o,os[i]?=some o->pW[i]?=some o:=λi o hi=>by rw[<- Dy];exact aN (Jo i o hi) _
   have b0:pW[ob.length]?=some (.arr 1 (a8 (aK k false))):=by rw[<- Dy];exact kl _ _ _
   have b1:pW[ob.length+1]?=some (.var [.ref ob.length 1 0 k]):=by rw[<- Dy,kP];rfl
   have b2:pW[ob.length+2]?=some (.var [.fn 70 [.ptr (ob.length+1) 0 0,.ptr (os.length+3) 0 0,.ptr os.length 0 0,.ptr (ob.length+2) 0 0]]):=by rw[<- Dy,kP];rfl
   have l4:pW.length=ob.length+3:=by rw[<- Dy];simp
   refine cL (aH.akZ (os.length+3) 0 (λi=>i ∉ oB (os.length+2) Q) (v:=.tree 1 (fM (Q.map (·.2))))
    (os2:=v8 (oB (os.length+2) Q) (pW.set (os.length+3) (.var [.tree 1 (fM (Q.map (·.2)))]))) Jw rfl n3 (by rw[abH,bJ]) (λi o ho=>?_) ?_) ?_
   ·dsimp only at ho;have hx:∀ y,(pW.set (os.length+3) y)[i]?=some (if i=os.length+3 then y else o):=λy=>by
     by_cases e:i=os.length+3
     ·subst e;rw[if_pos rfl];exact mR Jw
     ·rw[if_neg e];exact fJ ho (Ne.symm e)
    by_cases hi:i∈oB (os.length+2) Q
    ·exact .inr ⟨λhn=>hn hi,by rw[Ow (hx _),if_pos hi]⟩
    ·exact .inl ⟨hi,by rw[Ow (hx _),if_neg hi];rfl⟩
   ·have:=ak0 F4.ls F4.row (ao [(15,.ptr (ob.length+1) 0 0),(16,.ptr (ob.length+2) 0 0)]);rw[Oo]at this;exact this
   dsimp only;have k5:∀ i o,pW[i]?=some o->i≠os.length+3->i ∉ oB (os.length+2) Q ->
     (v8 (oB (os.length+2) Q) (pW.set (os.length+3) (.var [.tree 1 (fM (Q.map (·.2)))])))[i]?=some o:=λi o ho h1 h2=>Ox (fJ ho (Ne.symm h1)) h2
   have k6:(v8 (oB (os.length+2) Q) (pW.set (os.length+3) (.var [.tree 1 (fM (Q.map (·.2)))])))[os.length+3]?=some (.var [.tree 1 (fM (Q.map (·.2)))]):=Ox (mR Jw) n3;have k7:(v8 (oB (os.length+2) Q) (pW.set (os.length+3) (.var [.tree 1 (fM (Q.map (·.2)))]))).length=ob.length+3:=by rw[abH,bJ];exact l4
   generalize v8 (oB (os.length+2) Q) (pW.set (os.length+3) (.var [.tree 1 (fM (Q.map (·.2)))]))=F5 at *;have x0:=k5 os.length _ p0 GK n0;have xa:=k5 ob.length _ b0 GK (λhi=>by have:=Jx _ hi;omega);have xs:=k5 (ob.length+1) _ b1 GK (λhi=>by have:=Jx _ hi;omega);have xu:=k5 (ob.length+2) _ b2 GK (λhi=>by have:=Jx _ hi;omega);have Oy:∀ i o,os[i]?=some o->F5[i]?=some o:=λi o hi=>k5 i o (abG i o hi) (by have:=iY hi;omega) (abF i o hi);have Jy:UF 70 gi (ob.length+1) ob.length (os.length+3) os.length (ob.length+2) st.2 (aK k false) F5:=⟨by rw[lE];exact xs,xa,by rw[<- hQ];exact k6,x0,xu⟩;have hW5:=h.pre (ob:=F5) GK Oy;have hK5:Kp mi ((ob.length,0)::D) E os F5:=⟨GK,λi o _ _ hi=>Oy i o hi⟩;have Oz:=iY h.mp;have uO:=iY h.v;have lI:=iY h.a;have yH:=iY h.b;have hUN:UN gi ai bi mi D E (ob.length+1) ob.length (os.length+3) os.length (ob.length+2):=⟨λi hi=>⟨GK,λhm=>by have:=h.lt i hm;omega⟩,GK,GK,GK,GK,GK,GK,GK⟩;clear k5 k6 k7 x0 xa xs xu Oy p0 abG b0 b1 b2 xD Jx n0 n3 abF Jw F4 hL fA fT fB yL Jo;have hlA:∀ c,(mS m can st.2 (W,aK k false) c).2.length=k->True:=λ_ _=>trivial;have yH:st.2.length=m.cls.length:=GK;have qo:∀ c,c<m.cls.length->(st.2.getD c default).length<9223372036854775808/\∀ x∈st.2.getD c default,0<=x/\x<m.ae.length:=λc hc=>by
    obtain⟨i1,i2⟩:=akY c;refine⟨GK,λx hx=>⟨(i2 x hx).1,(i2 x hx).2 ?_⟩⟩;rcases Nat.eq_zero_or_pos m.ae.length with h0|h0
    ·rw[h0]at i1;rw[List.length_eq_zero_iff.1 (Nat.le_zero.1 i1)]at hx;cases hx
    ·exact h0
   have OA:mS m can st.2 (W,aK k false) 0=(W,aK k false):=rfl;have hAs:∀ c,mS m can st.2 (W,aK k false) (c+1)=if(mS m can st.2 (W,aK k false) c).2.getD c false=true then mS m can st.2 (W,aK k false) c else jm m can st.2 (m.cls.length+1) (mS m can st.2 (W,aK k false) c) c:=λc=>rfl;have gv:nT (aK k false)=0:=by unfold nT;simp[List.count_replicate]
   rw[On];have xs:=Jy.s;have xa:=Jy.a;((try revert hK K);(repeat'(first|refine Va (X3 @xs @xa @lE.{0}) ?_|(refine V2 (X3 @xs @xa @lE.{0}) ?_ ?_<;>try with_reducible intro hb)|(refine Xi ?_ ?_<;>try intro ht)|refine VD ?_ ?_|exact Xx|fail))<;>try with_reducible intro K hK)
   refine aR (λz:Nat×List Ob=>(⟨ao [(15,.ptr (ob.length+1) 0 0),(16,.ptr (ob.length+2) 0 0),(128,Qf k),(129,Qf z.1)],z.2⟩:St))
    (λz=>z.1<=k/\WF m can gi ai bi mi D E (mS m can st.2 (W,aK k false) z.1).1 z.2/\UF 70 gi (ob.length+1) ob.length (os.length+3) os.length (ob.length+2) st.2 (mS m can st.2 (W,aK k false) z.1).2 z.2/\Kp mi ((ob.length,0)::D) E os z.2/\(mS m can st.2 (W,aK k false) z.1).2.length=k/\nG m (mS m can st.2 (W,aK k false) z.1).1/\WB (B+618475290624*(nT (mS m can st.2 (W,aK k false) z.1).2:Nat)) (mS m can st.2 (W,aK k false) z.1).1)
    (λz=>k-z.1) (0,F5) ⟨aS _,hW5,Jy,hK5,by dsimp only;rw[OA];simp,hs,by dsimp only;rw[OA];dsimp only;rw[gv];exact hW.mono GK⟩ (Xv X0) ?_
   (try clear gv;clear hW5 Jy hK5 OA xs xa)
   rintro⟨c,o6⟩⟨hc,h1,h2,h3,h4,h5,h6⟩Ql ak aq;dsimp only at hc h1 h2 h3 h4 h5 h6 ⊢;by_cases fY:c<k
   ·have uQ:=hAs c;generalize tx:mS m can st.2 (W,aK k false) (c+1)=r1 at *;generalize mS m can st.2 (W,aK k false) c=r0 at *;have fs:=h2.s;have fa:=h2.a;have fu:=h2.u;by_cases fc:r0.2.getD c false=true
    ·rw[if_pos fc]at uQ;((try revert hK K);(repeat'(first|refine Va (X4 @fs @fa @fc @h4) ?_|(refine V2 (X4 @fs @fa @fc @h4) ?_ ?_<;>try with_reducible intro hb)|(refine Xi ?_ ?_<;>try intro ht)|refine VD ?_ ?_|exact Xx|fail))<;>try with_reducible intro K hK)
     all_goals try(exfalso;omega)
     exact ak _ (c+1,o6) ⟨PW,by dsimp only;rw[tx,uQ];exact h1,by dsimp only;rw[tx,uQ];exact h2,h3,by dsimp only;rw[tx,uQ];exact h4,by dsimp only;rw[tx,uQ];exact h5,by dsimp only;rw[tx,uQ];exact h6⟩ PW (Xv X0)
    ·rw[if_neg fc]at uQ;have xF:r0.2.getD c false=false:=by simpa using fc
     have oP:=ak3 hm hf hUN yH qo (m.cls.length+1) r0 c o6 B GK GK xF GK h1 h2 h5 GK GK h6;repeat'(first|((fail_if_success (first|refine eM 31 ?_|refine eN 31 ?_));refine Xr (X4 @fs @fa @xF @h4) ?_;intro K hK)|refine Xo (X4 @fs @fa @xF @h4) ?_|(refine hK _ ?_;clear hK K)|(refine Xg (X4 @fs @fa @xF @h4) ?_ ?_<;>try intro hb)|(refine Xi ?_ ?_<;>try intro ht)|refine Xy ?_|refine Xd ?_ ?_|exact Xx|fail)
     all_goals try(exfalso;omega)
     refine oa 2 GS _ rfl ?_;intro K hK;simp(disch:=omega)only[Ac,↓Pc,simprocAttr,ja,List.drop,fu,F3];repeat'(first|with_reducible refine c6 ?_ ?_|omega|with_reducible rfl)
     refine⟨rfl,(show j1 Tryz.prog 70 [Qf c,.ptr (ob.length+1) 0 0,.ptr (os.length+3) 0 0,.ptr os.length 0 0,.ptr (ob.length+2) 0 0] (some 139) _ _ from ?_)⟩;refine rS oP ?_;rintro r o7⟨rfl,g1,g2,g3,g4⟩;refine⟨g3.len,?_⟩;simp(disch:=omega)only[Ac,↓Pc,simprocAttr,List.drop];refine hK _ ?_;clear hK K;repeat(first|refine Xu ?_)
     ((try revert hK K);(repeat'(first|refine Va X0 ?_|(refine V2 X0 ?_ ?_<;>try with_reducible intro hb)|(refine Xi ?_ ?_<;>try intro ht)|refine VD ?_ ?_|exact Xx|fail))<;>try with_reducible intro K hK)
     exact ak _ (c+1,o7) ⟨PW,by dsimp only;rw[tx,uQ];exact g1,by dsimp only;rw[tx,uQ];exact g2,h3.trans g3,by dsimp only;rw[tx,uQ];exact g4.len.trans On,by dsimp only;rw[tx,uQ];exact g4.sh,by dsimp only;rw[tx,uQ];exact g4.wb.mono GK⟩ PW (Xv X0)
   ·obtain rfl:c=k:=GK;((try revert hK K);(repeat'(first|refine Va X0 ?_|(refine V2 X0 ?_ ?_<;>try with_reducible intro hb)|(refine Xi ?_ ?_<;>try intro ht)|refine VD ?_ ?_|exact Xx|fail))<;>try with_reducible intro K hK)
    refine aq _ _ rfl ?_;clear ak aq Ql;repeat(first|refine Xu ?_)
    ((try revert hK K);(repeat'(first|refine Vb X0 ?_|(refine V2 X0 ?_ ?_<;>try with_reducible intro hb)|(refine Xi ?_ ?_<;>try intro ht)|refine VD ?_ ?_|exact Xx|fail))<;>try with_reducible intro K hK)
    unfold eU;simp only[dI,dE];have hnk:=OB (mS m can st.2 (W,aK c false) c).2;exact⟨.bD [],_,⟨rfl,h1,⟨h3.len,λi o e1 e2 e3=>h3.same i o e1 (λhm=>by
     rw[dx,List.map_cons]at hm;rcases bw.1 hm with e|hm
     ·have:=iY e3;dsimp only at e;omega
     ·exact e2 hm) e3⟩,h5,h6.mono GK⟩,eF rfl h3.len rfl⟩
end
section
variable {m:ah} {os:List Ob}
def ak4(hm:VM m){left:List (List Bool)}(hf:dh m left)(os:List Ob):
  cX Tryz.prog 38 [.agg (an m),.tree 1 (rowsOf aC left)] os λr ob=>∃ gi ai bi mi D E,r=.ptr gi 0 0/\WF m (eh m left m.cls.length) gi ai bi mi D E (W0 m) ob/\os.length<=ob.length/\(∀ (i:Nat) o,os[i]?=some o->ob[i]?=some o)/\os.length<=mi/\∀ i∈(D++E).map (·.1),os.length<=i:=by
 have pT:=hm.ae;have rT:=hm.cls;refine cX.aM 110 os.length [.tmp 4] Tryz.func38 ?_;((try revert hK K);(repeat'(first|refine Va (X3 @an.eq_1 @bH @bE.{0}) ?_|(refine V2 (X3 @an.eq_1 @bH @bE.{0}) ?_ ?_<;>try with_reducible intro hb)|(refine Xi ?_ ?_<;>try intro ht)|refine VD ?_ ?_|exact Xx|fail))<;>try with_reducible intro K hK)
 refine cL (σ':=⟨ao [(1,.tree 1 (rowsOf aC left)),(2,.ptr os.length 0 0),(5,.ptr (os.length+2) 0 0),(22,.tree 1 (rowsOf aW m.cls)),(23,Qf m.cls.length),(24,Qf 0)],os++[.var (an m),.mp 3 [],.var (an m++[.lit (.slice none 0 0),.lit (.slice none 0 0),.lit (.slice none 0 0),.dD (os.length+1)])]⟩) (Xv @an.eq_1) ?_;refine cL (ak5 m os _ _ _ _) ?_;refine aR (λz:Nat×List (Nat×List Int)×Nat×Nat×List Ob=>(⟨ao [(1,.tree 1 (rowsOf aC left)),(2,.ptr os.length 0 0),(5,.ptr (os.length+2) 0 0),(22,.tree 1 (rowsOf aW m.cls)),(23,Qf m.cls.length),(24,Qf z.1)],z.2.2.2.2⟩:St))
  (λz=>z.1<=m.cls.length/\FX (BW m left os z.1 z.2.1 z.2.2.1 z.2.2.2.1) z.2.2.2.2/\z.2.1.map (·.2)=(m.cls.take z.1).map b9)
  (λz=>m.cls.length-z.1) (0,[],os.length+3,os.length+4,os++[.var (an m),.mp 3 [],gW m (os.length+1) (os.length+3) (os.length+4) (os.length+5) 0 0,.arr 1 [],.arr 1 [],.arr 1 []]) ⟨aS _,BW0 m left os,GM⟩ (Xv X0) ?_
 rintro⟨c,Q,ci,oi,ob⟩⟨hc,hF,hQ⟩Ql ak aq;dsimp only at hc hF hQ ⊢;by_cases fY:c<m.cls.length
 ·have sU:=hm.opt _ (aF (l:=m.cls) (i:=c) (d:=default) fY);have l7:=hm.sW _ (aF (l:=m.cls) (i:=c) (d:=default) fY);have gR:=eu fY;have Jg:=hf.2 c (by have:=hf.1;omega);have gD:=ak7 m left c;have abK:=OC (X:=left) (c:=c) (by have:=hf.1;omega);have abL:=hf.1;generalize ij:m.cls.getD c default=l at *;generalize z6:left.getD c default=row at *;repeat'(first|((fail_if_success (first|refine eM 7 ?_|refine eN 7 ?_));refine Xr (X2 @ij @aW.eq_1) ?_;intro K hK)|refine Xo (X2 @ij @aW.eq_1) ?_|(refine hK _ ?_;clear hK K)|(refine Xg (X2 @ij @aW.eq_1) ?_ ?_<;>try intro hb)|(refine Xi ?_ ?_<;>try intro ht)|refine Xy ?_|refine Xd ?_ ?_|exact Xx|fail)
  ((try revert hK K);(repeat'(first|refine Va X0 ?_|(refine V2 X0 ?_ ?_<;>try with_reducible intro hb)|(refine Xi ?_ ?_<;>try intro ht)|refine VD ?_ ?_|exact Xx|fail))<;>try with_reducible intro K hK)
  have cD:row.length=l.length:=Jg;refine cL (aH.nil 8 1 (by simp only[Kc,simprocAttr]) GS) ?_;refine cL (aH.nil 9 1 (by simp only[Kc,simprocAttr]) GS) ?_;dsimp only;rw[bE,bO];refine aR (λz:Nat×Nat×Nat×List Ob=>(⟨ao [(1,.tree 1 (rowsOf aC left)),(2,.ptr os.length 0 0),(5,.ptr (os.length+2) 0 0),(6,Qf c),(8,.ref z.2.1 1 0 z.1),(9,.ref z.2.2.1 1 0 z.1),(22,.tree 1 (rowsOf aW m.cls)),(23,Qf m.cls.length),(24,Qf c),(29,.tree 6 (rowsOf cp l)),(30,Qf l.length),(31,Qf z.1)],z.2.2.2⟩:St))
   (λz=>z.1<=l.length/\FX ((z.2.1,.arr 1 (a8 ((gT l row).take z.1)))::(z.2.2.1,.arr 1 (ints ((b9 l).take z.1)))::BW m left os c Q ci oi) z.2.2.2)
   (λz=>l.length-z.1) (0,ob.length,ob.length+1,ob++[.arr 1 [],.arr 1 []]) ⟨aS _,?_⟩ ?_ ?_
  ·exact hF.news (N:=[(ob.length,.arr 1 []),(ob.length+1,.arr 1 [])]) (l:=[.arr 1 [],.arr 1 []]) (λp hp=>by
    simp only[bw,iM,or_false]at hp;rcases hp with rfl|rfl
    ·exact⟨0,rfl,rfl⟩
    ·exact⟨1,rfl,rfl⟩) GM
  ·exact Xv X0
  clear hF;rintro⟨k,x,y,o2⟩⟨hk,hF⟩cJ bj br;dsimp only at hk hF ⊢;by_cases bg:k<l.length
  ·have OD:=l7 _ (aF (l:=l) (i:=k) (d:=default) bg);have eJ:=EW OD;have Cz:rK (l.getD k default)=((l.getD k default).ch.map (·.2)).foldl eB 0:=rfl;have lf:(gT l row).take (k+1)=(gT l row).take k++[row.getD k false&&decide (rK (l.getD k default)<1099511627776)]:=by
    rw[eu (by simp[gT];exact bg)];congr 2;unfold gT;rw[az,bI,List.getElem?_range bg];rfl
   have Jh:(b9 l).take (k+1)=(b9 l).take k++[rK (l.getD k default)]:=by
    rw[eu (by simp[b9];exact bg)];congr 2;unfold b9;rw[az,bI,az,bF bg];rfl
   have bK:((gT l row).take k).length=k:=by rw[eY];simp[gT];omega
   have nt:((b9 l).take k).length=k:=by rw[eY];simp[b9];omega
   generalize uM:l.getD k default=o at *;have aaQ:o.ch.length<9223372036854775808:=by have h1:=UU hm.vL.1 OD;have h2:=hm.vL.2;omega
   ((try revert hK K);(repeat'(first|refine Va (X4 @uM @cp.eq_1 @bH @bE.{0}) ?_|(refine V2 (X4 @uM @cp.eq_1 @bH @bE.{0}) ?_ ?_<;>try with_reducible intro hb)|(refine Xi ?_ ?_<;>try intro ht)|refine VD ?_ ?_|exact Xx|fail))<;>try with_reducible intro K hK)
   have hci:=Ir OD;refine aR (λz:Nat×List Ob=>(⟨ao [(1,.tree 1 (rowsOf aC left)),(2,.ptr os.length 0 0),(5,.ptr (os.length+2) 0 0),(6,Qf c),(8,.ref x 1 0 k),(9,.ref y 1 0 k),(10,Qf k),(12,Qf (((o.ch.take z.1).map (·.2)).foldl eB 0)),(22,.tree 1 (rowsOf aW m.cls)),(23,Qf m.cls.length),(24,Qf c),(29,.tree 6 (rowsOf cp l)),(30,Qf l.length),(31,Qf k),(37,.tree 2 (rowsOf bd o.ch)),(38,Qf o.ch.length),(39,Qf z.1)],z.2⟩:St))
    (λz=>z.1<=o.ch.length/\FX ((x,.arr 1 (a8 ((gT l row).take k)))::(y,.arr 1 (ints ((b9 l).take k)))::BW m left os c Q ci oi) z.2)
    (λz=>o.ch.length-z.1) (0,o2++[.var (cp o)]) ⟨aS _,hF.app _⟩ (Xv (X3 @List.take_zero.{0} @List.map_nil.{0,0} @List.foldl_nil.{0,0})) ?_
   clear hF;rintro⟨q,o3⟩⟨hq,hF⟩mq gm fk;dsimp only at hq hF ⊢;have FR:bT (((o.ch.take q).map (·.2)).foldl eB 0):=E4 _ _ (λv hv=>by
    obtain⟨w,hw,rfl⟩:=List.mem_map.1 hv;exact hci w (List.mem_of_mem_take hw)) (by unfold bT;decide)
   unfold bT at FR;by_cases xn:q<o.ch.length
   ·have jr:((o.ch.take (q+1)).map (·.2)).foldl eB 0=min ((((o.ch.take q).map (·.2)).foldl eB 0)+(o.ch.getD q default).2) 1099511627776:=by
     rw[eu xn,dS,List.foldl_append];rfl
    have F6:=hci _ (aF (l:=o.ch) (i:=q) (d:=default) xn);unfold bT at F6;generalize Jz:((o.ch.take (q+1)).map (·.2)).foldl eB 0=s1 at *;generalize ((o.ch.take q).map (·.2)).foldl eB 0=s0 at *;generalize bc:o.ch.getD q default=cc at *;((try revert hK K);(repeat'(first|refine Va (X4 @bc @bd.eq_1 @bH @bE.{0}) ?_|(refine V2 (X4 @bc @bd.eq_1 @bH @bE.{0}) ?_ ?_<;>try with_reducible intro hb)|(refine Xi ?_ ?_<;>try intro ht)|refine VD ?_ ?_|exact Xx|fail))<;>try with_reducible intro K hK)
    all_goals try(exfalso;omega)
    exact gm _ (q+1,_) ⟨PW,hF.app [.var (bd cc)]⟩ PW (by dsimp only;rw[Jz,jr];exact Xv @bd.eq_1)
   ·obtain rfl:q=o.ch.length:=GK;rw[wG]at FR ⊢;((try revert hK K);(repeat'(first|refine Va X0 ?_|(refine V2 X0 ?_ ?_<;>try with_reducible intro hb)|(refine Xi ?_ ?_<;>try intro ht)|refine VD ?_ ?_|exact Xx|fail))<;>try with_reducible intro K hK)
    refine fk _ _ rfl ?_;clear gm fk mq;repeat(first|refine Xu ?_)
    rw[<- Cz]at FR ⊢;generalize FJ:rK o=sm at *;have fx:=hF.at_ (x,.arr 1 (a8 ((gT l row).take k))) GM;have fy:=hF.at_ (y,.arr 1 (ints ((b9 l).take k))) GM;have ri:x≠y:=FX.ne (P:=[]) (a:=(x,.arr 1 (a8 ((gT l row).take k)))) (b:=(y,.arr 1 (ints ((b9 l).take k)))) hF GM;dsimp only at fx fy;have fxl:=aN fx;have fyl:=aN fy;have sx:=iy fx;have JA:=fJ (y:=.gone) fy ri;have abP:=aN JA;have sy:=iy JA;have BM:=(hF.kill .gone).kill .gone;have lc:(a8 ((gT l row).take k)).length=k:=by rw[AK];exact bK
    have lo:(ints ((b9 l).take k)).length=k:=by rw[x7];exact nt
    have tc:ja k (a8 ((gT l row).take k))=a8 ((gT l row).take k):=dm GK;have to:ja k (ints ((b9 l).take k))=ints ((b9 l).take k):=dm GK;have e22:∀ l2 k2,((o3.set x .gone).set y .gone++l2)[o3.length+k2]?=l2[k2]?:=λl2 k2=>Af GM l2 k2;generalize hr9:row.getD k false=rk at *;have lv:∀ bv,bv=(rk&&decide (sm<1099511627776))->FX ((o3.length+1,.arr 1 (a8 ((gT l row).take (k+1))))::(o3.length+3,.arr 1 (ints ((b9 l).take (k+1))))::BW m left os c Q ci oi) ((o3.set x .gone).set y .gone++[.arr 1 [[.lit (.bool bv)]],.arr 1 (a8 ((gT l row).take k++[bv])),.arr 1 [[Qf sm]],.arr 1 (ints ((b9 l).take k++[sm]))]):=λbv hbv=>by
     rw[lf,Jh,<- hbv];have rR:((o3.set x .gone).set y .gone).length=o3.length:=GM;have h:=BM.news (N:=[(o3.length+1,.arr 1 (a8 ((gT l row).take k++[bv]))),(o3.length+3,.arr 1 (ints ((b9 l).take k++[sm])))]) (l:=[.arr 1 [[.lit (.bool bv)]],.arr 1 (a8 ((gT l row).take k++[bv])),.arr 1 [[Qf sm]],.arr 1 (ints ((b9 l).take k++[sm]))]) (λp hp=>by
      rw[rR];simp only[bw,iM,or_false]at hp;rcases hp with rfl|rfl
      ·exact⟨1,rfl,rfl⟩
      ·exact⟨3,rfl,rfl⟩) GM
     exact h
    ((try revert hK K);(repeat'(first|refine Va (X5 @bH @bE.{0} @bO.{0} @bJ.{0} (X5 @abK @z6 @aC.eq_1 @hr9 (X5 @fx @fxl @sx @fy (X5 @fyl @JA @abP @sy (X5 @lc @lo @tc @to (X4 @pL @e22 @Ea @Cu)))))) ?_|(refine V2 (X5 @bH @bE.{0} @bO.{0} @bJ.{0} (X5 @abK @z6 @aC.eq_1 @hr9 (X5 @fx @fxl @sx @fy (X5 @fyl @JA @abP @sy (X5 @lc @lo @tc @to (X4 @pL @e22 @Ea @Cu)))))) ?_ ?_<;>try with_reducible intro hb)|(refine Xi ?_ ?_<;>try intro ht)|refine VD ?_ ?_|exact Xx|fail))<;>try with_reducible intro K hK)
    all_goals first
     |exact bj _ (k+1,o3.length+1,o3.length+3,_) ⟨PW,lv (decide (sm<1099511627776)) (by simp[*])⟩ PW (Xv X0)
     |exact bj _ (k+1,o3.length+1,o3.length+3,_) ⟨PW,lv false (by simp[*])⟩ PW (Xv X0)
  ·obtain rfl:k=l.length:=GK;have e1:(gT l row).take l.length=gT l row:=dm (by simp[gT]);have e2:(b9 l).take l.length=b9 l:=dm (by simp[b9]);rw[e1,e2]at hF;((try revert hK K);(repeat'(first|refine Va X0 ?_|(refine V2 X0 ?_ ?_<;>try with_reducible intro hb)|(refine Xi ?_ ?_<;>try intro ht)|refine VD ?_ ?_|exact Xx|fail))<;>try with_reducible intro K hK)
   refine br _ _ rfl ?_;clear bj br cJ;repeat(first|refine Xu ?_)
   have nt:(b9 l).length=l.length:=by simp[b9]
   have bK:(gT l row).length=l.length:=by simp[gT]
   have fx:=hF.at_ (x,.arr 1 (a8 (gT l row))) GM;refine cL (aH.HS 8 x 1 (rows:=a8 (gT l row)) fx (by rw[AK,bK];simp only[Kc,simprocAttr]) (KV _) (RP _)) ?_;have BM:=hF.kill .gone;dsimp only;generalize o2.set x .gone=o4 at *;have dV :∃o6,FX (my (y,b9 l)::BW m left os c Q ci oi) o6/\aH os.length ⟨ao [(1,.tree 1 (rowsOf aC left)),(2,.ptr os.length 0 0),(5,.ptr (os.length+2) 0 0),(8,.tree 1 (a8 (gT l row))),(9,.ref y 1 0 l.length),(22,.tree 1 (rowsOf aW m.cls)),(23,Qf m.cls.length),(24,Qf c)],o4⟩
     ⟨ao [(1,.tree 1 (rowsOf aC left)),(2,.ptr os.length 0 0),(5,.ptr (os.length+2) 0 0),(8,.tree 1 (a8 (gT l row))),(9,pX (y,l.length)),(22,.tree 1 (rowsOf aW m.cls)),(23,Qf m.cls.length),(24,Qf c)],o6⟩:=by
    unfold my pX;dsimp only;by_cases h0:l.length=0
    ·have hl0:b9 l=[]:=List.length_eq_zero_iff.1 (nt.trans h0);rw[hl0,if_pos rfl,if_pos h0];rw[hl0]at BM;refine⟨o4.set y .gone,BM.put _,?_⟩;refine aH.trans (aH.HS 9 y 1 (rows:=[]) (BM.at_ (y,.arr 1 (ints [])) GM) (by rw[h0];rfl) GM GM) ?_;exact Xv X0
    ·have hl0:b9 l≠[]:=λe=>h0 (by rw[<- nt,e];rfl);rw[if_neg hl0,if_neg h0];exact⟨o4,BM,by exact Xv X0⟩
   obtain⟨o6,Dz,hT⟩:=dV;refine cL (σ':=⟨ao [(1,.tree 1 (rowsOf aC left)),(2,.ptr os.length 0 0),(5,.ptr (os.length+2) 0 0),(8,.tree 1 (a8 (gT l row))),(9,.ref y 1 0 l.length),(22,.tree 1 (rowsOf aW m.cls)),(23,Qf m.cls.length),(24,Qf c)],o4⟩) (Xv X0) ?_;refine cL hT ?_;clear hT hF BM fx o4;have xG:Q.length=c:=by have:=congrArg jB hQ;simp at this;omega
   have fG:=Dz.at_ (os.length+2,gW m (os.length+1) ci oi (os.length+5) c 0) (by simp[BW]);have fC:=Dz.at_ (ci,.arr 1 (rowsOf aC (eh m left c))) (by simp[BW]);have fO:=Dz.at_ (oi,.arr 1 (rowsOf dZ (dQ Q))) (by simp[BW]);unfold gW an at fG;dsimp only[dx,eC]at fG fC fO;have yM:(my (y,b9 l)::BW m left os c Q ci oi).Perm ((ci,.arr 1 (rowsOf aC (eh m left c)))::(oi,.arr 1 (rowsOf dZ (dQ Q)))::(os.length+2,gW m (os.length+1) ci oi (os.length+5) c 0)::my (y,b9 l)::(os.length+5,.arr 1 [])::(os.length,.var (an m))::(os.length+1,.mp 3 [])::(Q.map my++oY os)):=by
    exact ak9 _ _ _ _ _
   have BN:=Dz.perm yM;have ak':ci≠oi:=FX.ne (P:=[]) (a:=(ci,.arr 1 (rowsOf aC (eh m left c)))) (b:=(oi,.arr 1 (rowsOf dZ (dQ Q)))) BN GM;have OE:ci≠os.length+2:=FX.ne (P:=[]) (a:=(ci,.arr 1 (rowsOf aC (eh m left c)))) (b:=(os.length+2,gW m (os.length+1) ci oi (os.length+5) c 0)) BN GM;have OF:oi≠os.length+2:=FX.ne (P:=[(ci,.arr 1 (rowsOf aC (eh m left c)))]) (a:=(oi,.arr 1 (rowsOf dZ (dQ Q)))) (b:=(os.length+2,gW m (os.length+1) ci oi (os.length+5) c 0)) BN GM;have fCl:=aN fC;have fOl:=aN fO;have DA:=aN fG;have sC:=iy fC;have xH:=fJ (y:=.gone) fG OE;have DB:=aN xH;have OG:=fJ (y:=.gone) fO ak';have alc:=aN OG;have sO:=iy OG;have F7:=fJ (y:=.gone) xH OF;have ald:=aN F7;have F8:=(BN.kill .gone).kill .gone;have lC:(rowsOf aC (eh m left c)).length=c:=by rw[cH];simp[eh]
   have lO:(rowsOf dZ (dQ Q)).length=c:=by rw[cH];simp[dQ,xG]
   have tC:ja c (rowsOf aC (eh m left c))=rowsOf aC (eh m left c):=dm GK;have tO:ja c (rowsOf dZ (dQ Q))=rowsOf dZ (dQ Q):=dm GK;have tz:rowsOf aC (eh m left c)++[[.tree 1 (a8 (gT l row))]]=rowsOf aC (eh m left (c+1)):=by rw[gD];unfold rowsOf;rw[dS];rfl
   have yJ:rowsOf dZ (dQ Q)++[[pX (y,l.length)]]=rowsOf dZ (dQ (Q++[(y,b9 l)])):=by rw[<- OH,show(b9 l).length=l.length by simp[b9]]
   have l6:((o6.set ci .gone).set oi .gone).length=o6.length:=GM;have l5:(o6.set ci Ob.gone).length=o6.length:=GM;have e5:=λl k=>Af l5 l k;have e50:=λx l=>Jv l5 x l;have e6:=λl k=>Af l6 l k;have e60:=λx l=>Jv l6 x l;have sG:=iy F7;have sG2:=λy=>iy (mR (y:=y) F7);have sG5:=λy=>aN (mR (y:=y) F7);have uu:(os.length+2∈[os.length+2])=True:=GM;have FB:(ci ∉ [os.length+2])=True:=by simp[OE]
   have hmo:(oi ∉ [os.length+2])=True:=by simp[OF]
   have alj:(ci∈[os.length+2])=False:=by simp[OE]
   have alk:(oi∈[os.length+2])=False:=by simp[OF]
   have sR:=alm (y,l.length);have aln:cellsOf (pX (y,l.length))=[pX (y,l.length)]:=by unfold pX;split<;>rfl
   have aps:=iY fG;have lv:∀ (s:St) (cc:Nat) (G1:Ob) (l4:List Ob),cc=1\/cc=2->l4[cc]?=some (.arr 1 (rowsOf aC (eh m left (c+1))))->l4[3]?=some (.arr 1 (rowsOf dZ (dQ (Q++[(y,b9 l)])))) ->
     aH os.length s ⟨ao [(1,.tree 1 (rowsOf aC left)),(2,.ptr os.length 0 0),(5,.ptr (os.length+2) 0 0),(22,.tree 1 (rowsOf aW m.cls)),(23,Qf m.cls.length),(24,Qf c)],(((o6.set ci .gone).set oi .gone).set (os.length+2) G1).set (os.length+2) (gW m (os.length+1) (o6.length+cc) (o6.length+3) (os.length+5) (c+1) 0)++l4⟩ ->
     ∃ cc l4,FX (BW m left os (c+1) (Q++[(y,b9 l)]) (o6.length+cc) (o6.length+3)) l4/\aH os.length s ⟨ao [(1,.tree 1 (rowsOf aC left)),(2,.ptr os.length 0 0),(5,.ptr (os.length+2) 0 0),(22,.tree 1 (rowsOf aW m.cls)),(23,Qf m.cls.length),(24,Qf c)],l4⟩:=λs cc G1 l4 bc h1 h2 ht=>by
    refine⟨cc,_,?_,ht⟩;have h:=((F8.put G1).put (gW m (os.length+1) (o6.length+cc) (o6.length+3) (os.length+5) (c+1) 0)).news (N:=[(o6.length+cc,.arr 1 (rowsOf aC (eh m left (c+1)))),(o6.length+3,.arr 1 (rowsOf dZ (dQ (Q++[(y,b9 l)]))))]) (l:=l4) (λp hp=>by
     simp only[bJ];simp only[bw,iM,or_false]at hp;rcases hp with rfl|rfl
     ·exact⟨cc,rfl,h1⟩
     ·exact⟨3,rfl,h2⟩) P2
    have h':=h.perm (alo _ _ _ _ _ _ _ _ _);unfold BW;rw[dS,bE];exact h'
   refine Js (λs=>∃ cc l4,FX (BW m left os (c+1) (Q++[(y,b9 l)]) (o6.length+cc) (o6.length+3)) l4/\aH os.length s ⟨ao [(1,.tree 1 (rowsOf aC left)),(2,.ptr os.length 0 0),(5,.ptr (os.length+2) 0 0),(22,.tree 1 (rowsOf aW m.cls)),(23,Qf m.cls.length),(24,Qf c)],l4⟩) ?_ ?_
   ·rintro s ⟨cc,l4,h1,h2⟩;repeat(first|refine Xu ?_)
    refine cL h2 ?_;((try revert hK K);(repeat'(first|refine Va X0 ?_|(refine V2 X0 ?_ ?_<;>try with_reducible intro hb)|(refine Xi ?_ ?_<;>try intro ht)|refine VD ?_ ?_|exact Xx|fail))<;>try with_reducible intro K hK)
    exact ak _ (c+1,Q++[(y,b9 l)],o6.length+cc,o6.length+3,l4) ⟨PW,h1,by dsimp only;rw[dS,hQ,gR,dS];rfl⟩ PW (Xv X0)
   intro QQ key;clear ak aq;refine abE [os.length+2] [] [8,15] (.take 0 (.take 1 (.take 2 (.take 3 (.take 4 (.take 5 (.take 6 (.take 9 (.take 10 (.take 11 (.take 12 (.take 13 (.both 7 (.both 8 (.take 14 (.take 15 (.take 16 (.take 17 (.take 18 (.take 19 (.take 20 (.take 21 .nil)))))))) 14 (.take 8 (.take 15 (.take 16 (.take 17 (.take 18 (.take 19 (.take 20 (.take 21 .nil))))))))) 14 (.take 7 (.take 8 (.take 15 (.take 16 (.take 17 (.take 18 (.take 19 (.take 20 (.take 21 .nil)))))))))))))))))))))) rfl GS (by decide +kernel) ?_;simp(disch:=omega)only[Ac,↓Pc,simprocAttr,Ra,jy,uu,FB,hmo,alj,alk,not_false_eq_true,fC,fO,fG,fCl,fOl,DA,sC,xH,DB,OG,alc,sO,F7,ald,lC,lO,tC,tO,tz,yJ,l5,l6,e5,e50,e6,e60,sG,sG2,sG5,sR,aln,bH,bE,bO];repeat'(first|with_reducible refine c6 ?_ ?_|omega|with_reducible rfl|(intro id bX;simp only[bw,iM,or_false]at bX;omega))
   all_goals first
    | (refine key _ (lv _ 1 (.var (an m++[.ref (o6.length+1) 1 0 (c+1),.ref oi 1 0 c,.ref (os.length+5) 1 0 0,.dD (os.length+1)])) [.arr 1 [[.tree 1 (a8 (gT l row))]],.arr 1 (rowsOf aC (eh m left (c+1))),.arr 1 [[pX (y,l.length)]],.arr 1 (rowsOf dZ (dQ (Q++[(y,b9 l)])))] (.inl rfl) rfl rfl ?_);exact Xv (X2 @gW.eq_1 @an.eq_1);done)
    | (refine key _ (lv _ 2 (.var (an m++[.ref (o6.length+2) 1 0 (c+1),.ref oi 1 0 c,.ref (os.length+5) 1 0 0,.dD (os.length+1)])) [.arr 1 [[.tree 1 (a8 (gT l row))]],.arr 1 [[pX (y,l.length)]],.arr 1 (rowsOf aC (eh m left (c+1))),.arr 1 (rowsOf dZ (dQ (Q++[(y,b9 l)])))] (.inr rfl) rfl rfl ?_);exact Xv (X2 @gW.eq_1 @an.eq_1);done)
    | (refine key _ (lv _ 2 (.var (an m++[.ref (o6.length+2) 1 0 (c+1),.ref oi 1 0 c,.ref (os.length+5) 1 0 0,.dD (os.length+1)])) [.arr 1 [[pX (y,l.length)]],.arr 1 [[.tree 1 (a8 (gT l row))]],.arr 1 (rowsOf aC (eh m left (c+1))),.arr 1 (rowsOf dZ (dQ (Q++[(y,b9 l)])))] (.inr rfl) rfl rfl ?_);exact Xv (X2 @gW.eq_1 @an.eq_1);done)
 ·obtain rfl:c=m.cls.length:=GK;rw[wG]at hQ;((try revert hK K);(repeat'(first|refine Va X0 ?_|(refine V2 X0 ?_ ?_<;>try with_reducible intro hb)|(refine Xi ?_ ?_<;>try intro ht)|refine VD ?_ ?_|exact Xx|fail))<;>try with_reducible intro K hK)
  refine aq _ _ rfl ?_;clear ak aq Ql;repeat(first|refine Xu ?_)
  have FZ:FX (B2 m left os Q ci oi (os.length+5) 0 []) ob:=hF.perm (alp _ _ _ _ _ _ _);clear hF;have fA:=FZ.at_ (os.length,.var (an m)) (by simp[B2,BR]);dsimp only at fA;((try revert hK K);(repeat'(first|refine Va (X2 @fA @an.eq_1) ?_|(refine V2 (X2 @fA @an.eq_1) ?_ ?_<;>try with_reducible intro hb)|(refine Xi ?_ ?_<;>try intro ht)|refine VD ?_ ?_|exact Xx|fail))<;>try with_reducible intro K hK)
  refine aR (λz:Nat×List (Nat×List Int)×Nat×List Ob=>(⟨ao [(5,.ptr (os.length+2) 0 0),(90,.tree 4 (rowsOf aI m.ae)),(91,Qf m.ae.length),(92,Qf z.1)],z.2.2.2⟩:St))
   (λz=>z.1<=m.ae.length/\FX (B2 m left os Q ci oi z.2.2.1 z.1 z.2.1) z.2.2.2/\z.2.1.map (·.2)=(m.ae.take z.1).map (·.ay))
   (λz=>m.ae.length-z.1) (0,[],os.length+5,ob) ⟨aS _,FZ,GM⟩ (Xv X0) ?_
  clear FZ fA;rintro⟨j,QE,ti,ob⟩⟨hj,hF,Ag⟩Ql ak aq;dsimp only at hj hF Ag ⊢;by_cases fe:j<m.ae.length
  ·have gR:=eu fe;obtain⟨dO,_⟩:=Ae hm fe;have oz:(cS m j).ay.length<=576:=by
    obtain⟨_,_,_,_,h1⟩:=qA dO;have a:=BO hm (cS m j).fst.toNat;have b:=BO hm (cS m j).snd.toNat;have h2:(cS m j).ay.length=cN m (cS m j).fst.toNat*cN m (cS m j).snd.toNat:=by exact_mod_cast h1
    rw[h2];exact Nat.mul_le_mul a b
   have fR:m.ae.getD j default=cS m j:=rfl;rw[fR]at gR;generalize cS m j=p at *;have xG:QE.length=j:=by have:=congrArg jB Ag;simp at this;omega
   have fG:=hF.at_ (os.length+2,gW m (os.length+1) ci oi ti m.cls.length j) (by simp[B2]);have fT:=hF.at_ (ti,.arr 1 (rowsOf dZ (dQ QE))) (by simp[B2]);unfold gW an at fG;dsimp only[dx,eC]at fG fT;have A3:os.length+2≠ti:=FX.ne (P:=[]) (a:=(os.length+2,gW m (os.length+1) ci oi ti m.cls.length j)) (b:=(ti,.arr 1 (rowsOf dZ (dQ QE)))) hF GM;have BN:FX ((ti,.arr 1 (rowsOf dZ (dQ QE)))::(os.length+2,gW m (os.length+1) ci oi ti m.cls.length j)::(QE.map my++BR m left os Q ci oi)) ob:=hF.perm (List.Perm.swap _ _ _);have F8:=BN.kill .gone;have yL:=aN fT;have DA:=aN fG;have sT:=iy fT;have xH:=fJ (y:=.gone) fG (Ne.symm A3);have DB:=aN xH;have sG:=iy xH;have lT:(rowsOf dZ (dQ QE)).length=j:=by rw[cH];simp[dQ,xG]
   have tT:ja j (rowsOf dZ (dQ QE))=rowsOf dZ (dQ QE):=dm GK;have yJ:rowsOf dZ (dQ QE)++[[pX (ob.length+1,p.ay.length)]]=rowsOf dZ (dQ (QE++[(ob.length+1,p.ay)])):=OH QE (ob.length+1,p.ay);have uO:=iY fG;repeat'(first|((fail_if_success (first|refine eM 23 ?_|refine eN 23 ?_));refine Xr (X3 @fR @bH @bE.{0}) ?_;intro K hK)|refine Xo (X3 @fR @bH @bE.{0}) ?_|(refine hK _ ?_;clear hK K)|(refine Xg (X3 @fR @bH @bE.{0}) ?_ ?_<;>try intro hb)|(refine Xi ?_ ?_<;>try intro ht)|refine Xy ?_|refine Xd ?_ ?_|exact Xx|fail)
   refine cL (σ':=⟨ao [(5,.ptr (os.length+2) 0 0),(16,.ptr ob.length 0 0),(90,.tree 4 (rowsOf aI m.ae)),(91,Qf m.ae.length),(92,Qf j)],ob++[.var (aI p)]⟩) (Xv @aI.eq_1) ?_;refine Js (λs=>∃ q tn l4,FX (B2 m left os Q ci oi tn (j+1) (QE++[(q,p.ay)])) l4/\aH os.length s ⟨ao [(5,.ptr (os.length+2) 0 0),(90,.tree 4 (rowsOf aI m.ae)),(91,Qf m.ae.length),(92,Qf j)],l4⟩) ?_ ?_
   ·rintro s ⟨q,tn,l4,h1,h2⟩;repeat(first|refine Xu ?_)
    refine cL h2 ?_;((try revert hK K);(repeat'(first|refine Va X0 ?_|(refine V2 X0 ?_ ?_<;>try with_reducible intro hb)|(refine Xi ?_ ?_<;>try intro ht)|refine VD ?_ ?_|exact Xx|fail))<;>try with_reducible intro K hK)
    exact ak _ (j+1,QE++[(q,p.ay)],tn,l4) ⟨PW,h1,by dsimp only;rw[dS,Ag,gR,dS];rfl⟩ PW (Xv X0)
   intro QQ key;clear ak aq;by_cases h0:p.ay.length=0
   ·have JB:p.ay=[]:=List.length_eq_zero_iff.1 h0;have bK:=akw p.ay GK;rw[JB]at bK key;have hA3:rowsOf dZ (dQ QE)++[[.tree 1 (ints [])]]=rowsOf dZ (dQ (QE++[(ti,[])])):=OH QE (ti,[]);have hg5:FX ((os.length+2,gW m (os.length+1) ci oi ti m.cls.length j)::(ti,.gone)::(QE.map my++BR m left os Q ci oi)) (ob.set ti .gone):=(BN.put .gone).perm (List.Perm.swap _ _ _);have lv:FX (B2 m left os Q ci oi (ob.length+2) (j+1) (QE++[(ti,[])])) ((ob.set ti .gone).set (os.length+2) (gW m (os.length+1) ci oi (ob.length+2) m.cls.length (j+1))++[.var [Qf p.fst,Qf p.snd,Qf p.ee,.tree 1 (ints [])],.arr 1 [[.tree 1 (ints [])]],.arr 1 (rowsOf dZ (dQ (QE++[(ti,[])])))]):=by
     have h:=(hg5.put (gW m (os.length+1) ci oi (ob.length+2) m.cls.length (j+1))).news (N:=[(ob.length+2,.arr 1 (rowsOf dZ (dQ (QE++[(ti,[])]))))]) (l:=[.var [Qf p.fst,Qf p.snd,Qf p.ee,.tree 1 (ints [])],.arr 1 [[.tree 1 (ints [])]],.arr 1 (rowsOf dZ (dQ (QE++[(ti,[])])))]) (λq hq=>by
      simp only[bJ];rw[cV]at hq;subst hq;exact⟨2,rfl,rfl⟩) GM
     have h':=h.perm (alr _ _ _ _ _);unfold B2;rw[dS,bE];exact h'
    rw[JB]at yJ oz;refine pw [] (.take 0 (.take 1 (.take 5 (.take 6 (.both 2 (.both 3 (.both 4 (.take 7 (.take 8 (.take 9 (.take 10 (.take 11 (.take 12 .nil)))))) 7 (.take 4 (.take 8 (.take 9 (.take 10 (.take 11 (.take 12 .nil))))))) 7 (.take 3 (.take 4 (.take 8 (.take 9 (.take 10 (.take 11 (.take 12 .nil)))))))) 7 (.take 2 (.take 3 (.take 4 (.take 8 (.take 9 (.take 10 (.take 11 (.take 12 .nil))))))))))))) rfl GS (by decide +kernel) ?_;simp(disch:=omega)only[Ac,↓Pc,simprocAttr,Pw,fT,fG,yL,DA,sT,xH,DB,sG,lT,tT,hA3,aI,JB,pL,bH,bE,bO];repeat'(first|with_reducible refine c6 ?_ ?_|omega|with_reducible rfl)
    all_goals
     (refine Xn [] (bK) ?_;simp(disch:=omega)only[Ac,↓Pc,simprocAttr,Pw,fT,fG,yL,DA,sT,xH,DB,sG,lT,tT,hA3,aI,JB,pL,bH,bE,bO])
     repeat'(first|with_reducible refine c6 ?_ ?_|omega|with_reducible rfl)
    all_goals exact key _ ⟨ti,ob.length+2,_,lv,by exact Xv (X2 @gW.eq_1 @an.eq_1)⟩
   ·have bK:=Yk p.ay GK GK;have hA4:rowsOf dZ (dQ QE)++[[.ref (ob.length+1) 1 0 p.ay.length]]=rowsOf dZ (dQ (QE++[(ob.length+1,p.ay)])):=by rw[<- yJ];unfold pX;rw[if_neg h0]
    have lv:FX (B2 m left os Q ci oi (ob.length+3) (j+1) (QE++[(ob.length+1,p.ay)])) ((ob.set ti .gone).set (os.length+2) (gW m (os.length+1) ci oi (ob.length+3) m.cls.length (j+1))++[.var (aI p),.arr 1 (ints p.ay),.arr 1 [[.ref (ob.length+1) 1 0 p.ay.length]],.arr 1 (rowsOf dZ (dQ (QE++[(ob.length+1,p.ay)])))]):=by
     have h:=(F8.put (gW m (os.length+1) ci oi (ob.length+3) m.cls.length (j+1))).news (N:=[(ob.length+3,.arr 1 (rowsOf dZ (dQ (QE++[(ob.length+1,p.ay)])))),my (ob.length+1,p.ay)]) (l:=[.var (aI p),.arr 1 (ints p.ay),.arr 1 [[.ref (ob.length+1) 1 0 p.ay.length]],.arr 1 (rowsOf dZ (dQ (QE++[(ob.length+1,p.ay)])))]) (λq hq=>by
      simp only[bJ];simp only[bw,iM,or_false]at hq;rcases hq with rfl|rfl
      ·exact⟨3,rfl,rfl⟩
      ·refine⟨1,rfl,?_⟩;unfold my;dsimp only;rw[if_neg (λe=>h0 (by rw[e];rfl))];rfl) (by simp[my])
     have h':=h.perm (als _ _ _ _ _);unfold B2;rw[dS,bE];exact h'
    refine pw [] (.take 0 (.take 1 (.take 5 (.take 6 (.both 2 (.both 3 (.both 4 (.take 7 (.take 8 (.take 9 (.take 10 (.take 11 (.take 12 .nil)))))) 7 (.take 4 (.take 8 (.take 9 (.take 10 (.take 11 (.take 12 .nil))))))) 7 (.take 3 (.take 4 (.take 8 (.take 9 (.take 10 (.take 11 (.take 12 .nil)))))))) 7 (.take 2 (.take 3 (.take 4 (.take 8 (.take 9 (.take 10 (.take 11 (.take 12 .nil))))))))))))) rfl GS (by decide +kernel) ?_;simp(disch:=omega)only[Ac,↓Pc,simprocAttr,Pw,fT,fG,yL,DA,sT,xH,DB,sG,lT,tT,hA4,aI,pL,bH,bE,bO];repeat'(first|with_reducible refine c6 ?_ ?_|omega|with_reducible rfl)
    all_goals
     (refine Xn [] (bK) ?_;simp(disch:=omega)only[Ac,↓Pc,simprocAttr,Pw,fT,fG,yL,DA,sT,xH,DB,sG,lT,tT,hA4,aI,pL,bH,bE,bO,Hb])
     repeat'(first|with_reducible refine c6 ?_ ?_|omega|with_reducible rfl)
    all_goals exact key _ ⟨ob.length+1,ob.length+3,_,lv,by exact Xv (X3 @gW.eq_1 @an.eq_1 @aI.eq_1)⟩
  ·obtain rfl:j=m.ae.length:=GK;rw[wG]at Ag;((try revert hK K);(repeat'(first|refine Va X0 ?_|(refine V2 X0 ?_ ?_<;>try with_reducible intro hb)|(refine Xi ?_ ?_<;>try intro ht)|refine VD ?_ ?_|exact Xx|fail))<;>try with_reducible intro K hK)
   refine aq _ _ rfl ?_;clear ak aq Ql;repeat(first|refine Xu ?_)
   have fG:=hF.at_ (os.length+2,gW m (os.length+1) ci oi ti m.cls.length m.ae.length) (by simp[B2]);have fC:=hF.at_ (ci,.arr 1 (rowsOf aC (eh m left m.cls.length))) (by simp[B2,BR]);dsimp only at fG fC;unfold gW at fG;refine cL (aH.yg ci (os.length+2) 4 1 (cells:=an m++[.ref ci 1 0 m.cls.length,.ref oi 1 0 m.cls.length,.ref ti 1 0 m.ae.length,.dD (os.length+1)]) (rows:=rowsOf aC (eh m left m.cls.length)) fG fC (by rw[cH];simp[eh,an]) (jd _) (oS _)) ?_;obtain⟨hWF,qN,gd⟩:=alu hQ Ag hF;have hlen:os.length<=((ob.set ci .gone).set (os.length+2) (.var (an m++[.tree 1 (rowsOf aC (eh m left m.cls.length)),.ref oi 1 0 m.cls.length,.ref ti 1 0 m.ae.length,.dD (os.length+1)]))).length:=by
    have:=iY fG;simp only[bJ];omega
   refine cL (σ':=⟨ao [(5,.ptr (os.length+2) 0 0)],(ob.set ci .gone).set (os.length+2) (.var (an m++[.tree 1 (rowsOf aC (eh m left m.cls.length)),.ref oi 1 0 m.cls.length,.ref ti 1 0 m.ae.length,.dD (os.length+1)]))⟩) (Xv @an.eq_1) ?_;generalize (ob.set ci .gone).set (os.length+2) (.var (an m++[.tree 1 (rowsOf aC (eh m left m.cls.length)),.ref oi 1 0 m.cls.length,.ref ti 1 0 m.ae.length,.dD (os.length+1)]))=o9 at *;have uO:=iY hWF.v;((try revert hK K);(repeat'(first|refine Vb X0 ?_|(refine V2 X0 ?_ ?_<;>try with_reducible intro hb)|(refine Xi ?_ ?_<;>try intro ht)|refine VD ?_ ?_|exact Xx|fail))<;>try with_reducible intro K hK)
   unfold eU;simp only[dI,dE];simp(disch:=omega)only[Ac,↓Pc,simprocAttr];exact⟨_,_,⟨_,_,_,_,_,_,rfl,hWF,hlen,qN,GK,gd⟩,eF rfl hlen rfl⟩
end
end T

