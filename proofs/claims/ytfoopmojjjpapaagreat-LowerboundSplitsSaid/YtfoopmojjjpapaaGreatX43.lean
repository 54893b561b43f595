import Derived.Test.YtfoopmojjjpapaaGreatX42
set_option linter.all false
set_option maxHeartbeats 0
set_option maxRecDepth 20000
open List renaming length_append→bN,length_set→bJ,set_set→sZ,map_set→qF,replicate→aK,getElem?_set→bU,getElem?_map→bM,mem_map→bY,mem_singleton→cS,set_cons_succ→rG,set_cons_zero→oQ,getElem?_eq_getElem→bx,getD_eq_getElem?_getD→ay,getElem?_eq_some_iff→aY,contains_iff_mem→ny,mem_append→cG,length_nil→ln
open Int renaming toNat_natCast→dg
open Nat renaming zero_le→aP,zero_add→gR
open And renaming intro→cD
open Go Go.Am Go.Proofs
namespace T
def Qv{f:Nat->List Nd->List Nd}{s:Nat}(hf:∀ o n,(f o n).length=n.length+s)(nodes:List Nd):∀ k,(gQ f nodes k).1.length=nodes.length+k*s/\(gQ f nodes k).2.length=k
 |0=>by rw[gQ];simp
 |k+1=>by
  have h:=Qv hf nodes k;rw[gQ];dsimp only;rw[hf,h.1,bN,h.2,Nat.succ_mul];exact⟨Ey,rfl⟩
def Dl(m:ah)(rounds:Int):∀ (r:List Int) (L:List (List Bool)) (nodes:List Nd),(eH m rounds r L nodes).length=nodes.length+ke m r
 |[],L,nodes=>by rw[eH,ke];simp
 |c::r,L,nodes=>by
  rw[eH,bJ,ke,(Qv (λo n=>Dl m rounds r _ n) _ _).1];simp;omega
def Qw{f:Nat->List Nd->List Nd}(hf:∀ o n,(f o n).length >= n.length/\∀ i,i<n.length->nd (f o n) i=nd n i)(nodes:List Nd):∀ k,nodes.length<=(gQ f nodes k).1.length/\∀ i,i<nodes.length->nd (gQ f nodes k).1 i=nd nodes i
 |0=>by rw[gQ];exact⟨Nat.le_refl _,λ_ _=>rfl⟩
 |k+1=>by
  have h:=Qw hf nodes k;rw[gQ];have h2:=hf k (gQ f nodes k).1;exact⟨Hi,λi hi=>(h2.2 i Ey).trans (h.2 i hi)⟩
def afd(m:ah)(rounds:Int):∀ (r:List Int) (L:List (List Bool)) (nodes:List Nd),(eH m rounds r L nodes).length >= nodes.length/\∀ i,i<nodes.length->nd (eH m rounds r L nodes) i=nd nodes i
 |[],L,nodes=>⟨by rw[Dl];omega,λi hi=>by rw[eH];exact Gp hi⟩
 |c::r,L,nodes=>by
  refine⟨by rw[Dl];omega,λi hi=>?_⟩;have h:=Qw (λo n=>afd m rounds r (cM L c.toNat o) n) (nodes++[eP []]) (m.cls.getD c.toNat default).length;rw[bN,List.length_singleton]at h;rw[eH,acS Ey,if_neg Ey,h.2 i Ey,Gp hi]
def rF(L:List (List Bool))(c:Nat):Nat->List (List Bool)
 |0=>L
 |i+1=>cM L c i
def apz{L:List (List Bool)}{c:Nat}(r:List Bool):∀ i,(rF L c i).set c r=L.set c r
 |0=>rfl
 |i+1=>by rw[rF,cM,sZ]
def apA{L:List (List Bool)}{c:Nat}:∀ i,(rF L c i).length=L.length
 |0=>rfl
 |i+1=>by rw[rF,cM,bJ]
def apC{L:List (List Bool)}{c:Nat}(hc:c<L.length):∀ i,((rF L c i).getD c default).length=(L.getD c default).length
 |0=>rfl
 |i+1=>by rw[rF,cM,Oy _ _ _ _ hc,if_pos rfl,OI]
def afe(L:List (List Bool))(c:Nat)(r:List Bool):(rowsOf aA L).set c [.tree 1 (aV r)]=rowsOf aA (L.set c r):=by unfold rowsOf;rw[qF];rfl
def CJ(L:List (List Bool)):(rowsOf aA L).length=L.length:=by simp[rowsOf]
def apD(w o:Nat):(aV (aK w false)).set o [.lit (.bool true)]=aV (re w o):=by unfold aV re;rw[qF]
def apE(m:ah)(hm:VM m)(rounds:Int)(r:List Int)(c:Nat)(hc:c<m.cls.length)(cV:r.length<1000)(L:List (List Bool))(hf:cK m L)(nodes:List Nd)(hn:nodes.length+ke m ((c:Int)::r)<=1000000)(GY:∀ (L:List (List Bool)) (nodes:List Nd),cK m L->nodes.length+ke m r<=1000000->Holds Tryz.prog 58 [.agg (ao m),.tree 1 (ints r),QM rounds,.ref 0 1 0 m.cls.length,.ptr 1 0 0] [.arr 1 (rowsOf aA L),.var [.ref 2 5 0 nodes.length],.arr 5 (rowsOf ax nodes)] (QM nodes.length)
   [.arr 1 (rowsOf aA L),.var [.ref 3 5 0 (eH m rounds r L nodes).length],.gone,.arr 5 (rowsOf ax (eH m rounds r L nodes))]):
  Holds Tryz.prog 58 [.agg (ao m),.tree 1 (ints ((c:Int)::r)),QM rounds,.ref 0 1 0 m.cls.length,.ptr 1 0 0] [.arr 1 (rowsOf aA L),.var [.ref 2 5 0 nodes.length],.arr 5 (rowsOf ax nodes)] (QM nodes.length)
   [.arr 1 (rowsOf aA L),.var [.ref 3 5 0 (eH m rounds ((c:Int)::r) L nodes).length],.gone,.arr 5 (rowsOf ax (eH m rounds ((c:Int)::r) L nodes))]:=by
 have np:=hm.cls;have Ck:=hf.1;have bK:=hf.2 c Ey;have p8:=hm.opt _ (aF (l:=m.cls) (i:=c) (d:=default) hc);obtain⟨u4,xr⟩:=ada nodes;have O':(nodes++[eP []]).length=nodes.length+1:=G9;have da:ints ((c:Int)::r)=[QM c]::ints r:=rfl;have qQ:∀ ρ:Nat->Nat,bO ρ (.arr 1 [])=.arr 1 []:=λ_=>rfl;have iW:(ints r).length=r.length:=by simp[ints]
 have KH:∀ (f:Operand->AV),Option.map f none=none:=λ_=>rfl;have KI:([AV.lit (.int .i64 c)]::ints r).drop 1=ints r:=rfl;have Ar:([AV.lit (.int .i64 c)]::ints r).length=(ints r).length+1:=rfl;have aO:ke m ((c:Int)::r)=1+(m.cls.getD c default).length*ke m r:=by rw[ke,dg]
 have an:eH m rounds ((c:Int)::r) L nodes=(gQ (λo=>eH m rounds r (cM L c o)) (nodes++[eP []]) (m.cls.getD c default).length).1.set nodes.length ⟨c,(gQ (λo=>eH m rounds r (cM L c o)) (nodes++[eP []]) (m.cls.getD c default).length).2,[],[],[]⟩:=by rw[eH,dg]
 have hKl:=Qv (f:=λo=>eH m rounds r (cM L c o)) (s:=ke m r) (λo n=>Dl m rounds r _ n) (nodes++[eP []]);have hKp:=Qw (f:=λo=>eH m rounds r (cM L c o)) (λo n=>afd m rounds r _ n) (nodes++[eP []]);have Bj:gQ (λo=>eH m rounds r (cM L c o)) (nodes++[eP []]) 0=(nodes++[eP []],[]):=rfl;have hKs:∀ k,gQ (λo=>eH m rounds r (cM L c o)) (nodes++[eP []]) (k+1)=(eH m rounds r (cM L c k) (gQ (λo=>eH m rounds r (cM L c o)) (nodes++[eP []]) k).1,(gQ (λo=>eH m rounds r (cM L c o)) (nodes++[eP []]) k).2++[((gQ (λo=>eH m rounds r (cM L c o)) (nodes++[eP []]) k).1.length:Int)]):=λk=>rfl;generalize gQ (λo=>eH m rounds r (cM L c o)) (nodes++[eP []])=Kf at *;rw[O']at hKl hKp;have apG:nd (nodes++[eP []]) nodes.length=eP []:=JG;refine Holds.aM 100 3 [.tmp 10] Tryz.func58 ?_;repeat'(first|((fail_if_success (first|refine dW 3 ?_|refine dX 3 ?_));refine Xr @da ?_;intro K hK)|refine Xo @da ?_|(refine hK _ ?_;clear hK K)|(refine Xg @da ?_ ?_<;>try intro hb)|(refine Xi ?_ ?_<;>try intro ht)|refine XY ?_|refine Xd ?_ ?_|exact Xx|fail)
 refine bP (aD.IJ 5 nodes.length 5 rfl u4 ac6) ?_;rw[xr];refine bP (aD.uK 5 3 (cells:=ao m) QI (by simp only[Kc,simprocAttr]) (by simp[ao])) ?_;generalize eV:L.getD c default=row at *;((try revert hK K);(repeat'(first|refine Va (X5 @da @Ar @iW @eV @aA.eq_1) ?_|(refine V2 (X5 @da @Ar @iW @eV @aA.eq_1) ?_ ?_<;>try with_reducible intro hb)|(refine Xi ?_ ?_<;>try intro ht)|refine VD ?_ ?_|exact Xx|fail))<;>try with_reducible intro K hK)
 all_goals try(exfalso;omega)
 refine bP (aD.pT 6 1 1 rfl rfl Hg) ?_;rw[<- bK]at an aO;refine aQ (λi:Nat=>(⟨ar [(1,.tree 1 ([QM c]::ints r)),(2,QM rounds),(3,.ref 0 1 0 m.cls.length),(4,.ptr 1 0 0),(5,.b6 (ao m)),(11,QM nodes.length),(12,QM c),(13,.ptr 4 0 0),(14,.tree 1 (aV row)),(59,QM row.length),(60,QM i)],
  [.arr 1 (rowsOf aA (rF L c i)),.var [.ref 3 5 0 (Kf i).1.length],.gone,.arr 5 (rowsOf ax (Kf i).1),.var [QM c,.ref 5 1 0 i,.lit (.slice none 0 0),.lit (.slice none 0 0),.lit (.slice none 0 0)],.arr 1 (ints (Kf i).2)]⟩:St))
  (λi=>i<=row.length) (λi=>row.length-i) 0 (aP _) (by rw[Bj,O',show rF L c 0=L from rfl,show ints []=[] from rfl];exact Xs false [0,1,2,5,6,7] @qQ) ?_
 rintro i hi Ql ak aq;have bI:=apA (L:=L) (c:=c) i;have fX:=λr=>apz (L:=L) (c:=c) r i;have qO:=apC (L:=L) (c:=c) Ey i;rw[eV]at qO;obtain⟨k1,k2⟩:=hKl i;obtain⟨k3,k4⟩:=hKp i;have k4:=(k4 nodes.length Ey).trans apG;by_cases au:i<row.length
 ·have hov:cM L c i=L.set c (re row.length i):=by rw[cM,eV]
  have A3:cK m (cM L c i):=Ch hf (D1 _ _ _);have hmul:i*ke m r+ke m r<=row.length*ke m r:=by
   have:(i+1)*ke m r<=row.length*ke m r:=Nat.mul_le_mul_right _ Ey;rw[Nat.add_mul,Nat.one_mul]at this;exact this
  have xG:=hKs i;have um:=GY (cM L c i) (Kf i).1 A3 Ey;have eL:rF L c (i+1)=cM L c i:=rfl;have kB:=ak;generalize Kf i=q at *;obtain⟨N,ks⟩:=q;dsimp only at *;generalize rF L c i=Y at *;have ox:∀ x:List AV,((rowsOf aA Y).set c x)[c]?=some x:=λx=>by rw[bU,if_pos rfl,if_pos (by rw[CJ];omega)]
  have py:∀ x y:List AV,((rowsOf aA Y).set c x).set c y=(rowsOf aA Y).set c y:=λx y=>sZ ..;have jE:∀ x:List AV,((rowsOf aA Y).set c x).length=L.length:=λx=>by rw[bJ,CJ];omega
  have eW:(aV (aK row.length false))[i]?=some [.lit (.bool false)]:=by unfold aV;rw[bM,List.getElem?_replicate,if_pos au];rfl
  have nM:=apD row.length i;repeat'(first|((fail_if_success (first|refine dW 14 ?_|refine dX 14 ?_));refine Xr (X5 @eV @CJ @ox @py (X4 @jE @aA.eq_1 @eW @nM)) ?_;intro K hK)|refine Xo (X5 @eV @CJ @ox @py (X4 @jE @aA.eq_1 @eW @nM)) ?_|(refine hK _ ?_;clear hK K)|(refine Xg (X5 @eV @CJ @ox @py (X4 @jE @aA.eq_1 @eW @nM)) ?_ ?_<;>try intro hb)|(refine Xi ?_ ?_<;>try intro ht)|refine Xy ?_|refine Xd ?_ ?_|exact Xx|fail)
  refine bP (aD.IH 6 0 c 0 1 1 (rows:=aV (re row.length i)) rfl (ox _) rfl (by simp[aV,re]) Hg (λr hr=>by simp only[aV,bY]at hr;obtain⟨x,_,rfl⟩:=hr;rfl) (λr hr v hv=>by simp only[aV,bY]at hr;obtain⟨x,_,rfl⟩:=hr;rw[cS]at hv;exact .inl ⟨_,hv⟩)) ?_;dsimp only[rG,oQ];rw[py,afe,fX,<- hov];refine bP (σ':=⟨ar [(1,.tree 1 ([QM c]::ints r)),(2,QM rounds),(3,.ref 0 1 0 m.cls.length),(4,.ptr 1 0 0),(5,.b6 (ao m)),(11,QM nodes.length),(12,QM c),(13,.ptr 4 0 0),(14,.tree 1 (aV row)),(59,QM row.length),(60,QM i)],
   [.arr 1 (rowsOf aA (cM L c i)),.var [.ref 3 5 0 N.length],.gone,.arr 5 (rowsOf ax N),.var [QM c,.ref 5 1 0 i,.lit (.slice none 0 0),.lit (.slice none 0 0),.lit (.slice none 0 0)],.arr 1 (ints ks)]⟩) (Xs false [0,1,2,3,4,5] X0) ?_
  generalize cM L c i=Z at *;have eF:ks.length=i:=k2;subst eF;refine nf [2] (.take 2 (.take 3 (.take 4 (.take 5 (.take 6 (.take 7 (.both 0 (.both 1 (.take 8 (.take 9 (.take 10 (.take 11 (.take 12 .nil))))) 8 (.take 1 (.take 9 (.take 10 (.take 11 (.take 12 .nil)))))) 8 (.take 0 (.take 1 (.take 9 (.take 10 (.take 11 (.take 12 .nil))))))))))))) rfl Hg (by decide +kernel) ?_;simp(disch:=omega)only[Ac,↓Pc,simprocAttr,Pw,↓Lq,Ar,iW,CY,KH,KI];repeat'(first|with_reducible refine cD ?_ ?_|omega|with_reducible rfl)
  all_goals
   refine jf [0,1,3] um Hg ⟨by rw[oz];rfl,rfl,by rw[oz];rfl,trivial⟩ ⟨.pure rfl,.pure rfl,.pure rfl,.eq rfl,.eq rfl,trivial⟩ ?_;simp(disch:=omega)only[Ac,↓Pc,simprocAttr,Pw,↓Lq,oz];repeat'(first|with_reducible refine cD ?_ ?_|omega|with_reducible rfl)
  all_goals
   repeat(first|refine Xu ?_)
   ((try revert hK K);(repeat'(first|refine Va X0 ?_|(refine V2 X0 ?_ ?_<;>try with_reducible intro hb)|(refine Xi ?_ ?_<;>try intro ht)|refine VD ?_ ?_|exact Xx|fail))<;>try with_reducible intro K hK)
   refine kB _ (ks.length+1) Ey Ey ?_;rw[xG,eL];have apI:(ks++[(N.length:Int)]).length=ks.length+1:=G9;dsimp only;(exact Xs false [0,1,2,6,4,8] @apI)
 ·obtain rfl:i=row.length:=Ey;generalize Kf row.length=q at *;obtain⟨N,ks⟩:=q;dsimp only at *;((try revert hK K);(repeat'(first|refine Va (X2 @eV @CJ) ?_|(refine V2 (X2 @eV @CJ) ?_ ?_<;>try with_reducible intro hb)|(refine Xi ?_ ?_<;>try intro ht)|refine VD ?_ ?_|exact Xx|fail))<;>try with_reducible intro K hK)
  refine aq _ _ rfl ?_;clear ak aq;repeat(first|refine Xu ?_)
  have hLs:L.set c row=L:=by rw[<- eV];exact BY _ _
  have Qx:(rowsOf aA (rF L c row.length)).set c [.tree 1 (aV row)]=rowsOf aA L:=by rw[afe,fX,hLs]
  have yW:(rowsOf aA (rF L c row.length))[c]?=some (aA ((rF L c row.length).getD c default)):=by unfold rowsOf;rw[bM,bx Ey,ay,bx Ey];rfl
  have dF:∀ x:List AV,((rowsOf ax N).set nodes.length x)[nodes.length]?=some x:=λx=>by rw[bU,if_pos rfl,if_pos (by simp[rowsOf];omega)]
  have apK:(rowsOf ax N)[nodes.length]?=some (ax (eP [])):=by
   rw[<- k4];exact Ms N nodes.length Ey
  have apL:(rowsOf ax N).set nodes.length (ax ⟨(c:Int),ks,[],[],[]⟩)=rowsOf ax (N.set nodes.length ⟨(c:Int),ks,[],[],[]⟩):=by unfold rowsOf;rw[qF]
  generalize rowsOf aA (rF L c row.length)=RB at *;generalize (rF L c row.length).getD c default=rb at *;repeat'(first|((fail_if_success (first|refine dW 17 ?_|refine dX 17 ?_));refine Xr (X4 @yW @Qx @bI @aA.eq_1) ?_;intro K hK)|refine Xo (X4 @yW @Qx @bI @aA.eq_1) ?_|(refine hK _ ?_;clear hK K)|(refine Xg (X4 @yW @Qx @bI @aA.eq_1) ?_ ?_<;>try intro hb)|(refine Xi ?_ ?_<;>try intro ht)|refine Xy ?_|refine Xd ?_ ?_|exact Xx|fail)
  refine bP (aD.v7 5 4 1 1 (rows:=ints ks) rfl rfl (by rw[xl,k2];rfl) (uw _) (xn _)) ?_;dsimp only[rG,oQ];refine bP (aD.uK 13 4 (cells:=[QM c,.tree 1 (ints ks),.lit (.slice none 0 0),.lit (.slice none 0 0),.lit (.slice none 0 0)]) QI (by simp only[Kc,simprocAttr]) G9) ?_;refine bP (σ':=⟨ar [(4,.ptr 1 0 0),(11,QM nodes.length),(13,.b6 [QM c,.tree 1 (ints ks),.lit (.slice none 0 0),.lit (.slice none 0 0),.lit (.slice none 0 0)])],[.arr 1 (rowsOf aA L),.var [.ref 3 5 0 N.length],.gone,.arr 5 (rowsOf ax N)]⟩) (Xs false [0,1,2,3] X0) ?_;refine nf [5] (.take 0 (.take 1 (.take 2 (.take 3 (.take 4 (.take 5 (.take 6 (.take 7 .nil)))))))) rfl Hg (by decide +kernel) ?_;simp(disch:=omega)only[Ac,↓Pc,simprocAttr,Pw,↓Lq,apK,ax,eP,dF,sZ];repeat'(first|with_reducible refine cD ?_ ?_|omega|with_reducible rfl)
  (first|refine hn _ ?_|refine Sq.n _ ?_)
  refine bP (aD.IJ 3 nodes.length 5 (cells':=ax ⟨(c:Int),ks,[],[],[]⟩) rfl (dF _) ⟨.inl rfl,.inl rfl,.inr ⟨rfl,_,rfl⟩,.inr ⟨rfl,_,rfl⟩,.inr ⟨rfl,_,rfl⟩,trivial⟩) ?_;dsimp only[rG,oQ];rw[sZ,apL];((try revert hK K);(repeat'(first|refine Vb X0 ?_|(refine V2 X0 ?_ ?_<;>try with_reducible intro hb)|(refine Xi ?_ ?_<;>try intro ht)|refine VD ?_ ?_|exact Xx|fail))<;>try with_reducible intro K hK)
  rw[an,bJ];exact Xw false [0,1,2,3] X0
def apM(m:ah)(b8:VM m):Holds Tryz.prog 51 [.agg (ao m)] [] (.ref 0 1 0 m.cls.length) [.arr 1 (rowsOf aA (fZ m))]:=by
 have h1:=Fp m b8.mb;have sr:=b8.mb.cls;rw[kf.2 b8]at h1;refine Holds.aM 25 0 [.tmp 2] Tryz.func51 ?_;have np:=b8.cls;((try revert hK K);(repeat'(first|refine Vd @bne_self_eq_false.{0} h1 ?_|(refine V2 @bne_self_eq_false.{0} ?_ ?_<;>try with_reducible intro hb)|(refine Xi ?_ ?_<;>try intro ht)|refine VD ?_ ?_|exact Xx|fail))<;>try with_reducible intro K hK)
 refine aQ (λz:Nat×List (List Bool)=>(⟨ar [(1,.ptr 0 0 0),(3,.ref 1 1 0 z.2.length),(10,.tree 1 (rowsOf aT m.cls)),(11,QM m.cls.length),(12,QM z.1)],[.var (ao m),.arr 1 (rowsOf aA z.2)]⟩:St))
  (λz=>z.1<=m.cls.length/\z.2=(fZ m).take z.1) (λz=>m.cls.length-z.1) (0,[]) ⟨aP _,rfl⟩ ?_ ?_
 ·refine aD.trans (aD.nil 3 1 (by simp only[Kc,simprocAttr]) Hg) ?_;exact Xv X0
 rintro⟨i,xs⟩⟨hi,cJ⟩Ql ak aq;dsimp only at hi cJ ⊢;have nh:(fZ m).length=m.cls.length:=by simp[fZ]
 by_cases au:i<m.cls.length
 ·have uP:xs.length=i:=by rw[cJ,List.length_take];omega
  have eu:(fZ m).take (i+1)=xs++[aK (m.cls.getD i default).length true]:=by
   rw[ep Ey,<- cJ];unfold fZ;rw[kD _ _ _ au]
  have p8:=b8.opt _ (aF (d:=default) au);generalize a6:m.cls.getD i default=c at *;have F1:=aaV true c.length Ey;repeat'(first|((fail_if_success (first|refine dW 7 ?_|refine dX 7 ?_));refine Xr (X2 @a6 @aT.eq_1) ?_;intro K hK)|refine Xo (X2 @a6 @aT.eq_1) ?_|(refine hK _ ?_;clear hK K)|(refine Xg (X2 @a6 @aT.eq_1) ?_ ?_<;>try intro hb)|(refine Xi ?_ ?_<;>try intro ht)|refine Xy ?_|refine Xd ?_ ?_|exact Xx|fail)
  all_goals try(exfalso;omega)
  refine IG 5 Hg ?_;intro K K1 hK wG;simp(disch:=omega)only[Ac,↓Pc,simprocAttr,List.take];repeat'(first|with_reducible refine cD ?_ ?_|omega|with_reducible rfl)
  refine ug [] F1 Hg trivial ⟨a7.fz (rows:=rowsOf mO [true]) rfl rfl G9,.pure rfl,trivial⟩ rfl (by simp[CW,mO,rowsOf,flat]) ?_;simp(disch:=omega)only[Ac,↓Pc,simprocAttr];refine wG _ ⟨ar [(1,.ptr 0 0 0),(3,.ref 1 1 0 xs.length),(10,.tree 1 (rowsOf aT m.cls)),(11,QM m.cls.length),(12,QM i),(16,.ref 1 1 0 xs.length),(20,.tree 1 (aV (aK c.length true)))],[.var (ao m),.arr 1 (rowsOf aA xs)]⟩ ?_ ?_
  ·rw[<- aaU];exact Xs true [0,1] X0
  clear wG K1;simp(disch:=omega)only[Ac,↓Pc,simprocAttr,List.drop,Iv];repeat'(first|with_reducible refine cD ?_ ?_|omega|with_reducible rfl)
  refine hK _ ?_;clear hK K;repeat(first|refine Xu ?_)
  ((try revert hK K);(repeat'(first|refine Va X0 ?_|(refine V2 X0 ?_ ?_<;>try with_reducible intro hb)|(refine Xi ?_ ?_<;>try intro ht)|refine VD ?_ ?_|exact Xx|fail))<;>try with_reducible intro K hK)
  refine ak _ (i+1,xs++[aK c.length true]) ⟨Hi,eu.symm⟩ Hi ?_;exact Xs false [0,3] X0
 ·rw[List.take_of_length_le Ey]at cJ;((try revert hK K);(repeat'(first|refine Va X0 ?_|(refine V2 X0 ?_ ?_<;>try with_reducible intro hb)|(refine Xi ?_ ?_<;>try intro ht)|refine VD ?_ ?_|exact Xx|fail))<;>try with_reducible intro K hK)
  refine aq _ _ rfl ?_;clear ak aq Ql;repeat(first|refine Xu ?_)
  ((try revert hK K);(repeat'(first|refine Vb X0 ?_|(refine V2 X0 ?_ ?_<;>try with_reducible intro hb)|(refine Xi ?_ ?_<;>try intro ht)|refine VD ?_ ?_|exact Xx|fail))<;>try with_reducible intro K hK)
  rw[cJ];rw[nh];exact Xw false [1] X0
def afh(m:ah)(hm:VM m)(rounds:Int)(hr:0<=rounds/\rounds<=64):∀ (r:List Int),(∀ c∈r,0<=c/\c<m.cls.length)->r.length<1000->∀ (L:List (List Bool)) (nodes:List Nd),cK m L->nodes.length+ke m r<=1000000 ->
  Holds Tryz.prog 58 [.agg (ao m),.tree 1 (ints r),QM rounds,.ref 0 1 0 m.cls.length,.ptr 1 0 0] [.arr 1 (rowsOf aA L),.var [.ref 2 5 0 nodes.length],.arr 5 (rowsOf ax nodes)] (QM nodes.length)
   [.arr 1 (rowsOf aA L),.var [.ref 3 5 0 (eH m rounds r L nodes).length],.gone,.arr 5 (rowsOf ax (eH m rounds r L nodes))]
 |[],_,_,L,nodes,hf,hn=>al4 m hm rounds hr L hf nodes (by rw[ke]at hn;omega)
 |c::r,hc,hl,L,nodes,hf,hn=>by
  have h0:=hc c G9;rw[List.length_cons]at hl;obtain⟨c,rfl⟩:∃q:Nat,c=q:=⟨c.toNat,Ey⟩;exact apE m hm rounds r c Ey Ey L hf nodes hn λL nodes hf hn=>afh m hm rounds hr r (λx hx=>hc x (by simp[hx])) Ey L nodes hf hn
def vA(l:List Int):List (List Int×AV):=l.map λk=>([k],AV.lit (.bool true))
def Er(l:List Int)(k:Int):List Int:=if k∈l then l else l++[k]
def Qy(k:Int):∀ (l:List Int) (i:Nat),(k ∉ l->gX [k] (vA l) i=none)/\(k∈l->∃ q,gX [k] (vA l) i=some (i+q)/\l[q]?=some k)
 |[],i=>⟨λ_=>rfl,λh=>by cases h⟩
 |x::r,i=>by
  obtain⟨h1,h2⟩:=Qy k r (i+1);show(k ∉ x::r->(if [x]=[k] then some i else gX [k] (vA r) (i+1))=none)/\(k∈x::r->∃ q,(if [x]=[k] then some i else gX [k] (vA r) (i+1))=some (i+q)/\(x::r)[q]?=some k);by_cases hx:x=k
  ·subst hx;exact⟨λh=>absurd G9 h,λ_=>⟨0,G9,rfl⟩⟩
  ·rw[if_neg (by simpa using hx)];refine⟨λh=>h1 (λhh=>h (by simp[hh])),λh=>?_⟩;obtain⟨q,h3,h4⟩:=h2 (by rcases List.mem_cons.1 h with h|h;exact absurd h.symm hx;exact h);exact⟨q+1,by rw[h3];congr 1;omega,h4⟩
def apN(k:Int)(l:List Int):Am.fh [k] (.lit (.bool true)) (vA l)=vA (Er l k):=by
 obtain⟨h1,h2⟩:=Qy k l 0;unfold Am.fh Er;by_cases h:k∈l
 ·obtain⟨q,h3,h4⟩:=h2 h;rw[h3,if_pos h];dsimp only;rw[gR];apply List.ext_getElem?;intro j;rw[bU];unfold vA;by_cases hj:q=j
  ·subst hj;obtain⟨h5,h6⟩:=aY.1 h4;simp[h6,h5]
  ·rw[if_neg hj]
 ·rw[h1 h,if_neg h];unfold vA;simp
def apO(k:Int)(l:List Int):(mA [k] (vA l)).getD (.lit (.bool false))=.lit (.bool (l.contains k)):=by
 obtain⟨h1,h2⟩:=Qy k l 0;unfold mA;by_cases h:k∈l
 ·obtain⟨q,h3,h4⟩:=h2 h;obtain⟨h5,h6⟩:=aY.1 h4;rw[h3,ny.2 h];simp[vA,h4]
 ·rw[h1 h,show l.contains k=false by rw[<- Bool.not_eq_true,ny];exact h];rfl
def wS(l:List Int):Nat->List Int
 |0=>[]
 |i+1=>Er (wS l i) (l.getD i 0)
def apP{l:List Int}{k x:Int}:x∈Er l k↔x∈l\/x=k:=by
 unfold Er;split
 ·rename_i h;exact⟨.inl,λe=>e.elim id λe=>e▸h⟩
 ·rw[cG,cS]
def afi{l:List Int}{k:Int}:∀ i,i<=l.length->(k∈wS l i↔k∈l.take i)
 |0,_=>by rw[wS,List.take_zero]
 |i+1,h=>by
  rw[wS,apP,afi i Ey,ep (by omega:i<l.length),cG,cS];rfl
def AM(l:List Int)(i:Nat):Bool:=(List.range i).any λi=>(l.take i).contains (l.getD i 0)
def apQ(l:List Int)(i:Nat)(h:i<=l.length):AM l (i+1)=(AM l i||(wS l i).contains (l.getD i 0)):=by
 unfold AM;rw[List.range_succ,List.any_append,List.any_cons,List.any_nil,Bool.or_false];congr 1;rw[Bool.eq_iff_iff,ny,ny];exact(afi i h).symm
def apR(l:List Int):AM l l.length=wa l:=rfl
def UU{l:List Int}(h:wa l=false):l.Nodup:=by
 rw[List.Nodup,List.pairwise_iff_getElem];intro i j hi hj uR e;have:=aeQ (l:=l) (i:=j) (k:=i) hj uR (by rw[ay,bx hj,ay,bx hi];exact e.symm);rw[h]at this;cases this
def Il(m:ah)(l:List Int)(rounds:Int):AV:=if xE m l rounds≠0 then .bC [.agg [.lit (.slice none 0 0)],QM 0,QM (xE m l rounds)] else
 .bC [.agg (aJ (eH m rounds l (fZ m) [])),QM (mh m (eH m rounds l (fZ m) [])).1,QM 0]
def ahq(m:ah)(l:List Int)(rounds:Int)(mG:MB m)(eY:l.length<1000)(hr:cY rounds):
  Holds Tryz.prog 32 [.agg (ao m),.tree 1 (ints l),QM rounds] [] (Il m l rounds) []:=by
 have h1:=Fp m mG;generalize an:Il m l rounds=res;unfold Il at an;generalize gu:xE m l rounds=ee at an;unfold xE at gu;by_cases hv:gv m=0;rotate_left
 ·rw[if_pos hv]at gu;rw[<- gu,if_pos hv]at an;rw[<- an];generalize gv m=e at *;have ka:(e != 0)=true:=by simp[hv]
  refine Holds.aM 80 0 [.cell 6 53,.tmp 7,.tmp 8] Tryz.func32 ?_;((try revert hK K);(repeat'(first|refine Vd @ka h1 ?_|(refine V2 @ka ?_ ?_<;>try with_reducible intro hb)|(refine Xi ?_ ?_<;>try intro ht)|refine VD ?_ ?_|exact Xx|fail))<;>try with_reducible intro K hK)
  all_goals try(exfalso;omega)
  simp(disch:=omega)only[Ac,↓Pc,simprocAttr];exact Xw true [] X0
 rw[if_neg (by rw[hv];simp)]at gu;rw[hv]at h1;have b8:=kf.1 hv;have np:=b8.cls;refine Holds.aM 80 0 [.cell 6 53,.tmp 7,.tmp 8] Tryz.func32 ?_;((try revert hK K);(repeat'(first|refine Vd @bne_self_eq_false.{0} h1 ?_|(refine V2 @bne_self_eq_false.{0} ?_ ?_<;>try with_reducible intro hb)|(refine Xi ?_ ?_<;>try intro ht)|refine VD ?_ ?_|exact Xx|fail))<;>try with_reducible intro K hK)
 all_goals try(exfalso;omega)
 refine aQ (λi:Nat=>(⟨ar [(1,.tree 1 (ints l)),(2,QM rounds),(3,.ptr 0 0 0),(6,.ptr 1 0 0),(7,QM 0),(8,QM 0),(10,.dD 2),(11,.lit (.bool (AM l i))),(24,.tree 1 (ints l)),(25,QM l.length),(26,QM i)],[.var (ao m),.var [.lit (.slice none 0 0)],.mp 0 (vA (wS l i))]⟩:St))
  (λi=>i<=l.length/\∀ j,j<i->0<=l.getD j 0/\l.getD j 0<m.cls.length) (λi=>l.length-i) 0 ⟨aP _,λj hj=>absurd hj (Nat.not_lt_zero _)⟩ (by rw[show AM l 0=false from rfl,show vA (wS l 0)=[] from rfl];exact Xv X0) ?_
 rintro i⟨hi,da⟩Ql ak aq;by_cases au:i<l.length
 ·have lj:=apQ l i Ey;have py:wS l (i+1)=Er (wS l i) (l.getD i 0):=rfl;have Qz:=Qd (n:=m.cls.length) (i:=i) (l:=l) au;generalize kz:l.getD i 0=c at *;by_cases te:c<0\/(m.cls.length:Int)<=c
  ·rw[if_pos (Qz te)]at gu;rw[<- gu,if_pos Hg]at an;subst an;cases QA:AM l i;all_goals
    ((try revert hK K);(repeat'(first|refine Va @kz ?_|(refine V2 @kz ?_ ?_<;>try with_reducible intro hb)|(refine Xi ?_ ?_<;>try intro ht)|refine VD ?_ ?_|exact Xx|fail))<;>try with_reducible intro K hK)
    all_goals try(exfalso;omega)
    all_goals
     refine aq _ _ rfl ?_;repeat(first|refine Xu ?_)
     refine Xe ?_;simp(disch:=omega)only[Ac,↓Pc,simprocAttr];exact Xw true [] X0
  ·have hg:=apO c (wS l i);have G4:=apN c (wS l i);rw[<- py]at G4;have afj:∀ j,j<i+1->0<=l.getD j 0/\l.getD j 0<m.cls.length:=λj hj=>by
    by_cases e:j=i
    ·subst e;omega
    ·exact da j Ey
   cases QA:AM l i
   ·rw[QA,Bool.false_or]at lj;((try revert hK K);(repeat'(first|refine Va (X3 @kz @hg @G4) ?_|(refine V2 (X3 @kz @hg @G4) ?_ ?_<;>try with_reducible intro hb)|(refine Xi ?_ ?_<;>try intro ht)|refine VD ?_ ?_|exact Xx|fail))<;>try with_reducible intro K hK)
    all_goals try(exfalso;omega)
    exact ak _ (i+1) ⟨Ey,afj⟩ Ey (by rw[lj];exact Xv X0)
   ·rw[QA,Bool.true_or]at lj;((try revert hK K);(repeat'(first|refine Va (X3 @kz @hg @G4) ?_|(refine V2 (X3 @kz @hg @G4) ?_ ?_<;>try with_reducible intro hb)|(refine Xi ?_ ?_<;>try intro ht)|refine VD ?_ ?_|exact Xx|fail))<;>try with_reducible intro K hK)
    all_goals try(exfalso;omega)
    exact ak _ (i+1) ⟨Ey,afj⟩ Ey (by rw[lj];exact Xv X0)
 ·obtain rfl:i=l.length:=Ey;have Qz:yH m.cls.length l=false:=Qe λj hj=>by have:=da j hj;omega
  rw[if_neg (by rw[Qz];simp)]at gu;have bG:=aoB m l b8 Ey da;rw[apR];((try revert hK K);(repeat'(first|refine Va X0 ?_|(refine V2 X0 ?_ ?_<;>try with_reducible intro hb)|(refine Xi ?_ ?_<;>try intro ht)|refine VD ?_ ?_|exact Xx|fail))<;>try with_reducible intro K hK)
  refine aq _ _ rfl ?_;clear ak aq;repeat(first|refine Xu ?_)
  refine bP (σ':=⟨ar [(1,.tree 1 (ints l)),(2,QM rounds),(3,.ptr 0 0 0),(6,.ptr 1 0 0),(7,QM 0),(8,QM 0),(11,.lit (.bool (wa l)))],[.var (ao m),.var [.lit (.slice none 0 0)]]⟩) (Xs false [0,1] X0) ?_;by_cases y7:rounds<0\/64<rounds
  ·rw[if_pos y7]at gu;rw[<- gu,if_pos Hg]at an;subst an;((try revert hK K);(repeat'(first|refine Vb X0 ?_|(refine V2 X0 ?_ ?_<;>try with_reducible intro hb)|(refine Xi ?_ ?_<;>try intro ht)|refine VD ?_ ?_|exact Xx|fail))<;>try with_reducible intro K hK)
   all_goals try(exfalso;omega)
   all_goals
    simp(disch:=omega)only[Ac,↓Pc,simprocAttr];exact Xw true [] X0
  rw[if_neg y7]at gu;cases QB:wa l;rotate_left
  ·rw[QB,if_pos rfl]at gu;rw[<- gu,if_pos Hg]at an;subst an;((try revert hK K);(repeat'(first|refine Vb X0 ?_|(refine V2 X0 ?_ ?_<;>try with_reducible intro hb)|(refine Xi ?_ ?_<;>try intro ht)|refine VD ?_ ?_|exact Xx|fail))<;>try with_reducible intro K hK)
   all_goals try(exfalso;omega)
   all_goals
    simp(disch:=omega)only[Ac,↓Pc,simprocAttr];exact Xw true [] X0
  rw[QB,if_neg G9]at gu;have aO:=aeR m.cls l 1 1 Hg;generalize yp m.cls l 1 1=nn at *;by_cases yW:20000<nn
  ·rw[if_pos (aO.1 yW)]at gu;rw[<- gu,if_pos Hg]at an;subst an;((try revert hK K);(repeat'(first|refine Vd X0 bG ?_|(refine V2 X0 ?_ ?_<;>try with_reducible intro hb)|(refine Xi ?_ ?_<;>try intro ht)|refine VD ?_ ?_|exact Xx|fail))<;>try with_reducible intro K hK)
   all_goals try(exfalso;omega)
   all_goals
    simp(disch:=omega)only[Ac,↓Pc,simprocAttr];exact Xw true [] X0
  have j5:rY m.cls l 1 1=true:=by
   cases hx:rY m.cls l 1 1 with
   |true=>rfl
   |false=>exact absurd (aO.2 hx) yW
  rw[j5,if_neg G9]at gu;rw[<- gu,if_neg G9]at an;repeat'(first|((fail_if_success (first|refine dW 20 ?_|refine dX 20 ?_));refine Xq X0 ?_;intro K hK)|refine Xo X0 ?_|refine Xc (bG) ?_|(refine hK _ ?_;clear hK K)|(refine Xg X0 ?_ ?_<;>try intro hb)|(refine Xi ?_ ?_<;>try intro ht)|refine Xy ?_|refine Xd ?_ ?_|exact Xx|fail)
  all_goals try(exfalso;omega)
  have afk:∀ c∈l,0<=c/\c<m.cls.length:=λc hc=>by
   obtain⟨j,hj,rfl⟩:=List.getElem_of_mem hc;have:=da j hj;rwa [ay,bx hj]at this
  have Im:b9 m=fZ m:=by unfold b9;rw[if_pos hv]
  have Ay:=D5 b8;rw[Im]at Ay;have eX:ke m l<=20000:=by have:=MG l 1 1 j5 Hg;omega
  have pF:=afh m b8 rounds Ey l afk eY (fZ m) [] Ay (by rw[ln];omega);have dS:=apM m b8;obtain⟨nb,jE,_,_,_,pX⟩:=U4 (rounds:=rounds) b8 afk (UU QB) eX;rw[Im]at jE pX;have apS:=Dl m rounds l (fZ m) [];rw[ln,gR]at apS;have h3:=O6 m _ mG (pX.pb b8 Ey);have fY:([]:List Nd).length=0:=rfl;have qQ:rowsOf ax []=[]:=rfl;have apT:∀ ρ:Nat->Nat,bO ρ (.arr 5 [])=.arr 5 []:=λ_=>rfl;generalize eH m rounds l (fZ m) []=P at *;rw[jE]at h3 an;dsimp only at h3 an;rw[fY,qQ]at pF;generalize fZ m=AL at *;refine bP (aD.pT 2 0 5 rfl rfl Hg) ?_;dsimp only[rG,oQ,List.cons_append,List.nil_append];refine bP (aD.uK 3 0 (cells:=ao m) QI (by simp only[Kc,simprocAttr]) (by simp[ao])) ?_;refine bP (σ':=⟨ar [(1,.tree 1 (ints l)),(2,QM rounds),(3,.b6 (ao m)),(6,.ptr 0 0 0),(7,QM 0),(8,QM 0),(14,.ptr 1 0 0)],[.var [.lit (.slice none 0 0)],.var [.ref 2 5 0 0],.arr 5 []]⟩) (Xs false [1,2,3] @apT) ?_;refine nf [0,3] (.take 0 (.take 1 (.take 2 (.take 3 (.take 4 (.take 5 .nil)))))) rfl Hg (by decide +kernel) ?_;simp(disch:=omega)only[Ac,↓Pc,simprocAttr,Pw,↓Lq];repeat'(first|with_reducible refine cD ?_ ?_|omega|with_reducible rfl)
  refine jf [] dS Hg trivial ⟨.pure rfl,trivial⟩ ?_;simp(disch:=omega)only[Ac,↓Pc,simprocAttr,Pw,↓Lq,oz];repeat'(first|with_reducible refine cD ?_ ?_|omega|with_reducible rfl)
  refine jf [3,1,2] pF Hg ⟨by rw[oz];rfl,rfl,rfl,trivial⟩ ⟨.pure rfl,.pure rfl,.pure rfl,.eq rfl,.eq rfl,trivial⟩ ?_;simp(disch:=omega)only[Ac,↓Pc,simprocAttr,Pw,↓Lq,oz];repeat'(first|with_reducible refine cD ?_ ?_|omega|with_reducible rfl)
  repeat(first|refine Xu ?_)
  refine bP (aD.v7 4 1 0 5 (rows:=rowsOf ax P) rfl rfl (by rw[cF];rfl) (iA _) (mF _)) ?_;dsimp only[rG,oQ];((try revert hK K);(repeat'(first|refine Vd X0 h3 ?_|(refine V2 X0 ?_ ?_<;>try with_reducible intro hb)|(refine Xi ?_ ?_<;>try intro ht)|refine VD ?_ ?_|exact Xx|fail))<;>try with_reducible intro K hK)
  simp(disch:=omega)only[Ac,↓Pc,simprocAttr];rw[<- an];exact Xw true [] X0
end T

