import Derived.Test.YtfoopmojjjpapaaGreatX40
set_option linter.all false
set_option maxHeartbeats 0
set_option maxRecDepth 20000
open List renaming length_append→bL,length_set→bw,set_set→rf,map_set→p6,replicate→aO,getElem?_set→bP,getElem?_map→bV,mem_map→bS,mem_singleton→c8,set_cons_succ→oY,set_cons_zero→oX,getElem?_eq_getElem→bq,getD_eq_getElem?_getD→ax,getElem?_eq_some_iff→aR,contains_iff_mem→pY,mem_append→cT,length_nil→kx
open Int renaming toNat_natCast→cY
open Nat renaming zero_le→aW,zero_add→fc
open And renaming intro→cQ
open Go Go.Am Go.Proofs
namespace T
def NO{f:Nat->List Nd->List Nd}{s:Nat}(hf:∀ o n,(f o n).length=n.length+s)(nodes:List Nd):∀ k,(fN f nodes k).1.length=nodes.length+k*s/\(fN f nodes k).2.length=k
 |0=>by rw[fN];simp
 |k+1=>by
  have h:=NO hf nodes k;rw[fN];dsimp only;rw[hf,h.1,bL,h.2,Nat.succ_mul];exact⟨AT,rfl⟩
def Bw(m:ah)(rounds:Int):∀ (r:List Int) (L:List (List Bool)) (nodes:List Nd),(dR m rounds r L nodes).length=nodes.length+jC m r
 |[],L,nodes=>by rw[dR,jC];simp
 |c::r,L,nodes=>by
  rw[dR,bw,jC,(NO (λo n=>Bw m rounds r _ n) _ _).1];simp;omega
def NP{f:Nat->List Nd->List Nd}(hf:∀ o n,(f o n).length >= n.length/\∀ i,i<n.length->nd (f o n) i=nd n i)(nodes:List Nd):∀ k,nodes.length<=(fN f nodes k).1.length/\∀ i,i<nodes.length->nd (fN f nodes k).1 i=nd nodes i
 |0=>by rw[fN];exact⟨Nat.le_refl _,λ_ _=>rfl⟩
 |k+1=>by
  have h:=NP hf nodes k;rw[fN];have h2:=hf k (fN f nodes k).1;exact⟨NZ,λi hi=>(h2.2 i AT).trans (h.2 i hi)⟩
def abV(m:ah)(rounds:Int):∀ (r:List Int) (L:List (List Bool)) (nodes:List Nd),(dR m rounds r L nodes).length >= nodes.length/\∀ i,i<nodes.length->nd (dR m rounds r L nodes) i=nd nodes i
 |[],L,nodes=>⟨by rw[Bw];omega,λi hi=>by rw[dR];exact Dx hi⟩
 |c::r,L,nodes=>by
  refine⟨by rw[Bw];omega,λi hi=>?_⟩;have h:=NP (λo n=>abV m rounds r (db L c.toNat o) n) (nodes++[eH []]) (m.cls.getD c.toNat default).length;rw[bL,List.length_singleton]at h;rw[dR,UZ AT,if_neg AT,h.2 i AT,Dx hi]
def pW(L:List (List Bool))(c:Nat):Nat->List (List Bool)
 |0=>L
 |i+1=>db L c i
def alO{L:List (List Bool)}{c:Nat}(r:List Bool):∀ i,(pW L c i).set c r=L.set c r
 |0=>rfl
 |i+1=>by rw[pW,db,rf]
def alP{L:List (List Bool)}{c:Nat}:∀ i,(pW L c i).length=L.length
 |0=>rfl
 |i+1=>by rw[pW,db,bw]
def alQ{L:List (List Bool)}{c:Nat}(hc:c<L.length):∀ i,((pW L c i).getD c default).length=(L.getD c default).length
 |0=>rfl
 |i+1=>by rw[pW,db,KD _ _ _ _ hc,if_pos rfl,My]
def abW(L:List (List Bool))(c:Nat)(r:List Bool):(rowsOf ay L).set c [.tree 1 (a8 r)]=rowsOf ay (L.set c r):=by unfold rowsOf;rw[p6];rfl
def AO(L:List (List Bool)):(rowsOf ay L).length=L.length:=by simp[rowsOf]
def alR(w o:Nat):(a8 (aO w false)).set o [.lit (.bool true)]=a8 (mZ w o):=by unfold a8 mZ;rw[p6]
def alS(m:ah)(hm:VM m)(rounds:Int)(r:List Int)(c:Nat)(hc:c<m.cls.length)(cF:r.length<1000)(L:List (List Bool))(hf:cp m L)(nodes:List Nd)(hn:nodes.length+jC m ((c:Int)::r)<=1000000)(Nv:∀ (L:List (List Bool)) (nodes:List Nd),cp m L->nodes.length+jC m r<=1000000->Holds Tryz.prog 58 [.agg (aq m),.tree 1 (ints r),Oi rounds,.ref 0 1 0 m.cls.length,.ptr 1 0 0] [.arr 1 (rowsOf ay L),.var [.ref 2 5 0 nodes.length],.arr 5 (rowsOf aM nodes)] (Oi nodes.length)
   [.arr 1 (rowsOf ay L),.var [.ref 3 5 0 (dR m rounds r L nodes).length],.gone,.arr 5 (rowsOf aM (dR m rounds r L nodes))]):
  Holds Tryz.prog 58 [.agg (aq m),.tree 1 (ints ((c:Int)::r)),Oi rounds,.ref 0 1 0 m.cls.length,.ptr 1 0 0] [.arr 1 (rowsOf ay L),.var [.ref 2 5 0 nodes.length],.arr 5 (rowsOf aM nodes)] (Oi nodes.length)
   [.arr 1 (rowsOf ay L),.var [.ref 3 5 0 (dR m rounds ((c:Int)::r) L nodes).length],.gone,.arr 5 (rowsOf aM (dR m rounds ((c:Int)::r) L nodes))]:=by
 have mY:=hm.cls;have AD:=hf.1;have bE:=hf.2 c AT;have qD:=hm.opt _ (aE (l:=m.cls) (i:=c) (d:=default) hc);obtain⟨vP,sQ⟩:=abX nodes;have NQ:(nodes++[eH []]).length=nodes.length+1:=IM;have bR:ints ((c:Int)::r)=[Oi c]::ints r:=rfl;have rG:∀ ρ:Nat->Nat,bM ρ (.arr 1 [])=.arr 1 []:=λ_=>rfl;have mO:(ints r).length=r.length:=by simp[ints]
 have om0:∀ (f:Operand->AV),Option.map f none=none:=λ_=>rfl;have hd1:([AV.lit (.int .i64 c)]::ints r).drop 1=ints r:=rfl;have DO:([AV.lit (.int .i64 c)]::ints r).length=(ints r).length+1:=rfl;have aJ:jC m ((c:Int)::r)=1+(m.cls.getD c default).length*jC m r:=by rw[jC,cY]
 have an:dR m rounds ((c:Int)::r) L nodes=(fN (λo=>dR m rounds r (db L c o)) (nodes++[eH []]) (m.cls.getD c default).length).1.set nodes.length ⟨c,(fN (λo=>dR m rounds r (db L c o)) (nodes++[eH []]) (m.cls.getD c default).length).2,[],[],[]⟩:=by rw[dR,cY]
 have hKl:=NO (f:=λo=>dR m rounds r (db L c o)) (s:=jC m r) (λo n=>Bw m rounds r _ n) (nodes++[eH []]);have hKp:=NP (f:=λo=>dR m rounds r (db L c o)) (λo n=>abV m rounds r _ n) (nodes++[eH []]);have zy:fN (λo=>dR m rounds r (db L c o)) (nodes++[eH []]) 0=(nodes++[eH []],[]):=rfl;have hKs:∀ k,fN (λo=>dR m rounds r (db L c o)) (nodes++[eH []]) (k+1)=(dR m rounds r (db L c k) (fN (λo=>dR m rounds r (db L c o)) (nodes++[eH []]) k).1,(fN (λo=>dR m rounds r (db L c o)) (nodes++[eH []]) k).2++[((fN (λo=>dR m rounds r (db L c o)) (nodes++[eH []]) k).1.length:Int)]):=λk=>rfl;generalize fN (λo=>dR m rounds r (db L c o)) (nodes++[eH []])=Kf at *;rw[NQ]at hKl hKp;have alW:nd (nodes++[eH []]) nodes.length=eH []:=Gr;refine Holds.aN 100 3 [.tmp 10] Tryz.func58 ?_;repeat'(first|((fail_if_success (first|refine eO 3 ?_|refine eP 3 ?_));refine Xr @bR ?_;intro K hK)|refine Xo @bR ?_|(refine hK _ ?_;clear hK K)|(refine Xg @bR ?_ ?_<;>try intro hb)|(refine Xi ?_ ?_<;>try intro ht)|refine XY ?_|refine Xd ?_ ?_|exact Xx|fail)
 refine cd (aF.HR 5 nodes.length 5 rfl vP abU) ?_;rw[sQ];refine cd (aF.vt 5 3 (cells:=aq m) Od (by simp only[Kc,simprocAttr]) (by simp[aq])) ?_;generalize dU:L.getD c default=row at *;((try revert hK K);(repeat'(first|refine Va (X5 @bR @DO @mO @dU @ay.eq_1) ?_|(refine V2 (X5 @bR @DO @mO @dU @ay.eq_1) ?_ ?_<;>try with_reducible intro hb)|(refine Xi ?_ ?_<;>try intro ht)|refine VD ?_ ?_|exact Xx|fail))<;>try with_reducible intro K hK)
 all_goals try(exfalso;omega)
 refine cd (aF.sV 6 1 1 rfl rfl IP) ?_;rw[<- bE]at an aJ;refine bb (λi:Nat=>(⟨ao [(1,.tree 1 ([Oi c]::ints r)),(2,Oi rounds),(3,.ref 0 1 0 m.cls.length),(4,.ptr 1 0 0),(5,.bY (aq m)),(11,Oi nodes.length),(12,Oi c),(13,.ptr 4 0 0),(14,.tree 1 (a8 row)),(59,Oi row.length),(60,Oi i)],
  [.arr 1 (rowsOf ay (pW L c i)),.var [.ref 3 5 0 (Kf i).1.length],.gone,.arr 5 (rowsOf aM (Kf i).1),.var [Oi c,.ref 5 1 0 i,.lit (.slice none 0 0),.lit (.slice none 0 0),.lit (.slice none 0 0)],.arr 1 (ints (Kf i).2)]⟩:St))
  (λi=>i<=row.length) (λi=>row.length-i) 0 (aW _) (by rw[zy,NQ,show pW L c 0=L from rfl,show ints []=[] from rfl];exact Xs false [0,1,2,5,6,7] @rG) ?_
 rintro i hi Ql ak au;have bn:=alP (L:=L) (c:=c) i;have gG:=λr=>alO (L:=L) (c:=c) r i;have rB:=alQ (L:=L) (c:=c) AT i;rw[dU]at rB;obtain⟨k1,k2⟩:=hKl i;obtain⟨k3,k4⟩:=hKp i;have k4:=(k4 nodes.length AT).trans alW;by_cases ar:i<row.length
 ·have hov:db L c i=L.set c (mZ row.length i):=by rw[db,dU]
  have zi:cp m (db L c i):=BD hf (BE _ _ _);have hmul:i*jC m r+jC m r<=row.length*jC m r:=by
   have:(i+1)*jC m r<=row.length*jC m r:=Nat.mul_le_mul_right _ AT;rw[Nat.add_mul,Nat.one_mul]at this;exact this
  have yj:=hKs i;have sH:=Nv (db L c i) (Kf i).1 zi AT;have gn:pW L c (i+1)=db L c i:=rfl;have wU:=ak;generalize Kf i=q at *;obtain⟨N,ks⟩:=q;dsimp only at *;generalize pW L c i=Y at *;have mT:∀ x:List AV,((rowsOf ay Y).set c x)[c]?=some x:=λx=>by rw[bP,if_pos rfl,if_pos (by rw[AO];omega)]
  have nS:∀ x y:List AV,((rowsOf ay Y).set c x).set c y=(rowsOf ay Y).set c y:=λx y=>rf ..;have iU:∀ x:List AV,((rowsOf ay Y).set c x).length=L.length:=λx=>by rw[bw,AO];omega
  have ep:(a8 (aO row.length false))[i]?=some [.lit (.bool false)]:=by unfold a8;rw[bV,List.getElem?_replicate,if_pos ar];rfl
  have mn:=alR row.length i;repeat'(first|((fail_if_success (first|refine eO 14 ?_|refine eP 14 ?_));refine Xr (X5 @dU @AO @mT @nS (X4 @iU @ay.eq_1 @ep @mn)) ?_;intro K hK)|refine Xo (X5 @dU @AO @mT @nS (X4 @iU @ay.eq_1 @ep @mn)) ?_|(refine hK _ ?_;clear hK K)|(refine Xg (X5 @dU @AO @mT @nS (X4 @iU @ay.eq_1 @ep @mn)) ?_ ?_<;>try intro hb)|(refine Xi ?_ ?_<;>try intro ht)|refine Xy ?_|refine Xd ?_ ?_|exact Xx|fail)
  refine cd (aF.Hm 6 0 c 0 1 1 (rows:=a8 (mZ row.length i)) rfl (mT _) rfl (by simp[a8,mZ]) IP (λr hr=>by simp only[a8,bS]at hr;obtain⟨x,_,rfl⟩:=hr;rfl) (λr hr v hv=>by simp only[a8,bS]at hr;obtain⟨x,_,rfl⟩:=hr;rw[c8]at hv;exact .inl ⟨_,hv⟩)) ?_;dsimp only[oY,oX];rw[nS,abW,gG,<- hov];refine cd (σ':=⟨ao [(1,.tree 1 ([Oi c]::ints r)),(2,Oi rounds),(3,.ref 0 1 0 m.cls.length),(4,.ptr 1 0 0),(5,.bY (aq m)),(11,Oi nodes.length),(12,Oi c),(13,.ptr 4 0 0),(14,.tree 1 (a8 row)),(59,Oi row.length),(60,Oi i)],
   [.arr 1 (rowsOf ay (db L c i)),.var [.ref 3 5 0 N.length],.gone,.arr 5 (rowsOf aM N),.var [Oi c,.ref 5 1 0 i,.lit (.slice none 0 0),.lit (.slice none 0 0),.lit (.slice none 0 0)],.arr 1 (ints ks)]⟩) (Xs false [0,1,2,3,4,5] X0) ?_
  generalize db L c i=Z at *;have ed:ks.length=i:=k2;subst ed;refine lI [2] (.take 2 (.take 3 (.take 4 (.take 5 (.take 6 (.take 7 (.both 0 (.both 1 (.take 8 (.take 9 (.take 10 (.take 11 (.take 12 .nil))))) 8 (.take 1 (.take 9 (.take 10 (.take 11 (.take 12 .nil)))))) 8 (.take 0 (.take 1 (.take 9 (.take 10 (.take 11 (.take 12 .nil))))))))))))) rfl IP (by decide +kernel) ?_;simp(disch:=omega)only[Ac,↓Pc,simprocAttr,Pw,↓Lq,DO,mO,xU,om0,hd1];repeat'(first|with_reducible refine cQ ?_ ?_|omega|with_reducible rfl)
  all_goals
   refine jc [0,1,3] sH IP ⟨by rw[mW];rfl,rfl,by rw[mW];rfl,trivial⟩ ⟨.pure rfl,.pure rfl,.pure rfl,.eq rfl,.eq rfl,trivial⟩ ?_;simp(disch:=omega)only[Ac,↓Pc,simprocAttr,Pw,↓Lq,mW];repeat'(first|with_reducible refine cQ ?_ ?_|omega|with_reducible rfl)
  all_goals
   repeat(first|refine Xu ?_)
   ((try revert hK K);(repeat'(first|refine Va X0 ?_|(refine V2 X0 ?_ ?_<;>try with_reducible intro hb)|(refine Xi ?_ ?_<;>try intro ht)|refine VD ?_ ?_|exact Xx|fail))<;>try with_reducible intro K hK)
   refine wU _ (ks.length+1) AT AT ?_;rw[yj,gn];have alY:(ks++[(N.length:Int)]).length=ks.length+1:=IM;dsimp only;(exact Xs false [0,1,2,6,4,8] @alY)
 ·obtain rfl:i=row.length:=AT;generalize Kf row.length=q at *;obtain⟨N,ks⟩:=q;dsimp only at *;((try revert hK K);(repeat'(first|refine Va (X2 @dU @AO) ?_|(refine V2 (X2 @dU @AO) ?_ ?_<;>try with_reducible intro hb)|(refine Xi ?_ ?_<;>try intro ht)|refine VD ?_ ?_|exact Xx|fail))<;>try with_reducible intro K hK)
  refine au _ _ rfl ?_;clear ak au;repeat(first|refine Xu ?_)
  have hLs:L.set c row=L:=by rw[<- dU];exact yi _ _
  have NR:(rowsOf ay (pW L c row.length)).set c [.tree 1 (a8 row)]=rowsOf ay L:=by rw[abW,gG,hLs]
  have xn:(rowsOf ay (pW L c row.length))[c]?=some (ay ((pW L c row.length).getD c default)):=by unfold rowsOf;rw[bV,bq AT,ax,bq AT];rfl
  have dm:∀ x:List AV,((rowsOf aM N).set nodes.length x)[nodes.length]?=some x:=λx=>by rw[bP,if_pos rfl,if_pos (by simp[rowsOf];omega)]
  have al0:(rowsOf aM N)[nodes.length]?=some (aM (eH [])):=by
   rw[<- k4];exact J8 N nodes.length AT
  have al1:(rowsOf aM N).set nodes.length (aM ⟨(c:Int),ks,[],[],[]⟩)=rowsOf aM (N.set nodes.length ⟨(c:Int),ks,[],[],[]⟩):=by unfold rowsOf;rw[p6]
  generalize rowsOf ay (pW L c row.length)=RB at *;generalize (pW L c row.length).getD c default=rb at *;repeat'(first|((fail_if_success (first|refine eO 17 ?_|refine eP 17 ?_));refine Xr (X4 @xn @NR @bn @ay.eq_1) ?_;intro K hK)|refine Xo (X4 @xn @NR @bn @ay.eq_1) ?_|(refine hK _ ?_;clear hK K)|(refine Xg (X4 @xn @NR @bn @ay.eq_1) ?_ ?_<;>try intro hb)|(refine Xi ?_ ?_<;>try intro ht)|refine Xy ?_|refine Xd ?_ ?_|exact Xx|fail)
  refine cd (aF.ye 5 4 1 1 (rows:=ints ks) rfl rfl (by rw[vc,k2];rfl) (vd _) (xX _)) ?_;dsimp only[oY,oX];refine cd (aF.vt 13 4 (cells:=[Oi c,.tree 1 (ints ks),.lit (.slice none 0 0),.lit (.slice none 0 0),.lit (.slice none 0 0)]) Od (by simp only[Kc,simprocAttr]) IM) ?_;refine cd (σ':=⟨ao [(4,.ptr 1 0 0),(11,Oi nodes.length),(13,.bY [Oi c,.tree 1 (ints ks),.lit (.slice none 0 0),.lit (.slice none 0 0),.lit (.slice none 0 0)])],[.arr 1 (rowsOf ay L),.var [.ref 3 5 0 N.length],.gone,.arr 5 (rowsOf aM N)]⟩) (Xs false [0,1,2,3] X0) ?_;refine lI [5] (.take 0 (.take 1 (.take 2 (.take 3 (.take 4 (.take 5 (.take 6 (.take 7 .nil)))))))) rfl IP (by decide +kernel) ?_;simp(disch:=omega)only[Ac,↓Pc,simprocAttr,Pw,↓Lq,al0,aM,eH,dm,rf];repeat'(first|with_reducible refine cQ ?_ ?_|omega|with_reducible rfl)
  (first|refine hn _ ?_|refine Sq.n _ ?_)
  refine cd (aF.HR 3 nodes.length 5 (cells':=aM ⟨(c:Int),ks,[],[],[]⟩) rfl (dm _) ⟨.inl rfl,.inl rfl,.inr ⟨rfl,_,rfl⟩,.inr ⟨rfl,_,rfl⟩,.inr ⟨rfl,_,rfl⟩,trivial⟩) ?_;dsimp only[oY,oX];rw[rf,al1];((try revert hK K);(repeat'(first|refine Vb X0 ?_|(refine V2 X0 ?_ ?_<;>try with_reducible intro hb)|(refine Xi ?_ ?_<;>try intro ht)|refine VD ?_ ?_|exact Xx|fail))<;>try with_reducible intro K hK)
  rw[an,bw];exact Xw false [0,1,2,3] X0
def al2(m:ah)(bG:VM m):Holds Tryz.prog 51 [.agg (aq m)] [] (.ref 0 1 0 m.cls.length) [.arr 1 (rowsOf ay (cu m))]:=by
 have h1:=D5 m bG.mb;have tz:=bG.mb.cls;rw[jD.2 bG]at h1;refine Holds.aN 25 0 [.tmp 2] Tryz.func51 ?_;have mY:=bG.cls;((try revert hK K);(repeat'(first|refine Vd @bne_self_eq_false.{0} h1 ?_|(refine V2 @bne_self_eq_false.{0} ?_ ?_<;>try with_reducible intro hb)|(refine Xi ?_ ?_<;>try intro ht)|refine VD ?_ ?_|exact Xx|fail))<;>try with_reducible intro K hK)
 refine bb (λz:Nat×List (List Bool)=>(⟨ao [(1,.ptr 0 0 0),(3,.ref 1 1 0 z.2.length),(10,.tree 1 (rowsOf aV m.cls)),(11,Oi m.cls.length),(12,Oi z.1)],[.var (aq m),.arr 1 (rowsOf ay z.2)]⟩:St))
  (λz=>z.1<=m.cls.length/\z.2=(cu m).take z.1) (λz=>m.cls.length-z.1) (0,[]) ⟨aW _,rfl⟩ ?_ ?_
 ·refine aF.trans (aF.nil 3 1 (by simp only[Kc,simprocAttr]) IP) ?_;exact Xv X0
 rintro⟨i,xs⟩⟨hi,cO⟩Ql ak au;dsimp only at hi cO ⊢;have j5:(cu m).length=m.cls.length:=by simp[cu]
 by_cases ar:i<m.cls.length
 ·have uJ:xs.length=i:=by rw[cO,List.length_take];omega
  have eM:(cu m).take (i+1)=xs++[aO (m.cls.getD i default).length true]:=by
   rw[ei AT,<- cO];unfold cu;rw[gR _ _ _ ar]
  have qD:=bG.opt _ (aE (d:=default) ar);generalize bc:m.cls.getD i default=c at *;have Ea:=VG true c.length AT;repeat'(first|((fail_if_success (first|refine eO 7 ?_|refine eP 7 ?_));refine Xr (X2 @bc @aV.eq_1) ?_;intro K hK)|refine Xo (X2 @bc @aV.eq_1) ?_|(refine hK _ ?_;clear hK K)|(refine Xg (X2 @bc @aV.eq_1) ?_ ?_<;>try intro hb)|(refine Xi ?_ ?_<;>try intro ht)|refine Xy ?_|refine Xd ?_ ?_|exact Xx|fail)
  all_goals try(exfalso;omega)
  refine Hz 5 IP ?_;intro K K1 hK uL;simp(disch:=omega)only[Ac,↓Pc,simprocAttr,List.take];repeat'(first|with_reducible refine cQ ?_ ?_|omega|with_reducible rfl)
  refine rj [] Ea IP trivial ⟨bT.fz (rows:=rowsOf lr [true]) rfl rfl IM,.pure rfl,trivial⟩ rfl (by simp[A4,lr,rowsOf,flat]) ?_;simp(disch:=omega)only[Ac,↓Pc,simprocAttr];refine uL _ ⟨ao [(1,.ptr 0 0 0),(3,.ref 1 1 0 xs.length),(10,.tree 1 (rowsOf aV m.cls)),(11,Oi m.cls.length),(12,Oi i),(16,.ref 1 1 0 xs.length),(20,.tree 1 (a8 (aO c.length true)))],[.var (aq m),.arr 1 (rowsOf ay xs)]⟩ ?_ ?_
  ·rw[<- VF];exact Xs true [0,1] X0
  clear uL K1;simp(disch:=omega)only[Ac,↓Pc,simprocAttr,List.drop,Hy];repeat'(first|with_reducible refine cQ ?_ ?_|omega|with_reducible rfl)
  refine hK _ ?_;clear hK K;repeat(first|refine Xu ?_)
  ((try revert hK K);(repeat'(first|refine Va X0 ?_|(refine V2 X0 ?_ ?_<;>try with_reducible intro hb)|(refine Xi ?_ ?_<;>try intro ht)|refine VD ?_ ?_|exact Xx|fail))<;>try with_reducible intro K hK)
  refine ak _ (i+1,xs++[aO c.length true]) ⟨NZ,eM.symm⟩ NZ ?_;exact Xs false [0,3] X0
 ·rw[List.take_of_length_le AT]at cO;((try revert hK K);(repeat'(first|refine Va X0 ?_|(refine V2 X0 ?_ ?_<;>try with_reducible intro hb)|(refine Xi ?_ ?_<;>try intro ht)|refine VD ?_ ?_|exact Xx|fail))<;>try with_reducible intro K hK)
  refine au _ _ rfl ?_;clear ak au Ql;repeat(first|refine Xu ?_)
  ((try revert hK K);(repeat'(first|refine Vb X0 ?_|(refine V2 X0 ?_ ?_<;>try with_reducible intro hb)|(refine Xi ?_ ?_<;>try intro ht)|refine VD ?_ ?_|exact Xx|fail))<;>try with_reducible intro K hK)
  rw[cO];rw[j5];exact Xw false [1] X0
def ab0(m:ah)(hm:VM m)(rounds:Int)(hr:0<=rounds/\rounds<=64):∀ (r:List Int),(∀ c∈r,0<=c/\c<m.cls.length)->r.length<1000->∀ (L:List (List Bool)) (nodes:List Nd),cp m L->nodes.length+jC m r<=1000000 ->
  Holds Tryz.prog 58 [.agg (aq m),.tree 1 (ints r),Oi rounds,.ref 0 1 0 m.cls.length,.ptr 1 0 0] [.arr 1 (rowsOf ay L),.var [.ref 2 5 0 nodes.length],.arr 5 (rowsOf aM nodes)] (Oi nodes.length)
   [.arr 1 (rowsOf ay L),.var [.ref 3 5 0 (dR m rounds r L nodes).length],.gone,.arr 5 (rowsOf aM (dR m rounds r L nodes))]
 |[],_,_,L,nodes,hf,hn=>al3 m hm rounds hr L hf nodes (by rw[jC]at hn;omega)
 |c::r,hc,hl,L,nodes,hf,hn=>by
  have h0:=hc c IM;rw[List.length_cons]at hl;obtain⟨c,rfl⟩:∃q:Nat,c=q:=⟨c.toNat,AT⟩;exact alS m hm rounds r c AT AT L hf nodes hn λL nodes hf hn=>ab0 m hm rounds hr r (λx hx=>hc x (by simp[hx])) AT L nodes hf hn
def tM(l:List Int):List (List Int×AV):=l.map λk=>([k],AV.lit (.bool true))
def Cz(l:List Int)(k:Int):List Int:=if k∈l then l else l++[k]
def NS(k:Int):∀ (l:List Int) (i:Nat),(k ∉ l->fX [k] (tM l) i=none)/\(k∈l->∃ q,fX [k] (tM l) i=some (i+q)/\l[q]?=some k)
 |[],i=>⟨λ_=>rfl,λh=>by cases h⟩
 |x::r,i=>by
  obtain⟨h1,h2⟩:=NS k r (i+1);show(k ∉ x::r->(if [x]=[k] then some i else fX [k] (tM r) (i+1))=none)/\(k∈x::r->∃ q,(if [x]=[k] then some i else fX [k] (tM r) (i+1))=some (i+q)/\(x::r)[q]?=some k);by_cases hx:x=k
  ·subst hx;exact⟨λh=>absurd IM h,λ_=>⟨0,IM,rfl⟩⟩
  ·rw[if_neg (by simpa using hx)];refine⟨λh=>h1 (λhh=>h (by simp[hh])),λh=>?_⟩;obtain⟨q,h3,h4⟩:=h2 (by rcases List.mem_cons.1 h with h|h;exact absurd h.symm hx;exact h);exact⟨q+1,by rw[h3];congr 1;omega,h4⟩
def al4(k:Int)(l:List Int):Am.eB [k] (.lit (.bool true)) (tM l)=tM (Cz l k):=by
 obtain⟨h1,h2⟩:=NS k l 0;unfold Am.eB Cz;by_cases h:k∈l
 ·obtain⟨q,h3,h4⟩:=h2 h;rw[h3,if_pos h];dsimp only;rw[fc];apply List.ext_getElem?;intro j;rw[bP];unfold tM;by_cases hj:q=j
  ·subst hj;obtain⟨h5,h6⟩:=aR.1 h4;simp[h6,h5]
  ·rw[if_neg hj]
 ·rw[h1 h,if_neg h];unfold tM;simp
def al5(k:Int)(l:List Int):(kY [k] (tM l)).getD (.lit (.bool false))=.lit (.bool (l.contains k)):=by
 obtain⟨h1,h2⟩:=NS k l 0;unfold kY;by_cases h:k∈l
 ·obtain⟨q,h3,h4⟩:=h2 h;obtain⟨h5,h6⟩:=aR.1 h4;rw[h3,pY.2 h];simp[tM,h4]
 ·rw[h1 h,show l.contains k=false by rw[<- Bool.not_eq_true,pY];exact h];rfl
def uU(l:List Int):Nat->List Int
 |0=>[]
 |i+1=>Cz (uU l i) (l.getD i 0)
def al6{l:List Int}{k x:Int}:x∈Cz l k↔x∈l\/x=k:=by
 unfold Cz;split
 ·rename_i h;exact⟨.inl,λe=>e.elim id λe=>e▸h⟩
 ·rw[cT,c8]
def ab1{l:List Int}{k:Int}:∀ i,i<=l.length->(k∈uU l i↔k∈l.take i)
 |0,_=>by rw[uU,List.take_zero]
 |i+1,h=>by
  rw[uU,al6,ab1 i AT,ei (by omega:i<l.length),cT,c8];rfl
def yX(l:List Int)(i:Nat):Bool:=(List.range i).any λi=>(l.take i).contains (l.getD i 0)
def al7(l:List Int)(i:Nat)(h:i<=l.length):yX l (i+1)=(yX l i||(uU l i).contains (l.getD i 0)):=by
 unfold yX;rw[List.range_succ,List.any_append,List.any_cons,List.any_nil,Bool.or_false];congr 1;rw[Bool.eq_iff_iff,pY,pY];exact(ab1 i h).symm
def al8(l:List Int):yX l l.length=uo l:=rfl
def Q9{l:List Int}(h:uo l=false):l.Nodup:=by
 rw[List.Nodup,List.pairwise_iff_getElem];intro i j hi hj oM e;have:=al9 (l:=l) (i:=j) (k:=i) hj oM (by rw[ax,bq hj,ax,bq hi];exact e.symm);rw[h]at this;cases this
def F6(m:ah)(l:List Int)(rounds:Int):AV:=if yg m l rounds≠0 then .bu [.agg [.lit (.slice none 0 0)],Oi 0,Oi (yg m l rounds)] else
 .bu [.agg (cz (dR m rounds l (cu m) [])),Oi (oB m (dR m rounds l (cu m) [])).1,Oi 0]
def aed(m:ah)(l:List Int)(rounds:Int)(oz:MB m)(fY:l.length<1000)(hr:fM rounds):
  Holds Tryz.prog 32 [.agg (aq m),.tree 1 (ints l),Oi rounds] [] (F6 m l rounds) []:=by
 have h1:=D5 m oz;generalize an:F6 m l rounds=res;unfold F6 at an;generalize gP:yg m l rounds=ee at an;unfold yg at gP;by_cases hv:iB m=0;rotate_left
 ·rw[if_pos hv]at gP;rw[<- gP,if_pos hv]at an;rw[<- an];generalize iB m=e at *;have mU:(e != 0)=true:=by simp[hv]
  refine Holds.aN 80 0 [.cell 6 53,.tmp 7,.tmp 8] Tryz.func32 ?_;((try revert hK K);(repeat'(first|refine Vd @mU h1 ?_|(refine V2 @mU ?_ ?_<;>try with_reducible intro hb)|(refine Xi ?_ ?_<;>try intro ht)|refine VD ?_ ?_|exact Xx|fail))<;>try with_reducible intro K hK)
  all_goals try(exfalso;omega)
  simp(disch:=omega)only[Ac,↓Pc,simprocAttr];exact Xw true [] X0
 rw[if_neg (by rw[hv];simp)]at gP;rw[hv]at h1;have bG:=jD.1 hv;have mY:=bG.cls;refine Holds.aN 80 0 [.cell 6 53,.tmp 7,.tmp 8] Tryz.func32 ?_;((try revert hK K);(repeat'(first|refine Vd @bne_self_eq_false.{0} h1 ?_|(refine V2 @bne_self_eq_false.{0} ?_ ?_<;>try with_reducible intro hb)|(refine Xi ?_ ?_<;>try intro ht)|refine VD ?_ ?_|exact Xx|fail))<;>try with_reducible intro K hK)
 all_goals try(exfalso;omega)
 refine bb (λi:Nat=>(⟨ao [(1,.tree 1 (ints l)),(2,Oi rounds),(3,.ptr 0 0 0),(6,.ptr 1 0 0),(7,Oi 0),(8,Oi 0),(10,.c9 2),(11,.lit (.bool (yX l i))),(24,.tree 1 (ints l)),(25,Oi l.length),(26,Oi i)],[.var (aq m),.var [.lit (.slice none 0 0)],.mp 0 (tM (uU l i))]⟩:St))
  (λi=>i<=l.length/\∀ j,j<i->0<=l.getD j 0/\l.getD j 0<m.cls.length) (λi=>l.length-i) 0 ⟨aW _,λj hj=>absurd hj (Nat.not_lt_zero _)⟩ (by rw[show yX l 0=false from rfl,show tM (uU l 0)=[] from rfl];exact Xv X0) ?_
 rintro i⟨hi,bR⟩Ql ak au;by_cases ar:i<l.length
 ·have wM:=al7 l i AT;have nS:uU l (i+1)=Cz (uU l i) (l.getD i 0):=rfl;have NT:=ab2 (n:=m.cls.length) (i:=i) (l:=l) ar;generalize qy:l.getD i 0=c at *;by_cases rq:c<0\/(m.cls.length:Int)<=c
  ·rw[if_pos (NT rq)]at gP;rw[<- gP,if_pos IP]at an;subst an;cases NU:yX l i;all_goals
    ((try revert hK K);(repeat'(first|refine Va @qy ?_|(refine V2 @qy ?_ ?_<;>try with_reducible intro hb)|(refine Xi ?_ ?_<;>try intro ht)|refine VD ?_ ?_|exact Xx|fail))<;>try with_reducible intro K hK)
    all_goals try(exfalso;omega)
    all_goals
     refine au _ _ rfl ?_;repeat(first|refine Xu ?_)
     refine Xe ?_;simp(disch:=omega)only[Ac,↓Pc,simprocAttr];exact Xw true [] X0
  ·have hg:=al5 c (uU l i);have ER:=al4 c (uU l i);rw[<- nS]at ER;have ab3:∀ j,j<i+1->0<=l.getD j 0/\l.getD j 0<m.cls.length:=λj hj=>by
    by_cases e:j=i
    ·subst e;omega
    ·exact bR j AT
   cases NU:yX l i
   ·rw[NU,Bool.false_or]at wM;((try revert hK K);(repeat'(first|refine Va (X3 @qy @hg @ER) ?_|(refine V2 (X3 @qy @hg @ER) ?_ ?_<;>try with_reducible intro hb)|(refine Xi ?_ ?_<;>try intro ht)|refine VD ?_ ?_|exact Xx|fail))<;>try with_reducible intro K hK)
    all_goals try(exfalso;omega)
    exact ak _ (i+1) ⟨AT,ab3⟩ AT (by rw[wM];exact Xv X0)
   ·rw[NU,Bool.true_or]at wM;((try revert hK K);(repeat'(first|refine Va (X3 @qy @hg @ER) ?_|(refine V2 (X3 @qy @hg @ER) ?_ ?_<;>try with_reducible intro hb)|(refine Xi ?_ ?_<;>try intro ht)|refine VD ?_ ?_|exact Xx|fail))<;>try with_reducible intro K hK)
    all_goals try(exfalso;omega)
    exact ak _ (i+1) ⟨AT,ab3⟩ AT (by rw[wM];exact Xv X0)
 ·obtain rfl:i=l.length:=AT;have NT:yh m.cls.length l=false:=Rg λj hj=>by have:=bR j hj;omega
  rw[if_neg (by rw[NT];simp)]at gP;have bx:=al' m l bG AT bR;rw[al8];((try revert hK K);(repeat'(first|refine Va X0 ?_|(refine V2 X0 ?_ ?_<;>try with_reducible intro hb)|(refine Xi ?_ ?_<;>try intro ht)|refine VD ?_ ?_|exact Xx|fail))<;>try with_reducible intro K hK)
  refine au _ _ rfl ?_;clear ak au;repeat(first|refine Xu ?_)
  refine cd (σ':=⟨ao [(1,.tree 1 (ints l)),(2,Oi rounds),(3,.ptr 0 0 0),(6,.ptr 1 0 0),(7,Oi 0),(8,Oi 0),(11,.lit (.bool (uo l)))],[.var (aq m),.var [.lit (.slice none 0 0)]]⟩) (Xs false [0,1] X0) ?_;by_cases w0:rounds<0\/64<rounds
  ·rw[if_pos w0]at gP;rw[<- gP,if_pos IP]at an;subst an;((try revert hK K);(repeat'(first|refine Vb X0 ?_|(refine V2 X0 ?_ ?_<;>try with_reducible intro hb)|(refine Xi ?_ ?_<;>try intro ht)|refine VD ?_ ?_|exact Xx|fail))<;>try with_reducible intro K hK)
   all_goals try(exfalso;omega)
   all_goals
    simp(disch:=omega)only[Ac,↓Pc,simprocAttr];exact Xw true [] X0
  rw[if_neg w0]at gP;cases NV:uo l;rotate_left
  ·rw[NV,if_pos rfl]at gP;rw[<- gP,if_pos IP]at an;subst an;((try revert hK K);(repeat'(first|refine Vb X0 ?_|(refine V2 X0 ?_ ?_<;>try with_reducible intro hb)|(refine Xi ?_ ?_<;>try intro ht)|refine VD ?_ ?_|exact Xx|fail))<;>try with_reducible intro K hK)
   all_goals try(exfalso;omega)
   all_goals
    simp(disch:=omega)only[Ac,↓Pc,simprocAttr];exact Xw true [] X0
  rw[NV,if_neg IM]at gP;have aJ:=ab4 m.cls l 1 1 IP;generalize we m.cls l 1 1=nn at *;by_cases xn:20000<nn
  ·rw[if_pos (aJ.1 xn)]at gP;rw[<- gP,if_pos IP]at an;subst an;((try revert hK K);(repeat'(first|refine Vd X0 bx ?_|(refine V2 X0 ?_ ?_<;>try with_reducible intro hb)|(refine Xi ?_ ?_<;>try intro ht)|refine VD ?_ ?_|exact Xx|fail))<;>try with_reducible intro K hK)
   all_goals try(exfalso;omega)
   all_goals
    simp(disch:=omega)only[Ac,↓Pc,simprocAttr];exact Xw true [] X0
  have j3:sY m.cls l 1 1=true:=by
   cases hx:sY m.cls l 1 1 with
   |true=>rfl
   |false=>exact absurd (aJ.2 hx) xn
  rw[j3,if_neg IM]at gP;rw[<- gP,if_neg IM]at an;repeat'(first|((fail_if_success (first|refine eO 20 ?_|refine eP 20 ?_));refine Xq X0 ?_;intro K hK)|refine Xo X0 ?_|refine Xc (bx) ?_|(refine hK _ ?_;clear hK K)|(refine Xg X0 ?_ ?_<;>try intro hb)|(refine Xi ?_ ?_<;>try intro ht)|refine Xy ?_|refine Xd ?_ ?_|exact Xx|fail)
  all_goals try(exfalso;omega)
  have ab5:∀ c∈l,0<=c/\c<m.cls.length:=λc hc=>by
   obtain⟨j,hj,rfl⟩:=List.getElem_of_mem hc;have:=bR j hj;rwa [ax,bq hj]at this
  have F7:cg m=cu m:=by unfold cg;rw[if_pos hv]
  have yY:=zP bG;rw[F7]at yY;have er:jC m l<=20000:=by have:=Kl l 1 1 j3 IP;omega
  have p':=ab0 m bG rounds AT l ab5 fY (cu m) [] yY (by rw[kx];omega);have eT:=al2 m bG;obtain⟨nb,iU,_,_,_,px⟩:=Rj (rounds:=rounds) bG ab5 (Q9 NV) er;rw[F7]at iU px;have ama:=Bw m rounds l (cu m) [];rw[kx,fc]at ama;have h3:=Lt m _ oz (px.pb bG AT);have kj:([]:List Nd).length=0:=rfl;have rG:rowsOf aM []=[]:=rfl;have amb:∀ ρ:Nat->Nat,bM ρ (.arr 5 [])=.arr 5 []:=λ_=>rfl;generalize dR m rounds l (cu m) []=P at *;rw[iU]at h3 an;dsimp only at h3 an;rw[kj,rG]at p';generalize cu m=AL at *;refine cd (aF.sV 2 0 5 rfl rfl IP) ?_;dsimp only[oY,oX,List.cons_append,List.nil_append];refine cd (aF.vt 3 0 (cells:=aq m) Od (by simp only[Kc,simprocAttr]) (by simp[aq])) ?_;refine cd (σ':=⟨ao [(1,.tree 1 (ints l)),(2,Oi rounds),(3,.bY (aq m)),(6,.ptr 0 0 0),(7,Oi 0),(8,Oi 0),(14,.ptr 1 0 0)],[.var [.lit (.slice none 0 0)],.var [.ref 2 5 0 0],.arr 5 []]⟩) (Xs false [1,2,3] @amb) ?_;refine lI [0,3] (.take 0 (.take 1 (.take 2 (.take 3 (.take 4 (.take 5 .nil)))))) rfl IP (by decide +kernel) ?_;simp(disch:=omega)only[Ac,↓Pc,simprocAttr,Pw,↓Lq];repeat'(first|with_reducible refine cQ ?_ ?_|omega|with_reducible rfl)
  refine jc [] eT IP trivial ⟨.pure rfl,trivial⟩ ?_;simp(disch:=omega)only[Ac,↓Pc,simprocAttr,Pw,↓Lq,mW];repeat'(first|with_reducible refine cQ ?_ ?_|omega|with_reducible rfl)
  refine jc [3,1,2] p' IP ⟨by rw[mW];rfl,rfl,rfl,trivial⟩ ⟨.pure rfl,.pure rfl,.pure rfl,.eq rfl,.eq rfl,trivial⟩ ?_;simp(disch:=omega)only[Ac,↓Pc,simprocAttr,Pw,↓Lq,mW];repeat'(first|with_reducible refine cQ ?_ ?_|omega|with_reducible rfl)
  repeat(first|refine Xu ?_)
  refine cd (aF.ye 4 1 0 5 (rows:=rowsOf aM P) rfl rfl (by rw[cr];rfl) (kI _) (qB _)) ?_;dsimp only[oY,oX];((try revert hK K);(repeat'(first|refine Vd X0 h3 ?_|(refine V2 X0 ?_ ?_<;>try with_reducible intro hb)|(refine Xi ?_ ?_<;>try intro ht)|refine VD ?_ ?_|exact Xx|fail))<;>try with_reducible intro K hK)
  simp(disch:=omega)only[Ac,↓Pc,simprocAttr];rw[<- an];exact Xw true [] X0
end T

