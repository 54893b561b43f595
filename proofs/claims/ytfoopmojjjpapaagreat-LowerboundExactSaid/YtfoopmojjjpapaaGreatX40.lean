import Derived.Test.YtfoopmojjjpapaaGreatX39
import Derived.Test.YtfoopmojjjpapaaGreatX36
import Derived.Test.YtfoopmojjjpapaaGreatX38
set_option linter.all false
set_option maxHeartbeats 0
set_option maxRecDepth 20000
open Nat renaming not_lt_zero→sc,add_assoc→tU,le_refl→aX,lt_or_ge→du
open List renaming getD_eq_getElem?_getD→ax,getElem?_append_right→gZ,length_append→bL,length_singleton→y7,length_set→bw,set_append_right→CN,getElem?_eq_getElem→bq,getElem?_map→bV,getElem?_set→bP,mem_singleton→c8,mem_cons→bm,getElem?_eq_none→fl,getElem?_replicate→y8,length_nil→kx,range→bk
open Int renaming toNat_natCast→cY,le_refl→kB,le_trans→za
open Go Go.Am Go.Proofs
namespace T
def fN(f:Nat->List Nd->List Nd)(nodes:List Nd):Nat->List Nd×List Int
 |0=>(nodes,[])
 |k+1=>(f k (fN f nodes k).1,(fN f nodes k).2++[((fN f nodes k).1.length:Int)])
def dR(m:ah)(rounds:Int):List Int->List (List Bool)->List Nd->List Nd
 |[],L,nodes=>nodes++[eH (jt m L rounds)]
 |c::r,L,nodes=>(fN (λo=>dR m rounds r (db L c.toNat o)) (nodes++[eH []]) (m.cls.getD c.toNat default).length).1.set nodes.length
   ⟨c,(fN (λo=>dR m rounds r (db L c.toNat o)) (nodes++[eH []]) (m.cls.getD c.toNat default).length).2,[],[],[]⟩
def jC(m:ah):List Int->Nat
 |[]=>1
 |c::r=>1+(m.cls.getD c.toNat default).length*jC m r
def Kl{m:ah}:∀ (l:List Int) (all row:Int),sY m.cls l all row=true->all<=20000->all-row+row*(jC m l:Int)<=20000
 |[],all,row,h,h2=>by
  show all-row+row*1<=20000;omega
 |c::r,all,row,h,h2=>by
  rw[sY]at h;split at h
  ·cases h
  ·have ih:=Kl r _ _ h AT;rw[jC]
   push_cast
   rw[Int.mul_add,Int.mul_one,<- Int.mul_assoc];omega
def NW{m:ah}{L:List (List Bool)}(rounds:Int)(hm:VM m)(hf:cp m L):(jt m L rounds).length<=2000/\(∀ x∈jt m L rounds,il m x=true)/\(b6 m L []).1<=(b6 m L (jt m L rounds)).1/\(b6 m L (jt m L rounds)).2=0/\b6 m L (jt m L rounds)=fZ m L (jt m L rounds):=by
 have h0:jH m L=0:=by
  unfold jH;rw[if_neg (by rw[jD.2 hm];simp),if_pos hf]
 have h1:(b6 m L []).2=0:=by rw[Ey,if_neg (by rw[h0];simp)]
 obtain⟨h2,h3⟩:=aax (m:=m) (left:=L) rounds h1;have h4:=(MS h2).2.1;refine⟨MR h2,λx hx=>?_,h3,h2,h4⟩;rw[h4]at h2;unfold fZ at h2;split at h2
 ·cases h2
 ·split at h2
  ·cases h2
  ·rename_i h6 h7;cases hb:il m x with
   |true=>rfl
   |false=>exact absurd (List.all_eq_false.2 ⟨x,hx,by simp[hb]⟩) h7
def Sg(m:ah)(rounds:Int)(P:List Nd):List Int->List (List Bool)->Nat->Prop
 |[],L,lo=>nd P lo=eH (jt m L rounds)
 |c::r,L,lo=>∃ ks,nd P lo=⟨c,ks,[],[],[]⟩/\ks.length=(m.cls.getD c.toNat default).length/\∀ o,o<ks.length->Sg m rounds P r (db L c.toNat o) (ks.getD o 0).toNat
structure ab6(m:ah)(rounds:Int)(l ab r:List Int)(L:List (List Bool))(nodes res:List Nd):Prop where
 lt:nodes.length<res.length
 le:res.length=nodes.length+jC m r
 pre:∀ i,i<nodes.length->nd res i=nd nodes i
 wQ:eS m res (λa=>a=l) nodes.length res.length ab
 sg:∀ F:List Nd,(∀ i,nodes.length<=i->i<res.length->nd F i=nd res i)->Sg m rounds F r L nodes.length
def ab7{m:ah}{rounds:Int}{l ab r:List Int}{Lf:Nat->List (List Bool)}{f:Nat->List Nd->List Nd}{nodes:List Nd}:∀ (k:Nat),(∀ o,o<k->∀ n,ab6 m rounds l ab r (Lf o) n (f o n)) ->
  (fN f nodes k).1.length=nodes.length+k*jC m r/\(∀ i,i<nodes.length->nd (fN f nodes k).1 i=nd nodes i)/\iV m (fN f nodes k).1 (λa=>a=l) nodes.length (fN f nodes k).1.length ab (fN f nodes k).2/\(fN f nodes k).2.length=k /\
   ∀ F:List Nd,(∀ i,nodes.length<=i->i<(fN f nodes k).1.length->nd F i=nd (fN f nodes k).1 i)->∀ o,o<k->Sg m rounds F r (Lf o) ((fN f nodes k).2.getD o 0).toNat
 |0,_=>⟨by rw[fN];simp,λ_ _=>rfl,.nil _ _,rfl,λ_ _ o ho=>absurd ho (sc _)⟩
 |k+1,h=>by
  obtain⟨h1,h2,h3,h4,h5⟩:=ab7 k (λo ho=>h o AT) (nodes:=nodes);have hk:=h k AT (fN f nodes k).1;rw[fN];generalize fN f nodes k=q at *;obtain⟨N,ks⟩:=q;dsimp only at *;have g1:=hk.lt;have g2:=hk.le;refine⟨by rw[g2,h1,Nat.succ_mul,tU],λi hi=>(hk.pre i AT).trans (h2 i hi),iV.snoc hk.wQ (h3.frame λi _ hi=>hk.pre i hi),by simp[h4],λF hF o ho=>?_⟩;by_cases e:o<k
  ·rw[ax,List.getElem?_append_left AT,<- ax];exact h5 F (λi h6 h7=>(hF i h6 AT).trans (hk.pre i h7)) o e
  ·obtain rfl:o=k:=AT;have e2:((ks++[(N.length:Int)]).getD o 0).toNat=N.length:=by
    rw[ax,gZ AT,h4,Nat.sub_self];simp
   rw[e2];exact hk.sg F λi h6 h7=>hF i AT h7
def ab8{m:ah}(hm:VM m){rounds:Int}{l:List Int}(bR:∀ c∈l,0<=c/\c<m.cls.length)(bx:l.Nodup):∀ (r ab:List Int) (L:List (List Bool)) (nodes:List Nd),ab++r=l->cp m L->ab6 m rounds l ab r L nodes (dR m rounds r L nodes)
 |[],ab,L,nodes,eX,hf=>by
  rw[List.append_nil]at eX;obtain⟨h1,h2,_,_,_⟩:=NW rounds hm hf;rw[dR];refine⟨IM,by simp[jC],λi hi=>Dx hi,?_,λF hF=>?_⟩
  ·rw[bL,y7];exact .leaf _ _ _ Gr h1 h2 (by rw[eX];intro cq;have:=bR _ cq;omega) eX
  ·unfold Sg;rw[hF _ (aX _) IM];exact Gr
 |c::r,ab,L,nodes,eX,hf=>by
  have bn:c∈l:=by rw[<- eX];simp
  obtain⟨mj,kH⟩:=bR c bn;obtain⟨q,rfl⟩:∃q:Nat,c=q:=⟨c.toNat,AT⟩;have hca:(q:Int) ∉ ab:=by
   rw[<- eX]at bx;intro cq;exact(List.nodup_append.1 bx).2.2 _ cq _ IM rfl
  rw[dR];rw[cY];have hK:=ab7 (m:=m) (rounds:=rounds) (l:=l) (ab:=ab++[(q:Int)]) (r:=r) (Lf:=λo=>db L q o) (f:=λo=>dR m rounds r (db L q o)) (nodes:=nodes++[eH []]) (m.cls.getD q default).length
   (λo _ n=>ab8 hm bR bx r (ab++[(q:Int)]) (db L q o) n (by rw[List.append_assoc];exact eX) (BD hf (BE _ _ _)))
  generalize fN (λo=>dR m rounds r (db L q o)) (nodes++[eH []]) (m.cls.getD q default).length=K at *;obtain⟨N,ks⟩:=K;dsimp only at hK ⊢;obtain⟨h1,h2,h3,h4,h5⟩:=hK;rw[bL,y7]at h1 h2 h3 h5;have gQ:=λi=>UZ (P:=N) (x:=⟨(q:Int),ks,[],[],[]⟩) (i:=i) (j:=nodes.length) AT;refine⟨by rw[bw];omega,by rw[bw,jC,cY];omega,λi hi=>by rw[gQ,if_neg AT,h2 i AT,Dx hi],?_,λF hF=>?_⟩
  ·rw[bw];refine .node _ _ _ q ks (by rw[gQ,if_pos rfl]) AT hca h4 ?_;exact h3.frame λi h6 h7=>by rw[gQ,if_neg AT]
  ·rw[bw]at hF;unfold Sg;rw[cY];refine⟨ks,by rw[hF _ (aX _) AT,gQ,if_pos rfl],h4,λo ho=>?_⟩;exact h5 F (λi h6 h7=>by rw[hF i AT h7,gQ,if_neg AT]) o AT
def abX(nodes:List Nd):(rowsOf aM nodes++[[AV.lit (.int .i64 (-1)),.lit (.slice none 0 0),.lit (.slice none 0 0),.lit (.slice none 0 0),.lit (.slice none 0 0)]])[nodes.length]?=some [AV.lit (.int .i64 (-1)),.lit (.slice none 0 0),.lit (.slice none 0 0),.lit (.slice none 0 0),.lit (.slice none 0 0)]/\(rowsOf aM nodes++[[AV.lit (.int .i64 (-1)),.lit (.slice none 0 0),.lit (.slice none 0 0),.lit (.slice none 0 0),.lit (.slice none 0 0)]]).set nodes.length (aM (eH []))=rowsOf aM (nodes++[eH []]):=by
 refine⟨?_,?_⟩
 ·rw[gZ (by simp[rowsOf])];simp[rowsOf]
 ·rw[CN _ _ (by simp[rowsOf])];simp[rowsOf]
def al3(m:ah)(hm:VM m)(rounds:Int)(hr:0<=rounds/\rounds<=64)(L:List (List Bool))(hf:cp m L)(nodes:List Nd)(hn:nodes.length<=1000000):
  Holds Tryz.prog 58 [.agg (aq m),.tree 1 (ints []),Oi rounds,.ref 0 1 0 m.cls.length,.ptr 1 0 0] [.arr 1 (rowsOf ay L),.var [.ref 2 5 0 nodes.length],.arr 5 (rowsOf aM nodes)] (Oi nodes.length)
   [.arr 1 (rowsOf ay L),.var [.ref 3 5 0 (dR m rounds [] L nodes).length],.gone,.arr 5 (rowsOf aM (dR m rounds [] L nodes))]:=by
 have mY:=hm.cls;have AD:=hf.1;have dm:jH m L=0:=by unfold jH;rw[if_neg (by rw[jD.2 hm];simp),if_pos hf]
 have Ax:yQ m L rounds=0:=by unfold yQ;rw[if_neg (by rw[dm];simp),if_neg AT]
 have mV:BB L:=⟨AT,λr hr=>by
  obtain⟨i,hi,rfl⟩:=List.getElem_of_mem hr;have h1:=hf.2 i hi;rw[ax,bq hi,Option.getD_some]at h1;have:=hm.opt _ (aE (l:=m.cls) (i:=i) (d:=default) AT);omega⟩
 have oC:=aam m L rounds hm.mb mV (by unfold fM;omega) Ax;rw[dR];generalize jt m L rounds=X at *;have kj:ints []=([]:List (List AV)):=rfl;obtain⟨vP,sQ⟩:=abX nodes;refine Holds.aN 100 3 [.tmp 10] Tryz.func58 ?_;repeat'(first|((fail_if_success (first|refine eO 3 ?_|refine eP 3 ?_));refine Xr X0 ?_;intro K hK)|refine Xo X0 ?_|(refine hK _ ?_;clear hK K)|(refine Xg X0 ?_ ?_<;>try intro hb)|(refine Xi ?_ ?_<;>try intro ht)|refine XY ?_|refine Xd ?_ ?_|exact Xx|fail)
 refine cd (aF.HR 5 nodes.length 5 rfl vP abU) ?_;rw[sQ];refine cd (aF.vt 5 3 (cells:=aq m) Od (by simp only[Kc,simprocAttr]) (by simp[aq])) ?_;have jE:(rowsOf aM (nodes++[eH []]))[nodes.length]?=some (aM (eH [])):=by unfold rowsOf;rw[bV];simp
 have ab9:(rowsOf aM (nodes++[eH []])).set nodes.length (aM (eH X))=rowsOf aM (nodes++[eH X]):=by
  unfold rowsOf;rw[List.map_append,CN _ _ IM];simp
 have NQ:(nodes++[eH []]).length=nodes.length+1:=IM;have bO:(nodes++[eH X]).length=nodes.length+1:=IM;rw[bO,<- ab9];have amd:∀ x:List AV,((rowsOf aM (nodes++[eH []])).set nodes.length x)[nodes.length]?=some x:=λx=>by rw[bP,if_pos rfl,if_pos (by simp[rowsOf])]
 generalize nodes++[eH []]=N1 at *;refine cd (σ':=⟨ao [(1,.tree 1 (ints [])),(2,Oi rounds),(3,.ref 0 1 0 m.cls.length),(4,.ptr 1 0 0),(5,.bY (aq m)),(11,Oi nodes.length)],[.arr 1 (rowsOf ay L),.var [.ref 3 5 0 (nodes.length+1)],.gone,.arr 5 (rowsOf aM N1)]⟩) (Xs false [0,1,2,5] X0) ?_;repeat'(first|((fail_if_success (first|refine eO 4 ?_|refine eP 4 ?_));refine Xr @kj ?_;intro K hK)|refine Xo @kj ?_|(refine hK _ ?_;clear hK K)|(refine Xg @kj ?_ ?_<;>try intro hb)|(refine Xi ?_ ?_<;>try intro ht)|refine Xy ?_|refine Xd ?_ ?_|exact Xx|fail)
 refine lI [] (.take 0 (.take 4 (.take 5 (.take 6 (.take 7 (.both 1 (.both 2 (.both 3 (.take 8 (.take 9 (.take 10 (.take 11 (.take 12 (.take 13 (.take 14 .nil))))))) 8 (.take 3 (.take 9 (.take 10 (.take 11 (.take 12 (.take 13 (.take 14 .nil)))))))) 8 (.take 2 (.take 3 (.take 9 (.take 10 (.take 11 (.take 12 (.take 13 (.take 14 .nil))))))))) 8 (.take 1 (.take 2 (.take 3 (.take 9 (.take 10 (.take 11 (.take 12 (.take 13 (.take 14 .nil))))))))))))))) rfl IP (by decide +kernel) ?_;simp(disch:=omega)only[Ac,↓Pc,simprocAttr,Pw,↓Lq,jE];repeat'(first|with_reducible refine And.intro ?_ ?_|omega|with_reducible rfl)
 all_goals
  refine rj [] oC IP trivial ⟨.pure rfl,bT.cC (rows:=rowsOf ay L) rfl (kI _) (by rw[cr];exact AD.symm) IM (qB _),.pure rfl,trivial⟩ rfl (λo ho=>by simp only[c8]at ho;subst ho;intro row bE v hv;simp only[rowsOf,List.mem_map]at bE;obtain⟨x,_,rfl⟩:=bE;simp only[aP,bm,List.not_mem_nil,or_false]at hv;rcases hv with rfl|rfl|rfl|rfl<;>rfl) ?_;simp(disch:=omega)only[Ac,↓Pc,simprocAttr,Pw,↓Lq,jE,aM,eH,mW];repeat'(first|with_reducible refine And.intro ?_ ?_|omega|with_reducible rfl)
 all_goals
  repeat(first|refine Xu ?_)
  refine cd (aF.Hm 4 3 nodes.length 2 4 5 (rows:=rowsOf aP X) rfl (amd _) rfl (by rw[cr];rfl) IP (kI _) (qB _)) ?_;dsimp only[List.set_cons_succ,List.set_cons_zero];rw[List.set_set];((try revert hK K);(repeat'(first|refine Vb X0 ?_|(refine V2 X0 ?_ ?_<;>try with_reducible intro hb)|(refine Xi ?_ ?_<;>try intro ht)|refine VD ?_ ?_|exact Xx|fail))<;>try with_reducible intro K hK)
  change nD 3 ⟨_,[_,_,.gone,.arr 5 ((rowsOf aM N1).set nodes.length (aM (eH X))),.gone]⟩ _ _ [_,_,.gone,.arr 5 ((rowsOf aM N1).set nodes.length (aM (eH X)))];rw[ab9];exact Xw false [0,1,2,3] X0
def NX(f:List Int->Int×List Int)(c:Nat)(row:List Bool)(P:List Int)(k:Nat):∀ j,(iC f c row P (k+j)).1<=(iC f c row P k).1
 |0=>kB _
 |j+1=>by
  have:=NX f c row P k j;rw[<- tU,iC];split
  ·dsimp only;omega
  ·exact this
def ab'{m:ah}{left:List (List Bool)}(hm:VM m){plan:List Int}(hp:FP m plan)(bR:uz m left plan):∀ (d c:Nat) (P:List Int),c+d=m.cls.length->P.length=m.cls.length->(∀ j,j<c->P.getD j 0=plan.getD j 0)->(eQ m left d P).1<=pz (rK m plan) 0
 |0,c,P,hc,hl,h=>by
  have e:P=plan:=by
   apply List.ext_getElem
   ·rw[hl,hp.len]
   ·intro j h1 h2;have:=h j AT;rw[ax,ax,bq h1,bq h2]at this;exact this
  subst e;rw[eQ];dsimp only;rw[ZV hm Dk IP IM];dsimp only;rw[Gq hm hp _ Dk (ZU hp) [] IM];exact kB _
 |d+1,c,P,hc,hl,h=>by
  have e:m.cls.length-(d+1)=c:=AT;have bn:c<m.cls.length:=AT;have hg:=iN.1 (hp.get c (by rw[hp.len];exact bn));rw[cY]at hg;obtain⟨k,hk⟩:∃k:Nat,plan.getD c 0=k:=⟨(plan.getD c 0).toNat,AT⟩;have hr:=bR c bn;rw[hk,cY]at hr;rw[eQ,e];obtain⟨j,hj⟩:∃j,(m.cls.getD c default).length=k+1+j:=⟨(m.cls.getD c default).length-(k+1),AT⟩;rw[hj];refine za (NX _ _ _ _ (k+1) j) ?_;rw[iC,if_pos hr];dsimp only;have jl:=Dr (λP hP=>Gb m left d P hP) c (left.getD c default) hl k;have a7:=λj (hj:j<c)=>HX hj (left.getD c default) P (λQ=>MP m left d Q j AT) k;generalize iC (eQ m left d) c (left.getD c default) P k=st at *;have ih:=ab' hm hp bR d (c+1) (st.2.set c (k:Int)) AT (by rw[bw];exact jl) (λj hj=>by
   by_cases e:j=c
   ·subst e;rw[hk,ax,bP];simp[jl,bn]
   ·rw[HW _ _ _ _ e,a7 j AT,h j AT])
  omega
def ame{m:ah}{left:List (List Bool)}(hm:VM m){plan:List Int}(hp:FP m plan)(bR:uz m left plan):Bx m left<=pz (rK m plan) 0 :=
 ab' hm hp bR m.cls.length 0 _ AT IM λj hj=>absurd hj (sc _)
def amf(m:ah)(left:List (List Bool)):∀ (d:Nat) (P:List Int),(eQ m left d P).1<=1099511627776
 |0,P=>by
  rw[eQ];dsimp only;unfold b6;split
  ·show(0:Int)<=_;decide
  ·unfold fZ;split
   ·show(0:Int)<=_;decide
   ·split
    ·show(0:Int)<=_;decide
    ·exact aab _ _ _
 |d+1,P=>by
  rw[eQ];have:=NX (eQ m left d) (m.cls.length-(d+1)) (left.getD (m.cls.length-(d+1)) default) P 0 (m.cls.getD (m.cls.length-(d+1)) default).length;rw[Nat.zero_add]at this;exact this
def aca{m:ah}{rounds:Int}{P:List Nd}(hd:Down P):∀ (r:List Int) (L:List (List Bool)) (lo:Nat) (ab:List Int),(∀ c∈r,0<=c)->lo<P.length->Sg m rounds P r L lo->cp m L->∀ t∈vs P (lo,L,ab),(nd P t.1).cls = -1->(nd P t.1).dT=jt m t.2.1 rounds/\cp m t.2.1
 |[],L,lo,ab,hr,gN,h,hf,t,ht,hc=>by
  unfold Sg at h;rw[wR hd gN]at ht;have hk:qF P (lo,L,ab)=[]:=by
   unfold qF iO;dsimp only;rw[h];rfl
  rw[hk]at ht;simp only[List.reverse_nil,List.flatMap_nil,c8]at ht;subst ht;dsimp only;rw[h];exact⟨rfl,hf⟩
 |c::r,L,lo,ab,hr,gN,h,hf,t,ht,hc=>by
  unfold Sg at h;obtain⟨ks,h1,h2,h3⟩:=h;rw[wR hd gN,bm]at ht;rcases ht with rfl|ht
  ·dsimp only at hc;rw[h1]at hc;have:=hr c IM;dsimp only at hc;omega
  ·obtain⟨u,hu,ht⟩:=List.mem_flatMap.1 ht;obtain⟨o,ho,rfl⟩:=wS (List.mem_reverse.1 hu);have hk:=yF hd (s:=(lo,L,ab)) gN ho;dsimp only at ho;rw[h1]at ho;dsimp only at ho;have e:lg P (lo,L,ab) o=((ks.getD o 0).toNat,db L c.toNat o,ab++[c]):=by
    unfold lg;dsimp only;rw[h1]
   rw[e]at hk ht;exact aca hd r (db L c.toNat o) _ (ab++[c]) (λx hx=>hr x (by simp[hx])) hk.2.1 (h3 o ho) (BD hf (BE _ _ _)) t ht hc
def amg{m:ah}{x:List (List Bool)}(hm:VM m)(h:cp m x):KI x (cg m):=λi j hb=>by
 have ha:cg m=cu m:=by unfold cg;rw[if_pos (jD.2 hm)]
 have hi:i<x.length:=by
  rcases du i x.length with h1|h1
  ·exact h1
  ·rw[ax (l:=x),fl h1]at hb;cases hb
 have hj:j<(x.getD i default).length:=by
  rcases du j (x.getD i default).length with h1|h1
  ·exact h1
  ·rw[ax,fl h1]at hb;cases hb
 rw[h.2 i hi]at hj;rw[ha];unfold cu;rw[gR _ _ _ (by rw[<- h.1];exact hi),ax,y8,if_pos hj];rfl
section
variable {m:ah} {l:List Int} {rounds:Int} (hm:VM m) (bR:∀ c∈l,0<=c/\c<m.cls.length) (bx:l.Nodup) (aJ:jC m l<=20000)
include hm bR bx aJ
def Rj :∃n,oB m (dR m rounds l (cg m) [])=(n,true)/\(b6 m (cg m) []).1<=n/\Sg m rounds (dR m rounds l (cg m) []) l (cg m) 0/\km m (dR m rounds l (cg m) [])=true/\eS m (dR m rounds l (cg m) []) (λa=>a=l) 0 (dR m rounds l (cg m) []).length []:=by
 have yY:=zP hm;have h:=ab8 hm (rounds:=rounds) bR bx l [] (cg m) [] rfl yY;have px:=h.wQ;have hle:=h.le;rw[kx]at px hle;have wN:=h.sg _ (λ_ _ _=>rfl);rw[kx]at wN;have aS:=h.lt;rw[kx]at aS;generalize dR m rounds l (cg m) []=P at *;have jl:P.length<=20000:=AT;have mo:=eS.shaped (show eS m _ _ 0 _ [] from px) jl;obtain⟨n,h1,h2⟩:=eS.Ds hm (show eS m _ _ 0 _ [] from px) jl;refine⟨n,h1,h2 _ ?_ λs hs bn=>?_,wN,mo,px⟩
 ·obtain⟨_,_,h3,h4,_⟩:=NW rounds hm yY;exact za h3 (MS h4).2.2
 ·obtain⟨a1,a2⟩:=aca (yk mo) l (cg m) 0 [] (λc hc=>(bR c hc).1) aS wN yY s hs bn;obtain⟨_,_,b3,b4,b5⟩:=NW rounds hm a2;rw[a1,<- b5];refine za ?_ b3;have c1:jH m (cg m)=0:=by unfold jH;rw[if_neg (by rw[jD.2 hm];simp),if_pos yY]
  have c2:jH m s.2.1=0:=by unfold jH;rw[if_neg (by rw[jD.2 hm];simp),if_pos a2]
  rw[Ey,Ey,if_neg (by rw[c1];simp),if_neg (by rw[c2];simp)];exact ae' hm yY a2 (amg hm a2) _
end
def amh{m:ah}{s:dS}(hA:Ls m s)(h:∀ i,i<m.cls.length->(i:Int)∈s.2.2):∃plan,FP m plan/\BF m s.2.1 plan:=by
 have hex:∀ i,i<m.cls.length->∃ o,o<(m.cls.getD i default).length/\s.2.1.getD i default=mZ (m.cls.getD i default).length o:=λi hi=>by
  obtain⟨_,_,o,h1,h2⟩:=hA.2 (i:Int) (h i hi);rw[cY]at h1 h2;exact⟨o,h1,h2⟩
 have kM :∃f:Nat->Nat,∀ i,i<m.cls.length->f i<(m.cls.getD i default).length/\s.2.1.getD i default=mZ (m.cls.getD i default).length (f i):=by
  classical
  refine⟨λi=>if hi:i<m.cls.length then Classical.choose (hex i hi) else 0,λi hi=>?_⟩;dsimp only;rw[dif_pos hi];exact Classical.choose_spec (hex i hi)
 obtain⟨f,hf⟩:=kM;have ij:∀ i,i<m.cls.length->((bk m.cls.length).map λi=>(f i:Int)).getD i 0=(f i:Int):=λi hi=>by
  rw[ax,bV,List.getElem?_range hi];rfl
 refine⟨(bk m.cls.length).map λi=>(f i:Int),⟨IM,λj hj=>?_⟩,λi hi j=>?_⟩
 ·have hj:j<m.cls.length:=by simpa using hj
  have:=(hf j hj).1;rw[ij j hj];exact iN.2 ⟨AT,AT,AT,by rw[cY];omega⟩
 ·rw[(hf i hi).2,RX (hf i hi).1,ij i hi,cY]
def ami{m:ah}(hm:VM m){plan:List Int}(hp:FP m plan):uz m (cg m) plan:=λi hi=>by
 have hg:=iN.1 (hp.get i (by rw[hp.len];exact hi));rw[cY]at hg;have ha:cg m=cu m:=by unfold cg;rw[if_pos (jD.2 hm)]
 rw[ha];unfold cu;rw[gR _ _ _ hi,ax,y8,if_pos AT];rfl
def aef{m:ah}{l:List Int}{P:List Nd}{n:Int}(hm:VM m)(eT:∀ i,i<m.cls.length->(i:Int)∈l)(px:eS m P (λa=>a=l) 0 P.length [])(jl:P.length<=20000)(h1:oB m P=(n,true)):n=Bx m (cg m):=by
 have mo:=eS.shaped px jl;have aS:=px.lt;obtain⟨n',Bg,h2⟩:=eS.Ds hm px jl;have e:n'=n:=by rw[h1]at Bg;exact(congrArg Prod.fst Bg).symm
 subst e;refine Int.le_antisymm (ai5 hm (KA (Kz h1).2.2).1 λplan hp _=>agn h1 hp) (h2 _ (amf m _ _ _) λs hs bn=>?_);have hq:=eS.leaves (yk mo) px (aX _) (cg m) s hs bn;have hA:=af' mo _ (root m) (by show 0<_;exact aS) (aX _) ⟨zP hm,λc hc=>by cases hc⟩ s hs;obtain⟨plan,NY,qA⟩:=amh hA (λi hi=>by rw[hq];exact eT i hi);have hv:=(eS.B9 (yk mo) px (aX _) (cg m) s hs).2 bn;refine za (ame hm NY (ami hm NY)) ?_;have h3:=hv.2;unfold fZ at h3 ⊢;split at h3
 ·cases h3
 split at h3
 ·cases h3
 rename_i h4 h5;rw[if_neg h4,if_neg h5];rw[Bool.not_eq_false,List.all_eq_true]at h5;exact Int.le_of_eq (Gq hm NY _ hA.1 qA _ h5).symm
end T

