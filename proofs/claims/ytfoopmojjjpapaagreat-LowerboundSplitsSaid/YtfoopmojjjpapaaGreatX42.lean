import Derived.Test.YtfoopmojjjpapaaGreatX41
import Derived.Test.YtfoopmojjjpapaaGreatX39
import Derived.Test.YtfoopmojjjpapaaGreatX40
set_option linter.all false
set_option maxHeartbeats 0
set_option maxRecDepth 20000
open List renaming getD_eq_getElem?_getD→ay,getElem?_append_right→iq,length_append→bN,length_singleton→yv,length_set→bJ,set_append_right→AS,getElem?_set→bU,mem_singleton→cS,mem_cons→bu,getElem?_eq_none→dN,length_nil→ln
open Nat renaming le_refl→aZ,lt_or_ge→dT
open Int renaming toNat_natCast→dg,le_trans→Hl
open Go Go.Am Go.Proofs
namespace T
def gQ(f:Nat->List Nd->List Nd)(nodes:List Nd):Nat->List Nd×List Int
 |0=>(nodes,[])
 |k+1=>(f k (gQ f nodes k).1,(gQ f nodes k).2++[((gQ f nodes k).1.length:Int)])
def eH(m:ah)(rounds:Int):List Int->List (List Bool)->List Nd->List Nd
 |[],L,nodes=>nodes++[eP (jJ m L rounds)]
 |c::r,L,nodes=>(gQ (λo=>eH m rounds r (cM L c.toNat o)) (nodes++[eP []]) (m.cls.getD c.toNat default).length).1.set nodes.length
   ⟨c,(gQ (λo=>eH m rounds r (cM L c.toNat o)) (nodes++[eP []]) (m.cls.getD c.toNat default).length).2,[],[],[]⟩
def ke(m:ah):List Int->Nat
 |[]=>1
 |c::r=>1+(m.cls.getD c.toNat default).length*ke m r
def MG{m:ah}:∀ (l:List Int) (all row:Int),rY m.cls l all row=true->all<=20000->all-row+row*(ke m l:Int)<=20000
 |[],all,row,h,h2=>by
  show all-row+row*1<=20000;omega
 |c::r,all,row,h,h2=>by
  rw[rY]at h;split at h
  ·cases h
  ·have ih:=MG r _ _ h Ey;rw[ke]
   push_cast
   rw[Int.mul_add,Int.mul_one,<- Int.mul_assoc];omega
def O7{m:ah}{L:List (List Bool)}(rounds:Int)(hm:VM m)(hf:cK m L):(jJ m L rounds).length<=2000/\(∀ x∈jJ m L rounds,jx m x=true)/\(cp m L []).1<=(cp m L (jJ m L rounds)).1/\(cp m L (jJ m L rounds)).2=0/\cp m L (jJ m L rounds)=gZ m L (jJ m L rounds):=by
 have h0:kj m L=0:=by
  unfold kj;rw[if_neg (by rw[kf.2 hm];simp),if_pos hf]
 have h1:(cp m L []).2=0:=by rw[GC,if_neg (by rw[h0];simp)]
 obtain⟨h2,h3⟩:=ac7 (m:=m) (left:=L) rounds h1;have h4:=(O8 h2).2.1;refine⟨O9 h2,λx hx=>?_,h3,h2,h4⟩;rw[h4]at h2;unfold gZ at h2;split at h2
 ·cases h2
 ·split at h2
  ·cases h2
  ·rename_i h6 h7;cases hb:jx m x with
   |true=>rfl
   |false=>exact absurd (List.all_eq_false.2 ⟨x,hx,by simp[hb]⟩) h7
def Sg(m:ah)(rounds:Int)(P:List Nd):List Int->List (List Bool)->Nat->Prop
 |[],L,lo=>nd P lo=eP (jJ m L rounds)
 |c::r,L,lo=>∃ ks,nd P lo=⟨c,ks,[],[],[]⟩/\ks.length=(m.cls.getD c.toNat default).length/\∀ o,o<ks.length->Sg m rounds P r (cM L c.toNat o) (ks.getD o 0).toNat
structure ac8(m:ah)(rounds:Int)(l ab r:List Int)(L:List (List Bool))(nodes res:List Nd):Prop where
 lt:nodes.length<res.length
 le:res.length=nodes.length+ke m r
 pre:∀ i,i<nodes.length->nd res i=nd nodes i
 zg:gz m res (λa=>a=l) nodes.length res.length ab
 sg:∀ F:List Nd,(∀ i,nodes.length<=i->i<res.length->nd F i=nd res i)->Sg m rounds F r L nodes.length
def ac9{m:ah}{rounds:Int}{l ab r:List Int}{Lf:Nat->List (List Bool)}{f:Nat->List Nd->List Nd}{nodes:List Nd}:∀ (k:Nat),(∀ o,o<k->∀ n,ac8 m rounds l ab r (Lf o) n (f o n)) ->
  (gQ f nodes k).1.length=nodes.length+k*ke m r/\(∀ i,i<nodes.length->nd (gQ f nodes k).1 i=nd nodes i)/\jI m (gQ f nodes k).1 (λa=>a=l) nodes.length (gQ f nodes k).1.length ab (gQ f nodes k).2/\(gQ f nodes k).2.length=k /\
   ∀ F:List Nd,(∀ i,nodes.length<=i->i<(gQ f nodes k).1.length->nd F i=nd (gQ f nodes k).1 i)->∀ o,o<k->Sg m rounds F r (Lf o) ((gQ f nodes k).2.getD o 0).toNat
 |0,_=>⟨by rw[gQ];simp,λ_ _=>rfl,.nil _ _,rfl,λ_ _ o ho=>absurd ho (Nat.not_lt_zero _)⟩
 |k+1,h=>by
  obtain⟨h1,h2,h3,h4,h5⟩:=ac9 k (λo ho=>h o Ey) (nodes:=nodes);have hk:=h k Ey (gQ f nodes k).1;rw[gQ];generalize gQ f nodes k=q at *;obtain⟨N,ks⟩:=q;dsimp only at *;have g1:=hk.lt;have g2:=hk.le;refine⟨by rw[g2,h1,Nat.succ_mul,Nat.add_assoc],λi hi=>(hk.pre i Ey).trans (h2 i hi),jI.snoc hk.zg (h3.frame λi _ hi=>hk.pre i hi),by simp[h4],λF hF o ho=>?_⟩;by_cases e:o<k
  ·rw[ay,List.getElem?_append_left Ey,<- ay];exact h5 F (λi h6 h7=>(hF i h6 Ey).trans (hk.pre i h7)) o e
  ·obtain rfl:o=k:=Ey;have e2:((ks++[(N.length:Int)]).getD o 0).toNat=N.length:=by
    rw[ay,iq Ey,h4,Nat.sub_self];simp
   rw[e2];exact hk.sg F λi h6 h7=>hF i Ey h7
def ac'{m:ah}(hm:VM m){rounds:Int}{l:List Int}(da:∀ c∈l,0<=c/\c<m.cls.length)(bG:l.Nodup):∀ (r ab:List Int) (L:List (List Bool)) (nodes:List Nd),ab++r=l->cK m L->ac8 m rounds l ab r L nodes (eH m rounds r L nodes)
 |[],ab,L,nodes,gN,hf=>by
  rw[List.append_nil]at gN;obtain⟨h1,h2,_,_,_⟩:=O7 rounds hm hf;rw[eH];refine⟨G9,by simp[ke],λi hi=>Gp hi,?_,λF hF=>?_⟩
  ·rw[bN,yv];exact .leaf _ _ _ JG h1 h2 (by rw[gN];intro bR;have:=da _ bR;omega) gN
  ·unfold Sg;rw[hF _ (aZ _) G9];exact JG
 |c::r,ab,L,nodes,gN,hf=>by
  have bI:c∈l:=by rw[<- gN];simp
  obtain⟨mD,kT⟩:=da c bI;obtain⟨q,rfl⟩:∃q:Nat,c=q:=⟨c.toNat,Ey⟩;have xI:(q:Int) ∉ ab:=by
   rw[<- gN]at bG;intro bR;exact(List.nodup_append.1 bG).2.2 _ bR _ G9 rfl
  rw[eH];rw[dg];have hK:=ac9 (m:=m) (rounds:=rounds) (l:=l) (ab:=ab++[(q:Int)]) (r:=r) (Lf:=λo=>cM L q o) (f:=λo=>eH m rounds r (cM L q o)) (nodes:=nodes++[eP []]) (m.cls.getD q default).length
   (λo _ n=>ac' hm da bG r (ab++[(q:Int)]) (cM L q o) n (by rw[List.append_assoc];exact gN) (Ch hf (D1 _ _ _)))
  generalize gQ (λo=>eH m rounds r (cM L q o)) (nodes++[eP []]) (m.cls.getD q default).length=K at *;obtain⟨N,ks⟩:=K;dsimp only at hK ⊢;obtain⟨h1,h2,h3,h4,h5⟩:=hK;rw[bN,yv]at h1 h2 h3 h5;have iP:=λi=>acS (P:=N) (x:=⟨(q:Int),ks,[],[],[]⟩) (i:=i) (j:=nodes.length) Ey;refine⟨by rw[bJ];omega,by rw[bJ,ke,dg];omega,λi hi=>by rw[iP,if_neg Ey,h2 i Ey,Gp hi],?_,λF hF=>?_⟩
  ·rw[bJ];refine .node _ _ _ q ks (by rw[iP,if_pos rfl]) Ey xI h4 ?_;exact h3.frame λi h6 h7=>by rw[iP,if_neg Ey]
  ·rw[bJ]at hF;unfold Sg;rw[dg];refine⟨ks,by rw[hF _ (aZ _) Ey,iP,if_pos rfl],h4,λo ho=>?_⟩;exact h5 F (λi h6 h7=>by rw[hF i Ey h7,iP,if_neg Ey]) o Ey
def ada(nodes:List Nd):(rowsOf ax nodes++[[AV.lit (.int .i64 (-1)),.lit (.slice none 0 0),.lit (.slice none 0 0),.lit (.slice none 0 0),.lit (.slice none 0 0)]])[nodes.length]?=some [AV.lit (.int .i64 (-1)),.lit (.slice none 0 0),.lit (.slice none 0 0),.lit (.slice none 0 0),.lit (.slice none 0 0)]/\(rowsOf ax nodes++[[AV.lit (.int .i64 (-1)),.lit (.slice none 0 0),.lit (.slice none 0 0),.lit (.slice none 0 0),.lit (.slice none 0 0)]]).set nodes.length (ax (eP []))=rowsOf ax (nodes++[eP []]):=by
 refine⟨?_,?_⟩
 ·rw[iq (by simp[rowsOf])];simp[rowsOf]
 ·rw[AS _ _ (by simp[rowsOf])];simp[rowsOf]
def al4(m:ah)(hm:VM m)(rounds:Int)(hr:0<=rounds/\rounds<=64)(L:List (List Bool))(hf:cK m L)(nodes:List Nd)(hn:nodes.length<=1000000):
  Holds Tryz.prog 58 [.agg (ao m),.tree 1 (ints []),QM rounds,.ref 0 1 0 m.cls.length,.ptr 1 0 0] [.arr 1 (rowsOf aA L),.var [.ref 2 5 0 nodes.length],.arr 5 (rowsOf ax nodes)] (QM nodes.length)
   [.arr 1 (rowsOf aA L),.var [.ref 3 5 0 (eH m rounds [] L nodes).length],.gone,.arr 5 (rowsOf ax (eH m rounds [] L nodes))]:=by
 have np:=hm.cls;have Ck:=hf.1;have dF:kj m L=0:=by unfold kj;rw[if_neg (by rw[kf.2 hm];simp),if_pos hf]
 have Cl:Ax m L rounds=0:=by unfold Ax;rw[if_neg (by rw[dF];simp),if_neg Ey]
 have lX:BB L:=⟨Ey,λr hr=>by
  obtain⟨i,hi,rfl⟩:=List.getElem_of_mem hr;have h1:=hf.2 i hi;rw[ay,List.getElem?_eq_getElem hi,Option.getD_some]at h1;have:=hm.opt _ (aF (l:=m.cls) (i:=i) (d:=default) Ey);omega⟩
 have qj:=adb m L rounds hm.mb lX (by unfold cY;omega) Cl;rw[eH];generalize jJ m L rounds=X at *;have fY:ints []=([]:List (List AV)):=rfl;obtain⟨u4,xr⟩:=ada nodes;refine Holds.aM 100 3 [.tmp 10] Tryz.func58 ?_;repeat'(first|((fail_if_success (first|refine dW 3 ?_|refine dX 3 ?_));refine Xr X0 ?_;intro K hK)|refine Xo X0 ?_|(refine hK _ ?_;clear hK K)|(refine Xg X0 ?_ ?_<;>try intro hb)|(refine Xi ?_ ?_<;>try intro ht)|refine XY ?_|refine Xd ?_ ?_|exact Xx|fail)
 refine bP (aD.IJ 5 nodes.length 5 rfl u4 ac6) ?_;rw[xr];refine bP (aD.uK 5 3 (cells:=ao m) QI (by simp only[Kc,simprocAttr]) (by simp[ao])) ?_;have mf:(rowsOf ax (nodes++[eP []]))[nodes.length]?=some (ax (eP [])):=by unfold rowsOf;rw[List.getElem?_map];simp
 have ade:(rowsOf ax (nodes++[eP []])).set nodes.length (ax (eP X))=rowsOf ax (nodes++[eP X]):=by
  unfold rowsOf;rw[List.map_append,AS _ _ G9];simp
 have O':(nodes++[eP []]).length=nodes.length+1:=G9;have bg:(nodes++[eP X]).length=nodes.length+1:=G9;rw[bg,<- ade];have al5:∀ x:List AV,((rowsOf ax (nodes++[eP []])).set nodes.length x)[nodes.length]?=some x:=λx=>by rw[bU,if_pos rfl,if_pos (by simp[rowsOf])]
 generalize nodes++[eP []]=N1 at *;refine bP (σ':=⟨ar [(1,.tree 1 (ints [])),(2,QM rounds),(3,.ref 0 1 0 m.cls.length),(4,.ptr 1 0 0),(5,.b6 (ao m)),(11,QM nodes.length)],[.arr 1 (rowsOf aA L),.var [.ref 3 5 0 (nodes.length+1)],.gone,.arr 5 (rowsOf ax N1)]⟩) (Xs false [0,1,2,5] X0) ?_;repeat'(first|((fail_if_success (first|refine dW 4 ?_|refine dX 4 ?_));refine Xr @fY ?_;intro K hK)|refine Xo @fY ?_|(refine hK _ ?_;clear hK K)|(refine Xg @fY ?_ ?_<;>try intro hb)|(refine Xi ?_ ?_<;>try intro ht)|refine Xy ?_|refine Xd ?_ ?_|exact Xx|fail)
 refine nf [] (.take 0 (.take 4 (.take 5 (.take 6 (.take 7 (.both 1 (.both 2 (.both 3 (.take 8 (.take 9 (.take 10 (.take 11 (.take 12 (.take 13 (.take 14 .nil))))))) 8 (.take 3 (.take 9 (.take 10 (.take 11 (.take 12 (.take 13 (.take 14 .nil)))))))) 8 (.take 2 (.take 3 (.take 9 (.take 10 (.take 11 (.take 12 (.take 13 (.take 14 .nil))))))))) 8 (.take 1 (.take 2 (.take 3 (.take 9 (.take 10 (.take 11 (.take 12 (.take 13 (.take 14 .nil))))))))))))))) rfl Hg (by decide +kernel) ?_;simp(disch:=omega)only[Ac,↓Pc,simprocAttr,Pw,↓Lq,mf];repeat'(first|with_reducible refine And.intro ?_ ?_|omega|with_reducible rfl)
 all_goals
  refine ug [] qj Hg trivial ⟨.pure rfl,a7.cN (rows:=rowsOf aA L) rfl (iA _) (by rw[cF];exact Ck.symm) G9 (mF _),.pure rfl,trivial⟩ rfl (λo ho=>by simp only[cS]at ho;subst ho;intro row bK v hv;simp only[rowsOf,List.mem_map]at bK;obtain⟨x,_,rfl⟩:=bK;simp only[aU,bu,List.not_mem_nil,or_false]at hv;rcases hv with rfl|rfl|rfl|rfl<;>rfl) ?_;simp(disch:=omega)only[Ac,↓Pc,simprocAttr,Pw,↓Lq,mf,ax,eP,oz];repeat'(first|with_reducible refine And.intro ?_ ?_|omega|with_reducible rfl)
 all_goals
  repeat(first|refine Xu ?_)
  refine bP (aD.IH 4 3 nodes.length 2 4 5 (rows:=rowsOf aU X) rfl (al5 _) rfl (by rw[cF];rfl) Hg (iA _) (mF _)) ?_;dsimp only[List.set_cons_succ,List.set_cons_zero];rw[List.set_set];((try revert hK K);(repeat'(first|refine Vb X0 ?_|(refine V2 X0 ?_ ?_<;>try with_reducible intro hb)|(refine Xi ?_ ?_<;>try intro ht)|refine VD ?_ ?_|exact Xx|fail))<;>try with_reducible intro K hK)
  change oU 3 ⟨_,[_,_,.gone,.arr 5 ((rowsOf ax N1).set nodes.length (ax (eP X))),.gone]⟩ _ _ [_,_,.gone,.arr 5 ((rowsOf ax N1).set nodes.length (ax (eP X)))];rw[ade];exact Xw false [0,1,2,3] X0
structure GD(m:ah)(left:List (List Bool))(c:Nat)(P:List Int):Prop where
 len:P.length=m.cls.length
 get:∀ j,j<c->(0<=P.getD j 0/\P.getD j 0<(m.cls.getD j default).length)/\(left.getD j default).getD (P.getD j 0).toNat false=true
def al6(P:List Int)(c j:Nat)(v:Int)(h:j≠c):(P.set c v).getD j 0=P.getD j 0:=by
 rw[ay,List.getElem?_set_ne (Ne.symm h),<- ay]
def GD.put{m:ah}{left:List (List Bool)}{c:Nat}{P:List Int}(h:GD m left c P)(hc:c<m.cls.length){k:Nat}(hk:k<(m.cls.getD c default).length)(hb:(left.getD c default).getD k false=true):GD m left (c+1) (P.set c (k:Int)):=by
 refine⟨by rw[bJ];exact h.len,λj hj=>?_⟩;by_cases e:j=c
 ·subst e;have e2:(P.set j (k:Int)).getD j 0=(k:Int):=by rw[ay,bU];simp[h.len,hc]
  rw[e2];exact⟨⟨Ey,Ey⟩,by rw[dg];exact hb⟩
 ·rw[al6 _ _ _ _ e];exact h.get j Ey
def GD.full{m:ah}{left:List (List Bool)}{P:List Int}(h:GD m left m.cls.length P):FP m P/\InP m left P:=by
 refine⟨⟨h.len,λj hj=>?_⟩,λi hi=>(h.get i hi).2⟩;rw[h.len]at hj;have:=h.get j hj;exact k0.2 ⟨Ey,Ey,this.1.1,by rw[dg];exact this.1.2⟩
section
variable {m:ah} {left:List (List Bool)} (hm:VM m) {b:Int} (hb:b<=1099511627776) (hP:∀ plan,FP m plan->InP m left plan->b<=yS (BN m plan) 0)
include hm hb hP
end
def adf{m:ah}{rounds:Int}{P:List Nd}(hd:Down P):∀ (r:List Int) (L:List (List Bool)) (lo:Nat) (ab:List Int),(∀ c∈r,0<=c)->lo<P.length->Sg m rounds P r L lo->cK m L->∀ t∈vs P (lo,L,ab),(nd P t.1).cls = -1->(nd P t.1).df=jJ m t.2.1 rounds/\cK m t.2.1
 |[],L,lo,ab,hr,gI,h,hf,t,ht,hc=>by
  unfold Sg at h;rw[Cg hd gI]at ht;have hk:pz P (lo,L,ab)=[]:=by
   unfold pz jq;dsimp only;rw[h];rfl
  rw[hk]at ht;simp only[List.reverse_nil,List.flatMap_nil,cS]at ht;subst ht;dsimp only;rw[h];exact⟨rfl,hf⟩
 |c::r,L,lo,ab,hr,gI,h,hf,t,ht,hc=>by
  unfold Sg at h;obtain⟨ks,h1,h2,h3⟩:=h;rw[Cg hd gI,bu]at ht;rcases ht with rfl|ht
  ·dsimp only at hc;rw[h1]at hc;have:=hr c G9;dsimp only at hc;omega
  ·obtain⟨u,hu,ht⟩:=List.mem_flatMap.1 ht;obtain⟨o,ho,rfl⟩:=wL (List.mem_reverse.1 hu);have hk:=yf hd (s:=(lo,L,ab)) gI ho;dsimp only at ho;rw[h1]at ho;dsimp only at ho;have e:mP P (lo,L,ab) o=((ks.getD o 0).toNat,cM L c.toNat o,ab++[c]):=by
    unfold mP;dsimp only;rw[h1]
   rw[e]at hk ht;exact adf hd r (cM L c.toNat o) _ (ab++[c]) (λx hx=>hr x (by simp[hx])) hk.2.1 (h3 o ho) (Ch hf (D1 _ _ _)) t ht hc
def al7{m:ah}{x:List (List Bool)}(hm:VM m)(h:cK m x):OT x (b9 m):=λi j hb=>by
 have ha:b9 m=fZ m:=by unfold b9;rw[if_pos (kf.2 hm)]
 have hi:i<x.length:=by
  rcases dT i x.length with h1|h1
  ·exact h1
  ·rw[ay (l:=x),dN h1]at hb;cases hb
 have hj:j<(x.getD i default).length:=by
  rcases dT j (x.getD i default).length with h1|h1
  ·exact h1
  ·rw[ay,dN h1]at hb;cases hb
 rw[h.2 i hi]at hj;rw[ha];unfold fZ;rw[kD _ _ _ (by rw[<- h.1];exact hi),ay,List.getElem?_replicate,if_pos hj];rfl
section
variable {m:ah} {l:List Int} {rounds:Int} (hm:VM m) (da:∀ c∈l,0<=c/\c<m.cls.length) (bG:l.Nodup) (aO:ke m l<=20000)
include hm da bG aO
def U4 :∃n,mh m (eH m rounds l (b9 m) [])=(n,true)/\(cp m (b9 m) []).1<=n/\Sg m rounds (eH m rounds l (b9 m) []) l (b9 m) 0/\jk m (eH m rounds l (b9 m) [])=true/\gz m (eH m rounds l (b9 m) []) (λa=>a=l) 0 (eH m rounds l (b9 m) []).length []:=by
 have Ay:=D5 hm;have h:=ac' hm (rounds:=rounds) da bG l [] (b9 m) [] rfl Ay;have pX:=h.zg;have hle:=h.le;rw[ln]at pX hle;have uM:=h.sg _ (λ_ _ _=>rfl);rw[ln]at uM;have aX:=h.lt;rw[ln]at aX;generalize eH m rounds l (b9 m) []=P at *;have nm:P.length<=20000:=Ey;have oD:=gz.shaped (show gz m _ _ 0 _ [] from pX) nm;obtain⟨n,h1,h2⟩:=gz.fk hm (show gz m _ _ 0 _ [] from pX) nm;refine⟨n,h1,h2 _ ?_ λs hs bI=>?_,uM,oD,pX⟩
 ·obtain⟨_,_,h3,h4,_⟩:=O7 rounds hm Ay;exact Hl h3 (O8 h4).2.2
 ·obtain⟨a1,a2⟩:=adf (vj oD) l (b9 m) 0 [] (λc hc=>(da c hc).1) aX uM Ay s hs bI;obtain⟨_,_,b3,b4,b5⟩:=O7 rounds hm a2;rw[a1,<- b5];refine Hl ?_ b3;have c1:kj m (b9 m)=0:=by unfold kj;rw[if_neg (by rw[kf.2 hm];simp),if_pos Ay]
  have c2:kj m s.2.1=0:=by unfold kj;rw[if_neg (by rw[kf.2 hm];simp),if_pos a2]
  rw[GC,GC,if_neg (by rw[c1];simp),if_neg (by rw[c2];simp)];exact alF hm Ay a2 (al7 hm a2) _
end
end T

