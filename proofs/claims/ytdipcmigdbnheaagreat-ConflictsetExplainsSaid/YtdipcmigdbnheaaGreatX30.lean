import Derived.Test.YtdipcmigdbnheaaGreatX18
set_option linter.all false
set_option maxHeartbeats 0
set_option maxRecDepth 20000
open Nat renaming zero_le→aI
open Int renaming le_refl→eC
open List renaming drop_eq_nil_of_le→cR
open Go Go.Am Go.Proofs
namespace T
def agW{l:List Ld}(hw:∀ x∈l,1<=x.wt/\x.wt<=1000)(c:Int)(row:List Bool):0<=qL l c row/\qL l c row<=1000:=by
 have h:∀ (l:List Ld) (z:Int×Int),(∀ x∈l,1<=x.wt/\x.wt<=1000)->z.2<=1000->(mz c row l z).2<=1000:=by
  intro l
  induction l with
  |nil=>intro z _ h;exact h
  |cons x r ih =>
   intro z h1 h2;rw[mz];refine ih _ (λy hy=>h1 y (by simp[hy])) ?_;have:=h1 x GF;split
   ·dsimp only;split<;>omega
   ·exact h2
 have:=h l (qM row 0,-1) hw PA;unfold qL;split<;>omega
def agX(c:Ct)(k:Int)(row:List Bool)(Cr:row.length<=24)(xJ:∀ x∈c.aH,x.cls=k->0<=x.opt/\x.opt<row.length)(hl:c.aH.length<=576):
  ao Tryz.prog 186 [.agg (aV c),aaC k,.tree 1 (aX row)] [] (aaC (qL c.aH k row)) []:=by
 generalize ak:qL c.aH k row=res;unfold qL at ak;refine ao.aD 61 0 [.tmp 6] Tryz.func186 ?_;refine Vb @aV.eq_1 ?_;generalize hM:qM row 0=M at *;refine aM (λz:Nat×Int=>(⟨aw [(1,aaC k),(2,.tree 1 (aX row)),(3,.ptr 0 0 0),(7,aaC z.2),(8,aaC (-1)),(13,.tree 1 (aX row)),(14,aaC row.length),(15,aaC z.1)],[.var (aV c)]⟩:St))
  (λz=>z.1<=row.length/\0<=z.2/\z.2<=z.1/\qM (row.drop z.1) z.2=M) (λz=>row.length-z.1) (0,0) ⟨aI _,eC _,eC _,hM⟩ (Xv @aV.eq_1) ?_
 rintro⟨i,n⟩⟨hi,ef,gp,hr⟩Ql an ar;dsimp only at hi ef gp hr ⊢;by_cases hi':i<row.length
 ·have hd:=cP row i false hi';generalize Cs:row.getD i false=a at *;rw[hd,qM]at hr;cases a
  ·rw[if_neg GF]at hr;((repeat'(first|refine Va @Cs ?_|(refine Xi ?_ ?_<;>try intro ht)|exact Xx|fail)))
   all_goals exact an _ (i+1,n) ⟨PA,ef,PA,hr⟩ PA (Xv X0)
  ·rw[if_pos rfl]at hr;((repeat'(first|refine Va @Cs ?_|(refine Xi ?_ ?_<;>try intro ht)|exact Xx|fail)))
   all_goals exact an _ (i+1,n+1) ⟨PA,PA,PA,hr⟩ PA (Xv X0)
 rw[cR GC,qM]at hr;subst hr;((repeat'(first|refine Va X0 ?_|(refine Xi ?_ ?_<;>try intro ht)|exact Xx|fail)))
 refine ar _ _ rfl ?_;clear an ar Ql;repeat(refine Xu ?_)
 refine Va @aV.eq_1 ?_;generalize hZ:mz k row c.aH (n,-1)=Z at *;refine aM (λz:Nat×Int×Int=>(⟨aw [(1,aaC k),(2,.tree 1 (aX row)),(7,aaC z.2.1),(8,aaC z.2.2),(24,.tree 3 (rowsOf iM c.aH)),(25,aaC c.aH.length),(26,aaC z.1)],[]⟩:St))
  (λz=>z.1<=c.aH.length/\-(z.1:Int)<=z.2.1/\z.2.1<=24/\mz k row (c.aH.drop z.1) z.2=Z) (λz=>c.aH.length-z.1) (0,n,-1) ⟨aI _,PA,PA,hZ⟩ (Xs false [] X0) ?_
 rintro⟨j,y,w⟩⟨hj,hy0,Mk,hr⟩Ql an ar;dsimp only at hj hy0 Mk hr ⊢;by_cases db:j<c.aH.length
 ·have hd:=cP c.aH j default db;have hm:=xJ _ (ay (d:=default) db);generalize aS:c.aH.getD j default=x at *;rw[hd,mz]at hr;by_cases hc:x.cls=k
  ·have hm:=hm hc;generalize fY:row.getD x.opt.toNat false=b at *;cases b
   ·rw[if_neg GF]at hr;((repeat'(first|refine Va (X3 @aS @iM.eq_1 @fY) ?_|(refine V2 (X3 @aS @iM.eq_1 @fY) ?_ ?_<;>try with_reducible intro hb)|(refine Xi ?_ ?_<;>try intro ht)|exact Xx|fail)))
    all_goals exact an _ (j+1,y,w) ⟨PA,PA,Mk,hr⟩ PA (Xs false [] X0)
   ·rw[if_pos ⟨hc,rfl⟩]at hr;by_cases hw:w<0\/x.wt<w
    ·rw[if_pos hw]at hr;((repeat'(first|refine Va (X3 @aS @iM.eq_1 @fY) ?_|(refine V2 (X3 @aS @iM.eq_1 @fY) ?_ ?_<;>try with_reducible intro hb)|(refine Xi ?_ ?_<;>try intro ht)|exact Xx|fail)))
     all_goals exact an _ (j+1,y-1,x.wt) ⟨PA,PA,PA,hr⟩ PA (Xs false [] X0)
    ·rw[if_neg hw]at hr;((repeat'(first|refine Va (X3 @aS @iM.eq_1 @fY) ?_|(refine V2 (X3 @aS @iM.eq_1 @fY) ?_ ?_<;>try with_reducible intro hb)|(refine Xi ?_ ?_<;>try intro ht)|exact Xx|fail)))
     all_goals exact an _ (j+1,y-1,w) ⟨PA,PA,PA,hr⟩ PA (Xs false [] X0)
  ·rw[if_neg (λh=>hc h.1)]at hr;((repeat'(first|refine Va (X2 @aS @iM.eq_1) ?_|(refine V2 (X2 @aS @iM.eq_1) ?_ ?_<;>try with_reducible intro hb)|(refine Xi ?_ ?_<;>try intro ht)|exact Xx|fail)))
   all_goals exact an _ (j+1,y,w) ⟨PA,PA,Mk,hr⟩ PA (Xs false [] X0)
 rw[cR GC,mz]at hr;rw[<- hr]at ak;dsimp only at ak;by_cases he:0<y\/w<0
 ·rw[if_pos he]at ak;((repeat'(first|refine Va X0 ?_|(refine V2 X0 ?_ ?_<;>try with_reducible intro hb)|(refine Xi ?_ ?_<;>try intro ht)|exact Xx|fail)))
  refine ar _ _ rfl ?_;clear an ar Ql;repeat(refine Xu ?_)
  ((repeat'(first|refine Vb X0 ?_|(refine V2 X0 ?_ ?_<;>try with_reducible intro hb)|(refine Xi ?_ ?_<;>try intro ht)|exact Xx|fail)))
  all_goals exact aE rfl (by rw[ak])
 ·rw[if_neg he]at ak;((repeat'(first|refine Va X0 ?_|(refine V2 X0 ?_ ?_<;>try with_reducible intro hb)|(refine Xi ?_ ?_<;>try intro ht)|exact Xx|fail)))
  refine ar _ _ rfl ?_;clear an ar Ql;repeat(refine Xu ?_)
  ((repeat'(first|refine Vb X0 ?_|(refine V2 X0 ?_ ?_<;>try with_reducible intro hb)|(refine Xi ?_ ?_<;>try intro ht)|exact Xx|fail)))
  all_goals exact aE rfl (by rw[ak])
def agZ(m:aj)(c:Ct)(left:List (List Bool))(hm:VM m)(hc:iQ m c=true)(hf:dD m left):
  ao Tryz.prog 159 [.agg (aV c),.tree 1 (rowsOf aQ left)] [] (aaC (pU left c)) []:=by
 obtain⟨q1,q2,q3,q4⟩:=lS hc;have hl:=AQ hm q4;have bO:=pV q4;have fC:=hf.1;have cm:=hm.cls;have hw:∀ x∈c.aH,1<=x.wt/\x.wt<=1000:=λx hx=>(bO x hx).2;have jG:=λk row=>agW hw k row;generalize ak:pU left c=res;unfold pU at ak;generalize hG:s0 c.aH left none c.aH (-c.most)=G at *;refine ao.aD 50 0 [.tmp 4] Tryz.func159 ?_;refine Vb @aV.eq_1 ?_;refine aM (λz:Nat×Int=>(⟨aw [(1,.tree 1 (rowsOf aQ left)),(2,.ptr 0 0 0),(5,aaC z.2),(12,.tree 3 (rowsOf iM c.aH)),(13,aaC c.aH.length),(14,aaC z.1)],[.var (aV c)]⟩:St))
  (λz=>z.1<=c.aH.length/\-1048576<=z.2/\z.2<=1000*(z.1:Int)/\s0 c.aH left ((mU c.aH z.1).map (·.cls)) (c.aH.drop z.1) z.2=G) (λz=>c.aH.length-z.1) (0,-c.most) ⟨aI _,PA,PA,hG⟩ (Xv @aV.eq_1) ?_
 rintro⟨i,n⟩⟨hi,ef,gp,hr⟩Ql an ar;dsimp only at hi ef gp hr ⊢;by_cases hi':i<c.aH.length
 ·have hd:=cP c.aH i default hi';have hx:=bO _ (ay (d:=default) hi');have EN:=fD.1 hx.1;have Ml:(mU c.aH (i+1)).map (·.cls)=some (c.aH.getD i default).cls:=by rw[wB];rfl
  have Mm:0<i->(mU c.aH i).map (·.cls)=some (c.aH.getD (i-1) default).cls:=λh=>by unfold mU;rw[if_neg GC];rfl
  have rV:i=0->(mU c.aH i).map (·.cls)=none:=λh=>by unfold mU;rw[if_pos h];rfl
  rw[hd,s0]at hr;have cD:=hf.2 (c.aH.getD i default).cls.toNat GC;have Cr:=hm.opt _ (ay (l:=m.cls) (i:=(c.aH.getD i default).cls.toNat) (d:=default) GC);have br:=agX c (c.aH.getD i default).cls (left.getD (c.aH.getD i default).cls.toNat default) GC (λy hy e=>by
   have:=fD.1 (bO y hy).1;rw[e]at this;omega) hl
  have xY:=jG (c.aH.getD i default).cls (left.getD (c.aH.getD i default).cls.toNat default);have eh:0<i->((i:Int)-1).toNat=i-1:=λh=>GC;generalize b6:(mU c.aH i).map (·.cls)=pq at *;generalize aS:c.aH.getD i default=x at *;generalize gw:c.aH.getD (i-1) default=y at *;generalize bq:left.getD x.cls.toNat default=row at *;generalize qL c.aH x.cls row=g at *;rcases Nat.eq_zero_or_pos i with h0|h0
  ·rw[rV h0,if_neg GF]at hr;subst h0;((repeat'(first|refine Vc (X5 @aS @iM.eq_1 @bq @aQ.eq_1 @aV.eq_1) br ?_|(refine Xi ?_ ?_<;>try intro ht)|exact Xx|fail)))
   all_goals exact an _ (0+1,n+g) ⟨PA,PA,PA,by dsimp only;rw[Ml];exact hr⟩ PA (Xs false [0] @aV.eq_1)
  ·rw[Mm h0]at hr;have eh:=eh h0;by_cases he:y.cls=x.cls
   ·rw[if_pos (by rw[he])]at hr;((repeat'(first|refine Vc (X5 @aS @gw @eh @iM.eq_1 (X3 @bq @aQ.eq_1 @aV.eq_1)) br ?_|(refine V2 (X5 @aS @gw @eh @iM.eq_1 (X3 @bq @aQ.eq_1 @aV.eq_1)) ?_ ?_<;>try with_reducible intro hb)|(refine Xi ?_ ?_<;>try intro ht)|exact Xx|fail)))
    all_goals exact an _ (i+1,n) ⟨PA,ef,PA,by dsimp only;rw[Ml];exact hr⟩ PA (Xs false [0] @aV.eq_1)
   ·rw[if_neg (λe=>he (by injection e))]at hr;((repeat'(first|refine Vc (X5 @aS @gw @eh @iM.eq_1 (X3 @bq @aQ.eq_1 @aV.eq_1)) br ?_|(refine V2 (X5 @aS @gw @eh @iM.eq_1 (X3 @bq @aQ.eq_1 @aV.eq_1)) ?_ ?_<;>try with_reducible intro hb)|(refine Xi ?_ ?_<;>try intro ht)|exact Xx|fail)))
    all_goals exact an _ (i+1,n+g) ⟨PA,PA,PA,by dsimp only;rw[Ml];exact hr⟩ PA (Xs false [0] @aV.eq_1)
 ·rw[cR GC,s0]at hr;subst hr;have yM:=ag0 (max n 0) c.bM GC q3;rw[ak]at yM;((repeat'(first|refine Va X0 ?_|(refine V2 X0 ?_ ?_<;>try with_reducible intro hb)|(refine Xi ?_ ?_<;>try intro ht)|exact Xx|fail)))
  refine ar _ _ rfl ?_;clear an ar Ql;repeat(refine Xu ?_)
  refine Vd @aV.eq_1 yM ?_;all_goals exact aE rfl rfl
def ag1(left:List (List Bool)){c:Ct}(hp:jY c.bM=true):0<=pU left c/\pU left c<=1099511627776:=by
 have:=lz hp;unfold b7 at this;unfold pU AR;have h:0<=max (s0 c.aH left none c.aH (-c.most)) 0:=GC;generalize max (s0 c.aH left none c.aH (-c.most)) 0=n at *;have:=Int.mul_nonneg h this.1;split<;>omega
def ag2(m:aj)(left:List (List Bool))(hm:VM m)(hf:dD m left):ao Tryz.prog 104 [.agg (aq m),.tree 1 (rowsOf aQ left)] [] (aaC (fc m left)) []:=by
 have fC:=hf.1;have nu:=hm.cls;have s5:=hm.ae;have D8:=hm.av;generalize ak:fc m left=res;unfold fc at ak;generalize hA:oK left 0 m.cls 0=A at *;refine ao.aD 85 0 [.tmp 4] Tryz.func104 ?_;refine Vb X0 ?_;refine aM (λz:Nat×Int=>(⟨aw [(1,.tree 1 (rowsOf aQ left)),(2,.ptr 0 0 0),(5,aaC z.2),(18,.tree 1 (rowsOf bu m.cls)),(19,aaC m.cls.length),(20,aaC z.1)],[.var (aq m)]⟩:St))
  (λz=>z.1<=m.cls.length/\0<=z.2/\z.2<=1099511627776*(z.1:Int)/\oK left z.1 (m.cls.drop z.1) z.2=A) (λz=>m.cls.length-z.1) (0,0) ⟨aI _,eC _,PA,hA⟩ (Xv X0) ?_
 rintro⟨i,n⟩⟨hi,ef,gp,hr⟩Ql an ar;dsimp only at hi ef gp hr ⊢;by_cases hi':i<m.cls.length
 ·have hd:=cP m.cls i default hi';have hc:=hm.opt _ (ay (d:=default) hi');have ek:=hm.mA _ (ay (d:=default) hi');have cD:=hf.2 i GC;have ag3:=hm.jq;generalize aR:m.cls.getD i default=c at *;generalize bq:left.getD i default=row at *;rw[hd,oK,bq]at hr;have hmr:=Mn (gG c) row 1099511627776 (λx hx=>by
   obtain⟨o,ho,rfl⟩:=List.mem_map.1 hx;exact(EO (ek o ho)).1) GC
  generalize hX:ke (gG c) row 1099511627776=X at *;((repeat'(first|refine Va (X2 @aR @bu.eq_1) ?_|(refine Xi ?_ ?_<;>try intro ht)|exact Xx|fail)))
  refine aM (λz:Nat×Int=>(⟨aw [(1,.tree 1 (rowsOf aQ left)),(2,.ptr 0 0 0),(5,aaC n),(6,aaC i),(8,aaC z.2),(18,.tree 1 (rowsOf bu m.cls)),(19,aaC m.cls.length),(20,aaC i),(25,.tree 6 (rowsOf cQ c)),(26,aaC c.length),(27,aaC z.1)],[.var (aq m)]⟩:St))
   (λz=>z.1<=c.length/\ke (gG (c.drop z.1)) (row.drop z.1) z.2=X) (λz=>c.length-z.1) (0,1099511627776) ⟨aI _,hX⟩ (Xv X0) ?_
  rintro⟨k,x⟩⟨hk,gF⟩cJ ba bd;dsimp only at hk gF ⊢;by_cases aK:k<c.length
  ·have wC:=cP c k default aK;have qN:=cP row k false GC;have ho:=ay (l:=c) (d:=default) aK;have how:=ag5 (c.getD k default) (Ib (ek _ ho)) (by have:=EP ag3.1 (ek _ ho);omega);generalize kY:c.getD k default=o at *;generalize fY:row.getD k false=b at *;rw[wC,qN,show gG (o::c.drop (k+1))=jZ o::gG (c.drop (k+1)) from rfl,ke]at gF;cases b
   ·rw[if_neg GF]at gF;((repeat'(first|refine Va (X4 @kY @bq @fY @aQ.eq_1) ?_|(refine Xi ?_ ?_<;>try intro ht)|exact Xx|fail)))
    all_goals exact ba _ (k+1,x) ⟨PA,gF⟩ PA (Xs false [0] X0)
   ·rw[if_pos rfl]at gF;((repeat'(first|refine Vc (X4 @kY @bq @fY @aQ.eq_1) how ?_|(refine Xi ?_ ?_<;>try intro ht)|exact Xx|fail)))
    all_goals exact ba _ (k+1,min x (jZ o)) ⟨PA,gF⟩ PA (Xs false [0] X0)
  ·rw[show c.drop k=[] from cR GC]at gF;have hxX:x=X:=by rw[<- gF];cases row.drop k<;>rfl
   clear gF;subst hxX;by_cases hF:x=1099511627776
   ·rw[if_pos hF]at hr;((repeat'(first|refine Va X0 ?_|(refine Xi ?_ ?_<;>try intro ht)|exact Xx|fail)))
    refine bd _ _ rfl ?_;clear ba bd;repeat(refine Xu ?_)
    ((repeat'(first|refine Va X0 ?_|(refine Xi ?_ ?_<;>try intro ht)|exact Xx|fail)))
    all_goals
     repeat(refine Xu ?_)
     rw[<- hr]at ak;refine Vb X0 ?_;exact aE rfl (by rw[<- ak];rfl)
   ·rw[if_neg hF]at hr;((repeat'(first|refine Va X0 ?_|(refine Xi ?_ ?_<;>try intro ht)|exact Xx|fail)))
    refine bd _ _ rfl ?_;clear ba bd;repeat(refine Xu ?_)
    ((repeat'(first|refine Va X0 ?_|(refine Xi ?_ ?_<;>try intro ht)|exact Xx|fail)))
    all_goals exact an _ (i+1,n+x) ⟨PA,PA,PA,hr⟩ PA (Xv X0)
 rw[show m.cls.drop i=[] from cR GC,oK]at hr;subst hr;have qA:n<=1099511627776*24:=GC;clear gp;rw[zu]at ak;generalize hB:pk m left m.ae n=B at *;((repeat'(first|refine Va X0 ?_|(refine Xi ?_ ?_<;>try intro ht)|exact Xx|fail)))
 refine ar _ _ rfl ?_;clear an ar Ql;repeat(refine Xu ?_)
 refine Va X0 ?_;refine aM (λz:Nat×Int=>(⟨aw [(1,.tree 1 (rowsOf aQ left)),(2,.ptr 0 0 0),(5,aaC z.2),(51,.tree 4 (rowsOf aP m.ae)),(52,aaC m.ae.length),(53,aaC z.1)],[.var (aq m)]⟩:St))
  (λz=>z.1<=m.ae.length/\0<=z.2/\z.2<=1099511627776*24+1099511627776*(z.1:Int)/\pk m left (m.ae.drop z.1) z.2=B) (λz=>m.ae.length-z.1) (0,n) ⟨aI _,ef,PA,hB⟩ (Xv X0) ?_
 (try clear ef;clear hi qA hB i)
 rintro⟨i,n⟩⟨hi,ef,gp,hr⟩Ql an ar;dsimp only at hi ef gp hr ⊢;by_cases hi':i<m.ae.length
 ·have hd:=cP m.ae i default hi';have dE:=iA hm.pr _ (ay (d:=default) hi');have ER:=ag7 m _ left hm dE hf;have jH:=ag8 hm dE hf;generalize b6:m.ae.getD i default=p at *;rw[hd,pk]at hr;generalize qO m left p=x at *;by_cases hF:x=1099511627776
  ·rw[if_pos hF]at hr;((repeat'(first|refine Vc (X2 @b6 @aP.eq_1) ER ?_|(refine Xi ?_ ?_<;>try intro ht)|exact Xx|fail)))
   all_goals
    repeat(refine Xu ?_)
    rw[<- hr]at ak;refine Vb X0 ?_;exact aE rfl (by rw[<- ak];rfl)
  ·rw[if_neg hF]at hr;((repeat'(first|refine Vc (X2 @b6 @aP.eq_1) ER ?_|(refine Xi ?_ ?_<;>try intro ht)|exact Xx|fail)))
   all_goals exact an _ (i+1,n+x) ⟨PA,PA,PA,hr⟩ PA (Xs false [0] X0)
 rw[show m.ae.drop i=[] from cR GC,pk]at hr;subst hr;have qA:n<=1099511627776*5000:=GC;clear gp;rw[zw]at ak;generalize hB:oL left m.av n=B at *;((repeat'(first|refine Va X0 ?_|(refine Xi ?_ ?_<;>try intro ht)|exact Xx|fail)))
 refine ar _ _ rfl ?_;clear an ar Ql;repeat(refine Xu ?_)
 refine Va X0 ?_;refine aM (λz:Nat×Int=>(⟨aw [(1,.tree 1 (rowsOf aQ left)),(2,.ptr 0 0 0),(5,aaC z.2),(68,.tree 4 (rowsOf aV m.av)),(69,aaC m.av.length),(70,aaC z.1)],[.var (aq m)]⟩:St))
  (λz=>z.1<=m.av.length/\0<=z.2/\z.2<=1099511627776*5000+1099511627776*(z.1:Int)/\oL left (m.av.drop z.1) z.2=B) (λz=>m.av.length-z.1) (0,n) ⟨aI _,ef,PA,hB⟩ (Xv X0) ?_
 (try clear ef;clear hi qA hB i)
 rintro⟨i,n⟩⟨hi,ef,gp,hr⟩Ql an ar;dsimp only at hi ef gp hr ⊢;by_cases hi':i<m.av.length
 ·have hd:=cP m.av i default hi';have oJ:=hm.ct _ (ay (d:=default) hi');have ER:=agZ m _ left hm oJ hf;have jH:=ag1 left (lS oJ).2.2.1;generalize b6:m.av.getD i default=p at *;rw[hd,oL]at hr;generalize pU left p=x at *;by_cases hF:x=1099511627776
  ·rw[if_pos hF]at hr;((repeat'(first|refine Vc (X2 @b6 @aV.eq_1) ER ?_|(refine Xi ?_ ?_<;>try intro ht)|exact Xx|fail)))
   all_goals
    repeat(refine Xu ?_)
    rw[<- hr]at ak;refine Vb X0 ?_;exact aE rfl (by rw[<- ak];rfl)
  ·rw[if_neg hF]at hr;((repeat'(first|refine Vc (X2 @b6 @aV.eq_1) ER ?_|(refine Xi ?_ ?_<;>try intro ht)|exact Xx|fail)))
   all_goals exact an _ (i+1,n+x) ⟨PA,PA,PA,hr⟩ PA (Xs false [0] X0)
 rw[show m.av.drop i=[] from cR GC,oL]at hr;rw[<- hr]at ak;have r9:=Mo n;rw[show min n 1099511627776=res from ak]at r9;((repeat'(first|refine Va X0 ?_|(refine Xi ?_ ?_<;>try intro ht)|exact Xx|fail)))
 refine ar _ _ rfl ?_;clear an ar Ql;repeat(refine Xu ?_)
 refine Vd X0 r9 ?_;exact aE rfl rfl
end T

