import Derived.Test.YtdipcmigdbnheaaGreatX23
set_option linter.all false
set_option maxHeartbeats 0
set_option maxRecDepth 20000
open Nat renaming zero_le→aQ
open Int renaming le_refl→dy
open List renaming drop_eq_nil_of_le→cU
open Go Go.Am Go.Proofs
namespace T
def Zl{l:List Ld}(hw:∀ x∈l,1<=x.wt/\x.wt<=1000)(c:Int)(row:List Bool):0<=nI l c row/\nI l c row<=1000:=by
 have h:∀ (l:List Ld) (z:Int×Int),(∀ x∈l,1<=x.wt/\x.wt<=1000)->z.2<=1000->(j9 c row l z).2<=1000:=by
  intro l
  induction l with
  |nil=>intro z _ h;exact h
  |cons x r ih =>
   intro z h1 h2;rw[j9];refine ih _ (λy hy=>h1 y (by simp[hy])) ?_;have:=h1 x Jd;split
   ·dsimp only;split<;>omega
   ·exact h2
 have:=h l (nJ row 0,-1) hw aaK;unfold nI;split<;>omega
def Zm(c:Ct)(k:Int)(row:List Bool)(C3:row.length<=24)(xX:∀ x∈c.aS,x.cls=k->0<=x.opt/\x.opt<row.length)(hl:c.aS.length<=576):
  an Tryz.prog 186 [.agg (aK c),aa3 k,.tree 1 (aY row)] [] (aa3 (nI c.aS k row)) []:=by
 generalize ao:nI c.aS k row=res;unfold nI at ao;refine an.aF 61 0 [.tmp 6] Tryz.func186 ?_;refine Vb @aK.eq_1 ?_;generalize hM:nJ row 0=M at *;refine aW (λz:Nat×Int=>(⟨ax [(1,aa3 k),(2,.tree 1 (aY row)),(3,.ptr 0 0 0),(7,aa3 z.2),(8,aa3 (-1)),(13,.tree 1 (aY row)),(14,aa3 row.length),(15,aa3 z.1)],[.var (aK c)]⟩:St))
  (λz=>z.1<=row.length/\0<=z.2/\z.2<=z.1/\nJ (row.drop z.1) z.2=M) (λz=>row.length-z.1) (0,0) ⟨aQ _,dy _,dy _,hM⟩ (Xv @aK.eq_1) ?_
 rintro⟨i,n⟩⟨hi,e9,fV,hr⟩Ql aq au;dsimp only at hi e9 fV hr ⊢;by_cases hi':i<row.length
 ·have hd:=cS row i false hi';generalize yk:row.getD i false=a at *;rw[hd,nJ]at hr;cases a
  ·rw[if_neg Jd]at hr;((repeat'(first|refine Va @yk ?_|(refine Xi ?_ ?_<;>try intro ht)|exact Xx|fail)))
   all_goals exact aq _ (i+1,n) ⟨aaK,e9,aaK,hr⟩ aaK (Xv X0)
  ·rw[if_pos rfl]at hr;((repeat'(first|refine Va @yk ?_|(refine Xi ?_ ?_<;>try intro ht)|exact Xx|fail)))
   all_goals exact aq _ (i+1,n+1) ⟨aaK,aaK,aaK,hr⟩ aaK (Xv X0)
 rw[cU I6,nJ]at hr;subst hr;((repeat'(first|refine Va X0 ?_|(refine Xi ?_ ?_<;>try intro ht)|exact Xx|fail)))
 refine au _ _ rfl ?_;clear aq au Ql;repeat(refine Xu ?_)
 refine Va @aK.eq_1 ?_;generalize hZ:j9 k row c.aS (n,-1)=Z at *;refine aW (λz:Nat×Int×Int=>(⟨ax [(1,aa3 k),(2,.tree 1 (aY row)),(7,aa3 z.2.1),(8,aa3 z.2.2),(24,.tree 3 (rowsOf gL c.aS)),(25,aa3 c.aS.length),(26,aa3 z.1)],[]⟩:St))
  (λz=>z.1<=c.aS.length/\-(z.1:Int)<=z.2.1/\z.2.1<=24/\j9 k row (c.aS.drop z.1) z.2=Z) (λz=>c.aS.length-z.1) (0,n,-1) ⟨aQ _,aaK,aaK,hZ⟩ (Xs false [] X0) ?_
 rintro⟨j,y,w⟩⟨hj,Zn,Gu,hr⟩Ql aq au;dsimp only at hj Zn Gu hr ⊢;by_cases dG:j<c.aS.length
 ·have hd:=cS c.aS j default dG;have hm:=xX _ (aC (d:=default) dG);generalize bG:c.aS.getD j default=x at *;rw[hd,j9]at hr;by_cases hc:x.cls=k
  ·have hm:=hm hc;generalize gJ:row.getD x.opt.toNat false=b at *;cases b
   ·rw[if_neg Jd]at hr;((repeat'(first|refine Va (X3 @bG @gL.eq_1 @gJ) ?_|(refine V2 (X3 @bG @gL.eq_1 @gJ) ?_ ?_<;>try with_reducible intro hb)|(refine Xi ?_ ?_<;>try intro ht)|exact Xx|fail)))
    all_goals exact aq _ (j+1,y,w) ⟨aaK,aaK,Gu,hr⟩ aaK (Xs false [] X0)
   ·rw[if_pos ⟨hc,rfl⟩]at hr;by_cases hw:w<0\/x.wt<w
    ·rw[if_pos hw]at hr;((repeat'(first|refine Va (X3 @bG @gL.eq_1 @gJ) ?_|(refine V2 (X3 @bG @gL.eq_1 @gJ) ?_ ?_<;>try with_reducible intro hb)|(refine Xi ?_ ?_<;>try intro ht)|exact Xx|fail)))
     all_goals exact aq _ (j+1,y-1,x.wt) ⟨aaK,aaK,aaK,hr⟩ aaK (Xs false [] X0)
    ·rw[if_neg hw]at hr;((repeat'(first|refine Va (X3 @bG @gL.eq_1 @gJ) ?_|(refine V2 (X3 @bG @gL.eq_1 @gJ) ?_ ?_<;>try with_reducible intro hb)|(refine Xi ?_ ?_<;>try intro ht)|exact Xx|fail)))
     all_goals exact aq _ (j+1,y-1,w) ⟨aaK,aaK,aaK,hr⟩ aaK (Xs false [] X0)
  ·rw[if_neg (λh=>hc h.1)]at hr;((repeat'(first|refine Va (X2 @bG @gL.eq_1) ?_|(refine V2 (X2 @bG @gL.eq_1) ?_ ?_<;>try with_reducible intro hb)|(refine Xi ?_ ?_<;>try intro ht)|exact Xx|fail)))
   all_goals exact aq _ (j+1,y,w) ⟨aaK,aaK,Gu,hr⟩ aaK (Xs false [] X0)
 rw[cU I6,j9]at hr;rw[<- hr]at ao;dsimp only at ao;by_cases he:0<y\/w<0
 ·rw[if_pos he]at ao;((repeat'(first|refine Va X0 ?_|(refine V2 X0 ?_ ?_<;>try with_reducible intro hb)|(refine Xi ?_ ?_<;>try intro ht)|exact Xx|fail)))
  refine au _ _ rfl ?_;clear aq au Ql;repeat(refine Xu ?_)
  ((repeat'(first|refine Vb X0 ?_|(refine V2 X0 ?_ ?_<;>try with_reducible intro hb)|(refine Xi ?_ ?_<;>try intro ht)|exact Xx|fail)))
  all_goals exact aO rfl (by rw[ao])
 ·rw[if_neg he]at ao;((repeat'(first|refine Va X0 ?_|(refine V2 X0 ?_ ?_<;>try with_reducible intro hb)|(refine Xi ?_ ?_<;>try intro ht)|exact Xx|fail)))
  refine au _ _ rfl ?_;clear aq au Ql;repeat(refine Xu ?_)
  ((repeat'(first|refine Vb X0 ?_|(refine V2 X0 ?_ ?_<;>try with_reducible intro hb)|(refine Xi ?_ ?_<;>try intro ht)|exact Xx|fail)))
  all_goals exact aO rfl (by rw[ao])
def Zo(m:aj)(c:Ct)(left:List (List Bool))(hm:VM m)(hc:fN m c=true)(hf:ej m left):
  an Tryz.prog 159 [.agg (aK c),.tree 1 (rowsOf bd left)] [] (aa3 (mN left c)) []:=by
 obtain⟨q1,q2,q3,q4⟩:=lp hc;have hl:=Al hm q4;have cR:=o8 q4;have eA:=hf.1;have cy:=hm.cls;have hw:∀ x∈c.aS,1<=x.wt/\x.wt<=1000:=λx hx=>(cR x hx).2;have uY:=λk row=>Zl hw k row;generalize ao:mN left c=res;unfold mN at ao;generalize hG:o9 c.aS left none c.aS (-c.most)=G at *;refine an.aF 50 0 [.tmp 4] Tryz.func159 ?_;refine Vb @aK.eq_1 ?_;refine aW (λz:Nat×Int=>(⟨ax [(1,.tree 1 (rowsOf bd left)),(2,.ptr 0 0 0),(5,aa3 z.2),(12,.tree 3 (rowsOf gL c.aS)),(13,aa3 c.aS.length),(14,aa3 z.1)],[.var (aK c)]⟩:St))
  (λz=>z.1<=c.aS.length/\-1048576<=z.2/\z.2<=1000*(z.1:Int)/\o9 c.aS left ((kr c.aS z.1).map (·.cls)) (c.aS.drop z.1) z.2=G) (λz=>c.aS.length-z.1) (0,-c.most) ⟨aQ _,aaK,aaK,hG⟩ (Xv @aK.eq_1) ?_
 rintro⟨i,n⟩⟨hi,e9,fV,hr⟩Ql aq au;dsimp only at hi e9 fV hr ⊢;by_cases hi':i<c.aS.length
 ·have hd:=cS c.aS i default hi';have hx:=cR _ (aC (d:=default) hi');have An:=gV.1 hx.1;have Gv:(kr c.aS (i+1)).map (·.cls)=some (c.aS.getD i default).cls:=by rw[sA];rfl
  have Gw:0<i->(kr c.aS i).map (·.cls)=some (c.aS.getD (i-1) default).cls:=λh=>by unfold kr;rw[if_neg I6];rfl
  have C4:i=0->(kr c.aS i).map (·.cls)=none:=λh=>by unfold kr;rw[if_pos h];rfl
  rw[hd,o9]at hr;have cD:=hf.2 (c.aS.getD i default).cls.toNat I6;have C3:=hm.opt _ (aC (l:=m.cls) (i:=(c.aS.getD i default).cls.toNat) (d:=default) I6);have bq:=Zm c (c.aS.getD i default).cls (left.getD (c.aS.getD i default).cls.toNat default) I6 (λy hy e=>by
   have:=gV.1 (cR y hy).1;rw[e]at this;omega) hl
  have yl:=uY (c.aS.getD i default).cls (left.getD (c.aS.getD i default).cls.toNat default);have gx:0<i->((i:Int)-1).toNat=i-1:=λh=>I6;generalize cG:(kr c.aS i).map (·.cls)=pq at *;generalize bG:c.aS.getD i default=x at *;generalize mc:c.aS.getD (i-1) default=y at *;generalize aZ:left.getD x.cls.toNat default=row at *;generalize nI c.aS x.cls row=g at *;rcases Nat.eq_zero_or_pos i with h0|h0
  ·rw[C4 h0,if_neg Jd]at hr;subst h0;((repeat'(first|refine Vc (X5 @bG @gL.eq_1 @aZ @bd.eq_1 @aK.eq_1) bq ?_|(refine Xi ?_ ?_<;>try intro ht)|exact Xx|fail)))
   all_goals exact aq _ (0+1,n+g) ⟨aaK,aaK,aaK,by dsimp only;rw[Gv];exact hr⟩ aaK (Xs false [0] @aK.eq_1)
  ·rw[Gw h0]at hr;have gx:=gx h0;by_cases he:y.cls=x.cls
   ·rw[if_pos (by rw[he])]at hr;((repeat'(first|refine Vc (X5 @bG @mc @gx @gL.eq_1 (X3 @aZ @bd.eq_1 @aK.eq_1)) bq ?_|(refine V2 (X5 @bG @mc @gx @gL.eq_1 (X3 @aZ @bd.eq_1 @aK.eq_1)) ?_ ?_<;>try with_reducible intro hb)|(refine Xi ?_ ?_<;>try intro ht)|exact Xx|fail)))
    all_goals exact aq _ (i+1,n) ⟨aaK,e9,aaK,by dsimp only;rw[Gv];exact hr⟩ aaK (Xs false [0] @aK.eq_1)
   ·rw[if_neg (λe=>he (by injection e))]at hr;((repeat'(first|refine Vc (X5 @bG @mc @gx @gL.eq_1 (X3 @aZ @bd.eq_1 @aK.eq_1)) bq ?_|(refine V2 (X5 @bG @mc @gx @gL.eq_1 (X3 @aZ @bd.eq_1 @aK.eq_1)) ?_ ?_<;>try with_reducible intro hb)|(refine Xi ?_ ?_<;>try intro ht)|exact Xx|fail)))
    all_goals exact aq _ (i+1,n+g) ⟨aaK,aaK,aaK,by dsimp only;rw[Gv];exact hr⟩ aaK (Xs false [0] @aK.eq_1)
 ·rw[cU I6,o9]at hr;subst hr;have ur:=Zp (max n 0) c.bM I6 q3;rw[ao]at ur;((repeat'(first|refine Va X0 ?_|(refine V2 X0 ?_ ?_<;>try with_reducible intro hb)|(refine Xi ?_ ?_<;>try intro ht)|exact Xx|fail)))
  refine au _ _ rfl ?_;clear aq au Ql;repeat(refine Xu ?_)
  refine Vd @aK.eq_1 ur ?_;all_goals exact aO rfl rfl
def Zq(left:List (List Bool)){c:Ct}(hp:iF c.bM=true):0<=mN left c/\mN left c<=1099511627776:=by
 have:=lN hp;unfold bL at this;unfold mN wL;have h:0<=max (o9 c.aS left none c.aS (-c.most)) 0:=I6;generalize max (o9 c.aS left none c.aS (-c.most)) 0=n at *;have:=Int.mul_nonneg h this.1;split<;>omega
def Zr(m:aj)(left:List (List Bool))(hm:VM m)(hf:ej m left):an Tryz.prog 104 [.agg (av m),.tree 1 (rowsOf bd left)] [] (aa3 (dI m left)) []:=by
 have eA:=hf.1;have tE:=hm.cls;have ym:=hm.ae;have Ci:=hm.ar;generalize ao:dI m left=res;unfold dI at ao;generalize hA:lO left 0 m.cls 0=A at *;refine an.aF 85 0 [.tmp 4] Tryz.func104 ?_;refine Vb X0 ?_;refine aW (λz:Nat×Int=>(⟨ax [(1,.tree 1 (rowsOf bd left)),(2,.ptr 0 0 0),(5,aa3 z.2),(18,.tree 1 (rowsOf bD m.cls)),(19,aa3 m.cls.length),(20,aa3 z.1)],[.var (av m)]⟩:St))
  (λz=>z.1<=m.cls.length/\0<=z.2/\z.2<=1099511627776*(z.1:Int)/\lO left z.1 (m.cls.drop z.1) z.2=A) (λz=>m.cls.length-z.1) (0,0) ⟨aQ _,dy _,aaK,hA⟩ (Xv X0) ?_
 rintro⟨i,n⟩⟨hi,e9,fV,hr⟩Ql aq au;dsimp only at hi e9 fV hr ⊢;by_cases hi':i<m.cls.length
 ·have hd:=cS m.cls i default hi';have hc:=hm.opt _ (aC (d:=default) hi');have eC:=hm.kQ _ (aC (d:=default) hi');have cD:=hf.2 i I6;have Zs:=hm.iS;generalize bb:m.cls.getD i default=c at *;generalize aZ:left.getD i default=row at *;rw[hd,lO,aZ]at hr;have hmr:=Gx (jE c) row 1099511627776 (λx hx=>by
   obtain⟨o,ho,rfl⟩:=List.mem_map.1 hx;exact(Ao (eC o ho)).1) I6
  generalize hX:iG (jE c) row 1099511627776=X at *;((repeat'(first|refine Va (X2 @bb @bD.eq_1) ?_|(refine Xi ?_ ?_<;>try intro ht)|exact Xx|fail)))
  refine aW (λz:Nat×Int=>(⟨ax [(1,.tree 1 (rowsOf bd left)),(2,.ptr 0 0 0),(5,aa3 n),(6,aa3 i),(8,aa3 z.2),(18,.tree 1 (rowsOf bD m.cls)),(19,aa3 m.cls.length),(20,aa3 i),(25,.tree 6 (rowsOf cw c)),(26,aa3 c.length),(27,aa3 z.1)],[.var (av m)]⟩:St))
   (λz=>z.1<=c.length/\iG (jE (c.drop z.1)) (row.drop z.1) z.2=X) (λz=>c.length-z.1) (0,1099511627776) ⟨aQ _,hX⟩ (Xv X0) ?_
  rintro⟨k,x⟩⟨hk,hJ⟩eR bX bQ;dsimp only at hk hJ ⊢;by_cases aJ:k<c.length
  ·have sB:=cS c k default aJ;have tF:=cS row k false I6;have ho:=aC (l:=c) (d:=default) aJ;have Zt:=Zu (c.getD k default) (Gy (eC _ ho)) (by have:=C5 Zs.1 (eC _ ho);omega);generalize me:c.getD k default=o at *;generalize gJ:row.getD k false=b at *;rw[sB,tF,show jE (o::c.drop (k+1))=iU o::jE (c.drop (k+1)) from rfl,iG]at hJ;cases b
   ·rw[if_neg Jd]at hJ;((repeat'(first|refine Va (X4 @me @aZ @gJ @bd.eq_1) ?_|(refine Xi ?_ ?_<;>try intro ht)|exact Xx|fail)))
    all_goals exact bX _ (k+1,x) ⟨aaK,hJ⟩ aaK (Xs false [0] X0)
   ·rw[if_pos rfl]at hJ;((repeat'(first|refine Vc (X4 @me @aZ @gJ @bd.eq_1) Zt ?_|(refine Xi ?_ ?_<;>try intro ht)|exact Xx|fail)))
    all_goals exact bX _ (k+1,min x (iU o)) ⟨aaK,hJ⟩ aaK (Xs false [0] X0)
  ·rw[show c.drop k=[] from cU I6]at hJ;have Zv:x=X:=by rw[<- hJ];cases row.drop k<;>rfl
   clear hJ;subst Zv;by_cases hF:x=1099511627776
   ·rw[if_pos hF]at hr;((repeat'(first|refine Va X0 ?_|(refine Xi ?_ ?_<;>try intro ht)|exact Xx|fail)))
    refine bQ _ _ rfl ?_;clear bX bQ;repeat(refine Xu ?_)
    ((repeat'(first|refine Va X0 ?_|(refine Xi ?_ ?_<;>try intro ht)|exact Xx|fail)))
    all_goals
     repeat(refine Xu ?_)
     rw[<- hr]at ao;refine Vb X0 ?_;exact aO rfl (by rw[<- ao];rfl)
   ·rw[if_neg hF]at hr;((repeat'(first|refine Va X0 ?_|(refine Xi ?_ ?_<;>try intro ht)|exact Xx|fail)))
    refine bQ _ _ rfl ?_;clear bX bQ;repeat(refine Xu ?_)
    ((repeat'(first|refine Va X0 ?_|(refine Xi ?_ ?_<;>try intro ht)|exact Xx|fail)))
    all_goals exact aq _ (i+1,n+x) ⟨aaK,aaK,aaK,hr⟩ aaK (Xv X0)
 rw[show m.cls.drop i=[] from cU I6,lO]at hr;subst hr;have nx:n<=1099511627776*24:=I6;clear fV;rw[uZ]at ao;generalize hB:mf m left m.ae n=B at *;((repeat'(first|refine Va X0 ?_|(refine Xi ?_ ?_<;>try intro ht)|exact Xx|fail)))
 refine au _ _ rfl ?_;clear aq au Ql;repeat(refine Xu ?_)
 refine Va X0 ?_;refine aW (λz:Nat×Int=>(⟨ax [(1,.tree 1 (rowsOf bd left)),(2,.ptr 0 0 0),(5,aa3 z.2),(51,.tree 4 (rowsOf bu m.ae)),(52,aa3 m.ae.length),(53,aa3 z.1)],[.var (av m)]⟩:St))
  (λz=>z.1<=m.ae.length/\0<=z.2/\z.2<=1099511627776*24+1099511627776*(z.1:Int)/\mf m left (m.ae.drop z.1) z.2=B) (λz=>m.ae.length-z.1) (0,n) ⟨aQ _,e9,aaK,hB⟩ (Xv X0) ?_
 (try clear e9;clear hi nx hB i)
 rintro⟨i,n⟩⟨hi,e9,fV,hr⟩Ql aq au;dsimp only at hi e9 fV hr ⊢;by_cases hi':i<m.ae.length
 ·have hd:=cS m.ae i default hi';have ef:=jo hm.pr _ (aC (d:=default) hi');have Ap:=Zw m _ left hm ef hf;have q7:=Zx hm ef hf;generalize cG:m.ae.getD i default=p at *;rw[hd,mf]at hr;generalize nK m left p=x at *;by_cases hF:x=1099511627776
  ·rw[if_pos hF]at hr;((repeat'(first|refine Vc (X2 @cG @bu.eq_1) Ap ?_|(refine Xi ?_ ?_<;>try intro ht)|exact Xx|fail)))
   all_goals
    repeat(refine Xu ?_)
    rw[<- hr]at ao;refine Vb X0 ?_;exact aO rfl (by rw[<- ao];rfl)
  ·rw[if_neg hF]at hr;((repeat'(first|refine Vc (X2 @cG @bu.eq_1) Ap ?_|(refine Xi ?_ ?_<;>try intro ht)|exact Xx|fail)))
   all_goals exact aq _ (i+1,n+x) ⟨aaK,aaK,aaK,hr⟩ aaK (Xs false [0] X0)
 rw[show m.ae.drop i=[] from cU I6,mf]at hr;subst hr;have nx:n<=1099511627776*5000:=I6;clear fV;rw[u3]at ao;generalize hB:lP left m.ar n=B at *;((repeat'(first|refine Va X0 ?_|(refine Xi ?_ ?_<;>try intro ht)|exact Xx|fail)))
 refine au _ _ rfl ?_;clear aq au Ql;repeat(refine Xu ?_)
 refine Va X0 ?_;refine aW (λz:Nat×Int=>(⟨ax [(1,.tree 1 (rowsOf bd left)),(2,.ptr 0 0 0),(5,aa3 z.2),(68,.tree 4 (rowsOf aK m.ar)),(69,aa3 m.ar.length),(70,aa3 z.1)],[.var (av m)]⟩:St))
  (λz=>z.1<=m.ar.length/\0<=z.2/\z.2<=1099511627776*5000+1099511627776*(z.1:Int)/\lP left (m.ar.drop z.1) z.2=B) (λz=>m.ar.length-z.1) (0,n) ⟨aQ _,e9,aaK,hB⟩ (Xv X0) ?_
 (try clear e9;clear hi nx hB i)
 rintro⟨i,n⟩⟨hi,e9,fV,hr⟩Ql aq au;dsimp only at hi e9 fV hr ⊢;by_cases hi':i<m.ar.length
 ·have hd:=cS m.ar i default hi';have tG:=hm.ct _ (aC (d:=default) hi');have Ap:=Zo m _ left hm tG hf;have q7:=Zq left (lp tG).2.2.1;generalize cG:m.ar.getD i default=p at *;rw[hd,lP]at hr;generalize mN left p=x at *;by_cases hF:x=1099511627776
  ·rw[if_pos hF]at hr;((repeat'(first|refine Vc (X2 @cG @aK.eq_1) Ap ?_|(refine Xi ?_ ?_<;>try intro ht)|exact Xx|fail)))
   all_goals
    repeat(refine Xu ?_)
    rw[<- hr]at ao;refine Vb X0 ?_;exact aO rfl (by rw[<- ao];rfl)
  ·rw[if_neg hF]at hr;((repeat'(first|refine Vc (X2 @cG @aK.eq_1) Ap ?_|(refine Xi ?_ ?_<;>try intro ht)|exact Xx|fail)))
   all_goals exact aq _ (i+1,n+x) ⟨aaK,aaK,aaK,hr⟩ aaK (Xs false [0] X0)
 rw[show m.ar.drop i=[] from cU I6,lP]at hr;rw[<- hr]at ao;have C6:=Gz n;rw[show min n 1099511627776=res from ao]at C6;((repeat'(first|refine Va X0 ?_|(refine Xi ?_ ?_<;>try intro ht)|exact Xx|fail)))
 refine au _ _ rfl ?_;clear aq au Ql;repeat(refine Xu ?_)
 refine Vd X0 C6 ?_;exact aO rfl rfl
end T

