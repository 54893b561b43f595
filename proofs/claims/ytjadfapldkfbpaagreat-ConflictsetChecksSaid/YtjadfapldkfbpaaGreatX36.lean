import Derived.Test.YtjadfapldkfbpaaGreatX32
import Derived.Test.YtjadfapldkfbpaaGreatX33
import Derived.Test.YtjadfapldkfbpaaGreatX35
set_option linter.all false
set_option maxHeartbeats 0
set_option maxRecDepth 20000
open Nat renaming le_refl→aR,zero_le→aF,lt_irrefl→Ha,lt_succ_self→uK,lt_or_ge→fN
open List renaming getD_eq_getElem?_getD→aG,getElem?_map→b6,length_map→eO,mem_map→cC,range→aZ,map_congr_left→oM,take→mS,drop→kC,getElem?_eq_some_iff→aY,getElem?_append_left→dg,length_set→bw,getElem?_set_ne→bM,getElem?_set_self→P0,cons_append→dP,nil_append→dZ,length→rq,eq_nil_of_length_eq_zero→sF,mem_append→cz,getElem?_eq_getElem→bT,length_append→bQ,append_nil→ic,getElem?_eq_none→ei
open Bool renaming and_eq_true→bk
open Go Go.Am Go.Proofs
namespace T
def FC:List (List bV)->Int->Int
 |[],n=>n
 |c::r,n=>if c.length=0 then 0 else FC r (min (n*c.length) 65537)
def Nk(m:ah):Int:=if ek m=0 then FC m.cls 1 else 0
def vv:List (List bV)->Nat
 |[]=>1
 |c::r=>c.length*vv r
def Zl{m:ah}{w:Nat}(h:∀ l∈m.cls,l.length<=w):∀ d,d<=m.cls.length->I5 m d<=w^d
 |0,_=>aR _
 |d+1,hd=>by
  rw[I5,Nat.pow_succ,Nat.mul_comm];exact Nat.mul_le_mul (Zl h d G3) (h _ (aB G3))
def s6(n:Int):Bool:=decide (n=1099511627776)
def Bg(n:Int):Int:=if n=1099511627776 then 1099511627776 else 0
def pk(o:bV):bV:={ o with ch:=o.ch.filter λc=>s6 c.2 }
def p7(p:Pr):Pr:={ p with aD:=p.aD.map Bg }
def db(m:ah):ah:=⟨m.cls.map λl=>l.map pk,m.ae.map p7,m.ax.filter λc=>s6 c.b8,m.rules⟩
def Nl(m:ah)(j:Nat):((db m).cls.getD j default).length=(m.cls.getD j default).length:=by
 unfold db;dsimp only;rw[aG,b6,aG];cases m.cls[j]? with
 |none=>rfl
 |some l=>simp
def A9(m:ah):(db m).cls.length=m.cls.length:=by unfold db;simp
def Zb(m:ah)(c o:Int):eU (db m) c o=eU m c o:=by unfold eU;rw[A9,Nl]
def Zm(m:ah):∀ (l:List Ld) (q:Option Ld),eE (db m) q l=eE m q l
 |[],q=>by cases q<;>rfl
 |x::r,q=>by
  rw[eE.eq_def,eE.eq_def m];dsimp only;rw[Zb,Zm m r]
def Zn{m:ah}:∀ (l:List Pr) (q:Option Pr),fH m q l=true->fH (db m) (q.map p7) (l.map p7)=true
 |[],q,_=>by cases q<;>rfl
 |p::r,q,h=>by
  rw[fH.eq_def]at h;simp only[bk]at h;obtain⟨⟨a,b⟩,c⟩:=h;rw[List.map_cons,fH.eq_def];simp only[bk];refine⟨⟨?_,?_⟩,Zn r (some p) c⟩
  ·unfold gL at *;simp only[bk,decide_eq_true_eq]at a ⊢;rw[A9,show(p7 p).fst=p.fst from rfl,show(p7 p).snd=p.snd from rfl,Nl,Nl];obtain⟨⟨a1,a2⟩,a3⟩:=a;refine⟨⟨a1,a2.1,a2.2.1,a2.2.2.1,by show((p.aD.map Bg).length:Int)=_;rw[eO];exact a2.2.2.2⟩,?_⟩;have:(p7 p).aD.any pX=false:=List.any_eq_false.2 λx hx=>by
    obtain⟨y,hy,rfl⟩:=cC.1 hx;unfold Bg;split<;>decide
   rw[this];rfl
  ·cases q with
   |none=>rfl
   |some q=>exact b
def Fx{m:ah}(h:VM m):VM (db m):=by
 refine⟨by rw[A9];exact h.cls,λl hl=>?_,by show(m.ae.map p7).length<=4000;rw[eO];exact h.ae,Nat.le_trans (List.length_filter_le _ _) h.ax,h.iI,λl hl o ho=>?_,Zn m.ae none h.pr,λc hc=>?_⟩
 ·obtain⟨l',jF,rfl⟩:=cC.1 hl;rw[eO];exact h.opt _ jF
 ·obtain⟨l',jF,rfl⟩:=cC.1 hl;obtain⟨o',cy,rfl⟩:=cC.1 ho;exact Iu _ (h.oB _ jF _ cy)
 ·have iR:=h.ct c (List.mem_filter.1 hc).1;unfold iW at *;rw[Zm];exact iR
def Zo(x:Int×Int):an Tryz.prog 132 [.agg (aK x)] [] (.lit (.bool (!s6 x.2))) []:=by
 unfold s6;refine an.aC 6 0 [.tmp 2] Tryz.func132 ?_;refine Vb @aK.eq_1 ?_;exact aE rfl rfl
def ahP(x:Ct):an Tryz.prog 134 [.agg (aV x)] [] (.lit (.bool (!s6 x.b8))) []:=by
 unfold s6;refine an.aC 6 0 [.tmp 2] Tryz.func134 ?_;refine Vb @aV.eq_1 ?_;exact aE rfl rfl
def ahQ(g:FuncId)(hg:∀ x:Int×Int,an Tryz.prog g [.agg (aK x)] [] (.lit (.bool (!s6 x.2))) []):an Tryz.prog 131 [.tree 2 [],.fn g []] [] (.tree 2 []) []:=by
 have eM:=Zp [] g [] [] (λx=>!s6 x.2) Kq (λx hx=>by cases hx);rw[show dH (λx:Int×Int=>!s6 x.2) 0 [] = -1 from rfl,show rowsOf aK []=[] from rfl]at eM;refine an.aC 42 0 [.tmp 4] Tryz.func131 ?_;((repeat'(first|refine Vd X0 eM ?_|(refine Xi ?_ ?_<;>try intro ht)|exact Xx|fail)))
 exact aE rfl rfl
def ahR(o:bV):jM (pk o)=jM o:=rfl
def ahS(A:Nat->List AV)(C:Nat->AV){n k:Nat}(hk:k<n)(v:AV):((aZ n).map λq=>A q++[C q]).set k (A k++[v])=(aZ n).map λq=>A q++[if q=k then v else C q]:=by
 rw[ahT];refine oM λq _=>?_;by_cases e:q=k
 ·subst e;rw[if_pos rfl,if_pos rfl]
 ·rw[if_neg e,if_neg e]
def Zq{L:List bV}{q:Nat}(hq:q<L.length):(L.map pk).getD q default=pk (L.getD q default):=kU _ _ _ hq
def ahU{L:List bV}{os:List Ob}{l r ac hi:Nat}{C:Nat->AV}(C0:ac<r)(h:cX 6 (λq=>yg (if q<L.length then(pk (L.getD q default)).ch else(L.getD q default).ch)) os ac l hi L.length (λq=>jM (L.getD q default)) C):yh (L.map pk) os l r (.ref ac 6 0 L.length):=by
 refine⟨ac,hi,C,by rw[eO],C0,?_⟩;rw[eO];refine h.C1 (λq hq=>?_) (λ_ _=>rfl) (λq hq os l r v hv=>?_)
 ·rw[Zq hq,ahR]
 ·rw[Zq hq];rw[if_pos hq]at hv;exact hv
def Y6(m:ah)(hm:VM m):an Tryz.prog 98 [.agg (ao m)] [] (.bH [.agg (ao (db m)),aaa 0]) []:=by
 have h1:=ud m hm.mb;rw[iu.2 hm]at h1;have Zr:=ahV m hm;have nL:=hm.cls;have s7:=hm.ae;have ht4:=hm.ax;refine an.aC 73 0 [.cell 2 37,.tmp 3] Tryz.func98 ?_;repeat'(first|((fail_if_success (first|refine dE 4 ?_|refine dF 4 ?_));refine Xq X0 ?_;intro K hK)|refine Xo X0 ?_|refine Xc (h1) ?_|(refine hK _ ?_;clear hK K)|(refine Xi ?_ ?_<;>try intro ht)|refine Xy ?_|exact Xx|fail)
 refine bD (ay.jf 1 0 (cells:=ao m) P5 (by simp only[Kc,simprocAttr]) (by simp[ao])) ?_;refine bD (σ':=⟨au [(1,.bm (ao m)),(2,.ptr 0 0 0),(3,aaa 0)],[.var zM]⟩) (Xs false [1] @zM.eq_1) ?_;refine sR 1 Kq _ rfl ?_;intro K hK;simp(disch:=omega)only[Ac,↓Pc,simprocAttr,mS,kC,ao];refine⟨rfl,(show nF Tryz.prog 130 [.agg (ao m)] (some 20) _ _ from ?_)⟩;refine wA Zr ?_;rintro r os⟨f0,a,b,d,rfl,Au,C,l2,h2,C2,hC,hP,Nn,hd,I6⟩;refine⟨Nat.succ_le_of_lt (aY.1 f0).1,?_⟩;have anV:=(aY.1 f0).1;have Np:=hC.len;have ahX:=hP.len;have anW:=(aY.1 hd).1;simp(disch:=omega)only[Ac,↓Pc,simprocAttr,cD];refine hK _ ?_;clear hK K;repeat(refine Xu ?_)
 have gq:(os++[Ob.var [.ref a 1 0 m.cls.length,.ref b 4 0 m.ae.length,.ref d 4 0 m.ax.length,aaa m.rules]])[os.length]?=some (.var [.ref a 1 0 m.cls.length,.ref b 4 0 m.ae.length,.ref d 4 0 m.ax.length,aaa m.rules]):=kj _ _ _;have I7:=cX.same (λc=>wO _) hC (gB.app (by have:=hC.at_;omega) [Ob.var [.ref a 1 0 m.cls.length,.ref b 4 0 m.ae.length,.ref d 4 0 m.ax.length,aaa m.rules]] _) (dg Np);have Nq:=cX.same (λc=>yi _) hP (gB.app (by have:=hP.at_;omega) [Ob.var [.ref a 1 0 m.cls.length,.ref b 4 0 m.ae.length,.ref d 4 0 m.ax.length,aaa m.rules]] _) (dg ahX);have f1:=bf f0 [Ob.var [.ref a 1 0 m.cls.length,.ref b 4 0 m.ae.length,.ref d 4 0 m.ax.length,aaa m.rules]];have gd:=bf hd [Ob.var [.ref a 1 0 m.cls.length,.ref b 4 0 m.ae.length,.ref d 4 0 m.ax.length,aaa m.rules]];have hql:os.length+1<=(os++[Ob.var [.ref a 1 0 m.cls.length,.ref b 4 0 m.ae.length,.ref d 4 0 m.ax.length,aaa m.rules]]).length:=G9;clear hC hP f0 hd Zr;have Zs:=I7.at_;have I8:=Nq.at_;have I9:=Nq.uj;generalize os++[Ob.var [.ref a 1 0 m.cls.length,.ref b 4 0 m.ae.length,.ref d 4 0 m.ax.length,aaa m.rules]]=o1 at *;generalize os.length=q at *;have jc:=I7.arr;refine bD (σ':=⟨au [(2,.ptr 0 0 0),(5,.ptr q 0 0)],o1⟩) (Xv X0) ?_;refine Va (X2 @gq @jc) ?_;refine aO (λz:Nat×List Ob=>(⟨au [(2,.ptr 0 0 0),(5,.ptr q 0 0),(22,.ref a 1 0 m.cls.length),(23,aaa m.cls.length),(24,aaa z.1)],z.2⟩:St))
  (λz=>z.1<=m.cls.length/\gB Au (q+1) o1 z.2/\z.2[0]?=some (.var zM)/\q+1<=z.2.length/\cX 1 (λc=>yh (if c<z.1 then(m.cls.getD c default).map pk else m.cls.getD c default)) z.2 a 1 Au m.cls.length (λ_=>[]) C)
  (λz=>m.cls.length-z.1) (0,o1) ⟨aF _,λ_ _ _=>rfl,f1,hql,I7⟩ (Xv X0) ?_
 rintro⟨i,ob⟩⟨hi,jo,k0,cF,I'⟩Ql ak ar;dsimp only at hi jo k0 cF I' ⊢;by_cases hi':i<m.cls.length
 ·have eT:=aB (d:=default) hi';have sh:=hm.opt _ eT;have FD:=λo ho=>Zt hm eT (o:=o) ho;obtain⟨l,r,hl,hr,hO,Cl⟩:=I'.at (λc=>wO _) hi';have Nr:yh (m.cls.getD i default) ob l r (C i):=by
   have:=hO;rw[if_neg (Ha i)]at this;exact this
  clear hO;obtain⟨ac,hi3,CC,Zu,C0,hR⟩:=Nr;have anX:=hR.len;have anY:=hR.at_;have anZ:=hR.uj;have vu:=I'.arr;have wP:((aZ m.cls.length).map λc=>([]:List AV)++[C c])[i]?=some [AV.ref ac 6 0 (m.cls.getD i default).length]:=by
   rw[sZ _ hi',Zu];rfl
  have gD:=Bh (λc=>([]:List AV)++[C c]) m.cls.length;have hr6:=hR.arr;generalize Cr:(aZ m.cls.length).map (λc=>([]:List AV)++[C c])=R1 at vu wP gD;generalize hLL:m.cls.getD i default=L at *;((repeat'(first|refine Va (X4 @vu @wP @gD @hr6) ?_|(refine Xi ?_ ?_<;>try intro ht)|exact Xx|fail)))
  refine aO (λz:Nat×List Ob=>(⟨au [(2,.ptr 0 0 0),(5,.ptr q 0 0),(22,.ref a 1 0 m.cls.length),(23,aaa m.cls.length),(24,aaa i),(7,.ref ac 6 0 L.length),(28,.ref ac 6 0 L.length),(29,aaa L.length),(30,aaa z.1)],z.2⟩:St))
   (λz=>z.1<=L.length/\ob.length<=z.2.length/\(∀ j,j<ob.length->(j<l\/r<=j)->z.2[j]?=ob[j]?)/\∃ CC,cX 6 (λq=>yg (if q<z.1 then(pk (L.getD q default)).ch else(L.getD q default).ch)) z.2 ac l hi3 L.length (λq=>jM (L.getD q default)) CC)
   (λz=>L.length-z.1) (0,ob) ⟨aF _,aR _,λ_ _ _=>rfl,CC,hR⟩ (Xv X0) ?_
  rintro⟨k,ot⟩⟨hk,hlen,dV,CD,hS⟩cL a7 ba;dsimp only at hk hlen dV hS ⊢;by_cases aL:k<L.length
  ·have fq:=aB (l:=L) (d:=default) aL;have bY:=FD _ fq;obtain⟨l',r',jF,uL,hH,ah2⟩:=hS.at (λq=>Ja _) aL;have hH2:iM 2 ot l' r' (CD k) (rowsOf aK (L.getD k default).ch):=by
    have:=hH;unfold yg at this;rw[if_neg (Ha k)]at this;exact this
   clear hH;have fA:=hS.len;have an0:=hS.at_;have Jb:=hS.arr;have yj:((aZ L.length).map λq=>jM (L.getD q default)++[CD q])[k]?=some (jM (L.getD k default)++[CD k]):=sZ _ aL;have Jc:=Bh (λq=>jM (L.getD q default)++[CD q]) L.length;have hRs:=λv=>ahS (λq=>jM (L.getD q default)) CD aL v;have kh:∀ (v:AV) (o2:List Ob),iM 2 o2 l' r' v (rowsOf aK (pk (L.getD k default)).ch)->(∀ j,j<ot.length->(j<l'\/r'<=j)->o2[j]?=ot[j]?)->ot.length<=o2.length->∀ st,
     ay 0 st ⟨au [(2,.ptr 0 0 0),(5,.ptr q 0 0),(22,.ref a 1 0 m.cls.length),(23,aaa m.cls.length),(24,aaa i),(7,.ref ac 6 0 L.length),(28,.ref ac 6 0 L.length),(29,aaa L.length),(30,aaa (k+1:Nat))],o2.set ac (.arr 6 (((aZ L.length).map λq=>jM (L.getD q default)++[CD q]).set k (jM (L.getD k default)++[v])))⟩->cL .normal st:=by
    intro v o2 hv Bi qx st cq;rw[hRs]at cq;refine a7 st (k+1,o2.set ac (.arr 6 ((aZ L.length).map λq=>jM (L.getD q default)++[if q=k then v else CD q]))) ⟨aL,by dsimp only;rw[bw];omega,λj h1 h2=>?_,λq=>if q=k then v else CD q,?_⟩ Kw cq
    ·dsimp only;rw[bM G3,Bi j G3 G3];exact dV j h1 h2
    ·refine ah2 _ v _ ?_ ?_ (λj h1 h2 h3=>?_) (λj h1 h2 os l r w hw=>?_)
     ·exact P0 G3
     ·show yg _ _ _ _ _;rw[if_pos (uK k)];exact iM.same hv (gB.set (.inr G3) _)
     ·rw[bM G3];exact Bi j G3 h3
     ·show yg _ _ _ _ _;by_cases e:j<k
      ·rw[if_pos e]at hw;rw[if_pos G3];exact hw
      ·rw[if_neg e]at hw;rw[if_neg G3];exact hw
   generalize kY:L.getD k default=o at *;have Ns:jM o=[aaa o.wk,aaa o.day,aaa o.st,aaa o.len,aaa o.room]:=rfl;rw[Ns]at yj;generalize qN:(aZ L.length).map (λq=>jM (L.getD q default)++[CD q])=R6 at *;rcases hH2 with⟨hv,hx⟩|⟨bc,rest,hv,nI,rV,C3,C4⟩
   ·have eK:=ahQ 132 Zo;rw[hv,hx]at yj;simp only[dP,dZ]at yj;have FE:o.ch=[]:=by
     have:=congrArg rq hx;rw[bX]at this;exact sF this
    ((repeat'(first|refine Vc (X3 @Jb @yj @Jc) eK ?_|(refine Xi ?_ ?_<;>try intro ht)|exact Xx|fail)))
    exact kh (.tree 2 []) ot (.inl ⟨by unfold pk;rw[FE];rfl,by unfold pk;rw[FE];rfl⟩) (λ_ _ _=>rfl) (aR _) _ (by rw[Ns];exact Xv X0)
   ·have eK:=ah5 o.ch rest 132 [] (λc=>!s6 c.2) ot bc C3 (λrow hr=>C4 row (by simp[hr])) G3 rfl (λx _=>Zo x);have Nt:(o.ch.filter λx=>!(λc:Int×Int=>!s6 c.2) x)=(pk o).ch:=by
     unfold pk;dsimp only;congr 1;funext x;exact Bool.not_not _
    rw[Nt]at eK;rw[hv,bX]at yj;simp only[dP,dZ]at yj;repeat'(first|((fail_if_success (first|refine dE 11 ?_|refine dF 11 ?_));refine Xr (X3 @Jb @yj @Jc) ?_;intro K hK)|(refine hK _ ?_;clear hK K)|(refine Xi ?_ ?_<;>try intro ht)|refine Xy ?_|exact Xx|fail)
    refine sR 7 Kq _ rfl ?_;intro K hK;simp(disch:=omega)only[Ac,↓Pc,simprocAttr,mS,kC,Jb,yj,Jc];refine⟨⟨G3,G3⟩,rfl,(show nF Tryz.prog 131 [.ref bc 2 0 o.ch.length,.fn 132 []] (some 40) _ _ from ?_)⟩;refine wA eK ?_;rintro r1 o2⟨rfl,vt,sc,a8,lW⟩;refine⟨vt.1,?_⟩;have ah6:o2[ac]?=some (.arr 6 R6):=(vt.2 ac G3 fA).trans Jb;simp(disch:=omega)only[Ac,↓Pc,simprocAttr,ah6,yj,Jc];refine⟨⟨G3,G3⟩,hK _ ?_⟩;clear hK K;repeat(refine Xu ?_)
    refine Va X0 ?_;exact kh (.ref bc 2 0 (pk o).ch.length) o2 (.inr ⟨bc,sc,by rw[bX],nI,rV,a8,λrow hr=>by
     rcases cz.1 hr with h|h
     ·exact fQ _ row h
     ·exact lW row h⟩) (λj h1 h2=>vt.2 j G3 h1) vt.1 _ (by rw[Ns];exact Xv X0)
  ·obtain rfl:k=L.length:=G3;((repeat'(first|refine Va X0 ?_|(refine Xi ?_ ?_<;>try intro ht)|exact Xx|fail)))
   refine ba _ _ rfl ?_;clear a7 ba;repeat(refine Xu ?_)
   refine Va X0 ?_;have eF:=(Cl (λc=>yh (if c<i+1 then(m.cls.getD c default).map pk else m.cls.getD c default)) (C i) ot (by
     rw[dV a G3 G3,vu,<- Cr];congr 2;refine oM λj _=>?_;by_cases e:j=i
     ·rw[if_pos e,e]
     ·rw[if_neg e]) (by
     rw[if_pos (uK i),hLL,Zu];exact ahU C0 hS) (λj h1 h2 h3=>dV j G3 h3) (λj h1 h2 os l r w hw=>by
     by_cases e:j<i
     ·rw[if_pos e]at hw;rw[if_pos G3];exact hw
     ·rw[if_neg e]at hw;rw[if_neg G3];exact hw)).C1 (C':=C) (Pd':=λc=>yh (if c<i+1 then(m.cls.getD c default).map pk else m.cls.getD c default)) (A':=λ_=>[]) (λ_ _=>rfl) (λj _=>by
     by_cases e:j=i
     ·rw[if_pos e,e]
     ·rw[if_neg e]) (λ_ _ _ _ _ _ h=>h)
   exact ak _ (i+1,ot) ⟨Kw,λj h1 h2=>(dV j G3 G3).trans (jo j h1 h2),(dV 0 G3 G3).trans k0,Kw,eF⟩ Kw (Xv X0)
 obtain rfl:i=m.cls.length:=G3;((repeat'(first|refine Va X0 ?_|(refine Xi ?_ ?_<;>try intro ht)|exact Xx|fail)))
 refine ar _ _ rfl ?_;clear ak ar Ql;repeat(refine Xu ?_)
 clear I7 jc;have Zv:=(jo q G3 G3).trans gq;have gd1:=(jo d G3 G3).trans gd;have Zw:=cX.same (λc=>yi _) Nq (jo.mono G3 G3) (jo b G3 G3);have ke:=Zw.arr;have an1:=Bh (λi=>kq (m.ae.getD i default)++[C2 i]) m.ae.length;refine Va (X2 @Zv @ke) ?_;refine aO (λz:Nat×List Ob=>(⟨au [(2,.ptr 0 0 0),(5,.ptr q 0 0),(46,.ref b 4 0 m.ae.length),(47,aaa m.ae.length),(48,aaa z.1)],z.2⟩:St))
  (λz=>z.1<=m.ae.length/\gB 0 l2 ob z.2/\gB h2 (q+1) ob z.2/\q+1<=z.2.length/\cX 4 (λc=>wQ (if c<z.1 then(p7 (m.ae.getD c default)).aD else(m.ae.getD c default).aD)) z.2 b l2 h2 m.ae.length (λc=>kq (m.ae.getD c default)) C2)
  (λz=>m.ae.length-z.1) (0,ob) ⟨aF _,λ_ _ _=>rfl,λ_ _ _=>rfl,cF,Zw⟩ (Xv X0) ?_
 rintro⟨i,ot⟩⟨hi,jk,jS,hlen,FF⟩Ql ak ar;dsimp only at hi jk jS hlen FF ⊢;by_cases hi':i<m.ae.length
 ·have wR:=aB (l:=m.ae) (d:=default) hi';have dh:=Nu hm wR;obtain⟨l,r,hl,hr,hO,Cl⟩:=FF.at (λc=>yi _) hi';have Nr:iM 1 ot l r (C2 i) (ints (m.ae.getD i default).aD):=by
   have:=hO;unfold wQ at this;rw[if_neg (Ha i)]at this;exact this
  clear hO;have vu:=FF.arr;have ah8:=FF.len;have wP:((aZ m.ae.length).map λc=>kq (m.ae.getD c default)++[C2 c])[i]?=some (kq (m.ae.getD i default)++[C2 i]):=sZ _ hi';have gD:=Bh (λc=>kq (m.ae.getD c default)++[C2 c]) m.ae.length;have kh:∀ o2:List Ob,iM 1 o2 l r (C2 i) (ints (p7 (m.ae.getD i default)).aD)->(∀ j,j<ot.length->(j<l\/r<=j)->o2[j]?=ot[j]?)->ot.length<=o2.length->∀ st,
    ay 0 st ⟨au [(2,.ptr 0 0 0),(5,.ptr q 0 0),(46,.ref b 4 0 m.ae.length),(47,aaa m.ae.length),(48,aaa (i+1:Nat))],o2⟩->Ql .normal st:=by
   intro o2 hv Bi qx st cq;have eF:=(Cl (λc=>wQ (if c<i+1 then(p7 (m.ae.getD c default)).aD else(m.ae.getD c default).aD)) (C2 i) o2 (by
     rw[Bi b ah8 G3,vu];congr 2;refine oM λj _=>?_;by_cases e:j=i
     ·rw[if_pos e,e]
     ·rw[if_neg e]) (by
     show wQ _ _ _ _ _;rw[if_pos (uK i)];exact hv) (λj h1 h2 h3=>Bi j G3 h3) (λj h1 h2 os l r w hw=>by
     show wQ _ _ _ _ _;by_cases e:j<i
     ·rw[if_pos e]at hw;rw[if_pos G3];exact hw
     ·rw[if_neg e]at hw;rw[if_neg G3];exact hw)).C1 (C':=C2) (Pd':=λc=>wQ (if c<i+1 then(p7 (m.ae.getD c default)).aD else(m.ae.getD c default).aD)) (A':=λc=>kq (m.ae.getD c default)) (λ_ _=>rfl) (λj _=>by
     by_cases e:j=i
     ·rw[if_pos e,e]
     ·rw[if_neg e]) (λ_ _ _ _ _ _ h=>h)
   exact ak st (i+1,o2) ⟨hi',λj h1 h2=>(Bi j G3 G3).trans (jk j h1 h2),λj h1 h2=>(Bi j G3 G3).trans (jS j h1 h2),Kw,eF⟩ Kw cq
  clear Cl;generalize bL:m.ae.getD i default=p at *;have Jd:kq p=[aaa p.fst,aaa p.snd,aaa p.bF]:=rfl;rw[Jd]at wP;simp only[dP,dZ]at wP;generalize qN:(aZ m.ae.length).map (λc=>kq (m.ae.getD c default)++[C2 c])=R2 at *;rcases Nr with⟨hv,hx⟩|⟨tb,rest,hv,nI,rV,C3,C4⟩
  ·have ht0:p.aD=[]:=by
    have:=congrArg rq hx;rw[lh]at this;exact sF this
   rw[hv]at wP;rw[ht0]at wP;((repeat'(first|refine Va (X4 @vu @wP @gD @cD) ?_|(refine Xi ?_ ?_<;>try intro ht)|exact Xx|fail)))
   refine aO (λz:Unit=>(⟨au [(2,.ptr 0 0 0),(5,.ptr q 0 0),(46,.ref b 4 0 m.ae.length),(47,aaa m.ae.length),(48,aaa i),(54,aaa 0),(55,aaa 0)],ot++[.var [aaa p.fst,aaa p.snd,aaa p.bF,.tree 1 (ints [])]]⟩:St)) (λ_=>True) (λ_=>0) () trivial (Xv X0) ?_;rintro⟨⟩_ cL a7 ba;((repeat'(first|refine Va X0 ?_|(refine Xi ?_ ?_<;>try intro ht)|exact Xx|fail)))
   refine ba _ _ rfl ?_;clear a7 ba;repeat(refine Xu ?_)
   refine Va X0 ?_;refine kh (ot++[.var [aaa p.fst,aaa p.snd,aaa p.bF,.tree 1 (ints [])]]) (.inl ⟨?_,?_⟩) (λj h1 _=>dg h1) G9 _ (Xv X0)
   ·rw[hv,ht0];unfold p7;rw[ht0];rfl
   ·unfold p7;rw[ht0];rfl
  ·rw[lh]at hv;rw[hv]at wP;have mJ:=(aY.1 C3).1;have Zx:=bf C3;((repeat'(first|refine Va (X5 @vu @wP @gD @cD @Zx) ?_|(refine Xi ?_ ?_<;>try intro ht)|exact Xx|fail)))
   have tx:(ot++[Ob.var [aaa p.fst,aaa p.snd,aaa p.bF,.ref tb 1 0 p.aD.length]])[ot.length]?=some (.var [aaa p.fst,aaa p.snd,aaa p.bF,.ref tb 1 0 p.aD.length]):=kj _ _ _;refine aO (λz:Nat×List Int×List Ob=>(⟨au [(2,.ptr 0 0 0),(5,.ptr q 0 0),(46,.ref b 4 0 m.ae.length),(47,aaa m.ae.length),(48,aaa i),(10,.ptr ot.length 0 0),(53,.ref tb 1 0 p.aD.length),(54,aaa p.aD.length),(55,aaa z.1)],z.2.2⟩:St))
    (λz=>z.1<=p.aD.length/\z.2.1.length=p.aD.length/\(∀ j,j<p.aD.length->z.2.1.getD j 0=if j<z.1 then Bg (p.aD.getD j 0) else p.aD.getD j 0)/\lZ tb (ot++[Ob.var [aaa p.fst,aaa p.snd,aaa p.bF,.ref tb 1 0 p.aD.length]]) z.2.2/\z.2.2[tb]?=some (.arr 1 (ints z.2.1++rest)))
    (λz=>p.aD.length-z.1) (0,p.aD,ot++[Ob.var [aaa p.fst,aaa p.snd,aaa p.bF,.ref tb 1 0 p.aD.length]]) ⟨aF _,rfl,λ_ _=>G9,lZ.refl _ _,Zx _⟩ (Xv X0) ?_
   rintro⟨k,X,ox⟩⟨hk,hX,iG,jC,a8⟩cL a7 ba;dsimp only at hk hX iG jC a8 ⊢;have Ep:ox[ot.length]?=some (.var [aaa p.fst,aaa p.snd,aaa p.bF,.ref tb 1 0 p.aD.length]):=(jC.2 _ G3 G9).trans tx;by_cases aL:k<p.aD.length
   ·have bj:(ints X++rest)[k]?=some [aaa (p.aD.getD k 0)]:=by
     have h5:=iG k aL;rw[if_neg (Ha k)]at h5;rw[dg (by rw[lh];omega),<- h5];unfold ints;rw[b6,aG,bT G3];rfl
    have cZ:(ints X++rest).length=p.aD.length+rest.length:=by rw[bQ,lh,hX]
    have iq:(ints X++rest).set k [aaa 0]=ints (X.set k 0)++rest:=by
     rw[List.set_append_left _ _ (by rw[lh];omega)];unfold ints;rw[<- List.map_set]
    generalize aS:p.aD.getD k 0=x at *;have Ic:∀ j,j<p.aD.length->j≠k->X.getD j 0=if j<k+1 then Bg (p.aD.getD j 0) else p.aD.getD j 0:=λj h1 h2=>by
     rw[iG j h1];by_cases e:j<k
     ·rw[if_pos e,if_pos G3]
     ·rw[if_neg e,if_neg G3]
    by_cases hF:x=1099511627776
    ·((repeat'(first|refine Va (X4 @Ep @a8 @bj @cZ) ?_|(refine Xi ?_ ?_<;>try intro ht)|exact Xx|fail)))
     all_goals try(exfalso;simp_all;done)
     all_goals
      refine a7 _ (k+1,X,ox) ⟨aL,hX,λj hj=>?_,jC,a8⟩ Kw (Xv X0);by_cases e:j=k
      ·subst e;have:=iG j hj;dsimp only;rw[this,aS,if_neg (Ha _),if_pos (uK _),hF];rfl
      ·exact Ic j hj e
    ·((repeat'(first|refine Va (X5 @Ep @a8 @bj @cZ @iq) ?_|(refine Xi ?_ ?_<;>try intro ht)|exact Xx|fail)))
     all_goals try(exfalso;simp_all;done)
     all_goals
      refine a7 _ (k+1,X.set k 0,ox.set tb (.arr 1 (ints (X.set k 0)++rest))) ⟨aL,by dsimp only;rw[bw];exact hX,λj hj=>?_,by have:=jC.step (.arr 1 (ints (X.set k 0)++rest)) [];rwa [ic]at this,j3 a8⟩ Kw (Xv X0);dsimp only;by_cases e:j=k
      ·subst e;rw[aG,P0 G3,aS,if_pos (uK _)];unfold Bg;rw[if_neg hF];rfl
      ·rw[aG,bM (Ne.symm e),<- aG];exact Ic j hj e
   ·obtain rfl:k=p.aD.length:=G3;((repeat'(first|refine Va X0 ?_|(refine Xi ?_ ?_<;>try intro ht)|exact Xx|fail)))
    refine ba _ _ rfl ?_;clear a7 ba;repeat(refine Xu ?_)
    refine Va X0 ?_;have hXe:X=p.aD.map Bg:=by
     apply List.ext_getElem?;intro j;by_cases e:j<p.aD.length
     ·have:=iG j e;rw[if_pos e,aG,aG,bT G3,bT e]at this;rw[b6,bT G3,bT e];simpa using this
     ·rw[ei G3,ei (by simpa using e)]
    refine kh ox ?_ (λj h1 h2=>(jC.2 j G3 PX).trans (dg h1)) (by have:=jC.1;simp at this;omega) _ (Xv X0);refine .inr ⟨tb,rest,?_,nI,rV,?_,λrow sS=>?_⟩
    ·rw[hv,lh];unfold p7;simp
    ·rw[a8,hXe];rfl
    ·rcases cz.1 sS with h|h
     ·exact ny _ row h
     ·exact C4 row (by simp[h])
 obtain rfl:i=m.ae.length:=G3;((repeat'(first|refine Va X0 ?_|(refine Xi ?_ ?_<;>try intro ht)|exact Xx|fail)))
 refine ar _ _ rfl ?_;clear ak ar Ql;repeat(refine Xu ?_)
 have Zy:=(jS q G3 G3).trans Zv;have gd2:=(jS d G3 G3).trans gd1;have k2:=(jk 0 G3 G3).trans k0;have Zz:=cX.same (λc=>wO _) I' (jk.mono G3 G3) (jk a G3 G3);have ZA:=aia m.ax [] 134 [] (λc=>!s6 c.b8) ot d (by rw[ic];exact gd2) (λrow hr=>by cases hr) G3 rfl (λx _=>ahP x);have Nt:(m.ax.filter λx=>!(λc:Ct=>!s6 c.b8) x)=(db m).ax:=by
  unfold db;dsimp only;congr 1;funext x;exact Bool.not_not _
 rw[Nt]at ZA;refine Xy ?_;refine sR 2 Kq _ rfl ?_;intro K hK;simp(disch:=omega)only[Ac,↓Pc,simprocAttr,mS,kC,Zy];refine⟨rfl,(show nF Tryz.prog 133 [.ref d 4 0 m.ax.length,.fn 134 []] (some 70) _ _ from ?_)⟩;refine wA ZA ?_;rintro r1 o2⟨rfl,vt,sc,a8,lW⟩;refine⟨vt.1,?_⟩;have ZB:o2[q]?=_:=(vt.2 q G3 G3).trans Zy;have k3:o2[0]?=_:=(vt.2 0 G3 G3).trans k2;have ZC:=λy=>j3 (y:=y) ZB;simp(disch:=omega)only[Ac,↓Pc,simprocAttr,ZB,ZC];refine hK _ ?_;clear hK K;repeat(refine Xu ?_)
 have wI:=(aY.1 a8).1;have k4:∀ Y,(o2.set q Y)[0]?=some (.var zM):=λY=>(bM G3).trans k3;have hS:∀ (Y Z:Ob) (lo hi:Nat),1<=lo->hi<=d->gB lo hi ot ((o2.set q Y).set 0 Z):=λY Z lo hi h1 h2 j j1 j2=>by
  rw[bM G3,bM G3];exact vt.2 j G3 G3
 have hfC:∀ Y Z,C5 (db m).cls ((o2.set q Y).set 0 Z) a 1 Au (db m).cls.length C:=λY Z=>by
  unfold C5;rw[A9];refine cX.C1 (cX.same (λc=>wO _) Zz (hS Y Z _ _ (aR _) G3) (hS Y Z a (a+1) (by have:=Zz.uj;omega) G3 a (aR _) (uK _))) (λ_ _=>rfl) (λ_ _=>rfl) (λc hc os l r v hv=>?_);rw[if_pos hc]at hv;have e:(db m).cls.getD c default=(m.cls.getD c default).map pk:=kU _ _ _ hc;rw[e];exact hv
 have hfP:∀ Y Z,FG (db m).ae ((o2.set q Y).set 0 Z) b l2 h2 (db m).ae.length C2:=λY Z=>by
  unfold FG;rw[show(db m).ae.length=m.ae.length by simp[db]];refine cX.C1 (cX.same (λc=>yi _) FF (hS Y Z _ _ G3 G3) (hS Y Z b (b+1) G3 G3 b (aR _) (uK _))) (λc hc=>?_) (λ_ _=>rfl) (λc hc os l r v hv=>?_)
  ·have e:(db m).ae.getD c default=p7 (m.ae.getD c default):=kU _ _ _ hc;rw[e];rfl
  ·have rH:wQ _ os l r v:=hv;rw[if_pos hc]at rH;have e:(db m).ae.getD c default=p7 (m.ae.getD c default):=kU _ _ _ hc;rw[e];exact rH
 have hfD:∀ Y Z,iM 4 ((o2.set q Y).set 0 Z) d (d+1) (.ref d 4 0 (db m).ax.length) (rowsOf aV (db m).ax):=λY Z =>
  .inr ⟨d,sc,by rw[bX],aR _,uK _,by rw[bM G3,bM G3];exact a8,λrow hr=>by
   rcases cz.1 hr with h|h
   ·exact fQ _ row h
   ·exact lW row h⟩
 have tP:(db m).ae.length=m.ae.length:=by simp[db]
 have k5:=λY Z=>j3 (y:=Z) (k4 Y);refine Vb (X3 @ZC @k4 @zM.eq_1) ?_;simp(disch:=omega)only[Ac,↓Pc,simprocAttr,rowOf,k5];refine dr [] true Kq trivial Kq Kq (aI.mn (aI.agg _ _ rfl (eY.spec (R:=aI _ _ _ _) (cs:=ao (db m)) (ds:=[.ref a 1 0 m.cls.length,.ref b 4 0 m.ae.length,.ref d 4 0 (db m).ax.length,aaa m.rules]) ⟨.snap _ _ rfl ?_,.snap _ _ rfl ?_,.snap _ _ rfl ?_,.pure rfl,trivial⟩).2) (.pure rfl))
 ·rw[<- A9 m];exact aie (hfC _ _) (λi _ _=>iD G9)
 ·rw[<- tP];exact aif (hfP _ _) (λi _ _=>iD G9)
 ·exact iM.cp (hfD _ _) (λi _ _=>iD G9) (jX _)
def KW(m:ah)(p:List Int)(t:Int):Prop:=(p=[]/\t=1099511627776)\/(FP m p/\t<1099511627776)
def KW.top{m:ah}{p:List Int}{t:Int}(h:KW m p t):t<=1099511627776:=by
 rcases h with⟨_,h⟩|⟨_,h⟩<;>omega
section
variable {m:ah} {left:List (List Bool)} {p:List Int}
def ZD{f:List (List Bool)->DS->DS}{c:Nat}{N:Nat}(hf:∀ k s,k<N->KW m s.plan s.cO->KW m (f (cf left c k) s).plan (f (cf left c k) s).cO):
  ∀ (w o:Nat) (s:DS) (ks:List Int),o+w=N->KW m s.plan s.cO->KW m (um f left c w o s ks).1.plan (um f left c w o s ks).1.cO
 |0,o,s,ks,ho,h=>h
 |w+1,o,s,ks,ho,h=>by
  rw[um];exact ZD hf w (o+1) _ _ G3 (hf o s G3 h)
def ZE(hm:VM m):∀ (f:Nat) (left:List (List Bool)) (p:List Int) (s:DS),left.length+1<=f+p.length->Dn m left p->KW m s.plan s.cO->KW m (si m f p.length left s).plan (si m f p.length left s).cO
 |0,left,p,s,hf,h,hk=>by have:=h.bp.len;rw[<- h.fit.1]at this;omega
 |f+1,left,p,s,hf,h,hk=>by
  obtain⟨r,h1,h2,h3⟩:=Dn.skip (left:=left) _ p rfl h;obtain⟨g1,g2,g3,g4⟩:=FH (left:=left) _ p.length rfl;have dh:p.length<=left.length:=by rw[h.fit.1];exact h.bp.len
  have hJ:=h.fit;have an2:=hk.top;rw[si];split
  ·exact hk
  rename_i hv;split
  ·rename_i he;have Eh:(p++r).length=m.cls.length:=by rw[h2,he,hJ.1]
   refine .inr ⟨?_,?_⟩
   ·show FP m (kr left);rw[h1.aih Eh];exact h1.bp.fp Eh
   ·show iA m left<_;omega
  rename_i he;split
  ·exact hk
  rw[<- h2]at he ⊢;have bx:(p++r).length<m.cls.length:=by
   have:=h1.bp.len;rw[hJ.1]at he;omega
  have bj:(left.getD (p++r).length default).length=(m.cls.getD (p++r).length default).length:=hJ.2 _ (by rw[hJ.1];exact bx);have an3:p.length<=(p++r).length:=G9;generalize hP:p++r=P at *;exact ZD (m:=m) (left:=left) (c:=P.length) (f:=si m f (P.length+1)) (N:=(left.getD P.length default).length) (λk s' bW hs=>by
   have:=ZE hm f (cf left P.length k) (P++[(k:Int)]) s' (by rw[show(cf left P.length k).length=left.length by unfold cf;simp];simp;omega) (h1.next bx G3) hs;rwa [show(P++[(k:Int)]).length=P.length+1 by simp]at this) _ 0 (po left P.length (iA m left) s) [] G3 hk
end
structure FI(s r:DS)(k:Nat):Prop where
 rm:0<=s.room->0<=r.room
 le:(r.nodes.length:Int)+r.room<=s.nodes.length+s.room+k
 ge:s.nodes.length<=r.nodes.length
 bd:(∀ x∈s.nodes,wS x)->∀ x∈r.nodes,wS x
def FJ:wS (eW []):=⟨aF _,aF _,rfl,rfl⟩
def FL{l:List Nd}{x:Nd}(hx:wS x)(h:∀ y∈l,wS y):∀ y∈l++[x],wS y:=λy hy=>by
 rcases cz.1 hy with hy|hy
 ·exact h y hy
 ·rw[List.mem_singleton]at hy;subst hy;exact hx
def ZF{f:List (List Bool)->DS->DS}{left:List (List Bool)}{c:Nat}(hf:∀ k s,FI s (f (cf left c k) s) 1):∀ (w o:Nat) (s:DS) (ks:List Int),FI s (um f left c w o s ks).1 w/\(um f left c w o s ks).2.length=ks.length+w
 |0,o,s,ks=>⟨⟨id,by rw[um];simp,aR _,id⟩,rfl⟩
 |w+1,o,s,ks=>by
  rw[um];obtain⟨i1,i2⟩:=ZF hf w (o+1) (f (cf left c o) s) (ks++[(s.nodes.length:Int)]);have h:=hf o s;have a1:=i1.le;have a2:=h.le;have a3:=i1.ge;have a4:=h.ge;exact⟨⟨λe=>i1.rm (h.rm e),by push_cast at *;omega,G3,λe=>i1.bd (h.bd e)⟩,by rw[i2];simp;omega⟩
def aii{left:List (List Bool)}(h:∀ c,(left.getD c default).length<=25)(c k:Nat):∀ j,((cf left c k).getD j default).length<=25:=λj=>by
 unfold cf;by_cases e:c=j
 ·subst e;rcases fN c left.length with h1|h1
  ·rw[vr _ _ _ h1,Je];exact h c
  ·rw[List.set_eq_of_length_le h1];exact h c
 ·rw[Nv _ e];exact h j
def ZG{m:ah}:∀ (f c:Nat) (left:List (List Bool)) (s:DS),(∀ c,(left.getD c default).length<=25)->FI s (si m f c left s) 1
 |0,c,left,s,hw=>⟨id,by rw[si];omega,aR _,id⟩
 |f+1,c,left,s,hw=>by
  have hl:∀ (nd:List Nd) (a b d:Int) (w:Bool) (p:List Int),FI ⟨nd,a,b,w,p,d,d⟩ ⟨nd++[eW []],a,b,w,p,d,d⟩ 1:=λnd a b d w p=>⟨id,PX,G9,FL FJ⟩;rw[si];split
  ·exact⟨id,PX,G9,FL FJ⟩
  split
  ·exact⟨id,PX,G9,FL FJ⟩
  split
  ·exact⟨id,PX,G9,FL FJ⟩
  ·rename_i h1;rw[not_or]at h1;have hwc:=hw (cH left c);obtain⟨k1,k2⟩:=ZF (f:=si m f (cH left c+1)) (left:=left) (c:=cH left c) (λk s'=>ZG f _ _ s' (aii hw _ _)) (left.getD (cH left c) default).length 0 (po left (cH left c) (iA m left) s) [];generalize um (si m f (cH left c+1)) left (cH left c) (left.getD (cH left c) default).length 0 (po left (cH left c) (iA m left) s) []=r at *;have a1:=k1.le;have a2:=k1.ge;have a3:=k1.rm;unfold po at a1 a2 a3;dsimp only at a1 a2 a3;rw[bQ,List.length_singleton]at a1 a2;unfold FM;refine⟨λe=>a3 G3,by dsimp only;rw[bw];push_cast at *;omega,by dsimp only;rw[bw];omega,λe x hx=>?_⟩;rcases List.mem_or_eq_of_mem_set hx with hx|hx
   ·exact k1.bd (FL FJ e) x hx
   ·subst hx;exact⟨by show r.2.length<=25;rw[k2,List.length_nil];omega,aF _,rfl,rfl⟩
def Nf{r:ah}(hr:VM r):KW r (dY r).plan (dY r).cO:=ZE hr (r.cls.length+1) (fM r) [] C6 (by rw[(Dn.root hr).fit.1];simp) (Dn.root hr) (.inl ⟨rfl,rfl⟩)
def ZH{r:ah}(hr:VM r):PB (dY r).nodes:=by
 have hf:=C7 hr;have h:FI C6 (dY r) 1:=ZG (r.cls.length+1) 0 (fM r) C6 λc=>by
  rcases fN c (fM r).length with h1|h1
  ·rw[hf.2 c h1];have:=hr.opt _ (aB (l:=r.cls) (i:=c) (d:=default) (by rw[<- hf.1];exact h1));omega
  ·rw[aG,ei h1];exact aF _
 have h1:=h.rm Kq;have h2:=h.le;have hb:∀ x∈(dY r).nodes,wS x:=h.bd λx hx=>by cases hx
 have hz:(C6.nodes.length:Int)+C6.room=19999:=rfl;refine⟨G3,λx hx=>?_,λx hx=>?_,λx hx=>?_,λx hx=>?_,λx hx l hl=>?_⟩
 ·have:=(hb x hx).kids;omega
 ·have:=(hb x hx).cR;omega
 ·rw[(hb x hx).bh];decide
 ·rw[(hb x hx).cells];decide
 ·rw[(hb x hx).cells]at hl;cases hl
end T

