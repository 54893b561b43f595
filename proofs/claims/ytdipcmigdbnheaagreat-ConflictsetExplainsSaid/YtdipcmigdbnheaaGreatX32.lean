import Derived.Test.YtdipcmigdbnheaaGreatX28
set_option linter.all false
set_option maxHeartbeats 0
set_option maxRecDepth 20000
open List renaming all_eq_true→fT,getElem_of_mem→mJ,length_take→eN,getD_eq_getElem?_getD→aA,getElem?_eq_getElem→bK,replicate→bH,append_assoc→cM,length_set→bF,take_length→rB
open Nat renaming zero_le→aI,not_lt_zero→m8,eq_zero_or_pos→m9
open Int renaming eq_ofNat_of_zero_le→BM,toNat_natCast→fq
open Bool renaming true_and→eQ,and_eq_true→bw
open Go Go.Am Go.Proofs
namespace T
def acF{m:aj}{g:List Int}{l:List (Int×Int)}{k:Nat}{c o:Int}(h:l.getD k default=(c,o)):sr m g l k=(g.contains c&&eW m c o&&(l.take k).all (sq m (c,o))):=by unfold sr;rw[h]
def amh{l:List (Int×Int)}{k:Nat}{f:Int×Int->Bool}(hk:k<=l.length)(h:∀ j,j<k->f (l.getD j default)=true):(l.take k).all f=true:=by
 rw[fT];intro x hx;obtain⟨j,hj,rfl⟩:=mJ hx;rw[eN]at hj;have:=h j GC;rw[aA,bK (show j<l.length by omega)]at this;rw[List.getElem_take];exact this
def ami{l:List (Int×Int)}{k j:Nat}{f:Int×Int->Bool}(hk:k<=l.length)(hj:j<k)(h:f (l.getD j default)=false):(l.take k).all f=false:=by
 refine all_false (x:=l.getD j default) ?_ h;rw[aA,bK (show j<l.length by omega),List.mem_take_iff_getElem];exact⟨j,GC,rfl⟩
def amj(cells:List (List (Int×Int)))(f:Int×Int->Bool):(cells.any λl=>l.any f)=cells.flatten.any f:=by
 induction cells with
 |nil=>rfl
 |cons x r ih=>rw[List.any_cons,List.flatten_cons,List.any_append,ih]
def amk{cells:List (List (Int×Int))}{a:Nat}(h:a<cells.length):(cells.take (a+1)).flatten=(cells.take a).flatten++cells.getD a default:=by
 rw[eG h,List.flatten_append];simp
def agr(m:aj)(x:Nd)(left:List (List Bool))(hm:VM m)(hf:dD m left)(pM:x.a9.length<9223372036854775808)(oA:x.cells.length<9223372036854775808)(acG:∀ l∈x.cells,l.length<9223372036854775808):
  ao Tryz.prog 96 [.agg (aq m),.agg (aG x),.tree 1 (rowsOf aQ left)] [] (.lit (.bool (lW m x left))) []:=by
 have nu:=hm.cls;have w8:=hf.1;generalize ak:lW m x left=res;have OU:=λh=>ak.symm.trans (aaa (m:=m) (x:=x) (left:=left) h);have OV:=λh=>ak.symm.trans (aab (m:=m) (x:=x) (left:=left) h);have OW:=λh=>ak.symm.trans (aac (m:=m) (x:=x) (left:=left) h);have acH:=λh=>ak.symm.trans (aad (m:=m) (x:=x) (left:=left) h);have Di:=λh1 h2 h3 h4=>ak.symm.trans (aae (m:=m) (x:=x) (left:=left) h1 h2 h3 h4);obtain⟨xc,xk,xm,g,cells⟩:=x;dsimp only at pM oA acG OU OV OW acH Di;refine ao.aD 208 0 [.tmp 6] Tryz.func96 ?_;by_cases br:cells.length<g.length;rotate_left
 ·have hr:=OV br;subst hr;((repeat'(first|refine Vb @aG.eq_1 ?_|(refine Xi ?_ ?_<;>try intro ht)|exact Xx|fail)))
  exact aE rfl rfl
 ((repeat'(first|refine Va @aG.eq_1 ?_|(refine Xi ?_ ?_<;>try intro ht)|exact Xx|fail)))
 have hN0:eA [(3,.arr 1 []),(0,.var (aq m)),(1,.var (aG ⟨xc,xk,xm,g,cells⟩)),(2,.arr 1 (aX (bH m.cls.length false)))] [] [] [.var (aq m),.var (aG ⟨xc,xk,xm,g,cells⟩),.arr 1 (aX (bH m.cls.length false)),.arr 1 []] :=
  ⟨GF,rfl,GF,(show([3,0,1,2]:List Nat).Nodup by decide)⟩
 refine aM (λz:Nat×List (List Bool)×List Ob×Nat×List (Nat×Nat)=>(⟨aw [(2,.tree 1 (rowsOf aQ left)),(3,.ptr 0 0 0),(4,.ptr 1 0 0),(7,.ref 2 1 0 m.cls.length),(8,.ref z.2.2.2.1 1 0 z.2.2.2.2.length),(9,aaC z.1)],z.2.2.1⟩:St))
  (λz=>z.1<=m.cls.length/\z.2.1=(l7 m []).take z.1/\eA [(z.2.2.2.1,.arr 1 (rowsOf nA z.2.2.2.2)),(0,.var (aq m)),(1,.var (aG ⟨xc,xk,xm,g,cells⟩)),(2,.arr 1 (aX (bH m.cls.length false)))] z.2.2.2.2 z.2.1 z.2.2.1) (λz=>m.cls.length-z.1) (0,[],[.var (aq m),.var (aG ⟨xc,xk,xm,g,cells⟩),.arr 1 (aX (bH m.cls.length false)),.arr 1 []],3,[]) ⟨aI _,rfl,hN0⟩ ?_ ?_
 ·refine aF.trans (aF.nil 8 1 (by simp only[Kc,simprocAttr]) Px) ?_;exact Xv @aG.eq_1
 rintro⟨i,S,os,oi,D⟩⟨hi,hS,hB⟩Ql an ar;dsimp only at hi hS hB ⊢;have yo:=hB.len;have fo:=hB.b0;have fm:=hB.b1;have fx:=hB.b2;dsimp only at fm fo fx;have cm:=Dh m [];by_cases hi':i<m.cls.length
 ·have AK:S.length=i:=by rw[hS,eN];omega
  have cN:(l7 m []).take (i+1)=S++[bH (m.cls.getD i default).length false]:=by
   rw[eG GC,<- hS,alZ,iR _ _ _ hi']
  have s6:=hm.opt _ (ay (l:=m.cls) (i:=i) (d:=default) hi');generalize aR:m.cls.getD i default=c at *;((repeat'(first|refine Va (X5 @fm @aR @bu.eq_1 @fo (X5 (bg fo) (fP fo) @aat @cy (X3 @cM.{0} @List.length_append.{0} @bF.{0}))) ?_|(refine Xi ?_ ?_<;>try intro ht)|exact Xx|fail)))
  have fZ:oi<os.length:=(List.getElem?_eq_some_iff.1 fo).1;have rj:=((hB.app [.arr 1 (aX (bH c.length false))]).add (kf _ _ _) (hB.fresh (Nat.le_refl _))).snoc;rw[List.length_replicate]at rj;obtain⟨p9,dZ⟩:=rj.drop;refine an _ (i+1,S++[bH c.length false],os.set oi .gone++[.arr 1 (aX (bH c.length false)),.arr 1 [[.ref os.length 1 0 c.length]],.arr 1 (rowsOf nA (D++[(os.length,c.length)]))],os.length+2,D++[(os.length,c.length)]) ⟨PA,cN.symm,?_⟩ PA ?_
  ·have zW:=(p9.other dZ .gone).app [.arr 1 [[.ref os.length 1 0 c.length]],.arr 1 (rowsOf nA (D++[(os.length,c.length)]))];have amm:=(p9.other dZ .gone).fresh (p:=os.length+2) GF;rw[List.set_append_left _ _ fZ,cM]at zW;refine zW.add ?_ amm;have yw:(os.set oi Ob.gone).length=os.length:=bF ..;rw[<- yw,nX];rfl
  ·exact Xv X0
 ·rw[List.take_of_length_le GC]at hS;subst hS;((repeat'(first|refine Va (X2 @fm @aG.eq_1) ?_|(refine Xi ?_ ?_<;>try intro ht)|exact Xx|fail)))
  refine ar _ _ rfl ?_;clear an ar Ql;repeat(refine Xu ?_)
  have uj:eA [(2,.arr 1 (aX (rp m []))),(oi,.arr 1 (rowsOf nA D)),(0,.var (aq m)),(1,.var (aG ⟨xc,xk,xm,g,cells⟩))] D (l7 m []) os:=by
   rw[alX];have hp:[(oi,Ob.arr 1 (rowsOf nA D)),(0,.var (aq m)),(1,.var (aG ⟨xc,xk,xm,g,cells⟩)),(2,.arr 1 (aX (bH m.cls.length false)))].Perm [(2,.arr 1 (aX (bH m.cls.length false))),(oi,Ob.arr 1 (rowsOf nA D)),(0,.var (aq m)),(1,.var (aG ⟨xc,xk,xm,g,cells⟩))]:=List.perm_append_comm (l₁:=[_,_,_]) (l₂:=[_]);exact⟨λb hb=>hB.base b (hp.mem_iff.2 hb),hB.len,hB.row,(((hp.map (·.1)).append_right _).nodup_iff).1 hB.nd⟩
  have hD:D.length=m.cls.length:=by rw[yo,cm]
  rw[hD];clear hB fo fm fx yo;refine Va X0 ?_;refine aM (λz:Nat×List Ob=>(⟨aw [(2,.tree 1 (rowsOf aQ left)),(3,.ptr 0 0 0),(4,.ptr 1 0 0),(7,.ref 2 1 0 m.cls.length),(8,.ref oi 1 0 m.cls.length),(10,aaC z.1)],z.2⟩:St))
   (λz=>z.1<=g.length/\(∀ a,a<z.1->decide (0<=g.getD a 0/\g.getD a 0<m.cls.length/\(a=0\/g.getD (a-1) 0<g.getD a 0))=true)/\eA [(2,.arr 1 (aX (rp m (g.take z.1)))),(oi,.arr 1 (rowsOf nA D)),(0,.var (aq m)),(1,.var (aG ⟨xc,xk,xm,g,cells⟩))] D (l7 m []) z.2) (λz=>g.length-z.1) (0,os) ⟨aI _,λa ha=>absurd ha (m8 _),uj⟩ (Xv X0) ?_
  rintro⟨i,tp⟩⟨hi,dF,rj⟩Ql an ar;dsimp only at hi dF rj ⊢;have f2:=rj.b0;have fo:=rj.b1;have fm:=rj.b2;have fx:=rj.b3;dsimp only at f2 fo fm fx;by_cases hi':i<g.length
  ·have gQ:=CS (f:=λi=>decide (0<=g.getD i 0/\g.getD i 0<m.cls.length/\(i=0\/g.getD (i-1) 0<g.getD i 0))) hi';have bP:decide (0<=g.getD i 0/\g.getD i 0<m.cls.length/\(i=0\/g.getD (i-1) 0<g.getD i 0))=true->∀ a,a<i+1->decide (0<=g.getD a 0/\g.getD a 0<m.cls.length/\(a=0\/g.getD (a-1) 0<g.getD a 0))=true:=λh a ha=>by
    by_cases e:a=i
    ·subst e;exact h
    ·exact dF a GC
   have ky:0<i->((i:Int)-1).toNat=i-1/\i-1<g.length:=λh=>⟨GC,GC⟩;have eh:0<i->g.getD ((i:Int)-1).toNat 0=g.getD (i-1) 0:=λh=>by rw[(ky h).1]
   have cN:g.take (i+1)=g.take i++[g.getD i 0]:=eG hi';generalize aR:g.getD i 0=c at *;generalize MU:g.getD (i-1) 0=q at *;have gD:=OR m (g.take i);by_cases ax:0<=c/\c<m.cls.length/\(i=0\/q<c)
   ·obtain⟨OX,zh,nj⟩:=ax;obtain⟨c,rfl⟩:=BM OX;rcases m9 i with h0|h0
    ·((repeat'(first|refine Va (X5 @aG.eq_1 @fm @fx @aR (X3 @f2 @gD @v5)) ?_|(refine V2 (X5 @aG.eq_1 @fm @fx @aR (X3 @f2 @gD @v5)) ?_ ?_<;>try with_reducible intro hb)|(refine Xi ?_ ?_<;>try intro ht)|exact Xx|fail)))
     refine an _ (i+1,tp.set 2 (.arr 1 (aX ((rp m (g.take i)).set c true)))) ⟨PA,bP (decide_eq_true ⟨OX,zh,nj⟩),?_⟩ PA (Xv @aG.eq_1);dsimp only;rw[cN,acm _ GC];exact rj.put _
    ·have eh:=eh h0;obtain⟨xT,yl⟩:=ky h0;((repeat'(first|refine Va (X5 @aG.eq_1 @fm @fx @aR (X4 @f2 @gD @v5 @eh)) ?_|(refine V2 (X5 @aG.eq_1 @fm @fx @aR (X4 @f2 @gD @v5 @eh)) ?_ ?_<;>try with_reducible intro hb)|(refine Xi ?_ ?_<;>try intro ht)|exact Xx|fail)))
     refine an _ (i+1,tp.set 2 (.arr 1 (aX ((rp m (g.take i)).set c true)))) ⟨PA,bP (decide_eq_true ⟨OX,zh,nj⟩),?_⟩ PA (Xv @aG.eq_1);dsimp only;rw[cN,acm _ GC];exact rj.put _
   ·have hr:=OU (gQ (decide_eq_false ax));rcases m9 i with h0|h0
    ·((repeat'(first|refine Va (X5 @aG.eq_1 @fm @fx @aR (X2 @f2 @gD)) ?_|(refine V2 (X5 @aG.eq_1 @fm @fx @aR (X2 @f2 @gD)) ?_ ?_<;>try with_reducible intro hb)|(refine Xi ?_ ?_<;>try intro ht)|exact Xx|fail)))
     all_goals
      repeat(refine Xu ?_)
      ((repeat'(first|refine Vb X0 ?_|fail)))
      exact aE rfl (by rw[hr])
    ·have eh:=eh h0;obtain⟨xT,yl⟩:=ky h0;((repeat'(first|refine Va (X5 @aG.eq_1 @fm @fx @aR (X3 @f2 @gD @eh)) ?_|(refine V2 (X5 @aG.eq_1 @fm @fx @aR (X3 @f2 @gD @eh)) ?_ ?_<;>try with_reducible intro hb)|(refine Xi ?_ ?_<;>try intro ht)|exact Xx|fail)))
     all_goals
      repeat(refine Xu ?_)
      ((repeat'(first|refine Vb X0 ?_|fail)))
      exact aE rfl (by rw[hr])
  obtain rfl:i=g.length:=GC;have Be:CR m g=true:=wQ.2 dF;have CW:=Nn Be;rw[rB]at *;clear dF OU OV;have Di:=Di Be br;((repeat'(first|refine Va (X2 @fx @aG.eq_1) ?_|(refine V2 (X2 @fx @aG.eq_1) ?_ ?_<;>try with_reducible intro hb)|(refine Xi ?_ ?_<;>try intro ht)|exact Xx|fail)))
  refine ar _ _ rfl ?_;clear an ar Ql;repeat(refine Xu ?_)
  clear fm fx f2 fo uj;refine Va X0 ?_;refine aM (λz:Nat×List Ob=>(⟨aw [(2,.tree 1 (rowsOf aQ left)),(3,.ptr 0 0 0),(4,.ptr 1 0 0),(7,.ref 2 1 0 m.cls.length),(8,.ref oi 1 0 m.cls.length),(12,aaC z.1)],z.2⟩:St))
   (λz=>z.1<=cells.length/\(∀ a,a<z.1->p6 m g (cells.getD a default)=true)/\eA [(2,.arr 1 (aX (rp m g))),(oi,.arr 1 (rowsOf nA D)),(0,.var (aq m)),(1,.var (aG ⟨xc,xk,xm,g,cells⟩))] D (l7 m (cells.take z.1).flatten) z.2) (λz=>cells.length-z.1) (0,tp) ⟨aI _,λa ha=>absurd ha (m8 _),rj⟩ (Xv X0) ?_
  clear rj tp;rintro⟨a,eE⟩⟨ha,tv,zX⟩Ql an ar;dsimp only at ha tv zX ⊢;have fx:=zX.b3;dsimp only at fx;by_cases nk:a<cells.length
  ·have bO:=ay (l:=cells) (i:=a) (d:=default) nk;have vq:=acG _ bO;have gQ:p6 m g (cells.getD a default)=false->false=res:=λh=>(OW (all_false bO h)).symm;have cN:=amk nk;have bP:p6 m g (cells.getD a default)=true->∀ b,b<a+1->p6 m g (cells.getD b default)=true:=λh b hb=>by
    by_cases e:b=a
    ·subst e;exact h
    ·exact tv b GC
   generalize e7:cells.getD a default=l at *;generalize (cells.take a).flatten=L0 at *;((repeat'(first|refine Va (X3 @fx @aG.eq_1 @e7) ?_|(refine Xi ?_ ?_<;>try intro ht)|exact Xx|fail)))
   refine aM (λz:Nat×List Ob=>(⟨aw [(2,.tree 1 (rowsOf aQ left)),(3,.ptr 0 0 0),(4,.ptr 1 0 0),(7,.ref 2 1 0 m.cls.length),(8,.ref oi 1 0 m.cls.length),(12,aaC a),(13,.tree 2 (rowsOf aL l)),(14,aaC z.1)],z.2⟩:St))
    (λz=>z.1<=l.length/\(∀ b,b<z.1->sr m g l b=true)/\eA [(2,.arr 1 (aX (rp m g))),(oi,.arr 1 (rowsOf nA D)),(0,.var (aq m)),(1,.var (aG ⟨xc,xk,xm,g,cells⟩))] D (l7 m (L0++l.take z.1)) z.2) (λz=>l.length-z.1) (0,eE) ⟨aI _,λa ha=>absurd ha (m8 _),by rw[List.take_zero,List.append_nil];exact zX⟩ (Xv X0) ?_
   clear zX fx;rintro⟨k,os3⟩⟨hk,JK,p9⟩cJ ba bd;dsimp only at hk JK p9 ⊢;have f2:=p9.b0;have fo:=p9.b1;have fm:=p9.b2;have fx:=p9.b3;dsimp only at f2 fo fm fx;by_cases aK:k<l.length
   ·have su:sr m g l k=false->false=res:=λh=>gQ (CS aK h);have Je:L0++l.take (k+1)=L0++l.take k++[l.getD k default]:=by rw[eG aK,cM]
    have ss:sr m g l k=true->∀ b,b<k+1->sr m g l b=true:=λh b hb=>by
     by_cases e:b=k
     ·subst e;exact h
     ·exact JK b GC
    rcases iX:l.getD k default with⟨c,o⟩;rw[iX]at Je;rw[acF iX]at su ss;have da:=E1 m c o;have gD:=OR m g;cases hb:eW m c o
    ·rw[hb]at da;have hr:=su (by rw[hb];simp);((repeat'(first|refine Vc (X5 @aG.eq_1 @fm @fx @iX @aL.eq_1) da ?_|(refine Xi ?_ ?_<;>try intro ht)|exact Xx|fail)))
     all_goals
      repeat(refine Xu ?_)
      refine Vb X0 ?_;exact aE rfl (by rw[hr])
    rw[hb]at da;obtain⟨h01,h02,h03,h04⟩:=fD.1 hb;obtain⟨c,rfl⟩:=BM h01;obtain⟨o,rfl⟩:=BM h03;rw[fq]at h04;have JL:=alW (m:=m) g (c:=c) GC;cases ez:g.contains (c:Int)
    ·have hr:=su (by rw[ez];rfl);rw[ez]at JL;((repeat'(first|refine Vc (X5 @aG.eq_1 @fm @fx @iX (X4 @aL.eq_1 @f2 @gD @JL)) da ?_|(refine Xi ?_ ?_<;>try intro ht)|exact Xx|fail)))
     all_goals
      repeat(refine Xu ?_)
      refine Vb X0 ?_;exact aE rfl (by rw[hr])
    rw[ez]at JL;rw[hb,ez,eQ,eQ]at su ss;have cm:=Dh m (L0++l.take k);have yA:=Jb p9 (j:=c) GC;obtain⟨bq,cD⟩:=p9.row c GC;have zY:((l7 m (L0++l.take k)).getD c default).length=(m.cls.getD c default).length:=by rw[JI _ GC];simp
    have zW:=p9.setRow (j:=c) GC (r:=((l7 m (L0++l.take k)).getD c default).set o true) (bF ..);rw[<- al0 _ GC GC,<- Je]at zW;generalize xP:(l7 m (L0++l.take k)).getD c default=row at *;generalize hdd:D.getD c default=dd at *;obtain⟨dp,dn⟩:=dd;dsimp only at bq yA zW cD;((repeat'(first|refine Vc (X5 @aG.eq_1 @fm @fx @iX (X5 @aL.eq_1 @f2 @gD @JL (X5 @fo @yA @bq @zY @v5))) da ?_|(refine Xi ?_ ?_<;>try intro ht)|exact Xx|fail)))
    generalize os3.set dp (.arr 1 (aX (row.set o true)))=os4 at *;have fm:=zW.b2;have fx:=zW.b3;dsimp only at fm fx;refine aM (λz:Nat=>(⟨aw [(2,.tree 1 (rowsOf aQ left)),(3,.ptr 0 0 0),(4,.ptr 1 0 0),(7,.ref 2 1 0 m.cls.length),(8,.ref oi 1 0 m.cls.length),(12,aaC a),(13,.tree 2 (rowsOf aL l)),(14,aaC k),(15,aaC z)],os4⟩:St))
     (λz=>z<=k/\∀ b,b<z->sq m (c,o) (l.getD b default)=true) (λz=>k-z) 0 ⟨aI _,λa ha=>absurd ha (m8 _)⟩ (Xv X0) ?_
    rintro j⟨hj,lp⟩lB fQ eV;by_cases db:j<k
    ·have OY:sq m (c,o) (l.getD j default)=false->false=res:=λh=>su (ami hk db h);have JM:sq m (c,o) (l.getD j default)=true->∀ b,b<j+1->sq m (c,o) (l.getD b default)=true:=λh b hb=>by
      by_cases e:b=j
      ·subst e;exact h
      ·exact lp b GC
     have Fv:=JK j db;rcases tK:l.getD j default with⟨d,p⟩;rw[tK]at OY JM;rw[acF tK,bw,bw]at Fv;have hex:=alx m d p c o hm Fv.1.2 hb;by_cases OZ:d=c
     ·subst OZ;((repeat'(first|refine Va (X5 @aG.eq_1 @iX @tK @aL.eq_1 @bne_self_eq_false.{0}) ?_|(refine Xi ?_ ?_<;>try intro ht)|exact Xx|fail)))
      exact fQ _ (j+1) ⟨GC,JM (by simp[sq])⟩ GC (Xv X0)
     ·have amq:sq m ((c:Int),(o:Int)) (d,p)=py m d p c o:=by
       unfold sq;rw[decide_eq_false (λh=>OZ h.symm),Bool.false_or];exact Z8 (λh=>OZ h.symm)
      rw[amq]at OY JM;cases bD:py m d p c o
      ·have hr:=OY bD;rw[bD]at hex;((repeat'(first|refine Vc (X5 @aG.eq_1 @iX @tK @aL.eq_1 @fm) hex ?_|(refine V2 (X5 @aG.eq_1 @iX @tK @aL.eq_1 @fm) ?_ ?_<;>try with_reducible intro hb)|(refine Xi ?_ ?_<;>try intro ht)|exact Xx|fail)))
       all_goals
        repeat(refine Xu ?_)
        refine Vb X0 ?_;exact aE rfl (by rw[hr])
      ·rw[bD]at hex;((repeat'(first|refine Vc (X5 @aG.eq_1 @iX @tK @aL.eq_1 @fm) hex ?_|(refine V2 (X5 @aG.eq_1 @iX @tK @aL.eq_1 @fm) ?_ ?_<;>try with_reducible intro hb)|(refine Xi ?_ ?_<;>try intro ht)|exact Xx|fail)))
       exact fQ _ (j+1) ⟨GC,JM bD⟩ GC (Xv X0)
    ·obtain rfl:j=k:=GC;((repeat'(first|refine Va X0 ?_|(refine V2 X0 ?_ ?_<;>try with_reducible intro hb)|(refine Xi ?_ ?_<;>try intro ht)|exact Xx|fail)))
     refine eV _ _ rfl ?_;clear fQ eV lB;repeat(refine Xu ?_)
     refine Va X0 ?_;exact ba _ (j+1,os4) ⟨PA,ss (amh hk lp),zW⟩ PA (Xv X0)
   ·obtain rfl:k=l.length:=GC;((repeat'(first|refine Va X0 ?_|(refine Xi ?_ ?_<;>try intro ht)|exact Xx|fail)))
    refine bd _ _ rfl ?_;clear ba bd cJ;repeat(refine Xu ?_)
    refine Va X0 ?_;rw[rB,<- cN]at p9;exact an _ (a+1,os3) ⟨PA,bP (wQ.2 JK),p9⟩ PA (Xv X0)
  obtain rfl:a=cells.length:=GC;have amr:cells.all (p6 m g)=true:=by
   rw[fT];intro c hc;obtain⟨b,hb,rfl⟩:=mJ hc;have:=tv b hb;rwa [aA,bK hb]at this
  rw[rB]at *;clear tv OW;have Di:=Di amr;((repeat'(first|refine Va (X2 @fx @aG.eq_1) ?_|(refine Xi ?_ ?_<;>try intro ht)|exact Xx|fail)))
  refine ar _ _ rfl ?_;clear an ar Ql;repeat(refine Xu ?_)
  have fo:=zX.b1;have fm:=zX.b2;dsimp only at fo fm;have cm:=Dh m cells.flatten;refine Va X0 ?_;refine aM (λi:Nat=>(⟨aw [(2,.tree 1 (rowsOf aQ left)),(3,.ptr 0 0 0),(4,.ptr 1 0 0),(7,.ref 2 1 0 m.cls.length),(8,.ref oi 1 0 m.cls.length),(16,aaC i)],eE⟩:St))
   (λi=>i<=g.length/\∀ a,a<i->s9 left cells (g.getD a 0)=true) (λi=>g.length-i) 0 ⟨aI _,λa ha=>absurd ha (m8 _)⟩ (Xv X0) ?_
  rintro i⟨hi,dF⟩Ql an ar;by_cases hi':i<g.length
  ·have bO:=ay (l:=g) (i:=i) (d:=0) hi';have gQ:s9 left cells (g.getD i 0)=false->false=res:=λh=>(acH (all_false bO h)).symm;have nU:=CW _ bO;have bP:s9 left cells (g.getD i 0)=true->∀ a,a<i+1->s9 left cells (g.getD a 0)=true:=λh a ha=>by
    by_cases e:a=i
    ·subst e;exact h
    ·exact dF a GC
   generalize aR:g.getD i 0=c at *;obtain⟨c,rfl⟩:=BM nU.1;have lN:c<m.cls.length:=GC;have Cr:=hf.row hm _ (ay (l:=left) (i:=c) (d:=default) GC);have xY:=hf.2 c GC;unfold s9 at gQ bP;rw[fq]at gQ bP;have yA:=Jb zX (j:=c) GC;obtain⟨bq,cD⟩:=zX.row c GC;have zY:((l7 m cells.flatten).getD c default).length=(m.cls.getD c default).length:=by rw[JI _ GC];simp
   have Dj:=λo=>alY (m:=m) cells.flatten (o:=o) lN;rw[<- xY]at zY Dj;generalize cE:left.getD c default=row at *;generalize hdd:D.getD c default=dd at *;obtain⟨dp,dn⟩:=dd;dsimp only at bq yA cD;generalize xP:(l7 m cells.flatten).getD c default=aok at *;((repeat'(first|refine Va (X5 @aG.eq_1 @aR @fx @fo (X2 @yA @zY)) ?_|(refine Xi ?_ ?_<;>try intro ht)|exact Xx|fail)))
   refine aM (λo:Nat=>(⟨aw [(2,.tree 1 (rowsOf aQ left)),(3,.ptr 0 0 0),(4,.ptr 1 0 0),(7,.ref 2 1 0 m.cls.length),(8,.ref oi 1 0 m.cls.length),(16,aaC i),(17,aaC c),(18,aaC o)],eE⟩:St))
    (λo=>o<=row.length/\∀ a,a<o->(!row.getD a false||cells.any λl=>l.any (jA c a))=true) (λo=>row.length-o) 0 ⟨aI _,λa ha=>absurd ha (m8 _)⟩ (Xv @aG.eq_1) ?_
   rintro o⟨ho,Fx⟩cJ ba bd;by_cases cG:o<row.length
   ·have su:=λh=>gQ (CS (f:=λo:Nat=>!row.getD o false||cells.any λl=>l.any (jA c o)) cG h);have ss:(!row.getD o false||cells.any λl=>l.any (jA c o))=true->∀ a,a<o+1->(!row.getD a false||cells.any λl=>l.any (jA c a))=true:=λh a ha=>by
     by_cases e:a=o
     ·subst e;exact h
     ·exact Fx a GC
    have Dj:=Dj o cG;rw[<- amj]at Dj;generalize fY:row.getD o false=b at *;generalize cells.any (λl=>l.any (jA c o))=Nw at *;cases b
    ·((repeat'(first|refine Va (X5 @aG.eq_1 @aQ.eq_1 @cE @fY (X4 @fo @yA @bq @zY)) ?_|(refine Xi ?_ ?_<;>try intro ht)|exact Xx|fail)))
     exact ba _ (o+1) ⟨GC,ss rfl⟩ GC (Xv @aG.eq_1)
    ·cases Nw
     ·have hr:=su rfl;((repeat'(first|refine Va (X5 @aG.eq_1 @aQ.eq_1 @cE @fY (X5 @fo @yA @bq @zY @Dj)) ?_|(refine Xi ?_ ?_<;>try intro ht)|exact Xx|fail)))
      all_goals
       repeat(refine Xu ?_)
       refine Vb X0 ?_;exact aE rfl (by rw[hr])
     ·((repeat'(first|refine Va (X5 @aG.eq_1 @aQ.eq_1 @cE @fY (X5 @fo @yA @bq @zY @Dj)) ?_|(refine Xi ?_ ?_<;>try intro ht)|exact Xx|fail)))
      exact ba _ (o+1) ⟨GC,ss rfl⟩ GC (Xv @aG.eq_1)
   ·obtain rfl:o=row.length:=GC;((repeat'(first|refine Va (X4 @fo @yA @bq @zY) ?_|(refine Xi ?_ ?_<;>try intro ht)|exact Xx|fail)))
    refine bd _ _ rfl ?_;clear ba bd cJ;repeat(refine Xu ?_)
    refine Va @aG.eq_1 ?_;exact an _ (i+1) ⟨GC,bP (wQ.2 Fx)⟩ GC (Xv X0)
  ·obtain rfl:i=g.length:=GC;have hr:=Di (by
    rw[fT];intro c hc;obtain⟨a,ha,rfl⟩:=mJ hc;have:=dF a ha;rwa [aA,bK ha]at this)
   ((repeat'(first|refine Va (X2 @fx @aG.eq_1) ?_|(refine Xi ?_ ?_<;>try intro ht)|exact Xx|fail)))
   refine ar _ _ rfl ?_;clear an ar Ql;repeat(refine Xu ?_)
   refine Vb X0 ?_;exact aE rfl (by rw[hr])
end T

