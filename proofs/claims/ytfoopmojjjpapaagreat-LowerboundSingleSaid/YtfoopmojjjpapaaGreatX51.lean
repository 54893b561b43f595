import Derived.Test.YtfoopmojjjpapaaGreatX49
set_option linter.all false
set_option maxHeartbeats 0
set_option maxRecDepth 20000
open List renaming range→bu,getD_eq_getElem?_getD→az,getElem?_map→bI,getElem?_range→kX,replicate→aK,ext_getElem?→kY,getElem?_replicate_of_lt→Ks,getElem?_eq_none→dK,getElem?_set→bU,contains_iff_mem→sq,getElem?_eq_getElem→bF,length_range→Kg,all_eq_true→fW,getElem_of_mem→mZ,length_take→eY,append_assoc→bE,length_set→bJ,take_length→wG
open Option renaming map_some→eH
open Nat renaming zero_le→aS,not_lt_zero→pd,eq_zero_or_pos→oH
open Int renaming eq_ofNat_of_zero_le→Ce,toNat_natCast→c7
open Bool renaming true_and→gK,and_eq_true→bb
open Go Go.Am Go.Proofs
namespace T
def qS(m:ah)(g:List Int):List Bool:=(bu m.cls.length).map λ(c:Nat)=>g.contains (c:Int)
def PH(m:ah)(g:List Int):(qS m g).length=m.cls.length:=by simp[qS]
def aos{m:ah}(g:List Int){c:Nat}(h:c<m.cls.length):(qS m g).getD c false=g.contains (c:Int):=by
 unfold qS;rw[az,bI,kX h];rfl
def aot(m:ah):qS m []=aK m.cls.length false:=by
 apply kY;intro j;unfold qS;rw[bI];by_cases h:j<m.cls.length
 ·rw[kX h,Ks h];rfl
 ·rw[dK P2,dK P2];rfl
def aen{m:ah}(g:List Int){c:Nat}(h:c<m.cls.length):qS m (g++[(c:Int)])=(qS m g).set c true:=by
 apply kY;intro j;rw[bU,PH];unfold qS;rw[bI,bI];by_cases hj:j<m.cls.length
 ·rw[kX hj,eH,eH];by_cases e:c=j
  ·subst e;rw[if_pos rfl,if_pos h];simp
  ·rw[if_neg e];congr 1;rw[Bool.eq_iff_iff,sq,sq,List.mem_append,List.mem_singleton];constructor
   ·rintro(h1|h1)
    ·exact h1
    ·omega
   ·exact .inl
 ·rw[dK P2];by_cases e:c=j
  ·subst e;omega
  ·rw[if_neg e];rfl
def lB(m:ah)(L:List (Int×Int)):List (List Bool):=(bu m.cls.length).map λ(c:Nat)=>(bu (m.cls.getD c default).length).map λ(o:Nat)=>L.any (jl (c:Int) (o:Int))
def DM(m:ah)(L:List (Int×Int)):(lB m L).length=m.cls.length:=by simp[lB]
def J'{m:ah}(L:List (Int×Int)){c:Nat}(h:c<m.cls.length):(lB m L).getD c default=(bu (m.cls.getD c default).length).map λ(o:Nat)=>L.any (jl (c:Int) (o:Int)):=by
 unfold lB;rw[az,bI,kX h];rfl
def aou{m:ah}(L:List (Int×Int)){c o:Nat}(h:c<m.cls.length)(ho:o<(m.cls.getD c default).length):((lB m L).getD c default).getD o false=L.any (jl (c:Int) (o:Int)):=by
 rw[J' L h,az,bI,kX ho];rfl
def aov(m:ah):lB m []=m.cls.map λl=>aK l.length false:=by
 apply kY;intro j;unfold lB;rw[bI,bI];by_cases h:j<m.cls.length
 ·rw[kX h,bF h,eH,eH];congr 1;rw[az,bF h,Option.getD_some];apply kY;intro o;rw[bI];by_cases ho:o<m.cls[j].length
  ·rw[kX ho,Ks ho];rfl
  ·rw[dK P2,dK P2];rfl
 ·rw[dK P2,dK GK];rfl
def aow{m:ah}(L:List (Int×Int)){c o:Nat}(h:c<m.cls.length)(ho:o<(m.cls.getD c default).length):
  lB m (L++[((c:Int),(o:Int))])=(lB m L).set c (((lB m L).getD c default).set o true):=by
 apply kY;intro j;rw[bU,DM,J' L h];by_cases hj:j<m.cls.length
 ·have hg:∀ K,(lB m K)[j]?=some ((bu (m.cls.getD j default).length).map λ(o:Nat)=>K.any (jl (j:Int) (o:Int))):=λK=>by
   unfold lB;rw[bI,kX hj];rfl
  rw[hg,hg];by_cases e:c=j
  ·subst e;rw[if_pos rfl,if_pos h];congr 1;apply kY;intro q;rw[bU,List.length_map,Kg,bI,bI];by_cases hq:q<(m.cls.getD c default).length
   ·rw[kX hq,eH,eH,List.any_append];by_cases e2:o=q
    ·subst e2;rw[if_pos rfl,if_pos ho];simp[jl]
    ·rw[if_neg e2];congr 1;have:jl (c:Int) (q:Int) ((c:Int),(o:Int))=false:=by
      unfold jl;rw[decide_eq_false_iff_not,Prod.mk.injEq];omega
     simp[this]
   ·rw[dK (by rw[Kg];omega)];by_cases e2:o=q
    ·subst e2;omega
    ·rw[if_neg e2];rfl
  ·rw[if_neg e];congr 2;funext q;rw[List.any_append];have:jl (j:Int) (q:Int) ((c:Int),(o:Int))=false:=by
    unfold jl;rw[decide_eq_false_iff_not,Prod.mk.injEq];omega
   simp[this]
 ·rw[dK (by rw[DM];omega)];by_cases e:c=j
  ·subst e;omega
  ·rw[if_neg e,dK (by rw[DM];omega)]
def aeo{m:ah}{g:List Int}{l:List (Int×Int)}{k:Nat}{c o:Int}(h:l.getD k default=(c,o)):s8 m g l k=(g.contains c&&hZ m c o&&(l.take k).all (sZ m (c,o))):=by unfold s8;rw[h]
def aox{l:List (Int×Int)}{k:Nat}{f:Int×Int->Bool}(hk:k<=l.length)(h:∀ j,j<k->f (l.getD j default)=true):(l.take k).all f=true:=by
 rw[fW];intro x hx;obtain⟨j,hj,rfl⟩:=mZ hx;rw[eY]at hj;have:=h j GK;rw[az,bF (show j<l.length by omega)]at this;rw[List.getElem_take];exact this
def aoy{l:List (Int×Int)}{k j:Nat}{f:Int×Int->Bool}(hk:k<=l.length)(hj:j<k)(h:f (l.getD j default)=false):(l.take k).all f=false:=by
 refine all_false (x:=l.getD j default) ?_ h;rw[az,bF (show j<l.length by omega),List.mem_take_iff_getElem];exact⟨j,GK,rfl⟩
def aoz(cells:List (List (Int×Int)))(f:Int×Int->Bool):(cells.any λl=>l.any f)=cells.flatten.any f:=by
 induction cells with
 |nil=>rfl
 |cons x r ih=>rw[List.any_cons,List.flatten_cons,List.any_append,ih]
def aoA{cells:List (List (Int×Int))}{a:Nat}(h:a<cells.length):(cells.take (a+1)).flatten=(cells.take a).flatten++cells.getD a default:=by
 rw[eu h,List.flatten_append];simp
def SR(m:ah)(x:Nd)(left:List (List Bool))(hm:VM m)(hf:dh m left)(sQ:x.a7.length<9223372036854775808)(mM:x.cells.length<9223372036854775808)(aep:∀ l∈x.cells,l.length<9223372036854775808):
  Holds Tryz.prog 54 [.agg (an m),.agg (aB x),.tree 1 (rowsOf aC left)] [] (.lit (.bool (mh m x left))) []:=by
 have oT:=hm.cls;have vU:=hf.1;generalize au:mh m x left=res;have PI:=λh=>au.symm.trans (Ui (m:=m) (x:=x) (left:=left) h);have PJ:=λh=>au.symm.trans (Uj (m:=m) (x:=x) (left:=left) h);have PL:=λh=>au.symm.trans (Uk (m:=m) (x:=x) (left:=left) h);have aeq:=λh=>au.symm.trans (Ul (m:=m) (x:=x) (left:=left) h);have DN:=λh1 h2 h3 h4=>au.symm.trans (Um (m:=m) (x:=x) (left:=left) h1 h2 h3 h4);obtain⟨xc,xk,xm,g,cells⟩:=x;dsimp only at sQ mM aep PI PJ PL aeq DN;refine Holds.aM 208 0 [.tmp 6] Tryz.func54 ?_;by_cases aX:cells.length<g.length;rotate_left
 ·have hr:=PJ aX;subst hr;((repeat'(first|refine Vb @aB.eq_1 ?_|(refine Xi ?_ ?_<;>try intro ht)|exact Xx|fail)))
  exact aO rfl rfl
 ((repeat'(first|refine Va @aB.eq_1 ?_|(refine Xi ?_ ?_<;>try intro ht)|exact Xx|fail)))
 have hN0:dj [(3,.arr 1 []),(0,.var (an m)),(1,.var (aB ⟨xc,xk,xm,g,cells⟩)),(2,.arr 1 (a8 (aK m.cls.length false)))] [] [] [.var (an m),.var (aB ⟨xc,xk,xm,g,cells⟩),.arr 1 (a8 (aK m.cls.length false)),.arr 1 []] :=
  ⟨GM,rfl,GM,(show([3,0,1,2]:List Nat).Nodup by decide)⟩
 refine aR (λz:Nat×List (List Bool)×List Ob×Nat×List (Nat×Nat)=>(⟨ao [(2,.tree 1 (rowsOf aC left)),(3,.ptr 0 0 0),(4,.ptr 1 0 0),(7,.ref 2 1 0 m.cls.length),(8,.ref z.2.2.2.1 1 0 z.2.2.2.2.length),(9,Qf z.1)],z.2.2.1⟩:St))
  (λz=>z.1<=m.cls.length/\z.2.1=(lB m []).take z.1/\dj [(z.2.2.2.1,.arr 1 (rowsOf ku z.2.2.2.2)),(0,.var (an m)),(1,.var (aB ⟨xc,xk,xm,g,cells⟩)),(2,.arr 1 (a8 (aK m.cls.length false)))] z.2.2.2.2 z.2.1 z.2.2.1) (λz=>m.cls.length-z.1) (0,[],[.var (an m),.var (aB ⟨xc,xk,xm,g,cells⟩),.arr 1 (a8 (aK m.cls.length false)),.arr 1 []],3,[]) ⟨aS _,rfl,hN0⟩ ?_ ?_
 ·refine aH.trans (aH.nil 8 1 (by simp only[Kc,simprocAttr]) GS) ?_;exact Xv @aB.eq_1
 rintro⟨i,S,os,oi,D⟩⟨hi,hS,hB⟩Ql ak aq;dsimp only at hi hS hB ⊢;have yE:=hB.len;have fo:=hB.b0;have fm:=hB.b1;have fx:=hB.b2;dsimp only at fm fo fx;have bK:=DM m [];by_cases ar:i<m.cls.length
 ·have FE:S.length=i:=by rw[hS,eY];omega
  have ez:(lB m []).take (i+1)=S++[aK (m.cls.getD i default).length false]:=by
   rw[eu GK,<- hS,aov,iS _ _ _ ar]
  have sU:=hm.opt _ (aF (l:=m.cls) (i:=i) (d:=default) ar);generalize bc:m.cls.getD i default=c at *;((repeat'(first|refine Va (X5 @fm @bc @aW.eq_1 @fo (X5 (aN fo) (iy fo) @Jm @bH (X3 @bE.{0} @List.length_append.{0} @bJ.{0}))) ?_|(refine Xi ?_ ?_<;>try intro ht)|exact Xx|fail)))
  have nt:oi<os.length:=(List.getElem?_eq_some_iff.1 fo).1;have oC:=((hB.app [.arr 1 (a8 (aK c.length false))]).add (kl _ _ _) (hB.fresh (Nat.le_refl _))).snoc;rw[List.length_replicate]at oC;obtain⟨nH,dU⟩:=oC.drop;refine ak _ (i+1,S++[aK c.length false],os.set oi .gone++[.arr 1 (a8 (aK c.length false)),.arr 1 [[.ref os.length 1 0 c.length]],.arr 1 (rowsOf ku (D++[(os.length,c.length)]))],os.length+2,D++[(os.length,c.length)]) ⟨PW,ez.symm,?_⟩ PW ?_
  ·have Ap:=(nH.other dU .gone).app [.arr 1 [[.ref os.length 1 0 c.length]],.arr 1 (rowsOf ku (D++[(os.length,c.length)]))];have aoC:=(nH.other dU .gone).fresh (p:=os.length+2) GM;rw[List.set_append_left _ _ nt,bE]at Ap;refine Ap.add ?_ aoC;have rR:(os.set oi Ob.gone).length=os.length:=bJ ..;rw[<- rR,kP];rfl
  ·exact Xv X0
 ·rw[List.take_of_length_le GK]at hS;subst hS;((repeat'(first|refine Va (X2 @fm @aB.eq_1) ?_|(refine Xi ?_ ?_<;>try intro ht)|exact Xx|fail)))
  refine aq _ _ rfl ?_;clear ak aq Ql;repeat(refine Xu ?_)
  have uL:dj [(2,.arr 1 (a8 (qS m []))),(oi,.arr 1 (rowsOf ku D)),(0,.var (an m)),(1,.var (aB ⟨xc,xk,xm,g,cells⟩))] D (lB m []) os:=by
   rw[aot];have hp:[(oi,Ob.arr 1 (rowsOf ku D)),(0,.var (an m)),(1,.var (aB ⟨xc,xk,xm,g,cells⟩)),(2,.arr 1 (a8 (aK m.cls.length false)))].Perm [(2,.arr 1 (a8 (aK m.cls.length false))),(oi,Ob.arr 1 (rowsOf ku D)),(0,.var (an m)),(1,.var (aB ⟨xc,xk,xm,g,cells⟩))]:=List.perm_append_comm (l₁:=[_,_,_]) (l₂:=[_]);exact⟨λb hb=>hB.base b (hp.mem_iff.2 hb),hB.len,hB.row,(((hp.map (·.1)).append_right _).nodup_iff).1 hB.nd⟩
  have hD:D.length=m.cls.length:=by rw[yE,bK]
  rw[hD];clear hB fo fm fx yE;refine Va X0 ?_;refine aR (λz:Nat×List Ob=>(⟨ao [(2,.tree 1 (rowsOf aC left)),(3,.ptr 0 0 0),(4,.ptr 1 0 0),(7,.ref 2 1 0 m.cls.length),(8,.ref oi 1 0 m.cls.length),(10,Qf z.1)],z.2⟩:St))
   (λz=>z.1<=g.length/\(∀ a,a<z.1->decide (0<=g.getD a 0/\g.getD a 0<m.cls.length/\(a=0\/g.getD (a-1) 0<g.getD a 0))=true)/\dj [(2,.arr 1 (a8 (qS m (g.take z.1)))),(oi,.arr 1 (rowsOf ku D)),(0,.var (an m)),(1,.var (aB ⟨xc,xk,xm,g,cells⟩))] D (lB m []) z.2) (λz=>g.length-z.1) (0,os) ⟨aS _,λa ha=>absurd ha (pd _),uL⟩ (Xv X0) ?_
  rintro⟨i,ly⟩⟨hi,dY,oC⟩Ql ak aq;dsimp only at hi dY oC ⊢;have f2:=oC.b0;have fo:=oC.b1;have fm:=oC.b2;have fx:=oC.b3;dsimp only at f2 fo fm fx;by_cases ar:i<g.length
  ·have ig:=C8 (f:=λi=>decide (0<=g.getD i 0/\g.getD i 0<m.cls.length/\(i=0\/g.getD (i-1) 0<g.getD i 0))) ar;have bG:decide (0<=g.getD i 0/\g.getD i 0<m.cls.length/\(i=0\/g.getD (i-1) 0<g.getD i 0))=true->∀ a,a<i+1->decide (0<=g.getD a 0/\g.getD a 0<m.cls.length/\(a=0\/g.getD (a-1) 0<g.getD a 0))=true:=λh a ha=>by
    by_cases e:a=i
    ·subst e;exact h
    ·exact dY a GK
   have fR:0<i->((i:Int)-1).toNat=i-1/\i-1<g.length:=λh=>⟨GK,GK⟩;have jk:0<i->g.getD ((i:Int)-1).toNat 0=g.getD (i-1) 0:=λh=>by rw[(fR h).1]
   have ez:g.take (i+1)=g.take i++[g.getD i 0]:=eu ar;generalize bc:g.getD i 0=c at *;generalize FO:g.getD (i-1) 0=q at *;have lY:=PH m (g.take i);by_cases ax:0<=c/\c<m.cls.length/\(i=0\/q<c)
   ·obtain⟨PN,wU,wV⟩:=ax;obtain⟨c,rfl⟩:=Ce PN;rcases oH i with h0|h0
    ·((repeat'(first|refine Va (X5 @aB.eq_1 @fm @fx @bc (X3 @f2 @lY @q8)) ?_|(refine V2 (X5 @aB.eq_1 @fm @fx @bc (X3 @f2 @lY @q8)) ?_ ?_<;>try with_reducible intro hb)|(refine Xi ?_ ?_<;>try intro ht)|exact Xx|fail)))
     refine ak _ (i+1,ly.set 2 (.arr 1 (a8 ((qS m (g.take i)).set c true)))) ⟨PW,bG (decide_eq_true ⟨PN,wU,wV⟩),?_⟩ PW (Xv @aB.eq_1);dsimp only;rw[ez,aen _ GK];exact oC.put _
    ·have jk:=jk h0;obtain⟨yM,yO⟩:=fR h0;((repeat'(first|refine Va (X5 @aB.eq_1 @fm @fx @bc (X4 @f2 @lY @q8 @jk)) ?_|(refine V2 (X5 @aB.eq_1 @fm @fx @bc (X4 @f2 @lY @q8 @jk)) ?_ ?_<;>try with_reducible intro hb)|(refine Xi ?_ ?_<;>try intro ht)|exact Xx|fail)))
     refine ak _ (i+1,ly.set 2 (.arr 1 (a8 ((qS m (g.take i)).set c true)))) ⟨PW,bG (decide_eq_true ⟨PN,wU,wV⟩),?_⟩ PW (Xv @aB.eq_1);dsimp only;rw[ez,aen _ GK];exact oC.put _
   ·have hr:=PI (ig (decide_eq_false ax));rcases oH i with h0|h0
    ·((repeat'(first|refine Va (X5 @aB.eq_1 @fm @fx @bc (X2 @f2 @lY)) ?_|(refine V2 (X5 @aB.eq_1 @fm @fx @bc (X2 @f2 @lY)) ?_ ?_<;>try with_reducible intro hb)|(refine Xi ?_ ?_<;>try intro ht)|exact Xx|fail)))
     all_goals
      repeat(refine Xu ?_)
      ((repeat'(first|refine Vb X0 ?_|fail)))
      exact aO rfl (by rw[hr])
    ·have jk:=jk h0;obtain⟨yM,yO⟩:=fR h0;((repeat'(first|refine Va (X5 @aB.eq_1 @fm @fx @bc (X3 @f2 @lY @jk)) ?_|(refine V2 (X5 @aB.eq_1 @fm @fx @bc (X3 @f2 @lY @jk)) ?_ ?_<;>try with_reducible intro hb)|(refine Xi ?_ ?_<;>try intro ht)|exact Xx|fail)))
     all_goals
      repeat(refine Xu ?_)
      ((repeat'(first|refine Vb X0 ?_|fail)))
      exact aO rfl (by rw[hr])
  obtain rfl:i=g.length:=GK;have yl:C7 m g=true:=Bm.2 dY;have Dm:=Ug yl;rw[wG]at *;clear dY PI PJ;have DN:=DN yl aX;((repeat'(first|refine Va (X2 @fx @aB.eq_1) ?_|(refine V2 (X2 @fx @aB.eq_1) ?_ ?_<;>try with_reducible intro hb)|(refine Xi ?_ ?_<;>try intro ht)|exact Xx|fail)))
  refine aq _ _ rfl ?_;clear ak aq Ql;repeat(refine Xu ?_)
  clear fm fx f2 fo uL;refine Va X0 ?_;refine aR (λz:Nat×List Ob=>(⟨ao [(2,.tree 1 (rowsOf aC left)),(3,.ptr 0 0 0),(4,.ptr 1 0 0),(7,.ref 2 1 0 m.cls.length),(8,.ref oi 1 0 m.cls.length),(12,Qf z.1)],z.2⟩:St))
   (λz=>z.1<=cells.length/\(∀ a,a<z.1->qB m g (cells.getD a default)=true)/\dj [(2,.arr 1 (a8 (qS m g))),(oi,.arr 1 (rowsOf ku D)),(0,.var (an m)),(1,.var (aB ⟨xc,xk,xm,g,cells⟩))] D (lB m (cells.take z.1).flatten) z.2) (λz=>cells.length-z.1) (0,ly) ⟨aS _,λa ha=>absurd ha (pd _),oC⟩ (Xv X0) ?_
  clear oC ly;rintro⟨a,os2⟩⟨ha,Ak,we⟩Ql ak aq;dsimp only at ha Ak we ⊢;have fx:=we.b3;dsimp only at fx;by_cases nC:a<cells.length
  ·have bR:=aF (l:=cells) (i:=a) (d:=default) nC;have z':=aep _ bR;have ig:qB m g (cells.getD a default)=false->false=res:=λh=>(PL (all_false bR h)).symm;have ez:=aoA nC;have bG:qB m g (cells.getD a default)=true->∀ b,b<a+1->qB m g (cells.getD b default)=true:=λh b hb=>by
    by_cases e:b=a
    ·subst e;exact h
    ·exact Ak b GK
   generalize ij:cells.getD a default=l at *;generalize (cells.take a).flatten=L0 at *;((repeat'(first|refine Va (X3 @fx @aB.eq_1 @ij) ?_|(refine Xi ?_ ?_<;>try intro ht)|exact Xx|fail)))
   refine aR (λz:Nat×List Ob=>(⟨ao [(2,.tree 1 (rowsOf aC left)),(3,.ptr 0 0 0),(4,.ptr 1 0 0),(7,.ref 2 1 0 m.cls.length),(8,.ref oi 1 0 m.cls.length),(12,Qf a),(13,.tree 2 (rowsOf bd l)),(14,Qf z.1)],z.2⟩:St))
    (λz=>z.1<=l.length/\(∀ b,b<z.1->s8 m g l b=true)/\dj [(2,.arr 1 (a8 (qS m g))),(oi,.arr 1 (rowsOf ku D)),(0,.var (an m)),(1,.var (aB ⟨xc,xk,xm,g,cells⟩))] D (lB m (L0++l.take z.1)) z.2) (λz=>l.length-z.1) (0,os2) ⟨aS _,λa ha=>absurd ha (pd _),by rw[List.take_zero,List.append_nil];exact we⟩ (Xv X0) ?_
   clear we fx;rintro⟨k,JO⟩⟨hk,Gb,nH⟩cJ bj br;dsimp only at hk Gb nH ⊢;have f2:=nH.b0;have fo:=nH.b1;have fm:=nH.b2;have fx:=nH.b3;dsimp only at f2 fo fm fx;by_cases bg:k<l.length
   ·have rV:s8 m g l k=false->false=res:=λh=>ig (C8 bg h);have Jb:L0++l.take (k+1)=L0++l.take k++[l.getD k default]:=by rw[eu bg,bE]
    have rU:s8 m g l k=true->∀ b,b<k+1->s8 m g l b=true:=λh b hb=>by
     by_cases e:b=k
     ·subst e;exact h
     ·exact Gb b GK
    rcases gr:l.getD k default with⟨c,o⟩;rw[gr]at Jb;rw[aeo gr]at rV rU;have cM:=Nv m c o;have lY:=PH m g;cases hb:hZ m c o
    ·rw[hb]at cM;have hr:=rV (by rw[hb];simp);((repeat'(first|refine Vc (X5 @aB.eq_1 @fm @fx @gr @bd.eq_1) cM ?_|(refine Xi ?_ ?_<;>try intro ht)|exact Xx|fail)))
     all_goals
      repeat(refine Xu ?_)
      refine Vb X0 ?_;exact aO rfl (by rw[hr])
    rw[hb]at cM;obtain⟨h01,h02,h03,h04⟩:=jN.1 hb;obtain⟨c,rfl⟩:=Ce h01;obtain⟨o,rfl⟩:=Ce h03;rw[c7]at h04;have Ka:=aos (m:=m) g (c:=c) GK;cases eJ:g.contains (c:Int)
    ·have hr:=rV (by rw[eJ];rfl);rw[eJ]at Ka;((repeat'(first|refine Vc (X5 @aB.eq_1 @fm @fx @gr (X4 @bd.eq_1 @f2 @lY @Ka)) cM ?_|(refine Xi ?_ ?_<;>try intro ht)|exact Xx|fail)))
     all_goals
      repeat(refine Xu ?_)
      refine Vb X0 ?_;exact aO rfl (by rw[hr])
    rw[eJ]at Ka;rw[hb,eJ,gK,gK]at rV rU;have bK:=DM m (L0++l.take k);have yZ:=FU nH (j:=c) GK;obtain⟨bL,cD⟩:=nH.row c GK;have Aq:((lB m (L0++l.take k)).getD c default).length=(m.cls.getD c default).length:=by rw[J' _ GK];simp
    have Ap:=nH.setRow (j:=c) GK (r:=((lB m (L0++l.take k)).getD c default).set o true) (bJ ..);rw[<- aow _ GK GK,<- Jb]at Ap;generalize z6:(lB m (L0++l.take k)).getD c default=row at *;generalize hdd:D.getD c default=dd at *;obtain⟨dp,dn⟩:=dd;dsimp only at bL yZ Ap cD;((repeat'(first|refine Vc (X5 @aB.eq_1 @fm @fx @gr (X5 @bd.eq_1 @f2 @lY @Ka (X5 @fo @yZ @bL @Aq @q8))) cM ?_|(refine Xi ?_ ?_<;>try intro ht)|exact Xx|fail)))
    generalize JO.set dp (.arr 1 (a8 (row.set o true)))=pW at *;have fm:=Ap.b2;have fx:=Ap.b3;dsimp only at fm fx;refine aR (λz:Nat=>(⟨ao [(2,.tree 1 (rowsOf aC left)),(3,.ptr 0 0 0),(4,.ptr 1 0 0),(7,.ref 2 1 0 m.cls.length),(8,.ref oi 1 0 m.cls.length),(12,Qf a),(13,.tree 2 (rowsOf bd l)),(14,Qf k),(15,Qf z)],pW⟩:St))
     (λz=>z<=k/\∀ b,b<z->sZ m (c,o) (l.getD b default)=true) (λz=>k-z) 0 ⟨aS _,λa ha=>absurd ha (pd _)⟩ (Xv X0) ?_
    rintro j⟨hj,k8⟩mq gm fk;by_cases fe:j<k
    ·have PO:sZ m (c,o) (l.getD j default)=false->false=res:=λh=>rV (aoy hk fe h);have Kb:sZ m (c,o) (l.getD j default)=true->∀ b,b<j+1->sZ m (c,o) (l.getD b default)=true:=λh b hb=>by
      by_cases e:b=j
      ·subst e;exact h
      ·exact k8 b GK
     have FT:=Gb j fe;rcases tY:l.getD j default with⟨d,p⟩;rw[tY]at PO Kb;rw[aeo tY,bb,bb]at FT;have hex:=anZ m d p c o hm FT.1.2 hb;by_cases PQ:d=c
     ·subst PQ;((repeat'(first|refine Va (X5 @aB.eq_1 @gr @tY @bd.eq_1 @bne_self_eq_false.{0}) ?_|(refine Xi ?_ ?_<;>try intro ht)|exact Xx|fail)))
      exact gm _ (j+1) ⟨GK,Kb (by simp[sZ])⟩ GK (Xv X0)
     ·have aoG:sZ m ((c:Int),(o:Int)) (d,p)=s6 m d p c o:=by
       unfold sZ;rw[decide_eq_false (λh=>PQ h.symm),Bool.false_or];exact aiu (λh=>PQ h.symm)
      rw[aoG]at PO Kb;cases aT:s6 m d p c o
      ·have hr:=PO aT;rw[aT]at hex;((repeat'(first|refine Vc (X5 @aB.eq_1 @gr @tY @bd.eq_1 @fm) hex ?_|(refine V2 (X5 @aB.eq_1 @gr @tY @bd.eq_1 @fm) ?_ ?_<;>try with_reducible intro hb)|(refine Xi ?_ ?_<;>try intro ht)|exact Xx|fail)))
       all_goals
        repeat(refine Xu ?_)
        refine Vb X0 ?_;exact aO rfl (by rw[hr])
      ·rw[aT]at hex;((repeat'(first|refine Vc (X5 @aB.eq_1 @gr @tY @bd.eq_1 @fm) hex ?_|(refine V2 (X5 @aB.eq_1 @gr @tY @bd.eq_1 @fm) ?_ ?_<;>try with_reducible intro hb)|(refine Xi ?_ ?_<;>try intro ht)|exact Xx|fail)))
       exact gm _ (j+1) ⟨GK,Kb aT⟩ GK (Xv X0)
    ·obtain rfl:j=k:=GK;((repeat'(first|refine Va X0 ?_|(refine V2 X0 ?_ ?_<;>try with_reducible intro hb)|(refine Xi ?_ ?_<;>try intro ht)|exact Xx|fail)))
     refine fk _ _ rfl ?_;clear gm fk mq;repeat(refine Xu ?_)
     refine Va X0 ?_;exact bj _ (j+1,pW) ⟨PW,rU (aox hk k8),Ap⟩ PW (Xv X0)
   ·obtain rfl:k=l.length:=GK;((repeat'(first|refine Va X0 ?_|(refine Xi ?_ ?_<;>try intro ht)|exact Xx|fail)))
    refine br _ _ rfl ?_;clear bj br cJ;repeat(refine Xu ?_)
    refine Va X0 ?_;rw[wG,<- ez]at nH;exact ak _ (a+1,JO) ⟨PW,bG (Bm.2 Gb),nH⟩ PW (Xv X0)
  obtain rfl:a=cells.length:=GK;have O':cells.all (qB m g)=true:=by
   rw[fW];intro c hc;obtain⟨b,hb,rfl⟩:=mZ hc;have:=Ak b hb;rwa [az,bF hb]at this
  rw[wG]at *;clear Ak PL;have DN:=DN O';((repeat'(first|refine Va (X2 @fx @aB.eq_1) ?_|(refine Xi ?_ ?_<;>try intro ht)|exact Xx|fail)))
  refine aq _ _ rfl ?_;clear ak aq Ql;repeat(refine Xu ?_)
  have fo:=we.b1;have fm:=we.b2;dsimp only at fo fm;have bK:=DM m cells.flatten;refine Va X0 ?_;refine aR (λi:Nat=>(⟨ao [(2,.tree 1 (rowsOf aC left)),(3,.ptr 0 0 0),(4,.ptr 1 0 0),(7,.ref 2 1 0 m.cls.length),(8,.ref oi 1 0 m.cls.length),(16,Qf i)],os2⟩:St))
   (λi=>i<=g.length/\∀ a,a<i->uA left cells (g.getD a 0)=true) (λi=>g.length-i) 0 ⟨aS _,λa ha=>absurd ha (pd _)⟩ (Xv X0) ?_
  rintro i⟨hi,dY⟩Ql ak aq;by_cases ar:i<g.length
  ·have bR:=aF (l:=g) (i:=i) (d:=0) ar;have ig:uA left cells (g.getD i 0)=false->false=res:=λh=>(aeq (all_false bR h)).symm;have sM:=Dm _ bR;have bG:uA left cells (g.getD i 0)=true->∀ a,a<i+1->uA left cells (g.getD a 0)=true:=λh a ha=>by
    by_cases e:a=i
    ·subst e;exact h
    ·exact dY a GK
   generalize bc:g.getD i 0=c at *;obtain⟨c,rfl⟩:=Ce sM.1;have lf:c<m.cls.length:=GK;have alI:=hf.row hm _ (aF (l:=left) (i:=c) (d:=default) GK);have Jg:=hf.2 c GK;unfold uA at ig bG;rw[c7]at ig bG;have yZ:=FU we (j:=c) GK;obtain⟨bL,cD⟩:=we.row c GK;have Aq:((lB m cells.flatten).getD c default).length=(m.cls.getD c default).length:=by rw[J' _ GK];simp
   have DO:=λo=>aou (m:=m) cells.flatten (o:=o) lf;rw[<- Jg]at Aq DO;generalize gX:left.getD c default=row at *;generalize hdd:D.getD c default=dd at *;obtain⟨dp,dn⟩:=dd;dsimp only at bL yZ cD;generalize z6:(lB m cells.flatten).getD c default=apY at *;((repeat'(first|refine Va (X5 @aB.eq_1 @bc @fx @fo (X2 @yZ @Aq)) ?_|(refine Xi ?_ ?_<;>try intro ht)|exact Xx|fail)))
   refine aR (λo:Nat=>(⟨ao [(2,.tree 1 (rowsOf aC left)),(3,.ptr 0 0 0),(4,.ptr 1 0 0),(7,.ref 2 1 0 m.cls.length),(8,.ref oi 1 0 m.cls.length),(16,Qf i),(17,Qf c),(18,Qf o)],os2⟩:St))
    (λo=>o<=row.length/\∀ a,a<o->(!row.getD a false||cells.any λl=>l.any (jl c a))=true) (λo=>row.length-o) 0 ⟨aS _,λa ha=>absurd ha (pd _)⟩ (Xv @aB.eq_1) ?_
   rintro o⟨ho,F9⟩cJ bj br;by_cases cm:o<row.length
   ·have rV:=λh=>ig (C8 (f:=λo:Nat=>!row.getD o false||cells.any λl=>l.any (jl c o)) cm h);have rU:(!row.getD o false||cells.any λl=>l.any (jl c o))=true->∀ a,a<o+1->(!row.getD a false||cells.any λl=>l.any (jl c a))=true:=λh a ha=>by
     by_cases e:a=o
     ·subst e;exact h
     ·exact F9 a GK
    have DO:=DO o cm;rw[<- aoz]at DO;generalize kH:row.getD o false=b at *;generalize cells.any (λl=>l.any (jl c o))=OJ at *;cases b
    ·((repeat'(first|refine Va (X5 @aB.eq_1 @aC.eq_1 @gX @kH (X4 @fo @yZ @bL @Aq)) ?_|(refine Xi ?_ ?_<;>try intro ht)|exact Xx|fail)))
     exact bj _ (o+1) ⟨GK,rU rfl⟩ GK (Xv @aB.eq_1)
    ·cases OJ
     ·have hr:=rV rfl;((repeat'(first|refine Va (X5 @aB.eq_1 @aC.eq_1 @gX @kH (X5 @fo @yZ @bL @Aq @DO)) ?_|(refine Xi ?_ ?_<;>try intro ht)|exact Xx|fail)))
      all_goals
       repeat(refine Xu ?_)
       refine Vb X0 ?_;exact aO rfl (by rw[hr])
     ·((repeat'(first|refine Va (X5 @aB.eq_1 @aC.eq_1 @gX @kH (X5 @fo @yZ @bL @Aq @DO)) ?_|(refine Xi ?_ ?_<;>try intro ht)|exact Xx|fail)))
      exact bj _ (o+1) ⟨GK,rU rfl⟩ GK (Xv @aB.eq_1)
   ·obtain rfl:o=row.length:=GK;((repeat'(first|refine Va (X4 @fo @yZ @bL @Aq) ?_|(refine Xi ?_ ?_<;>try intro ht)|exact Xx|fail)))
    refine br _ _ rfl ?_;clear bj br cJ;repeat(refine Xu ?_)
    refine Va @aB.eq_1 ?_;exact ak _ (i+1) ⟨GK,bG (Bm.2 F9)⟩ GK (Xv X0)
  ·obtain rfl:i=g.length:=GK;have hr:=DN (by
    rw[fW];intro c hc;obtain⟨a,ha,rfl⟩:=mZ hc;have:=dY a ha;rwa [az,bF ha]at this)
   ((repeat'(first|refine Va (X2 @fx @aB.eq_1) ?_|(refine Xi ?_ ?_<;>try intro ht)|exact Xx|fail)))
   refine aq _ _ rfl ?_;clear ak aq Ql;repeat(refine Xu ?_)
   refine Vb X0 ?_;exact aO rfl (by rw[hr])
end T

