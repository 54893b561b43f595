import Derived.Test.YtodilglobhifaaaDoorX17
set_option linter.all false
set_option maxHeartbeats 0
set_option maxRecDepth 20000
open List renaming mem_cons→cI,not_mem_nil→qO,append_nil→eY,range→bj,mem_filter→fI,mem_singleton→bB,mem_append→bn,contains_iff_mem→oh,nodup_append→qW,mem_map→bS,nodup_iff_pairwise_ne→mo,mem_flatMap→xh,getD_eq_getElem?_getD→an,length_append→aJ,length_singleton→lH,length_set→bm,pairwise_iff_getElem→pI,getElem?_eq_getElem→aN
open Nat renaming le_refl→aH
open Bool renaming and_eq_true→bb,true_and→fH,not_eq_true'→fU,not_eq_true→uF
open Go Go.Am
namespace T
structure Nd where
 cls:Int
 kids:List Int
 Cj:List Mv
 lq:List Int
 cells:List (List (Int×Int))
 deriving Inhabited
def Ck(l:List (Int×Int)):List AV:=[.tree 2 (rowsOf au l)]
instance:Row Ck 1:=⟨λ_=>rfl,λx v hv=>by
 simp only[Ck,cI,qO,or_false]at hv;subst hv;exact .inr ⟨_,_,rfl⟩⟩
def JP(x:Nd):List AV:=[UX x.cls,.tree 1 (ints x.kids),.tree 4 (rowsOf Cl x.Cj),.tree 1 (ints x.lq),.tree 1 (rowsOf Ck x.cells)]
instance:Row JP 5:=⟨λ_=>rfl,λx v hv=>by
 simp only[JP,cI,qO,or_false]at hv;rcases hv with rfl|rfl|rfl|rfl|rfl
 ·exact .inl ⟨_,rfl,rfl⟩
 all_goals exact .inr ⟨_,_,rfl⟩⟩
structure PB(P:List Nd):Prop where
 Ub:P.length<9223372036854775808
 kids:∀ x∈P,x.kids.length<9223372036854775808
 Cj:∀ x∈P,x.Cj.length<9223372036854775808
 lq:∀ x∈P,x.lq.length<9223372036854775808
 cells:∀ x∈P,x.cells.length<9223372036854775808
 cell:∀ x∈P,∀ l∈x.cells,l.length<9223372036854775808
def tM(m:ae)(a b:Int×Int):Bool:=decide (a.1=b.1)||rV m a.1 a.2 b.1 b.2
section
variable {α:Type} [Inhabited α]
def pe(lt:α->α->Bool)(x:α)(l:List α):Nat->Nat
 |0=>0
 |k+1=>if lt x (l.getD k default)=true then pe lt x l k else k+1
def JQ(lt:α->α->Bool)(x:α)(l:List α):∀ k,pe lt x l k<=k
 |0=>aH _
 |k+1=>by
  rw[pe];split
  ·have:=JQ lt x l k;omega
  ·exact aH _
def tN(lt:α->α->Bool)(x:α)(l:List α):List α:=l.take (pe lt x l l.length)++x::l.drop (pe lt x l l.length)
def fD(lt:α->α->Bool):List α->List α->List α
 |[],out=>out
 |x::r,out=>fD lt r (tN lt x out)
def P7(lt:α->α->Bool)(x:α)(l:List α):(tN lt x l).Perm (x::l):=by
 unfold tN;refine List.perm_middle.trans ?_;rw[List.take_append_drop]
def Cm(lt:α->α->Bool):∀ (l out:List α),(fD lt l out).Perm (out++l)
 |[],out=>by rw[fD,eY]
 |x::r,out=>by
  rw[fD];refine(Cm lt r _).trans (((P7 lt x out).append_right r).trans ?_);exact List.perm_middle.symm
def JR(lt:α->α->Bool):∀ (l out:List α) (x:α),fD lt (l++[x]) out=tN lt x (fD lt l out)
 |[],out,x=>rfl
 |y::r,out,x=>by rw[List.cons_append,fD,fD,JR lt r]
structure Uc(lt:α->α->Bool)(P:α->Prop):Prop where
 tr:∀ a b c,P a->P b->P c->lt a b=true->lt b c=true->lt a c=true
 P8:∀ a b,P a->P b->a≠b->lt a b=true\/lt b a=true
 ir:∀ a b,P a->P b->lt a b=true->lt b a=false
omit [Inhabited α] in
end
def eR(m:ae)(x:Int×Int):cD:=(m.cls.getD x.1.toNat default).getD x.2.toNat default
def rW(m:ae)(left:List (List Bool))(c:Nat):List (Int×Int) :=
 ((bj (m.cls.getD c default).length).filter λi=>(left.getD c default).getD i false).map λi:Nat=>((c:Int),(i:Int))
def eJ(m:ae)(left:List (List Bool)):List (Int×Int):=(bj m.cls.length).flatMap λc=>rW m left c
def lL(w:Int):Int:=if w=2 then 1 else 0
def vP(w:Int):Int:=if w=2 then 2 else 1
def ef(m:ae)(x:Int×Int):Bool:=decide (0<=(eR m x).room/\0<(eR m x).wk)
def cp(m:ae)(x:Int×Int):List Int:=[(eR m x).room,(eR m x).day,(eR m x).st,lL (eR m x).wk]
def yU(m:ae)(x y:Int×Int):Bool :=
 decide (0<=(eR m x).room/\(eR m x).room=(eR m y).room/\(eR m x).day=(eR m y).day/\(eR m x).st=(eR m y).st/\0<(eR m x).wk/\0<(eR m y).wk/\vP (eR m x).wk=vP (eR m y).wk)
def cY(m:ae)(X:List (Int×Int))(k:List Int):List (Int×Int):=X.filter λx=>ef m x&&decide (cp m x=k)
def yV(m:ae)(l:List (Int×Int))(i:Nat):Bool:=(l.take i).all (tM m (l.getD i default))
def mW(m:ae)(l:List (Int×Int)):Bool:=(bj l.length).all (yV m l)
def eS(m:ae)(X:List (Int×Int))(x:Int×Int):List (Int×Int):=if ef m x&&mW m (cY m X (cp m x)) then cY m X (cp m x) else [x]
def gp(m:ae):List (Int×Int)->List (List Int)->List (List Int)
 |[],ks=>ks
 |x::r,ks=>gp m r (if ef m x&&!ks.contains (cp m x) then ks++[cp m x] else ks)
def iM(m:ae)(X:List (Int×Int))(k:List Int):List (List (Int×Int)):=if mW m (cY m X k) then [cY m X k] else(cY m X k).map λc=>[c]
def nV(m:ae)(X:List (Int×Int)):List (List (Int×Int)):=(X.filter λx=>!ef m x).map λc=>[c]
def jc(m:ae)(X:List (Int×Int)):List (List (Int×Int)):=nV m X++(gp m X []).flatMap (iM m X)
def tO(m:ae)(X:List (Int×Int))(x:Int×Int):List (Int×Int):=X.filter λy=>decide (y=x)||yU m x y
def Cn(m:ae)(X:List (Int×Int))(x:Int×Int):List (Int×Int):=if mW m (tO m X x) then tO m X x else [x]
def bI(c:List (Int×Int)):Int×Int:=c.getD 0 default
def vQ(x:Int×Int):List (List (Int×Int))->Nat->Int->Int
 |[],_,at'=>at'
 |c::r,i,at'=>vQ x r (i+1) (if bI c=x then i else at')
def Co(m:ae)(X:List (Int×Int))(s:List (List (Int×Int))×List (List Int))(x:Int×Int):List (List (Int×Int))×List (List Int) :=
 let y:=Cn m X x
 let a:=vQ (bI y) s.1 0 (-1)
 if a<0 then(s.1++[y],s.2.set x.1.toNat (s.2.getD x.1.toNat []++[(s.1.length:Int)])) else(s.1,s.2.set x.1.toNat (s.2.getD x.1.toNat []++[a]))
def Cp(m:ae)(X:List (Int×Int)):List (Int×Int)->List (List (Int×Int))×List (List Int)->List (List (Int×Int))×List (List Int)
 |[],s=>s
 |x::r,s=>Cp m X r (Co m X s x)
structure CX(X:List (Int×Int))(cx:Int×Int->List (Int×Int)):Prop where
 self:∀ x∈X,x∈cx x
 sub:∀ x∈X,∀ y∈cx x,y∈X/\cx y=cx x
structure pf(X:List (Int×Int))(cx:Int×Int->List (Int×Int))(A:List (List (Int×Int))):Prop where
 nd:A.Nodup
 mem:∀ C,C∈A↔∃ x∈X,C=cx x
def kf{m:ae}{X:List (Int×Int)}{k:List Int}{x:Int×Int}:x∈cY m X k↔x∈X/\ef m x=true/\cp m x=k:=by
 unfold cY;rw[fI,bb,decide_eq_true_eq]
def tP(m:ae)(X:List (Int×Int)):CX X (eS m X):=by
 refine⟨λx hx=>?_,λx hx y hy=>?_⟩
 ·unfold eS;split
  ·rename_i h;rw[bb]at h;exact kf.2 ⟨hx,h.1,rfl⟩
  ·simp
 ·unfold eS at hy;split at hy
  ·rename_i h;obtain⟨h1,h2,h3⟩:=kf.1 hy;refine⟨h1,?_⟩;unfold eS;rw[h2,h3];rw[bb]at h;rw[h.1,h.2];rfl
  ·rw[bB]at hy;subst hy;exact⟨hx,rfl⟩
def tQ{m:ae}:∀ (X:List (Int×Int)) (ks:List (List Int)) (k:List Int),k∈gp m X ks↔k∈ks\/∃ x∈X,ef m x=true/\cp m x=k
 |[],ks,k=>by simp[gp]
 |x::r,ks,k=>by
  rw[gp,tQ r];constructor
  ·rintro(h|⟨y,h1,h2⟩)
   ·split at h
    ·rename_i hc;rw[bb]at hc;rcases bn.1 h with h|h
     ·exact .inl h
     ·rw[bB]at h;exact .inr ⟨x,Eb,hc.1,h.symm⟩
    ·exact .inl h
   ·exact .inr ⟨y,by simp[h1],h2⟩
  ·rintro(h|⟨y,h1,h2,h3⟩)
   ·left;split
    ·exact List.mem_append_left _ h
    ·exact h
   ·rcases cI.1 h1 with rfl|h1
    ·left;by_cases hc:cp m y∈ks
     ·rw[h3]at hc;split
      ·exact List.mem_append_left _ hc
      ·exact hc
     ·have:(ef m y&&!ks.contains (cp m y))=true:=by
       rw[h2,fH,fU,<- uF,oh];exact hc
      rw[if_pos this,<- h3];simp
    ·exact .inr ⟨y,h1,h2,h3⟩
def JS{m:ae}:∀ (X:List (Int×Int)) (ks:List (List Int)),ks.Nodup->(gp m X ks).Nodup
 |[],ks,h=>h
 |x::r,ks,h=>by
  rw[gp];refine JS r _ ?_;split
  ·rename_i hc;rw[bb,fU,<- uF,oh]at hc;rw[qW];exact⟨h,Eb,λa ha b hb e=>by rw[bB]at hb;subst hb;subst e;exact hc.2 ha⟩
  ·exact h
def vR{m:ae}{X:List (Int×Int)}{k:List Int}{c:Int×Int}(hc:c∈cY m X k):eS m X c=if mW m (cY m X k)=true then cY m X k else [c]:=by
 obtain⟨h1,h2,h3⟩:=kf.1 hc;unfold eS;rw[h2,h3,fH]
def JT(m:ae){X:List (Int×Int)}(hX:X.Nodup):pf X (eS m X) (jc m X):=by
 have hk:∀ k,k∈gp m X []↔∃ x∈X,ef m x=true/\cp m x=k:=λk=>by rw[tQ];simp
 have tB:∀ x,ef m x=false->eS m X x=[x]:=λx h=>by unfold eS;rw[h];rfl
 have lr:∀ k C,C∈iM m X k↔(∃ x∈cY m X k,C=eS m X x)\/(C=[]/\cY m X k=[] ):=λk C=>by
  unfold iM;split
  ·rename_i h;rw[bB];constructor
   ·rintro rfl;cases hg:cY m X k with
    |nil=>exact .inr ⟨rfl,rfl⟩
    |cons c r =>
     have hc:c∈cY m X k:=by rw[hg];simp
     exact .inl ⟨c,Eb,by rw[vR hc,if_pos h,hg]⟩
   ·rintro(⟨x,h1,h2⟩|⟨h1,h2⟩)
    ·rw[h2,vR h1,if_pos h]
    ·rw[h1,h2]
  ·rename_i h;rw[bS];constructor
   ·rintro⟨c,hc,rfl⟩;exact .inl ⟨c,hc,by rw[vR hc,if_neg h]⟩
   ·rintro(⟨x,h1,h2⟩|⟨h1,h2⟩)
    ·exact⟨x,h1,by rw[h2,vR h1,if_neg h]⟩
    ·rw[h2]at h;exact absurd rfl h
 have bx:∀ k∈gp m X [],∃ x,x∈cY m X k:=λk h=>by
  obtain⟨x,h1,h2,h3⟩:=(hk k).1 h;exact⟨x,kf.2 ⟨h1,h2,h3⟩⟩
 refine⟨?_,λC=>?_⟩
 ·unfold jc nV;rw[qW];refine⟨?_,?_,?_⟩
  ·rw[mo,List.pairwise_map];exact((mo.1 hX).filter _).imp λh e=>h (by simpa using e)
  ·rw[mo,List.pairwise_flatMap];refine⟨λk _=>?_,(mo.1 (JS X [] .nil)).imp_of_mem λ{k k'} h1 h2 Cq C hC D hD e=>?_⟩
   ·unfold iM;split
    ·simp
    ·rw[List.pairwise_map];exact((mo.1 hX).filter _).imp λh e=>h (by simpa using e)
   ·subst e;rcases(lr k C).1 hC with⟨x,g1,g2⟩|⟨_,g2⟩
    ·rcases(lr k' C).1 hD with⟨y,g3,g4⟩|⟨_,g4⟩
     ·have hx:=(kf.1 g1);have hy:=(kf.1 g3);have vS:x∈C:=by rw[g2];exact(tP m X).self x hx.1
      have P9:x∈cY m X k':=by
       rw[g4,vR g3]at vS;split at vS
       ·exact vS
       ·rw[bB]at vS;subst vS;exact g3
      exact Cq (hx.2.2.symm.trans (kf.1 P9).2.2)
     ·obtain⟨z,hz⟩:=bx k' h2;rw[g4]at hz;simp at hz
    ·obtain⟨z,hz⟩:=bx k h1;rw[g2]at hz;simp at hz
  ·intro C hC D hD e;subst e;rw[bS]at hC;obtain⟨c,hc,rfl⟩:=hC;rw[fI,fU]at hc;rw[xh]at hD;obtain⟨k,h1,h2⟩:=hD;rcases(lr k [c]).1 h2 with⟨x,g1,g2⟩|⟨g1,_⟩
   ·have hx:=kf.1 g1;have lU:x∈[c]:=by rw[g2];exact(tP m X).self x hx.1
    rw[bB]at lU;subst lU;rw[hx.2.1]at hc;exact absurd hc.2 US
   ·cases g1
 ·unfold jc nV;rw[bn,bS,xh];constructor
  ·rintro(⟨c,hc,rfl⟩|⟨k,h1,h2⟩)
   ·rw[fI,fU]at hc;exact⟨c,hc.1,(tB c hc.2).symm⟩
   ·rcases(lr k C).1 h2 with⟨x,g1,g2⟩|⟨_,g2⟩
    ·exact⟨x,(kf.1 g1).1,g2⟩
    ·obtain⟨z,hz⟩:=bx k h1;rw[g2]at hz;simp at hz
  ·rintro⟨x,hx,rfl⟩;cases hb:ef m x with
   |false=>exact .inl ⟨x,by rw[fI,fU];exact⟨hx,hb⟩,(tB x hb).symm⟩
   |true=>exact .inr ⟨cp m x,(hk _).2 ⟨x,hx,hb,rfl⟩,(lr _ _).2 (.inl ⟨x,kf.2 ⟨hx,hb,rfl⟩,rfl⟩)⟩
def WK(m:ae):Prop:=∀ x,(eR m x).wk<=3
def JU{α:Type}[DecidableEq α]:∀ {X:List α},X.Nodup->∀ {x:α},x∈X->(X.filter λy=>decide (y=x))=[x]
 |[],_,x,h=>by simp at h
 |a::X,hn,x,h=>by
  rw[List.nodup_cons]at hn;rw[List.filter_cons];rcases cI.1 h with e|h
  ·subst e;rw[if_pos Eb];congr 1;rw[List.filter_eq_nil_iff];intro y hy;simp only[decide_eq_true_eq];intro e;subst e;exact hn.1 hy
  ·rw[if_neg (by simp only[decide_eq_true_eq];intro e;subst e;exact hn.1 h)];exact JU hn.2 h
def JV{a b:Int}(ha:0<a/\a<=3)(hb:0<b/\b<=3):vP a=vP b↔lL a=lL b:=by
 unfold vP lL;split<;>split<;>simp
def JW{m:ae}(hw:WK m){x y:Int×Int}:yU m x y=true↔ef m x=true/\ef m y=true/\cp m y=cp m x:=by
 unfold yU ef cp;rw[decide_eq_true_eq,decide_eq_true_eq,decide_eq_true_eq];have h1:=hw x;have h2:=hw y;generalize eR m x=a at *;generalize eR m y=b at *;constructor
 ·rintro⟨c1,c2,c3,c4,c5,c6,c7⟩;refine⟨⟨c1,c5⟩,⟨z8,c6⟩,?_⟩;rw[c2,c3,c4,(JV ⟨c5,h1⟩ ⟨c6,h2⟩).1 c7]
 ·rintro⟨⟨c1,c2⟩,⟨c3,c4⟩,c5⟩;simp only[List.cons.injEq,and_true]at c5;obtain⟨d1,d2,d3,d4⟩:=c5;exact⟨c1,d1.symm,d2.symm,d3.symm,c2,c4,(JV ⟨c2,h1⟩ ⟨c4,h2⟩).2 d4.symm⟩
def P'{m:ae}(hw:WK m){X:List (Int×Int)}(hX:X.Nodup){x:Int×Int}(hx:x∈X):Cn m X x=eS m X x:=by
 unfold Cn eS;cases hb:ef m x with
 |true =>
  have:tO m X x=cY m X (cp m x):=by
   unfold tO cY;refine List.filter_congr λy hy=>?_;rw[Bool.eq_iff_iff,Bool.or_eq_true,decide_eq_true_eq,JW hw,bb,decide_eq_true_eq];constructor
   ·rintro(rfl|⟨_,h1,h2⟩)
    ·exact⟨hb,rfl⟩
    ·exact⟨h1,h2⟩
   ·rintro⟨h1,h2⟩;exact .inr ⟨hb,h1,h2⟩
  rw[this,fH]
 |false =>
  have:tO m X x=[x]:=by
   unfold tO;rw[<- JU hX hx];refine List.filter_congr λy hy=>?_;have:yU m x y=false:=by
    rw[<- uF];intro h;rw[((JW hw).1 h).1]at hb;cases hb
   rw[this,Bool.or_false]
  rw[this,Bool.false_and];simp
def rX{C:List (Int×Int)}(h:C≠[]):bI C∈C:=by
 cases C with
 |nil=>exact absurd rfl h
 |cons a r=>simp[bI]
section
variable {X:List (Int×Int)} {cx:Int×Int->List (Int×Int)}
def CX.ne(h:CX X cx){x:Int×Int}(hx:x∈X):cx x≠[]:=λe=>by have:=h.self x hx;rw[e]at this;simp at this
def CX.hd(h:CX X cx){x y:Int×Int}(hx:x∈X)(hy:y∈X)(e:bI (cx x)=bI (cx y)):cx x=cx y:=by
 have h1:=(h.sub x hx _ (rX (h.ne hx))).2;have h2:=(h.sub y hy _ (rX (h.ne hy))).2;rw[<- h1,e,h2]
def CX.meet(h:CX X cx){x y z:Int×Int}(hx:x∈X)(hy:y∈X)(h1:z∈cx x)(h2:z∈cx y):cx x=cx y:=by
 rw[<- (h.sub x hx z h1).2,(h.sub y hy z h2).2]
def JX(x:Int×Int):∀ (cs:List (List (Int×Int))) (i:Nat) (a:Int),(vQ x cs i a=a/\∀ c∈cs,bI c≠x)\/∃ k,k<cs.length/\vQ x cs i a=((i+k:Nat):Int)/\bI (cs.getD k default)=x
 |[],i,a=>.inl ⟨rfl,Eb⟩
 |c::r,i,a=>by
  rw[vQ];rcases JX x r (i+1) (if bI c=x then(i:Int) else a) with⟨h1,h2⟩|⟨k,h1,h2,h3⟩
  ·by_cases hc:bI c=x
   ·rw[if_pos hc]at h1 ⊢;exact .inr ⟨0,Eb,by rw[h1];simp,by simpa using hc⟩
   ·rw[if_neg hc]at h1 ⊢;refine .inl ⟨h1,λd hd=>?_⟩;rcases cI.1 hd with rfl|hd
    ·exact hc
    ·exact h2 d hd
  ·exact .inr ⟨k+1,by rw[List.length_cons];omega,by rw[h2];congr 1;omega,by simpa using h3⟩
end
structure kI(n:Nat)(A:List (List (Int×Int)))(L:List (List Int)):Prop where
 len:L.length=n
 mem:∀ c,c<n->∀ k:Nat,(k:Int)∈L.getD c []↔k<A.length/\∃ y∈A.getD k [],y.1=(c:Int)
 fR:∀ l∈L,∀ x∈l,0<=x
def yW{α:Type}(l:List α)(i j:Nat)(v d:α):(l.set i v).getD j d=if j=i/\i<l.length then v else l.getD j d:=by
 simp only[an,List.getElem?_set];by_cases h:j=i
 ·subst h;by_cases h2:j<l.length
  ·simp[h2]
  ·simp[h2]
 ·rw[if_neg (λe=>h e.symm),if_neg (λe=>h e.1)]
structure rY(X:List (Int×Int))(cx:Int×Int->List (Int×Int))(n:Nat)(D:List (Int×Int))(s:List (List (Int×Int))×List (List Int)):Prop where
 nd:s.1.Nodup
 mem:∀ C,C∈s.1↔∃ x∈D,C=cx x
 len:s.2.length=n
 vT:∀ c,c<n->∀ k:Nat,(k:Int)∈s.2.getD c []↔k<s.1.length/\∃ x∈D,x.1=(c:Int)/\s.1.getD k []=cx x
 fR:∀ c,∀ x∈s.2.getD c [],0<=x
 rZ:∀ c,(s.2.getD c []).length<=D.length
def rY.step{m:ae}{X:List (Int×Int)}(hX:X.Nodup)(hw:WK m){n:Nat}(hn:∀ x∈X,0<=x.1/\x.1<n){D:List (Int×Int)}{s:List (List (Int×Int))×List (List Int)}(h:rY X (eS m X) n D s)(hD:∀ x∈D,x∈X){x:Int×Int}(hx:x∈X):
  rY X (eS m X) n (D++[x]) (Co m X s x):=by
 have iK:=tP m X;unfold Co;rw[P' hw hX hx];dsimp only;have JY:=hn x hx;obtain⟨cs,ls⟩:=s;have hl:=h.len;have cO:=h.mem;have cm:=h.nd;have fE:=h.vT;have Cr:=h.fR;have Cs:=h.rZ;dsimp only at hl cO cm fE Cr Cs ⊢;have fb:∀ (v:List Int) (c:Nat),c<n->(ls.set x.1.toNat v).getD c []=if(c:Int)=x.1 then v else ls.getD c []:=λv c hc=>by
  rw[yW];by_cases e:(c:Int)=x.1
  ·rw[if_pos e,if_pos ⟨z8,z8⟩]
  ·rw[if_neg e,if_neg (λh=>e z8)]
 have hr:∀ v:List Int,(∀ y∈v,0<=y)->∀ c,∀ y∈(ls.set x.1.toNat v).getD c [],0<=y:=λv hv c y hy=>by
  rw[yW]at hy;split at hy
  ·exact hv y hy
  ·exact Cr c y hy
 have hz:∀ v:List Int,v.length<=D.length+1->∀ c,((ls.set x.1.toNat v).getD c []).length<=(D++[x]).length:=λv hv c=>by
  rw[yW,aJ,lH];split
  ·exact hv
  ·have:=Cs c;omega
 have hold:=Cr x.1.toNat;have holds:=Cs x.1.toNat;rcases JX (bI (eS m X x)) cs 0 (-1) with⟨h1,h2⟩|⟨k,h1,h2,h3⟩
 ·rw[h1,if_pos US];have j7:eS m X x ∉ cs:=λhc=>h2 _ hc rfl;refine⟨?_,λC=>?_,by rw[bm];exact hl,λc hc j=>?_,hr _ (λy hy=>?_),hz _ (by rw[aJ,lH];omega)⟩
  ·rw[qW];exact⟨cm,Eb,λa ha b hb e=>by rw[bB]at hb;subst hb;subst e;exact j7 ha⟩
  ·rw[bn,cO,bB];constructor
   ·rintro(⟨y,h1,h2⟩|h)
    ·exact⟨y,by simp[h1],h2⟩
    ·exact⟨x,Eb,h⟩
   ·rintro⟨y,h1,h2⟩;rcases bn.1 h1 with h1|h1
    ·exact .inl ⟨y,h1,h2⟩
    ·rw[bB]at h1;rw[h1]at h2;exact .inr h2
  ·rw[fb _ c hc,aJ,lH];have mP:j<cs.length->(cs++[eS m X x]).getD j []=cs.getD j []:=λhj=>by
    rw[an,List.getElem?_append_left hj,<- an]
   have kq:(cs++[eS m X x]).getD cs.length []=eS m X x:=by
    rw[an,List.getElem?_append_right (aH _)];simp
   have cR:∀ j,j<cs.length->cs.getD j []≠eS m X x:=λj hj e=>j7 (e▸aO hj);by_cases e:(c:Int)=x.1
   ·rw[if_pos e,bn,bB,show x.1.toNat=c by omega,fE c hc];constructor
    ·rintro(⟨h1,y,h2,h3,h4⟩|h1)
     ·exact⟨z8,y,by simp[h2],h3,by rw[mP h1];exact h4⟩
     ·exact⟨z8,x,Eb,e.symm,by rw[show j=cs.length by omega];exact kq⟩
    ·rintro⟨h1,y,h2,h3,h4⟩;by_cases hj:j<cs.length
     ·rw[mP hj]at h4;rcases bn.1 h2 with h2|h2
      ·exact .inl ⟨hj,y,h2,h3,h4⟩
      ·rw[bB]at h2;rw[h2]at h4;exact absurd h4 (cR j hj)
     ·exact .inr z8
   ·rw[if_neg e,fE c hc];constructor
    ·rintro⟨h1,y,h2,h3,h4⟩;exact⟨z8,y,by simp[h2],h3,by rw[mP h1];exact h4⟩
    ·rintro⟨h1,y,h2,h3,h4⟩;rcases bn.1 h2 with h2|h2
     ·by_cases hj:j<cs.length
      ·exact⟨hj,y,h2,h3,by rw[<- mP hj];exact h4⟩
      ·rw[show j=cs.length by omega,kq]at h4;exact absurd ((cO _).2 ⟨y,h2,h4⟩) j7
     ·rw[bB]at h2;rw[h2]at h3;exact absurd h3.symm e
  ·rcases bn.1 hy with hy|hy
   ·exact hold y hy
   ·rw[bB]at hy;omega
 ·rw[h2,Nat.zero_add,if_neg z8];obtain⟨y,hy,Cu⟩:=(cO _).1 (aO (l:=cs) (i:=k) (d:=default) h1);have JZ:cs.getD k default=eS m X x:=by
   rw[Cu];rw[Cu]at h3;exact iK.hd (hD y hy) hx h3
  have vU:cs.getD k []=eS m X x:=JZ;refine⟨cm,λC=>?_,by rw[bm];exact hl,λc hc j=>?_,hr _ (λy hy=>?_),hz _ (by rw[aJ,lH];omega)⟩
  ·rw[cO];constructor
   ·rintro⟨y,h1,h2⟩;exact⟨y,by simp[h1],h2⟩
   ·rintro⟨y,h1,h2⟩;rcases bn.1 h1 with h1|h1
    ·exact⟨y,h1,h2⟩
    ·rw[bB]at h1;exact⟨_,hy,by rw[h2,h1,<- JZ,Cu]⟩
  ·rw[fb _ c hc];by_cases e:(c:Int)=x.1
   ·rw[if_pos e,bn,bB,show x.1.toNat=c by omega,fE c hc];constructor
    ·rintro(⟨h1,y,h2,h3,h4⟩|h4)
     ·exact⟨h1,y,by simp[h2],h3,h4⟩
     ·have:j=k:=z8;subst this;exact⟨h1,x,Eb,e.symm,vU⟩
    ·rintro⟨h1,y,h2,h3,h4⟩;rcases bn.1 h2 with h2|h2
     ·exact .inl ⟨h1,y,h2,h3,h4⟩
     ·rw[bB]at h2;rw[h2]at h4;right;have uU:j=k:=by
       rcases Nat.lt_trichotomy j k with h|h|h
       ·exact absurd (by
         have a:=pI.1 (mo.1 cm) j k z8 z8 h;rw[an,aN z8]at h4 vU;exact a (by simpa using h4.trans vU.symm)) id
       ·exact h
       ·exact absurd (by
         have a:=pI.1 (mo.1 cm) k j z8 z8 h;rw[an,aN z8]at h4 vU;exact a (by simpa using vU.trans h4.symm)) id
      omega
   ·rw[if_neg e,fE c hc];constructor
    ·rintro⟨h1,y,h2,h3,h4⟩;exact⟨h1,y,by simp[h2],h3,h4⟩
    ·rintro⟨h1,y,h2,h3,h4⟩;rcases bn.1 h2 with h2|h2
     ·exact⟨h1,y,h2,h3,h4⟩
     ·rw[bB]at h2;rw[h2]at h3;exact absurd h3.symm e
  ·rcases bn.1 hy with hy|hy
   ·exact hold y hy
   ·rw[bB]at hy;omega
def rY.all{m:ae}{X:List (Int×Int)}(hX:X.Nodup)(hw:WK m){n:Nat}(hn:∀ x∈X,0<=x.1/\x.1<n):∀ (r D:List (Int×Int)) (s:List (List (Int×Int))×List (List Int)),rY X (eS m X) n D s->(∀ x∈D,x∈X)->(∀ x∈r,x∈X)->rY X (eS m X) n (D++r) (Cp m X r s)
 |[],D,s,h,_,_=>by rw[eY];exact h
 |x::r,D,s,h,h1,h2=>by
  rw[Cp,show D++x::r=D++[x]++r by simp];refine rY.all hX hw hn r _ _ (h.step hX hw hn h1 (h2 x Eb)) (λy hy=>?_) (λy hy=>h2 y (by simp[hy]));rcases bn.1 hy with hy|hy
  ·exact h1 y hy
  ·rw[bB]at hy;subst hy;exact h2 _ Eb
end T

