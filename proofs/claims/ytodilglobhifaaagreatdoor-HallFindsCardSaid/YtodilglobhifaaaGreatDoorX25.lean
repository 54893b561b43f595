import Derived.Test.YtodilglobhifaaaGreatDoorX24
set_option linter.all false
set_option maxHeartbeats 0
set_option maxRecDepth 20000
open List renaming mem_cons→cD,not_mem_nil→qS,append_nil→fF,cons_append→fR,getD_eq_getElem?_getD→aw,getElem?_eq_getElem→bc,pairwise_iff_getElem→sH,getElem_of_mem→sI,nodup_cons→xQ,mem_append→bj,range→bD,mem_filter→jH,mem_singleton→bm,contains_iff_mem→ml,nodup_append→uk,mem_map→cN,nodup_iff_pairwise_ne→nR,mem_flatMap→Dt,length_append→aJ,length_singleton→nO,length_set→bt,getElem?_append_left→cr,getElem?_append_right→dS,replicate→ax,nil_append→dT,append_assoc→bN,take_add_one→Hn,set_append_right→uj
open Nat renaming le_refl→aM,lt_trichotomy→Hp
open Bool renaming and_eq_true→bd,true_and→iD,not_eq_true'→g7,not_eq_true→xU
open Int renaming toNat_of_nonneg→oR,toNat_natCast→dz
open Go Go.Am
namespace T
structure Nd where
 cls:Int
 kids:List Int
 Ff:List Mv
 nu:List Int
 cells:List (List (Int×Int))
 deriving Inhabited
def Fg(l:List (Int×Int)):List AV:=[.tree 2 (rowsOf aj l)]
instance:Row Fg 1:=⟨λ_=>rfl,λx v hv=>by
 simp only[Fg,cD,qS,or_false]at hv;subst hv;exact .inr ⟨_,_,rfl⟩⟩
def Oz(x:Nd):List AV:=[aah x.cls,.tree 1 (ints x.kids),.tree 4 (rowsOf Fh x.Ff),.tree 1 (ints x.nu),.tree 1 (rowsOf Fg x.cells)]
instance:Row Oz 5:=⟨λ_=>rfl,λx v hv=>by
 simp only[Oz,cD,qS,or_false]at hv;rcases hv with rfl|rfl|rfl|rfl|rfl
 ·exact .inl ⟨_,rfl,rfl⟩
 all_goals exact .inr ⟨_,_,rfl⟩⟩
structure PB(P:List Nd):Prop where
 Z8:P.length<9223372036854775808
 kids:∀ x∈P,x.kids.length<9223372036854775808
 Ff:∀ x∈P,x.Ff.length<9223372036854775808
 nu:∀ x∈P,x.nu.length<9223372036854775808
 cells:∀ x∈P,x.cells.length<9223372036854775808
 cell:∀ x∈P,∀ l∈x.cells,l.length<9223372036854775808
def ti(m:ah)(a b:Int×Int):Bool:=decide (a.1=b.1)||pD m a.1 a.2 b.1 b.2
section
variable {α:Type} [Inhabited α]
def j3(lt:α->α->Bool)(x:α)(l:List α):Nat->Nat
 |0=>0
 |k+1=>if lt x (l.getD k default)=true then j3 lt x l k else k+1
def B3(lt:α->α->Bool)(x:α)(l:List α):∀ k,j3 lt x l k<=k
 |0=>aM _
 |k+1=>by
  rw[j3];split
  ·have:=B3 lt x l k;omega
  ·exact aM _
def oJ(lt:α->α->Bool)(x:α)(l:List α):List α:=l.take (j3 lt x l l.length)++x::l.drop (j3 lt x l l.length)
def eF(lt:α->α->Bool):List α->List α->List α
 |[],out=>out
 |x::r,out=>eF lt r (oJ lt x out)
def zg(lt:α->α->Bool)(x:α)(l:List α):(oJ lt x l).Perm (x::l):=by
 unfold oJ;refine List.perm_middle.trans ?_;rw[List.take_append_drop]
def wQ(lt:α->α->Bool):∀ (l out:List α),(eF lt l out).Perm (out++l)
 |[],out=>by rw[eF,fF]
 |x::r,out=>by
  rw[eF];refine(wQ lt r _).trans (((zg lt x out).append_right r).trans ?_);exact List.perm_middle.symm
def OA(lt:α->α->Bool):∀ (l out:List α) (x:α),eF lt (l++[x]) out=oJ lt x (eF lt l out)
 |[],out,x=>rfl
 |y::r,out,x=>by rw[fR,eF,eF,OA lt r]
def OB(lt:α->α->Bool)(x:α)(l:List α):∀ k,(∀ j,j3 lt x l k<=j->j<k->lt x (l.getD j default)=true)/\(0<j3 lt x l k->lt x (l.getD (j3 lt x l k-1) default)=false)
 |0=>⟨λj h1 h2=>Ay,λh=>by rw[j3]at h;omega⟩
 |k+1=>by
  obtain⟨a,b⟩:=OB lt x l k;rw[j3];split
  ·rename_i h;refine⟨λj h1 h2=>?_,b⟩;by_cases hj:j=k
   ·subst hj;exact h
   ·exact a j h1 Ay
  ·rename_i h;exact⟨λj h1 h2=>Ay,λ_=>by simpa using h⟩
structure zh(lt:α->α->Bool)(P:α->Prop):Prop where
 tr:∀ a b c,P a->P b->P c->lt a b=true->lt b c=true->lt a c=true
 OC:∀ a b,P a->P b->a≠b->lt a b=true\/lt b a=true
 ir:∀ a b,P a->P b->lt a b=true->lt b a=false
def Vh{lt:α->α->Bool}{P:α->Prop}(ho:zh lt P){x:α}{l:List α}(hl:l.Pairwise λa b=>lt a b=true)(hP:∀ y∈l,P y)(hx:P x)(hn:x ∉ l):(oJ lt x l).Pairwise λa b=>lt a b=true:=by
 obtain⟨a,b⟩:=OB lt x l l.length;have hp:=B3 lt x l l.length;unfold oJ;generalize j3 lt x l l.length=p at *;have hg:∀ j,j<l.length->l.getD j default∈l:=λj hj=>aG hj;have gU:∀ j (hj:j<l.length),l[j]=l.getD j default:=λj hj=>by rw[aw,bc hj];rfl
 have mM:∀ i j,i<j->j<l.length->lt (l.getD i default) (l.getD j default)=true:=λi j h1 h2=>by
  rw[<- gU i Ay,<- gU j h2];exact sH.1 hl i j Ay h2 h1
 have OD:∀ y∈l.take p,lt y x=true:=λy hy=>by
  obtain⟨i,hi,rfl⟩:=sI hy;rw[List.length_take]at hi;rw[List.getElem_take,gU i Ay];have h1:=b Ay;have h2:l.getD (p-1) default∈l:=hg _ Ay;have h3:lt (l.getD (p-1) default) x=true:=(ho.OC _ _ (hP _ h2) hx (λe=>hn (e▸h2))).resolve_right (by rw[h1];decide);by_cases Vi:i=p-1
  ·subst Vi;exact h3
  ·exact ho.tr _ _ _ (hP _ (hg _ Ay)) (hP _ h2) hx (mM i (p-1) Ay Ay) h3
 have OE:∀ y∈l.drop p,lt x y=true:=λy hy=>by
  obtain⟨i,hi,rfl⟩:=sI hy;rw[List.length_drop]at hi;rw[List.getElem_drop,gU _ Ay];exact a _ Ay Ay
 rw[List.pairwise_append];refine⟨hl.sublist (List.take_sublist _ _),List.pairwise_cons.2 ⟨OE,hl.sublist (List.drop_sublist _ _)⟩,λy hy z hz=>?_⟩;rcases cD.1 hz with rfl|hz
 ·exact OD y hy
 ·exact ho.tr _ _ _ (hP _ (List.mem_of_mem_take hy)) hx (hP _ (List.mem_of_mem_drop hz)) (OD y hy) (OE z hz)
def Fi{lt:α->α->Bool}{P:α->Prop}(ho:zh lt P):∀ (l out:List α),out.Pairwise (λa b=>lt a b=true)->(∀ y∈out,P y)->(∀ y∈l,P y)->(out++l).Nodup->(eF lt l out).Pairwise λa b=>lt a b=true
 |[],out,h,_,_,_=>h
 |x::r,out,h,h1,h2,h3=>by
  rw[eF];have hp:(x::(out++r)).Nodup:=(List.perm_middle.nodup_iff).1 h3;rw[xQ,bj,not_or]at hp;refine Fi ho r _ (Vh ho h h1 (h2 x Dg) hp.1.1) (λy hy=>?_) (λy hy=>h2 y (by simp[hy])) ?_
  ·rcases cD.1 ((zg lt x out).mem_iff.1 hy) with rfl|hy
   ·exact h2 _ Dg
   ·exact h1 y hy
  ·refine((zg lt x out).append_right r).nodup_iff.2 ?_;rw[fR,xQ,bj,not_or];exact hp
omit [Inhabited α] in
def OF{lt:α->α->Bool}{P:α->Prop}(ho:zh lt P):∀ (a b:List α),a.Pairwise (λx y=>lt x y=true)->b.Pairwise (λx y=>lt x y=true)->(∀ x∈a,P x)->(∀ x,x∈a↔x∈b)->a=b
 |[],b,_,_,_,h=>by
  cases b with
  |nil=>rfl
  |cons y b=>have:=(h y).2 Dg;simp at this
 |x::a,[],_,_,_,h=>by have:=(h x).1 Dg;simp at this
 |x::a,y::b,ha,hb,hP,h=>by
  rw[List.pairwise_cons]at ha hb;have Fj:P y:=hP y ((h y).2 Dg);have B4:∀ z,P z->lt z z=true->False:=λz hz hh=>by have:=ho.ir z z hz hz hh;rw[hh]at this;cases this
  have fJ:x=y:=by
   rcases cD.1 ((h x).1 Dg) with e|h1
   ·exact e
   ·rcases cD.1 ((h y).2 Dg) with e|h2
    ·exact e.symm
    ·have:=ho.ir _ _ (hP x Dg) Fj (ha.1 y h2);rw[hb.1 x h1]at this;cases this
  subst fJ;congr 1;refine OF ho a b ha.2 hb.2 (λz hz=>hP z (by simp[hz])) λz=>?_;constructor
  ·intro hz;rcases cD.1 ((h z).1 (by simp[hz])) with e|h1
   ·subst e;exact(B4 _ Fj (ha.1 _ hz)).elim
   ·exact h1
  ·intro hz;rcases cD.1 ((h z).2 (by simp[hz])) with e|h1
   ·subst e;exact(B4 _ Fj (hb.1 _ hz)).elim
   ·exact h1
def Vj{lt:α->α->Bool}{P:α->Prop}(ho:zh lt P){a b:List α}(ha:a.Nodup)(hb:b.Nodup)(hP:∀ x∈a,P x)(h:∀ x,x∈a↔x∈b):eF lt a []=eF lt b []:=by
 have ma:∀ x,x∈eF lt a []↔x∈a:=λx=>(wQ lt a []).mem_iff;have mb:∀ x,x∈eF lt b []↔x∈b:=λx=>(wQ lt b []).mem_iff;exact OF ho _ _ (Fi ho a [] .nil Dg hP (by simpa using ha)) (Fi ho b [] .nil Dg (λy hy=>hP y ((h y).2 hy)) (by simpa using hb)) (λx hx=>hP x ((ma x).1 hx)) λx=>by rw[ma,mb,h]
end
def fh(m:ah)(x:Int×Int):bh:=(m.cls.getD x.1.toNat default).getD x.2.toNat default
def vg(m:ah)(left:List (List Bool))(c:Nat):List (Int×Int) :=
 ((bD (m.cls.getD c default).length).filter λi=>(left.getD c default).getD i false).map λi:Nat=>((c:Int),(i:Int))
def cZ(m:ah)(left:List (List Bool)):List (Int×Int):=(bD m.cls.length).flatMap λc=>vg m left c
def nU(w:Int):Int:=if w=2 then 1 else 0
def p7(w:Int):Int:=if w=2 then 2 else 1
def fY(m:ah)(x:Int×Int):Bool:=decide (0<=(fh m x).room/\0<(fh m x).wk)
def du(m:ah)(x:Int×Int):List Int:=[(fh m x).room,(fh m x).day,(fh m x).st,nU (fh m x).wk]
def wR(m:ah)(x y:Int×Int):Bool :=
 decide (0<=(fh m x).room/\(fh m x).room=(fh m y).room/\(fh m x).day=(fh m y).day/\(fh m x).st=(fh m y).st/\0<(fh m x).wk/\0<(fh m y).wk/\p7 (fh m x).wk=p7 (fh m y).wk)
def eu(m:ah)(X:List (Int×Int))(k:List Int):List (Int×Int):=X.filter λx=>fY m x&&decide (du m x=k)
def vh(m:ah)(l:List (Int×Int))(i:Nat):Bool:=(l.take i).all (ti m (l.getD i default))
def mO(m:ah)(l:List (Int×Int)):Bool:=(bD l.length).all (vh m l)
def gu(m:ah)(X:List (Int×Int))(x:Int×Int):List (Int×Int):=if fY m x&&mO m (eu m X (du m x)) then eu m X (du m x) else [x]
def iQ(m:ah):List (Int×Int)->List (List Int)->List (List Int)
 |[],ks=>ks
 |x::r,ks=>iQ m r (if fY m x&&!ks.contains (du m x) then ks++[du m x] else ks)
def kn(m:ah)(X:List (Int×Int))(k:List Int):List (List (Int×Int)):=if mO m (eu m X k) then [eu m X k] else(eu m X k).map λc=>[c]
def qF(m:ah)(X:List (Int×Int)):List (List (Int×Int)):=(X.filter λx=>!fY m x).map λc=>[c]
def iR(m:ah)(X:List (Int×Int)):List (List (Int×Int)):=qF m X++(iQ m X []).flatMap (kn m X)
def vj(m:ah)(X:List (Int×Int))(x:Int×Int):List (Int×Int):=X.filter λy=>decide (y=x)||wR m x y
def qG(m:ah)(X:List (Int×Int))(x:Int×Int):List (Int×Int):=if mO m (vj m X x) then vj m X x else [x]
def bM(c:List (Int×Int)):Int×Int:=c.getD 0 default
def rR(x:Int×Int):List (List (Int×Int))->Nat->Int->Int
 |[],_,at'=>at'
 |c::r,i,at'=>rR x r (i+1) (if bM c=x then i else at')
def wS(m:ah)(X:List (Int×Int))(s:List (List (Int×Int))×List (List Int))(x:Int×Int):List (List (Int×Int))×List (List Int) :=
 let y:=qG m X x
 let a:=rR (bM y) s.1 0 (-1)
 if a<0 then(s.1++[y],s.2.set x.1.toNat (s.2.getD x.1.toNat []++[(s.1.length:Int)])) else(s.1,s.2.set x.1.toNat (s.2.getD x.1.toNat []++[a]))
def mP(m:ah)(X:List (Int×Int)):List (Int×Int)->List (List (Int×Int))×List (List Int)->List (List (Int×Int))×List (List Int)
 |[],s=>s
 |x::r,s=>mP m X r (wS m X s x)
structure CX(X:List (Int×Int))(cx:Int×Int->List (Int×Int)):Prop where
 self:∀ x∈X,x∈cx x
 sub:∀ x∈X,∀ y∈cx x,y∈X/\cx y=cx x
structure oK(X:List (Int×Int))(cx:Int×Int->List (Int×Int))(A:List (List (Int×Int))):Prop where
 nd:A.Nodup
 mem:∀ C,C∈A↔∃ x∈X,C=cx x
def l9{m:ah}{X:List (Int×Int)}{k:List Int}{x:Int×Int}:x∈eu m X k↔x∈X/\fY m x=true/\du m x=k:=by
 unfold eu;rw[jH,bd,decide_eq_true_eq]
def tj(m:ah)(X:List (Int×Int)):CX X (gu m X):=by
 refine⟨λx hx=>?_,λx hx y hy=>?_⟩
 ·unfold gu;split
  ·rename_i h;rw[bd]at h;exact l9.2 ⟨hx,h.1,rfl⟩
  ·simp
 ·unfold gu at hy;split at hy
  ·rename_i h;obtain⟨h1,h2,h3⟩:=l9.1 hy;refine⟨h1,?_⟩;unfold gu;rw[h2,h3];rw[bd]at h;rw[h.1,h.2];rfl
  ·rw[bm]at hy;subst hy;exact⟨hx,rfl⟩
def wT{m:ah}:∀ (X:List (Int×Int)) (ks:List (List Int)) (k:List Int),k∈iQ m X ks↔k∈ks\/∃ x∈X,fY m x=true/\du m x=k
 |[],ks,k=>by simp[iQ]
 |x::r,ks,k=>by
  rw[iQ,wT r];constructor
  ·rintro(h|⟨y,h1,h2⟩)
   ·split at h
    ·rename_i hc;rw[bd]at hc;rcases bj.1 h with h|h
     ·exact .inl h
     ·rw[bm]at h;exact .inr ⟨x,Dg,hc.1,h.symm⟩
    ·exact .inl h
   ·exact .inr ⟨y,by simp[h1],h2⟩
  ·rintro(h|⟨y,h1,h2,h3⟩)
   ·left;split
    ·exact List.mem_append_left _ h
    ·exact h
   ·rcases cD.1 h1 with rfl|h1
    ·left;by_cases hc:du m y∈ks
     ·rw[h3]at hc;split
      ·exact List.mem_append_left _ hc
      ·exact hc
     ·have:(fY m y&&!ks.contains (du m y))=true:=by
       rw[h2,iD,g7,<- xU,ml];exact hc
      rw[if_pos this,<- h3];simp
    ·exact .inr ⟨y,h1,h2,h3⟩
def OG{m:ah}:∀ (X:List (Int×Int)) (ks:List (List Int)),ks.Nodup->(iQ m X ks).Nodup
 |[],ks,h=>h
 |x::r,ks,h=>by
  rw[iQ];refine OG r _ ?_;split
  ·rename_i hc;rw[bd,g7,<- xU,ml]at hc;rw[uk];exact⟨h,Dg,λa ha b hb e=>by rw[bm]at hb;subst hb;subst e;exact hc.2 ha⟩
  ·exact h
def zi{m:ah}{X:List (Int×Int)}{k:List Int}{c:Int×Int}(hc:c∈eu m X k):gu m X c=if mO m (eu m X k)=true then eu m X k else [c]:=by
 obtain⟨h1,h2,h3⟩:=l9.1 hc;unfold gu;rw[h2,h3,iD]
def OH(m:ah){X:List (Int×Int)}(hX:X.Nodup):oK X (gu m X) (iR m X):=by
 have hk:∀ k,k∈iQ m X []↔∃ x∈X,fY m x=true/\du m x=k:=λk=>by rw[wT];simp
 have kJ:∀ x,fY m x=false->gu m X x=[x]:=λx h=>by unfold gu;rw[h];rfl
 have nv:∀ k C,C∈kn m X k↔(∃ x∈eu m X k,C=gu m X x)\/(C=[]/\eu m X k=[] ):=λk C=>by
  unfold kn;split
  ·rename_i h;rw[bm];constructor
   ·rintro rfl;cases hg:eu m X k with
    |nil=>exact .inr ⟨rfl,rfl⟩
    |cons c r =>
     have hc:c∈eu m X k:=by rw[hg];simp
     exact .inl ⟨c,Dg,by rw[zi hc,if_pos h,hg]⟩
   ·rintro(⟨x,h1,h2⟩|⟨h1,h2⟩)
    ·rw[h2,zi h1,if_pos h]
    ·rw[h1,h2]
  ·rename_i h;rw[cN];constructor
   ·rintro⟨c,hc,rfl⟩;exact .inl ⟨c,hc,by rw[zi hc,if_neg h]⟩
   ·rintro(⟨x,h1,h2⟩|⟨h1,h2⟩)
    ·exact⟨x,h1,by rw[h2,zi h1,if_neg h]⟩
    ·rw[h2]at h;exact absurd rfl h
 have bI:∀ k∈iQ m X [],∃ x,x∈eu m X k:=λk h=>by
  obtain⟨x,h1,h2,h3⟩:=(hk k).1 h;exact⟨x,l9.2 ⟨h1,h2,h3⟩⟩
 refine⟨?_,λC=>?_⟩
 ·unfold iR qF;rw[uk];refine⟨?_,?_,?_⟩
  ·rw[nR,List.pairwise_map];exact((nR.1 hX).filter _).imp λh e=>h (by simpa using e)
  ·rw[nR,List.pairwise_flatMap];refine⟨λk _=>?_,(nR.1 (OG X [] .nil)).imp_of_mem λ{k k'} h1 h2 Fk C hC D hD e=>?_⟩
   ·unfold kn;split
    ·simp
    ·rw[List.pairwise_map];exact((nR.1 hX).filter _).imp λh e=>h (by simpa using e)
   ·subst e;rcases(nv k C).1 hC with⟨x,g1,g2⟩|⟨_,g2⟩
    ·rcases(nv k' C).1 hD with⟨y,g3,g4⟩|⟨_,g4⟩
     ·have hx:=(l9.1 g1);have hy:=(l9.1 g3);have zj:x∈C:=by rw[g2];exact(tj m X).self x hx.1
      have Vk:x∈eu m X k':=by
       rw[g4,zi g3]at zj;split at zj
       ·exact zj
       ·rw[bm]at zj;subst zj;exact g3
      exact Fk (hx.2.2.symm.trans (l9.1 Vk).2.2)
     ·obtain⟨z,hz⟩:=bI k' h2;rw[g4]at hz;simp at hz
    ·obtain⟨z,hz⟩:=bI k h1;rw[g2]at hz;simp at hz
  ·intro C hC D hD e;subst e;rw[cN]at hC;obtain⟨c,hc,rfl⟩:=hC;rw[jH,g7]at hc;rw[Dt]at hD;obtain⟨k,h1,h2⟩:=hD;rcases(nv k [c]).1 h2 with⟨x,g1,g2⟩|⟨g1,_⟩
   ·have hx:=l9.1 g1;have oh:x∈[c]:=by rw[g2];exact(tj m X).self x hx.1
    rw[bm]at oh;subst oh;rw[hx.2.1]at hc;exact absurd hc.2 Ha
   ·cases g1
 ·unfold iR qF;rw[bj,cN,Dt];constructor
  ·rintro(⟨c,hc,rfl⟩|⟨k,h1,h2⟩)
   ·rw[jH,g7]at hc;exact⟨c,hc.1,(kJ c hc.2).symm⟩
   ·rcases(nv k C).1 h2 with⟨x,g1,g2⟩|⟨_,g2⟩
    ·exact⟨x,(l9.1 g1).1,g2⟩
    ·obtain⟨z,hz⟩:=bI k h1;rw[g2]at hz;simp at hz
  ·rintro⟨x,hx,rfl⟩;cases hb:fY m x with
   |false=>exact .inl ⟨x,by rw[jH,g7];exact⟨hx,hb⟩,(kJ x hb).symm⟩
   |true=>exact .inr ⟨du m x,(hk _).2 ⟨x,hx,hb,rfl⟩,(nv _ _).2 (.inl ⟨x,l9.2 ⟨hx,hb,rfl⟩,rfl⟩)⟩
def WK(m:ah):Prop:=∀ x,(fh m x).wk<=3
def OI{α:Type}[DecidableEq α]:∀ {X:List α},X.Nodup->∀ {x:α},x∈X->(X.filter λy=>decide (y=x))=[x]
 |[],_,x,h=>by simp at h
 |a::X,hn,x,h=>by
  rw[xQ]at hn;rw[List.filter_cons];rcases cD.1 h with e|h
  ·subst e;rw[if_pos Dg];congr 1;rw[List.filter_eq_nil_iff];intro y hy;simp only[decide_eq_true_eq];intro e;subst e;exact hn.1 hy
  ·rw[if_neg (by simp only[decide_eq_true_eq];intro e;subst e;exact hn.1 h)];exact OI hn.2 h
def OJ{a b:Int}(ha:0<a/\a<=3)(hb:0<b/\b<=3):p7 a=p7 b↔nU a=nU b:=by
 unfold p7 nU;split<;>split<;>simp
def OK{m:ah}(hw:WK m){x y:Int×Int}:wR m x y=true↔fY m x=true/\fY m y=true/\du m y=du m x:=by
 unfold wR fY du;rw[decide_eq_true_eq,decide_eq_true_eq,decide_eq_true_eq];have h1:=hw x;have h2:=hw y;generalize fh m x=a at *;generalize fh m y=b at *;constructor
 ·rintro⟨c1,c2,c3,c4,c5,c6,c7⟩;refine⟨⟨c1,c5⟩,⟨Ay,c6⟩,?_⟩;rw[c2,c3,c4,(OJ ⟨c5,h1⟩ ⟨c6,h2⟩).1 c7]
 ·rintro⟨⟨c1,c2⟩,⟨c3,c4⟩,c5⟩;simp only[List.cons.injEq,and_true]at c5;obtain⟨d1,d2,d3,d4⟩:=c5;exact⟨c1,d1.symm,d2.symm,d3.symm,c2,c4,(OJ ⟨c2,h1⟩ ⟨c4,h2⟩).2 d4.symm⟩
def OL{m:ah}(hw:WK m){X:List (Int×Int)}(hX:X.Nodup){x:Int×Int}(hx:x∈X):qG m X x=gu m X x:=by
 unfold qG gu;cases hb:fY m x with
 |true =>
  have:vj m X x=eu m X (du m x):=by
   unfold vj eu;refine List.filter_congr λy hy=>?_;rw[Bool.eq_iff_iff,Bool.or_eq_true,decide_eq_true_eq,OK hw,bd,decide_eq_true_eq];constructor
   ·rintro(rfl|⟨_,h1,h2⟩)
    ·exact⟨hb,rfl⟩
    ·exact⟨h1,h2⟩
   ·rintro⟨h1,h2⟩;exact .inr ⟨hb,h1,h2⟩
  rw[this,iD]
 |false =>
  have:vj m X x=[x]:=by
   unfold vj;rw[<- OI hX hx];refine List.filter_congr λy hy=>?_;have:wR m x y=false:=by
    rw[<- xU];intro h;rw[((OK hw).1 h).1]at hb;cases hb
   rw[this,Bool.or_false]
  rw[this,Bool.false_and];simp
def vl{C:List (Int×Int)}(h:C≠[]):bM C∈C:=by
 cases C with
 |nil=>exact absurd rfl h
 |cons a r=>simp[bM]
section
variable {X:List (Int×Int)} {cx:Int×Int->List (Int×Int)}
def CX.ne(h:CX X cx){x:Int×Int}(hx:x∈X):cx x≠[]:=λe=>by have:=h.self x hx;rw[e]at this;simp at this
def CX.hd(h:CX X cx){x y:Int×Int}(hx:x∈X)(hy:y∈X)(e:bM (cx x)=bM (cx y)):cx x=cx y:=by
 have h1:=(h.sub x hx _ (vl (h.ne hx))).2;have h2:=(h.sub y hy _ (vl (h.ne hy))).2;rw[<- h1,e,h2]
def CX.meet(h:CX X cx){x y z:Int×Int}(hx:x∈X)(hy:y∈X)(h1:z∈cx x)(h2:z∈cx y):cx x=cx y:=by
 rw[<- (h.sub x hx z h1).2,(h.sub y hy z h2).2]
def ON(x:Int×Int):∀ (cs:List (List (Int×Int))) (i:Nat) (a:Int),(rR x cs i a=a/\∀ c∈cs,bM c≠x)\/∃ k,k<cs.length/\rR x cs i a=((i+k:Nat):Int)/\bM (cs.getD k default)=x
 |[],i,a=>.inl ⟨rfl,Dg⟩
 |c::r,i,a=>by
  rw[rR];rcases ON x r (i+1) (if bM c=x then(i:Int) else a) with⟨h1,h2⟩|⟨k,h1,h2,h3⟩
  ·by_cases hc:bM c=x
   ·rw[if_pos hc]at h1 ⊢;exact .inr ⟨0,Dg,by rw[h1];simp,by simpa using hc⟩
   ·rw[if_neg hc]at h1 ⊢;refine .inl ⟨h1,λd hd=>?_⟩;rcases cD.1 hd with rfl|hd
    ·exact hc
    ·exact h2 d hd
  ·exact .inr ⟨k+1,by rw[List.length_cons];omega,by rw[h2];congr 1;omega,by simpa using h3⟩
end
structure kO(n:Nat)(A:List (List (Int×Int)))(L:List (List Int)):Prop where
 len:L.length=n
 mem:∀ c,c<n->∀ k:Nat,(k:Int)∈L.getD c []↔k<A.length/\∃ y∈A.getD k [],y.1=(c:Int)
 g6:∀ l∈L,∀ x∈l,0<=x
def zk{α:Type}(l:List α)(i j:Nat)(v d:α):(l.set i v).getD j d=if j=i/\i<l.length then v else l.getD j d:=by
 simp only[aw,List.getElem?_set];by_cases h:j=i
 ·subst h;by_cases h2:j<l.length
  ·simp[h2]
  ·simp[h2]
 ·rw[if_neg (λe=>h e.symm),if_neg (λe=>h e.1)]
structure tn(X:List (Int×Int))(cx:Int×Int->List (Int×Int))(n:Nat)(D:List (Int×Int))(s:List (List (Int×Int))×List (List Int)):Prop where
 nd:s.1.Nodup
 mem:∀ C,C∈s.1↔∃ x∈D,C=cx x
 len:s.2.length=n
 wU:∀ c,c<n->∀ k:Nat,(k:Int)∈s.2.getD c []↔k<s.1.length/\∃ x∈D,x.1=(c:Int)/\s.1.getD k []=cx x
 g6:∀ c,∀ x∈s.2.getD c [],0<=x
 tp:∀ c,(s.2.getD c []).length<=D.length
def tn.step{m:ah}{X:List (Int×Int)}(hX:X.Nodup)(hw:WK m){n:Nat}(hn:∀ x∈X,0<=x.1/\x.1<n){D:List (Int×Int)}{s:List (List (Int×Int))×List (List Int)}(h:tn X (gu m X) n D s)(hD:∀ x∈D,x∈X){x:Int×Int}(hx:x∈X):
  tn X (gu m X) n (D++[x]) (wS m X s x):=by
 have dQ:=tj m X;unfold wS;rw[OL hw hX hx];dsimp only;have B5:=hn x hx;obtain⟨cs,ls⟩:=s;have hl:=h.len;have eh:=h.mem;have cR:=h.nd;have ik:=h.wU;have Fl:=h.g6;have Fm:=h.tp;dsimp only at hl eh cR ik Fl Fm ⊢;have gD:∀ (v:List Int) (c:Nat),c<n->(ls.set x.1.toNat v).getD c []=if(c:Int)=x.1 then v else ls.getD c []:=λv c hc=>by
  rw[zk];by_cases e:(c:Int)=x.1
  ·rw[if_pos e,if_pos ⟨Ay,Ay⟩]
  ·rw[if_neg e,if_neg (λh=>e Ay)]
 have hr:∀ v:List Int,(∀ y∈v,0<=y)->∀ c,∀ y∈(ls.set x.1.toNat v).getD c [],0<=y:=λv hv c y hy=>by
  rw[zk]at hy;split at hy
  ·exact hv y hy
  ·exact Fl c y hy
 have hz:∀ v:List Int,v.length<=D.length+1->∀ c,((ls.set x.1.toNat v).getD c []).length<=(D++[x]).length:=λv hv c=>by
  rw[zk,aJ,nO];split
  ·exact hv
  ·have:=Fm c;omega
 have hold:=Fl x.1.toNat;have holds:=Fm x.1.toNat;rcases ON (bM (gu m X x)) cs 0 (-1) with⟨h1,h2⟩|⟨k,h1,h2,h3⟩
 ·rw[h1,if_pos Ha];have kK:gu m X x ∉ cs:=λhc=>h2 _ hc rfl;refine⟨?_,λC=>?_,by rw[bt];exact hl,λc hc j=>?_,hr _ (λy hy=>?_),hz _ (by rw[aJ,nO];omega)⟩
  ·rw[uk];exact⟨cR,Dg,λa ha b hb e=>by rw[bm]at hb;subst hb;subst e;exact kK ha⟩
  ·rw[bj,eh,bm];constructor
   ·rintro(⟨y,h1,h2⟩|h)
    ·exact⟨y,by simp[h1],h2⟩
    ·exact⟨x,Dg,h⟩
   ·rintro⟨y,h1,h2⟩;rcases bj.1 h1 with h1|h1
    ·exact .inl ⟨y,h1,h2⟩
    ·rw[bm]at h1;rw[h1]at h2;exact .inr h2
  ·rw[gD _ c hc,aJ,nO];have pw:j<cs.length->(cs++[gu m X x]).getD j []=cs.getD j []:=λhj=>by
    rw[aw,cr hj,<- aw]
   have mo:(cs++[gu m X x]).getD cs.length []=gu m X x:=by
    rw[aw,dS (aM _)];simp
   have eO:∀ j,j<cs.length->cs.getD j []≠gu m X x:=λj hj e=>kK (e▸aG hj);by_cases e:(c:Int)=x.1
   ·rw[if_pos e,bj,bm,show x.1.toNat=c by omega,ik c hc];constructor
    ·rintro(⟨h1,y,h2,h3,h4⟩|h1)
     ·exact⟨Ay,y,by simp[h2],h3,by rw[pw h1];exact h4⟩
     ·exact⟨Ay,x,Dg,e.symm,by rw[show j=cs.length by omega];exact mo⟩
    ·rintro⟨h1,y,h2,h3,h4⟩;by_cases hj:j<cs.length
     ·rw[pw hj]at h4;rcases bj.1 h2 with h2|h2
      ·exact .inl ⟨hj,y,h2,h3,h4⟩
      ·rw[bm]at h2;rw[h2]at h4;exact absurd h4 (eO j hj)
     ·exact .inr Ay
   ·rw[if_neg e,ik c hc];constructor
    ·rintro⟨h1,y,h2,h3,h4⟩;exact⟨Ay,y,by simp[h2],h3,by rw[pw h1];exact h4⟩
    ·rintro⟨h1,y,h2,h3,h4⟩;rcases bj.1 h2 with h2|h2
     ·by_cases hj:j<cs.length
      ·exact⟨hj,y,h2,h3,by rw[<- pw hj];exact h4⟩
      ·rw[show j=cs.length by omega,mo]at h4;exact absurd ((eh _).2 ⟨y,h2,h4⟩) kK
     ·rw[bm]at h2;rw[h2]at h3;exact absurd h3.symm e
  ·rcases bj.1 hy with hy|hy
   ·exact hold y hy
   ·rw[bm]at hy;omega
 ·rw[h2,Nat.zero_add,if_neg Ay];obtain⟨y,hy,Fo⟩:=(eh _).1 (aG (l:=cs) (i:=k) (d:=default) h1);have wV:cs.getD k default=gu m X x:=by
   rw[Fo];rw[Fo]at h3;exact dQ.hd (hD y hy) hx h3
  have zl:cs.getD k []=gu m X x:=wV;refine⟨cR,λC=>?_,by rw[bt];exact hl,λc hc j=>?_,hr _ (λy hy=>?_),hz _ (by rw[aJ,nO];omega)⟩
  ·rw[eh];constructor
   ·rintro⟨y,h1,h2⟩;exact⟨y,by simp[h1],h2⟩
   ·rintro⟨y,h1,h2⟩;rcases bj.1 h1 with h1|h1
    ·exact⟨y,h1,h2⟩
    ·rw[bm]at h1;exact⟨_,hy,by rw[h2,h1,<- wV,Fo]⟩
  ·rw[gD _ c hc];by_cases e:(c:Int)=x.1
   ·rw[if_pos e,bj,bm,show x.1.toNat=c by omega,ik c hc];constructor
    ·rintro(⟨h1,y,h2,h3,h4⟩|h4)
     ·exact⟨h1,y,by simp[h2],h3,h4⟩
     ·have:j=k:=Ay;subst this;exact⟨h1,x,Dg,e.symm,zl⟩
    ·rintro⟨h1,y,h2,h3,h4⟩;rcases bj.1 h2 with h2|h2
     ·exact .inl ⟨h1,y,h2,h3,h4⟩
     ·rw[bm]at h2;rw[h2]at h4;right;have mr:j=k:=by
       rcases Hp j k with h|h|h
       ·exact absurd (by
         have a:=sH.1 (nR.1 cR) j k Ay Ay h;rw[aw,bc Ay]at h4 zl;exact a (by simpa using h4.trans zl.symm)) id
       ·exact h
       ·exact absurd (by
         have a:=sH.1 (nR.1 cR) k j Ay Ay h;rw[aw,bc Ay]at h4 zl;exact a (by simpa using zl.trans h4.symm)) id
      omega
   ·rw[if_neg e,ik c hc];constructor
    ·rintro⟨h1,y,h2,h3,h4⟩;exact⟨h1,y,by simp[h2],h3,h4⟩
    ·rintro⟨h1,y,h2,h3,h4⟩;rcases bj.1 h2 with h2|h2
     ·exact⟨h1,y,h2,h3,h4⟩
     ·rw[bm]at h2;rw[h2]at h3;exact absurd h3.symm e
  ·rcases bj.1 hy with hy|hy
   ·exact hold y hy
   ·rw[bm]at hy;omega
def tn.all{m:ah}{X:List (Int×Int)}(hX:X.Nodup)(hw:WK m){n:Nat}(hn:∀ x∈X,0<=x.1/\x.1<n):∀ (r D:List (Int×Int)) (s:List (List (Int×Int))×List (List Int)),tn X (gu m X) n D s->(∀ x∈D,x∈X)->(∀ x∈r,x∈X)->tn X (gu m X) n (D++r) (mP m X r s)
 |[],D,s,h,_,_=>by rw[fF];exact h
 |x::r,D,s,h,h1,h2=>by
  rw[mP,show D++x::r=D++[x]++r by simp];refine tn.all hX hw hn r _ _ (h.step hX hw hn h1 (h2 x Dg)) (λy hy=>?_) (λy hy=>h2 y (by simp[hy]));rcases bj.1 hy with hy|hy
  ·exact h1 y hy
  ·rw[bm]at hy;subst hy;exact h2 _ Dg
def tq(m:ah)(X:List (Int×Int)):List (List (Int×Int))×List (List Int):=mP m X X ([],ax m.cls.length [])
def OO{m:ah}{X:List (Int×Int)}(hX:X.Nodup)(hw:WK m)(hn:∀ x∈X,0<=x.1/\x.1<m.cls.length):
  oK X (gu m X) (tq m X).1/\kO m.cls.length (tq m X).1 (tq m X).2/\∀ c,((tq m X).2.getD c []).length<=X.length:=by
 have hg:∀ c,(ax m.cls.length ([]:List Int)).getD c []=[]:=λc=>rL _ _ _;have h:=tn.all hX hw hn X [] ([],ax m.cls.length []) ⟨.nil,Dg,Dg,λc hc k=>by dsimp only;rw[hg];simp,λc=>by dsimp only;rw[hg];simp,λc=>by dsimp only;rw[hg];simp⟩ Dg (λx h=>h);rw[dT]at h;have dQ:=tj m X;refine⟨⟨h.nd,h.mem⟩,⟨h.len,λc hc k=>?_,λl hl x hx=>?_⟩,h.tp⟩
 ·show(k:Int)∈(mP m X X _).2.getD c []↔_;rw[h.wU c hc];constructor
  ·rintro⟨h1,x,h2,h3,h4⟩;exact⟨h1,x,by show x∈(mP m X X _).1.getD k [];rw[h4];exact dQ.self x h2,h3⟩
  ·rintro⟨h1,y,h2,h3⟩;obtain⟨x,h4,h5⟩:=(h.mem _).1 (aG (d:=[]) h1);have Oy:y∈gu m X x:=by rw[<- h5];exact h2
   obtain⟨h6,h7⟩:=dQ.sub x h4 y Oy;exact⟨h1,y,h6,h3,by rw[h7];exact h5⟩
 ·obtain⟨c,hc,rfl⟩:=sI hl;refine h.g6 c x ?_;rw[aw];show x∈((tq m X).2[c]?).getD [];rw[bc hc];exact hx
def zm(n:Nat)(ls:List (List Int))(c:Int×Int):List (List Int) :=
 if 0<(ls.getD c.1.toNat []).length/\(ls.getD c.1.toNat []).getD ((ls.getD c.1.toNat []).length-1) 0=(n:Int) then ls else ls.set c.1.toNat (ls.getD c.1.toNat []++[(n:Int)])
def tu(n:Nat):List (Int×Int)->List (List Int)->List (List Int)
 |[],ls=>ls
 |c::r,ls=>tu n r (zm n ls c)
def mc:List (List (Int×Int))->Nat->List (List Int)->List (List Int)
 |[],_,ls=>ls
 |C::r,n,ls=>mc r (n+1) (tu n C ls)
structure HI(N:Nat)(A:List (List (Int×Int)))(D:List (Int×Int))(ls:List (List Int)):Prop where
 len:ls.length=N
 mem:∀ c,c<N->∀ k:Nat,(k:Int)∈ls.getD c []↔(k<A.length/\∃ y∈A.getD k [],y.1=(c:Int))\/(k=A.length/\∃ y∈D,y.1=(c:Int))
 g6:∀ c,∀ x∈ls.getD c [],0<=x/\x<=A.length
 wU:∀ c,(A.length:Int)∈ls.getD c []->(ls.getD c []).getD ((ls.getD c []).length-1) 0=A.length
 tp:∀ c,(ls.getD c []).length<=A.length+1/\((A.length:Int) ∉ ls.getD c []->(ls.getD c []).length<=A.length)
def HI.step{N:Nat}{A:List (List (Int×Int))}{D:List (Int×Int)}{ls:List (List Int)}(h:HI N A D ls){y:Int×Int}(hy:0<=y.1/\y.1<N):HI N A (D++[y]) (zm A.length ls y):=by
 have B6:y.1.toNat<ls.length:=by rw[h.len];omega
 unfold zm;split
 ·rename_i hc;refine⟨h.len,λc zn k=>?_,h.g6,h.wU,h.tp⟩;rw[h.mem c zn];constructor
  ·rintro(h1|⟨h1,z,h2,h3⟩)
   ·exact .inl h1
   ·exact .inr ⟨h1,z,by simp[h2],h3⟩
  ·rintro(h1|⟨h1,z,h2,h3⟩)
   ·exact .inl h1
   ·rcases bj.1 h2 with h2|h2
    ·exact .inr ⟨h1,z,h2,h3⟩
    ·rw[bm]at h2;rw[h2]at h3;refine(h.mem c zn k).1 ?_;rw[show c=y.1.toNat by omega,h1,<- hc.2];exact aG Ay
 ·rename_i hc;have hn:(A.length:Int) ∉ ls.getD y.1.toNat []:=λhm=>hc ⟨List.length_pos_of_mem hm,h.wU _ hm⟩;have hg:∀ c,(ls.set y.1.toNat (ls.getD y.1.toNat []++[(A.length:Int)])).getD c []=if c=y.1.toNat then ls.getD y.1.toNat []++[(A.length:Int)] else ls.getD c []:=λc=>by
   rw[zk];by_cases e:c=y.1.toNat
   ·rw[if_pos ⟨e,B6⟩,if_pos e]
   ·rw[if_neg (λh=>e h.1),if_neg e]
  refine⟨by rw[bt];exact h.len,λc zn k=>?_,λc x hx=>?_,λc hm=>?_,λc=>?_⟩
  ·rw[hg];by_cases e:c=y.1.toNat
   ·rw[if_pos e,bj,bm,<- e,h.mem c zn];constructor
    ·rintro((h1|⟨h1,z,h2,h3⟩)|h1)
     ·exact .inl h1
     ·exact .inr ⟨h1,z,by simp[h2],h3⟩
     ·exact .inr ⟨Ay,y,Dg,Ay⟩
    ·rintro(h1|⟨h1,z,h2,h3⟩)
     ·exact .inl (.inl h1)
     ·exact .inr Ay
   ·rw[if_neg e,h.mem c zn];constructor
    ·rintro(h1|⟨h1,z,h2,h3⟩)
     ·exact .inl h1
     ·exact .inr ⟨h1,z,by simp[h2],h3⟩
    ·rintro(h1|⟨h1,z,h2,h3⟩)
     ·exact .inl h1
     ·rcases bj.1 h2 with h2|h2
      ·exact .inr ⟨h1,z,h2,h3⟩
      ·rw[bm]at h2;rw[h2]at h3;omega
  ·rw[hg]at hx;split at hx
   ·rcases bj.1 hx with hx|hx
    ·exact h.g6 _ x hx
    ·rw[bm]at hx;omega
   ·exact h.g6 _ x hx
  ·rw[hg]at hm ⊢;split
   ·rw[aw,dS Dg,aJ,nO];simp
   ·rename_i e;rw[if_neg e]at hm;exact h.wU c hm
  ·rw[hg];split
   ·have:=(h.tp y.1.toNat).2 hn;rw[aJ,nO];exact⟨Ay,λhh=>absurd Dg hh⟩
   ·exact h.tp c
def HI.row{N:Nat}{A:List (List (Int×Int))}:∀ (C D:List (Int×Int)) (ls:List (List Int)),HI N A D ls->(∀ y∈C,0<=y.1/\y.1<N)->HI N A (D++C) (tu A.length C ls)
 |[],D,ls,h,_=>by rw[fF];exact h
 |y::r,D,ls,h,hC=>by
  rw[tu,show D++y::r=D++[y]++r by simp];exact HI.row r _ _ (h.step (hC y Dg)) λz hz=>hC z (by simp[hz])
def HI.next{N:Nat}{A:List (List (Int×Int))}{C:List (Int×Int)}{ls:List (List Int)}(h:HI N A C ls):HI N (A++[C]) [] ls:=by
 have hl:(A++[C]).length=A.length+1:=Dg;have h1:∀ k,k<A.length->(A++[C]).getD k []=A.getD k []:=λk hk=>by
  rw[aw,cr hk,<- aw]
 have h2:(A++[C]).getD A.length []=C:=by
  rw[aw,dS (aM _)];simp
 refine⟨h.len,λc hc k=>?_,λc x hx=>?_,λc hm=>?_,λc=>?_⟩
 ·rw[h.mem c hc,hl];constructor
  ·rintro(⟨a,b⟩|⟨a,b⟩)
   ·exact .inl ⟨Ay,by rw[h1 k a];exact b⟩
   ·exact .inl ⟨Ay,by rw[a,h2];exact b⟩
  ·rintro(⟨a,b⟩|⟨a,b⟩)
   ·by_cases hk:k<A.length
    ·rw[h1 k hk]at b;exact .inl ⟨hk,b⟩
    ·rw[show k=A.length by omega,h2]at b;exact .inr ⟨Ay,b⟩
   ·obtain⟨y,hy,_⟩:=b;simp at hy
 ·have:=h.g6 c x hx;omega
 ·have:=h.g6 c _ hm;omega
 ·have:=(h.tp c).1;exact⟨Ay,λ_=>Ay⟩
def HI.all{N:Nat}:∀ (R A:List (List (Int×Int))) (ls:List (List Int)),HI N A [] ls->(∀ C∈R,∀ y∈C,0<=y.1/\y.1<N)->HI N (A++R) [] (mc R A.length ls)
 |[],A,ls,h,_=>by rw[fF];exact h
 |C::r,A,ls,h,hR=>by
  have h1:=(HI.row C [] ls h (hR C Dg)).next;rw[dT]at h1;have h2:=HI.all r (A++[C]) _ h1 λD hD=>hR D (by simp[hD]);rw[bN]at h2;rw[mc];rw[aJ]at h2;exact h2
def OP{N:Nat}{A:List (List (Int×Int))}(hA:∀ C∈A,∀ y∈C,0<=y.1/\y.1<N):kO N A (mc A 0 (ax N []))/\∀ c,((mc A 0 (ax N [])).getD c []).length<=A.length+1:=by
 have hg:∀ c,(ax N ([]:List Int)).getD c []=[]:=λc=>rL _ _ _;have h:=HI.all A [] (ax N []) ⟨Dg,λc hc k=>by rw[hg];simp,λc=>by rw[hg];simp,λc=>by rw[hg];simp,λc=>by rw[hg];simp⟩ hA;rw[dT]at h;refine⟨⟨h.len,λc hc k=>?_,λl hl x hx=>?_⟩,λc=>(h.tp c).1⟩
 ·rw[show mc A 0 (ax N [])=mc A ([]:List (List (Int×Int))).length (ax N []) from rfl,h.mem c hc];constructor
  ·rintro(h1|⟨_,y,hy,_⟩)
   ·exact h1
   ·simp at hy
  ·exact .inl
 ·obtain⟨c,hc,rfl⟩:=sI hl;refine(h.g6 c x ?_).1;rw[aw];show x∈((mc A 0 (ax N []))[c]?).getD [];rw[bc hc];exact hx
def eG(G:List Int)(c:Int×Int):Bool:=G.contains c.1
def dR(a b:List (Int×Int)):Bool:=decide ((bM a).1<(bM b).1\/((bM a).1=(bM b).1/\(bM a).2<(bM b).2))
def ll(A:List (List (Int×Int)))(D:List Int×List Int):List (List (Int×Int)):=D.2.map λn=>(A.getD n.toNat []).filter (eG D.1)
def rS(A:List (List (Int×Int)))(L:List (List Int)):List Int×List (List (Int×Int))×Bool :=
 if(jb L A.length).1=[] then([],[],false) else((jb L A.length).1,eF dR (ll A ((jb L A.length).1,(jb L A.length).2.1)) [],true)
def OQ{r:Int}:∀ {l:List Int},(∀ x∈l,0<=x/\x<r)->iO r l=0
 |[],_=>rfl
 |n::l,h=>by
  have:=h n Dg;rw[iO,if_neg Ay];exact OQ λx hx=>h x (by simp[hx])
def OR{r:Int}:∀ {left:List (List Int)},(∀ l∈left,l.length<=4096/\∀ x∈l,0<=x/\x<r)->iP r left=0
 |[],_=>rfl
 |l::left,h=>by
  have:=h l Dg;rw[iP,if_neg Ay,if_neg (by rw[OQ this.2];decide)];exact OR λx hx=>h x (by simp[hx])
section
variable {X:List (Int×Int)} {cx:Int×Int->List (Int×Int)} {N:Nat} {A B:List (List (Int×Int))} {L L':List (List Int)}
def kO.Vl(h:kO N A L){l:List Int}(hl:l∈L):∀ x∈l,0<=x/\x<A.length:=λx hx=>by
 have h0:=h.g6 l hl x hx;obtain⟨c,hc,rfl⟩:=sI hl;have:((x.toNat:Nat):Int)∈L.getD c []:=by
  rw[oR h0,aw,bc hc];exact hx
 have:=((h.mem c (by rw[<- h.len];exact hc) _).1 this).1;omega
def kO.check(h:kO N A L)(hN:N<=256)(hA:A.length<=4095)(hs:∀ c,(L.getD c []).length<=4096):T.check L A.length=0:=by
 unfold T.check;rw[if_neg (by rw[h.len];omega),if_neg Ay];refine OR λl hl=>⟨?_,h.Vl hl⟩;obtain⟨c,hc,rfl⟩:=sI hl;have:=hs c;rw[aw,bc hc]at this;exact this
def kO.left(h:kO N A L)(hN:N<=256)(hA:A.length<=4095)(hs:∀ c,(L.getD c []).length<=4096):eP A.length L:=by
 have:=(yY (h.check hN hA hs)).1;rwa [dz]at this
def kO.jb(h:kO N A L)(hN:N<=256)(hA:A.length<=4095)(hs:∀ c,(L.getD c []).length<=4096):T.jb L A.length=((ca L A.length).1,(ca L A.length).2,0):=by
 unfold T.jb;rw[if_neg (by rw[h.check hN hA hs];decide),dz]
def oK.aU(hA:oK X cx A)(hB:oK X cx B)(h:kO N A L)(h':kO N B L'):zf L L' B.length (λk=>B.idxOf (A.getD k [])):=by
 have eO:∀ k,k<A.length->A.getD k []∈B:=λk hk=>(hB.mem _).2 ((hA.mem _).1 (aG hk));have vn:∀ k,k<A.length->B.idxOf (A.getD k [])<B.length/\B.getD (B.idxOf (A.getD k [])) []=A.getD k []:=λk hk=>by
  have bw:=List.idxOf_lt_length_of_mem (eO k hk);refine⟨bw,?_⟩;rw[aw,bc bw];exact List.getElem_idxOf bw
 refine⟨by rw[h.len,h'.len],λi hi x hx=>?_,λi j hi hj x y hx hy e=>?_⟩
 ·rw[h.len]at hi;obtain⟨h1,y,h2,h3⟩:=(h.mem i hi x).1 hx;obtain⟨h4,h5⟩:=vn x h1;exact⟨h4,(h'.mem i hi _).2 ⟨h4,y,by rw[h5];exact h2,h3⟩⟩
 ·rw[h.len]at hi hj;have h1:=((h.mem i hi x).1 hx).1;have h2:=((h.mem j hj y).1 hy).1;have e2:A.getD x []=A.getD y []:=by rw[<- (vn x h1).2,<- (vn y h2).2];exact congrArg (λk=>B.getD k []) e
  have hp:=nR.1 hA.nd;rw[aw,bc h1,aw,bc h2]at e2;rcases Hp x y with h|h|h
  ·exact absurd e2 (sH.1 hp x y h1 h2 h)
  ·exact h
  ·exact absurd e2.symm (sH.1 hp y x h2 h1 h)
def Fp(dQ:CX X cx)(hA:oK X cx A)(h:kO N A L)(hL:eP A.length L)(hX:∀ x∈X,0<=x.1/\x.1<N)(D:List (Int×Int)):
  D∈ll A (ca L A.length)↔∃ C∈A,(∃ y∈C,eG (ca L A.length).1 y=true)/\D=C.filter (eG (ca L A.length).1):=by
 obtain⟨aB,m,h1,h2,h3,h4,h5⟩:=vf hL;have hG:∀ j:Nat,(j:Int)∈(ca L A.length).1↔aB.getD j false=true:=λj=>by rw[h3];exact Ow
 have hP:∀ k:Nat,(k:Int)∈(ca L A.length).2↔k<A.length/\∃ y∈A.getD k [],eG (ca L A.length).1 y=true:=λk=>by
  have e:(k:Int)∈(ca L A.length).2↔m.getD k false=true:=by rw[h3];exact Ow
  rw[e,h5];constructor
  ·rintro⟨j,hj,hi,hk⟩;rw[h.len]at hj;obtain⟨a,y,b,c⟩:=(h.mem j hj k).1 hk;exact⟨a,y,b,by unfold eG;rw[c,ml];exact(hG j).2 hi⟩
  ·rintro⟨a,y,b,c⟩;obtain⟨x,hx,e⟩:=(hA.mem _).1 (aG (d:=[]) a);rw[e]at b;have hy:=hX y (dQ.sub x hx y b).1;unfold eG at c;rw[ml]at c;refine⟨y.1.toNat,by rw[h.len];omega,(hG _).1 (by rw[oR hy.1];exact c),(h.mem _ Ay k).2 ⟨a,y,by rw[e];exact b,Ay⟩⟩
 unfold ll;rw[cN];constructor
 ·rintro⟨n,hn,rfl⟩;have h0:0<=n:=by
   rw[h3]at hn;have:=pB _ _ n hn;omega
  have fC:((n.toNat:Nat):Int)∈(ca L A.length).2:=by rw[oR h0];exact hn
  obtain⟨a,b⟩:=(hP _).1 fC;exact⟨_,aG a,b,rfl⟩
 ·rintro⟨C,hC,hy,rfl⟩;obtain⟨k,hk,rfl⟩:=sI hC;have e:A.getD k []=A[k]:=by rw[aw,bc hk];rfl
  refine⟨(k:Int),(hP k).2 ⟨hk,by rw[e];exact hy⟩,?_⟩;rw[dz,e]
def tv(X:List (Int×Int))(cx:Int×Int->List (Int×Int))(G:List Int)(D:List (Int×Int)):Prop:=∃ x∈X,D=(cx x).filter (eG G)/\D≠[]
def tv.hd(dQ:CX X cx){G:List Int}{D E:List (Int×Int)}(h:tv X cx G D)(k:tv X cx G E)(e:bM D=bM E):D=E:=by
 obtain⟨x,hx,h1,h2⟩:=h;obtain⟨y,hy,h3,h4⟩:=k;have a:=vl h2;have b:=vl h4;rw[h1]at a;rw[h3,<- h3,<- e,h1]at b;have c:bM (List.filter (eG G) (cx x))∈cx y:=by
  have b':=vl h4;rw[h3,<- h3,<- e,h1]at b';rw[h3]at b';exact(jH.1 b').1
 have:=dQ.meet hx hy (jH.1 a).1 c;rw[h1,h3,this]
def tv.ord(dQ:CX X cx)(G:List Int):zh dR (tv X cx G):=by
 refine⟨λa b c _ _ _ h1 h2=>?_,λa b ha hb bI=>?_,λa b _ _ h=>?_⟩
 ·unfold dR at *;rw[decide_eq_true_eq]at *;omega
 ·unfold dR;rw[decide_eq_true_eq,decide_eq_true_eq];have:bM a≠bM b:=λe=>bI (tv.hd dQ ha hb e);have h2:¬((bM a).1=(bM b).1/\(bM a).2=(bM b).2):=λ⟨e1,e2⟩=>this (Prod.ext e1 e2);omega
 ·unfold dR at *;rw[decide_eq_true_eq]at h;rw[decide_eq_false_iff_not];omega
def B7(dQ:CX X cx)(hA:oK X cx A)(h:kO N A L)(hL:eP A.length L)(hX:∀ x∈X,0<=x.1/\x.1<N):∀ D∈ll A (ca L A.length),tv X cx (ca L A.length).1 D:=λD hD=>by
 obtain⟨C,hC,⟨y,h1,h2⟩,h3⟩:=(Fp dQ hA h hL hX D).1 hD;obtain⟨x,hx,e⟩:=(hA.mem C).1 hC;refine⟨x,hx,by rw[h3,e],λe2=>?_⟩;have:y∈C.filter (eG (ca L A.length).1):=jH.2 ⟨h1,h2⟩;rw[<- h3,e2]at this;simp at this
def OS(dQ:CX X cx)(hA:oK X cx A)(h:kO N A L)(hL:eP A.length L)(hX:∀ x∈X,0<=x.1/\x.1<N):(ll A (ca L A.length)).Nodup:=by
 have hf:=B7 dQ hA h hL hX;obtain⟨aB,m,h1,h2,h3,h4,h5⟩:=vf hL;have hs:(ca L A.length).2.Pairwise (· < ·):=by rw[h3];exact Ox _ _
 have hr:∀ n∈(ca L A.length).2,0<=n/\n<A.length:=λn hn=>by
  rw[h3]at hn;have:=pB _ _ n hn;omega
 unfold ll at hf ⊢;rw[nR,List.pairwise_map];refine hs.imp_of_mem λ{a b} ha hb tw e=>?_;have fa:=hf _ (cN.2 ⟨a,ha,rfl⟩);obtain⟨_,_,_,bI⟩:=fa;have ra:=hr a ha;have rb:=hr b hb;have m1:=(jH.1 (vl bI)).1;have m2:=vl bI;try dsimp only at e m2
 rw[e]at m2;have m2:=(jH.1 m2).1;rw[<- e]at m2;obtain⟨x,hx,ex⟩:=(hA.mem _).1 (aG (l:=A) (i:=a.toNat) (d:=[]) Ay);obtain⟨y,hy,ey⟩:=(hA.mem _).1 (aG (l:=A) (i:=b.toNat) (d:=[]) Ay);rw[ey]at m2;have Vm:bM (List.filter (eG (ca L A.length).1) (A.getD a.toNat []))∈cx x:=by rw[<- ex];exact m1
 have:=dQ.meet hx hy Vm m2;have e3:A.getD a.toNat []=A.getD b.toNat []:=by rw[ex,ey,this]
 have hp:=nR.1 hA.nd;have la:a.toNat<A.length:=Ay;have lb:b.toNat<A.length:=Ay;rw[aw,bc la,aw,bc lb]at e3;exact sH.1 hp _ _ la lb Ay e3
def find_eq(dQ:CX X cx)(hA:oK X cx A)(hB:oK X cx B)(h:kO N A L)(h':kO N B L')(hX:∀ x∈X,0<=x.1/\x.1<N)(hN:N<=256)(lA:A.length<=4095)(lB:B.length<=4095)(hs:∀ c,(L.getD c []).length<=4096)(fS:∀ c,(L'.getD c []).length<=4096):rS A L=rS B L':=by
 have hL:=h.left hN lA hs;have nj:=h'.left hN lB fS;have hg:(ca L A.length).1=(ca L' B.length).1:=Ve hL nj (hA.aU hB h h') (hB.aU hA h' h);unfold rS;rw[h.jb hN lA hs,h'.jb hN lB fS];dsimp only;rw[<- hg];split
 ·rfl
 ·congr 2;have e1:((ca L A.length).1,(ca L A.length).2)=ca L A.length:=rfl;have e2:((ca L A.length).1,(ca L' B.length).2)=ca L' B.length:=by rw[hg]
  rw[e1,e2];refine Vj (tv.ord dQ (ca L A.length).1) (OS dQ hA h hL hX) (OS dQ hB h' nj hX) (B7 dQ hA h hL hX) λD=>?_;rw[Fp dQ hA h hL hX,Fp dQ hB h' nj hX,<- hg];constructor
  ·rintro⟨C,h1,h2⟩;exact⟨C,(hB.mem C).2 ((hA.mem C).1 h1),h2⟩
  ·rintro⟨C,h1,h2⟩;exact⟨C,(hA.mem C).2 ((hB.mem C).1 h1),h2⟩
end
section
variable {α:Type} [Inhabited α]
def im(l:List α)(x:α)(j:Nat):List α:=l.take j++x::l.drop j
def Vn(l:List α)(x:α){j:Nat}(hj:j<=l.length):(im l x j).getD j default=x:=by
 unfold im;rw[aw,dS aab];simp[Nat.min_eq_left hj]
def Vo(l:List α)(x:α){j:Nat}(hj:j+1<=l.length):(im l x (j+1)).getD j default=l.getD j default:=by
 unfold im;rw[aw,cr aab,List.getElem?_take,if_pos Ay,<- aw]
def Vp(l:List α)(x:α){j:Nat}(hj:j+1<=l.length):((im l x (j+1)).set (j+1) (l.getD j default)).set j x=im l x j:=by
 unfold im;have h1:l.drop j=l.getD j default::l.drop (j+1):=by
  rw[List.drop_eq_getElem_cons Ay,aw,bc Ay,Option.getD_some]
 have h2:l.take (j+1)=l.take j++[l.getD j default]:=by
  rw[Hn,aw];rw[bc Ay];rfl
 rw[h2,h1];have hl:(l.take j).length=j:=aab;rw[bN,uj _ _ Ay,hl,show j+1-j=1 by omega];rw[uj _ _ Ay,hl,Nat.sub_self];rfl
def zo(l:List α)(x:α)(j:Nat):(im l x j).length=l.length+1:=by unfold im;simp;omega
def Vq(l:List α)(x:α):im l x l.length=l++[x]:=by unfold im;simp
def Vr{out rest:List α}{x:α}{j:Nat}(hj:j<=out.length):(im out x j++rest).getD j default=x:=by
 rw[aw,cr (by rw[zo];omega),<- aw,Vn _ _ hj]
def Vs{out rest:List α}{x:α}{j:Nat}(hj:j+1<=out.length):(im out x (j+1)++rest).getD j default=out.getD j default:=by
 rw[aw,cr (by rw[zo];omega),<- aw,Vo _ _ hj]
def OT{out rest:List α}{x:α}{j:Nat}(hj:j+1<=out.length):((im out x (j+1)++rest).set (j+1) (out.getD j default)).set j x=im out x j++rest:=by
 rw[List.set_append_left _ _ (by rw[zo];omega),List.set_append_left _ _ (by rw[bt,zo];omega),Vp _ _ hj]
def Vt{out rest:List α}{x:α}{j:Nat}(hj:j+1<=out.length):((im out x (j+1)++rest).set j x).set (j+1) (out.getD j default)=im out x j++rest:=by
 rw[List.set_comm _ _ Ay,OT hj]
def Vu{lt:α->α->Bool}{xs:List α}{i:Nat}(h:i<xs.length):eF lt (xs.take (i+1)) []=oJ lt (xs.getD i default) (eF lt (xs.take i) []):=by
 rw[<- OA];congr 1;rw[Hn,aw];rw[bc h];rfl
def B8(lt:α->α->Bool)(l out:List α):(eF lt l out).length=out.length+l.length:=by
 rw[(wQ lt l out).length_eq,aJ]
end
def aH(C:List (Int×Int)):List AV:=[.tree 2 (rowsOf aj C)]
def B9(a b:List (Int×Int)):Int:=l4 [gk (bM a).1 (bM b).1,gk (bM a).2 (bM b).2]
def Vv(a b:List (Int×Int)):dR a b=decide (B9 a b<0):=by
 unfold dR B9;congr 1;generalize (bM a).1=p;generalize (bM b).1=q;generalize (bM a).2=r;generalize (bM b).2=s;unfold gk;rw[eq_iff_iff];simp only[l4];constructor
 ·rintro(h|⟨h1,h2⟩)
  ·rw[if_pos h];simp
  ·subst h1;rw[if_neg (Int.lt_irrefl _),if_neg (Int.lt_irrefl _),if_pos h2];simp
 ·intro h;by_cases h1:p<q
  ·exact .inl h1
  ·rw[if_neg h1]at h;by_cases h2:q<p
   ·rw[if_pos h2]at h;simp at h
   ·rw[if_neg h2]at h;by_cases h3:r<s
    ·exact .inr ⟨Ay,h3⟩
    ·rw[if_neg h3]at h;by_cases h4:s<r
     ·rw[if_pos h4]at h;simp at h
     ·rw[if_neg h4]at h;simp at h
def OU(xs:List (List (Int×Int)))(i:Nat)(C:List (Int×Int)):(rowsOf aH xs).set i [.tree 2 (rowsOf aj C)]=rowsOf aH (xs.set i C):=sS (enc:=aH) xs i C
def OV{l:List (List (Int×Int))}{j k:Nat}(hj:j<l.length)(h:k≠j)(y:List (Int×Int)):(rowsOf aH (l.set k y))[j]?=some [.tree 2 (rowsOf aj (l.getD j default))]:=by
 unfold rowsOf;rw[List.getElem?_map,List.getElem?_set_ne h,aw,bc hj];rfl
instance:Row aH 1:=⟨λ_=>rfl,λC v hv=>by
 unfold aH at hv;rw[bm]at hv;subst hv;exact .inr ⟨_,_,rfl⟩⟩
def OW(ρ:Nat->Nat)(S:List (List (Int×Int))):bu ρ (.arr 1 (rowsOf aH S))=.arr 1 (rowsOf aH S):=we ρ 1 S
end T

