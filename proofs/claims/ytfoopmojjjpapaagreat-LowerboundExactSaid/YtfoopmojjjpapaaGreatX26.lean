import Derived.Test.YtfoopmojjjpapaaGreatX25
import Derived.Test.YtfoopmojjjpapaaGreatX19
import Derived.Test.YtfoopmojjjpapaaGreatX24
set_option linter.all false
set_option maxHeartbeats 0
set_option maxRecDepth 20000
open List renaming replicate→aO,length→kC,getElem?_map→bV,getElem?_set→bP,getElem?_eq_getElem→bq,getD_eq_getElem?_getD→ax,length_set→bw,append_nil→q7,length_filter_le→Oy,map_set→p6
open Option renaming some→cy,isNone_none→Ox
open Nat renaming zero_le→aW,not_lt_zero→sc,eq_zero_or_pos→q9,reduceBEq→rh,le_trans→sr
open Bool renaming not_false→mH,not_true→kU,and_eq_true→bg
open Go Go.Am Go.Proofs
namespace T
def mZ(w o:Nat):List Bool:=(aO w false).set o true
def db(left:List (List Bool))(c o:Nat):List (List Bool):=left.set c (mZ (left.getD c default).length o)
def My(w o:Nat):(mZ w o).length=w:=by simp[mZ]
def BE(left:List (List Bool))(c o:Nat):(db left c o).map kC=left.map kC:=by
 unfold db;apply List.ext_getElem?;intro j;rw[bV,bV,bP];split
 ·rename_i e;subst e;split
  ·rename_i h2;rw[bq h2];simp[My,h2]
  ·rename_i h2;rw[List.getElem?_eq_none AT]
 ·rfl
def Y'{σ:St}{kp:Nat->Prop}{c d:List AV}(h:∀ v∈c,(∃ x,v=AV.lit x)\/∃ s r,v=AV.tree s r)(e:d=c):mf (dF σ kp) c d:=by
 subst e
 induction d with
 |nil=>trivial
 |cons v l ih =>
  refine⟨?_,ih λx hx=>h x (by simp[hx])⟩;rcases h v IM with⟨x,rfl⟩|⟨s,r,rfl⟩
  ·exact .lit _
  ·exact .tree _ _
def aiq{σ:St}{kp:Nat->Prop}{oi k c:Nat}{left:List (List Bool)}{r:List Bool}(hc:c<left.length)(ho:σ.aa[oi]?=some (.arr 1 ((rowsOf ay left).set c [.ref k 1 0 r.length])))(hk:¬ kp oi)(hr:σ.aa[k]?=some (.arr 1 (a8 r)))(CU:¬ kp k):
  dF σ kp (.tree 1 (rowsOf ay (left.set c r))) (.ref oi 1 0 left.length) :=
 dF.mk ho (by simp[rowsOf]) hk (kI _) (pf.Em (f:=λ_=>[]) (g:=λ_=>[]) (by simp[rowsOf]) λj x d hx hd=>by
  unfold rowsOf at hx hd;rw[bV,bP]at hx;rw[bP]at hd;by_cases e:c=j
  ·subst e;rw[if_pos rfl,if_pos hc]at hx;rw[if_pos rfl,if_pos (by simpa using hc)]at hd;cases hx;cases hd;exact⟨V8 hr CU,trivial⟩
  ·rw[if_neg e]at hx hd;rw[bV]at hd;rw[hx]at hd;simp only[cy.injEq]at hd;cases hl:left[j]? with
   |none=>rw[hl]at hx;cases hx
   |some y =>
    rw[hl]at hx;simp only[Option.map_some,cy.injEq]at hx;subst hx;exact Y' (λv hv=>by simp only[ay,List.mem_singleton]at hv;exact .inr ⟨_,_,hv⟩) hd.symm)
def air(m:ah)(x:Nd)(hm:VM m)(hg:∀ c∈x.aT,0<=c/\c<m.cls.length)(tE:x.aT.length<9223372036854775808)(l:List (Int×Int))(fY:l.length<9223372036854775808):
  Holds Tryz.prog 99 [.tree 2 (rowsOf dv l),.ptr 0 0 0,.ptr 1 0 0] [.var (aq m),.var (aM x)] (.lit (.bool (!uC m x.aT l))) [.var (aq m),.var (aM x)]:=by
 have h:=ais m x.aT l hm hg tE fY;generalize uC m x.aT l=res at *;refine Holds.aN 11 2 [.tmp 4] Tryz.func99 ?_;refine Vd @aM.eq_1 h ?_;exact dX rfl IM rfl
def ait(m:ah)(x:Nd)(c o:Int)(l:List (Int×Int))(fY:l.length<9223372036854775808):
  Holds Tryz.prog 101 [.tree 2 (rowsOf dv l),.ptr 2 0 0,.ptr 3 0 0] [.var (aq m),.var (aM x),.var [Oi c],.var [Oi o]] (.lit (.bool (l.any (oH c o)))) [.var (aq m),.var (aM x),.var [Oi c],.var [Oi o]]:=by
 have h:=aiu l c o fY;generalize l.any (oH c o)=res at *;refine Holds.aN 10 4 [.tmp 4] Tryz.func101 ?_;refine Vd X0 h ?_;exact dX rfl IM rfl
def agb(m:ah)(x:Nd)(left:List (List Bool))(hm:VM m)(hf:cp m left)(tE:x.aT.length<9223372036854775808)(bn:x.cells.length<9223372036854775808)(fY:∀ l∈x.cells,l.length<9223372036854775808):
  Holds Tryz.prog 67 [.agg (aq m),.agg (aM x),.tree 1 (rowsOf ay left)] [] (.lit (.bool (ng m x left))) []:=by
 have mY:=hm.cls;have gK:=hf.1;generalize an:ng m x left=res;have kH:=@afm m x left;have zH:=@afn m x left;have Mz:=@afo m x left;have qV:=@afp m x left;have yu:=@afq m x left;rw[an]at kH zH Mz qV yu;obtain⟨cl,kids,dT,aT,cells⟩:=x;dsimp only at *;refine Holds.aN 87 0 [.tmp 6] Tryz.func67 ?_;refine Vb @aM.eq_1 ?_;refine bb (λi:Nat=>(⟨ao [(2,.tree 1 (rowsOf ay left)),(3,.ptr 0 0 0),(4,.ptr 1 0 0),(15,.tree 1 (ints aT)),(16,Oi aT.length),(17,Oi i)],[.var (aq m),.var (aM ⟨cl,kids,dT,aT,cells⟩)]⟩:St))
  (λi=>i<=aT.length/\∀ a,a<i->decide (0<=aT.getD a 0/\aT.getD a 0<m.cls.length/\(a=0\/aT.getD (a-1) 0<aT.getD a 0))=true) (λi=>aT.length-i) 0 ⟨aW _,λa ha=>absurd ha (sc _)⟩ (Xv @aM.eq_1) ?_
 rintro i⟨hi,eT⟩Ql ak au;by_cases ar:i<aT.length
 ·have lV:=KW (f:=λi=>decide (0<=aT.getD i 0/\aT.getD i 0<m.cls.length/\(i=0\/aT.getD (i-1) 0<aT.getD i 0))) ar;have cG:decide (0<=aT.getD i 0/\aT.getD i 0<m.cls.length/\(i=0\/aT.getD (i-1) 0<aT.getD i 0))=true->∀ a,a<i+1->decide (0<=aT.getD a 0/\aT.getD a 0<m.cls.length/\(a=0\/aT.getD (a-1) 0<aT.getD a 0))=true:=λh a ha=>by
   by_cases e:a=i
   ·subst e;exact h
   ·exact eT a AT
  have gp:0<i->((i:Int)-1).toNat=i-1/\i-1<aT.length:=λh=>⟨AT,AT⟩;have nP:0<i->aT.getD ((i:Int)-1).toNat 0=aT.getD (i-1) 0:=λh=>by rw[(gp h).1]
  generalize bc:aT.getD i 0=c at *;generalize Y6:aT.getD (i-1) 0=q at *;have kr:c=c:=rfl;rcases q9 i with h0|h0
  ·by_cases aA:0<=c/\c<m.cls.length
   ·((repeat'(first|refine Va (X2 @aM.eq_1 @bc) ?_|(refine V2 (X2 @aM.eq_1 @bc) ?_ ?_<;>try with_reducible intro hb)|(refine Xi ?_ ?_<;>try intro ht)|exact Xx|fail)))
    exact ak _ (i+1) ⟨AT,cG (decide_eq_true ⟨aA.1,aA.2,.inl h0⟩)⟩ AT (Xv @aM.eq_1)
   ·have hr:=kH (lV (decide_eq_false λh=>aA ⟨h.1,h.2.1⟩));((repeat'(first|refine Va (X2 @aM.eq_1 @bc) ?_|(refine V2 (X2 @aM.eq_1 @bc) ?_ ?_<;>try with_reducible intro hb)|(refine Xi ?_ ?_<;>try intro ht)|exact Xx|fail)))
    all_goals
     repeat(refine Xu ?_)
     ((repeat'(first|refine Vb X0 ?_|fail)))
     exact aU rfl (by rw[hr])
  ·have nP:=nP h0;obtain⟨Es,MA⟩:=gp h0;by_cases aA:0<=c/\c<m.cls.length/\q<c
   ·((repeat'(first|refine Va (X3 @aM.eq_1 @bc @nP) ?_|(refine V2 (X3 @aM.eq_1 @bc @nP) ?_ ?_<;>try with_reducible intro hb)|(refine Xi ?_ ?_<;>try intro ht)|exact Xx|fail)))
    exact ak _ (i+1) ⟨AT,cG (decide_eq_true ⟨aA.1,aA.2.1,.inr aA.2.2⟩)⟩ AT (Xv @aM.eq_1)
   ·have hr:=kH (lV (decide_eq_false λh=>aA ⟨h.1,h.2.1,AT⟩));((repeat'(first|refine Va (X3 @aM.eq_1 @bc @nP) ?_|(refine V2 (X3 @aM.eq_1 @bc @nP) ?_ ?_<;>try with_reducible intro hb)|(refine Xi ?_ ?_<;>try intro ht)|exact Xx|fail)))
    all_goals
     repeat(refine Xu ?_)
     ((repeat'(first|refine Vb X0 ?_|fail)))
     exact aU rfl (by rw[hr])
 obtain rfl:i=aT.length:=AT;have BC:DN m aT=true:=zY.2 eT;have B7:=S3 BC;clear kH eT;((repeat'(first|refine Va X0 ?_|(refine V2 X0 ?_ ?_<;>try with_reducible intro hb)|(refine Xi ?_ ?_<;>try intro ht)|exact Xx|fail)))
 refine au _ _ rfl ?_;clear ak au Ql;repeat(refine Xu ?_)
 have vJ:=Za cells 99 [.ptr 0 0 0,.ptr 1 0 0] [.var (aq m),.var (aM ⟨cl,kids,dT,aT,cells⟩)] (λl=>!uC m aT l) bn (λl hl=>air m ⟨cl,kids,dT,aT,cells⟩ hm B7 tE l (fY l hl));rw[S4]at vJ;by_cases aS:cells.length<aT.length;rotate_left
 ·have hr:=zH aS;((repeat'(first|refine Vb @aM.eq_1 ?_|(refine V2 @aM.eq_1 ?_ ?_<;>try with_reducible intro hb)|(refine Xi ?_ ?_<;>try intro ht)|exact Xx|fail)))
  exact aU rfl (by rw[hr])
 cases j5:cells.all (uC m aT)
 ·have hr:=Mz j5;rw[j5]at vJ;((repeat'(first|refine Vb @aM.eq_1 ?_|(refine V2 @aM.eq_1 ?_ ?_<;>try with_reducible intro hb)|(refine Xi ?_ ?_<;>try intro ht)|exact Xx|fail))<;>try with_reducible intro K hK)
  refine fi vJ IM ?_;((try revert hK K);(repeat'(first|refine Vb (X2 @aM.eq_1 @mH) ?_|(refine Xi ?_ ?_<;>try intro ht)|exact Xx|fail)))
  exact aU rfl (by rw[hr])
 rw[j5]at vJ;have yu:=yu BC aS j5;clear zH Mz;((repeat'(first|refine Vb @aM.eq_1 ?_|(refine V2 @aM.eq_1 ?_ ?_<;>try with_reducible intro hb)|(refine Xi ?_ ?_<;>try intro ht)|exact Xx|fail))<;>try with_reducible intro K hK)
 refine fi vJ IM ?_;((try revert hK K);(repeat'(first|refine Vb (X2 @aM.eq_1 @kU) ?_|(refine Xi ?_ ?_<;>try intro ht)|exact Xx|fail)))
 refine bb (λi:Nat=>(⟨ao [(2,.tree 1 (rowsOf ay left)),(3,.ptr 0 0 0),(4,.ptr 1 0 0),(60,.tree 1 (ints aT)),(61,Oi aT.length),(62,Oi i)],[.var (aq m),.var (aM ⟨cl,kids,dT,aT,cells⟩)]⟩:St))
  (λi=>i<=aT.length/\∀ a,a<i->yy left cells (aT.getD a 0)=true) (λi=>aT.length-i) 0 ⟨aW _,λa ha=>absurd ha (sc _)⟩ (Xv @aM.eq_1) ?_
 rintro i⟨hi,eT⟩Ql ak au;by_cases ar:i<aT.length
 ·have cq:=aE (l:=aT) (i:=i) (d:=0) ar;have lV:=λh=>qV (all_false cq h);have rB:=B7 _ cq;have cG:yy left cells (aT.getD i 0)=true->∀ a,a<i+1->yy left cells (aT.getD a 0)=true:=λh a ha=>by
   by_cases e:a=i
   ·subst e;exact h
   ·exact eT a AT
  generalize bc:aT.getD i 0=c at *;have am3:=hf.row hm _ (aE (l:=left) (i:=c.toNat) (d:=default) AT);unfold yy at lV cG;generalize dU:left.getD c.toNat default=row at *;((repeat'(first|refine Va (X4 @aM.eq_1 @bc @ay.eq_1 @dU) ?_|(refine Xi ?_ ?_<;>try intro ht)|exact Xx|fail)))
  refine bb (λo:Nat=>(⟨ao [(2,.tree 1 (rowsOf ay left)),(3,.ptr 0 0 0),(4,.ptr 1 0 0),(10,.ptr 2 0 0),(60,.tree 1 (ints aT)),(61,Oi aT.length),(62,Oi i),(69,.tree 1 (a8 row)),(70,Oi row.length),(71,Oi o)],[.var (aq m),.var (aM ⟨cl,kids,dT,aT,cells⟩),.var [Oi c]]⟩:St))
   (λo=>o<=row.length/\∀ a,a<o->(!row.getD a false||cells.any λl=>l.any (oH c a))=true) (λo=>row.length-o) 0 ⟨aW _,λa ha=>absurd ha (sc _)⟩ (Xv @aM.eq_1) ?_
  rintro o⟨ho,Zb⟩dL bO bQ;by_cases cJ:o<row.length
  ·have Ck:=λh=>lV (KW (f:=λo:Nat=>!row.getD o false||cells.any λl=>l.any (oH c o)) cJ h);have An:(!row.getD o false||cells.any λl=>l.any (oH c o))=true->∀ a,a<o+1->(!row.getD a false||cells.any λl=>l.any (oH c a))=true:=λh a ha=>by
    by_cases e:a=o
    ·subst e;exact h
    ·exact Zb a AT
   have Zc:=Za cells 101 [.ptr 2 0 0,.ptr 3 0 0] [.var (aq m),.var (aM ⟨cl,kids,dT,aT,cells⟩),.var [Oi c],.var [Oi (o:Int)]] (λl=>l.any (oH c o)) bn (λl hl=>ait m ⟨cl,kids,dT,aT,cells⟩ c o l (fY l hl));generalize mV:row.getD o false=b at *;generalize cells.any (λl=>l.any (oH c o))=cov at *;cases b
   ·((repeat'(first|refine Va (X2 @aM.eq_1 @mV) ?_|(refine Xi ?_ ?_<;>try intro ht)|exact Xx|fail)))
    exact bO _ (o+1) ⟨AT,An rfl⟩ AT (Xs false [0,1,2] @aM.eq_1)
   ·cases cov
    ·have hr:=Ck rfl;((repeat'(first|refine Va (X2 @aM.eq_1 @mV) ?_|(refine Xi ?_ ?_<;>try intro ht)|exact Xx|fail))<;>try with_reducible intro K hK)
     refine fi Zc IM ?_;((try revert hK K);(repeat'(first|refine Va (X2 @aM.eq_1 @mH) ?_|(refine Xi ?_ ?_<;>try intro ht)|exact Xx|fail)))
     all_goals
      repeat(refine Xu ?_)
      refine Vb X0 ?_;exact aU rfl (by rw[hr])
    ·((repeat'(first|refine Va (X2 @aM.eq_1 @mV) ?_|(refine Xi ?_ ?_<;>try intro ht)|exact Xx|fail))<;>try with_reducible intro K hK)
     refine fi Zc IM ?_;((try revert hK K);(repeat'(first|refine Va (X2 @aM.eq_1 @kU) ?_|(refine Xi ?_ ?_<;>try intro ht)|exact Xx|fail)))
     exact bO _ (o+1) ⟨AT,An rfl⟩ AT (Xs false [0,1,2] @aM.eq_1)
  ·obtain rfl:o=row.length:=AT;((repeat'(first|refine Va @aM.eq_1 ?_|(refine V2 @aM.eq_1 ?_ ?_<;>try with_reducible intro hb)|(refine Xi ?_ ?_<;>try intro ht)|exact Xx|fail)))
   refine bQ _ _ rfl ?_;clear bO bQ dL;repeat(refine Xu ?_)
   refine Va @aM.eq_1 ?_;exact ak _ (i+1) ⟨AT,cG (zY.2 Zb)⟩ AT (Xs false [0,1] @aM.eq_1)
 ·obtain rfl:i=aT.length:=AT;have hr:=yu (by
   rw[List.all_eq_true];intro c hc;obtain⟨a,ha,rfl⟩:=List.getElem_of_mem hc;have:=eT a ha;rwa [ax,bq ha]at this)
  ((repeat'(first|refine Va X0 ?_|(refine Xi ?_ ?_<;>try intro ht)|exact Xx|fail)))
  refine au _ _ rfl ?_;clear ak au Ql;repeat(refine Xu ?_)
  refine Vb X0 ?_;exact aU rfl (by rw[hr])
def Vr(xs:List Int)(h:0<xs.length)(hl:xs.length<549755813888):Holds Tryz.prog 69 [.tree 1 (ints xs)] [] (.ref 0 1 0 xs.length) [.arr 1 (ints xs)]:=by
 refine Holds.aN 8 0 [.tmp 2] Tryz.func69 ?_;((repeat'(first|refine Vb @Fc ?_|(refine Xi ?_ ?_<;>try intro ht)|exact Xx|fail)))
 exact Xw false [1] X0
def Et(dN:List Bool)(r:Int):Bool:=dN.getD r.toNat false
def Cut(dN:List Bool)(a b:List Int):Prop:=b.length=a.length/\∀ i:Nat,b.getD i 0=if Et dN i=true then a.getD i 0 else 0
def Cut.add{dN:List Bool}{a b:List Int}(h:Cut dN a b){r c:Int}(hr:0<=r):Cut dN (iq a r c) (if Et dN r=true then iq b r c else b):=by
 have dU:((r.toNat:Nat):Int)=r:=Int.toNat_of_nonneg hr;refine⟨by split<;>simp only[iq,bw]<;>exact h.1,λi=>?_⟩;have hi:=h.2 i;have u4:=h.2 r.toNat;rw[dU]at u4;by_cases hk:Et dN r=true
 ·rw[if_pos hk];rw[if_pos hk]at u4;rw[iq,iq,yD,yD,u4,h.1];by_cases pk:r.toNat=i/\i<a.length
  ·rw[if_pos pk,if_pos pk,if_pos];rw[<- pk.1,dU];exact hk
  ·rw[if_neg pk,if_neg pk];exact hi
 ·rw[if_neg hk,iq,yD];by_cases pk:r.toNat=i/\i<a.length
  ·rw[if_pos pk];rw[<- pk.1,dU,if_neg hk]at hi;rw[<- pk.1,dU,if_neg hk];exact hi
  ·rw[if_neg pk];exact hi
def aiw{a b c:Pr}(h:ni a b<0)(k:ni b c<0):ni a c<0:=by
 rw[K9]at *;omega
def aix{m:ah}{q q':Option Pr}(h:∀ y,q'=some y->∃ x,q=some x/\(∀ c,ni x c<0->ni y c<0)):∀ {l:List Pr},e7 m q l=true->e7 m q' l=true
 |[],_=>by cases q'<;>rfl
 |c::r,hl=>by
  rw[e7.eq_def]at hl ⊢;simp only[bg]at hl ⊢;refine⟨⟨hl.1.1,?_⟩,hl.2⟩;cases q' with
  |none=>rfl
  |some y =>
   obtain⟨x,rfl,hx⟩:=h y rfl;have:=hl.1.2;simp only[decide_eq_true_eq]at this ⊢;exact hx c this
def MC{m:ah}(p:Pr->Bool):∀ {l:List Pr} {q:Option Pr},e7 m q l=true->e7 m q (l.filter p)=true
 |[],q,h=>h
 |c::r,q,h=>by
  rw[e7.eq_def]at h;simp only[bg]at h;rw[List.filter_cons];split
  ·rw[e7.eq_def];simp only[bg];exact⟨h.1,MC p h.2⟩
  ·refine aix (q:=some c) (λy hy=>⟨c,rfl,λd hd=>?_⟩) (MC p h.2);subst hy;have:=h.1.2;simp only[decide_eq_true_eq]at this;exact aiw this hd
def aiy(xs:List Int)(hl:xs.length<549755813888):Holds Tryz.prog 69 [.tree 1 (ints xs)] [] (.tree 1 (ints xs)) []:=by
 rcases q9 xs.length with h|h
 ·obtain rfl:=List.eq_nil_of_length_eq_zero h;refine Holds.empty (pre:=[]) (post:=[]) (λa cap=>?_);rw[List.nil_append];cases a with
  |none =>
   refine Holds.aN 8 0 [.tmp 2] Tryz.func69 ?_;((repeat'(first|refine Vb @Ox.{0} ?_|(refine Xi ?_ ?_<;>try intro ht)|exact Xx|fail)))
   all_goals first|(refine u9 [] true IP trivial IP IP ?_;exact bT.nil)|(exfalso;simp at *;done)
  |some ad =>
   refine Holds.aN 8 0 [.tmp 2] Tryz.func69 ?_;refine JE IP ?_;intro K hK;simp(disch:=omega)only[Ac,↓Pc,simprocAttr];refine hK _ ?_;clear hK K;refine Wk ?_;intro Q hn he;((refine JE IP ?_);intro K hK;simp(disch:=omega)only[Ac,↓Pc,simprocAttr,Option.isNone_some];skip);(refine hK _ ?_;clear hK K)
   refine Qx (t:=false) (by simp only[sF,Lc,↓reduceIte,Nat.reduceEqDiff,rh]) (λht=>by simp at ht) (λht=>?_);refine Qw ?_;refine hn _ ?_;(try clear hn;try clear he;try clear Q;clear ht)
   refine cd (aF.ad4 0 1 (by(simp only[sF,uQ,Rc,↓reduceIte,Nat.reduceEqDiff,rh,ev,eh,St.put];exact rfl))) ?_;refine Vb (X3 @List.length_nil.{0} @q7.{0} @List.all_nil.{0}) ?_;refine u9 [] true IP trivial IP IP ?_;exact bT.cC (rows:=[]) rfl IM rfl (qg IP) IM
 ·refine Holds.aN 8 0 [.tmp 2] Tryz.func69 ?_;((repeat'(first|refine Vb @Fc ?_|(refine Xi ?_ ?_<;>try intro ht)|exact Xx|fail)))
  exact Xw true [] X0
def aiz(xs:List (List Bool))(h:0<xs.length)(hl:xs.length<549755813888):Holds Tryz.prog 130 [.tree 1 (rowsOf ay xs)] [] (.ref 0 1 0 xs.length) [.arr 1 (rowsOf ay xs)]:=by
 refine Holds.aN 8 0 [.tmp 2] Tryz.func130 ?_;((repeat'(first|refine Vb X0 ?_|(refine Xi ?_ ?_<;>try intro ht)|exact Xx|fail)))
 exact Xw false [1] X0
def agF:Holds Tryz.prog 69 [.lit (.slice none 0 0)] [] (.lit (.slice none 0 0)) []:=by
 refine Holds.aN 8 0 [.tmp 2] Tryz.func69 ?_;((repeat'(first|refine Vb @Ox.{0} ?_|(refine Xi ?_ ?_<;>try intro ht)|exact Xx|fail)))
 all_goals first|exact aU rfl rfl|(exfalso;simp at *;done)
def agE(left:List (List Bool))(c o:Nat)(hc:c<left.length)(ho:o<(left.getD c default).length)(hl:left.length<549755813888)(hw:(left.getD c default).length<549755813888):
  Holds Tryz.prog 97 [.tree 1 (rowsOf ay left),Oi c,Oi o] [] (.tree 1 (rowsOf ay (db left c o))) []:=by
 unfold db;have gQ:∀ r:List AV,((rowsOf ay left).set c r)[c]?=some r:=λr=>by rw[bP,if_pos rfl,if_pos (by simpa [rowsOf] using hc)]
 have iU:∀ r:List AV,((rowsOf ay left).set c r).length=left.length:=λr=>by simp[rowsOf]
 generalize dU:left.getD c default=row at *;have Ea:(aO row.length false).length=row.length:=List.length_replicate;refine Holds.aN 26 0 [.tmp 6] Tryz.func97 ?_;((refine Vb X0 ?_)<;>try with_reducible intro K hK)
 (refine Xn [] (aiz left AT hl) ?_;simp(disch:=omega)only[Ac,↓Pc,simprocAttr,Nat.sub_self,Nat.sub_zero])
 ((try revert hK K);(refine Vb (X5 @dU @ay.eq_1 @A7 @gQ (X3 @iU @Ea @wy)) ?_))
 refine u9 [] true IP trivial IP IP (.snap _ _ rfl ?_);have cF:(mZ row.length o).length=row.length:=My _ _;exact aiq (k:=1) (r:=mZ row.length o) hc (by rw[cF];rfl) (qg IP) rfl (qg IP)
def yL(c:Int)(p:Pr):Bool:=decide (p.fst≠c/\p.snd≠c)
def pB(m:ah)(c:Int):ah:=⟨m.cls.set c.toNat [],m.ae.filter (yL c),[],m.rules⟩
def aeI{m:ah}(hm:VM m){c:Int}(hc:0<=c):VM (pB m c):=by
 have cq:∀ l∈(pB m c).cls,l=[]\/l∈m.cls:=λl hl=>(List.mem_or_eq_of_mem_set hl).symm;have key:∀ (l:List Pr) (q:Option Pr),(∀ p∈l,yL c p=true)->e7 m q l=true->e7 (pB m c) q l=true:=by
  intro l
  induction l with
  |nil=>intro q _ _;cases q<;>rfl
  |cons p r ih =>
   intro q ho h;rw[e7.eq_def]at h ⊢;simp only[bg]at h ⊢;obtain⟨⟨a,b⟩,d⟩:=h;have hp:=ho p IM;unfold yL at hp;rw[decide_eq_true_eq]at hp;refine⟨⟨?_,b⟩,ih _ (λx hx=>ho x (by simp[hx])) d⟩;have e:∀ x:Int,0<=x->x≠c->(pB m c).cls.getD x.toNat default=m.cls.getD x.toNat default:=λx h0 hx=>by
    unfold pB;dsimp only;rw[ax,List.getElem?_set_ne AT,<- ax]
   have q:=(qI a).2;unfold gA at *;rw[e _ q.1 hp.1,e _ AT hp.2,show(pB m c).cls.length=m.cls.length by unfold pB;simp];exact a
 refine⟨by unfold pB;simpa using hm.cls,λl hl=>?_,sr (Oy _ _) hm.ae,aW _,hm.uD,λl hl o ho=>?_,key _ _ (λp hp=>(List.mem_filter.1 hp).2) (MC _ hm.pr),λc hc=>by cases hc⟩
 ·rcases cq l hl with rfl|h
  ·exact aW _
  ·exact hm.opt l h
 ·rcases cq l hl with rfl|h
  ·cases ho
  ·exact hm.qK l h o ho
def Zd{R:AV->AV->Prop}:∀ {a c:List (List AV)} {x y:List AV} (j:Nat),pf R a c->mf R x y->pf R (a.set j x) (c.set j y)
 |[],[],_,_,_,_,_=>trivial
 |_::_,_::_,_,_,0,h,k=>⟨k,h.2⟩
 |_::_,_::_,_,_,j+1,h,k=>⟨h.1,Zd j h.2 k⟩
 |[],_::_,_,_,_,h,_=>h.elim
 |_::_,[],_,_,_,h,_=>h.elim
def aiA{α:Type}{enc:α->List AV}{w:Nat}[Row enc w]{σ:St}{kp:Nat->Prop}(xs:List α):pf (dF σ kp) (rowsOf enc xs) (rowsOf enc xs) :=
 pf.Em (f:=λ_=>[]) (g:=λ_=>[]) rfl λj c d hc hd=>by rw[hc]at hd;cases hd;exact Y' (λv hv=>qB _ _ (List.mem_of_getElem? hc) v hv) rfl
def aiB{σ:St}{kp:Nat->Prop}{id n c:Nat}{cls:List (List cP)}(ho:σ.aa[id]?=some (.arr 1 ((rowsOf aV cls).set c [.lit (.slice none 0 0)])))(hn:n=cls.length)(hk:¬ kp id):dF σ kp (.tree 1 (rowsOf aV (cls.set c []))) (.ref id 1 0 n):=by
 have e:rowsOf aV (cls.set c [])=(rowsOf aV cls).set c (aV []):=by unfold rowsOf;rw[p6]
 refine dF.mk ho (by rw[hn,bw,cr]) hk (kI _) ?_;rw[e];exact Zd c (aiA cls) ⟨.nil 6,trivial⟩
def KB(m:ah):List AV:=[.tree 1 (rowsOf aV m.cls),.ref 0 4 0 m.ae.length,.tree 4 (rowsOf df m.aC),Oi m.rules]
def aeO(m:ah)(hm:VM m)(c:Int)(hc:0<=c/\c<m.cls.length):Holds Tryz.prog 59 [.agg (aq m),Oi c] [] (.agg (KB (pB m c))) [.arr 4 (rowsOf aG (pB m c).ae)]:=by
 have mY:=hm.cls;have oO:=hm.ae;have cF:(rowsOf aV m.cls).length=m.cls.length:=cr _;have aiC:∀ ρ,bM ρ (.arr 1 ((rowsOf aV m.cls).set c.toNat [.lit (.slice none 0 0)]))=.arr 1 ((rowsOf aV m.cls).set c.toNat [.lit (.slice none 0 0)]):=λρ=>by
  have h:bM ρ (.arr 1 (rowsOf aV m.cls))=.arr 1 (rowsOf aV m.cls):=by rw[mW]
  simp only[bM,Ob.arr.injEq,true_and]at h ⊢;rw[p6,h];simp[bj]
 have pQ:∀ (xs:List Pr) (p:Pr),rowsOf aG xs++[[AV.lit (.int .i64 p.fst),AV.lit (.int .i64 p.snd),AV.lit (.int .i64 p.dZ),AV.tree 1 (ints p.aB)]]=rowsOf aG (xs++[p]):=λxs p=>zL xs p;refine Holds.aN 53 0 [.cell 4 32] Tryz.func59 ?_;repeat'(first|((fail_if_success (first|refine eO 1 ?_|refine eP 1 ?_));refine Xr X0 ?_;intro K hK)|(refine hK _ ?_;clear hK K)|refine XY ?_|fail)
 refine uM ?_;intro Q hn he;refine sv ⟨ao [(1,Oi c),(2,.ptr 0 0 0),(4,.ptr 1 0 0),(5,.ptr 3 0 0)],[.var (aq m),.var [.lit (.slice none 0 0),.lit (.slice none 0 0),.lit (.slice none 0 0),Oi 0],.arr 1 (rowsOf aV m.cls),.var [.ref 2 1 0 m.cls.length,.lit (.slice none 0 0),.lit (.slice none 0 0),Oi m.rules]]⟩ hn ?_ (λkey=>?_);rotate_left
 ·refine lI [] (.take 0 (.take 1 (.three 2 (.take 3 (.take 4 (.take 5 (.take 6 (.take 7 .nil))))) 3 (.three 2 (.take 4 (.take 5 (.take 6 (.take 7 .nil)))) 4 (.both 2 (.take 5 (.take 6 (.take 7 .nil))) 6 (.take 2 (.take 5 (.take 7 .nil)))) 6 (.both 2 (.take 4 (.take 5 (.take 7 .nil))) 4 (.take 2 (.take 5 (.take 7 .nil))))) 6 (.both 2 (.take 3 (.take 4 (.take 5 (.take 7 .nil)))) 3 (.both 2 (.take 4 (.take 5 (.take 7 .nil))) 4 (.take 2 (.take 5 (.take 7 .nil)))))))) rfl IP (by decide +kernel) ?_;simp(disch:=omega)only[Ac,↓Pc,simprocAttr,Pw];repeat'(first|with_reducible refine And.intro ?_ ?_|omega)
  all_goals
   refine key _ ?_;first|(exact Xv X0;done)|(exact Xs false [0,1,3,2] X0)
 (try clear hn;try clear he)
 refine Vb @cF ?_;refine cd (aF.sV 3 1 4 rfl rfl IP) ?_;refine bb (λz:Nat×List Pr=>(⟨ao [(1,Oi c),(2,.ptr 0 0 0),(4,.ptr 1 0 0),(5,.ptr 3 0 0),(6,Oi z.1)],[.var (aq m),.var [.lit (.slice none 0 0),.lit (.slice none 0 0),.lit (.slice none 0 0),Oi 0],.arr 1 ((rowsOf aV m.cls).set c.toNat [.lit (.slice none 0 0)]),.var [.ref 2 1 0 m.cls.length,.ref 4 4 0 z.2.length,.lit (.slice none 0 0),Oi m.rules],.arr 4 (rowsOf aG z.2)]⟩:St))
  (λz=>z.1<=m.ae.length/\z.2=(m.ae.take z.1).filter (yL c)) (λz=>m.ae.length-z.1) (0,[]) ⟨aW _,rfl⟩ (Xv X0) ?_
 rintro⟨i,xs⟩⟨hi,cO⟩Ql ak au;dsimp only at hi cO ⊢;by_cases ar:i<m.ae.length
 ·have eM:=ei ar;have uJ:xs.length<=4000:=by
   rw[cO];exact sr (Oy _ _) (by rw[List.length_take];omega)
  generalize cB:m.ae.getD i default=p at *;have hf:(m.ae.take (i+1)).filter (yL c)=xs++if yL c p=true then [p] else []:=by
   rw[eM,List.filter_append,<- cO];congr 1;rw[List.filter_cons,List.filter_nil]
  by_cases Ze:p.fst≠c/\p.snd≠c
  ·rw[if_pos (by unfold yL;exact decide_eq_true Ze)]at hf;((repeat'(first|refine Va (X2 @cB @aG.eq_1) ?_|(refine V2 (X2 @cB @aG.eq_1) ?_ ?_<;>try with_reducible intro hb)|(refine Xi ?_ ?_<;>try intro ht)|exact Xx|fail)))
   all_goals exact ak _ (i+1,xs++[p]) ⟨NZ,hf.symm⟩ NZ (Xs false [0,1,2,3,6] (X2 @aiC @pQ))
  ·rw[if_neg (by unfold yL;simpa using Ze),q7]at hf;((repeat'(first|refine Va (X2 @cB @aG.eq_1) ?_|(refine V2 (X2 @cB @aG.eq_1) ?_ ?_<;>try with_reducible intro hb)|(refine Xi ?_ ?_<;>try intro ht)|exact Xx|fail)))
   all_goals exact ak _ (i+1,xs) ⟨NZ,hf.symm⟩ NZ (Xv X0)
 ·rw[List.take_of_length_le AT]at cO;((repeat'(first|refine Va X0 ?_|(refine V2 X0 ?_ ?_<;>try with_reducible intro hb)|(refine Xi ?_ ?_<;>try intro ht)|exact Xx|fail)))
  refine au _ _ rfl ?_;clear ak au Ql;repeat(refine Xu ?_)
  refine Vb X0 ?_;simp(disch:=omega)only[Ac,↓Pc,simprocAttr,rowOf];have Zf:(pB m c).ae=xs:=by rw[cO];rfl
  rw[Zf];refine u9 [4] true IP ⟨⟨IM,.inr (by rw[mW];rfl)⟩,trivial⟩ IP IP ?_;refine(bT.agg _ _ rfl (mf.spec (R:=bT _ _ _ _) (cs:=KB (pB m c)) (ds:=[.ref 2 1 0 m.cls.length,.ref 4 4 0 xs.length,.lit (.slice none 0 0),Oi m.rules]) ⟨.snap _ _ rfl (aiB rfl rfl (qg IP)),.eq (by rw[Zf];rfl),.snap _ _ rfl (.nil 4),.pure rfl,trivial⟩).2)
end T

