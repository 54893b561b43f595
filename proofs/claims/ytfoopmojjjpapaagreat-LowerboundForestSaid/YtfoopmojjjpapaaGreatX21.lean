import Derived.Test.YtfoopmojjjpapaaGreatX18
import Derived.Test.YtfoopmojjjpapaaGreatX20
set_option linter.all false
set_option maxHeartbeats 0
set_option maxRecDepth 20000
open List renaming replicate→aI,length_append→bI,range→aY,getD_eq_getElem?_getD→az,mem_singleton→dI,length_map→eu,all_eq_true→e8,mem_cons→a8,length_cons→cV,mem_append→da,mem_cons_of_mem→dx
open Nat renaming le_refl→aU,sub_self→iq,mul_le_mul→xM
open Bool renaming and_eq_true→a7
open Go Go.Am
namespace T
def rR(par:List Int)(i:Nat):Nat->List (Int×Int)
 |0=>[]
 |c+1=>rR par i c++if par.getD (i+1+c) 0=i then [((i:Int),((i+1+c:Nat):Int))] else []
def mI(par:List Int)(n:Nat):Nat->List (Int×Int)
 |0=>[]
 |i+1=>mI par n i++rR par i (n-(i+1))
def ctU(ch:List (Int×Int)):Prop:=ch=[]\/∃ r c,ch=[(r,c)]/\(0<=r/\r<2)/\1<=c/\c<=40
def Ou(l:List dq):Prop:=∀ o∈l,ctU o.ch
def Ox(cls:List (List dq))(p:Pr):Prop:=p.ei=1/\(0<=p.fst/\p.fst<p.snd/\p.snd<cls.length)/\(p.aC.length:Int)=(cls.getD p.fst.toNat default).length*(cls.getD p.snd.toNat default).length/\∀ x∈p.aC,0<=x/\x<=38
structure ma(m:aj)(par:List Int):Prop where
 n:1<=m.cls.length/\m.cls.length<=5
 pl:par.length=m.cls.length
 pr:∀ i,i<par.length->-1<=par.getD i 0/\par.getD i 0<i
 cl:∀ l∈m.cls,(1<=l.length/\l.length<=3)/\Ou l
 fs:m.ae.map (λp=>(p.fst,p.snd))=mI par m.cls.length m.cls.length
 pt:∀ p∈m.ae,Ox m.cls p
 ct:m.aK=[]
 ru:m.rules=2
def iG(L:List Int)(k:Nat)(cls:List (List dq))(ae:List Pr)(par:List Int)(n:Nat):List Ob :=
 [.var [.tree 1 (ints L),OJ k],.var [.lit (.slice none 0 0),.lit (.slice none 0 0),.lit (.slice none 0 0),OJ 0],
  .var [.ref 4 1 0 cls.length,.ref 5 4 0 ae.length,.lit (.slice none 0 0),OJ 2],.arr 1 (ints (par++aI (n-par.length) 0)),.arr 1 (rowsOf bm cls),.arr 4 (rowsOf aL ae)]
def amM(par:List Int)(n:Nat)(h:par.length<n)(v:Int):(par++aI (n-par.length) 0).set par.length v=(par++[v])++aI (n-(par++[v]).length) 0:=by
 rw[List.set_append_right _ _ (aU _),iq,show n-par.length=(n-(par.length+1))+1 by omega,List.replicate_succ,List.set_cons_zero,bI,List.append_assoc];rfl
section
variable (cl:Nat->Nat->Nat)
def amR(t:List Int×List (List Int))(p:Nat):List Int×List (List Int) :=
 if t.1.getD (cl p 0) 0=t.1.getD (cl p 1) 0 then t else(lU t.1 (cl p 0) (t.1.getD (cl p 1) 0) t.1.length,(t.2.set (cl p 0) (t.2.getD (cl p 0) default++[(p:Int)])).set (cl p 1) (t.2.getD (cl p 1) default++[(p:Int)]))
def I4(n:Nat):Nat->List Int×List (List Int)
 |0=>((aY n).map λ(i:Nat)=>(i:Int),aI n [])
 |k+1=>amR cl (I4 n k) k
abbrev PL:=List (Nat×Nat)×List Bool
def CJ(up:PL->Nat->PL)(st:PL)(p s:Nat):PL :=
 if st.2.getD (cl p s) false=true then st else((up st (cl p s)).1++[(p,s)],(up st (cl p s)).2)
def AN(bJ:List (List Int)):Nat->PL->Nat->PL
 |0,st,_=>st
 |f+1,st,c=>(bJ.getD c default).foldl (λst p=>CJ cl (AN bJ f) (CJ cl (AN bJ f) st p.toNat 0) p.toNat 1) (st.1,st.2.set c true)
def CK(bJ:List (List Int))(n:Nat)(st:PL):Nat->PL
 |0=>st
 |c+1=>if(CK bJ n st c).2.getD c false=true then CK bJ n st c else AN cl bJ (n+1) (CK bJ n st c) c
def Ff(n k:Nat):List (Nat×Nat):=(CK cl (I4 cl n k).2 n ([],aI n false) n).1
end
section
variable {m:aj} {can:List (List Bool)}
def wC(m:aj)(can:List (List Bool))(W:WS)(l:List (Nat×Nat)):WS:=l.foldl (λW q=>qB m can W q.1 q.2) W
def amT(W:WS)(l:List (Nat×Nat))(q:Nat×Nat):wC m can W (l++[q])=qB m can (wC m can W l) q.1 q.2:=by unfold wC;rw[List.foldl_append];rfl
def uS(W:WS)(a:WS×List Bool)(b:PL):Prop:=a.1=wC m can W b.1/\a.2=b.2
def ac'{W:WS}{up:WS×List Bool->Nat->WS×List Bool}{us:PL->Nat->PL}(h:∀ a b c,uS (m:=m) (can:=can) W a b->uS (m:=m) (can:=can) W (up a c) (us b c)){a:WS×List Bool}{b:PL}(eX:uS (m:=m) (can:=can) W a b)(p s:Nat):
  uS (m:=m) (can:=can) W (uA m can up a p s) (CJ (ah m) us b p s):=by
 unfold uA CJ;rw[eX.2];split
 ·exact eX
 ·have h2:=h a b (ah m p s) eX;exact⟨by dsimp only;rw[amT,h2.1],h2.2⟩
def ada{α β γ:Type}{R:α->β->Prop}{f:α->γ->α}{g:β->γ->β}(h:∀ a b c,R a b->R (f a c) (g b c)):∀ (l:List γ) (a:α) (b:β),R a b->R (l.foldl f a) (l.foldl g b)
 |[],_,_,eX=>eX
 |c::l,a,b,eX=>ada h l _ _ (h a b c eX)
def OB(W:WS)(bJ:List (List Int)):∀ (f:Nat) (a:WS×List Bool) (b:PL) (c:Nat),uS (m:=m) (can:=can) W a b->uS (m:=m) (can:=can) W (gI m can bJ f a c) (AN (ah m) bJ f b c)
 |0,a,b,c,h=>h
 |f+1,a,b,c,h=>by
  rw[gI,AN];have h1:∀ (a:WS×List Bool) (b:PL) (p:Int),uS (m:=m) (can:=can) W a b->uS (m:=m) (can:=can) W (uA m can (gI m can bJ f) (uA m can (gI m can bJ f) a p.toNat 0) p.toNat 1) (CJ (ah m) (AN (ah m) bJ f) (CJ (ah m) (AN (ah m) bJ f) b p.toNat 0) p.toNat 1) :=
   λa b p h=>ac' (OB W bJ f) (ac' (OB W bJ f) h _ _) _ _
  have h2:uS (m:=m) (can:=can) W (a.1,a.2.set c true) (b.1,b.2.set c true):=⟨h.1,by rw[h.2]⟩;exact ada h1 (bJ.getD c default) _ _ h2
def adb(W:WS)(bJ:List (List Int)){a:WS×List Bool}{b:PL}(h:uS (m:=m) (can:=can) W a b):∀ c,uS (m:=m) (can:=can) W (kW m can bJ a c) (CK (ah m) bJ m.cls.length b c)
 |0=>h
 |c+1=>by
  have ih:=adb W bJ h c;rw[kW,CK];rw[ih.2];split
  ·exact ih
  ·exact OB W bJ _ _ _ _ ih
def ade:∀ k,k<=m.ae.length->jY m 0 k=I4 (ah m) m.cls.length k
 |0,_=>rfl
 |k+1,hk=>by
  rw[jY,I4,ade k CZ,Nat.add_zero,Nat.mod_eq_of_lt CZ];rfl
def amU(W:WS):nf m can W 0=wC m can W (Ff (ah m) m.cls.length m.ae.length):=by
 unfold nf Ff;rw[ade _ (aU _)];exact(adb W _ ⟨rfl,rfl⟩ _).1
end
def Fe(E:List (Int×Int))(p s:Nat):Nat:=(if s=0 then(E.getD p (0,0)).1 else(E.getD p (0,0)).2).toNat
def ac9{m:aj}{E:List (Int×Int)}(h:m.ae.map (λp=>(p.fst,p.snd))=E):ah m=Fe E:=by
 funext p s;unfold ah Fe bN;subst h;rw[az,az,List.getElem?_map];cases m.ae[p]?<;>rfl
def yV(cl:Nat->Nat->Nat):List (Nat×Nat)->Bool
 |[]=>true
 |q::r=>r.all (λx=>cl q.1 1 != cl x.1 0&&cl q.1 1 != cl x.1 1&&q.1 != x.1)&&yV cl r
def OC(cl:Nat->Nat->Nat)(k:Nat)(l:List (Nat×Nat)):Bool :=
 l.all (λq=>q.2==1&&decide (q.1<k))&&(aY k).all (λp=>l.any λq=>q.1==p)&&yV cl l&&decide (l.length<=5)
def Fc:Nat->List (List Int)
 |0=>[[]]
 |n+1=>(Fc n).flatMap λp=>(aY (n+1)).map λ(i:Nat)=>p++[(i:Int)-1]
def OA:∀ (n:Nat) (par:List Int),par.length=n->(∀ i,i<n->-1<=par.getD i 0/\par.getD i 0<i)->par∈Fc n
 |0,par,h,_=>by rw[List.length_eq_zero_iff.1 h];exact dI.2 rfl
 |n+1,par,h,hp=>by
  have bX:par≠[]:=by intro e;subst e;cases h
  have hd:=List.dropLast_concat_getLast bX;have hl:par.dropLast.length=n:=by rw[List.length_dropLast,h];rfl
  have amW:par.getD n 0=par.getLast bX:=by
   have e:(par.dropLast++[par.getLast bX]).getD n 0=par.getLast bX:=by
    rw[az,List.getElem?_append_right CZ,hl,iq];rfl
   rwa [hd]at e
  have hn:=hp n CZ;rw[amW]at hn;rw[Fc,List.mem_flatMap];refine⟨par.dropLast,OA n _ hl λi hi=>?_,?_⟩
  ·have:=hp i CZ;rw[<- hd,az,List.getElem?_append_left CZ,<- az]at this;exact this
  ·rw[List.mem_map];refine⟨(par.getLast bX+1).toNat,List.mem_range.2 CZ,?_⟩;rw[show(((par.getLast bX+1).toNat:Nat):Int)-1=par.getLast bX by omega];exact hd
def tG(n:Nat):Bool:=(Fc n).all λpar=>OC (Fe (mI par n n)) (mI par n n).length (Ff (Fe (mI par n n)) n (mI par n n).length)
def amX:tG 1=true/\tG 2=true/\tG 3=true/\tG 4=true/\tG 5=true:=by
 refine⟨?_,?_,?_,?_,?_⟩<;>decide +kernel
def amY{m:aj}{par:List Int}(h:ma m par):OC (ah m) m.ae.length (Ff (ah m) m.cls.length m.ae.length)=true:=by
 have hl:m.ae.length=(mI par m.cls.length m.cls.length).length:=by rw[<- h.fs,eu]
 rw[ac9 h.fs,hl];have hp:=OA m.cls.length par h.pl λi hi=>h.pr i (by rw[h.pl];exact hi);obtain⟨g1,g2,g3,g4,g5⟩:=amX;have hn:=h.n;have key:tG m.cls.length=true:=by
  obtain e|e|e|e|e:m.cls.length=1\/m.cls.length=2\/m.cls.length=3\/m.cls.length=4\/m.cls.length=5:=CZ
  ·exact(congrArg tG e).trans g1
  ·exact(congrArg tG e).trans g2
  ·exact(congrArg tG e).trans g3
  ·exact(congrArg tG e).trans g4
  ·exact(congrArg tG e).trans g5
 rw[tG,e8]at key;have amZ:=key par hp;exact amZ
structure FI(m:aj)(can:List (List Bool))(done:List Nat)(B:Int)(W:WS):Prop where
 sh:jx m W
 ow:∀ c i,c<m.cls.length->i<aD m c->c4 can c i=true->0<=dv W c i/\dv W c i<=B
 nw:∀ p,p<m.ae.length->p ∉ done->(∀ s o,eZ (ef p s o) W.am=0)/\∀ k i,k<aD m (ah m p 0)->i<aD m (ah m p 1)->0<=ek m W p k i/\ek m W p k i<=38
 dn:∀ p,p∈done->p<m.ae.length/\(∀ i,i<aD m (ah m p 1)->c4 can (ah m p 1) i=true->dv W (ah m p 1) i=0) /\
  ∀ k,k<aD m (ah m p 0)->c4 can (ah m p 0) k=true->(∀ i,i<aD m (ah m p 1)->c4 can (ah m p 1) i=true->0<=ek m W p k i)/\∃ i,i<aD m (ah m p 1)/\c4 can (ah m p 1) i=true/\ek m W p k i=0
section
variable {m:aj} {can:List (List Bool)} {W:WS}
def I5{U V:WS}{q:Nat}(h:∀ j,kG U q j=kG V q j)(k i:Nat):ek m U q k i=ek m V q k i:=h _
def FI.push{done:List Nat}{B:Int}(h:FI m can done B W)(hN:∀ p,p<m.ae.length->ni m p)(hex:∀ c,c<m.cls.length->∃ i,i<aD m c/\c4 can c i=true)(hB:0<=B/\B<=100000000){p:Nat}(hp:p<m.ae.length)(hd:p ∉ done)(hc:∀ d∈done,ah m d 1≠ah m p 0/\ah m d 1≠ah m p 1):FI m can (p::done) (2*B+38) (qB m can W p 1):=by
 have N:=hN p hp;obtain⟨n1,n2⟩:=h.nw p hp hd;have D:=aia N h.sh n1 hB (λi hi qG=>h.ow _ i N.hb hi qG) n2 (hex _ N.hb);refine⟨Vl h.sh p 1,λc i bz hi qG=>?_,λq hq I6=>?_,λq hq=>?_⟩
 ·have h1:=h.ow c i bz hi qG;by_cases e1:c=ah m p 1
  ·subst e1;rw[D.HC i hi qG];omega
  ·by_cases e0:c=ah m p 0
   ·subst e0;obtain⟨l,l1,l2⟩:=D.par i hi qG;omega
   ·rw[D.VA c i e0 e1];omega
 ·rw[a8,not_or]at I6;obtain⟨m1,m2⟩:=h.nw q hq I6.2;refine⟨λs o=>?_,λk i hk hi=>?_⟩
  ·rw[D.am q s o I6.1];exact m1 s o
  ·rw[I5 (λj=>D.aC q j I6.1)];exact m2 k i hk hi
 ·rcases a8.1 hq with rfl|hq
  ·exact⟨hp,D.HC,D.col⟩
  ·obtain⟨m0,m1,m2⟩:=h.dn q hq;have hqp:q≠p:=λe=>hd (e▸hq);have hqc:=hc q hq;refine⟨m0,λi hi qG=>?_,λk hk hck=>?_⟩
   ·rw[D.VA _ i hqc.1 hqc.2];exact m1 i hi qG
   ·have m3:=m2 k hk hck;refine⟨λi hi qG=>?_,?_⟩
    ·rw[I5 (λj=>D.aC q j hqp)];exact m3.1 i hi qG
    ·obtain⟨i,i1,i2,i3⟩:=m3.2;exact⟨i,i1,i2,by rw[I5 (λj=>D.aC q j hqp)];exact i3⟩
def adh{cl:Nat->Nat->Nat}{q:Nat×Nat}{r:List (Nat×Nat)}(h:yV cl (q::r)=true):(∀ x∈r,cl q.1 1≠cl x.1 0/\cl q.1 1≠cl x.1 1/\q.1≠x.1)/\yV cl r=true:=by
 rw[yV,a7,e8]at h;refine⟨λx hx=>?_,h.2⟩;have:=h.1 x hx;simp only[a7,bne_iff_ne]at this;exact⟨this.1.1,this.1.2,this.2⟩
def FI.list(hN:∀ p,p<m.ae.length->ni m p)(hex:∀ c,c<m.cls.length->∃ i,i<aD m c/\c4 can c i=true):∀ (l:List (Nat×Nat)) (done:List Nat) (B:Int) (W:WS),FI m can done B W->(0<=B/\(B+38)*2^l.length<=100000000)->(∀ q∈l,q.2=1/\q.1<m.ae.length)->yV (ah m) l=true ->
  (∀ d∈done,∀ q∈l,ah m d 1≠ah m q.1 0/\ah m d 1≠ah m q.1 1/\d≠q.1)->∃ B' Fg,FI m can Fg B' (wC m can W l)/\∀ p,(p∈done\/∃ q∈l,q.1=p)->p∈Fg
 |[],done,B,W,h,hB,_,_,_=>⟨B,done,h,λp hp=>by rcases hp with hp|⟨q,hq,_⟩;exact hp;cases hq⟩
 |q::l,done,B,W,h,hB,hl,hg,hd=>by
  obtain⟨g1,g2⟩:=adh hg;obtain⟨l1,l2⟩:=hl q Fl;have zY:(1:Int)<=2^l.length:=by
   have:(1:Nat)<=2^l.length:=Nat.one_le_two_pow
   exact_mod_cast this
  have xi:(B+38)*2^(q::l).length=(2*B+38+38)*2^l.length:=by
   rw[cV,Int.pow_succ,Int.mul_comm (2^l.length) 2,<- Int.mul_assoc];congr 1;omega
  rw[xi]at hB;have E':2*B+38+38<=100000000:=by
   have:=Int.mul_le_mul_of_nonneg_left zY (show 0<=2*B+38+38 by omega);omega
  have h1:=h.push hN hex CZ l2 (λe=>(hd q.1 e q Fl).2.2 rfl) (λd Cs=>by have:=hd d Cs q Fl;exact⟨this.1,this.2.1⟩);obtain⟨B',Fg,r1,r2⟩:=FI.list hN hex l (q.1::done) (2*B+38) _ h1 CZ (λx hx=>hl x (by simp[hx])) g2 (λd Cs x hx=>by
   rcases a8.1 Cs with rfl|Cs
   ·exact g1 x hx
   ·exact hd d Cs x (by simp[hx]))
  refine⟨B',Fg,?_,λp hp=>r2 p ?_⟩
  ·show FI m can Fg B' (wC m can (qB m can W q.1 q.2) l);rw[l1];exact r1
  ·rcases hp with hp|⟨x,hx,rfl⟩
   ·exact .inl (by simp[hp])
   ·rcases a8.1 hx with rfl|hx
    ·exact .inl Fl
    ·exact .inr ⟨x,hx,rfl⟩
def adi{P:Nat->Prop}(f:Nat->Int):∀ n,(∃ i,i<n/\P i)->∃ i,i<n/\P i/\∀ j,j<n->P j->f i<=f j
 |0,⟨i,h,_⟩=>CZ
 |n+1,⟨i,h1,h2⟩=>by
  by_cases e :∃i,i<n/\P i
  ·obtain⟨a,a1,a2,a3⟩:=adi f n e;by_cases e2:P n/\f n<f a
   ·refine⟨n,CZ,e2.1,λj hj hp=>?_⟩;by_cases e3:j=n
    ·subst e3;omega
    ·have:=a3 j CZ hp;omega
   ·refine⟨a,CZ,a2,λj hj hp=>?_⟩;by_cases e3:j=n
    ·subst e3;rcases Int.lt_or_le (f j) (f a) with h|h
     ·exact absurd ⟨hp,h⟩ e2
     ·exact h
    ·exact a3 j CZ hp
  ·have e2:i=n:=by
    rcases Nat.lt_or_ge i n with h|h
    ·exact absurd ⟨i,h,h2⟩ e
    ·omega
   subst e2;refine⟨i,h1,h2,λj hj hp=>?_⟩;by_cases e3:j=i
   ·subst e3;omega
   ·exact absurd ⟨j,CZ,hp⟩ e
def FI.an{done:List Nat}{B:Int}(h:FI m can done B W)(hN:∀ p,p<m.ae.length->ni m p)(fk:∀ p,p<m.ae.length->p∈done)(hex:∀ c,c<m.cls.length->∃ i,i<aD m c/\c4 can c i=true)(ba:∀ p,p<m.ae.length->ah m p 0<ah m p 1)(yw:∀ p q,p<m.ae.length->q<m.ae.length->ah m p 1=ah m q 1->p=q):∀ n,n<=m.cls.length ->
  ∃ f:Nat->Nat,(∀ c,c<n->f c<aD m c/\c4 can c (f c)=true/\∀ i,i<aD m c->c4 can c i=true->dv W c (f c)<=dv W c i)/\∀ p,p<m.ae.length->ah m p 1<n->ek m W p (f (ah m p 0)) (f (ah m p 1))=0
 |0,_=>⟨λ_=>0,λc hc=>CZ,λp _ hc=>CZ⟩
 |n+1,hn=>by
  obtain⟨f,f1,f2⟩:=h.an hN fk hex ba yw n CZ;have ext:∀ o,(o<aD m n/\c4 can n o=true/\∀ i,i<aD m n->c4 can n i=true->dv W n o<=dv W n i)->(∀ p,p<m.ae.length->ah m p 1=n->ek m W p (f (ah m p 0)) o=0) ->
    ∃ f:Nat->Nat,(∀ c,c<n+1->f c<aD m c/\c4 can c (f c)=true/\∀ i,i<aD m c->c4 can c i=true->dv W c (f c)<=dv W c i)/\∀ p,p<m.ae.length->ah m p 1<n+1->ek m W p (f (ah m p 0)) (f (ah m p 1))=0:=by
   intro o o1 o2;refine⟨λc=>if c=n then o else f c,λc hc=>?_,λp hp hc=>?_⟩
   ·by_cases e:c=n
    ·subst e;simp only[if_true];exact o1
    ·simp only[e,if_false];exact f1 c CZ
   ·have hl:=ba p hp;dsimp only;rw[if_neg (show ¬ ah m p 0=n by omega)];by_cases e:ah m p 1=n
    ·rw[if_pos e];exact o2 p hp e
    ·rw[if_neg e];exact f2 p hp CZ
  by_cases e :∃p,p<m.ae.length/\ah m p 1=n
  ·obtain⟨p,p1,p2⟩:=e;obtain⟨_,d1,d2⟩:=h.dn p (fk p p1);have hl:=ba p p1;obtain⟨g1,g2,_⟩:=f1 (ah m p 0) CZ;obtain⟨i,i1,i2,i3⟩:=(d2 _ g1 g2).2;rw[p2]at i1 i2 d1;refine ext i ⟨i1,i2,λj hj hc=>?_⟩ λq q1 q2=>?_
   ·rw[d1 i i1 i2,d1 j hj hc];omega
   ·have:q=p:=yw q p q1 p1 (q2.trans p2.symm);subst this;exact i3
  ·obtain⟨o,o1,o2,o3⟩:=adi (P:=λi=>c4 can n i=true) (λi=>dv W n i) (aD m n) (hex n CZ);exact ext o ⟨o1,o2,o3⟩ λp p1 p2=>absurd ⟨p,p1,p2⟩ e
end
def CL(a b:Int×Int):Prop:=a.1<b.1\/(a.1=b.1/\a.2<b.2)
def I7(par:List Int)(i:Nat):∀ c,∀ q∈rR par i c,q.1=(i:Int)/\q.2<((i+1+c:Nat):Int)
 |0,q,h=>by cases h
 |c+1,q,h=>by
  rw[rR,da]at h;rcases h with h|h
  ·have:=I7 par i c q h;omega
  ·split at h
   ·rw[dI]at h;subst h;dsimp only;omega
   ·cases h
def adj(par:List Int)(n:Nat):∀ i,∀ q∈mI par n i,q.1<(i:Int)
 |0,q,h=>by cases h
 |i+1,q,h=>by
  rw[mI,da]at h;rcases h with h|h
  ·have:=adj par n i q h;omega
  ·have:=(I7 par i _ q h).1;omega
def adk(par:List Int)(i:Nat):∀ c,(rR par i c).Pairwise CL
 |0=>.nil
 |c+1=>by
  rw[rR,List.pairwise_append];refine⟨adk par i c,by split<;>simp,λa ha b hb=>?_⟩;have h1:=I7 par i c a ha;split at hb
  ·rw[dI]at hb;subst hb;exact .inr ⟨h1.1,h1.2⟩
  ·cases hb
def adl(par:List Int)(n:Nat):∀ i,(mI par n i).Pairwise CL
 |0=>.nil
 |i+1=>by
  rw[mI,List.pairwise_append];refine⟨adl par n i,adk par i _,λa ha b hb=>.inl ?_⟩;have h1:=adj par n i a ha;have h2:=(I7 par i _ b hb).1;omega
def adm(par:List Int)(i:Nat):∀ c,(rR par i c).length<=c
 |0=>aU _
 |c+1=>by
  rw[rR,bI];have:=adm par i c;split<;>simp<;>omega
def adn(par:List Int)(n:Nat):∀ i,(mI par n i).length<=i*n
 |0=>by rw[Nat.zero_mul];exact aU _
 |i+1=>by
  rw[mI,bI,Nat.succ_mul];have:=adn par n i;have:=adm par i (n-(i+1));omega
def ado{m:aj}:∀ (l:List Pr) (q:Option Pr),(∀ p∈l,iD m p=true/\p.ei=1)->l.Pairwise (λa b=>CL (a.fst,a.snd) (b.fst,b.snd))->(∀ p,q=some p->p.ei=1/\∀ x∈l.head?,CL (p.fst,p.snd) (x.fst,x.snd))->gp m q l=true
 |[],q,_,_,_=>by cases q<;>rfl
 |p::r,q,h,hp,hq=>by
  rw[List.pairwise_cons]at hp;have ih:=ado r (some p) (λx hx=>h x (dx _ hx)) hp.2 λy hy=>by
   cases hy;exact⟨(h p Fl).2,λx hx=>hp.1 x (List.mem_of_mem_head? hx)⟩
  have h1:=h p Fl;cases q with
  |none=>rw[gp,ih,h1.1];rfl
  |some q =>
   rw[gp,ih,h1.1,Bool.and_true,Bool.true_and,decide_eq_true_eq];obtain⟨h2,h3⟩:=hq q rfl;have h4:=h3 p rfl;unfold nm;rw[h2,h1.2];unfold CL at h4;dsimp only at h4;unfold kh;simp only[qJ];repeat' split
   all_goals omega
def ma.vm{m:aj}{par:List Int}(h:ma m par):VM m:=by
 have iL:m.ae.length<=25:=by
  have h1:=congrArg List.length h.fs;rw[eu]at h1;have h2:=adn par m.cls.length m.cls.length;have h3:m.cls.length*m.cls.length<=5*5:=xM h.n.2 h.n.2;omega
 have zY:m.ae.Pairwise (λa b=>CL (a.fst,a.snd) (b.fst,b.snd)):=by
  have h1:=adl par m.cls.length m.cls.length;rw[<- h.fs,List.pairwise_map]at h1;exact h1
 refine⟨by have:=h.n;omega,λl hl=>by have:=(h.cl l hl).1;omega,CZ,by rw[h.ct];decide,by rw[h.ru];decide,λl hl o ho=>?_,ado _ _ (λp hp=>?_) zY (λp hp=>by cases hp),λc hc=>by rw[h.ct]at hc;cases hc⟩
 ·rcases(h.cl l hl).2 o ho with h1|⟨r,c,h1,h2,h3⟩
  ·rw[h1];rfl
  ·rw[h1,h.ru];unfold gy k8 lB gy;simp;omega
 ·obtain⟨h1,h2,h3,h4⟩:=h.pt p hp;refine⟨?_,h1⟩;unfold iD k8;rw[h1,h.ru];simp only[a7,Bool.not_eq_true',decide_eq_true_eq];refine⟨⟨Fs,CZ,h2.2.1,h2.2.2,h3⟩,?_⟩;rw[<- Bool.not_eq_true,List.any_eq_true];rintro⟨x,hx,hb⟩;have:=h4 x hx;unfold pG lB at hb;simp at hb;omega
def I8:List (List dq)->Nat
 |[]=>1
 |l::r=>max 1 l.length*I8 r
def adp{b:Nat}(hb:1<=b):∀ cls:List (List dq),(∀ l∈cls,l.length<=b)->I8 cls<=b^cls.length
 |[],_=>aU _
 |l::r,h=>by
  rw[I8,cV,Nat.pow_succ,Nat.mul_comm];exact xM (adp hb r λx hx=>h x (dx _ hx)) (by have:=h l Fl;omega)
structure M28(m:aj):Prop where
 om:mF 5 m
 cap:I8 m.cls<10000
def M28.of{m:aj}(h:mF 5 m)(h4:∀ l∈m.cls,l.length<=4):M28 m :=
 ⟨h,Nat.lt_of_le_of_lt (adp Fs _ h4) (Nat.lt_of_le_of_lt (Nat.pow_le_pow_right Fs h.vX) Fs)⟩
end T

