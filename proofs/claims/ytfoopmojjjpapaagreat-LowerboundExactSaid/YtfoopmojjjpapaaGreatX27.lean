import Derived.Test.YtfoopmojjjpapaaGreatX21
import Derived.Test.YtfoopmojjjpapaaGreatX26
set_option linter.all false
set_option maxHeartbeats 0
set_option maxRecDepth 20000
open List renaming mem_cons→bm,not_mem_nil→iT,all_eq_true→gd,mem_reverse→wq,flatMap_cons→xJ,length→kC,length_map→fF,getElem?_map→bV,getElem?_eq_getElem→bq,getD_eq_getElem?_getD→ax,length_append→bL,length_cons→cX,take_zero→lZ,getElem_of_mem→kX,length_take→fe,append_assoc→bz,take_length→ze,length_drop→yZ,cons_append→ek,getElem?_append_right→gZ,map_take→E3,take_of_length_le→cZ,set_append_right→CN,set_cons_succ→oY,set_cons_zero→oX,flatMap_append→tS
open Bool renaming and_eq_true→bg,eq_false_iff→CL
open Nat renaming zero_le→aW,not_lt_zero→sc,reduceBEq→rh,le_of_eq→IX
open Int renaming toNat_of_nonneg→ss
open Option renaming map_none→p7
open Go Go.Am Go.Proofs
namespace T
abbrev dS:=Nat×List (List Bool)×List Int
def rR:List Int->AV
 |[]=>.lit (.slice none 0 0)
 |x::r=>.tree 1 (ints (x::r))
def lU(s:dS):List AV:=[Oi s.1,.tree 1 (rowsOf ay s.2.1),rR s.2.2]
def Vf(l:List Int):(∃ y,rR l=AV.lit y/\y.oneCell'=true)\/∃ s r,rR l=.tree s r:=by
 cases l with
 |nil=>exact .inl ⟨_,rfl,rfl⟩
 |cons x r=>exact .inr ⟨_,_,rfl⟩
def Vg(l:List Int)(x:Value):mK [rR l,.lit x]=true:=by cases l<;>rfl
def ags(l:List Int):cR (rR l)=true:=by cases l<;>rfl
instance:Row lU 3:=⟨λ_=>rfl,λx v hv=>by
 simp only[lU,bm,iT,or_false]at hv;rcases hv with rfl|rfl|rfl
 ·exact .inl ⟨_,rfl,rfl⟩
 ·exact .inr ⟨_,_,rfl⟩
 ·exact Vf _⟩
def nd(P:List Nd)(i:Nat):Nd:=P.getD i default
def lg(P:List Nd)(s:dS)(o:Nat):dS:=(((nd P s.1).kids.getD o 0).toNat,db s.2.1 (nd P s.1).cls.toNat o,s.2.2++[(nd P s.1).cls])
def iO(P:List Nd)(s:dS)(n:Nat):List dS:=(List.range n).map (lg P s)
def qF(P:List Nd)(s:dS):List dS:=iO P s (nd P s.1).kids.length
def Vh(P:List Nd)(s:dS)(n:Nat):iO P s (n+1)=iO P s n++[lg P s n]:=by unfold iO;rw[List.range_succ,List.map_append];rfl
def uH(P:List Nd):Nat->dS->List dS
 |0,_=>[]
 |f+1,s=>s::((qF P s).reverse.flatMap (uH P f))
def vs(P:List Nd)(s:dS):List dS:=uH P (P.length-s.1) s
def Down(P:List Nd):Prop:=∀ i,i<P.length->∀ k∈(nd P i).kids,(i:Int)<k/\k<P.length
def He{m:ah}{P:List Nd}(h:km m P=true){i:Nat}(hi:i<P.length):ln m P.length i (nd P i)=true:=by
 cases hb:ln m P.length i (nd P i) with
 |true=>rfl
 |false=>rw[SZ hi hb]at h;cases h
def yk{m:ah}{P:List Nd}(h:km m P=true):Down P:=λi hi k hk=>by
 have:=He h hi;unfold ln at this;rw[bg,gd]at this;have h2:=this.2 k hk;unfold pF at h2;exact of_decide_eq_true h2
def U8{m:ah}{P:List Nd}(h:km m P=true):1<=P.length/\P.length<=20000:=by
 by_cases hs:1<=P.length/\P.length<=20000
 ·exact hs
 ·rw[S1 hs]at h;cases h
def wS{P:List Nd}{s t:dS}(h:t∈qF P s):∃o,o<(nd P s.1).kids.length/\t=lg P s o:=by
 unfold qF iO at h;obtain⟨o,ho,rfl⟩:=List.mem_map.1 h;exact⟨o,List.mem_range.1 ho,rfl⟩
def yF{P:List Nd}(hd:Down P){s:dS}(hs:s.1<P.length){o:Nat}(ho:o<(nd P s.1).kids.length):s.1<(lg P s o).1/\(lg P s o).1<P.length/\(((lg P s o).1:Nat):Int)=(nd P s.1).kids.getD o 0:=by
 have:=hd s.1 hs _ (aE (l:=(nd P s.1).kids) (i:=o) (d:=0) ho);unfold lg;dsimp only;omega
def agt{P:List Nd}(hd:Down P):∀ (f:Nat) (s:dS),s.1<P.length->P.length-s.1<=f->uH P f s=uH P (P.length-s.1) s:=by
 intro f
 induction f using Nat.strongRecOn with
 |_ f ih =>
  intro s hs hf;cases f with
  |zero=>omega
  |succ f =>
   obtain⟨g,hg⟩:∃g,P.length-s.1=g+1:=⟨P.length-s.1-1,AT⟩;rw[hg,uH,uH];refine congrArg _ ?_;have key:∀ t∈(qF P s).reverse,uH P f t=uH P g t:=λt ht=>by
    obtain⟨o,ho,rfl⟩:=wS (wq.1 ht);obtain⟨h1,h2,_⟩:=yF hd hs ho;rw[ih f AT _ h2 AT,ih g AT _ h2 AT]
   generalize (qF P s).reverse=L at key
   induction L with
   |nil=>rfl
   |cons t L D3=>rw[xJ,xJ,key t IM,D3 λu hu=>key u (by simp[hu])]
def wR{P:List Nd}(hd:Down P){s:dS}(hs:s.1<P.length):vs P s=s::(qF P s).reverse.flatMap (vs P):=by
 unfold vs;obtain⟨g,hg⟩:∃g,P.length-s.1=g+1:=⟨P.length-s.1-1,AT⟩;rw[hg,uH];refine congrArg _ ?_;have key:∀ t∈(qF P s).reverse,uH P g t=uH P (P.length-t.1) t:=λt ht=>by
  obtain⟨o,ho,rfl⟩:=wS (wq.1 ht);obtain⟨h1,h2,_⟩:=yF hd hs ho;exact agt hd g _ h2 AT
 generalize (qF P s).reverse=L at key
 induction L with
 |nil=>rfl
 |cons t L D3=>rw[xJ,xJ,key t IM,D3 λu hu=>key u (by simp[hu])]
def kP{α:Type}(P:List Nd)(step:α->dS->α×Bool):List dS->α->α×Bool
 |[],a=>(a,true)
 |s::L,a=>if s.2.2.contains (nd P s.1).cls=true then(a,false) else if(step a s).2=true then kP P step L (step a s).1 else((step a s).1,false)
def root(m:ah):dS:=(0,cg m,[])
def rQ{α:Type}(m:ah)(P:List Nd)(step:α->dS->α×Bool)(a:α):α×Bool :=
 if iB m=0/\km m P=true then kP P step (vs P (root m)) a else(a,false)
def xg(m:ah)(P:List Nd)(s:dS):Prop:=s.1<P.length/\cp m s.2.1/\s.2.2.length<=s.1
def BD{m:ah}{x y:List (List Bool)}(h:cp m x)(he:y.map kC=x.map kC):cp m y:=by
 have hl:=congrArg kC he;rw[fF,fF]at hl;refine⟨by rw[hl];exact h.1,λi hi=>?_⟩;have h2:=congrArg (λz=>z[i]?) he;simp only[bV]at h2;rw[bq hi,bq AT]at h2;simp only[Option.map_some,Option.some.injEq]at h2;rw[<- h.2 i AT,ax,ax,bq hi,bq AT];exact h2
def U4 {m:ah} {P:List Nd} (hd:Down P) {s:dS} (h:xg m P s) {o:Nat} (ho:o<(nd P s.1).kids.length):xg m P (lg P s o) :=
  ⟨(yF hd h.1 ho).2.1,BD h.2.1 (BE _ _ _),by
    have h1:=(yF hd h.1 ho).1
    have h2:=h.2.2
    show (s.2.2++[_]).length<=_
    rw[bL,List.length_singleton];omega⟩
def zP{m:ah}(h:VM m):cp m (cg m):=by
 unfold cg;rw[if_pos (jD.2 h)];refine⟨by simp[cu],λi hi=>?_⟩;have ar:i<m.cls.length:=by simpa [cu] using hi
 unfold cu;rw[gR _ _ _ ar,List.length_replicate]
def Ab:List dS->Prop
 |[]=>True
 |t::T=>T.length<=24*t.1/\Ab T
def Ab.push{T:List dS}{i:Nat}(h:Ab T)(hT:T.length<=24*i):∀ (L:List dS),(∀ t∈L,i<t.1)->L.length<=24->Ab (L++T)
 |[],_,_=>h
 |t::L,hl,hn=>by
  have h1:=hl t IM;have h2:=Ab.push h hT L (λu hu=>hl u (by simp[hu])) (by simp at hn;omega);refine⟨?_,h2⟩;simp only[cX]at hn;show(L++T).length<=_;rw[bL];omega
def agu(n:Int):Holds Tryz.prog 128 [Oi n] [] (.lit (.bool (n != 1))) []:=by
 refine Holds.aN 5 0 [.tmp 2] Tryz.func128 ?_;refine Vb X0 ?_;exact aU rfl rfl
def agv(m:ah)(P:List Nd)(hm:VM m)(hP:PB P):Holds Tryz.prog 95 [.agg (aq m),.agg (cz P)] [] (.lit (.bool (km m P))) []:=by
 have Aa:=hP.KV;have mY:=hm.cls;generalize an:km m P=res;refine Holds.aN 136 0 [.tmp 4] Tryz.func95 ?_;by_cases aJ:1<=P.length/\P.length<=20000;rotate_left
 ·rw[S1 aJ]at an;subst an;((repeat'(first|refine Vb @cz.eq_1 ?_|(refine V2 @cz.eq_1 ?_ ?_<;>try with_reducible intro hb)|(refine Xi ?_ ?_<;>try intro ht)|exact Xx|fail)))
  all_goals exact aU rfl rfl
 obtain⟨jx,j3⟩:=aJ;((repeat'(first|refine Vb @cz.eq_1 ?_|(refine V2 @cz.eq_1 ?_ ?_<;>try with_reducible intro hb)|(refine Xi ?_ ?_<;>try intro ht)|exact Xx|fail)))
 refine bb (λi:Nat=>(⟨ao [(2,.ptr 0 0 0),(3,.ptr 1 0 0),(5,.ref 2 1 0 P.length),(25,.tree 5 (rowsOf aM P)),(26,Oi P.length),(27,Oi i)],[.var (aq m),.var (cz P),.arr 1 (ints (jT P.length (iQ (P.take i))))]⟩:St))
  (λi=>i<=P.length/\∀ a,a<i->ln m P.length a (P.getD a default)=true) (λi=>P.length-i) 0 ⟨aW _,λa ha=>absurd ha (sc _)⟩ (by rw[lZ];show aF _ _ ⟨_,[_,_,.arr 1 (ints (jT P.length []))]⟩;rw[afk];exact Xv (X2 @cz.eq_1 @Ja)) ?_
 rintro i⟨hi,eT⟩Ql ak au;by_cases ar:i<P.length
 ·have cq:=aE (l:=P) (i:=i) (d:=default) ar;have b1:=hP.kids _ cq;have b2:=hP.dT _ cq;have b3:=hP.aT _ cq;have b4:=hP.cells _ cq;have eM:=ei ar;have Hh:∀ l,iQ (P.take (i+1))=iQ (P.take i)++l↔l=(P.getD i default).kids:=λl=>by rw[eM,SY];exact⟨λh=>(List.append_cancel_left h).symm,λh=>by rw[h]⟩
  have lV:=SZ (m:=m) ar;have hlen:=SX (n:=0) hm (P.take i) λy hy=>by
   obtain⟨a,ha,rfl⟩:=kX hy;rw[fe]at ha;have:=eT a AT;unfold ln at this;rw[bg,ax,bq AT]at this;simpa using this.1
  rw[fe]at hlen;generalize cS:P.getD i default=x at *;obtain⟨c,kids,dT,aT,cells⟩:=x;dsimp only at b1 b2 b3 b4 Hh;have Hh:=(Hh _).2 rfl;have bx:¬(nf m ⟨c,kids,dT,aT,cells⟩=true)->res=false:=λh=>by
   rw[<- an];refine lV ?_;unfold ln;rw[CL.2 h,Bool.false_and]
  have hkb:∀ j,j<kids.length->¬(pF P.length i (kids.getD j 0)=true)->res=false:=λj hj h=>by
   rw[<- an];refine lV ?_;unfold ln;have:kids.all (pF P.length i)=false:=by
    rw[CL];intro h2;rw[gd]at h2;exact h (h2 _ (aE hj))
   dsimp only;rw[this,Bool.and_false]
  clear lV;generalize vq:m.cls.getD c.toNat default=wl at *;have Hi:0<=c/\c<m.cls.length->wl.length<=24:=λh=>by rw[<- vq];exact hm.opt _ (aE AT)
  by_cases kq:nf m ⟨c,kids,dT,aT,cells⟩=true;rotate_left
  ·have hr:=bx kq;unfold nf at kq;dsimp only at kq;rw[vq]at kq;by_cases gn:c = -1
   ·rw[if_pos gn,decide_eq_true_eq]at kq;((repeat'(first|refine Va (X3 @cz.eq_1 @cS @aM.eq_1) ?_|(refine V2 (X3 @cz.eq_1 @cS @aM.eq_1) ?_ ?_<;>try with_reducible intro hb)|(refine Xi ?_ ?_<;>try intro ht)|exact Xx|fail)))
    all_goals
     repeat(refine Xu ?_)
     ((repeat'(first|refine Vb X0 ?_|fail)))
     exact aU rfl (by rw[hr])
   ·rw[if_neg gn,decide_eq_true_eq]at kq;by_cases aA:0<=c/\c<m.cls.length
    ·have Hi:=Hi aA;((repeat'(first|refine Va (X5 @cz.eq_1 @cS @aM.eq_1 @vq @aV.eq_1) ?_|(refine V2 (X5 @cz.eq_1 @cS @aM.eq_1 @vq @aV.eq_1) ?_ ?_<;>try with_reducible intro hb)|(refine Xi ?_ ?_<;>try intro ht)|exact Xx|fail)))
     all_goals
      repeat(refine Xu ?_)
      ((repeat'(first|refine Vb X0 ?_|fail)))
      exact aU rfl (by rw[hr])
    ·((repeat'(first|refine Va (X3 @cz.eq_1 @cS @aM.eq_1) ?_|(refine V2 (X3 @cz.eq_1 @cS @aM.eq_1) ?_ ?_<;>try with_reducible intro hb)|(refine Xi ?_ ?_<;>try intro ht)|exact Xx|fail)))
     all_goals
      repeat(refine Xu ?_)
      ((repeat'(first|refine Vb X0 ?_|fail)))
      exact aU rfl (by rw[hr])
  have Lv:=GY hm kq;have Ad:(∀ j,j<kids.length->pF P.length i (kids.getD j 0)=true)->ln m P.length i ⟨c,kids,dT,aT,cells⟩=true:=λh=>by
   unfold ln;rw[kq,Bool.true_and,gd];intro k hk;obtain⟨j,hj,rfl⟩:=kX hk;have:=h j hj;rwa [ax,bq hj]at this
  dsimp only at Lv;repeat'(first|((fail_if_success (first|refine eO 7 ?_|refine eP 7 ?_));refine Xr (X3 @cz.eq_1 @cS @aM.eq_1) ?_;intro K hK)|(refine hK _ ?_;clear hK K)|(refine Xi ?_ ?_<;>try intro ht)|refine Xy ?_|refine Xd ?_ ?_|exact Xx|fail)
  (refine agx ?_);intro Q0 kj gP
  refine sv ⟨ao [(2,.ptr 0 0 0),(3,.ptr 1 0 0),(5,.ref 2 1 0 P.length),(6,Oi i),(7,.ptr 3 0 0),(25,.tree 5 (rowsOf aM P)),(26,Oi P.length),(27,Oi i)],[.var (aq m),.var (cz P),.arr 1 (ints (jT P.length (iQ (P.take i)))),.var (aM ⟨c,kids,dT,aT,cells⟩)]⟩ kj ?_ (λkey=>?_);rotate_left
  ·(try clear kj)
   unfold nf at kq;dsimp only at kq;rw[vq]at kq;by_cases gn:c = -1
   ·rw[if_pos gn,decide_eq_true_eq]at kq;((repeat'(first|refine Va (X3 @cz.eq_1 @cS @aM.eq_1) ?_|(refine V2 (X3 @cz.eq_1 @cS @aM.eq_1) ?_ ?_<;>try with_reducible intro hb)|(refine Xi ?_ ?_<;>try intro ht)|exact Xx|fail)))
    all_goals
     refine key _ ?_;exact Xv (X2 @cz.eq_1 @aM.eq_1)
   ·rw[if_neg gn,decide_eq_true_eq]at kq;have Hi:=Hi ⟨kq.1,kq.2.1⟩;((repeat'(first|refine Va (X5 @cz.eq_1 @cS @aM.eq_1 @vq @aV.eq_1) ?_|(refine V2 (X5 @cz.eq_1 @cS @aM.eq_1 @vq @aV.eq_1) ?_ ?_<;>try with_reducible intro hb)|(refine Xi ?_ ?_<;>try intro ht)|exact Xx|fail)))
    all_goals
     refine key _ ?_;exact Xv (X2 @cz.eq_1 @aM.eq_1)
  (try clear kj;try clear gP)
  refine Va (X2 @cz.eq_1 @aM.eq_1) ?_;refine bb (λj:Nat=>(⟨ao [(2,.ptr 0 0 0),(3,.ptr 1 0 0),(5,.ref 2 1 0 P.length),(6,Oi i),(25,.tree 5 (rowsOf aM P)),(26,Oi P.length),(27,Oi i),(108,.tree 1 (ints kids)),(109,Oi kids.length),(110,Oi j)],[.var (aq m),.var (cz P),.arr 1 (ints (jT P.length (iQ (P.take i)++kids.take j)))]⟩:St))
   (λj=>j<=kids.length/\∀ a,a<j->pF P.length i (kids.getD a 0)=true) (λj=>kids.length-j) 0 ⟨aW _,λa ha=>absurd ha (sc _)⟩ (by rw[lZ,List.append_nil];exact Xs false [0,1,2] @cz.eq_1) ?_
  rintro j⟨hj,Vi⟩dL bO bQ;by_cases fJ:j<kids.length
  ·have gV:=ei fJ;have hkd:kids.getD j default=kids.getD j 0:=rfl;have agz:=hkb j fJ;rw[hkd]at gV;have jl:(iQ (P.take i)++kids.take j).length<=24*P.length+24:=by rw[bL,fe];omega
   generalize jU:kids.getD j 0=k at *;by_cases D4:pF P.length i k=true;rotate_left
   ·have hr:=agz D4;unfold pF at D4;rw[decide_eq_true_eq]at D4;((repeat'(first|refine Va (X2 @cz.eq_1 @jU) ?_|(refine V2 (X2 @cz.eq_1 @jU) ?_ ?_<;>try with_reducible intro hb)|(refine Xi ?_ ?_<;>try intro ht)|exact Xx|fail)))
    all_goals
     repeat(refine Xu ?_)
     ((repeat'(first|refine Vb X0 ?_|fail)))
     exact aU rfl (by rw[hr])
   have Vj:=D4;unfold pF at Vj;rw[decide_eq_true_eq]at Vj;have QJ:=afl (n:=P.length) (l:=iQ (P.take i)++kids.take j) (j:=k.toNat) AT;have eG:=GX P.length (iQ (P.take i)++kids.take j);have er:=afj P.length (iQ (P.take i)++kids.take j) k.toNat AT;rw[ss AT,bz,<- gV]at er;((repeat'(first|refine Va (X3 @cz.eq_1 @jU @eG) ?_|(refine V2 (X3 @cz.eq_1 @jU @eG) ?_ ?_<;>try with_reducible intro hb)|(refine Xi ?_ ?_<;>try intro ht)|exact Xx|fail)))
   refine bO _ (j+1) ⟨AT,λa ha=>?_⟩ AT (by rw[er];exact Xv @cz.eq_1);by_cases e:a=j
   ·subst e;rw[jU];exact D4
   ·exact Vi a AT
  ·obtain rfl:j=kids.length:=AT;rw[ze,<- Hh];((repeat'(first|refine Va X0 ?_|(refine V2 X0 ?_ ?_<;>try with_reducible intro hb)|(refine Xi ?_ ?_<;>try intro ht)|exact Xx|fail)))
   refine bQ _ _ rfl ?_;clear bO bQ dL;repeat(refine Xu ?_)
   refine Va X0 ?_;refine ak _ (i+1) ⟨AT,λa ha=>?_⟩ AT (Xv @cz.eq_1);by_cases e:a=i
   ·subst e;rw[cS];exact Ad Vi
   ·exact eT a AT
 ·obtain rfl:i=P.length:=AT;rw[ze];have kr:=S2 (m:=m) ⟨jx,j3⟩ eT;rw[an]at kr;have vJ:=Vk ((jT P.length (iQ P)).drop 1) 128 [] [] (λx=>x != 1) (by rw[yZ,GX];omega) (λx _=>agu x);have eG:=GX P.length (iQ P);have Lj:(ints (jT P.length (iQ P))).drop 1=ints ((jT P.length (iQ P)).drop 1):=by unfold ints;rw[List.map_drop]
  have vK:((jT P.length (iQ P)).drop 1).length=P.length-1:=by rw[yZ,GX]
  ((repeat'(first|refine Va X0 ?_|(refine Xi ?_ ?_<;>try intro ht)|exact Xx|fail)))
  refine au _ _ rfl ?_;clear ak au Ql;repeat(refine Xu ?_)
  generalize jT P.length (iQ P)=pc at *;refine cd (σ':=⟨ao [(5,.tree 1 (ints pc))],[]⟩) (by rw[<- eG];exact Xs true [] X0) ?_;((repeat'(first|refine Vd (X4 @eG @Lj @vK @p7.{0,0}) vJ ?_|refine VD ?_ ?_|fail)))
  ·intro _;trivial
  exact aU rfl (by rw[kr])
structure agA(α:Type)(m:ah)(P:List Nd)(A B C:α->Ob)(bF:List AV)(g:FuncId)(step:α->dS->α×Bool)(Inv:α->List dS->Prop):Prop where
 ra:∀ (ρ:Nat->Nat),ρ 0=0->ρ 1=1->ρ 2=2->∀ a,bM ρ (A a)=A a/\bM ρ (B a)=B a/\bM ρ (C a)=C a
 rc:∀ (ρ:Nat->Nat),ρ 0=0->ρ 1=1->ρ 2=2->∀ v∈bF,bj ρ v=v
 inv:∀ a s L,xg m P s->Inv a (s::L)->Inv (step a s).1 L
 call:VM m->∀ a s L,xg m P s->Inv a (s::L)->Holds Tryz.prog g (.agg [.lit (.int .i64 s.1),.tree 1 (rowsOf ay s.2.1)]::bF) [A a,B a,C a] (.lit (.bool (step a s).2)) [A (step a s).1,B (step a s).1,C (step a s).1]
def Lw{σ:St}{kp:Nat->Prop}{ρ:Nat->Nat}{snap:Bool}:∀ (l:List AV),(∀ v∈l,bj ρ v=v)->mf (bT σ kp ρ snap) l l
 |[],_=>trivial
 |v::l,h=>⟨.eq (h v IM).symm,Lw l λx hx=>h x (by simp[hx])⟩
def agc{α:Type}(m:ah)(P:List Nd)(hm:MB m)(hP:PB P)(A B C:α->Ob)(bF:List AV)(g:FuncId)(step:α->dS->α×Bool){Inv:α->List dS->Prop}(hE:agA α m P A B C bF g step Inv)(a:α)(hI:VM m->km m P=true->Inv a (vs P (root m))):
  Holds Tryz.prog 65 [.agg (aq m),.agg (cz P),.fn g bF] [A a,B a,C a] (.lit (.bool (rQ m P step a).2)) [A (rQ m P step a).1,B (rQ m P step a).1,C (rQ m P step a).1]:=by
 have hv:=D5 m hm;have Aa:=hP.KV;have pM:∀ n l a,bM (bC n (0::1::2::l)) (A a)=A a:=λn l a=>(hE.ra _ rfl rfl rfl a).1;have pN:∀ n l a,bM (bC n (0::1::2::l)) (B a)=B a:=λn l a=>(hE.ra _ rfl rfl rfl a).2.1;have pO:∀ n l a,bM (bC n (0::1::2::l)) (C a)=C a:=λn l a=>(hE.ra _ rfl rfl rfl a).2.2;have De:∀ n l,bj (bC n (0::1::2::l)) (.fn g bF)=.fn g bF:=λn l=>by
  rw[bj];refine congrArg _ ?_;have h:=hE.rc (bC n (0::1::2::l)) rfl rfl rfl;rw[xW];exact(List.map_congr_left h).trans (List.map_id bF)
 have wF:∀ (σ:St) (kp:Nat->Prop) n l snap,bT σ kp (bC n (0::1::2::l)) snap (.fn g bF) (.fn g bF):=λσ kp n l snap=>.eq (De n l).symm;generalize an:rQ m P step a=res;unfold rQ at an;refine Holds.aN 88 3 [.tmp 6] Tryz.func65 ?_;by_cases D6:iB m=0;rotate_left
 ·rw[if_neg (λh=>D6 h.1)]at an;((repeat'(first|refine Vd @cz.eq_1 hv ?_|(refine V2 @cz.eq_1 ?_ ?_<;>try with_reducible intro hb)|(refine Xi ?_ ?_<;>try intro ht)|exact Xx|fail)))
  subst an;exact Xw false [0,1,2] (X3 @pM @pN @pO)
 rw[D6]at hv;have bG:=jD.1 D6;have mo:=agv m P bG hP;cases hs:km m P
 ·rw[hs]at mo an;rw[if_neg IM]at an;((repeat'(first|refine Vd (X3 @cz.eq_1 @bne_self_eq_false.{0} @Bool.not_false) (X2 hv mo) ?_|(refine Xi ?_ ?_<;>try intro ht)|exact Xx|fail)))
  subst an;exact Xw false [0,1,2] (X3 @pM @pN @pO)
 rw[hs]at mo an;rw[if_pos ⟨D6,rfl⟩]at an;have j5:=Vl m hm;have Vm:=zP bG;have Hj:=yk hs;have jl:=U8 hs;clear D6;have hIn:=hI bG hs;unfold root at an hIn;generalize cg m=al at *;((repeat'(first|refine Vd (X3 @cz.eq_1 @bne_self_eq_false.{0} @Bool.not_true) (X3 hv mo j5) ?_|(refine Xi ?_ ?_<;>try intro ht)|exact Xx|fail)))
 refine bb (λz:List dS×List dS×α=>(⟨ao [(2,.fn g bF),(3,.ptr 3 0 0),(4,.ptr 4 0 0),(7,.ref 5 3 0 z.1.length)],[A z.2.2,B z.2.2,C z.2.2,.var (aq m),.var (cz P),.arr 3 (rowsOf lU (z.1.reverse++z.2.1))]⟩:St))
  (λz=>(∀ s∈z.1,xg m P s)/\Ab z.1/\Inv z.2.2 (z.1.flatMap (vs P))/\kP P step (z.1.flatMap (vs P)) z.2.2=res) (λz=>(z.1.flatMap (vs P)).length) ([(0,al,[])],[],a) ⟨λs hs=>by rw[List.mem_singleton]at hs;subst hs;exact⟨jl.1,Vm,Nat.le_refl _⟩,⟨aW _,trivial⟩,by simpa using hIn,by simpa using an⟩ (Xv @cz.eq_1) ?_
 clear an Vm hI hIn;rintro⟨T,J,a⟩⟨Bk,gN,Hk,an⟩Ql ak au;dsimp only at Bk gN Hk an ⊢;cases T with
 |nil =>
  rw[List.flatMap_nil,kP]at an;((repeat'(first|refine Va X0 ?_|(refine Xi ?_ ?_<;>try intro ht)|exact Xx|fail)))
  refine au _ _ rfl ?_;clear ak au Ql;repeat(refine Xu ?_)
  refine Vb X0 ?_;subst an;exact Xw false [0,1,2] (X3 @pM @pN @pO)
 |cons s T =>
  have pP:=Bk s IM;have hgT:∀ t∈T,xg m P t:=λt ht=>Bk t (by simp[ht]);have Lx:=wR Hj pP.1;rw[xJ,Lx,ek]at Hk;have Vn:=hE.inv a s _ pP Hk;rw[xJ,Lx,ek,kP]at an;have jE:(rowsOf lU ((s::T).reverse++J))[T.length]?=some (lU s):=by
   unfold rowsOf;rw[bV,List.reverse_cons,bz,gZ IM];simp
  have gV:(rowsOf lU ((s::T).reverse++J)).take T.length=rowsOf lU T.reverse:=by
   unfold rowsOf;rw[<- E3,List.reverse_cons,bz,List.take_append_of_le_length IM,cZ IM]
  have hRl:T.length+1<=((s::T).reverse++J).length:=IM;have D7:(((T.length+1:Nat):Int)-1).toNat=T.length:=AT;have mT:=ags;rw[cX];generalize hRR:(s::T).reverse++J=L at *;obtain⟨Ca,gN⟩:=gN;obtain⟨i,left,ab⟩:=s;dsimp only at Ca;have hi:i<P.length:=pP.1;have nL:cp m left:=pP.2.1;have eX:ab.length<=i:=pP.2.2;have bx:P.getD i default=nd P i:=rfl;have cq:=aE (l:=P) (i:=i) (d:=default) hi;have b1:=hP.kids _ cq;have hdi:=Hj i hi;have Hl:=λo=>yF (o:=o) Hj pP.1;have Ly:=λo=>U4 (o:=o) Hj pP;have kq:=He hs hi;have D8:∀ o,lg P (i,left,ab) o=(((nd P i).kids.getD o 0).toNat,db left (nd P i).cls.toNat o,ab++[(nd P i).cls]):=λo=>rfl;have Lz:qF P (i,left,ab)=iO P (i,left,ab) (nd P i).kids.length:=rfl;rw[bx]at b1 cq;dsimp only at an Hl Ly;generalize cS:nd P i=x at *;obtain⟨c,kids,dT,aT,cells⟩:=x;dsimp only at b1 hdi Hl Ly D8 Lz an;repeat'(first|((fail_if_success (first|refine eO 8 ?_|refine eP 8 ?_));refine Xr (X5 @jE @lU.eq_1 @D7 @mT (X4 @cz.eq_1 @bx @aM.eq_1 @p7.{0,0})) ?_;intro K hK)|(refine hK _ ?_;clear hK K)|(refine Xi ?_ ?_<;>try intro ht)|refine Xy ?_|refine Xd ?_ ?_|exact Xx|fail)
  refine cd (aF.vt 8 6 (cells:=[Oi i,.tree 1 (rowsOf ay left),rR ab]) Od (by simp only[Kc,simprocAttr]) (by
   intro v hv;simp only[bm,iT,or_false]at hv;rcases hv with rfl|rfl|rfl
   ·exact .inl ⟨_,rfl⟩
   ·exact .inr ⟨_,_,rfl⟩
   ·rcases Vf ab with⟨y,h,_⟩|h
    ·exact .inl ⟨y,h⟩
    ·exact .inr h)) ?_
  refine cd (aF.vt 9 7 (cells:=aM ⟨c,kids,dT,aT,cells⟩) Od (by simp only[Kc,simprocAttr]) (by simp[aM])) ?_;refine cd (σ':=⟨ao [(2,.fn g bF),(3,.ptr 3 0 0),(4,.ptr 4 0 0),(7,.ref 5 3 0 T.length),(8,.bY [Oi i,.tree 1 (rowsOf ay left),rR ab]),(9,.bY (aM ⟨c,kids,dT,aT,cells⟩))],[A a,B a,C a,.var (aq m),.var (cz P),.arr 3 (rowsOf lU L)]⟩) (by((refine aF.se [0,1,2,3,4,5] false (by simp only[Oc,simprocAttr,pM,pN,pO,cz]) ?_;simp only[Hr,↓reduceIte,Nat.reduceEqDiff,rh,Nat.reduceAdd,pM,pN,pO,cz];try(and_intros<;>first|exact .pure rfl|exact .eq rfl|exact .fz rfl (by simp only[Bc,Rc]))));(and_intros<;>first|exact wF ..|exact .pure rfl|exact .eq rfl)) ?_;have gn:Holds Tryz.prog 96 [rR ab,Oi c] [] (.lit (.bool (ab.contains c))) []:=by
   have:=Vo ab c AT;cases ab with
   |nil=>exact Holds.Kr (pre:=[]) (post:=[Oi c]) this
   |cons x r=>exact this
  cases Vp:ab.contains c;rotate_left
  ·rw[Vp]at gn an;rw[if_pos rfl]at an;((refine Va @aM.eq_1 ?_)<;>try with_reducible intro K hK)
   refine bX gn (Vg _ _) rfl ?_;((try revert hK K);(repeat'(first|refine Va @aM.eq_1 ?_|(refine Xi ?_ ?_<;>try intro ht)|exact Xx|fail)))
   repeat(refine Xu ?_)
   refine Vb X0 ?_;rw[<- an];exact Xw false [0,1,2] (X3 @pM @pN @pO)
  rw[Vp]at gn an;rw[if_neg IM]at an;have od:=hE.call bG a (i,left,ab) _ pP Hk;dsimp only at od;generalize dm:step a (i,left,ab)=sa at *;obtain⟨a2,b⟩:=sa;dsimp only at od an Vn;((refine Va @aM.eq_1 ?_)<;>try with_reducible intro K hK)
  refine bX gn (Vg _ _) rfl ?_;cases b
  ·rw[if_neg IM]at an;((try revert hK K);(refine Va @aM.eq_1 ?_)<;>try with_reducible intro K hK)
   refine jc [0,1,2] od IP ⟨by rw[pM];rfl,by rw[pN];rfl,by rw[pO];rfl,trivial⟩ ⟨.pure rfl,Lw bF (hE.rc _ rfl rfl rfl)⟩ ?_;((try revert hK K);(repeat'(first|refine Va (X4 @aM.eq_1 @pM @pN @pO) ?_|(refine Xi ?_ ?_<;>try intro ht)|exact Xx|fail)))
   repeat(refine Xu ?_)
   refine Vb X0 ?_;rw[<- an];exact Xw false [0,1,2] (X3 @pM @pN @pO)
  rw[if_pos rfl]at an;((try revert hK K);(refine Va @aM.eq_1 ?_)<;>try with_reducible intro K hK)
  refine jc [0,1,2] od IP ⟨by rw[pM];rfl,by rw[pN];rfl,by rw[pO];rfl,trivial⟩ ⟨.pure rfl,Lw bF (hE.rc _ rfl rfl rfl)⟩ ?_;((try revert hK K);(repeat'(first|refine Va (X4 @aM.eq_1 @pM @pN @pO) ?_|(refine Xi ?_ ?_<;>try intro ht)|exact Xx|fail)))
  have uI:0<kids.length->0<=c/\c<m.cls.length/\kids.length=(m.cls.getD c.toNat default).length:=λh=>by
   unfold ln nf at kq;dsimp only at kq;rw[bg]at kq;have h1:=kq.1;split at h1
   ·rw[decide_eq_true_eq]at h1;omega
   ·rw[decide_eq_true_eq]at h1;exact⟨h1.1,h1.2.1,h1.2.2.1⟩
  have Lv:kids.length<=24:=by
   unfold ln at kq;rw[bg]at kq;exact GY bG kq.1
  refine bb (λz:Nat×List dS=>(⟨ao [(2,.fn g bF),(3,.ptr 3 0 0),(4,.ptr 4 0 0),(7,.ref 5 3 0 (T.length+z.1)),(8,.bY [Oi i,.tree 1 (rowsOf ay left),rR ab]),(9,.bY (aM ⟨c,kids,dT,aT,cells⟩)),(60,.tree 1 (ints kids)),(61,Oi kids.length),(62,Oi z.1)],[A a2,B a2,C a2,.var (aq m),.var (cz P),.arr 3 (rowsOf lU z.2)]⟩:St))
   (λz=>z.1<=kids.length/\T.length+z.1<=z.2.length/\z.2.take (T.length+z.1)=T.reverse++iO P (i,left,ab) z.1) (λz=>kids.length-z.1) (0,L) ⟨aW _,NZ,by
    dsimp only;rw[<- hRR,Nat.add_zero,List.reverse_cons,bz,List.take_append_of_le_length IM,cZ IM];simp[iO]⟩ (Xv (X2 @cz.eq_1 @aM.eq_1)) ?_
  rintro⟨o,L2⟩⟨ho,lW,LA⟩dL bO bQ;dsimp only at ho lW LA ⊢;by_cases cJ:o<kids.length
  ·obtain⟨c1,c2,c3⟩:=uI AT;obtain⟨k1,k2,k3⟩:=Hl o cJ;have D8:=D8 o;have LB:(left.getD c.toNat default).length=kids.length:=by rw[c3];exact nL.2 c.toNat (by have:=nL.1;omega)
   have qj:=agE left c.toNat o (by have:=nL.1;omega) AT (by have:=nL.1;have:=bG.cls;omega) AT;rw[ss c1]at qj;have oN:(rowsOf lU L2).take (T.length+o)=rowsOf lU (T.reverse++iO P (i,left,ab) o):=by unfold rowsOf;rw[<- E3,LA]
   have eG:(T.reverse++iO P (i,left,ab) o).length=T.length+o:=by simp[iO]
   generalize jU:kids.getD o 0=k at *;generalize db left c.toNat o=on at *;by_cases Vq:ab=[]
   ·subst Vq;((repeat'(first|refine Vc (X5 @aM.eq_1 @jU (X2 @rR.eq_1 @rR.eq_2) @oN @eG) (X2 qj agF) ?_|(refine Xi ?_ ?_<;>try intro ht)|exact Xx|fail)))
    have wU:(rowsOf lU (T.reverse++iO P (i,left,[]) o)++[[AV.lit (.int .i64 k),.tree 1 (rowsOf ay on),.ref 7 1 0 1]])[T.length+o]?=some [AV.lit (.int .i64 k),.tree 1 (rowsOf ay on),.ref 7 1 0 1]:=by
     rw[gZ (by simp[rowsOf,<- eG])];simp[rowsOf,<- eG]
    have LC:rowsOf lU (T.reverse++iO P (i,left,[]) (o+1))=(rowsOf lU (T.reverse++iO P (i,left,[]) o)++[[AV.lit (.int .i64 k),.tree 1 (rowsOf ay on),.ref 7 1 0 1]]).set (T.length+o) [AV.lit (.int .i64 k),.tree 1 (rowsOf ay on),.tree 1 [[AV.lit (.int .i64 c)]]]:=by
     rw[CN _ _ (by simp[rowsOf,<- eG]),Vh,D8];have:(((k.toNat:Nat):Int))=k:=AT;simp[rowsOf,<- eG,lU,rR,ints,this]
    have Ae:(T.reverse++iO P (i,left,[]) (o+1)).length=T.length+(o+1):=by simp[iO]
    refine bO _ (o+1,T.reverse++iO P (i,left,[]) (o+1)) ⟨NZ,IX Ae.symm,cZ (IX Ae)⟩ NZ ?_;refine aF.trans (aF.Hm 7 9 (T.length+o) 2 1 3 (rows:=[[AV.lit (.int .i64 c)]]) rfl wU rfl rfl IP IM IM) ?_;simp only[oY,oX];rw[<- LC];((refine aF.se [0,1,2,3,4,9] false (by simp only[Oc,simprocAttr,pM,pN,pO,cz]) ?_;simp only[Hr,↓reduceIte,Nat.reduceEqDiff,rh,Nat.reduceAdd,pM,pN,pO,cz];try(and_intros<;>first|exact .pure rfl|exact .eq rfl|exact .fz rfl (by simp only[Bc,Rc]))))
    and_intros<;>first|exact wF ..|exact .pure rfl|exact .eq rfl
   ·have nZ:0<ab.length:=by
     cases ab with
     |nil=>exact absurd rfl Vq
     |cons=>simp
    have Hn:∀ l:List Int,0<l.length->rR l=.tree 1 (ints l):=λl h=>by
     cases l with
     |nil=>simp at h
     |cons=>rfl
    have Cb:=Hn ab nZ;have agG:=Hn (ab++[c]) IM;have bn:=Vr ab nZ AT;have mO:(ints (ab++[c])).length=ab.length+1:=by simp[ints]
    have wU:(rowsOf lU (T.reverse++iO P (i,left,ab) o)++[[AV.lit (.int .i64 k),.tree 1 (rowsOf ay on),.ref 8 1 0 (ab.length+1)]])[T.length+o]?=some [AV.lit (.int .i64 k),.tree 1 (rowsOf ay on),.ref 8 1 0 (ab.length+1)]:=by
     rw[gZ (by simp[rowsOf,<- eG])];simp[rowsOf,<- eG]
    have LC:rowsOf lU (T.reverse++iO P (i,left,ab) (o+1))=(rowsOf lU (T.reverse++iO P (i,left,ab) o)++[[AV.lit (.int .i64 k),.tree 1 (rowsOf ay on),.ref 8 1 0 (ab.length+1)]]).set (T.length+o) [AV.lit (.int .i64 k),.tree 1 (rowsOf ay on),.tree 1 (ints (ab++[c]))]:=by
     rw[CN _ _ (by simp[rowsOf,<- eG]),Vh,D8];have:(((k.toNat:Nat):Int))=k:=AT;simp[rowsOf,<- eG,lU,agG,this]
    have Ae:(T.reverse++iO P (i,left,ab) (o+1)).length=T.length+(o+1):=by simp[iO]
    repeat'(first|((fail_if_success (first|refine eO 13 ?_|refine eP 13 ?_));refine Xr (X3 @aM.eq_1 @jU @Cb) ?_;intro K hK)|(refine hK _ ?_;clear hK K)|(refine Xi ?_ ?_<;>try intro ht)|refine Xy ?_|refine Xd ?_ ?_|exact Xx|fail)
    refine lI [4,6,8,11,14] (.take 0 (.take 1 (.take 2 (.take 3 (.take 4 (.take 5 (.take 6 (.take 7 (.take 8 (.take 9 (.take 10 (.take 11 (.both 12 (.take 13 (.take 14 (.take 15 (.take 16 (.take 17 (.take 18 (.take 19 (.take 20 .nil)))))))) 13 (.take 14 (.both 12 (.take 15 (.take 16 (.take 17 (.take 18 (.take 19 (.take 20 .nil)))))) 15 (.take 12 (.take 16 (.take 17 (.take 18 (.take 19 (.take 20 .nil))))))))))))))))))))) rfl IP (by decide +kernel) ?_;simp(disch:=omega)only[Ac,↓Pc,simprocAttr,Pw,↓Lq,aM,jU,Cb];refine cm qj rfl rfl ?_;simp(disch:=omega)only[Ac,↓Pc,simprocAttr,Pw,↓Lq,aM,jU,Cb];repeat'(with_reducible refine And.intro ?_ ?_)
    all_goals try(refine jc [] bn IP trivial ⟨.pure rfl,trivial⟩ ?_;simp(disch:=omega)only[Ac,↓Pc,simprocAttr,Pw,↓Lq,aM,jU,Cb,Nat.sub_self,Nat.sub_zero,oN,eG,xU])
    repeat'(first|with_reducible refine And.intro ?_ ?_|omega)
    all_goals
     repeat(refine Xu ?_)
     ((repeat'(first|refine Va X0 ?_|fail)))
    all_goals
     refine bO _ (o+1,T.reverse++iO P (i,left,ab) (o+1)) ⟨NZ,IX Ae.symm,cZ (IX Ae)⟩ NZ ?_;refine aF.trans (aF.Hm 8 10 (T.length+o) 2 1 3 (rows:=ints (ab++[c])) rfl wU rfl (by rw[mO];rfl) IP (vd _) (xX _)) ?_;simp only[oY,oX];rw[<- LC];((refine aF.se [0,1,2,3,4,10] false (by simp only[Oc,simprocAttr,pM,pN,pO,cz,Cb]) ?_;simp only[Hr,↓reduceIte,Nat.reduceEqDiff,rh,Nat.reduceAdd,pM,pN,pO,cz,Cb];try(and_intros<;>first|exact .pure rfl|exact .eq rfl|exact .fz rfl (by simp only[Bc,Rc]))))
     and_intros<;>first|exact wF ..|exact .pure rfl|exact .eq rfl
  ·obtain rfl:o=kids.length:=AT;((repeat'(first|refine Va @aM.eq_1 ?_|(refine Xi ?_ ?_<;>try intro ht)|exact Xx|fail)))
   refine bQ _ _ rfl ?_;clear bO bQ dL;repeat(refine Xu ?_)
   ((skip))
   have ed:(iO P (i,left,ab) kids.length).length=kids.length:=by simp[iO]
   have lX:T.reverse++iO P (i,left,ab) kids.length++L2.drop (T.length+kids.length)=L2:=by rw[<- LA,List.take_append_drop]
   refine ak _ ((qF P (i,left,ab)).reverse++T,L2.drop (T.length+kids.length),a2) ⟨λt ht=>?_,?_,by dsimp only;rw[tS];exact Vn,?_⟩ ?_ ?_
   ·dsimp only at ht;rw[List.mem_append]at ht;rcases ht with ht|ht
    ·obtain⟨o,ho,rfl⟩:=wS (wq.1 ht);dsimp only at ho;rw[cS]at ho;exact Ly o ho
    ·exact hgT t ht
   ·dsimp only;refine Ab.push gN Ca _ (λt ht=>?_) (by rw[List.length_reverse,Lz,ed];exact Lv);obtain⟨o,ho,rfl⟩:=wS (wq.1 ht);dsimp only at ho;rw[cS]at ho;exact(Hl o ho).1
   ·dsimp only;rw[tS];exact an
   ·dsimp only;rw[tS,xJ,Lx,bL,bL,cX];omega
   ·dsimp only;rw[List.reverse_append,List.reverse_reverse,Lz,lX,bL,List.length_reverse,ed,Nat.add_comm kids.length T.length];exact Xv @cz.eq_1
end T

