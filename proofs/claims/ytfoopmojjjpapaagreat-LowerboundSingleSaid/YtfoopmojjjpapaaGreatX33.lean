import Derived.Test.YtfoopmojjjpapaaGreatX29
import Derived.Test.YtfoopmojjjpapaaGreatX32
set_option linter.all false
set_option maxHeartbeats 0
set_option maxRecDepth 20000
open List renaming mem_cons→bw,map_append→dS,mem_map→bW,mem_reverse→wE,flatMap_cons→tM,length→jB,length_map→fK,getElem?_map→bI,getElem?_eq_getElem→bF,getD_eq_getElem?_getD→az,length_append→bO,getElem?_eq_none→dK,map_cons→ei,count_cons→D0,count_append→tN,count_eq_zero→Qg,mem_flatMap→Cd
open Nat renaming strongRecOn→As
open Option renaming map_some→eH
open Go Go.Am
namespace T
abbrev dF:=Nat×List (List Bool)×List Int
def te:List Int->AV
 |[]=>.lit (.slice none 0 0)
 |x::r=>.tree 1 (ints (x::r))
def mT(s:dF):List AV:=[Qf s.1,.tree 1 (rowsOf aC s.2.1),te s.2.2]
def Yd(l:List Int):(∃ y,te l=AV.lit y/\y.oneCell'=true)\/∃ s r,te l=.tree s r:=by
 cases l with
 |nil=>exact .inl ⟨_,rfl,rfl⟩
 |cons x r=>exact .inr ⟨_,_,rfl⟩
def Yg(l:List Int)(x:Value):mH [te l,.lit x]=true:=by cases l<;>rfl
def aiC(l:List Int):c8 (te l)=true:=by cases l<;>rfl
instance:Row mT 3:=⟨λ_=>rfl,λx v hv=>by
 simp only[mT,bw,List.not_mem_nil,or_false]at hv;rcases hv with rfl|rfl|rfl
 ·exact .inl ⟨_,rfl,rfl⟩
 ·exact .inr ⟨_,_,rfl⟩
 ·exact Yd _⟩
def nd(P:List Nd)(i:Nat):Nd:=P.getD i default
def ny(P:List Nd)(s:dF)(o:Nat):dF:=(((nd P s.1).kids.getD o 0).toNat,gZ s.2.1 (nd P s.1).cls.toNat o,s.2.2++[(nd P s.1).cls])
def je(P:List Nd)(s:dF)(n:Nat):List dF:=(List.range n).map (ny P s)
def qz(P:List Nd)(s:dF):List dF:=je P s (nd P s.1).kids.length
def Yi(P:List Nd)(s:dF)(n:Nat):je P s (n+1)=je P s n++[ny P s n]:=by unfold je;rw[List.range_succ,dS];rfl
def lQ(P:List Nd):Nat->dF->List dF
 |0,_=>[]
 |f+1,s=>s::((qz P s).reverse.flatMap (lQ P f))
def vs(P:List Nd)(s:dF):List dF:=lQ P (P.length-s.1) s
def Down(P:List Nd):Prop:=∀ i,i<P.length->∀ k∈(nd P i).kids,(i:Int)<k/\k<P.length
def Fq{m:ah}{P:List Nd}(h:jh m P=true){i:Nat}(hi:i<P.length):kL m P.length i (nd P i)=true:=by
 cases hb:kL m P.length i (nd P i) with
 |true=>rfl
 |false=>rw[Ue hi hb]at h;cases h
def wY{m:ah}{P:List Nd}(h:jh m P=true):Down P:=λi hi k hk=>by
 have:=Fq h hi;unfold kL at this;rw[Bool.and_eq_true,List.all_eq_true]at this;have h2:=this.2 k hk;unfold ln at h2;exact of_decide_eq_true h2
def xy{m:ah}{P:List Nd}(h:jh m P=true):1<=P.length/\P.length<=20000:=by
 by_cases hs:1<=P.length/\P.length<=20000
 ·exact hs
 ·rw[Uf hs]at h;cases h
def wX{P:List Nd}{s t:dF}(h:t∈qz P s):∃o,o<(nd P s.1).kids.length/\t=ny P s o:=by
 unfold qz je at h;obtain⟨o,ho,rfl⟩:=bW.1 h;exact⟨o,List.mem_range.1 ho,rfl⟩
def yB{P:List Nd}(hd:Down P){s:dF}(hs:s.1<P.length){o:Nat}(ho:o<(nd P s.1).kids.length):s.1<(ny P s o).1/\(ny P s o).1<P.length/\(((ny P s o).1:Nat):Int)=(nd P s.1).kids.getD o 0:=by
 have:=hd s.1 hs _ (aF (l:=(nd P s.1).kids) (i:=o) (d:=0) ho);unfold ny;dsimp only;omega
def ajh{P:List Nd}(hd:Down P):∀ (f:Nat) (s:dF),s.1<P.length->P.length-s.1<=f->lQ P f s=lQ P (P.length-s.1) s:=by
 intro f
 induction f using As with
 |_ f ih =>
  intro s hs hf;cases f with
  |zero=>omega
  |succ f =>
   obtain⟨g,hg⟩:∃g,P.length-s.1=g+1:=⟨P.length-s.1-1,GK⟩;rw[hg,lQ,lQ];refine congrArg _ ?_;have key:∀ t∈(qz P s).reverse,lQ P f t=lQ P g t:=λt ht=>by
    obtain⟨o,ho,rfl⟩:=wX (wE.1 ht);obtain⟨h1,h2,_⟩:=yB hd hs ho;rw[ih f GK _ h2 GK,ih g GK _ h2 GK]
   generalize (qz P s).reverse=L at key
   induction L with
   |nil=>rfl
   |cons t L Ft=>rw[tM,tM,key t GM,Ft λu hu=>key u (by simp[hu])]
def EH{P:List Nd}(hd:Down P){s:dF}(hs:s.1<P.length):vs P s=s::(qz P s).reverse.flatMap (vs P):=by
 unfold vs;obtain⟨g,hg⟩:∃g,P.length-s.1=g+1:=⟨P.length-s.1-1,GK⟩;rw[hg,lQ];refine congrArg _ ?_;have key:∀ t∈(qz P s).reverse,lQ P g t=lQ P (P.length-t.1) t:=λt ht=>by
  obtain⟨o,ho,rfl⟩:=wX (wE.1 ht);obtain⟨h1,h2,_⟩:=yB hd hs ho;exact ajh hd g _ h2 GK
 generalize (qz P s).reverse=L at key
 induction L with
 |nil=>rfl
 |cons t L Ft=>rw[tM,tM,key t GM,Ft λu hu=>key u (by simp[hu])]
def jP{α:Type}(P:List Nd)(step:α->dF->α×Bool):List dF->α->α×Bool
 |[],a=>(a,true)
 |s::L,a=>if s.2.2.contains (nd P s.1).cls=true then(a,false) else if(step a s).2=true then jP P step L (step a s).1 else((step a s).1,false)
def root(m:ah):dF:=(0,cI m,[])
def pI{α:Type}(m:ah)(P:List Nd)(step:α->dF->α×Bool)(a:α):α×Bool :=
 if iR m=0/\jh m P=true then jP P step (vs P (root m)) a else(a,false)
def BC(m:ah)(P:List Nd)(s:dF):Prop:=s.1<P.length/\dh m s.2.1/\s.2.2.length<=s.1
def HX{m:ah}{x y:List (List Bool)}(h:dh m x)(he:y.map jB=x.map jB):dh m y:=by
 have hl:=congrArg jB he;rw[fK,fK]at hl;refine⟨by rw[hl];exact h.1,λi hi=>?_⟩;have h2:=congrArg (λz=>z[i]?) he;simp only[bI]at h2;rw[bF hi,bF GK]at h2;simp only[eH,Option.some.injEq]at h2;rw[<- h.2 i GK,az,az,bF hi,bF GK];exact h2
def aiF {m:ah} {P:List Nd} (hd:Down P) {s:dF} (h:BC m P s) {o:Nat} (ho:o<(nd P s.1).kids.length):BC m P (ny P s o) :=
  ⟨(yB hd h.1 ho).2.1,HX h.2.1 (Mk _ _ _),by
    have h1:=(yB hd h.1 ho).1
    have h2:=h.2.2
    show (s.2.2++[_]).length<=_
    rw[bO,List.length_singleton];omega⟩
def Ey{m:ah}(h:VM m):dh m (cI m):=by
 unfold cI;rw[if_pos (nu.2 h)];refine⟨by simp[dW],λi hi=>?_⟩;have ar:i<m.cls.length:=by simpa [dW] using hi
 unfold dW;rw[iS _ _ _ ar,List.length_replicate]
def BD:List dF->Prop
 |[]=>True
 |t::T=>T.length<=24*t.1/\BD T
def BD.push{T:List dF}{i:Nat}(h:BD T)(hT:T.length<=24*i):∀ (L:List dF),(∀ t∈L,i<t.1)->L.length<=24->BD (L++T)
 |[],_,_=>h
 |t::L,hl,hn=>by
  have h1:=hl t GM;have h2:=BD.push h hT L (λu hu=>hl u (by simp[hu])) (by simp at hn;omega);refine⟨?_,h2⟩;simp only[List.length_cons]at hn;show(L++T).length<=_;rw[bO];omega
def kN(P:List Nd)(i:Nat):List Nat:=(nd P i).kids.map Int.toNat
def aji(P:List Nd)(s:dF):(qz P s).map (·.1)=kN P s.1:=by
 unfold qz je kN;rw[List.map_map];apply List.ext_getElem?;intro j;rw[bI,bI];by_cases hj:j<(nd P s.1).kids.length
 ·rw[List.getElem?_range hj,bF hj];simp only[eH,Function.comp];unfold ny;dsimp only;rw[az,bF hj];rfl
 ·rw[dK (by simpa using hj),dK GK];rfl
def ajj{P:List Nd}(hd:Down P)(i:Nat):∀ (f:Nat) (s:dF),s.1<P.length->P.length-s.1<=f ->
  ((lQ P f s).map (·.1)).count i=(if s.1=i then 1 else 0)+((lQ P f s).flatMap λv=>kN P v.1).count i:=by
 intro f
 induction f with
 |zero=>intro s hs hf;omega
 |succ f ih =>
  intro s hs hf;rw[lQ,ei,D0,tM,tN,<- aji];have key:∀ (K:List dF),(∀ t∈K,t.1<P.length/\P.length-t.1<=f)->((K.flatMap (lQ P f)).map (·.1)).count i=(K.map (·.1)).count i+((K.flatMap (lQ P f)).flatMap λv=>kN P v.1).count i:=by
   intro K
   induction K with
   |nil=>intro _;rfl
   |cons t K ihK =>
    intro hK;rw[tM,dS,tN,ih t (hK t GM).1 (hK t GM).2,ihK λu hu=>hK u (by simp[hu]),ei,D0,List.flatMap_append,tN];by_cases e:t.1=i<;>simp[e]<;>omega
  have h1:=key (qz P s).reverse λt ht=>by
   obtain⟨o,ho,rfl⟩:=wX (wE.1 ht);obtain⟨h1,h2,_⟩:=yB hd hs ho;omega
  rw[h1,List.map_reverse,List.count_reverse];by_cases e:s.1=i<;>simp[e]<;>omega
def aaL{m:ah}{P:List Nd}(h:jh m P=true){j:Nat}(h1:1<=j)(h2:j<P.length):(fi P).count (j:Int)=1:=by
 have hl:=xy h;rw[Im hl λi hi=>Fq h hi]at h;rw[Bool.not_eq_true',List.any_eq_false]at h;have hm:(jR P.length (fi P)).getD j 0∈(jR P.length (fi P)).drop 1:=by
  have dg:=Bl P.length (fi P);rw[List.mem_iff_getElem];refine⟨j-1,by rw[List.length_drop];omega,?_⟩;rw[List.getElem_drop,az,bF GK];simp only[Option.getD_some];congr 1;omega
 have:=h _ hm;rw[Ik _ h2]at this;simp only[bne_iff_ne,ne_eq,Decidable.not_not]at this;omega
def ajl{l:List Int}(h:∀ k∈l,0<=k)(j:Nat):(l.map Int.toNat).count j=l.count (j:Int):=by
 induction l with
 |nil=>rfl
 |cons k l ih =>
  have hk:=h k GM;rw[ei,D0,D0,ih λx hx=>h x (by simp[hx])];have:(k.toNat==j)=(k==(j:Int)):=by rw[Bool.eq_iff_iff,beq_iff_eq,beq_iff_eq];omega
  rw[this]
def aaM{m:ah}{P:List Nd}(h:jh m P=true){j:Nat}(h1:1<=j)(h2:j<P.length):
  ∃ p,p<j/\(kN P p).count j=1/\∀ q,q<P.length->q≠p->(kN P q).count j=0:=by
 have n9:=aaL h h1 h2;have hd:=wY h;have xz:∀ q,q<P.length->(kN P q).count j=(nd P q).kids.count (j:Int):=λq hq=>ajl (λk hk=>by have:=hd q hq k hk;omega) j;have key:∀ (L:List Nd),(L.flatMap (·.kids)).count (j:Int)=1->∃ p,p<L.length/\((L.getD p default).kids).count (j:Int)=1/\∀ q,q<L.length->q≠p->((L.getD q default).kids).count (j:Int)=0:=by
  intro L
  induction L with
  |nil=>intro h;simp at h
  |cons x L ih =>
   intro h;rw[tM,tN]at h;have hz:(L.flatMap (·.kids)).count (j:Int)=0->∀ q,q<L.length->((L.getD q default).kids).count (j:Int)=0:=λh0 q hq=>by
    rw[Qg]at h0 ⊢;exact λhh=>h0 (Cd.2 ⟨_,aF hq,hh⟩)
   by_cases hx:x.kids.count (j:Int)=0
   ·obtain⟨p,p1,p2,p3⟩:=ih GK;refine⟨p+1,by simpa using p1,by simpa using p2,λq hq cy=>?_⟩;cases q with
    |zero=>simpa using hx
    |succ q=>simpa using p3 q (by simpa using hq) GK
   ·refine⟨0,GM,P2,λq hq cy=>?_⟩;cases q with
    |zero=>omega
    |succ q=>simpa using hz GK q (by simpa using hq)
 obtain⟨p,p1,p2,p3⟩:=key P n9;have hpj:p<j:=by
  have bR:(j:Int)∈(nd P p).kids:=by
   have:0<((nd P p).kids).count (j:Int):=by show 0<((P.getD p default).kids).count _;omega
   exact List.count_pos_iff.1 this
  have:=hd p p1 _ bR;omega
 exact⟨p,hpj,(xz p p1).trans p2,λq hq cy=>(xz q hq).trans (p3 q hq cy)⟩
def IW{P:List Nd}(hd:Down P):∀ (f:Nat) (s:dF),s.1<P.length->∀ v∈lQ P f s,v.1<P.length:=by
 intro f
 induction f with
 |zero=>intro s _ v hv;simp[lQ]at hv
 |succ f ih =>
  intro s hs v hv;rw[lQ,bw]at hv;rcases hv with rfl|hv
  ·exact hs
  ·obtain⟨t,ht,hv⟩:=Cd.1 hv;obtain⟨o,ho,rfl⟩:=wX (wE.1 ht);exact ih _ (yB hd hs ho).2.1 v hv
def aaN{P:List Nd}{j p:Nat}(h1:(kN P p).count j=1)(h2:∀ q,q<P.length->q≠p->(kN P q).count j=0):∀ (L:List dF),(∀ v∈L,v.1<P.length)->(L.flatMap λv=>kN P v.1).count j=(L.map (·.1)).count p
 |[],_=>rfl
 |v::L,h=>by
  rw[tM,tN,ei,D0,aaN h1 h2 L λu hu=>h u (by simp[hu])];by_cases e:v.1=p
  ·rw[e,h1];simp;omega
  ·rw[h2 v.1 (h v GM) e];simp[e]
def aaO{m:ah}{P:List Nd}(h:jh m P=true){s:dF}(hs:s.1=0):∀ (j:Nat),j<P.length->((vs P s).map (·.1)).count j=1:=by
 have hd:=wY h;have hl:=xy h;have hc:∀ j,((vs P s).map (·.1)).count j=(if s.1=j then 1 else 0)+((vs P s).flatMap λv=>kN P v.1).count j:=λj=>ajj hd j _ s GK (Nat.le_refl _);have hr:=IW hd (P.length-s.1) s GK;intro j
 induction j using As with
 |_ j ih =>
  intro hj;rcases Nat.eq_zero_or_pos j with h0|h0
  ·subst h0;rw[hc 0,if_pos hs];have:((vs P s).flatMap λv=>kN P v.1).count 0=0:=by
    rw[Qg];intro hh;obtain⟨v,hv,hk⟩:=Cd.1 hh;unfold kN at hk;obtain⟨k,hk,e⟩:=bW.1 hk;have:=hd v.1 (hr v hv) k hk;omega
   omega
  ·obtain⟨p,p1,p2,p3⟩:=aaM h h0 hj;rw[hc j,if_neg GK,aaN p2 p3 (vs P s) hr,ih p p1 GK]
end T

