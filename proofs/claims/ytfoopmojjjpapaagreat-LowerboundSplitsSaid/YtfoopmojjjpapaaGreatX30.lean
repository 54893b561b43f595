import Derived.Test.YtfoopmojjjpapaaGreatX25
import Derived.Test.YtfoopmojjjpapaaGreatX28
import Derived.Test.YtfoopmojjjpapaaGreatX29
set_option linter.all false
set_option maxHeartbeats 0
set_option maxRecDepth 20000
open List renaming mem_cons→bu,not_mem_nil→iI,map_append→dU,mem_map→bY,mem_reverse→vH,flatMap_cons→tY,length→nF,length_map→gD,getElem?_map→bM,getElem?_eq_getElem→bx,getD_eq_getElem?_getD→ay,length_append→bN,length_cons→du,getElem?_eq_none→dN,map_cons→ez,count_cons→EG,count_append→ue,flatMap_append→sX,count_eq_zero→Q5,mem_flatMap→AX,cons_append→dw,reverse_cons→KZ,append_assoc→bH,getElem?_append_right→iq,map_take→Hh,take_of_length_le→dt,set_append_right→AS,set_cons_succ→rG,set_cons_zero→oQ
open Bool renaming and_eq_true→bc,not_false→kP,not_true→iH
open Nat renaming strongRecOn→AP,le_refl→aZ,zero_le→aP,reduceBEq→s6,le_of_eq→K3
open Option renaming map_some→fc
open Int renaming le_refl→nD,le_trans→Hl
open Go Go.Am Go.Proofs
namespace T
abbrev dJ:=Nat×List (List Bool)×List Int
def tS:List Int->AV
 |[]=>.lit (.slice none 0 0)
 |x::r=>.tree 1 (ints (x::r))
def nv(s:dJ):List AV:=[QM s.1,.tree 1 (rowsOf aA s.2.1),tS s.2.2]
def acT(l:List Int):(∃ y,tS l=AV.lit y/\y.oneCell'=true)\/∃ s r,tS l=.tree s r:=by
 cases l with
 |nil=>exact .inl ⟨_,rfl,rfl⟩
 |cons x r=>exact .inr ⟨_,_,rfl⟩
def acU(l:List Int)(x:Value):mZ [tS l,.lit x]=true:=by cases l<;>rfl
def alN(l:List Int):dh (tS l)=true:=by cases l<;>rfl
instance:Row nv 3:=⟨λ_=>rfl,λx v hv=>by
 simp only[nv,bu,iI,or_false]at hv;rcases hv with rfl|rfl|rfl
 ·exact .inl ⟨_,rfl,rfl⟩
 ·exact .inr ⟨_,_,rfl⟩
 ·exact acT _⟩
def nd(P:List Nd)(i:Nat):Nd:=P.getD i default
def mP(P:List Nd)(s:dJ)(o:Nat):dJ:=(((nd P s.1).kids.getD o 0).toNat,cM s.2.1 (nd P s.1).cls.toNat o,s.2.2++[(nd P s.1).cls])
def jq(P:List Nd)(s:dJ)(n:Nat):List dJ:=(List.range n).map (mP P s)
def pz(P:List Nd)(s:dJ):List dJ:=jq P s (nd P s.1).kids.length
def acV(P:List Nd)(s:dJ)(n:Nat):jq P s (n+1)=jq P s n++[mP P s n]:=by unfold jq;rw[List.range_succ,dU];rfl
def mj(P:List Nd):Nat->dJ->List dJ
 |0,_=>[]
 |f+1,s=>s::((pz P s).reverse.flatMap (mj P f))
def vs(P:List Nd)(s:dJ):List dJ:=mj P (P.length-s.1) s
def Down(P:List Nd):Prop:=∀ i,i<P.length->∀ k∈(nd P i).kids,(i:Int)<k/\k<P.length
def Gx{m:ah}{P:List Nd}(h:jk m P=true){i:Nat}(hi:i<P.length):kY m P.length i (nd P i)=true:=by
 cases hb:kY m P.length i (nd P i) with
 |true=>rfl
 |false=>rw[VQ hi hb]at h;cases h
def vj{m:ah}{P:List Nd}(h:jk m P=true):Down P:=λi hi k hk=>by
 have:=Gx h hi;unfold kY at this;rw[bc,List.all_eq_true]at this;have h2:=this.2 k hk;unfold lE at h2;exact of_decide_eq_true h2
def ye{m:ah}{P:List Nd}(h:jk m P=true):1<=P.length/\P.length<=20000:=by
 by_cases hs:1<=P.length/\P.length<=20000
 ·exact hs
 ·rw[VP hs]at h;cases h
def wL{P:List Nd}{s t:dJ}(h:t∈pz P s):∃o,o<(nd P s.1).kids.length/\t=mP P s o:=by
 unfold pz jq at h;obtain⟨o,ho,rfl⟩:=bY.1 h;exact⟨o,List.mem_range.1 ho,rfl⟩
def yf{P:List Nd}(hd:Down P){s:dJ}(hs:s.1<P.length){o:Nat}(ho:o<(nd P s.1).kids.length):s.1<(mP P s o).1/\(mP P s o).1<P.length/\(((mP P s o).1:Nat):Int)=(nd P s.1).kids.getD o 0:=by
 have:=hd s.1 hs _ (aF (l:=(nd P s.1).kids) (i:=o) (d:=0) ho);unfold mP;dsimp only;omega
def alO{P:List Nd}(hd:Down P):∀ (f:Nat) (s:dJ),s.1<P.length->P.length-s.1<=f->mj P f s=mj P (P.length-s.1) s:=by
 intro f
 induction f using AP with
 |_ f ih =>
  intro s hs hf;cases f with
  |zero=>omega
  |succ f =>
   obtain⟨g,hg⟩:∃g,P.length-s.1=g+1:=⟨P.length-s.1-1,Ey⟩;rw[hg,mj,mj];refine congrArg _ ?_;have key:∀ t∈(pz P s).reverse,mj P f t=mj P g t:=λt ht=>by
    obtain⟨o,ho,rfl⟩:=wL (vH.1 ht);obtain⟨h1,h2,_⟩:=yf hd hs ho;rw[ih f Ey _ h2 Ey,ih g Ey _ h2 Ey]
   generalize (pz P s).reverse=L at key
   induction L with
   |nil=>rfl
   |cons t L Gy=>rw[tY,tY,key t G9,Gy λu hu=>key u (by simp[hu])]
def Cg{P:List Nd}(hd:Down P){s:dJ}(hs:s.1<P.length):vs P s=s::(pz P s).reverse.flatMap (vs P):=by
 unfold vs;obtain⟨g,hg⟩:∃g,P.length-s.1=g+1:=⟨P.length-s.1-1,Ey⟩;rw[hg,mj];refine congrArg _ ?_;have key:∀ t∈(pz P s).reverse,mj P g t=mj P (P.length-t.1) t:=λt ht=>by
  obtain⟨o,ho,rfl⟩:=wL (vH.1 ht);obtain⟨h1,h2,_⟩:=yf hd hs ho;exact alO hd g _ h2 Ey
 generalize (pz P s).reverse=L at key
 induction L with
 |nil=>rfl
 |cons t L Gy=>rw[tY,tY,key t G9,Gy λu hu=>key u (by simp[hu])]
def j2{α:Type}(P:List Nd)(step:α->dJ->α×Bool):List dJ->α->α×Bool
 |[],a=>(a,true)
 |s::L,a=>if s.2.2.contains (nd P s.1).cls=true then(a,false) else if(step a s).2=true then j2 P step L (step a s).1 else((step a s).1,false)
def root(m:ah):dJ:=(0,b9 m,[])
def qu{α:Type}(m:ah)(P:List Nd)(step:α->dJ->α×Bool)(a:α):α×Bool :=
 if gv m=0/\jk m P=true then j2 P step (vs P (root m)) a else(a,false)
def Ci(m:ah)(P:List Nd)(s:dJ):Prop:=s.1<P.length/\cK m s.2.1/\s.2.2.length<=s.1
def Ch{m:ah}{x y:List (List Bool)}(h:cK m x)(he:y.map nF=x.map nF):cK m y:=by
 have hl:=congrArg nF he;rw[gD,gD]at hl;refine⟨by rw[hl];exact h.1,λi hi=>?_⟩;have h2:=congrArg (λz=>z[i]?) he;simp only[bM]at h2;rw[bx hi,bx Ey]at h2;simp only[fc,Option.some.injEq]at h2;rw[<- h.2 i Ey,ay,ay,bx hi,bx Ey];exact h2
def alP {m:ah} {P:List Nd} (hd:Down P) {s:dJ} (h:Ci m P s) {o:Nat} (ho:o<(nd P s.1).kids.length):Ci m P (mP P s o) :=
  ⟨(yf hd h.1 ho).2.1,Ch h.2.1 (D1 _ _ _),by
    have h1:=(yf hd h.1 ho).1
    have h2:=h.2.2
    show (s.2.2++[_]).length<=_
    rw[bN,List.length_singleton];omega⟩
def D5{m:ah}(h:VM m):cK m (b9 m):=by
 unfold b9;rw[if_pos (kf.2 h)];refine⟨by simp[fZ],λi hi=>?_⟩;have au:i<m.cls.length:=by simpa [fZ] using hi
 unfold fZ;rw[kD _ _ _ au,List.length_replicate]
def Cj:List dJ->Prop
 |[]=>True
 |t::T=>T.length<=24*t.1/\Cj T
def Cj.push{T:List dJ}{i:Nat}(h:Cj T)(hT:T.length<=24*i):∀ (L:List dJ),(∀ t∈L,i<t.1)->L.length<=24->Cj (L++T)
 |[],_,_=>h
 |t::L,hl,hn=>by
  have h1:=hl t G9;have h2:=Cj.push h hT L (λu hu=>hl u (by simp[hu])) (by simp at hn;omega);refine⟨?_,h2⟩;simp only[du]at hn;show(L++T).length<=_;rw[bN];omega
def kN(P:List Nd)(i:Nat):List Nat:=(nd P i).kids.map Int.toNat
def alQ(P:List Nd)(s:dJ):(pz P s).map (·.1)=kN P s.1:=by
 unfold pz jq kN;rw[List.map_map];apply List.ext_getElem?;intro j;rw[bM,bM];by_cases hj:j<(nd P s.1).kids.length
 ·rw[List.getElem?_range hj,bx hj];simp only[fc,Function.comp];unfold mP;dsimp only;rw[ay,bx hj];rfl
 ·rw[dN (by simpa using hj),dN Ey];rfl
def alR{P:List Nd}(hd:Down P)(i:Nat):∀ (f:Nat) (s:dJ),s.1<P.length->P.length-s.1<=f ->
  ((mj P f s).map (·.1)).count i=(if s.1=i then 1 else 0)+((mj P f s).flatMap λv=>kN P v.1).count i:=by
 intro f
 induction f with
 |zero=>intro s hs hf;omega
 |succ f ih =>
  intro s hs hf;rw[mj,ez,EG,tY,ue,<- alQ];have key:∀ (K:List dJ),(∀ t∈K,t.1<P.length/\P.length-t.1<=f)->((K.flatMap (mj P f)).map (·.1)).count i=(K.map (·.1)).count i+((K.flatMap (mj P f)).flatMap λv=>kN P v.1).count i:=by
   intro K
   induction K with
   |nil=>intro _;rfl
   |cons t K ihK =>
    intro hK;rw[tY,dU,ue,ih t (hK t G9).1 (hK t G9).2,ihK λu hu=>hK u (by simp[hu]),ez,EG,sX,ue];by_cases e:t.1=i<;>simp[e]<;>omega
  have h1:=key (pz P s).reverse λt ht=>by
   obtain⟨o,ho,rfl⟩:=wL (vH.1 ht);obtain⟨h1,h2,_⟩:=yf hd hs ho;omega
  rw[h1,List.map_reverse,List.count_reverse];by_cases e:s.1=i<;>simp[e]<;>omega
def acW{m:ah}{P:List Nd}(h:jk m P=true){j:Nat}(h1:1<=j)(h2:j<P.length):(fM P).count (j:Int)=1:=by
 have hl:=ye h;rw[Iy hl λi hi=>Gx h hi]at h;rw[Bool.not_eq_true',List.any_eq_false]at h;have hm:(jX P.length (fM P)).getD j 0∈(jX P.length (fM P)).drop 1:=by
  have dG:=BK P.length (fM P);rw[List.mem_iff_getElem];refine⟨j-1,by rw[List.length_drop];omega,?_⟩;rw[List.getElem_drop,ay,bx Ey];simp only[Option.getD_some];congr 1;omega
 have:=h _ hm;rw[I1 _ h2]at this;simp only[bne_iff_ne,ne_eq,Decidable.not_not]at this;omega
def alT{l:List Int}(h:∀ k∈l,0<=k)(j:Nat):(l.map Int.toNat).count j=l.count (j:Int):=by
 induction l with
 |nil=>rfl
 |cons k l ih =>
  have hk:=h k G9;rw[ez,EG,EG,ih λx hx=>h x (by simp[hx])];have:(k.toNat==j)=(k==(j:Int)):=by rw[Bool.eq_iff_iff,beq_iff_eq,beq_iff_eq];omega
  rw[this]
def acX{m:ah}{P:List Nd}(h:jk m P=true){j:Nat}(h1:1<=j)(h2:j<P.length):
  ∃ p,p<j/\(kN P p).count j=1/\∀ q,q<P.length->q≠p->(kN P q).count j=0:=by
 have nk:=acW h h1 h2;have hd:=vj h;have yg:∀ q,q<P.length->(kN P q).count j=(nd P q).kids.count (j:Int):=λq hq=>alT (λk hk=>by have:=hd q hq k hk;omega) j;have key:∀ (L:List Nd),(L.flatMap (·.kids)).count (j:Int)=1->∃ p,p<L.length/\((L.getD p default).kids).count (j:Int)=1/\∀ q,q<L.length->q≠p->((L.getD q default).kids).count (j:Int)=0:=by
  intro L
  induction L with
  |nil=>intro h;simp at h
  |cons x L ih =>
   intro h;rw[tY,ue]at h;have hz:(L.flatMap (·.kids)).count (j:Int)=0->∀ q,q<L.length->((L.getD q default).kids).count (j:Int)=0:=λh0 q hq=>by
    rw[Q5]at h0 ⊢;exact λhh=>h0 (AX.2 ⟨_,aF hq,hh⟩)
   by_cases hx:x.kids.count (j:Int)=0
   ·obtain⟨p,p1,p2,p3⟩:=ih Ey;refine⟨p+1,by simpa using p1,by simpa using p2,λq hq cE=>?_⟩;cases q with
    |zero=>simpa using hx
    |succ q=>simpa using p3 q (by simpa using hq) Ey
   ·refine⟨0,G9,Hj,λq hq cE=>?_⟩;cases q with
    |zero=>omega
    |succ q=>simpa using hz Ey q (by simpa using hq)
 obtain⟨p,p1,p2,p3⟩:=key P nk;have hpj:p<j:=by
  have bR:(j:Int)∈(nd P p).kids:=by
   have:0<((nd P p).kids).count (j:Int):=by show 0<((P.getD p default).kids).count _;omega
   exact List.count_pos_iff.1 this
  have:=hd p p1 _ bR;omega
 exact⟨p,hpj,(yg p p1).trans p2,λq hq cE=>(yg q hq).trans (p3 q hq cE)⟩
def JR{P:List Nd}(hd:Down P):∀ (f:Nat) (s:dJ),s.1<P.length->∀ v∈mj P f s,v.1<P.length:=by
 intro f
 induction f with
 |zero=>intro s _ v hv;simp[mj]at hv
 |succ f ih =>
  intro s hs v hv;rw[mj,bu]at hv;rcases hv with rfl|hv
  ·exact hs
  ·obtain⟨t,ht,hv⟩:=AX.1 hv;obtain⟨o,ho,rfl⟩:=wL (vH.1 ht);exact ih _ (yf hd hs ho).2.1 v hv
def acY{P:List Nd}{j p:Nat}(h1:(kN P p).count j=1)(h2:∀ q,q<P.length->q≠p->(kN P q).count j=0):∀ (L:List dJ),(∀ v∈L,v.1<P.length)->(L.flatMap λv=>kN P v.1).count j=(L.map (·.1)).count p
 |[],_=>rfl
 |v::L,h=>by
  rw[tY,ue,ez,EG,acY h1 h2 L λu hu=>h u (by simp[hu])];by_cases e:v.1=p
  ·rw[e,h1];simp;omega
  ·rw[h2 v.1 (h v G9) e];simp[e]
def acZ{m:ah}{P:List Nd}(h:jk m P=true){s:dJ}(hs:s.1=0):∀ (j:Nat),j<P.length->((vs P s).map (·.1)).count j=1:=by
 have hd:=vj h;have hl:=ye h;have hc:∀ j,((vs P s).map (·.1)).count j=(if s.1=j then 1 else 0)+((vs P s).flatMap λv=>kN P v.1).count j:=λj=>alR hd j _ s Ey (aZ _);have hr:=JR hd (P.length-s.1) s Ey;intro j
 induction j using AP with
 |_ j ih =>
  intro hj;rcases Nat.eq_zero_or_pos j with h0|h0
  ·subst h0;rw[hc 0,if_pos hs];have:((vs P s).flatMap λv=>kN P v.1).count 0=0:=by
    rw[Q5];intro hh;obtain⟨v,hv,hk⟩:=AX.1 hh;unfold kN at hk;obtain⟨k,hk,e⟩:=bY.1 hk;have:=hd v.1 (hr v hv) k hk;omega
   omega
  ·obtain⟨p,p1,p2,p3⟩:=acX h h0 hj;rw[hc j,if_neg Ey,acY p2 p3 (vs P s) hr,ih p p1 Ey]
structure alV(α:Type)(m:ah)(P:List Nd)(A B C:α->Ob)(bF:List AV)(g:FuncId)(step:α->dJ->α×Bool)(Inv:α->List dJ->Prop):Prop where
 ra:∀ (ρ:Nat->Nat),ρ 0=0->ρ 1=1->ρ 2=2->∀ a,bO ρ (A a)=A a/\bO ρ (B a)=B a/\bO ρ (C a)=C a
 rc:∀ (ρ:Nat->Nat),ρ 0=0->ρ 1=1->ρ 2=2->∀ v∈bF,br ρ v=v
 inv:∀ a s L,Ci m P s->Inv a (s::L)->Inv (step a s).1 L
 call:VM m->∀ a s L,Ci m P s->Inv a (s::L)->Holds Tryz.prog g (.agg [.lit (.int .i64 s.1),.tree 1 (rowsOf aA s.2.1)]::bF) [A a,B a,C a] (.lit (.bool (step a s).2)) [A (step a s).1,B (step a s).1,C (step a s).1]
def O1{σ:St}{kp:Nat->Prop}{ρ:Nat->Nat}{snap:Bool}:∀ (l:List AV),(∀ v∈l,br ρ v=v)->jN (a7 σ kp ρ snap) l l
 |[],_=>trivial
 |v::l,h=>⟨.eq (h v G9).symm,O1 l λx hx=>h x (by simp[hx])⟩
def alW{α:Type}(m:ah)(P:List Nd)(hm:MB m)(hP:PB P)(A B C:α->Ob)(bF:List AV)(g:FuncId)(step:α->dJ->α×Bool){Inv:α->List dJ->Prop}(hE:alV α m P A B C bF g step Inv)(a:α)(hI:VM m->jk m P=true->Inv a (vs P (root m))):
  Holds Tryz.prog 65 [.agg (ao m),.agg (aJ P),.fn g bF] [A a,B a,C a] (.lit (.bool (qu m P step a).2)) [A (qu m P step a).1,B (qu m P step a).1,C (qu m P step a).1]:=by
 have hv:=Fp m hm;have uW:=hP.z';have ri:∀ n l a,bO (bE n (0::1::2::l)) (A a)=A a:=λn l a=>(hE.ra _ rfl rfl rfl a).1;have rj:∀ n l a,bO (bE n (0::1::2::l)) (B a)=B a:=λn l a=>(hE.ra _ rfl rfl rfl a).2.1;have rm:∀ n l a,bO (bE n (0::1::2::l)) (C a)=C a:=λn l a=>(hE.ra _ rfl rfl rfl a).2.2;have E7:∀ n l,br (bE n (0::1::2::l)) (.fn g bF)=.fn g bF:=λn l=>by
  rw[br];refine congrArg _ ?_;have h:=hE.rc (bE n (0::1::2::l)) rfl rfl rfl;rw[yA];exact(List.map_congr_left h).trans (List.map_id bF)
 have yD:∀ (σ:St) (kp:Nat->Prop) n l snap,a7 σ kp (bE n (0::1::2::l)) snap (.fn g bF) (.fn g bF):=λσ kp n l snap=>.eq (E7 n l).symm;generalize an:qu m P step a=res;unfold qu at an;refine Holds.aM 88 3 [.tmp 6] Tryz.func65 ?_;by_cases Gz:gv m=0;rotate_left
 ·rw[if_neg (λh=>Gz h.1)]at an;((repeat'(first|refine Vd @aJ.eq_1 hv ?_|(refine V2 @aJ.eq_1 ?_ ?_<;>try with_reducible intro hb)|(refine Xi ?_ ?_<;>try intro ht)|exact Xx|fail)))
  subst an;exact Xw false [0,1,2] (X3 @ri @rj @rm)
 rw[Gz]at hv;have b8:=kf.1 Gz;have oD:=aib m P b8 hP;cases hs:jk m P
 ·rw[hs]at oD an;rw[if_neg G9]at an;((repeat'(first|refine Vd (X3 @aJ.eq_1 @bne_self_eq_false.{0} @kP) (X2 hv oD) ?_|(refine Xi ?_ ?_<;>try intro ht)|exact Xx|fail)))
  subst an;exact Xw false [0,1,2] (X3 @ri @rj @rm)
 rw[hs]at oD an;rw[if_pos ⟨Gz,rfl⟩]at an;have nh:=aaX m hm;have haf:=D5 b8;have JS:=vj hs;have nm:=ye hs;clear Gz;have hIn:=hI b8 hs;unfold root at an hIn;generalize b9 m=al at *;((repeat'(first|refine Vd (X3 @aJ.eq_1 @bne_self_eq_false.{0} @iH) (X3 hv oD nh) ?_|(refine Xi ?_ ?_<;>try intro ht)|exact Xx|fail)))
 refine aQ (λz:List dJ×List dJ×α=>(⟨ar [(2,.fn g bF),(3,.ptr 3 0 0),(4,.ptr 4 0 0),(7,.ref 5 3 0 z.1.length)],[A z.2.2,B z.2.2,C z.2.2,.var (ao m),.var (aJ P),.arr 3 (rowsOf nv (z.1.reverse++z.2.1))]⟩:St))
  (λz=>(∀ s∈z.1,Ci m P s)/\Cj z.1/\Inv z.2.2 (z.1.flatMap (vs P))/\j2 P step (z.1.flatMap (vs P)) z.2.2=res) (λz=>(z.1.flatMap (vs P)).length) ([(0,al,[])],[],a) ⟨λs hs=>by rw[List.mem_singleton]at hs;subst hs;exact⟨nm.1,haf,aZ _⟩,⟨aP _,trivial⟩,by simpa using hIn,by simpa using an⟩ (Xv @aJ.eq_1) ?_
 clear an haf hI hIn;rintro⟨T,J,a⟩⟨Da,gI,JT,an⟩Ql ak aq;dsimp only at Da gI JT an ⊢;cases T with
 |nil =>
  rw[List.flatMap_nil,j2]at an;((repeat'(first|refine Va X0 ?_|(refine Xi ?_ ?_<;>try intro ht)|exact Xx|fail)))
  refine aq _ _ rfl ?_;clear ak aq Ql;repeat(refine Xu ?_)
  refine Vb X0 ?_;subst an;exact Xw false [0,1,2] (X3 @ri @rj @rm)
 |cons s T =>
  have q9:=Da s G9;have hgT:∀ t∈T,Ci m P t:=λt ht=>Da t (by simp[ht]);have O2:=Cg JS q9.1;rw[tY,O2,dw]at JT;have ac1:=hE.inv a s _ q9 JT;rw[tY,O2,dw,j2]at an;have mf:(rowsOf nv ((s::T).reverse++J))[T.length]?=some (nv s):=by
   unfold rowsOf;rw[bM,KZ,bH,iq G9];simp
  have ik:(rowsOf nv ((s::T).reverse++J)).take T.length=rowsOf nv T.reverse:=by
   unfold rowsOf;rw[<- Hh,KZ,bH,List.take_append_of_le_length G9,dt G9]
  have hRl:T.length+1<=((s::T).reverse++J).length:=G9;have ht1:(((T.length+1:Nat):Int)-1).toNat=T.length:=Ey;have ox:=alN;rw[du];generalize hRR:(s::T).reverse++J=L at *;obtain⟨DU,gI⟩:=gI;obtain⟨i,left,ab⟩:=s;dsimp only at DU;have hi:i<P.length:=q9.1;have lB:cK m left:=q9.2.1;have gN:ab.length<=i:=q9.2.2;have bG:P.getD i default=nd P i:=rfl;have bR:=aF (l:=P) (i:=i) (d:=default) hi;have b1:=hP.kids _ bR;have hdi:=JS i hi;have JU:=λo=>yf (o:=o) JS q9.1;have zh:=λo=>alP (o:=o) JS q9;have fV:=Gx hs hi;have GA:∀ o,mP P (i,left,ab) o=(((nd P i).kids.getD o 0).toNat,cM left (nd P i).cls.toNat o,ab++[(nd P i).cls]):=λo=>rfl;have O3:pz P (i,left,ab)=jq P (i,left,ab) (nd P i).kids.length:=rfl;rw[bG]at b1 bR;dsimp only at an JU zh;generalize cd:nd P i=x at *;obtain⟨c,kids,df,a8,cells⟩:=x;dsimp only at b1 hdi JU zh GA O3 an;repeat'(first|((fail_if_success (first|refine dW 8 ?_|refine dX 8 ?_));refine Xr (X5 @mf @nv.eq_1 @ht1 @ox (X4 @aJ.eq_1 @bG @ax.eq_1 @Option.map_none.{0,0})) ?_;intro K hK)|(refine hK _ ?_;clear hK K)|(refine Xi ?_ ?_<;>try intro ht)|refine Xy ?_|refine Xd ?_ ?_|exact Xx|fail)
  refine bP (aD.uK 8 6 (cells:=[QM i,.tree 1 (rowsOf aA left),tS ab]) QI (by simp only[Kc,simprocAttr]) (by
   intro v hv;simp only[bu,iI,or_false]at hv;rcases hv with rfl|rfl|rfl
   ·exact .inl ⟨_,rfl⟩
   ·exact .inr ⟨_,_,rfl⟩
   ·rcases acT ab with⟨y,h,_⟩|h
    ·exact .inl ⟨y,h⟩
    ·exact .inr h)) ?_
  refine bP (aD.uK 9 7 (cells:=ax ⟨c,kids,df,a8,cells⟩) QI (by simp only[Kc,simprocAttr]) (by simp[ax])) ?_;refine bP (σ':=⟨ar [(2,.fn g bF),(3,.ptr 3 0 0),(4,.ptr 4 0 0),(7,.ref 5 3 0 T.length),(8,.b6 [QM i,.tree 1 (rowsOf aA left),tS ab]),(9,.b6 (ax ⟨c,kids,df,a8,cells⟩))],[A a,B a,C a,.var (ao m),.var (aJ P),.arr 3 (rowsOf nv L)]⟩) (by((refine aD.se [0,1,2,3,4,5] false (by simp only[Oc,simprocAttr,ri,rj,rm,aJ]) ?_;simp only[Hr,↓reduceIte,Nat.reduceEqDiff,s6,Nat.reduceAdd,ri,rj,rm,aJ];try(and_intros<;>first|exact .pure rfl|exact .eq rfl|exact .fz rfl (by simp only[Bc,Rc]))));(and_intros<;>first|exact yD ..|exact .pure rfl|exact .eq rfl)) ?_;have eL:Holds Tryz.prog 96 [tS ab,QM c] [] (.lit (.bool (ab.contains c))) []:=by
   have:=aca ab c Ey;cases ab with
   |nil=>exact Holds.MH (pre:=[]) (post:=[QM c]) this
   |cons x r=>exact this
  cases hac:ab.contains c;rotate_left
  ·rw[hac]at eL an;rw[if_pos rfl]at an;((refine Va @ax.eq_1 ?_)<;>try with_reducible intro K hK)
   refine cg eL (acU _ _) rfl ?_;((try revert hK K);(repeat'(first|refine Va @ax.eq_1 ?_|(refine Xi ?_ ?_<;>try intro ht)|exact Xx|fail)))
   repeat(refine Xu ?_)
   refine Vb X0 ?_;rw[<- an];exact Xw false [0,1,2] (X3 @ri @rj @rm)
  rw[hac]at eL an;rw[if_neg G9]at an;have pN:=hE.call b8 a (i,left,ab) _ q9 JT;dsimp only at pN;generalize dF:step a (i,left,ab)=sa at *;obtain⟨a2,b⟩:=sa;dsimp only at pN an ac1;((refine Va @ax.eq_1 ?_)<;>try with_reducible intro K hK)
  refine cg eL (acU _ _) rfl ?_;cases b
  ·rw[if_neg G9]at an;((try revert hK K);(refine Va @ax.eq_1 ?_)<;>try with_reducible intro K hK)
   refine jf [0,1,2] pN Hg ⟨by rw[ri];rfl,by rw[rj];rfl,by rw[rm];rfl,trivial⟩ ⟨.pure rfl,O1 bF (hE.rc _ rfl rfl rfl)⟩ ?_;((try revert hK K);(repeat'(first|refine Va (X4 @ax.eq_1 @ri @rj @rm) ?_|(refine Xi ?_ ?_<;>try intro ht)|exact Xx|fail)))
   repeat(refine Xu ?_)
   refine Vb X0 ?_;rw[<- an];exact Xw false [0,1,2] (X3 @ri @rj @rm)
  rw[if_pos rfl]at an;((try revert hK K);(refine Va @ax.eq_1 ?_)<;>try with_reducible intro K hK)
  refine jf [0,1,2] pN Hg ⟨by rw[ri];rfl,by rw[rj];rfl,by rw[rm];rfl,trivial⟩ ⟨.pure rfl,O1 bF (hE.rc _ rfl rfl rfl)⟩ ?_;((try revert hK K);(repeat'(first|refine Va (X4 @ax.eq_1 @ri @rj @rm) ?_|(refine Xi ?_ ?_<;>try intro ht)|exact Xx|fail)))
  have pY:0<kids.length->0<=c/\c<m.cls.length/\kids.length=(m.cls.getD c.toNat default).length:=λh=>by
   unfold kY mJ at fV;dsimp only at fV;rw[bc]at fV;have h1:=fV.1;split at h1
   ·rw[decide_eq_true_eq]at h1;omega
   ·rw[decide_eq_true_eq]at h1;exact⟨h1.1,h1.2.1,h1.2.2.1⟩
  have Fs:kids.length<=24:=by
   unfold kY at fV;rw[bc]at fV;exact Ft b8 fV.1
  refine aQ (λz:Nat×List dJ=>(⟨ar [(2,.fn g bF),(3,.ptr 3 0 0),(4,.ptr 4 0 0),(7,.ref 5 3 0 (T.length+z.1)),(8,.b6 [QM i,.tree 1 (rowsOf aA left),tS ab]),(9,.b6 (ax ⟨c,kids,df,a8,cells⟩)),(60,.tree 1 (ints kids)),(61,QM kids.length),(62,QM z.1)],[A a2,B a2,C a2,.var (ao m),.var (aJ P),.arr 3 (rowsOf nv z.2)]⟩:St))
   (λz=>z.1<=kids.length/\T.length+z.1<=z.2.length/\z.2.take (T.length+z.1)=T.reverse++jq P (i,left,ab) z.1) (λz=>kids.length-z.1) (0,L) ⟨aP _,Hi,by
    dsimp only;rw[<- hRR,Nat.add_zero,KZ,bH,List.take_append_of_le_length G9,dt G9];simp[jq]⟩ (Xv (X2 @aJ.eq_1 @ax.eq_1)) ?_
  rintro⟨o,L2⟩⟨ho,nt,O4⟩cR bg bm;dsimp only at ho nt O4 ⊢;by_cases cz:o<kids.length
  ·obtain⟨c1,c2,c3⟩:=pY Ey;obtain⟨k1,k2,k3⟩:=JU o cz;have GA:=GA o;have N9:(left.getD c.toNat default).length=kids.length:=by rw[c3];exact lB.2 c.toNat (by have:=lB.1;omega)
   have ur:=akS left c.toNat o (by have:=lB.1;omega) Ey (by have:=lB.1;have:=b8.cls;omega) Ey;rw[Int.toNat_of_nonneg c1]at ur;have qv:(rowsOf nv L2).take (T.length+o)=rowsOf nv (T.reverse++jq P (i,left,ab) o):=by unfold rowsOf;rw[<- Hh,O4]
   have dG:(T.reverse++jq P (i,left,ab) o).length=T.length+o:=by simp[jq]
   generalize iZ:kids.getD o 0=k at *;generalize cM left c.toNat o=on at *;by_cases ac3:ab=[]
   ·subst ac3;((repeat'(first|refine Vc (X5 @ax.eq_1 @iZ (X2 @tS.eq_1 @tS.eq_2) @qv @dG) (X2 ur akR) ?_|(refine Xi ?_ ?_<;>try intro ht)|exact Xx|fail)))
    have kB:(rowsOf nv (T.reverse++jq P (i,left,[]) o)++[[AV.lit (.int .i64 k),.tree 1 (rowsOf aA on),.ref 7 1 0 1]])[T.length+o]?=some [AV.lit (.int .i64 k),.tree 1 (rowsOf aA on),.ref 7 1 0 1]:=by
     rw[iq (by simp[rowsOf,<- dG])];simp[rowsOf,<- dG]
    have O5:rowsOf nv (T.reverse++jq P (i,left,[]) (o+1))=(rowsOf nv (T.reverse++jq P (i,left,[]) o)++[[AV.lit (.int .i64 k),.tree 1 (rowsOf aA on),.ref 7 1 0 1]]).set (T.length+o) [AV.lit (.int .i64 k),.tree 1 (rowsOf aA on),.tree 1 [[AV.lit (.int .i64 c)]]]:=by
     rw[AS _ _ (by simp[rowsOf,<- dG]),acV,GA];have:(((k.toNat:Nat):Int))=k:=Ey;simp[rowsOf,<- dG,nv,tS,ints,this]
    have pW:(T.reverse++jq P (i,left,[]) (o+1)).length=T.length+(o+1):=by simp[jq]
    refine bg _ (o+1,T.reverse++jq P (i,left,[]) (o+1)) ⟨Hi,K3 pW.symm,dt (K3 pW)⟩ Hi ?_;refine aD.trans (aD.IH 7 9 (T.length+o) 2 1 3 (rows:=[[AV.lit (.int .i64 c)]]) rfl kB rfl rfl Hg G9 G9) ?_;simp only[rG,oQ];rw[<- O5];((refine aD.se [0,1,2,3,4,9] false (by simp only[Oc,simprocAttr,ri,rj,rm,aJ]) ?_;simp only[Hr,↓reduceIte,Nat.reduceEqDiff,s6,Nat.reduceAdd,ri,rj,rm,aJ];try(and_intros<;>first|exact .pure rfl|exact .eq rfl|exact .fz rfl (by simp only[Bc,Rc]))))
    and_intros<;>first|exact yD ..|exact .pure rfl|exact .eq rfl
   ·have lz:0<ab.length:=by
     cases ab with
     |nil=>exact absurd rfl ac3
     |cons=>simp
    have Jm:∀ l:List Int,0<l.length->tS l=.tree 1 (ints l):=λl h=>by
     cases l with
     |nil=>simp at h
     |cons=>rfl
    have D9:=Jm ab lz;have al0:=Jm (ab++[c]) G9;have bI:=ab7 ab lz Ey;have iW:(ints (ab++[c])).length=ab.length+1:=by simp[ints]
    have kB:(rowsOf nv (T.reverse++jq P (i,left,ab) o)++[[AV.lit (.int .i64 k),.tree 1 (rowsOf aA on),.ref 8 1 0 (ab.length+1)]])[T.length+o]?=some [AV.lit (.int .i64 k),.tree 1 (rowsOf aA on),.ref 8 1 0 (ab.length+1)]:=by
     rw[iq (by simp[rowsOf,<- dG])];simp[rowsOf,<- dG]
    have O5:rowsOf nv (T.reverse++jq P (i,left,ab) (o+1))=(rowsOf nv (T.reverse++jq P (i,left,ab) o)++[[AV.lit (.int .i64 k),.tree 1 (rowsOf aA on),.ref 8 1 0 (ab.length+1)]]).set (T.length+o) [AV.lit (.int .i64 k),.tree 1 (rowsOf aA on),.tree 1 (ints (ab++[c]))]:=by
     rw[AS _ _ (by simp[rowsOf,<- dG]),acV,GA];have:(((k.toNat:Nat):Int))=k:=Ey;simp[rowsOf,<- dG,nv,al0,this]
    have pW:(T.reverse++jq P (i,left,ab) (o+1)).length=T.length+(o+1):=by simp[jq]
    repeat'(first|((fail_if_success (first|refine dW 13 ?_|refine dX 13 ?_));refine Xr (X3 @ax.eq_1 @iZ @D9) ?_;intro K hK)|(refine hK _ ?_;clear hK K)|(refine Xi ?_ ?_<;>try intro ht)|refine Xy ?_|refine Xd ?_ ?_|exact Xx|fail)
    refine nf [4,6,8,11,14] (.take 0 (.take 1 (.take 2 (.take 3 (.take 4 (.take 5 (.take 6 (.take 7 (.take 8 (.take 9 (.take 10 (.take 11 (.both 12 (.take 13 (.take 14 (.take 15 (.take 16 (.take 17 (.take 18 (.take 19 (.take 20 .nil)))))))) 13 (.take 14 (.both 12 (.take 15 (.take 16 (.take 17 (.take 18 (.take 19 (.take 20 .nil)))))) 15 (.take 12 (.take 16 (.take 17 (.take 18 (.take 19 (.take 20 .nil))))))))))))))))))))) rfl Hg (by decide +kernel) ?_;simp(disch:=omega)only[Ac,↓Pc,simprocAttr,Pw,↓Lq,ax,iZ,D9];refine cC ur rfl rfl ?_;simp(disch:=omega)only[Ac,↓Pc,simprocAttr,Pw,↓Lq,ax,iZ,D9];repeat'(with_reducible refine And.intro ?_ ?_)
    all_goals try(refine jf [] bI Hg trivial ⟨.pure rfl,trivial⟩ ?_;simp(disch:=omega)only[Ac,↓Pc,simprocAttr,Pw,↓Lq,ax,iZ,D9,Nat.sub_self,Nat.sub_zero,qv,dG,CY])
    repeat'(first|with_reducible refine And.intro ?_ ?_|omega)
    all_goals
     repeat(refine Xu ?_)
     ((repeat'(first|refine Va X0 ?_|fail)))
    all_goals
     refine bg _ (o+1,T.reverse++jq P (i,left,ab) (o+1)) ⟨Hi,K3 pW.symm,dt (K3 pW)⟩ Hi ?_;refine aD.trans (aD.IH 8 10 (T.length+o) 2 1 3 (rows:=ints (ab++[c])) rfl kB rfl (by rw[iW];rfl) Hg (uw _) (xn _)) ?_;simp only[rG,oQ];rw[<- O5];((refine aD.se [0,1,2,3,4,10] false (by simp only[Oc,simprocAttr,ri,rj,rm,aJ,D9]) ?_;simp only[Hr,↓reduceIte,Nat.reduceEqDiff,s6,Nat.reduceAdd,ri,rj,rm,aJ,D9];try(and_intros<;>first|exact .pure rfl|exact .eq rfl|exact .fz rfl (by simp only[Bc,Rc]))))
     and_intros<;>first|exact yD ..|exact .pure rfl|exact .eq rfl
  ·obtain rfl:o=kids.length:=Ey;((repeat'(first|refine Va @ax.eq_1 ?_|(refine Xi ?_ ?_<;>try intro ht)|exact Xx|fail)))
   refine bm _ _ rfl ?_;clear bg bm cR;repeat(refine Xu ?_)
   ((skip))
   have eF:(jq P (i,left,ab) kids.length).length=kids.length:=by simp[jq]
   have ns:T.reverse++jq P (i,left,ab) kids.length++L2.drop (T.length+kids.length)=L2:=by rw[<- O4,List.take_append_drop]
   refine ak _ ((pz P (i,left,ab)).reverse++T,L2.drop (T.length+kids.length),a2) ⟨λt ht=>?_,?_,by dsimp only;rw[sX];exact ac1,?_⟩ ?_ ?_
   ·dsimp only at ht;rw[List.mem_append]at ht;rcases ht with ht|ht
    ·obtain⟨o,ho,rfl⟩:=wL (vH.1 ht);dsimp only at ho;rw[cd]at ho;exact zh o ho
    ·exact hgT t ht
   ·dsimp only;refine Cj.push gI DU _ (λt ht=>?_) (by rw[List.length_reverse,O3,eF];exact Fs);obtain⟨o,ho,rfl⟩:=wL (vH.1 ht);dsimp only at ho;rw[cd]at ho;exact(JU o ho).1
   ·dsimp only;rw[sX];exact an
   ·dsimp only;rw[sX,tY,O2,bN,bN,du];omega
   ·dsimp only;rw[List.reverse_append,List.reverse_reverse,O3,ns,bN,List.length_reverse,eF,Nat.add_comm kids.length T.length];exact Xv @aJ.eq_1
def gP(m:ah)(P:List Nd)(b:Int)(s:dJ):Int×Bool :=
 if(nd P s.1).cls≠-1 then(b,true)
 else if 0<(nd P s.1).a8.length then(b,ma m (nd P s.1) s.2.1)
 else(min b (gZ m s.2.1 (nd P s.1).df).1,(gZ m s.2.1 (nd P s.1).df).2==0)
def mh(m:ah)(P:List Nd):Int×Bool:=if(qu m P (gP m P) 1099511627776).2=true then((qu m P (gP m P) 1099511627776).1,true) else(0,false)
def al1(m:ah)(P:List Nd)(hP:PB P)(hm:VM m)(b:Int)(s:dJ)(hs:Ci m P s):
  Holds Tryz.prog 66 [.agg [QM s.1,.tree 1 (rowsOf aA s.2.1)],.ptr 1 0 0,.ptr 0 0 0,.ptr 2 0 0] [.var (ao m),.var (aJ P),.var [QM b]] (.lit (.bool (gP m P b s).2)) [.var (ao m),.var (aJ P),.var [QM (gP m P b s).1]]:=by
 obtain⟨i,left,ab⟩:=s;have hi:i<P.length:=hs.1;have hf:cK m left:=hs.2.1;have uW:=hP.z';have bG:P.getD i default=nd P i:=rfl;have bR:=aF (l:=P) (i:=i) (d:=default) hi;have b2:=hP.df _ bR;have b3:=hP.a8 _ bR;have b4:=hP.cells _ bR;have b5:=hP.cell _ bR;generalize an:gP m P b (i,left,ab)=res;unfold gP at an;rw[bG]at b2 b3 b4 b5;dsimp only at an;have qO:=ak7 m (nd P i) left hm hf b3 b4 b5;have wM:=aaS m left (nd P i).df hm hf b2;generalize ma m (nd P i) left=cw at *;generalize gZ m left (nd P i).df=lt at *;generalize cd:nd P i=x at *;obtain⟨c,kids,df,a8,cells⟩:=x;obtain⟨v,e⟩:=lt;dsimp only at *;refine Holds.aM 41 3 [.tmp 5] Tryz.func66 ?_;by_cases hc:c = -1;rotate_left
 ·rw[if_pos hc]at an;((repeat'(first|refine Vb (X3 @aJ.eq_1 @bG @ax.eq_1) ?_|(refine Xi ?_ ?_<;>try intro ht)|exact Xx|fail)))
  subst an;exact Xw false [0,1,2] @aJ.eq_1
 rw[if_neg Ey]at an;by_cases hg:0<a8.length
 ·rw[if_pos hg]at an;((repeat'(first|refine Vd (X3 @aJ.eq_1 @bG @ax.eq_1) qO ?_|(refine Xi ?_ ?_<;>try intro ht)|exact Xx|fail)))
  subst an;exact Xw false [0,1,2] @aJ.eq_1
 rw[if_neg hg]at an;((repeat'(first|refine Vd (X3 @aJ.eq_1 @bG @ax.eq_1) wM ?_|(refine Xi ?_ ?_<;>try intro ht)|exact Xx|fail)))
 subst an;exact Xw false [0,1,2] @aJ.eq_1
def O6(m:ah)(P:List Nd)(hm:MB m)(hP:PB P):Holds Tryz.prog 35 [.agg (ao m),.agg (aJ P)] [] (.bC [QM (mh m P).1,.lit (.bool (mh m P).2)]) []:=by
 have hw:=alW m P hm hP (λ_=>.var (ao m)) (λ_=>.var (aJ P)) (λb:Int=>.var [QM b]) [.ptr 1 0 0,.ptr 0 0 0,.ptr 2 0 0] 66 (gP m P) (Inv:=λ_ _=>True)
  ⟨λρ h0 h1 h2 a=>⟨rfl,rfl,rfl⟩,λρ h0 h1 h2 v hv=>by
   simp only[bu,iI,or_false]at hv;rcases hv with rfl|rfl|rfl<;>simp only[br,h0,h1,h2],λ_ _ _ _ _=>trivial,λb8 a s _ hs _=>al1 m P hP b8 a s hs⟩ 1099511627776 (λ_ _=>trivial)
 generalize an:mh m P=res;unfold mh at an;generalize qu m P (gP m P) 1099511627776=r at *;obtain⟨b,ok⟩:=r;dsimp only at hw an;refine Holds.aM 15 0 [.tmp 4,.tmp 5] Tryz.func35 ?_;((refine Vb @aJ.eq_1 ?_)<;>try with_reducible intro K hK)
 refine gr hw G9 ?_;cases ok
 ·rw[if_neg G9]at an;((try revert hK K);(repeat'(first|refine Vb @kP ?_|(refine Xi ?_ ?_<;>try intro ht)|exact Xx|fail)))
  subst an;exact aN rfl rfl
 ·rw[if_pos rfl]at an;((try revert hK K);(repeat'(first|refine Vb @iH ?_|(refine Xi ?_ ?_<;>try intro ht)|exact Xx|fail)))
  subst an;exact aN rfl rfl
def ac4{α:Type}{P:List Nd}{step:α->dJ->α×Bool}:∀ {L:List dJ} {a r:α},j2 P step L a=(r,true)->∀ (J:α->Prop) (R:α->α->Prop),(∀ x,R x x)->(∀ x y z,R x y->R y z->R x z)->(∀ s∈L,∀ x,(step x s).2=true->R x (step x s).1) ->
  ∀ s∈L,s.2.2.contains (nd P s.1).cls=false/\∃ x,(step x s).2=true/\R (step x s).1 r
 |[],a,r,h,J,R,h1,h2,h3,s,hs=>by simp at hs
 |t::L,a,r,h,J,R,h1,h2,h3,s,hs=>by
  rw[j2]at h;split at h
  ·cases h
  ·rename_i hc;split at h
   ·rename_i j5;have ih:=ac4 h J R h1 h2 (λu hu=>h3 u (by simp[hu]));rcases bu.1 hs with e|hs
    ·subst e;refine⟨by simpa using hc,a,j5,?_⟩;have mono:∀ (L:List dJ) (x y:α),(∀ u∈L,∀ x,(step x u).2=true->R x (step x u).1)->j2 P step L x=(y,true)->R x y:=by
      intro L
      induction L with
      |nil=>intro x y _ h;rw[j2]at h;cases h;exact h1 _
      |cons u L Gy =>
       intro x y hm h;rw[j2]at h;split at h
       ·cases h
       ·split at h
        ·rename_i hu;exact h2 _ _ _ (hm u G9 x hu) (Gy _ _ (λv hv=>hm v (by simp[hv])) h)
        ·cases h
     exact mono L _ _ (λu hu=>h3 u (by simp[hu])) h
    ·exact ih s hs
   ·cases h
def aco{m:ah}{P:List Nd}{n:Int}(h:mh m P=(n,true)):VM m/\jk m P=true/\j2 P (gP m P) (vs P (root m)) 1099511627776=(n,true):=by
 unfold mh qu at h;by_cases h2:gv m=0/\jk m P=true
 ·rw[if_pos h2]at h;split at h
  ·rename_i h1;refine⟨kf.1 h2.1,h2.2,?_⟩;have e:(j2 P (gP m P) (vs P (root m)) 1099511627776).1=n:=congrArg Prod.fst h;exact Prod.ext e h1
  ·cases h
 ·rw[if_neg h2]at h;split at h
  ·rename_i h1;cases h1
  ·cases h
def ac5{m:ah}{P:List Nd}(b:Int)(s:dJ):(gP m P b s).1<=b:=by
 unfold gP;split
 ·exact nD _
 split
 ·exact nD _
 ·exact Int.min_le_left ..
def acp{m:ah}{P:List Nd}{n:Int}(h:j2 P (gP m P) (vs P (root m)) 1099511627776=(n,true)):n<=1099511627776/\∀ s∈vs P (root m),s.2.2.contains (nd P s.1).cls=false/\((nd P s.1).cls = -1->if 0<(nd P s.1).a8.length then ma m (nd P s.1) s.2.1=true else n<=(gZ m s.2.1 (nd P s.1).df).1/\(gZ m s.2.1 (nd P s.1).df).2=0):=by
 have al2:∀ (L:List dJ) (a r:Int),j2 P (gP m P) L a=(r,true)->r<=a:=by
  intro L
  induction L with
  |nil=>intro a r h;rw[j2]at h;cases h;exact nD _
  |cons s L ih =>
   intro a r h;rw[j2]at h;split at h
   ·cases h
   ·split at h
    ·exact Hl (ih _ _ h) (ac5 a s)
    ·cases h
 refine⟨al2 _ _ _ h,λs hs=>?_⟩;obtain⟨h1,x,h2,h3⟩:=ac4 h (λ_=>True) (λx y=>y<=x) (λx=>nD _) (λx y z h1 h2=>Hl h2 h1) (λs _ x _=>ac5 x s) s hs;refine⟨h1,λhc=>?_⟩;unfold gP at h2 h3;rw[if_neg Ey]at h2 h3;split
 ·rename_i hg;rw[if_pos hg]at h2;exact h2
 ·rename_i hg;rw[if_neg hg]at h2 h3;dsimp only at h2 h3;exact⟨Ey,by simpa using h2⟩
def alM{m:ah}{P:List Nd}(hm:VM m)(hs:jk m P=true)(h:∀ s∈vs P (root m),s.2.2.contains (nd P s.1).cls=false/\((nd P s.1).cls = -1->(nd P s.1).a8.length=0/\(gZ m s.2.1 (nd P s.1).df).2=0)):
  ∃ n,mh m P=(n,true)/\∀ a,a<=1099511627776->(∀ s∈vs P (root m),(nd P s.1).cls = -1->a<=(gZ m s.2.1 (nd P s.1).df).1)->a<=n:=by
 have key:∀ (L:List dJ) (b:Int),(∀ s∈L,s.2.2.contains (nd P s.1).cls=false/\((nd P s.1).cls = -1->(nd P s.1).a8.length=0/\(gZ m s.2.1 (nd P s.1).df).2=0)) ->
   (j2 P (gP m P) L b).2=true/\∀ a,a<=b->(∀ s∈L,(nd P s.1).cls = -1->a<=(gZ m s.2.1 (nd P s.1).df).1)->a<=(j2 P (gP m P) L b).1:=by
  intro L
  induction L with
  |nil=>intro b _;exact⟨rfl,λa h _=>h⟩
  |cons s L ih =>
   intro b h;obtain⟨h1,h2⟩:=h s G9;have y0:(gP m P b s).2=true:=by
    unfold gP;by_cases hc:(nd P s.1).cls = -1
    ·rw[if_neg Ey,if_neg (by have:=(h2 hc).1;omega)];simp[(h2 hc).2]
    ·rw[if_pos hc]
   rw[j2,h1,if_neg G9,if_pos y0];obtain⟨i1,i2⟩:=ih (gP m P b s).1 λt ht=>h t (by simp[ht]);refine⟨i1,λa ha hl=>i2 a ?_ λt ht=>hl t (by simp[ht])⟩;unfold gP;by_cases hc:(nd P s.1).cls = -1
   ·rw[if_neg Ey,if_neg (by have:=(h2 hc).1;omega)];have:=hl s G9 hc;show a<=min _ _;omega
   ·rw[if_pos hc];exact ha
 obtain⟨k1,k2⟩:=key (vs P (root m)) 1099511627776 h;refine⟨(j2 P (gP m P) (vs P (root m)) 1099511627776).1,?_,k2⟩;have hw:qu m P (gP m P) 1099511627776=j2 P (gP m P) (vs P (root m)) 1099511627776:=if_pos ⟨kf.2 hm,hs⟩;unfold mh;rw[hw,if_pos k1]
def eP(l:List Mv):Nd:=⟨-1,[],l,[],[]⟩
def OR{P:List Nd}(hd:Down P){s:dJ}(hs:s.1<P.length)(hk:(nd P s.1).kids=[]):vs P s=[s]:=by
 rw[Cg hd hs];unfold pz jq;rw[hk];rfl
def acq{m:ah}(left:List (List Bool)):gZ m left []=(mL m left (S0 m,T0 m),0):=rfl
end T

