import Derived.Test.YtfoopmojjjpapaaGreatX36
import Derived.Test.YtfoopmojjjpapaaGreatX40
set_option linter.all false
set_option maxHeartbeats 0
set_option maxRecDepth 20000
open List renaming mem_cons→bj,not_mem_nil→gU,mem_reverse→AP,flatMap_cons→xJ,length→kI,length_map→fW,getElem?_map→b9,getElem?_eq_getElem→bT,getD_eq_getElem?_getD→aB,length_append→bF,length_cons→dt,cons_append→dh,append_assoc→bC,getElem?_append_right→gX,map_take→E2,take_of_length_le→c8,set_append_right→Cw,set_cons_succ→wD,set_cons_zero→tP,flatMap_append→tN
open Bool renaming and_eq_true→aZ
open Nat renaming zero_le→aT,reduceBEq→qW,le_of_eq→IE
open Go Go.Am Go.Proofs
namespace T
abbrev eA:=Nat×List (List Bool)×List Int
def rI:List Int->AV
 |[]=>.lit (.slice none 0 0)
 |x::r=>.tree 1 (ints (x::r))
def l7(s:eA):List AV:=[N0 s.1,.tree 1 (rowsOf aA s.2.1),rI s.2.2]
def Ya(l:List Int):(∃ y,rI l=AV.lit y/\y.oneCell'=true)\/∃ s r,rI l=.tree s r:=by
 cases l with
 |nil=>exact .inl ⟨_,rfl,rfl⟩
 |cons x r=>exact .inr ⟨_,_,rfl⟩
def Yb(l:List Int)(x:Value):lL [rI l,.lit x]=true:=by cases l<;>rfl
def agL(l:List Int):cV (rI l)=true:=by cases l<;>rfl
instance:Row l7 3:=⟨λ_=>rfl,λx v hv=>by
 simp only[l7,bj,gU,or_false]at hv;rcases hv with rfl|rfl|rfl
 ·exact .inl ⟨_,rfl,rfl⟩
 ·exact .inr ⟨_,_,rfl⟩
 ·exact Ya _⟩
def nd(P:List Nd)(i:Nat):Nd:=P.getD i default
def oJ(P:List Nd)(s:eA)(o:Nat):eA:=(((nd P s.1).kids.getD o 0).toNat,nL s.2.1 (nd P s.1).cls.toNat o,s.2.2++[(nd P s.1).cls])
def iZ(P:List Nd)(s:eA)(n:Nat):List eA:=(List.range n).map (oJ P s)
def tg(P:List Nd)(s:eA):List eA:=iZ P s (nd P s.1).kids.length
def Yc(P:List Nd)(s:eA)(n:Nat):iZ P s (n+1)=iZ P s n++[oJ P s n]:=by unfold iZ;rw[List.range_succ,List.map_append];rfl
def uJ(P:List Nd):Nat->eA->List eA
 |0,_=>[]
 |f+1,s=>s::((tg P s).reverse.flatMap (uJ P f))
def vs(P:List Nd)(s:eA):List eA:=uJ P (P.length-s.1) s
def Down(P:List Nd):Prop:=∀ i,i<P.length->∀ k∈(nd P i).kids,(i:Int)<k/\k<P.length
def Yd{m:ah}{P:List Nd}(h:lY m P=true){i:Nat}(hi:i<P.length):mz m P.length i (nd P i)=true:=by
 cases hb:mz m P.length i (nd P i) with
 |true=>rfl
 |false=>rw[Wf hi hb]at h;cases h
def K8{m:ah}{P:List Nd}(h:lY m P=true):Down P:=λi hi k hk=>by
 have:=Yd h hi;unfold mz at this;rw[aZ,List.all_eq_true]at this;have h2:=this.2 k hk;unfold uC at h2;exact of_decide_eq_true h2
def agM{m:ah}{P:List Nd}(h:lY m P=true):1<=P.length/\P.length<=20000:=by
 by_cases hs:1<=P.length/\P.length<=20000
 ·exact hs
 ·rw[Wg hs]at h;cases h
def z7{P:List Nd}{s t:eA}(h:t∈tg P s):∃o,o<(nd P s.1).kids.length/\t=oJ P s o:=by
 unfold tg iZ at h;obtain⟨o,ho,rfl⟩:=List.mem_map.1 h;exact⟨o,List.mem_range.1 ho,rfl⟩
def DR{P:List Nd}(hd:Down P){s:eA}(hs:s.1<P.length){o:Nat}(ho:o<(nd P s.1).kids.length):s.1<(oJ P s o).1/\(oJ P s o).1<P.length/\(((oJ P s o).1:Nat):Int)=(nd P s.1).kids.getD o 0:=by
 have:=hd s.1 hs _ (aG (l:=(nd P s.1).kids) (i:=o) (d:=0) ho);unfold oJ;dsimp only;omega
def agN{P:List Nd}(hd:Down P):∀ (f:Nat) (s:eA),s.1<P.length->P.length-s.1<=f->uJ P f s=uJ P (P.length-s.1) s:=by
 intro f
 induction f using Nat.strongRecOn with
 |_ f ih =>
  intro s hs hf;cases f with
  |zero=>omega
  |succ f =>
   obtain⟨g,hg⟩:∃g,P.length-s.1=g+1:=⟨P.length-s.1-1,Ix⟩;rw[hg,uJ,uJ];refine congrArg _ ?_;have key:∀ t∈(tg P s).reverse,uJ P f t=uJ P g t:=λt ht=>by
    obtain⟨o,ho,rfl⟩:=z7 (AP.1 ht);obtain⟨h1,h2,_⟩:=DR hd hs ho;rw[ih f Ix _ h2 Ix,ih g Ix _ h2 Ix]
   generalize (tg P s).reverse=L at key
   induction L with
   |nil=>rfl
   |cons t L DO=>rw[xJ,xJ,key t Iy,DO λu hu=>key u (by simp[hu])]
def DN{P:List Nd}(hd:Down P){s:eA}(hs:s.1<P.length):vs P s=s::(tg P s).reverse.flatMap (vs P):=by
 unfold vs;obtain⟨g,hg⟩:∃g,P.length-s.1=g+1:=⟨P.length-s.1-1,Ix⟩;rw[hg,uJ];refine congrArg _ ?_;have key:∀ t∈(tg P s).reverse,uJ P g t=uJ P (P.length-t.1) t:=λt ht=>by
  obtain⟨o,ho,rfl⟩:=z7 (AP.1 ht);obtain⟨h1,h2,_⟩:=DR hd hs ho;exact agN hd g _ h2 Ix
 generalize (tg P s).reverse=L at key
 induction L with
 |nil=>rfl
 |cons t L DO=>rw[xJ,xJ,key t Iy,DO λu hu=>key u (by simp[hu])]
def kT{α:Type}(P:List Nd)(step:α->eA->α×Bool):List eA->α->α×Bool
 |[],a=>(a,true)
 |s::L,a=>if s.2.2.contains (nd P s.1).cls=true then(a,false) else if(step a s).2=true then kT P step L (step a s).1 else((step a s).1,false)
def root(m:ah):eA:=(0,eS m,[])
def rH{α:Type}(m:ah)(P:List Nd)(step:α->eA->α×Bool)(a:α):α×Bool :=
 if jO m=0/\lY m P=true then kT P step (vs P (root m)) a else(a,false)
def z8(m:ah)(P:List Nd)(s:eA):Prop:=s.1<P.length/\df m s.2.1/\s.2.2.length<=s.1
def XL{m:ah}{x y:List (List Bool)}(h:df m x)(he:y.map kI=x.map kI):df m y:=by
 have hl:=congrArg kI he;rw[fW,fW]at hl;refine⟨by rw[hl];exact h.1,λi hi=>?_⟩;have h2:=congrArg (λz=>z[i]?) he;simp only[b9]at h2;rw[bT hi,bT Ix]at h2;simp only[Option.map_some,Option.some.injEq]at h2;rw[<- h.2 i Ix,aB,aB,bT hi,bT Ix];exact h2
def agO {m:ah} {P:List Nd} (hd:Down P) {s:eA} (h:z8 m P s) {o:Nat} (ho:o<(nd P s.1).kids.length):z8 m P (oJ P s o) :=
  ⟨(DR hd h.1 ho).2.1,XL h.2.1 (XM _ _ _),by
    have h1:=(DR hd h.1 ho).1
    have h2:=h.2.2
    show (s.2.2++[_]).length<=_
    rw[bF,List.length_singleton];omega⟩
def XJ{m:ah}(h:VM m):df m (eS m):=by
 unfold eS;rw[if_pos (rA.2 h)];refine⟨by simp[dP],λi hi=>?_⟩;have aq:i<m.cls.length:=by simpa [dP] using hi
 unfold dP;rw[iX _ _ _ aq,List.length_replicate]
def Aa:List eA->Prop
 |[]=>True
 |t::T=>T.length<=24*t.1/\Aa T
def Aa.push{T:List eA}{i:Nat}(h:Aa T)(hT:T.length<=24*i):∀ (L:List eA),(∀ t∈L,i<t.1)->L.length<=24->Aa (L++T)
 |[],_,_=>h
 |t::L,hl,hn=>by
  have h1:=hl t Iy;have h2:=Aa.push h hT L (λu hu=>hl u (by simp[hu])) (by simp at hn;omega);refine⟨?_,h2⟩;simp only[dt]at hn;show(L++T).length<=_;rw[bF];omega
structure agP(α:Type)(m:ah)(P:List Nd)(A B C:α->Ob)(bk:List AV)(g:FuncId)(step:α->eA->α×Bool)(Inv:α->List eA->Prop):Prop where
 ra:∀ (ρ:Nat->Nat),ρ 0=0->ρ 1=1->ρ 2=2->∀ a,bH ρ (A a)=A a/\bH ρ (B a)=B a/\bH ρ (C a)=C a
 rc:∀ (ρ:Nat->Nat),ρ 0=0->ρ 1=1->ρ 2=2->∀ v∈bk,bf ρ v=v
 inv:∀ a s L,z8 m P s->Inv a (s::L)->Inv (step a s).1 L
 call:VM m->∀ a s L,z8 m P s->Inv a (s::L)->Holds Tryz.prog g (.agg [.lit (.int .i64 s.1),.tree 1 (rowsOf aA s.2.1)]::bk) [A a,B a,C a] (.lit (.bool (step a s).2)) [A (step a s).1,B (step a s).1,C (step a s).1]
def K9{σ:St}{kp:Nat->Prop}{ρ:Nat->Nat}{snap:Bool}:∀ (l:List AV),(∀ v∈l,bf ρ v=v)->ju (bw σ kp ρ snap) l l
 |[],_=>trivial
 |v::l,h=>⟨.eq (h v Iy).symm,K9 l λx hx=>h x (by simp[hx])⟩
def agF{α:Type}(m:ah)(P:List Nd)(hm:MB m)(hP:PB P)(A B C:α->Ob)(bk:List AV)(g:FuncId)(step:α->eA->α×Bool){Inv:α->List eA->Prop}(hE:agP α m P A B C bk g step Inv)(a:α)(hI:VM m->lY m P=true->Inv a (vs P (root m))):
  Holds Tryz.prog 65 [.agg (ao m),.agg (cJ P),.fn g bk] [A a,B a,C a] (.lit (.bool (rH m P step a).2)) [A (rH m P step a).1,B (rH m P step a).1,C (rH m P step a).1]:=by
 have hv:=Ka m hm;have z':=hP.Kx;have pF:∀ n l a,bH (bq n (0::1::2::l)) (A a)=A a:=λn l a=>(hE.ra _ rfl rfl rfl a).1;have pG:∀ n l a,bH (bq n (0::1::2::l)) (B a)=B a:=λn l a=>(hE.ra _ rfl rfl rfl a).2.1;have pH:∀ n l a,bH (bq n (0::1::2::l)) (C a)=C a:=λn l a=>(hE.ra _ rfl rfl rfl a).2.2;have C3:∀ n l,bf (bq n (0::1::2::l)) (.fn g bk)=.fn g bk:=λn l=>by
  rw[bf];refine congrArg _ ?_;have h:=hE.rc (bq n (0::1::2::l)) rfl rfl rfl;rw[wK];exact(List.map_congr_left h).trans (List.map_id bk)
 have wR:∀ (σ:St) (kp:Nat->Prop) n l snap,bw σ kp (bq n (0::1::2::l)) snap (.fn g bk) (.fn g bk):=λσ kp n l snap=>.eq (C3 n l).symm;generalize au:rH m P step a=res;unfold rH at au;refine Holds.aK 88 3 [.tmp 6] Tryz.func65 ?_;by_cases DT:jO m=0;rotate_left
 ·rw[if_neg (λh=>DT h.1)]at au;((repeat'(first|refine Vd @cJ.eq_1 hv ?_|(refine V2 @cJ.eq_1 ?_ ?_<;>try with_reducible intro hb)|(refine Xi ?_ ?_<;>try intro ht)|exact Xx|fail)))
  subst au;exact Xw false [0,1,2] (X3 @pF @pG @pH)
 rw[DT]at hv;have cB:=rA.1 DT;have uI:=agQ m P cB hP;cases hs:lY m P
 ·rw[hs]at uI au;rw[if_neg Iy]at au;((repeat'(first|refine Vd (X3 @cJ.eq_1 @bne_self_eq_false.{0} @Bool.not_false) (X2 hv uI) ?_|(refine Xi ?_ ?_<;>try intro ht)|exact Xx|fail)))
  subst au;exact Xw false [0,1,2] (X3 @pF @pG @pH)
 rw[hs]at uI au;rw[if_pos ⟨DT,rfl⟩]at au;have kM:=Ye m hm;have Yf:=XJ cB;have GY:=K8 hs;have ov:=agM hs;clear DT;have hIn:=hI cB hs;unfold root at au hIn;generalize eS m=al at *;((repeat'(first|refine Vd (X3 @cJ.eq_1 @bne_self_eq_false.{0} @Bool.not_true) (X3 hv uI kM) ?_|(refine Xi ?_ ?_<;>try intro ht)|exact Xx|fail)))
 refine aU (λz:List eA×List eA×α=>(⟨an [(2,.fn g bk),(3,.ptr 3 0 0),(4,.ptr 4 0 0),(7,.ref 5 3 0 z.1.length)],[A z.2.2,B z.2.2,C z.2.2,.var (ao m),.var (cJ P),.arr 3 (rowsOf l7 (z.1.reverse++z.2.1))]⟩:St))
  (λz=>(∀ s∈z.1,z8 m P s)/\Aa z.1/\Inv z.2.2 (z.1.flatMap (vs P))/\kT P step (z.1.flatMap (vs P)) z.2.2=res) (λz=>(z.1.flatMap (vs P)).length) ([(0,al,[])],[],a) ⟨λs hs=>by rw[List.mem_singleton]at hs;subst hs;exact⟨ov.1,Yf,Nat.le_refl _⟩,⟨aT _,trivial⟩,by simpa using hIn,by simpa using au⟩ (Xv @cJ.eq_1) ?_
 clear au Yf hI hIn;rintro⟨T,J,a⟩⟨Bg,jh,GZ,au⟩Ql ak ar;dsimp only at Bg jh GZ au ⊢;cases T with
 |nil =>
  rw[List.flatMap_nil,kT]at au;((repeat'(first|refine Va X0 ?_|(refine Xi ?_ ?_<;>try intro ht)|exact Xx|fail)))
  refine ar _ _ rfl ?_;clear ak ar Ql;repeat(refine Xu ?_)
  refine Vb X0 ?_;subst au;exact Xw false [0,1,2] (X3 @pF @pG @pH)
 |cons s T =>
  have pI:=Bg s Iy;have hgT:∀ t∈T,z8 m P t:=λt ht=>Bg t (by simp[ht]);have K':=DN GY pI.1;rw[xJ,K',dh]at GZ;have Yg:=hE.inv a s _ pI GZ;rw[xJ,K',dh,kT]at au;have kz:(rowsOf l7 ((s::T).reverse++J))[T.length]?=some (l7 s):=by
   unfold rowsOf;rw[b9,List.reverse_cons,bC,gX Iy];simp
  have iA:(rowsOf l7 ((s::T).reverse++J)).take T.length=rowsOf l7 T.reverse:=by
   unfold rowsOf;rw[<- E2,List.reverse_cons,bC,List.take_append_of_le_length Iy,c8 Iy]
  have hRl:T.length+1<=((s::T).reverse++J).length:=Iy;have ht1:(((T.length+1:Nat):Int)-1).toNat=T.length:=Ix;have ri:=agL;rw[dt];generalize hRR:(s::T).reverse++J=L at *;obtain⟨BT,jh⟩:=jh;obtain⟨i,left,ab⟩:=s;dsimp only at BT;have hi:i<P.length:=pI.1;have nG:df m left:=pI.2.1;have iY:ab.length<=i:=pI.2.2;have bU:P.getD i default=nd P i:=rfl;have cH:=aG (l:=P) (i:=i) (d:=default) hi;have b1:=hP.kids _ cH;have hdi:=GY i hi;have G0:=λo=>DR (o:=o) GY pI.1;have La:=λo=>agO (o:=o) GY pI;have kB:=Yd hs hi;have DU:∀ o,oJ P (i,left,ab) o=(((nd P i).kids.getD o 0).toNat,nL left (nd P i).cls.toNat o,ab++[(nd P i).cls]):=λo=>rfl;have Lb:tg P (i,left,ab)=iZ P (i,left,ab) (nd P i).kids.length:=rfl;rw[bU]at b1 cH;dsimp only at au G0 La;generalize cW:nd P i=x at *;obtain⟨c,kids,ew,bh,cells⟩:=x;dsimp only at b1 hdi G0 La DU Lb au;repeat'(first|((fail_if_success (first|refine ei 8 ?_|refine ej 8 ?_));refine Xr (X5 @kz @l7.eq_1 @ht1 @ri (X4 @cJ.eq_1 @bU @bz.eq_1 @Option.map_none.{0,0})) ?_;intro K hK)|(refine hK _ ?_;clear hK K)|(refine Xi ?_ ?_<;>try intro ht)|refine Xy ?_|refine Xd ?_ ?_|exact Xx|fail)
  refine cr (aF.Bv 8 6 (cells:=[N0 i,.tree 1 (rowsOf aA left),rI ab]) NZ (by simp only[Kc,simprocAttr]) (by
   intro v hv;simp only[bj,gU,or_false]at hv;rcases hv with rfl|rfl|rfl
   ·exact .inl ⟨_,rfl⟩
   ·exact .inr ⟨_,_,rfl⟩
   ·rcases Ya ab with⟨y,h,_⟩|h
    ·exact .inl ⟨y,h⟩
    ·exact .inr h)) ?_
  refine cr (aF.Bv 9 7 (cells:=bz ⟨c,kids,ew,bh,cells⟩) NZ (by simp only[Kc,simprocAttr]) (by simp[bz])) ?_;refine cr (σ':=⟨an [(2,.fn g bk),(3,.ptr 3 0 0),(4,.ptr 4 0 0),(7,.ref 5 3 0 T.length),(8,.cd [N0 i,.tree 1 (rowsOf aA left),rI ab]),(9,.cd (bz ⟨c,kids,ew,bh,cells⟩))],[A a,B a,C a,.var (ao m),.var (cJ P),.arr 3 (rowsOf l7 L)]⟩) (by((refine aF.se [0,1,2,3,4,5] false (by simp only[Oc,simprocAttr,pF,pG,pH,cJ]) ?_;simp only[Hr,↓reduceIte,Nat.reduceEqDiff,qW,Nat.reduceAdd,pF,pG,pH,cJ];try(and_intros<;>first|exact .pure rfl|exact .eq rfl|exact .fz rfl (by simp only[Bc,Rc]))));(and_intros<;>first|exact wR ..|exact .pure rfl|exact .eq rfl)) ?_;have iP:Holds Tryz.prog 96 [rI ab,N0 c] [] (.lit (.bool (ab.contains c))) []:=by
   have:=Yh ab c Ix;cases ab with
   |nil=>exact Holds.Dj (pre:=[]) (post:=[N0 c]) this
   |cons x r=>exact this
  cases Yi:ab.contains c;rotate_left
  ·rw[Yi]at iP au;rw[if_pos rfl]at au;((refine Va @bz.eq_1 ?_)<;>try with_reducible intro K hK)
   refine bR iP (Yb _ _) rfl ?_;((try revert hK K);(repeat'(first|refine Va @bz.eq_1 ?_|(refine Xi ?_ ?_<;>try intro ht)|exact Xx|fail)))
   repeat(refine Xu ?_)
   refine Vb X0 ?_;rw[<- au];exact Xw false [0,1,2] (X3 @pF @pG @pH)
  rw[Yi]at iP au;rw[if_neg Iy]at au;have oa:=hE.call cB a (i,left,ab) _ pI GZ;dsimp only at oa;generalize dU:step a (i,left,ab)=sa at *;obtain⟨a2,b⟩:=sa;dsimp only at oa au Yg;((refine Va @bz.eq_1 ?_)<;>try with_reducible intro K hK)
  refine bR iP (Yb _ _) rfl ?_;cases b
  ·rw[if_neg Iy]at au;((try revert hK K);(refine Va @bz.eq_1 ?_)<;>try with_reducible intro K hK)
   refine jv [0,1,2] oa NI ⟨by rw[pF];rfl,by rw[pG];rfl,by rw[pH];rfl,trivial⟩ ⟨.pure rfl,K9 bk (hE.rc _ rfl rfl rfl)⟩ ?_;((try revert hK K);(repeat'(first|refine Va (X4 @bz.eq_1 @pF @pG @pH) ?_|(refine Xi ?_ ?_<;>try intro ht)|exact Xx|fail)))
   repeat(refine Xu ?_)
   refine Vb X0 ?_;rw[<- au];exact Xw false [0,1,2] (X3 @pF @pG @pH)
  rw[if_pos rfl]at au;((try revert hK K);(refine Va @bz.eq_1 ?_)<;>try with_reducible intro K hK)
  refine jv [0,1,2] oa NI ⟨by rw[pF];rfl,by rw[pG];rfl,by rw[pH];rfl,trivial⟩ ⟨.pure rfl,K9 bk (hE.rc _ rfl rfl rfl)⟩ ?_;((try revert hK K);(repeat'(first|refine Va (X4 @bz.eq_1 @pF @pG @pH) ?_|(refine Xi ?_ ?_<;>try intro ht)|exact Xx|fail)))
  have oK:0<kids.length->0<=c/\c<m.cls.length/\kids.length=(m.cls.getD c.toNat default).length:=λh=>by
   unfold mz rC at kB;dsimp only at kB;rw[aZ]at kB;have h1:=kB.1;split at h1
   ·rw[decide_eq_true_eq]at h1;omega
   ·rw[decide_eq_true_eq]at h1;exact⟨h1.1,h1.2.1,h1.2.2.1⟩
  have Le:kids.length<=24:=by
   unfold mz at kB;rw[aZ]at kB;exact Ky cB kB.1
  refine aU (λz:Nat×List eA=>(⟨an [(2,.fn g bk),(3,.ptr 3 0 0),(4,.ptr 4 0 0),(7,.ref 5 3 0 (T.length+z.1)),(8,.cd [N0 i,.tree 1 (rowsOf aA left),rI ab]),(9,.cd (bz ⟨c,kids,ew,bh,cells⟩)),(60,.tree 1 (ints kids)),(61,N0 kids.length),(62,N0 z.1)],[A a2,B a2,C a2,.var (ao m),.var (cJ P),.arr 3 (rowsOf l7 z.2)]⟩:St))
   (λz=>z.1<=kids.length/\T.length+z.1<=z.2.length/\z.2.take (T.length+z.1)=T.reverse++iZ P (i,left,ab) z.1) (λz=>kids.length-z.1) (0,L) ⟨aT _,NQ,by
    dsimp only;rw[<- hRR,Nat.add_zero,List.reverse_cons,bC,List.take_append_of_le_length Iy,c8 Iy];simp[iZ]⟩ (Xv (X2 @cJ.eq_1 @bz.eq_1)) ?_
  rintro⟨o,L2⟩⟨ho,l8,Lf⟩c7 br bx;dsimp only at ho l8 Lf ⊢;by_cases cE:o<kids.length
  ·obtain⟨c1,c2,c3⟩:=oK Ix;obtain⟨k1,k2,k3⟩:=G0 o cE;have DU:=DU o;have Lh:(left.getD c.toNat default).length=kids.length:=by rw[c3];exact nG.2 c.toNat (by have:=nG.1;omega)
   have nX:=agU left c.toNat o (by have:=nG.1;omega) Ix (by have:=nG.1;have:=cB.cls;omega) Ix;rw[Int.toNat_of_nonneg c1]at nX;have pJ:(rowsOf l7 L2).take (T.length+o)=rowsOf l7 (T.reverse++iZ P (i,left,ab) o):=by unfold rowsOf;rw[<- E2,Lf]
   have dD:(T.reverse++iZ P (i,left,ab) o).length=T.length+o:=by simp[iZ]
   generalize kx:kids.getD o 0=k at *;generalize nL left c.toNat o=on at *;by_cases Yj:ab=[]
   ·subst Yj;((repeat'(first|refine Vc (X5 @bz.eq_1 @kx (X2 @rI.eq_1 @rI.eq_2) @pJ @dD) (X2 nX agV) ?_|(refine Xi ?_ ?_<;>try intro ht)|exact Xx|fail)))
    have kr:(rowsOf l7 (T.reverse++iZ P (i,left,[]) o)++[[AV.lit (.int .i64 k),.tree 1 (rowsOf aA on),.ref 7 1 0 1]])[T.length+o]?=some [AV.lit (.int .i64 k),.tree 1 (rowsOf aA on),.ref 7 1 0 1]:=by
     rw[gX (by simp[rowsOf,<- dD])];simp[rowsOf,<- dD]
    have Li:rowsOf l7 (T.reverse++iZ P (i,left,[]) (o+1))=(rowsOf l7 (T.reverse++iZ P (i,left,[]) o)++[[AV.lit (.int .i64 k),.tree 1 (rowsOf aA on),.ref 7 1 0 1]]).set (T.length+o) [AV.lit (.int .i64 k),.tree 1 (rowsOf aA on),.tree 1 [[AV.lit (.int .i64 c)]]]:=by
     rw[Cw _ _ (by simp[rowsOf,<- dD]),Yc,DU];have:(((k.toNat:Nat):Int))=k:=Ix;simp[rowsOf,<- dD,l7,rI,ints,this]
    have ta:(T.reverse++iZ P (i,left,[]) (o+1)).length=T.length+(o+1):=by simp[iZ]
    refine br _ (o+1,T.reverse++iZ P (i,left,[]) (o+1)) ⟨NQ,IE ta.symm,c8 (IE ta)⟩ NQ ?_;refine aF.trans (aF.UZ 7 9 (T.length+o) 2 1 3 (rows:=[[AV.lit (.int .i64 c)]]) rfl kr rfl rfl NI Iy Iy) ?_;simp only[wD,tP];rw[<- Li];((refine aF.se [0,1,2,3,4,9] false (by simp only[Oc,simprocAttr,pF,pG,pH,cJ]) ?_;simp only[Hr,↓reduceIte,Nat.reduceEqDiff,qW,Nat.reduceAdd,pF,pG,pH,cJ];try(and_intros<;>first|exact .pure rfl|exact .eq rfl|exact .fz rfl (by simp only[Bc,Rc]))))
    and_intros<;>first|exact wR ..|exact .pure rfl|exact .eq rfl
   ·have lN:0<ab.length:=by
     cases ab with
     |nil=>exact absurd rfl Yj
     |cons=>simp
    have Gd:∀ l:List Int,0<l.length->rI l=.tree 1 (ints l):=λl h=>by
     cases l with
     |nil=>simp at h
     |cons=>rfl
    have BU:=Gd ab lN;have agW:=Gd (ab++[c]) Iy;have bG:=Yk ab lN Ix;have wQ:(ints (ab++[c])).length=ab.length+1:=by simp[ints]
    have kr:(rowsOf l7 (T.reverse++iZ P (i,left,ab) o)++[[AV.lit (.int .i64 k),.tree 1 (rowsOf aA on),.ref 8 1 0 (ab.length+1)]])[T.length+o]?=some [AV.lit (.int .i64 k),.tree 1 (rowsOf aA on),.ref 8 1 0 (ab.length+1)]:=by
     rw[gX (by simp[rowsOf,<- dD])];simp[rowsOf,<- dD]
    have Li:rowsOf l7 (T.reverse++iZ P (i,left,ab) (o+1))=(rowsOf l7 (T.reverse++iZ P (i,left,ab) o)++[[AV.lit (.int .i64 k),.tree 1 (rowsOf aA on),.ref 8 1 0 (ab.length+1)]]).set (T.length+o) [AV.lit (.int .i64 k),.tree 1 (rowsOf aA on),.tree 1 (ints (ab++[c]))]:=by
     rw[Cw _ _ (by simp[rowsOf,<- dD]),Yc,DU];have:(((k.toNat:Nat):Int))=k:=Ix;simp[rowsOf,<- dD,l7,agW,this]
    have ta:(T.reverse++iZ P (i,left,ab) (o+1)).length=T.length+(o+1):=by simp[iZ]
    repeat'(first|((fail_if_success (first|refine ei 13 ?_|refine ej 13 ?_));refine Xr (X3 @bz.eq_1 @kx @BU) ?_;intro K hK)|(refine hK _ ?_;clear hK K)|(refine Xi ?_ ?_<;>try intro ht)|refine Xy ?_|refine Xd ?_ ?_|exact Xx|fail)
    refine nY [4,6,8,11,14] (.take 0 (.take 1 (.take 2 (.take 3 (.take 4 (.take 5 (.take 6 (.take 7 (.take 8 (.take 9 (.take 10 (.take 11 (.both 12 (.take 13 (.take 14 (.take 15 (.take 16 (.take 17 (.take 18 (.take 19 (.take 20 .nil)))))))) 13 (.take 14 (.both 12 (.take 15 (.take 16 (.take 17 (.take 18 (.take 19 (.take 20 .nil)))))) 15 (.take 12 (.take 16 (.take 17 (.take 18 (.take 19 (.take 20 .nil))))))))))))))))))))) rfl NI (by decide +kernel) ?_;simp(disch:=omega)only[Ac,↓Pc,simprocAttr,Pw,↓Lq,bz,kx,BU];refine b7 nX rfl rfl ?_;simp(disch:=omega)only[Ac,↓Pc,simprocAttr,Pw,↓Lq,bz,kx,BU];repeat'(with_reducible refine And.intro ?_ ?_)
    all_goals try(refine jv [] bG NI trivial ⟨.pure rfl,trivial⟩ ?_;simp(disch:=omega)only[Ac,↓Pc,simprocAttr,Pw,↓Lq,bz,kx,BU,Nat.sub_self,Nat.sub_zero,pJ,dD,CF])
    repeat'(first|with_reducible refine And.intro ?_ ?_|omega)
    all_goals
     repeat(refine Xu ?_)
     ((repeat'(first|refine Va X0 ?_|fail)))
    all_goals
     refine br _ (o+1,T.reverse++iZ P (i,left,ab) (o+1)) ⟨NQ,IE ta.symm,c8 (IE ta)⟩ NQ ?_;refine aF.trans (aF.UZ 8 10 (T.length+o) 2 1 3 (rows:=ints (ab++[c])) rfl kr rfl (by rw[wQ];rfl) NI (tY _) (wN _)) ?_;simp only[wD,tP];rw[<- Li];((refine aF.se [0,1,2,3,4,10] false (by simp only[Oc,simprocAttr,pF,pG,pH,cJ,BU]) ?_;simp only[Hr,↓reduceIte,Nat.reduceEqDiff,qW,Nat.reduceAdd,pF,pG,pH,cJ,BU];try(and_intros<;>first|exact .pure rfl|exact .eq rfl|exact .fz rfl (by simp only[Bc,Rc]))))
     and_intros<;>first|exact wR ..|exact .pure rfl|exact .eq rfl
  ·obtain rfl:o=kids.length:=Ix;((repeat'(first|refine Va @bz.eq_1 ?_|(refine Xi ?_ ?_<;>try intro ht)|exact Xx|fail)))
   refine bx _ _ rfl ?_;clear br bx c7;repeat(refine Xu ?_)
   ((skip))
   have eW:(iZ P (i,left,ab) kids.length).length=kids.length:=by simp[iZ]
   have l9:T.reverse++iZ P (i,left,ab) kids.length++L2.drop (T.length+kids.length)=L2:=by rw[<- Lf,List.take_append_drop]
   refine ak _ ((tg P (i,left,ab)).reverse++T,L2.drop (T.length+kids.length),a2) ⟨λt ht=>?_,?_,by dsimp only;rw[tN];exact Yg,?_⟩ ?_ ?_
   ·dsimp only at ht;rw[List.mem_append]at ht;rcases ht with ht|ht
    ·obtain⟨o,ho,rfl⟩:=z7 (AP.1 ht);dsimp only at ho;rw[cW]at ho;exact La o ho
    ·exact hgT t ht
   ·dsimp only;refine Aa.push jh BT _ (λt ht=>?_) (by rw[List.length_reverse,Lb,eW];exact Le);obtain⟨o,ho,rfl⟩:=z7 (AP.1 ht);dsimp only at ho;rw[cW]at ho;exact(G0 o ho).1
   ·dsimp only;rw[tN];exact au
   ·dsimp only;rw[tN,xJ,K',bF,bF,dt];omega
   ·dsimp only;rw[List.reverse_append,List.reverse_reverse,Lb,l9,bF,List.length_reverse,eW,Nat.add_comm kids.length T.length];exact Xv @cJ.eq_1
end T

