import Derived.Test.YtfoopmojjjpapaaGreatX36
import Derived.Test.YtfoopmojjjpapaaGreatX40
set_option linter.all false
set_option maxHeartbeats 0
set_option maxRecDepth 20000
open List renaming mem_cons→bj,not_mem_nil→gU,mem_reverse→AM,flatMap_cons→xG,length→kI,length_map→fX,getElem?_map→b9,getElem?_eq_getElem→bT,getD_eq_getElem?_getD→aB,length_append→bE,length_cons→dw,cons_append→dq,append_assoc→bC,getElem?_append_right→gX,map_take→EZ,take_of_length_le→c8,set_append_right→Cu,set_cons_succ→wB,set_cons_zero→tP,flatMap_append→tM
open Bool renaming and_eq_true→aZ
open Nat renaming zero_le→aT,reduceBEq→qV,le_of_eq→IC
open Go Go.Am Go.Proofs
namespace T
abbrev eA:=Nat×List (List Bool)×List Int
def rI:List Int->AV
 |[]=>.lit (.slice none 0 0)
 |x::r=>.tree 1 (ints (x::r))
def l7(s:eA):List AV:=[NX s.1,.tree 1 (rowsOf aA s.2.1),rI s.2.2]
def X7(l:List Int):(∃ y,rI l=AV.lit y/\y.oneCell'=true)\/∃ s r,rI l=.tree s r:=by
 cases l with
 |nil=>exact .inl ⟨_,rfl,rfl⟩
 |cons x r=>exact .inr ⟨_,_,rfl⟩
def X8(l:List Int)(x:Value):lL [rI l,.lit x]=true:=by cases l<;>rfl
def agH(l:List Int):cV (rI l)=true:=by cases l<;>rfl
instance:Row l7 3:=⟨λ_=>rfl,λx v hv=>by
 simp only[l7,bj,gU,or_false]at hv;rcases hv with rfl|rfl|rfl
 ·exact .inl ⟨_,rfl,rfl⟩
 ·exact .inr ⟨_,_,rfl⟩
 ·exact X7 _⟩
def nd(P:List Nd)(i:Nat):Nd:=P.getD i default
def oJ(P:List Nd)(s:eA)(o:Nat):eA:=(((nd P s.1).kids.getD o 0).toNat,nL s.2.1 (nd P s.1).cls.toNat o,s.2.2++[(nd P s.1).cls])
def iZ(P:List Nd)(s:eA)(n:Nat):List eA:=(List.range n).map (oJ P s)
def te(P:List Nd)(s:eA):List eA:=iZ P s (nd P s.1).kids.length
def X9(P:List Nd)(s:eA)(n:Nat):iZ P s (n+1)=iZ P s n++[oJ P s n]:=by unfold iZ;rw[List.range_succ,List.map_append];rfl
def uJ(P:List Nd):Nat->eA->List eA
 |0,_=>[]
 |f+1,s=>s::((te P s).reverse.flatMap (uJ P f))
def vs(P:List Nd)(s:eA):List eA:=uJ P (P.length-s.1) s
def Down(P:List Nd):Prop:=∀ i,i<P.length->∀ k∈(nd P i).kids,(i:Int)<k/\k<P.length
def X'{m:ah}{P:List Nd}(h:lY m P=true){i:Nat}(hi:i<P.length):mz m P.length i (nd P i)=true:=by
 cases hb:mz m P.length i (nd P i) with
 |true=>rfl
 |false=>rw[Wa hi hb]at h;cases h
def K5{m:ah}{P:List Nd}(h:lY m P=true):Down P:=λi hi k hk=>by
 have:=X' h hi;unfold mz at this;rw[aZ,List.all_eq_true]at this;have h2:=this.2 k hk;unfold uC at h2;exact of_decide_eq_true h2
def agI{m:ah}{P:List Nd}(h:lY m P=true):1<=P.length/\P.length<=20000:=by
 by_cases hs:1<=P.length/\P.length<=20000
 ·exact hs
 ·rw[Wd hs]at h;cases h
def zZ{P:List Nd}{s t:eA}(h:t∈te P s):∃o,o<(nd P s.1).kids.length/\t=oJ P s o:=by
 unfold te iZ at h;obtain⟨o,ho,rfl⟩:=List.mem_map.1 h;exact⟨o,List.mem_range.1 ho,rfl⟩
def DO{P:List Nd}(hd:Down P){s:eA}(hs:s.1<P.length){o:Nat}(ho:o<(nd P s.1).kids.length):s.1<(oJ P s o).1/\(oJ P s o).1<P.length/\(((oJ P s o).1:Nat):Int)=(nd P s.1).kids.getD o 0:=by
 have:=hd s.1 hs _ (aG (l:=(nd P s.1).kids) (i:=o) (d:=0) ho);unfold oJ;dsimp only;omega
def agJ{P:List Nd}(hd:Down P):∀ (f:Nat) (s:eA),s.1<P.length->P.length-s.1<=f->uJ P f s=uJ P (P.length-s.1) s:=by
 intro f
 induction f using Nat.strongRecOn with
 |_ f ih =>
  intro s hs hf;cases f with
  |zero=>omega
  |succ f =>
   obtain⟨g,hg⟩:∃g,P.length-s.1=g+1:=⟨P.length-s.1-1,Iv⟩;rw[hg,uJ,uJ];refine congrArg _ ?_;have key:∀ t∈(te P s).reverse,uJ P f t=uJ P g t:=λt ht=>by
    obtain⟨o,ho,rfl⟩:=zZ (AM.1 ht);obtain⟨h1,h2,_⟩:=DO hd hs ho;rw[ih f Iv _ h2 Iv,ih g Iv _ h2 Iv]
   generalize (te P s).reverse=L at key
   induction L with
   |nil=>rfl
   |cons t L DK=>rw[xG,xG,key t Iw,DK λu hu=>key u (by simp[hu])]
def DJ{P:List Nd}(hd:Down P){s:eA}(hs:s.1<P.length):vs P s=s::(te P s).reverse.flatMap (vs P):=by
 unfold vs;obtain⟨g,hg⟩:∃g,P.length-s.1=g+1:=⟨P.length-s.1-1,Iv⟩;rw[hg,uJ];refine congrArg _ ?_;have key:∀ t∈(te P s).reverse,uJ P g t=uJ P (P.length-t.1) t:=λt ht=>by
  obtain⟨o,ho,rfl⟩:=zZ (AM.1 ht);obtain⟨h1,h2,_⟩:=DO hd hs ho;exact agJ hd g _ h2 Iv
 generalize (te P s).reverse=L at key
 induction L with
 |nil=>rfl
 |cons t L DK=>rw[xG,xG,key t Iw,DK λu hu=>key u (by simp[hu])]
def kT{α:Type}(P:List Nd)(step:α->eA->α×Bool):List eA->α->α×Bool
 |[],a=>(a,true)
 |s::L,a=>if s.2.2.contains (nd P s.1).cls=true then(a,false) else if(step a s).2=true then kT P step L (step a s).1 else((step a s).1,false)
def root(m:ah):eA:=(0,eS m,[])
def rH{α:Type}(m:ah)(P:List Nd)(step:α->eA->α×Bool)(a:α):α×Bool :=
 if jP m=0/\lY m P=true then kT P step (vs P (root m)) a else(a,false)
def z6(m:ah)(P:List Nd)(s:eA):Prop:=s.1<P.length/\df m s.2.1/\s.2.2.length<=s.1
def XH{m:ah}{x y:List (List Bool)}(h:df m x)(he:y.map kI=x.map kI):df m y:=by
 have hl:=congrArg kI he;rw[fX,fX]at hl;refine⟨by rw[hl];exact h.1,λi hi=>?_⟩;have h2:=congrArg (λz=>z[i]?) he;simp only[b9]at h2;rw[bT hi,bT Iv]at h2;simp only[Option.map_some,Option.some.injEq]at h2;rw[<- h.2 i Iv,aB,aB,bT hi,bT Iv];exact h2
def agK {m:ah} {P:List Nd} (hd:Down P) {s:eA} (h:z6 m P s) {o:Nat} (ho:o<(nd P s.1).kids.length):z6 m P (oJ P s o) :=
  ⟨(DO hd h.1 ho).2.1,XH h.2.1 (XI _ _ _),by
    have h1:=(DO hd h.1 ho).1
    have h2:=h.2.2
    show (s.2.2++[_]).length<=_
    rw[bE,List.length_singleton];omega⟩
def XF{m:ah}(h:VM m):df m (eS m):=by
 unfold eS;rw[if_pos (rz.2 h)];refine⟨by simp[dO],λi hi=>?_⟩;have aq:i<m.cls.length:=by simpa [dO] using hi
 unfold dO;rw[iX _ _ _ aq,List.length_replicate]
def z8:List eA->Prop
 |[]=>True
 |t::T=>T.length<=24*t.1/\z8 T
def z8.push{T:List eA}{i:Nat}(h:z8 T)(hT:T.length<=24*i):∀ (L:List eA),(∀ t∈L,i<t.1)->L.length<=24->z8 (L++T)
 |[],_,_=>h
 |t::L,hl,hn=>by
  have h1:=hl t Iw;have h2:=z8.push h hT L (λu hu=>hl u (by simp[hu])) (by simp at hn;omega);refine⟨?_,h2⟩;simp only[dw]at hn;show(L++T).length<=_;rw[bE];omega
structure agL(α:Type)(m:ah)(P:List Nd)(A B C:α->Ob)(bk:List AV)(g:FuncId)(step:α->eA->α×Bool)(Inv:α->List eA->Prop):Prop where
 ra:∀ (ρ:Nat->Nat),ρ 0=0->ρ 1=1->ρ 2=2->∀ a,bH ρ (A a)=A a/\bH ρ (B a)=B a/\bH ρ (C a)=C a
 rc:∀ (ρ:Nat->Nat),ρ 0=0->ρ 1=1->ρ 2=2->∀ v∈bk,bf ρ v=v
 inv:∀ a s L,z6 m P s->Inv a (s::L)->Inv (step a s).1 L
 call:VM m->∀ a s L,z6 m P s->Inv a (s::L)->Holds Tryz.prog g (.agg [.lit (.int .i64 s.1),.tree 1 (rowsOf aA s.2.1)]::bk) [A a,B a,C a] (.lit (.bool (step a s).2)) [A (step a s).1,B (step a s).1,C (step a s).1]
def K6{σ:St}{kp:Nat->Prop}{ρ:Nat->Nat}{snap:Bool}:∀ (l:List AV),(∀ v∈l,bf ρ v=v)->ju (bw σ kp ρ snap) l l
 |[],_=>trivial
 |v::l,h=>⟨.eq (h v Iw).symm,K6 l λx hx=>h x (by simp[hx])⟩
def agB{α:Type}(m:ah)(P:List Nd)(hm:MB m)(hP:PB P)(A B C:α->Ob)(bk:List AV)(g:FuncId)(step:α->eA->α×Bool){Inv:α->List eA->Prop}(hE:agL α m P A B C bk g step Inv)(a:α)(hI:VM m->lY m P=true->Inv a (vs P (root m))):
  Holds Tryz.prog 65 [.agg (ao m),.agg (cI P),.fn g bk] [A a,B a,C a] (.lit (.bool (rH m P step a).2)) [A (rH m P step a).1,B (rH m P step a).1,C (rH m P step a).1]:=by
 have hv:=J9 m hm;have z7:=hP.Kv;have pE:∀ n l a,bH (bq n (0::1::2::l)) (A a)=A a:=λn l a=>(hE.ra _ rfl rfl rfl a).1;have pF:∀ n l a,bH (bq n (0::1::2::l)) (B a)=B a:=λn l a=>(hE.ra _ rfl rfl rfl a).2.1;have pG:∀ n l a,bH (bq n (0::1::2::l)) (C a)=C a:=λn l a=>(hE.ra _ rfl rfl rfl a).2.2;have C1:∀ n l,bf (bq n (0::1::2::l)) (.fn g bk)=.fn g bk:=λn l=>by
  rw[bf];refine congrArg _ ?_;have h:=hE.rc (bq n (0::1::2::l)) rfl rfl rfl;rw[wI];exact(List.map_congr_left h).trans (List.map_id bk)
 have wO:∀ (σ:St) (kp:Nat->Prop) n l snap,bw σ kp (bq n (0::1::2::l)) snap (.fn g bk) (.fn g bk):=λσ kp n l snap=>.eq (C1 n l).symm;generalize au:rH m P step a=res;unfold rH at au;refine Holds.aK 88 3 [.tmp 6] Tryz.func65 ?_;by_cases DP:jP m=0;rotate_left
 ·rw[if_neg (λh=>DP h.1)]at au;((repeat'(first|refine Vd @cI.eq_1 hv ?_|(refine V2 @cI.eq_1 ?_ ?_<;>try with_reducible intro hb)|(refine Xi ?_ ?_<;>try intro ht)|exact Xx|fail)))
  subst au;exact Xw false [0,1,2] (X3 @pE @pF @pG)
 rw[DP]at hv;have cA:=rz.1 DP;have uI:=agM m P cA hP;cases hs:lY m P
 ·rw[hs]at uI au;rw[if_neg Iw]at au;((repeat'(first|refine Vd (X3 @cI.eq_1 @bne_self_eq_false.{0} @Bool.not_false) (X2 hv uI) ?_|(refine Xi ?_ ?_<;>try intro ht)|exact Xx|fail)))
  subst au;exact Xw false [0,1,2] (X3 @pE @pF @pG)
 rw[hs]at uI au;rw[if_pos ⟨DP,rfl⟩]at au;have kM:=Ya m hm;have Yb:=XF cA;have GV:=K5 hs;have ov:=agI hs;clear DP;have hIn:=hI cA hs;unfold root at au hIn;generalize eS m=al at *;((repeat'(first|refine Vd (X3 @cI.eq_1 @bne_self_eq_false.{0} @Bool.not_true) (X3 hv uI kM) ?_|(refine Xi ?_ ?_<;>try intro ht)|exact Xx|fail)))
 refine aU (λz:List eA×List eA×α=>(⟨an [(2,.fn g bk),(3,.ptr 3 0 0),(4,.ptr 4 0 0),(7,.ref 5 3 0 z.1.length)],[A z.2.2,B z.2.2,C z.2.2,.var (ao m),.var (cI P),.arr 3 (rowsOf l7 (z.1.reverse++z.2.1))]⟩:St))
  (λz=>(∀ s∈z.1,z6 m P s)/\z8 z.1/\Inv z.2.2 (z.1.flatMap (vs P))/\kT P step (z.1.flatMap (vs P)) z.2.2=res) (λz=>(z.1.flatMap (vs P)).length) ([(0,al,[])],[],a) ⟨λs hs=>by rw[List.mem_singleton]at hs;subst hs;exact⟨ov.1,Yb,Nat.le_refl _⟩,⟨aT _,trivial⟩,by simpa using hIn,by simpa using au⟩ (Xv @cI.eq_1) ?_
 clear au Yb hI hIn;rintro⟨T,J,a⟩⟨Bd,jh,GW,au⟩Ql ak ar;dsimp only at Bd jh GW au ⊢;cases T with
 |nil =>
  rw[List.flatMap_nil,kT]at au;((repeat'(first|refine Va X0 ?_|(refine Xi ?_ ?_<;>try intro ht)|exact Xx|fail)))
  refine ar _ _ rfl ?_;clear ak ar Ql;repeat(refine Xu ?_)
  refine Vb X0 ?_;subst au;exact Xw false [0,1,2] (X3 @pE @pF @pG)
 |cons s T =>
  have pH:=Bd s Iw;have hgT:∀ t∈T,z6 m P t:=λt ht=>Bd t (by simp[ht]);have K7:=DJ GV pH.1;rw[xG,K7,dq]at GW;have Yc:=hE.inv a s _ pH GW;rw[xG,K7,dq,kT]at au;have kz:(rowsOf l7 ((s::T).reverse++J))[T.length]?=some (l7 s):=by
   unfold rowsOf;rw[b9,List.reverse_cons,bC,gX Iw];simp
  have iA:(rowsOf l7 ((s::T).reverse++J)).take T.length=rowsOf l7 T.reverse:=by
   unfold rowsOf;rw[<- EZ,List.reverse_cons,bC,List.take_append_of_le_length Iw,c8 Iw]
  have hRl:T.length+1<=((s::T).reverse++J).length:=Iw;have ht1:(((T.length+1:Nat):Int)-1).toNat=T.length:=Iv;have rh:=agH;rw[dw];generalize hRR:(s::T).reverse++J=L at *;obtain⟨BO,jh⟩:=jh;obtain⟨i,left,ab⟩:=s;dsimp only at BO;have hi:i<P.length:=pH.1;have nG:df m left:=pH.2.1;have iY:ab.length<=i:=pH.2.2;have bU:P.getD i default=nd P i:=rfl;have cH:=aG (l:=P) (i:=i) (d:=default) hi;have b1:=hP.kids _ cH;have hdi:=GV i hi;have GX:=λo=>DO (o:=o) GV pH.1;have K8:=λo=>agK (o:=o) GV pH;have kB:=X' hs hi;have DQ:∀ o,oJ P (i,left,ab) o=(((nd P i).kids.getD o 0).toNat,nL left (nd P i).cls.toNat o,ab++[(nd P i).cls]):=λo=>rfl;have K9:te P (i,left,ab)=iZ P (i,left,ab) (nd P i).kids.length:=rfl;rw[bU]at b1 cH;dsimp only at au GX K8;generalize cW:nd P i=x at *;obtain⟨c,kids,ew,bh,cells⟩:=x;dsimp only at b1 hdi GX K8 DQ K9 au;repeat'(first|((fail_if_success (first|refine ei 8 ?_|refine ej 8 ?_));refine Xr (X5 @kz @l7.eq_1 @ht1 @rh (X4 @cI.eq_1 @bU @bz.eq_1 @Option.map_none.{0,0})) ?_;intro K hK)|(refine hK _ ?_;clear hK K)|(refine Xi ?_ ?_<;>try intro ht)|refine Xy ?_|refine Xd ?_ ?_|exact Xx|fail)
  refine cp (aF.Bs 8 6 (cells:=[NX i,.tree 1 (rowsOf aA left),rI ab]) NW (by simp only[Kc,simprocAttr]) (by
   intro v hv;simp only[bj,gU,or_false]at hv;rcases hv with rfl|rfl|rfl
   ·exact .inl ⟨_,rfl⟩
   ·exact .inr ⟨_,_,rfl⟩
   ·rcases X7 ab with⟨y,h,_⟩|h
    ·exact .inl ⟨y,h⟩
    ·exact .inr h)) ?_
  refine cp (aF.Bs 9 7 (cells:=bz ⟨c,kids,ew,bh,cells⟩) NW (by simp only[Kc,simprocAttr]) (by simp[bz])) ?_;refine cp (σ':=⟨an [(2,.fn g bk),(3,.ptr 3 0 0),(4,.ptr 4 0 0),(7,.ref 5 3 0 T.length),(8,.cd [NX i,.tree 1 (rowsOf aA left),rI ab]),(9,.cd (bz ⟨c,kids,ew,bh,cells⟩))],[A a,B a,C a,.var (ao m),.var (cI P),.arr 3 (rowsOf l7 L)]⟩) (by((refine aF.se [0,1,2,3,4,5] false (by simp only[Oc,simprocAttr,pE,pF,pG,cI]) ?_;simp only[Hr,↓reduceIte,Nat.reduceEqDiff,qV,Nat.reduceAdd,pE,pF,pG,cI];try(and_intros<;>first|exact .pure rfl|exact .eq rfl|exact .fz rfl (by simp only[Bc,Rc]))));(and_intros<;>first|exact wO ..|exact .pure rfl|exact .eq rfl)) ?_;have iP:Holds Tryz.prog 96 [rI ab,NX c] [] (.lit (.bool (ab.contains c))) []:=by
   have:=Yd ab c Iv;cases ab with
   |nil=>exact Holds.Dh (pre:=[]) (post:=[NX c]) this
   |cons x r=>exact this
  cases Ye:ab.contains c;rotate_left
  ·rw[Ye]at iP au;rw[if_pos rfl]at au;((refine Va @bz.eq_1 ?_)<;>try with_reducible intro K hK)
   refine bR iP (X8 _ _) rfl ?_;((try revert hK K);(repeat'(first|refine Va @bz.eq_1 ?_|(refine Xi ?_ ?_<;>try intro ht)|exact Xx|fail)))
   repeat(refine Xu ?_)
   refine Vb X0 ?_;rw[<- au];exact Xw false [0,1,2] (X3 @pE @pF @pG)
  rw[Ye]at iP au;rw[if_neg Iw]at au;have oa:=hE.call cA a (i,left,ab) _ pH GW;dsimp only at oa;generalize dU:step a (i,left,ab)=sa at *;obtain⟨a2,b⟩:=sa;dsimp only at oa au Yc;((refine Va @bz.eq_1 ?_)<;>try with_reducible intro K hK)
  refine bR iP (X8 _ _) rfl ?_;cases b
  ·rw[if_neg Iw]at au;((try revert hK K);(refine Va @bz.eq_1 ?_)<;>try with_reducible intro K hK)
   refine jv [0,1,2] oa NF ⟨by rw[pE];rfl,by rw[pF];rfl,by rw[pG];rfl,trivial⟩ ⟨.pure rfl,K6 bk (hE.rc _ rfl rfl rfl)⟩ ?_;((try revert hK K);(repeat'(first|refine Va (X4 @bz.eq_1 @pE @pF @pG) ?_|(refine Xi ?_ ?_<;>try intro ht)|exact Xx|fail)))
   repeat(refine Xu ?_)
   refine Vb X0 ?_;rw[<- au];exact Xw false [0,1,2] (X3 @pE @pF @pG)
  rw[if_pos rfl]at au;((try revert hK K);(refine Va @bz.eq_1 ?_)<;>try with_reducible intro K hK)
  refine jv [0,1,2] oa NF ⟨by rw[pE];rfl,by rw[pF];rfl,by rw[pG];rfl,trivial⟩ ⟨.pure rfl,K6 bk (hE.rc _ rfl rfl rfl)⟩ ?_;((try revert hK K);(repeat'(first|refine Va (X4 @bz.eq_1 @pE @pF @pG) ?_|(refine Xi ?_ ?_<;>try intro ht)|exact Xx|fail)))
  have oK:0<kids.length->0<=c/\c<m.cls.length/\kids.length=(m.cls.getD c.toNat default).length:=λh=>by
   unfold mz rB at kB;dsimp only at kB;rw[aZ]at kB;have h1:=kB.1;split at h1
   ·rw[decide_eq_true_eq]at h1;omega
   ·rw[decide_eq_true_eq]at h1;exact⟨h1.1,h1.2.1,h1.2.2.1⟩
  have K':kids.length<=24:=by
   unfold mz at kB;rw[aZ]at kB;exact Kw cA kB.1
  refine aU (λz:Nat×List eA=>(⟨an [(2,.fn g bk),(3,.ptr 3 0 0),(4,.ptr 4 0 0),(7,.ref 5 3 0 (T.length+z.1)),(8,.cd [NX i,.tree 1 (rowsOf aA left),rI ab]),(9,.cd (bz ⟨c,kids,ew,bh,cells⟩)),(60,.tree 1 (ints kids)),(61,NX kids.length),(62,NX z.1)],[A a2,B a2,C a2,.var (ao m),.var (cI P),.arr 3 (rowsOf l7 z.2)]⟩:St))
   (λz=>z.1<=kids.length/\T.length+z.1<=z.2.length/\z.2.take (T.length+z.1)=T.reverse++iZ P (i,left,ab) z.1) (λz=>kids.length-z.1) (0,L) ⟨aT _,NN,by
    dsimp only;rw[<- hRR,Nat.add_zero,List.reverse_cons,bC,List.take_append_of_le_length Iw,c8 Iw];simp[iZ]⟩ (Xv (X2 @cI.eq_1 @bz.eq_1)) ?_
  rintro⟨o,L2⟩⟨ho,l8,La⟩c7 br bx;dsimp only at ho l8 La ⊢;by_cases cD:o<kids.length
  ·obtain⟨c1,c2,c3⟩:=oK Iv;obtain⟨k1,k2,k3⟩:=GX o cD;have DQ:=DQ o;have Lb:(left.getD c.toNat default).length=kids.length:=by rw[c3];exact nG.2 c.toNat (by have:=nG.1;omega)
   have nX:=agQ left c.toNat o (by have:=nG.1;omega) Iv (by have:=nG.1;have:=cA.cls;omega) Iv;rw[Int.toNat_of_nonneg c1]at nX;have pI:(rowsOf l7 L2).take (T.length+o)=rowsOf l7 (T.reverse++iZ P (i,left,ab) o):=by unfold rowsOf;rw[<- EZ,La]
   have dD:(T.reverse++iZ P (i,left,ab) o).length=T.length+o:=by simp[iZ]
   generalize kx:kids.getD o 0=k at *;generalize nL left c.toNat o=on at *;by_cases Yf:ab=[]
   ·subst Yf;((repeat'(first|refine Vc (X5 @bz.eq_1 @kx (X2 @rI.eq_1 @rI.eq_2) @pI @dD) (X2 nX agR) ?_|(refine Xi ?_ ?_<;>try intro ht)|exact Xx|fail)))
    have kr:(rowsOf l7 (T.reverse++iZ P (i,left,[]) o)++[[AV.lit (.int .i64 k),.tree 1 (rowsOf aA on),.ref 7 1 0 1]])[T.length+o]?=some [AV.lit (.int .i64 k),.tree 1 (rowsOf aA on),.ref 7 1 0 1]:=by
     rw[gX (by simp[rowsOf,<- dD])];simp[rowsOf,<- dD]
    have Le:rowsOf l7 (T.reverse++iZ P (i,left,[]) (o+1))=(rowsOf l7 (T.reverse++iZ P (i,left,[]) o)++[[AV.lit (.int .i64 k),.tree 1 (rowsOf aA on),.ref 7 1 0 1]]).set (T.length+o) [AV.lit (.int .i64 k),.tree 1 (rowsOf aA on),.tree 1 [[AV.lit (.int .i64 c)]]]:=by
     rw[Cu _ _ (by simp[rowsOf,<- dD]),X9,DQ];have:(((k.toNat:Nat):Int))=k:=Iv;simp[rowsOf,<- dD,l7,rI,ints,this]
    have s9:(T.reverse++iZ P (i,left,[]) (o+1)).length=T.length+(o+1):=by simp[iZ]
    refine br _ (o+1,T.reverse++iZ P (i,left,[]) (o+1)) ⟨NN,IC s9.symm,c8 (IC s9)⟩ NN ?_;refine aF.trans (aF.UW 7 9 (T.length+o) 2 1 3 (rows:=[[AV.lit (.int .i64 c)]]) rfl kr rfl rfl NF Iw Iw) ?_;simp only[wB,tP];rw[<- Le];((refine aF.se [0,1,2,3,4,9] false (by simp only[Oc,simprocAttr,pE,pF,pG,cI]) ?_;simp only[Hr,↓reduceIte,Nat.reduceEqDiff,qV,Nat.reduceAdd,pE,pF,pG,cI];try(and_intros<;>first|exact .pure rfl|exact .eq rfl|exact .fz rfl (by simp only[Bc,Rc]))))
    and_intros<;>first|exact wO ..|exact .pure rfl|exact .eq rfl
   ·have lN:0<ab.length:=by
     cases ab with
     |nil=>exact absurd rfl Yf
     |cons=>simp
    have Ga:∀ l:List Int,0<l.length->rI l=.tree 1 (ints l):=λl h=>by
     cases l with
     |nil=>simp at h
     |cons=>rfl
    have BQ:=Ga ab lN;have agS:=Ga (ab++[c]) Iw;have bG:=Yg ab lN Iv;have wN:(ints (ab++[c])).length=ab.length+1:=by simp[ints]
    have kr:(rowsOf l7 (T.reverse++iZ P (i,left,ab) o)++[[AV.lit (.int .i64 k),.tree 1 (rowsOf aA on),.ref 8 1 0 (ab.length+1)]])[T.length+o]?=some [AV.lit (.int .i64 k),.tree 1 (rowsOf aA on),.ref 8 1 0 (ab.length+1)]:=by
     rw[gX (by simp[rowsOf,<- dD])];simp[rowsOf,<- dD]
    have Le:rowsOf l7 (T.reverse++iZ P (i,left,ab) (o+1))=(rowsOf l7 (T.reverse++iZ P (i,left,ab) o)++[[AV.lit (.int .i64 k),.tree 1 (rowsOf aA on),.ref 8 1 0 (ab.length+1)]]).set (T.length+o) [AV.lit (.int .i64 k),.tree 1 (rowsOf aA on),.tree 1 (ints (ab++[c]))]:=by
     rw[Cu _ _ (by simp[rowsOf,<- dD]),X9,DQ];have:(((k.toNat:Nat):Int))=k:=Iv;simp[rowsOf,<- dD,l7,agS,this]
    have s9:(T.reverse++iZ P (i,left,ab) (o+1)).length=T.length+(o+1):=by simp[iZ]
    repeat'(first|((fail_if_success (first|refine ei 13 ?_|refine ej 13 ?_));refine Xr (X3 @bz.eq_1 @kx @BQ) ?_;intro K hK)|(refine hK _ ?_;clear hK K)|(refine Xi ?_ ?_<;>try intro ht)|refine Xy ?_|refine Xd ?_ ?_|exact Xx|fail)
    refine nY [4,6,8,11,14] (.take 0 (.take 1 (.take 2 (.take 3 (.take 4 (.take 5 (.take 6 (.take 7 (.take 8 (.take 9 (.take 10 (.take 11 (.both 12 (.take 13 (.take 14 (.take 15 (.take 16 (.take 17 (.take 18 (.take 19 (.take 20 .nil)))))))) 13 (.take 14 (.both 12 (.take 15 (.take 16 (.take 17 (.take 18 (.take 19 (.take 20 .nil)))))) 15 (.take 12 (.take 16 (.take 17 (.take 18 (.take 19 (.take 20 .nil))))))))))))))))))))) rfl NF (by decide +kernel) ?_;simp(disch:=omega)only[Ac,↓Pc,simprocAttr,Pw,↓Lq,bz,kx,BQ];refine b7 nX rfl rfl ?_;simp(disch:=omega)only[Ac,↓Pc,simprocAttr,Pw,↓Lq,bz,kx,BQ];repeat'(with_reducible refine And.intro ?_ ?_)
    all_goals try(refine jv [] bG NF trivial ⟨.pure rfl,trivial⟩ ?_;simp(disch:=omega)only[Ac,↓Pc,simprocAttr,Pw,↓Lq,bz,kx,BQ,Nat.sub_self,Nat.sub_zero,pI,dD,CD])
    repeat'(first|with_reducible refine And.intro ?_ ?_|omega)
    all_goals
     repeat(refine Xu ?_)
     ((repeat'(first|refine Va X0 ?_|fail)))
    all_goals
     refine br _ (o+1,T.reverse++iZ P (i,left,ab) (o+1)) ⟨NN,IC s9.symm,c8 (IC s9)⟩ NN ?_;refine aF.trans (aF.UW 8 10 (T.length+o) 2 1 3 (rows:=ints (ab++[c])) rfl kr rfl (by rw[wN];rfl) NF (tY _) (wK _)) ?_;simp only[wB,tP];rw[<- Le];((refine aF.se [0,1,2,3,4,10] false (by simp only[Oc,simprocAttr,pE,pF,pG,cI,BQ]) ?_;simp only[Hr,↓reduceIte,Nat.reduceEqDiff,qV,Nat.reduceAdd,pE,pF,pG,cI,BQ];try(and_intros<;>first|exact .pure rfl|exact .eq rfl|exact .fz rfl (by simp only[Bc,Rc]))))
     and_intros<;>first|exact wO ..|exact .pure rfl|exact .eq rfl
  ·obtain rfl:o=kids.length:=Iv;((repeat'(first|refine Va @bz.eq_1 ?_|(refine Xi ?_ ?_<;>try intro ht)|exact Xx|fail)))
   refine bx _ _ rfl ?_;clear br bx c7;repeat(refine Xu ?_)
   ((skip))
   have eW:(iZ P (i,left,ab) kids.length).length=kids.length:=by simp[iZ]
   have l9:T.reverse++iZ P (i,left,ab) kids.length++L2.drop (T.length+kids.length)=L2:=by rw[<- La,List.take_append_drop]
   refine ak _ ((te P (i,left,ab)).reverse++T,L2.drop (T.length+kids.length),a2) ⟨λt ht=>?_,?_,by dsimp only;rw[tM];exact Yc,?_⟩ ?_ ?_
   ·dsimp only at ht;rw[List.mem_append]at ht;rcases ht with ht|ht
    ·obtain⟨o,ho,rfl⟩:=zZ (AM.1 ht);dsimp only at ho;rw[cW]at ho;exact K8 o ho
    ·exact hgT t ht
   ·dsimp only;refine z8.push jh BO _ (λt ht=>?_) (by rw[List.length_reverse,K9,eW];exact K');obtain⟨o,ho,rfl⟩:=zZ (AM.1 ht);dsimp only at ho;rw[cW]at ho;exact(GX o ho).1
   ·dsimp only;rw[tM];exact au
   ·dsimp only;rw[tM,xG,K7,bE,bE,dw];omega
   ·dsimp only;rw[List.reverse_append,List.reverse_reverse,K9,l9,bE,List.length_reverse,eW,Nat.add_comm kids.length T.length];exact Xv @cI.eq_1
end T

