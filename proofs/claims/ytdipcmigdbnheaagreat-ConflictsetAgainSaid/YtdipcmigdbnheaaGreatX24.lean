import Derived.Test.YtdipcmigdbnheaaGreatX21
import Derived.Test.YtdipcmigdbnheaaGreatX22
import Derived.Test.YtdipcmigdbnheaaGreatX23
set_option linter.all false
set_option maxHeartbeats 0
set_option maxRecDepth 20000
open List renaming replicate→b6,map_take→xp,take→mA,drop→kH,map_append→gQ,length_replicate→sZ,mem_reverse→vO,flatMap_cons→sY,length→rS,length_map→ed,getElem?_eq_getElem→bT,getD_eq_getElem?_getD→aA,length_append→bR
open Nat renaming min_eq_left→vG
open Go Go.Am Go.Proofs
namespace T
def LG.mono{m:aj}{B C:Int}{g:Lg}(h:LG m B g)(hc:B<=C):LG m C g:=⟨h.s,h.t,h.sl,h.tl,λr hr=>(h.sb r hr).mono hc,λr hr=>(h.tb r hr).mono hc⟩
def kD(b:Bool):List AV:=[.lit (.bool b)]
instance:Row kD 1:=⟨λ_=>rfl,λb v hv=>by
 simp only[kD,List.mem_singleton]at hv;subst hv;exact .inl ⟨_,rfl,rfl⟩⟩
def S2(xs:List Bool):rowsOf kD xs=aY xs:=by simp[rowsOf,kD,aY]
def ph(n i:Nat)(s:Bool):List Bool:=b6 i s++b6 (n-i) false
def abG{n i j:Nat}{s:Bool}(h:j<=i):(rowsOf kD (ph n i s)).take j=rowsOf kD (b6 j s):=by
 unfold ph rowsOf;rw[<- xp,List.take_append_of_le_length aaZ,List.take_replicate,vG h]
def abH{n i j:Nat}{s:Bool}(h:i+j<=n)(hj:j<=i):rowsOf kD (b6 i s)++mA j (rowsOf kD (b6 i s))++kH (i+j) (rowsOf kD (ph n i s))=rowsOf kD (ph n (i+j) s):=by
 unfold ph rowsOf;rw[<- xp,<- List.map_drop,<- gQ,<- gQ,List.take_replicate,vG hj,List.drop_append,List.drop_eq_nil_of_le Jd,List.drop_replicate,List.nil_append,List.replicate_append_replicate];congr 3;simp;omega
def abI{n i:Nat}{s:Bool}(h:i<=n):(ph n i s).length=n:=by simp[ph];omega
def S3(s:Bool)(n:Nat)(hn:n<=1048576):an Tryz.prog 156 [.tree 1 [kD s],aa3 (n:Nat)] [] (.ref 0 1 0 n) [.arr 1 (rowsOf kD (b6 n s))]:=by
 have hm:=abJ n I6;refine an.aF 48 0 [.tmp 4] Tryz.func156 ?_;((repeat'(first|refine Vc (X5 @DU @DV @unI @unU (X4 @abM @abN @Option.isSome_some.{0} @LF)) hm ?_|(refine Xi ?_ ?_<;>try intro ht)|exact Xx|fail)))
 have e0:mA (min 1 n) [kD s]++kH (min 1 n) (b6 n [AV.lit (Value.bool false)])=rowsOf kD (ph n (min 1 n) s):=by
  unfold ph rowsOf;rw[List.drop_replicate];rcases Nat.eq_zero_or_pos n with h|h
  ·subst h;rfl
  ·rw[vG h,gQ,List.map_replicate,List.map_replicate];rfl
 have e0':mA (min 1 n) [kD s]++kH (min 1 n) (aY (b6 n false))=rowsOf kD (ph n (min 1 n) s):=by
  rw[<- e0];simp[aY]
 first|rw[e0]|rw[e0']
 refine aW (λi:Nat=>(⟨ax [(7,.ref 0 1 0 n),(8,aa3 i)],[.arr 1 (rowsOf kD (ph n i s))]⟩:St)) (λi=>i<=n/\(i=0->n=0)) (λi=>n-i) (min 1 n) ⟨I6,I6⟩ (Xv X0) ?_;rintro i⟨hi,hr⟩Ql aq au;by_cases hi':i<n
 ·have e1:i+min i (n-i)<=n:=I6;have hl:=abI (s:=s) hi;have qc:=λn s=>abG (n:=n) (s:=s) (Nat.le_refl i);((repeat'(first|refine Va (X5 @Option.map_none.{0,0} @List.drop_zero.{0} @qc @bW (X3 @sZ.{0} @zX @hl)) ?_|(refine Xi ?_ ?_<;>try intro ht)|exact Xx|fail)))
  rw[abH e1 (Nat.min_le_left _ _)];exact aq _ (i+min i (n-i)) ⟨I6,I6⟩ I6 (Xv X0)
 ·obtain rfl:i=n:=I6;((repeat'(first|refine Va X0 ?_|(refine Xi ?_ ?_<;>try intro ht)|exact Xx|fail)))
  refine au _ _ rfl ?_;clear aq au Ql;repeat(refine Xu ?_)
  refine Vb X0 ?_;have e2:ph i i s=b6 i s:=by simp[ph]
  rw[e2];exact Xw false [0] X0
def mj(m:aj):List (List Bool):=m.cls.map λl=>b6 l.length true
def dt(m:aj):List (List Bool):=if eJ m=0 then mj m else []
def S4(xs:List (List Bool))(b:List Bool):rowsOf bd xs++[[AV.tree 1 (aY b)]]=rowsOf bd (xs++[b]):=by simp[rowsOf,bd]
def abP(m:aj)(hm:MB m):an Tryz.prog 102 [.agg (av m)] [] (.tree 1 (rowsOf bd (dt m))) []:=by
 have h1:=p5 m hm;have vc:=hm.cls;generalize ao:dt m=res;unfold dt at ao;refine an.aF 25 0 [.tmp 2] Tryz.func102 ?_;by_cases hv:eJ m=0;rotate_left
 ·rw[if_neg hv]at ao;rw[<- ao];generalize eJ m=e at *;((repeat'(first|refine Vd X0 h1 ?_|(refine Xi ?_ ?_<;>try intro ht)|exact Xx|fail)))
  exact du [] true aab trivial aab aab aE.nil
 rw[if_pos hv]at ao;rw[hv]at h1;have dH:=fc.1 hv;have tE:=dH.cls;((repeat'(first|refine Vd @bne_self_eq_false.{0} h1 ?_|(refine Xi ?_ ?_<;>try intro ht)|exact Xx|fail)))
 refine aW (λz:Nat×List (List Bool)=>(⟨ax [(1,.ptr 0 0 0),(3,.ref 1 1 0 z.2.length),(10,.tree 1 (rowsOf bD m.cls)),(11,aa3 m.cls.length),(12,aa3 z.1)],[.var (av m),.arr 1 (rowsOf bd z.2)]⟩:St))
  (λz=>z.1<=m.cls.length/\z.2=(mj m).take z.1) (λz=>m.cls.length-z.1) (0,[]) ⟨Nat.zero_le _,rfl⟩ ?_ ?_
 ·refine aB.trans (aB.nil 3 1 (by simp only[Kc,simprocAttr]) aab) ?_;exact Xv X0
 rintro⟨i,xs⟩⟨hi,ec⟩Ql aq au;dsimp only at hi ec ⊢;have gp:(mj m).length=m.cls.length:=by simp[mj]
 by_cases hi':i<m.cls.length
 ·have pj:xs.length=i:=by rw[ec,List.length_take];omega
  have ey:(mj m).take (i+1)=xs++[b6 (m.cls.getD i default).length true]:=by
   rw[iB I6,<- ec];unfold mj;rw[ik _ _ _ hi']
  have vf:=dH.opt _ (aC (d:=default) hi');generalize bb:m.cls.getD i default=c at *;have Aq:=S3 true c.length I6;repeat'(first|((fail_if_success (first|refine eG 7 ?_|refine eH 7 ?_));refine Xr (X2 @bb @bD.eq_1) ?_;intro K hK)|(refine hK _ ?_;clear hK K)|(refine Xi ?_ ?_<;>try intro ht)|refine Xy ?_|refine Xd ?_ ?_|exact Xx|fail)
  refine Gk 5 aab ?_;intro K K1 hK uT;simp(disch:=omega)only[Ac,↓Pc,simprocAttr,mA];refine n6 [] Aq aab trivial ⟨aE.fz (rows:=rowsOf kD [true]) rfl rfl Jd,.pure rfl,trivial⟩ rfl (by simp[td,kD,rowsOf,flat]) ?_;simp(disch:=omega)only[Ac,↓Pc,simprocAttr];refine uT _ ⟨ax [(1,.ptr 0 0 0),(3,.ref 1 1 0 xs.length),(10,.tree 1 (rowsOf bD m.cls)),(11,aa3 m.cls.length),(12,aa3 i),(16,.ref 1 1 0 xs.length),(20,.tree 1 (aY (b6 c.length true)))],[.var (av m),.arr 1 (rowsOf bd xs)]⟩ ?_ ?_
  ·rw[<- S2];exact Xs true [0,1] X0
  clear uT K1;simp(disch:=omega)only[Ac,↓Pc,simprocAttr,kH,S4];repeat'(first|with_reducible refine And.intro ?_ ?_|omega)
  refine hK _ ?_;clear hK K;repeat(refine Xu ?_)
  refine Va X0 ?_;refine aq _ (i+1,xs++[b6 c.length true]) ⟨aaK,ey.symm⟩ aaK ?_;exact Xs false [0,3] X0
 ·rw[List.take_of_length_le I6]at ec;((repeat'(first|refine Va X0 ?_|(refine Xi ?_ ?_<;>try intro ht)|exact Xx|fail)))
  refine au _ _ rfl ?_;clear aq au Ql;repeat(refine Xu ?_)
  refine Vb X0 ?_;rw[ec,ao];exact Xw true [] X0
abbrev dX:=Nat×List (List Bool)×List Int
def pk:List Int->AV
 |[]=>.lit (.slice none 0 0)
 |x::r=>.tree 1 (ints (x::r))
def kS(s:dX):List AV:=[aa3 s.1,.tree 1 (rowsOf bd s.2.1),pk s.2.2]
def S5(l:List Int):(∃ y,pk l=AV.lit y/\y.oneCell'=true)\/∃ s r,pk l=.tree s r:=by
 cases l with
 |nil=>exact .inl ⟨_,rfl,rfl⟩
 |cons x r=>exact .inr ⟨_,_,rfl⟩
def S6(l:List Int)(x:Value):gF [pk l,.lit x]=true:=by cases l<;>rfl
def abQ(l:List Int):b7 (pk l)=true:=by cases l<;>rfl
instance:Row kS 3:=⟨λ_=>rfl,λx v hv=>by
 simp only[kS,List.mem_cons,List.not_mem_nil,or_false]at hv;rcases hv with rfl|rfl|rfl
 ·exact .inl ⟨_,rfl,rfl⟩
 ·exact .inr ⟨_,_,rfl⟩
 ·exact S5 _⟩
def nd(P:List Nd)(i:Nat):Nd:=P.getD i default
def ml(P:List Nd)(s:dX)(o:Nat):dX:=(((nd P s.1).kids.getD o 0).toNat,bN s.2.1 (nd P s.1).cls.toNat o,s.2.2++[(nd P s.1).cls])
def im(P:List Nd)(s:dX)(n:Nat):List dX:=(List.range n).map (ml P s)
def qj(P:List Nd)(s:dX):List dX:=im P s (nd P s.1).kids.length
def S7(P:List Nd)(s:dX)(n:Nat):im P s (n+1)=im P s n++[ml P s n]:=by unfold im;rw[List.range_succ,gQ];rfl
def rn(P:List Nd):Nat->dX->List dX
 |0,_=>[]
 |f+1,s=>s::((qj P s).reverse.flatMap (rn P f))
def vs(P:List Nd)(s:dX):List dX:=rn P (P.length-s.1) s
def Down(P:List Nd):Prop:=∀ i,i<P.length->∀ k∈(nd P i).kids,(i:Int)<k/\k<P.length
def HF{m:aj}{P:List Nd}(h:lx m P=true){i:Nat}(hi:i<P.length):lv m P.length i (nd P i)=true:=by
 cases hb:lv m P.length i (nd P i) with
 |true=>rfl
 |false=>rw[Sl hi hb]at h;cases h
def DW{m:aj}{P:List Nd}(h:lx m P=true):Down P:=λi hi k hk=>by
 have:=HF h hi;unfold lv at this;rw[Bool.and_eq_true,List.all_eq_true]at this;have h2:=this.2 k hk;unfold oI at h2;exact of_decide_eq_true h2
def S8{m:aj}{P:List Nd}(h:lx m P=true):1<=P.length/\P.length<=20000:=by
 by_cases hs:1<=P.length/\P.length<=20000
 ·exact hs
 ·rw[Sm hs]at h;cases h
def wV{P:List Nd}{s t:dX}(h:t∈qj P s):∃o,o<(nd P s.1).kids.length/\t=ml P s o:=by
 unfold qj im at h;obtain⟨o,ho,rfl⟩:=List.mem_map.1 h;exact⟨o,List.mem_range.1 ho,rfl⟩
def yN{P:List Nd}(hd:Down P){s:dX}(hs:s.1<P.length){o:Nat}(ho:o<(nd P s.1).kids.length):s.1<(ml P s o).1/\(ml P s o).1<P.length/\(((ml P s o).1:Nat):Int)=(nd P s.1).kids.getD o 0:=by
 have:=hd s.1 hs _ (aC (l:=(nd P s.1).kids) (i:=o) (d:=0) ho);unfold ml;dsimp only;omega
def abR{P:List Nd}(hd:Down P):∀ (f:Nat) (s:dX),s.1<P.length->P.length-s.1<=f->rn P f s=rn P (P.length-s.1) s:=by
 intro f
 induction f using Nat.strongRecOn with
 |_ f ih =>
  intro s hs hf;cases f with
  |zero=>omega
  |succ f =>
   obtain⟨g,hg⟩:∃g,P.length-s.1=g+1:=⟨P.length-s.1-1,I6⟩;rw[hg,rn,rn];refine congrArg _ ?_;have key:∀ t∈(qj P s).reverse,rn P f t=rn P g t:=λt ht=>by
    obtain⟨o,ho,rfl⟩:=wV (vO.1 ht);obtain⟨h1,h2,_⟩:=yN hd hs ho;rw[ih f I6 _ h2 I6,ih g I6 _ h2 I6]
   generalize (qj P s).reverse=L at key
   induction L with
   |nil=>rfl
   |cons t L AU=>rw[sY,sY,key t Jd,AU λu hu=>key u (by simp[hu])]
def yO{P:List Nd}(hd:Down P){s:dX}(hs:s.1<P.length):vs P s=s::(qj P s).reverse.flatMap (vs P):=by
 unfold vs;obtain⟨g,hg⟩:∃g,P.length-s.1=g+1:=⟨P.length-s.1-1,I6⟩;rw[hg,rn];refine congrArg _ ?_;have key:∀ t∈(qj P s).reverse,rn P g t=rn P (P.length-t.1) t:=λt ht=>by
  obtain⟨o,ho,rfl⟩:=wV (vO.1 ht);obtain⟨h1,h2,_⟩:=yN hd hs ho;exact abR hd g _ h2 I6
 generalize (qj P s).reverse=L at key
 induction L with
 |nil=>rfl
 |cons t L AU=>rw[sY,sY,key t Jd,AU λu hu=>key u (by simp[hu])]
def kF{α:Type}(P:List Nd)(step:α->dX->α×Bool):List dX->α->α×Bool
 |[],a=>(a,true)
 |s::L,a=>if s.2.2.contains (nd P s.1).cls=true then(a,false) else if(step a s).2=true then kF P step L (step a s).1 else((step a s).1,false)
def root(m:aj):dX:=(0,dt m,[])
def rp{α:Type}(m:aj)(P:List Nd)(step:α->dX->α×Bool)(a:α):α×Bool :=
 if eJ m=0/\lx m P=true then kF P step (vs P (root m)) a else(a,false)
def tY(m:aj)(P:List Nd)(s:dX):Prop:=s.1<P.length/\ej m s.2.1/\s.2.2.length<=s.1
def HG{m:aj}{x y:List (List Bool)}(h:ej m x)(he:y.map rS=x.map rS):ej m y:=by
 have hl:=congrArg rS he;rw[ed,ed]at hl;refine⟨by rw[hl];exact h.1,λi hi=>?_⟩;have h2:=congrArg (λz=>z[i]?) he;simp only[List.getElem?_map]at h2;rw[bT hi,bT I6]at h2;simp only[Option.map_some,Option.some.injEq]at h2;rw[<- h.2 i I6,aA,aA,bT hi,bT I6];exact h2
def S9 {m:aj} {P:List Nd} (hd:Down P) {s:dX} (h:tY m P s) {o:Nat} (ho:o<(nd P s.1).kids.length):tY m P (ml P s o) :=
  ⟨(yN hd h.1 ho).2.1,HG h.2.1 (GA _ _ _),by
    have h1:=(yN hd h.1 ho).1
    have h2:=h.2.2
    show (s.2.2++[_]).length<=_
    rw[bR,List.length_singleton];omega⟩
def DX{m:aj}(h:VM m):ej m (dt m):=by
 unfold dt;rw[if_pos (fc.2 h)];refine⟨by simp[mj],λi hi=>?_⟩;have hi':i<m.cls.length:=by simpa [mj] using hi
 unfold mj;rw[ik _ _ _ hi',sZ]
def wW:List dX->Prop
 |[]=>True
 |t::T=>T.length<=24*t.1/\wW T
def wW.push{T:List dX}{i:Nat}(h:wW T)(hT:T.length<=24*i):∀ (L:List dX),(∀ t∈L,i<t.1)->L.length<=24->wW (L++T)
 |[],_,_=>h
 |t::L,hl,hn=>by
  have h1:=hl t Jd;have h2:=wW.push h hT L (λu hu=>hl u (by simp[hu])) (by simp at hn;omega);refine⟨?_,h2⟩;simp only[List.length_cons]at hn;show(L++T).length<=_;rw[bR];omega
end T

