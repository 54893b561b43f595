import Derived.Test.YtfoopmojjjpapaaGreatX13
import Derived.Test.YtfoopmojjjpapaaGreatX16
set_option linter.all false
set_option maxHeartbeats 0
set_option maxRecDepth 20000
open List renaming mem_cons→a8,not_mem_nil→iJ,range→aY,getD_eq_getElem?_getD→az,getElem?_map→bY,getElem?_range→nN,ext_getElem?→pR,getElem?_set→bU,length_map→eu,getElem?_eq_none→fY,replicate→aI,getElem?_replicate→CU,length_append→bI,all_eq_true→e8,mem_range→mN,getElem_of_mem→pW,getElem?_eq_getElem→bS,take_zero→mK,length_take→fZ,append_nil→np,take_length→y0,length_drop→yW,cons_append→e9,nil_append→iH,drop_eq_nil_of_le→j9,perm_middle→xO,nodup_cons→mO,mem_append→da
open Option renaming map_some→im
open Bool renaming eq_false_iff→C2,and_false→O8,false_and→pV,true_and→iI,and_eq_true→a7
open Nat renaming zero_le→aS,not_lt_zero→rW,le_refl→aU,strongRecOn→Je
open Int renaming toNat_of_nonneg→u5,toNat_natCast→cF
open Go Go.Am Go.Proofs
namespace T
structure Nd where
 cls:Int
 kids:List Int
 dW:List Mv
 bj:List Int
 cells:List (List (Int×Int))
 deriving Inhabited
def rI(l:List (Int×Int)):List AV:=[.tree 2 (rowsOf dt l)]
instance:Row rI 1:=⟨λ_=>rfl,λx v hv=>by
 simp only[rI,a8,iJ,or_false]at hv;subst hv;exact .inr ⟨_,_,rfl⟩⟩
def bC(x:Nd):List AV:=[OJ x.cls,.tree 1 (ints x.kids),.tree 4 (rowsOf aP x.dW),.tree 1 (ints x.bj),.tree 1 (rowsOf rI x.cells)]
instance:Row bC 5:=⟨λ_=>rfl,λx v hv=>by
 simp only[bC,a8,iJ,or_false]at hv;rcases hv with rfl|rfl|rfl|rfl|rfl
 ·exact .inl ⟨_,rfl,rfl⟩
 all_goals exact .inr ⟨_,_,rfl⟩⟩
def cB(P:List Nd):List AV:=[.tree 5 (rowsOf bC P)]
structure PB(P:List Nd):Prop where
 MZ:P.length<9223372036854775808
 kids:∀ x∈P,x.kids.length<9223372036854775808
 dW:∀ x∈P,x.dW.length<9223372036854775808
 bj:∀ x∈P,x.bj.length<9223372036854775808
 cells:∀ x∈P,x.cells.length<9223372036854775808
 cell:∀ x∈P,∀ l∈x.cells,l.length<9223372036854775808
def oN(m:aj)(x:Nd):Bool :=
 if x.cls = -1 then decide (x.kids.length=0/\(x.bj.length=0->x.cells.length=0)/\(0<x.bj.length->x.dW.length=0))
 else decide (0<=x.cls/\x.cls<m.cls.length/\x.kids.length=(m.cls.getD x.cls.toNat default).length/\x.dW.length=0/\x.bj.length=0/\x.cells.length=0)
def pL(n i:Nat)(k:Int):Bool:=decide ((i:Int)<k/\k<n)
def mC(m:aj)(n i:Nat)(x:Nd):Bool:=oN m x&&x.kids.all (pL n i)
def iZ(P:List Nd):List Int:=P.flatMap (·.kids)
def j7(n:Nat)(l:List Int):List Int:=(aY n).map λ(j:Nat)=>(l.count (j:Int):Int)
def l9(m:aj)(P:List Nd):Bool :=
 decide (1<=P.length/\P.length<=20000)&&((aY P.length).all λi=>mC m P.length i (P.getD i default))&&!((j7 P.length (iZ P)).drop 1).any (λx=>x != 1)
def H7(n:Nat)(l:List Int):(j7 n l).length=n:=by simp[j7]
def abg{n:Nat}(l:List Int){j:Nat}(h:j<n):(j7 n l).getD j 0=(l.count (j:Int):Int):=by
 unfold j7;rw[az,bY,nN h];rfl
def aka(n:Nat)(l:List Int)(k:Nat)(h:k<n):j7 n (l++[(k:Int)])=(j7 n l).set k ((j7 n l).getD k 0+1):=by
 apply pR;intro j;rw[bU,abg l h];unfold j7;rw[bY,eu,List.length_range];by_cases hj:j<n
 ·rw[nN hj,im,List.count_append];by_cases e:k=j
  ·subst e;rw[if_pos rfl,if_pos h];simp
  ·rw[if_neg e,bY,nN hj,im];have:((k:Int)==(j:Int))=false:=by rw[beq_eq_false_iff_ne];omega
   simp[List.count_cons,this]
 ·rw[fY (by simpa using hj)];split
  ·omega
  ·rw[fY (by simpa using hj)];rfl
def akb(n:Nat):j7 n []=aI n 0:=by
 apply pR;intro j;unfold j7;rw[bY,CU];by_cases hj:j<n
 ·rw[nN hj,if_pos hj];rfl
 ·rw[fY (by simpa using hj),if_neg hj];rfl
def H8{m:aj}{x:Nd}(hm:VM m)(h:oN m x=true):x.kids.length<=24:=by
 unfold oN at h;split at h
 ·rw[decide_eq_true_eq]at h;omega
 ·rw[decide_eq_true_eq]at h;have:=hm.opt _ (aF (l:=m.cls) (i:=x.cls.toNat) (d:=default) CZ);omega
def abh{m:aj}{n:Nat}(hm:VM m):∀ (P:List Nd),(∀ x∈P,oN m x=true)->(iZ P).length<=24*P.length
 |[],_=>by simp[iZ]
 |x::r,h=>by
  have h1:=H8 hm (h x Fl);have h2:=abh (n:=n) hm r λy hy=>h y (by simp[hy]);unfold iZ at h2 ⊢;rw[List.flatMap_cons,bI,List.length_cons];omega
def akc{n:Nat}{l:List Int}{j:Nat}(h:j<n):0<=(j7 n l).getD j 0/\(j7 n l).getD j 0<=l.length:=by
 rw[abg l h];have:=List.count_le_length (a:=(j:Int)) (l:=l);omega
def abi(P:List Nd)(x:Nd):iZ (P++[x])=iZ P++x.kids:=by unfold iZ;rw[List.flatMap_append];simp
def abj{m:aj}{P:List Nd}{i:Nat}(hi:i<P.length)(h:mC m P.length i (P.getD i default)=false):l9 m P=false:=by
 unfold l9;have:((aY P.length).all λi=>mC m P.length i (P.getD i default))=false:=by
  rw[C2];intro h2;rw[e8]at h2;rw[h2 i (mN.2 hi)]at h;cases h
 rw[this,O8,pV]
def abk{m:aj}{P:List Nd}(h:¬(1<=P.length/\P.length<=20000)):l9 m P=false:=by
 unfold l9;rw[decide_eq_false h,pV,pV]
def abl{m:aj}{P:List Nd}(h:1<=P.length/\P.length<=20000)(ha:∀ i,i<P.length->mC m P.length i (P.getD i default)=true):l9 m P = !((j7 P.length (iZ P)).drop 1).any (λx=>x != 1):=by
 unfold l9;have:((aY P.length).all λi=>mC m P.length i (P.getD i default))=true:=by
  rw[e8];intro i hi;exact ha i (mN.1 hi)
 rw[this,decide_eq_true h,iI,iI]
def pK(c o:Int)(y:Int×Int):Bool:=decide (y=(c,o))
def EB(m:aj)(a b:Int×Int):Bool:=decide (a.1=b.1)||HU m a.1 a.2 b.1 b.2
def Aq(m:aj)(g:List Int)(l:List (Int×Int))(i:Nat):Bool:=g.contains (l.getD i default).1&&jy m (l.getD i default).1 (l.getD i default).2&&(l.take i).all (EB m (l.getD i default))
def wc(m:aj)(g:List Int)(l:List (Int×Int)):Bool:=(aY l.length).all (Aq m g l)
def EC(m:aj)(g:List Int):Bool:=(aY g.length).all λi=>decide (0<=g.getD i 0/\g.getD i 0<m.cls.length/\(i=0\/g.getD (i-1) 0<g.getD i 0))
def As(left:List (List Bool))(cells:List (List (Int×Int)))(c:Int):Bool :=
 (aY (left.getD c.toNat default).length).all λo=>!(left.getD c.toNat default).getD o false||cells.any λl=>l.any (pK c o)
def oM(m:aj)(x:Nd)(left:List (List Bool)):Bool :=
 EC m x.bj&&decide (x.cells.length<x.bj.length)&&x.cells.all (wc m x.bj)&&x.bj.all (As left x.cells)
def H6{n:Nat}{f:Nat->Bool}:(aY n).all f=true↔∀ i,i<n->f i=true:=by
 rw[e8];exact⟨λh i hi=>h i (mN.2 hi),λh i hi=>h i (mN.1 hi)⟩
def all_false{α:Type}{l:List α}{f:α->Bool}{x:α}(hx:x∈l)(h:f x=false):l.all f=false:=by
 rw[C2];intro h2;rw[e8]at h2;rw[h2 x hx]at h;cases h
def MW{n:Nat}{f:Nat->Bool}{i:Nat}(hi:i<n)(h:f i=false):(aY n).all f=false:=all_false (mN.2 hi) h
def aj5{m:aj}{g:List Int}(h:EC m g=true):∀ c∈g,0<=c/\c<m.cls.length:=λc hc=>by
 obtain⟨i,hi,rfl⟩:=pW hc;have:=H6.1 h i hi;rw[decide_eq_true_eq,az,bS hi]at this;exact⟨this.1,this.2.1⟩
def abc{α:Type}(f:α->Bool):∀ (l:List α),(l.any λx=>!f x) = !l.all f
 |[]=>rfl
 |x::r=>by rw[List.any_cons,List.all_cons,abc f r,Bool.not_and]
def aj0{m:aj}{x:Nd}{left:List (List Bool)}(h:EC m x.bj=false):oM m x left=false:=by unfold oM;rw[h];rfl
def aj1{m:aj}{x:Nd}{left:List (List Bool)}(h:¬x.cells.length<x.bj.length):oM m x left=false:=by unfold oM;rw[decide_eq_false h];simp
def aj2{m:aj}{x:Nd}{left:List (List Bool)}(h:x.cells.all (wc m x.bj)=false):oM m x left=false:=by unfold oM;rw[h];simp
def aj3{m:aj}{x:Nd}{left:List (List Bool)}(h:x.bj.all (As left x.cells)=false):oM m x left=false:=by unfold oM;rw[h];simp
def aj4{m:aj}{x:Nd}{left:List (List Bool)}(h1:EC m x.bj=true)(h2:x.cells.length<x.bj.length)(h3:x.cells.all (wc m x.bj)=true)(h4:x.bj.all (As left x.cells)=true):oM m x left=true:=by unfold oM;rw[h1,decide_eq_true h2,h3,h4];rfl
def akd(n:Int):Holds Tryz.prog 128 [OJ n] [] (.lit (.bool (n != 1))) []:=by
 refine Holds.aQ 5 0 [.tmp 2] Tryz.func128 ?_;refine Vb X0 ?_;exact aW rfl rfl
def ake(m:aj)(P:List Nd)(hm:VM m)(hP:PB P):Holds Tryz.prog 95 [.agg (ay m),.agg (cB P)] [] (.lit (.bool (l9 m P))) []:=by
 have Af:=hP.MZ;have s8:=hm.cls;generalize au:l9 m P=res;refine Holds.aQ 136 0 [.tmp 4] Tryz.func95 ?_;by_cases aO:1<=P.length/\P.length<=20000;rotate_left
 ·rw[abk aO]at au;subst au;((repeat'(first|refine Vb @cB.eq_1 ?_|(refine V2 @cB.eq_1 ?_ ?_<;>try with_reducible intro hb)|(refine Xi ?_ ?_<;>try intro ht)|exact Xx|fail)))
  all_goals exact aW rfl rfl
 obtain⟨ka,mg⟩:=aO;((repeat'(first|refine Vb @cB.eq_1 ?_|(refine V2 @cB.eq_1 ?_ ?_<;>try with_reducible intro hb)|(refine Xi ?_ ?_<;>try intro ht)|exact Xx|fail)))
 refine bd (λi:Nat=>(⟨ar [(2,.ptr 0 0 0),(3,.ptr 1 0 0),(5,.ref 2 1 0 P.length),(25,.tree 5 (rowsOf bC P)),(26,OJ P.length),(27,OJ i)],[.var (ay m),.var (cB P),.arr 1 (ints (j7 P.length (iZ (P.take i))))]⟩:St))
  (λi=>i<=P.length/\∀ a,a<i->mC m P.length a (P.getD a default)=true) (λi=>P.length-i) 0 ⟨aS _,λa ha=>absurd ha (rW _)⟩ (by rw[mK];show aH _ _ ⟨_,[_,_,.arr 1 (ints (j7 P.length []))]⟩;rw[akb];exact Xv (X2 @cB.eq_1 @JD)) ?_
 rintro i⟨hi,fk⟩Ql ao ax;by_cases aq:i<P.length
 ·have cD:=aF (l:=P) (i:=i) (d:=default) aq;have b1:=hP.kids _ cD;have b2:=hP.dW _ cD;have b3:=hP.bj _ cD;have b4:=hP.cells _ cD;have fP:=eQ aq;have H9:∀ l,iZ (P.take (i+1))=iZ (P.take i)++l↔l=(P.getD i default).kids:=λl=>by rw[fP,abi];exact⟨λh=>(List.append_cancel_left h).symm,λh=>by rw[h]⟩
  have l7:=abj (m:=m) aq;have hlen:=abh (n:=0) hm (P.take i) λy hy=>by
   obtain⟨a,ha,rfl⟩:=pW hy;rw[fZ]at ha;have:=fk a CZ;unfold mC at this;rw[a7,az,bS CZ]at this;simpa using this.1
  rw[fZ]at hlen;generalize cE:P.getD i default=x at *;obtain⟨c,kids,dW,bj,cells⟩:=x;dsimp only at b1 b2 b3 b4 H9;have H9:=(H9 _).2 rfl;have bT:¬(oN m ⟨c,kids,dW,bj,cells⟩=true)->res=false:=λh=>by
   rw[<- au];refine l7 ?_;unfold mC;rw[C2.2 h,pV]
  have hkb:∀ j,j<kids.length->¬(pL P.length i (kids.getD j 0)=true)->res=false:=λj hj h=>by
   rw[<- au];refine l7 ?_;unfold mC;have:kids.all (pL P.length i)=false:=by
    rw[C2];intro h2;rw[e8]at h2;exact h (h2 _ (aF hj))
   dsimp only;rw[this,O8]
  clear l7;generalize wX:m.cls.getD c.toNat default=wl at *;have H':0<=c/\c<m.cls.length->wl.length<=24:=λh=>by rw[<- wX];exact hm.opt _ (aF CZ)
  by_cases kJ:oN m ⟨c,kids,dW,bj,cells⟩=true;rotate_left
  ·have hr:=bT kJ;unfold oN at kJ;dsimp only at kJ;rw[wX]at kJ;by_cases iV:c = -1
   ·rw[if_pos iV,decide_eq_true_eq]at kJ;((repeat'(first|refine Va (X3 @cB.eq_1 @cE @bC.eq_1) ?_|(refine V2 (X3 @cB.eq_1 @cE @bC.eq_1) ?_ ?_<;>try with_reducible intro hb)|(refine Xi ?_ ?_<;>try intro ht)|exact Xx|fail)))
    all_goals
     repeat(refine Xu ?_)
     ((repeat'(first|refine Vb X0 ?_|fail)))
     exact aW rfl (by rw[hr])
   ·rw[if_neg iV,decide_eq_true_eq]at kJ;by_cases aA:0<=c/\c<m.cls.length
    ·have H':=H' aA;((repeat'(first|refine Va (X5 @cB.eq_1 @cE @bC.eq_1 @wX @bm.eq_1) ?_|(refine V2 (X5 @cB.eq_1 @cE @bC.eq_1 @wX @bm.eq_1) ?_ ?_<;>try with_reducible intro hb)|(refine Xi ?_ ?_<;>try intro ht)|exact Xx|fail)))
     all_goals
      repeat(refine Xu ?_)
      ((repeat'(first|refine Vb X0 ?_|fail)))
      exact aW rfl (by rw[hr])
    ·((repeat'(first|refine Va (X3 @cB.eq_1 @cE @bC.eq_1) ?_|(refine V2 (X3 @cB.eq_1 @cE @bC.eq_1) ?_ ?_<;>try with_reducible intro hb)|(refine Xi ?_ ?_<;>try intro ht)|exact Xx|fail)))
     all_goals
      repeat(refine Xu ?_)
      ((repeat'(first|refine Vb X0 ?_|fail)))
      exact aW rfl (by rw[hr])
  have M0:=H8 hm kJ;have Au:(∀ j,j<kids.length->pL P.length i (kids.getD j 0)=true)->mC m P.length i ⟨c,kids,dW,bj,cells⟩=true:=λh=>by
   unfold mC;rw[kJ,iI,e8];intro k hk;obtain⟨j,hj,rfl⟩:=pW hk;have:=h j hj;rwa [az,bS hj]at this
  dsimp only at M0;repeat'(first|((fail_if_success (first|refine eH 7 ?_|refine eI 7 ?_));refine Xr (X3 @cB.eq_1 @cE @bC.eq_1) ?_;intro K hK)|(refine hK _ ?_;clear hK K)|(refine Xi ?_ ?_<;>try intro ht)|refine Xy ?_|refine Xd ?_ ?_|exact Xx|fail)
  (refine ai6 ?_);intro Q0 kx ph
  refine tV ⟨ar [(2,.ptr 0 0 0),(3,.ptr 1 0 0),(5,.ref 2 1 0 P.length),(6,OJ i),(7,.ptr 3 0 0),(25,.tree 5 (rowsOf bC P)),(26,OJ P.length),(27,OJ i)],[.var (ay m),.var (cB P),.arr 1 (ints (j7 P.length (iZ (P.take i)))),.var (bC ⟨c,kids,dW,bj,cells⟩)]⟩ kx ?_ (λkey=>?_);rotate_left
  ·(try clear kx)
   unfold oN at kJ;dsimp only at kJ;rw[wX]at kJ;by_cases iV:c = -1
   ·rw[if_pos iV,decide_eq_true_eq]at kJ;((repeat'(first|refine Va (X3 @cB.eq_1 @cE @bC.eq_1) ?_|(refine V2 (X3 @cB.eq_1 @cE @bC.eq_1) ?_ ?_<;>try with_reducible intro hb)|(refine Xi ?_ ?_<;>try intro ht)|exact Xx|fail)))
    all_goals
     refine key _ ?_;exact Xv (X2 @cB.eq_1 @bC.eq_1)
   ·rw[if_neg iV,decide_eq_true_eq]at kJ;have H':=H' ⟨kJ.1,kJ.2.1⟩;((repeat'(first|refine Va (X5 @cB.eq_1 @cE @bC.eq_1 @wX @bm.eq_1) ?_|(refine V2 (X5 @cB.eq_1 @cE @bC.eq_1 @wX @bm.eq_1) ?_ ?_<;>try with_reducible intro hb)|(refine Xi ?_ ?_<;>try intro ht)|exact Xx|fail)))
    all_goals
     refine key _ ?_;exact Xv (X2 @cB.eq_1 @bC.eq_1)
  (try clear kx;try clear ph)
  refine Va (X2 @cB.eq_1 @bC.eq_1) ?_;refine bd (λj:Nat=>(⟨ar [(2,.ptr 0 0 0),(3,.ptr 1 0 0),(5,.ref 2 1 0 P.length),(6,OJ i),(25,.tree 5 (rowsOf bC P)),(26,OJ P.length),(27,OJ i),(108,.tree 1 (ints kids)),(109,OJ kids.length),(110,OJ j)],[.var (ay m),.var (cB P),.arr 1 (ints (j7 P.length (iZ (P.take i)++kids.take j)))]⟩:St))
   (λj=>j<=kids.length/\∀ a,a<j->pL P.length i (kids.getD a 0)=true) (λj=>kids.length-j) 0 ⟨aS _,λa ha=>absurd ha (rW _)⟩ (by rw[mK,np];exact Xs false [0,1,2] @cB.eq_1) ?_
  rintro j⟨hj,abm⟩du bE bG;by_cases gx:j<kids.length
  ·have hZ:=eQ gx;have hkd:kids.getD j default=kids.getD j 0:=rfl;have akh:=hkb j gx;rw[hkd]at hZ;have lq:(iZ (P.take i)++kids.take j).length<=24*P.length+24:=by rw[bI,fZ];omega
   generalize iN:kids.getD j 0=k at *;by_cases ED:pL P.length i k=true;rotate_left
   ·have hr:=akh ED;unfold pL at ED;rw[decide_eq_true_eq]at ED;((repeat'(first|refine Va (X2 @cB.eq_1 @iN) ?_|(refine V2 (X2 @cB.eq_1 @iN) ?_ ?_<;>try with_reducible intro hb)|(refine Xi ?_ ?_<;>try intro ht)|exact Xx|fail)))
    all_goals
     repeat(refine Xu ?_)
     ((repeat'(first|refine Vb X0 ?_|fail)))
     exact aW rfl (by rw[hr])
   have abn:=ED;unfold pL at abn;rw[decide_eq_true_eq]at abn;have Rt:=akc (n:=P.length) (l:=iZ (P.take i)++kids.take j) (j:=k.toNat) CZ;have cM:=H7 P.length (iZ (P.take i)++kids.take j);have eN:=aka P.length (iZ (P.take i)++kids.take j) k.toNat CZ;rw[u5 CZ,List.append_assoc,<- hZ]at eN;((repeat'(first|refine Va (X3 @cB.eq_1 @iN @cM) ?_|(refine V2 (X3 @cB.eq_1 @iN @cM) ?_ ?_<;>try with_reducible intro hb)|(refine Xi ?_ ?_<;>try intro ht)|exact Xx|fail)))
   refine bE _ (j+1) ⟨CZ,λa ha=>?_⟩ CZ (by rw[eN];exact Xv @cB.eq_1);by_cases e:a=j
   ·subst e;rw[iN];exact ED
   ·exact abm a CZ
  ·obtain rfl:j=kids.length:=CZ;rw[y0,<- H9];((repeat'(first|refine Va X0 ?_|(refine V2 X0 ?_ ?_<;>try with_reducible intro hb)|(refine Xi ?_ ?_<;>try intro ht)|exact Xx|fail)))
   refine bG _ _ rfl ?_;clear bE bG du;repeat(refine Xu ?_)
   refine Va X0 ?_;refine ao _ (i+1) ⟨CZ,λa ha=>?_⟩ CZ (Xv @cB.eq_1);by_cases e:a=i
   ·subst e;rw[cE];exact Au abm
   ·exact fk a CZ
 ·obtain rfl:i=P.length:=CZ;rw[y0];have kD:=abl (m:=m) ⟨ka,mg⟩ fk;rw[au]at kD;have vD:=aar ((j7 P.length (iZ P)).drop 1) 128 [] [] (λx=>x != 1) (by rw[yW,H7];omega) (λx _=>akd x);have cM:=H7 P.length (iZ P);have MC:(ints (j7 P.length (iZ P))).drop 1=ints ((j7 P.length (iZ P)).drop 1):=by unfold ints;rw[List.map_drop]
  have vF:((j7 P.length (iZ P)).drop 1).length=P.length-1:=by rw[yW,H7]
  ((repeat'(first|refine Va X0 ?_|(refine Xi ?_ ?_<;>try intro ht)|exact Xx|fail)))
  refine ax _ _ rfl ?_;clear ao ax Ql;repeat(refine Xu ?_)
  generalize j7 P.length (iZ P)=pc at *;refine df (σ':=⟨ar [(5,.tree 1 (ints pc))],[]⟩) (by rw[<- cM];exact Xs true [] X0) ?_;((repeat'(first|refine Vd (X4 @cM @MC @vF @Option.map_none.{0,0}) vD ?_|refine VD ?_ ?_|fail)))
  ·intro _;trivial
  exact aW rfl (by rw[kD])
def aki(l:List (List (Int×Int)))(g:FuncId)(bn:List AV)(aa:List Ob)(p:(List (Int×Int))->Bool)(hl:l.length<9223372036854775808)(hg:∀ x∈l,Holds Tryz.prog g ([.tree 2 (rowsOf dt x)]++bn) aa (.lit (.bool (p x))) aa):
  Holds Tryz.prog 131 [.tree 1 (rowsOf rI l),.fn g bn] aa (OJ (fD p 0 l)) aa:=by
 generalize au:fD p 0 l=res;refine Holds.aQ 19 aa.length [.tmp 4] Tryz.func131 ?_;refine Vb (X3 @cU @fU @rI.eq_1) ?_;refine bd (λk:Nat=>(⟨ar [(0,.tree 1 (rowsOf rI l)),(1,.fn g bn),(7,OJ l.length),(8,OJ k)],aa⟩:St)) (λk=>k<=l.length/\fD p k (l.drop k)=res) (λk=>l.length-k) 0 ⟨aS _,au⟩ (Xv X0) ?_;rintro k⟨hk,hr⟩Ql ao ax;by_cases bc:k<l.length
 ·have hx:=hg _ (aF (d:=default) bc);have hd:=lk l k default bc;generalize cE:l.getD k default=x at *;rw[hd,fD]at hr;simp only[e9,iH,rI]at hx;((repeat'(first|refine Vb (X4 @cU @fU @rI.eq_1 @cE) ?_|(refine Xi ?_ ?_<;>try intro ht)|exact Xx|fail))<;>try with_reducible intro K hK)
  refine gj hx (aU _) ?_;((try revert hK K);(repeat'(first|refine Vb (X3 @cU @fU @rI.eq_1) ?_|(refine Xi ?_ ?_<;>try intro ht)|fail)))
  ·rw[if_pos (by assumption)]at hr;rw[<- hr];exact dX rfl (aU _) rfl
  ·rw[if_neg (by simp_all)]at hr;exact ao _ (k+1) ⟨CZ,hr⟩ CZ (Xv X0)
 ·((repeat'(first|refine Vb (X3 @cU @fU @rI.eq_1) ?_|(refine Xi ?_ ?_<;>try intro ht)|exact Xx|fail)))
  rw[j9 CZ,fD]at hr;rw[<- hr];exact dX rfl (aU _) rfl
def abb(l:List (List (Int×Int)))(g:FuncId)(bn:List AV)(aa:List Ob)(p:(List (Int×Int))->Bool)(hl:l.length<9223372036854775808)(hg:∀ x∈l,Holds Tryz.prog g ([.tree 2 (rowsOf dt x)]++bn) aa (.lit (.bool (p x))) aa):
  Holds Tryz.prog 98 [.tree 1 (rowsOf rI l),.fn g bn] aa (.lit (.bool (l.any p))) aa:=by
 rw[<- yN p l 0];refine Holds.aQ 9 aa.length [.tmp 4] Tryz.func98 ?_;((refine Vb (X3 @cU @fU @rI.eq_1) ?_)<;>try with_reducible intro K hK)
 refine gj (aki l g bn aa p hl hg) (aU _) ?_;((try revert hK K);(refine Vb (X3 @cU @fU @rI.eq_1) ?_))
 exact dX rfl (aU _) rfl
def akj(l:List Pr)(g:FuncId)(bn:List AV)(aa:List Ob)(p:Pr->Bool)(hl:l.length<9223372036854775808)(hg:∀ x∈l,Holds Tryz.prog g ([.agg (aL x)]++bn) aa (.lit (.bool (p x))) aa):
  Holds Tryz.prog 156 [.tree 4 (rowsOf aL l),.fn g bn] aa (OJ (fD p 0 l)) aa:=by
 generalize au:fD p 0 l=res;refine Holds.aQ 19 aa.length [.tmp 4] Tryz.func156 ?_;refine Vb (X3 @cU @fU @aL.eq_1) ?_;refine bd (λk:Nat=>(⟨ar [(0,.tree 4 (rowsOf aL l)),(1,.fn g bn),(7,OJ l.length),(8,OJ k)],aa⟩:St)) (λk=>k<=l.length/\fD p k (l.drop k)=res) (λk=>l.length-k) 0 ⟨aS _,au⟩ (Xv X0) ?_;rintro k⟨hk,hr⟩Ql ao ax;by_cases bc:k<l.length
 ·have hx:=hg _ (aF (d:=default) bc);have hd:=lk l k default bc;generalize cE:l.getD k default=x at *;rw[hd,fD]at hr;simp only[e9,iH,aL]at hx;((repeat'(first|refine Vb (X4 @cU @fU @aL.eq_1 @cE) ?_|(refine Xi ?_ ?_<;>try intro ht)|exact Xx|fail))<;>try with_reducible intro K hK)
  refine gj hx (aU _) ?_;((try revert hK K);(repeat'(first|refine Vb (X3 @cU @fU @aL.eq_1) ?_|(refine Xi ?_ ?_<;>try intro ht)|fail)))
  ·rw[if_pos (by assumption)]at hr;rw[<- hr];exact dX rfl (aU _) rfl
  ·rw[if_neg (by simp_all)]at hr;exact ao _ (k+1) ⟨CZ,hr⟩ CZ (Xv X0)
 ·((repeat'(first|refine Vb (X3 @cU @fU @aL.eq_1) ?_|(refine Xi ?_ ?_<;>try intro ht)|exact Xx|fail)))
  rw[j9 CZ,fD]at hr;rw[<- hr];exact dX rfl (aU _) rfl
def aa9(l:List Pr)(g:FuncId)(bn:List AV)(aa:List Ob)(p:Pr->Bool)(hl:l.length<9223372036854775808)(hg:∀ x∈l,Holds Tryz.prog g ([.agg (aL x)]++bn) aa (.lit (.bool (p x))) aa):
  Holds Tryz.prog 149 [.tree 4 (rowsOf aL l),.fn g bn] aa (.lit (.bool (l.any p))) aa:=by
 rw[<- yN p l 0];refine Holds.aQ 9 aa.length [.tmp 4] Tryz.func149 ?_;((refine Vb (X3 @cU @fU @aL.eq_1) ?_)<;>try with_reducible intro K hK)
 refine gj (akj l g bn aa p hl hg) (aU _) ?_;((try revert hK K);(refine Vb (X3 @cU @fU @aL.eq_1) ?_))
 exact dX rfl (aU _) rfl
def EE{α:Type}(l:List α)(i j:Nat)(v d:α)(h:i<l.length):(l.set i v).getD j d=if j=i then v else l.getD j d:=by
 simp only[az,bU];by_cases zS:j=i
 ·subst zS;simp[h]
 ·simp[zS,Ne.symm zS]
def mD{α:Type}(l:List α)(i j:Nat)(v d:α)(h:j≠i):(l.set i v).getD j d=l.getD j d:=by
 simp only[az,bU];simp[Ne.symm h]
def wg{α:Type}(l:List α)(i:Nat)(v d:α)(h:i<l.length):(l.set i v).getD i d=v:=by
 rw[EE _ _ _ _ _ h];simp
def abo{α:Type}(n j:Nat)(v:α):(aI n v).getD j v=v:=by
 simp only[az,CU];split<;>rfl
structure Av(left:List (List Int))(R:Nat)(owner number:List Int):Prop where
 hO:xp left.length R owner
 hN:number.length=left.length
 qL:∀ j,j<left.length->-1<=number.getD j 0
 fwd:∀ j,j<left.length->0<=number.getD j 0->number.getD j 0<R/\owner.getD (number.getD j 0).toNat 0=j/\number.getD j 0∈left.getD j []
 bwd:∀ x,x<R->0<=owner.getD x 0->number.getD (owner.getD x 0).toNat 0=x
structure MEx(left:List (List Int))(R:Nat)(xs:List Int)(i:Nat)(seen:List Bool)(owner number wj tv:List Int):Prop where
 hO:xp left.length R wj
 hN:tv.length=left.length
 qL:∀ j,j<left.length->-1<=tv.getD j 0
 fwd:∀ j,j<left.length->j≠i->0<=tv.getD j 0->tv.getD j 0<R/\wj.getD (tv.getD j 0).toNat 0=j/\tv.getD j 0∈left.getD j []
 bwd:∀ x,x<R->0<=wj.getD x 0->wj.getD x 0≠i->tv.getD (wj.getD x 0).toNat 0=x
 me :∃y,y<R/\tv.getD i 0=(y:Nat)/\wj.getD y 0=i/\(y:Int)∈xs/\seen.getD y false=false/\∀ x,x<R->wj.getD x 0=i->x=y\/seen.getD x false=true
 dS:∀ x,x<R->seen.getD x false=true->wj.getD x 0=owner.getD x 0
 same:∀ j,j<left.length->j≠i->(number.getD j 0<0\/∃ x,x<R/\number.getD j 0=(x:Nat)/\seen.getD x false=true)->tv.getD j 0=number.getD j 0
 pos:∀ j,j<left.length->j≠i->(0<=tv.getD j 0↔0<=number.getD j 0)
structure akl(left:List (List Int))(R:Nat)(xs:List Int)(seen:List Bool)(owner number:List Int)(M1:List Bool)(wj tv:List Int):Prop where
 eo:wj=owner
 en:tv=number
 all:∀ x∈xs,M1.getD x.toNat false=true
 cl:∀ x,x<R->M1.getD x false=true->seen.getD x false=true\/(0<=owner.getD x 0/\∀ y∈left.getD (owner.getD x 0).toNat [],M1.getD y.toNat false=true)
def akm{left:List (List Int)}{R:Nat}(hL:Ak R left):∀ (f:Nat) (xs:List Int) (i:Nat) (seen:List Bool) (owner number:List Int),qP seen<=f->seen.length=R->(∀ x∈xs,0<=x/\x<R)->i<left.length->Av left R owner number ->
  (∀ x,x<R->owner.getD x 0=i->seen.getD x false=true)->∀ q,rF left f xs i seen owner number=q ->
   (q.1=true->MEx left R xs i seen owner number q.2.2.1 q.2.2.2)/\(q.1=false->akl left R xs seen owner number q.2.1 q.2.2.1 q.2.2.2)/\(∀ x,seen.getD x false=true->q.2.1.getD x false=true)/\q.2.1.length=R/\qP q.2.1<=qP seen:=by
 intro f
 induction f using Je with
 |_ f M3 =>
  intro xs
  induction xs with
  |nil =>
   intro i seen owner number hc hs hx hi hM h3 q hq;rw[rF.eq_def]at hq;subst hq;exact⟨Fl,λ_=>⟨rfl,rfl,Fl,λx _ h=>.inl h⟩,λ_ h=>h,hs,aU _⟩
  |cons x r ih =>
   intro i seen owner number hc hs hx hi hM h3 q hq;obtain⟨hx0,hxR⟩:=hx x Fl;have hr:∀ x∈r,0<=x/\x<R:=λy hy=>hx y (by simp[hy]);obtain⟨n,rfl⟩:∃n:Nat,x=n:=⟨x.toNat,CZ⟩;rw[rF.eq_def]at hq;simp only[cF]at hq;have yQ:n<R:=CZ;have qg:n<owner.length:=by rw[hM.hO.1];exact yQ
   have dP:i<number.length:=by rw[hM.hN];exact hi
   by_cases eN:seen.getD n false=true
   ·rw[if_pos eN]at hq;obtain⟨a,b,c,d,e⟩:=ih i seen owner number hc hs hr hi hM h3 q hq;refine⟨λh=>?_,λh=>?_,c,d,e⟩
    ·obtain⟨y,y1,y2,y3,y4,y5,y6⟩:=(a h).me;exact { a h with me:=⟨y,y1,y2,y3,by simp[y4],y5,y6⟩ }
    ·refine { b h with all:=λy hy=>?_ };rcases a8.1 hy with rfl|hy
     ·simpa using c n eN
     ·exact(b h).all y hy
   ·have M4:seen.getD n false=false:=by simpa using eN
    rw[if_neg eN]at hq;have jD:=aiA seen n CZ M4;have hog:=hM.hO.get yQ;have wm:∀ x,seen.getD x false=true->(seen.set n true).getD x false=true:=λx hx=>by
     rw[EE _ _ _ _ _ CZ];split<;>simp_all
    by_cases nX:owner.getD n 0<0
    ·rw[if_pos nX]at hq;subst hq;refine⟨λ_=>?_,Fl,wm,by simpa using hs,Ji⟩;dsimp only;refine⟨hM.hO.set hi,by simpa using hM.hN,?_,?_,?_,⟨n,yQ,wg _ _ _ _ dP,wg _ _ _ _ qg,Fl,M4,?_⟩,?_,?_,?_⟩
     ·intro j hj;rw[EE _ _ _ _ _ dP];split
      ·omega
      ·exact hM.qL j hj
     ·intro j hj iw h0;rw[mD _ _ _ _ _ iw]at h0 ⊢;obtain⟨a,b,c⟩:=hM.fwd j hj h0;refine⟨a,?_,c⟩;rw[mD]
      ·exact b
      ·intro e;rw[e]at b;omega
     ·intro y hy h0 bX;by_cases xB:y=n
      ·subst xB;rw[wg _ _ _ _ qg]at bX;exact absurd rfl bX
      ·rw[mD _ _ _ _ _ xB]at h0 bX ⊢;rw[mD]
       ·exact hM.bwd y hy h0
       ·omega
     ·intro y hy he;by_cases xB:y=n
      ·exact .inl xB
      ·rw[mD _ _ _ _ _ xB]at he;exact .inr (h3 y hy he)
     ·intro y hy Ia;rw[mD];intro e;subst e;simp_all
     ·intro j hj iw _;exact mD _ _ _ _ _ iw
     ·intro j hj iw;rw[mD _ _ _ _ _ iw]
    ·rw[if_neg nX]at hq;obtain⟨f',rfl⟩:∃f',f=f'+1:=⟨f-1,CZ⟩;simp only at hq;obtain⟨o,ho⟩:∃o:Nat,owner.getD n 0=o:=⟨(owner.getD n 0).toNat,CZ⟩;rw[ho]at hq;simp only[cF]at hq;have nE:o<left.length:=CZ;have M5:number.getD o 0=n:=by
      have:=hM.bwd n yQ CZ;rwa [ho,cF]at this
     have oF:o≠i:=by
      intro e;subst e;have:=h3 n yQ ho;simp_all
     have M6:∀ x,x<R->owner.getD x 0=o->(seen.set n true).getD x false=true:=by
      intro y hy he;have:=hM.bwd y hy CZ;rw[he,cF,M5]at this;have:y=n:=CZ;subst this;exact wg _ _ _ _ CZ
     have hp:=M3 f' CZ (left.getD o []) o (seen.set n true) owner number CZ (by simpa using hs) (hL.get _).2 nE hM M6 _ rfl;generalize rF left f' (left.getD o []) o (seen.set n true) owner number=p at hp hq;obtain⟨p1,p2,p3,p4,p5⟩:=hp;by_cases lX:p.1=true
     ·rw[if_pos lX]at hq;subst hq;have hE:=p1 lX;obtain⟨pb,ps,po,pn⟩:=p;dsimp only at hE p3 p4 p5 ⊢;obtain⟨y,y1,y2,y3,y4,y5,y6⟩:=hE.me;have hpo:n<po.length:=by rw[hE.hO.1];exact yQ
      have EF:i<pn.length:=by rw[hE.hN];exact hi
      have Ci:po.getD n 0=o:=by rw[hE.dS n yQ (wg _ _ _ _ CZ),ho]
      have xB:y≠n:=by
       intro e;subst e;rw[wg _ _ _ _ CZ]at y5;simp at y5
      have akn:pn.getD i 0=number.getD i 0:=by
       refine hE.same i hi (Ne.symm oF) ?_;by_cases h0:number.getD i 0<0
       ·exact .inl h0
       ·right;obtain⟨a,b,c⟩:=hM.fwd i hi CZ;exact⟨(number.getD i 0).toNat,CZ,CZ,wm _ (h3 _ CZ b)⟩
      refine⟨λ_=>⟨hE.hO.set hi,by simpa using hE.hN,?_,?_,?_,⟨n,yQ,wg _ _ _ _ EF,wg _ _ _ _ hpo,Fl,M4,?_⟩,?_,?_,?_⟩,Fl,λx h=>p3 x (wm x h),p4,CZ⟩
      ·intro j hj;rw[EE _ _ _ _ _ EF];split
       ·omega
       ·exact hE.qL j hj
      ·intro j hj iw h0;rw[mD _ _ _ _ _ iw]at h0 ⊢;by_cases Aw:j=o
       ·subst Aw;rw[y2];refine⟨CZ,?_,y4⟩;rw[cF,mD _ _ _ _ _ xB];exact y3
       ·obtain⟨a,b,c⟩:=hE.fwd j hj Aw h0;refine⟨a,?_,c⟩;rw[mD]
        ·exact b
        ·intro e;rw[e,Ci]at b;omega
      ·intro z hz h0 bX;by_cases Ax:z=n
       ·subst Ax;rw[wg _ _ _ _ hpo]at bX;exact absurd rfl bX
       ·rw[mD _ _ _ _ _ Ax]at h0 bX ⊢;rw[mD _ _ _ _ _ CZ];by_cases Ib:po.getD z 0=o
        ·rcases y6 z hz Ib with rfl|aO
         ·rw[Ib,cF,y2]
         ·have:=hE.dS z hz aO;rw[Ib]at this;have hb:=hM.bwd z hz CZ;rw[<- this,cF,M5]at hb;omega
        ·exact hE.bwd z hz h0 Ib
      ·intro z hz he;by_cases Ax:z=n
       ·exact .inl Ax
       ·right;rw[mD _ _ _ _ _ Ax]at he;have hb:=hE.bwd z hz CZ CZ;rw[he,cF,akn]at hb;obtain⟨a,b,c⟩:=hM.fwd i hi CZ;rw[hb,cF]at b;exact h3 z hz b
      ·intro z hz aO;have Ax:z≠n:=by intro e;subst e;simp_all
       rw[mD _ _ _ _ _ Ax];exact hE.dS z hz (wm z aO)
      ·intro j hj iw xC;rw[mD _ _ _ _ _ iw];have Aw:j≠o:=by
        intro e;subst e;rcases xC with h|⟨z,hz,wS,Ic⟩
        ·omega
        ·have:z=n:=CZ;subst this;simp_all
       refine hE.same j hj Aw ?_;rcases xC with h|⟨z,hz,wS,Ic⟩
       ·exact .inl h
       ·exact .inr ⟨z,hz,wS,wm z Ic⟩
      ·intro j hj iw;rw[mD _ _ _ _ _ iw];by_cases Aw:j=o
       ·subst Aw;rw[y2,M5];omega
       ·exact hE.pos j hj Aw
     ·rw[if_neg lX]at hq;have hF:=p2 (by simpa using lX);obtain⟨pb,ps,po,pn⟩:=p;dsimp only at hF p3 p4 p5 hq;obtain⟨rfl,rfl,BL,D4⟩:=hF;obtain⟨a,b,c,d,e⟩:=ih i ps po pn CZ p4 hr hi hM (λx hx h=>p3 x (wm x (h3 x hx h))) q hq;refine⟨λh=>?_,λh=>?_,λx h=>c x (p3 x (wm x h)),d,CZ⟩
      ·have hE:=a h;obtain⟨y,y1,y2,y3,y4,y5,y6⟩:=hE.me;refine⟨hE.hO,hE.hN,hE.qL,hE.fwd,hE.bwd,⟨y,y1,y2,y3,by simp[y4],?_,?_⟩,λz hz h=>hE.dS z hz (p3 z (wm z h)),?_,hE.pos⟩
       ·cases Ia:seen.getD y false with
        |false=>rfl
        |true=>rw[p3 y (wm y Ia)]at y5;simp at y5
       ·intro z hz he;rcases y6 z hz he with h|h
        ·exact .inl h
        ·right;have hk:=hE.dS z hz h;rw[he]at hk;exact h3 z hz hk.symm
       ·intro j hj iw xC;refine hE.same j hj iw ?_;rcases xC with h|⟨z,hz,wS,Ic⟩
        ·exact .inl h
        ·exact .inr ⟨z,hz,wS,p3 z (wm z Ic)⟩
      ·have hG:=b h;refine⟨hG.eo,hG.en,λy hy=>?_,λy hy Ia=>?_⟩
       ·rcases a8.1 hy with rfl|hy
        ·rw[cF];exact c n (p3 n (wg _ _ _ _ CZ))
        ·exact hG.all y hy
       ·rcases hG.cl y hy Ia with h'|h'
        ·rcases D4 y hy h' with uH|uH
         ·rw[EE _ _ _ _ _ CZ]at uH;split at uH
          ·rename_i xB;subst xB;right;refine⟨CZ,?_⟩;rw[ho,cF];intro z hz;exact c _ (BL z hz)
          ·exact .inl uH
         ·exact .inr ⟨uH.1,λz hz=>c _ (uH.2 z hz)⟩
        ·exact .inr h'
def Ie(left:List (List Int))(R:Nat)(D:Nat->Prop)(owner:List Int):Prop:=∀ x,x<R->D x->0<=owner.getD x 0/\∀ y∈left.getD (owner.getD x 0).toNat [],D y.toNat
def ako{left:List (List Int)}{R:Nat}(hL:Ak R left){D:Nat->Prop}:∀ (f:Nat) (xs:List Int) (i:Nat) (seen:List Bool) (owner number:List Int),(∀ x∈xs,0<=x/\x<R)->Ie left R D owner ->
  ((∀ x∈xs,D x.toNat)->(rF left f xs i seen owner number).1=false)/\∀ x,x<R->D x->(rF left f xs i seen owner number).2.2.1.getD x 0=owner.getD x 0:=by
 intro f
 induction f using Je with
 |_ f M3 =>
  intro xs
  induction xs with
  |nil=>intro i seen owner number _ hC;rw[rF.eq_def];exact⟨λ_=>rfl,λ_ _ _=>rfl⟩
  |cons x r ih =>
   intro i seen owner number hx hC;have hr:∀ x∈r,0<=x/\x<R:=λy hy=>hx y (by simp[hy]);have BV:=hx x Fl;rw[rF.eq_def];simp only;split
   ·obtain⟨a,b⟩:=ih i seen owner number hr hC;exact⟨λh=>a λy hy=>h y (by simp[hy]),b⟩
   ·split
    ·rename_i h1 h2;refine⟨λh=>?_,λy hy hD=>?_⟩
     ·have:=(hC x.toNat CZ (h x Fl)).1;omega
     ·rw[mD];intro e;subst e;have:=(hC _ hy hD).1;omega
    ·cases f with
     |zero=>exact⟨λ_=>rfl,λ_ _ _=>rfl⟩
     |succ f' =>
      obtain⟨a,b⟩:=M3 f' CZ (left.getD (owner.getD x.toNat 0).toNat []) (owner.getD x.toNat 0).toNat (seen.set x.toNat true) owner number (hL.get _).2 hC;simp only;generalize rF left f' (left.getD (owner.getD x.toNat 0).toNat []) (owner.getD x.toNat 0).toNat (seen.set x.toNat true) owner number=p at a b ⊢;have hC':Ie left R D p.2.2.1:=by
       intro y hy hD;rw[b y hy hD];exact hC y hy hD
      split
      ·rename_i hp;refine⟨λh=>?_,λy hy hD=>?_⟩
       ·have:=a (hC x.toNat CZ (h x Fl)).2;simp_all
       ·dsimp only;rw[mD]
        ·exact b y hy hD
        ·intro e;subst e;have:=a (hC _ hy hD).2;simp_all
      ·obtain⟨c,d⟩:=ih i p.2.1 p.2.2.1 p.2.2.2 hr hC';exact⟨λh=>c λy hy=>h y (by simp[hy]),λy hy hD=>(d y hy hD).trans (b y hy hD)⟩
def cn(n:Nat)(p:Nat->Bool):Nat:=(aY n).countP p
def akq(p:Nat->Bool):cn 0 p=0:=rfl
def wo(n:Nat)(p:Nat->Bool):cn (n+1) p=cn n p+(if p n=true then 1 else 0):=by
 simp only[cn,List.range_succ,List.countP_append,List.countP_cons,List.countP_nil,Nat.zero_add]
def abq{n:Nat}{p q:Nat->Bool}(h:∀ i,i<n->p i=q i):cn n p=cn n q:=by
 induction n with
 |zero=>rfl
 |succ n ih=>rw[wo,wo,ih λi hi=>h i CZ,h n CZ]
def akr{n:Nat}{p q:Nat->Bool}(h:∀ i,i<n->p i=true->q i=true):cn n p<=cn n q:=by
 induction n with
 |zero=>exact aU _
 |succ n ih =>
  rw[wo,wo];have:=ih λi hi=>h i CZ;have:=h n CZ;split<;>split<;>simp_all<;>omega
def aks(n:Nat)(p q:Nat->Bool):cn n p=cn n (λi=>p i&&q i)+cn n (λi=>p i&&!q i):=by
 induction n with
 |zero=>rfl
 |succ n ih =>
  rw[wo,wo,wo,ih];cases p n<;>cases q n<;>simp<;>omega
def abr{n:Nat}{p q:Nat->Bool}(k:Nat)(hk:k<n)(h:∀ i,i<n->i≠k->p i=q i)(hp:p k=true)(hq:q k=false):cn n p=cn n q+1:=by
 induction n with
 |zero=>omega
 |succ n ih =>
  rw[wo,wo];by_cases zQ:k=n
  ·subst zQ;rw[abq (p:=p) (q:=q) λi hi=>h i CZ CZ,hp,hq];rfl
  ·rw[ih CZ λi hi=>h i CZ,h n CZ (Ne.symm zQ)];omega
def abt{n m:Nat}{p q:Nat->Bool}(f:Nat->Nat)(h1:∀ i,i<n->p i=true->f i<m/\q (f i)=true)(h2:∀ i j,i<n->j<n->p i=true->p j=true->f i=f j->i=j):cn n p<=cn m q:=by
 induction n generalizing q with
 |zero=>simp[akq]
 |succ n ih =>
  rw[wo];split
  ·rename_i hp;obtain⟨a,b⟩:=h1 n CZ hp;have e:=abr (n:=m) (p:=q) (q:=λx=>q x&&!decide (x=f n)) (f n) a (λi _ hi=>by simp[hi]) b Fl;have:=ih (q:=λx=>q x&&!decide (x=f n)) (λi hi EF=>by
    obtain⟨c,d⟩:=h1 i CZ EF;refine⟨c,?_⟩;have:f i≠f n:=λe=>by have:=h2 i n CZ CZ EF hp e;omega
    simp[d,this]) (λi j hi hj=>h2 i j CZ CZ)
   omega
  ·exact ih (λi hi=>h1 i CZ) (λi j hi hj=>h2 i j CZ CZ)
def on(number:List Int)(i:Nat):Bool:=decide (0<=number.getD i 0)
structure Inv(left:List (List Int))(R:Nat)(w:Int)(i:Nat)(owner number:List Int)(D:Nat->Prop):Prop where
 ok:Av left R owner number
 rest:∀ j,j<left.length->(i<=j\/(j:Int)=w)->number.getD j 0 = -1
 cl:Ie left R D owner
 dead:∀ j,j<i->j<left.length->(j:Int)≠w->number.getD j 0<0->∀ y∈left.getD j [],D y.toNat
def Inv.step{left:List (List Int)}{R:Nat}(hL:Ak R left){w:Int}{i:Nat}{owner number:List Int}{D:Nat->Prop}(h:Inv left R w i owner number D)(hi:i<left.length)(hw:(i:Int)≠w):
  ∀ q,rF left R (left.getD i []) i (aI R false) owner number=q->(∃ D',Inv left R w (i+1) q.2.2.1 q.2.2.2 D')/\cn left.length (on q.2.2.2)=cn left.length (on number)+(if q.1=true then 1 else 0):=by
 intro q hq;have vo:=h.rest i hi (.inl (aU _));have h3:∀ x,x<R->owner.getD x 0=i->(aI R false).getD x false=true:=by
  intro x hx he;have:=h.ok.bwd x hx CZ;rw[he,cF,vo]at this;omega
 obtain⟨a,b,c,d,e⟩:=akm hL R (left.getD i []) i (aI R false) owner number (by rw[aiB];exact aU _) Fl (hL.get _).2 hi h.ok h3 q hq;obtain⟨_,g⟩:=ako hL (D:=D) R (left.getD i []) i (aI R false) owner number (hL.get _).2 h.cl;rw[hq]at g;have bz:Ie left R D q.2.2.1:=by
  intro y hy hD;rw[g y hy hD];exact h.cl y hy hD
 cases hb:q.1 with
 |true =>
  have hE:=a hb;obtain⟨y,y1,y2,y3,y4,y5,y6⟩:=hE.me;refine⟨⟨D,⟨hE.hO,hE.hN,hE.qL,?_,?_⟩,?_,bz,?_⟩,?_⟩
  ·intro j hj h0;by_cases iw:j=i
   ·subst iw;rw[y2,cF];exact⟨CZ,y3,y4⟩
   ·exact hE.fwd j hj iw h0
  ·intro x hx h0;by_cases Cj:q.2.2.1.getD x 0=i
   ·rcases y6 x hx Cj with rfl|h'
    ·rw[Cj,cF,y2]
    ·rw[abo]at h';simp at h'
   ·exact hE.bwd x hx h0 Cj
  ·intro j hj xC;have iw:j≠i:=by rcases xC with h|h<;>omega
   have hr:=h.rest j hj (by rcases xC with h|h<;>omega);have:=hE.pos j hj iw;have:=hE.qL j hj;omega
  ·intro j hj gF M7 h0 z hz;have iw:j≠i:=by intro e;subst e;omega
   have:=hE.pos j gF iw;exact h.dead j CZ gF M7 CZ z hz
  ·rw[if_pos rfl];refine abr i hi (λj hj iw=>?_) ?_ ?_
   ·have:=hE.pos j hj iw;simp only[on,this]
   ·rw[on,y2];exact decide_eq_true CZ
   ·simp only[on,vo];rfl
 |false =>
  have hF:=b hb;rw[hF.eo,hF.en];refine⟨⟨λx=>D x\/q.2.1.getD x false=true,h.ok,λj hj xC=>h.rest j hj (by rcases xC with h|h<;>omega),?_,?_⟩,Fl⟩
  ·intro x hx hD;rcases hD with hD|hD
   ·obtain⟨k,l⟩:=h.cl x hx hD;exact⟨k,λy hy=>.inl (l y hy)⟩
   ·rcases hF.cl x hx hD with h'|⟨k,l⟩
    ·rw[abo]at h';simp at h'
    ·exact⟨k,λy hy=>.inr (l y hy)⟩
  ·intro j hj gF M7 h0 z hz;by_cases iw:j=i
   ·subst iw;exact .inr (hF.all z hz)
   ·exact .inl (h.dead j CZ gF M7 h0 z hz)
def akt{left:List (List Int)}{R:Nat}{owner number:List Int}(h:Av left R owner number){T D:Nat->Bool}(hT:∀ i,i<left.length->T i=true->∀ y∈left.getD i [],D y.toNat=true):
  cn left.length (λi=>T i&&on number i)<=cn R (λx=>D x&&decide (0<=owner.getD x 0)&&T (owner.getD x 0).toNat):=by
 refine abt (λi=>(number.getD i 0).toNat) (λi hi hp=>?_) (λi j hi hj hp hq he=>?_)
 ·simp only[a7,on,decide_eq_true_eq]at hp;obtain⟨a,b,c⟩:=h.fwd i hi hp.2;refine⟨CZ,?_⟩;simp only[b,cF,hp.1,hT i hi hp.1 _ c,iI,Bool.and_true,decide_eq_true_eq];omega
 ·simp only[a7,on,decide_eq_true_eq]at hp hq;obtain⟨a,b,c⟩:=h.fwd i hi hp.2;obtain⟨a',b',c'⟩:=h.fwd j hj hq.2;try dsimp only at he
  rw[he]at b;omega
def aku{left:List (List Int)}{R:Nat}{owner number:List Int}(h:Av left R owner number){T D:Nat->Bool}(hD:∀ x,x<R->D x=true->0<=owner.getD x 0/\T (owner.getD x 0).toNat=true):
  cn R D<=cn left.length (λi=>T i&&on number i):=by
 refine abt (λx=>(owner.getD x 0).toNat) (λx hx hp=>?_) (λx y hx hy hp hq he=>?_)
 ·obtain⟨a,b⟩:=hD x hx hp;have hg:=h.hO.get hx;refine⟨CZ,?_⟩;simp only[b,iI,on,decide_eq_true_eq];rw[h.bwd x hx a];omega
 ·obtain⟨a,b⟩:=hD x hx hp;obtain⟨a',b'⟩:=hD y hy hq;have e1:=h.bwd x hx a;have e2:=h.bwd y hy a';try dsimp only at he
  rw[he]at e1;omega
structure Reach(left:List (List Int))(R:Nat)(owner number:List Int)(used oO:List Bool):Prop where
 lu:used.length=R
 li:oO.length=left.length
 g1:∀ i,i<left.length->on number i=false->oO.getD i false=true
 g2:∀ i,i<left.length->oO.getD i false=true->∀ x∈left.getD i [],used.getD x.toNat false=true
 g3:∀ x,used.getD x false=true->0<=owner.getD x 0->oO.getD (owner.getD x 0).toNat false=true
 g4:∀ (T E:Nat->Prop),(∀ x,E x->0<=owner.getD x 0->T (owner.getD x 0).toNat)->(∀ i,T i->∀ x∈left.getD i [],E x.toNat)->(∀ i,i<left.length->on number i=false->T i)->(∀ i,oO.getD i false=true->T i)/\∀ x,used.getD x false=true->E x
noncomputable def pb(D:Nat->Prop)(x:Nat):Bool:=@decide (D x) (Classical.propDecidable _)
section
variable {left:List (List Int)} {R:Nat} {owner number:List Int} {used oO:List Bool} {D:Nat->Prop}
def Reach.akv(hL:Ak R left)(h:Inv left R (-1) left.length owner number D)(hr:Reach left R owner number used oO):∀ x,used.getD x false=true->x<R/\0<=owner.getD x 0:=by
 intro x hx;obtain⟨_,b⟩:=hr.g4 (λi=>∀ y∈left.getD i [],D y.toNat) (λx=>x<R/\D x) (λx hx h0=>(h.cl x hx.1 hx.2).2) (λi hi y hy=>⟨by have:=(hL.get i).2 y hy;omega,hi y hy⟩) (λi hi h0=>h.dead i hi hi CZ (by simpa [on] using h0));obtain⟨c,d⟩:=b x hx;exact⟨c,(h.cl x c d).1⟩
def Reach.count(hL:Ak R left)(h:Inv left R (-1) left.length owner number D)(hr:Reach left R owner number used oO):
  cn left.length (λi=>oO.getD i false)=cn left.length (λi=>!on number i)+cn R (λx=>used.getD x false):=by
 rw[aks _ _ (on number)];have e1:cn left.length (λi=>oO.getD i false&&!on number i)=cn left.length (λi=>!on number i):=abq λi hi=>by
  cases ho:on number i with
  |true=>simp
  |false=>rw[hr.g1 i hi ho];rfl
 have h1:=akt h.ok (T:=λi=>oO.getD i false) (D:=λx=>used.getD x false) (λi hi hT=>hr.g2 i hi hT);have h2:cn R (λx=>used.getD x false&&decide (0<=owner.getD x 0)&&oO.getD (owner.getD x 0).toNat false)<=cn R (λx=>used.getD x false):=akr λi _ hi=>by simp only[a7]at hi;exact hi.1.1
 have h3:=aku h.ok (T:=λi=>oO.getD i false) (D:=λx=>used.getD x false) (λx hx hu=>by
  have:=(hr.akv hL h x hu).2;exact⟨this,hr.g3 x hu this⟩)
 omega
def Reach.none(hr:Reach left R owner number used oO)(h:∀ i,i<left.length->on number i=true):∀ i,oO.getD i false=false:=by
 obtain⟨a,_⟩:=hr.g4 (λ_=>False) (λ_=>False) (λ_ h _=>h) (λ_ h=>h.elim) (λi hi h0=>by rw[h i hi]at h0;simp at h0);intro i;cases hh:oO.getD i false with
 |false=>rfl
 |true=>exact(a i hh).elim
end
def qS(f:Nat->Nat)(N:List Int):List Int:=N.map λn=>if n<0 then -1 else(f n.toNat:Int)
def xD(n R':Nat)(N:List Int):List Int:=(aY R').map λx:Nat=>match (aY n).find? (λj=>decide (N.getD j 0=(x:Int))) with|some j=>(j:Int)|none=>-1
def akw{f:Nat->Nat}{N:List Int}{j:Nat}(h:j<N.length):(qS f N).getD j 0=if N.getD j 0<0 then -1 else(f (N.getD j 0).toNat:Int):=by
 rw[qS,az,bY,bS h,az,bS h];rfl
def M8{n R':Nat}{N:List Int}{x:Nat}(hx:x<R'):(∃ j,j<n/\N.getD j 0=x/\(xD n R' N).getD x 0=(j:Nat))\/((xD n R' N).getD x 0 = -1/\∀ j,j<n->N.getD j 0≠x):=by
 have e:(xD n R' N).getD x 0=match (aY n).find? (λj=>decide (N.getD j 0=(x:Int))) with|some j=>(j:Int)|none=>-1:=by
  rw[xD,az,bY,nN hx];rfl
 cases hf:(aY n).find? (λj=>decide (N.getD j 0=(x:Int))) with
 |some j =>
  rw[hf]at e;have h1:=List.find?_some hf;have h2:=List.mem_of_find?_eq_some hf;rw[decide_eq_true_eq]at h1;exact .inl ⟨j,mN.1 h2,h1,e⟩
 |none =>
  rw[hf]at e;rw[List.find?_eq_none]at hf;exact .inr ⟨e,λj hj he=>absurd (decide_eq_true he) (hf j (mN.2 hj))⟩
structure akx(left EG:List (List Int))(R':Nat)(f:Nat->Nat):Prop where
 len:EG.length=left.length
 to:∀ i,i<left.length->∀ x:Nat,(x:Int)∈left.getD i []->f x<R'/\(f x:Int)∈EG.getD i []
 inj:∀ i j,i<left.length->j<left.length->∀ x y:Nat,(x:Int)∈left.getD i []->(y:Int)∈left.getD j []->f x=f y->x=y
def Av.bh{left EG:List (List Int)}{R R':Nat}{f:Nat->Nat}{owner number:List Int}(h:Av left R owner number)(hf:akx left EG R' f):
  Av EG R' (xD left.length R' (qS f number)) (qS f number)/\∀ i,i<left.length->on (qS f number) i=on number i:=by
 have hl:=hf.len;have hg:∀ j,j<left.length->(qS f number).getD j 0=if number.getD j 0<0 then -1 else(f (number.getD j 0).toNat:Int):=λj hj=>akw (by rw[h.hN];exact hj);have abu:∀ j,j<left.length->0<=(qS f number).getD j 0->0<=number.getD j 0/\(qS f number).getD j 0=f (number.getD j 0).toNat/\(((number.getD j 0).toNat:Nat):Int)∈left.getD j []/\owner.getD (number.getD j 0).toNat 0=j:=λj hj h0=>by
  rw[hg j hj]at h0 ⊢;split at h0
  ·omega
  ·rename_i hn;obtain⟨a,b,c⟩:=h.fwd j hj CZ;rw[if_neg hn];exact⟨CZ,rfl,by rw[u5 CZ];exact c,b⟩
 refine⟨⟨⟨by simp[xD],λo ho=>?_⟩,by rw[qS,eu,h.hN,hl],λj hj=>?_,λj hj h0=>?_,λx hx h0=>?_⟩,λi hi=>?_⟩
 ·obtain⟨x,hx,rfl⟩:=List.mem_iff_getElem.1 ho;have bZ:x<R':=by simpa [xD] using hx
  have e:(xD left.length R' (qS f number))[x]=(xD left.length R' (qS f number)).getD x 0:=by rw[az,bS hx];rfl
  rw[e];rcases M8 (n:=left.length) (N:=qS f number) bZ with⟨j,h1,h2,h3⟩|⟨h3,_⟩<;>rw[h3]<;>omega
 ·rw[hg j CZ];split<;>omega
 ·obtain⟨a,b,c,d⟩:=abu j CZ h0;obtain⟨p,q⟩:=hf.to j CZ _ c;rw[b,cF];refine⟨CZ,?_,q⟩;rcases M8 (n:=left.length) (N:=qS f number) p with⟨k,h1,h2,h3⟩|⟨_,h3⟩
  ·rw[h3];obtain⟨a',b',c',d'⟩:=abu k h1 CZ;have:=hf.inj k j h1 CZ _ _ c' c CZ;rw[this,d]at d';omega
  ·exact absurd b (h3 j CZ)
 ·rcases M8 (n:=left.length) (N:=qS f number) hx with⟨k,h1,h2,h3⟩|⟨h3,_⟩
  ·rw[h3,cF];exact h2
  ·omega
 ·rw[on,on,hg i hi];split
  ·rw[decide_eq_false CZ,decide_eq_false CZ]
  ·rw[decide_eq_true CZ,decide_eq_true CZ]
section
variable {α:Type} [Inhabited α]
def uL(lt:α->α->Bool)(x:α)(l:List α):Nat->Nat
 |0=>0
 |k+1=>if lt x (l.getD k default)=true then uL lt x l k else k+1
def abv(lt:α->α->Bool)(x:α)(l:List α):∀ k,uL lt x l k<=k
 |0=>aU _
 |k+1=>by
  rw[uL];split
  ·have:=abv lt x l k;omega
  ·exact aU _
def EH(lt:α->α->Bool)(x:α)(l:List α):List α:=l.take (uL lt x l l.length)++x::l.drop (uL lt x l l.length)
def zR(lt:α->α->Bool):List α->List α->List α
 |[],out=>out
 |x::r,out=>zR lt r (EH lt x out)
def M9(lt:α->α->Bool)(x:α)(l:List α):(EH lt x l).Perm (x::l):=by
 unfold EH;refine xO.trans ?_;rw[List.take_append_drop]
def GU(lt:α->α->Bool):∀ (l out:List α),(zR lt l out).Perm (out++l)
 |[],out=>by rw[zR,np]
 |x::r,out=>by
  rw[zR];refine(GU lt r _).trans (((M9 lt x out).append_right r).trans ?_);exact xO.symm
def abw(lt:α->α->Bool)(x:α)(l:List α):∀ k,(∀ j,uL lt x l k<=j->j<k->lt x (l.getD j default)=true)/\(0<uL lt x l k->lt x (l.getD (uL lt x l k-1) default)=false)
 |0=>⟨λj h1 h2=>CZ,λh=>by rw[uL]at h;omega⟩
 |k+1=>by
  obtain⟨a,b⟩:=abw lt x l k;rw[uL];split
  ·rename_i h;refine⟨λj h1 h2=>?_,b⟩;by_cases hj:j=k
   ·subst hj;exact h
   ·exact a j h1 CZ
  ·rename_i h;exact⟨λj h1 h2=>CZ,λ_=>by simpa using h⟩
structure GW(lt:α->α->Bool)(P:α->Prop):Prop where
 tr:∀ a b c,P a->P b->P c->lt a b=true->lt b c=true->lt a c=true
 jW:∀ a b,P a->P b->a≠b->lt a b=true\/lt b a=true
 ir:∀ a b,P a->P b->lt a b=true->lt b a=false
def aky{lt:α->α->Bool}{P:α->Prop}(ho:GW lt P){x:α}{l:List α}(hl:l.Pairwise λa b=>lt a b=true)(hP:∀ y∈l,P y)(hx:P x)(hn:x ∉ l):(EH lt x l).Pairwise λa b=>lt a b=true:=by
 obtain⟨a,b⟩:=abw lt x l l.length;have hp:=abv lt x l l.length;unfold EH;generalize uL lt x l l.length=p at *;have hg:∀ j,j<l.length->l.getD j default∈l:=λj hj=>aF hj;have iy:∀ j (hj:j<l.length),l[j]=l.getD j default:=λj hj=>by rw[az,bS hj];rfl
 have zS:∀ i j,i<j->j<l.length->lt (l.getD i default) (l.getD j default)=true:=λi j h1 h2=>by
  rw[<- iy i CZ,<- iy j h2];exact List.pairwise_iff_getElem.1 hl i j CZ h2 h1
 have Ck:∀ y∈l.take p,lt y x=true:=λy hy=>by
  obtain⟨i,hi,rfl⟩:=pW hy;rw[fZ]at hi;rw[List.getElem_take,iy i CZ];have h1:=b CZ;have h2:l.getD (p-1) default∈l:=hg _ CZ;have h3:lt (l.getD (p-1) default) x=true:=(ho.jW _ _ (hP _ h2) hx (λe=>hn (e▸h2))).resolve_right (by rw[h1];decide);by_cases hip:i=p-1
  ·subst hip;exact h3
  ·exact ho.tr _ _ _ (hP _ (hg _ CZ)) (hP _ h2) hx (zS i (p-1) CZ CZ) h3
 have abx:∀ y∈l.drop p,lt x y=true:=λy hy=>by
  obtain⟨i,hi,rfl⟩:=pW hy;rw[yW]at hi;rw[List.getElem_drop,iy _ CZ];exact a _ CZ CZ
 rw[List.pairwise_append];refine⟨hl.sublist (List.take_sublist _ _),List.pairwise_cons.2 ⟨abx,hl.sublist (List.drop_sublist _ _)⟩,λy hy z hz=>?_⟩;rcases a8.1 hz with rfl|hz
 ·exact Ck y hy
 ·exact ho.tr _ _ _ (hP _ (List.mem_of_mem_take hy)) hx (hP _ (List.mem_of_mem_drop hz)) (Ck y hy) (abx z hz)
def T1{lt:α->α->Bool}{P:α->Prop}(ho:GW lt P):∀ (l out:List α),out.Pairwise (λa b=>lt a b=true)->(∀ y∈out,P y)->(∀ y∈l,P y)->(out++l).Nodup->(zR lt l out).Pairwise λa b=>lt a b=true
 |[],out,h,_,_,_=>h
 |x::r,out,h,h1,h2,h3=>by
  rw[zR];have hp:(x::(out++r)).Nodup:=(xO.nodup_iff).1 h3;rw[mO,da,not_or]at hp;refine T1 ho r _ (aky ho h h1 (h2 x Fl) hp.1.1) (λy hy=>?_) (λy hy=>h2 y (by simp[hy])) ?_
  ·rcases a8.1 ((M9 lt x out).mem_iff.1 hy) with rfl|hy
   ·exact h2 _ Fl
   ·exact h1 y hy
  ·refine((M9 lt x out).append_right r).nodup_iff.2 ?_;rw[e9,mO,da,not_or];exact hp
omit [Inhabited α] in
def TZ{lt:α->α->Bool}{P:α->Prop}(ho:GW lt P):∀ (a b:List α),a.Pairwise (λx y=>lt x y=true)->b.Pairwise (λx y=>lt x y=true)->(∀ x∈a,P x)->(∀ x,x∈a↔x∈b)->a=b
 |[],b,_,_,_,h=>by
  cases b with
  |nil=>rfl
  |cons y b=>have:=(h y).2 Fl;simp at this
 |x::a,[],_,_,_,h=>by have:=(h x).1 Fl;simp at this
 |x::a,y::b,ha,hb,hP,h=>by
  rw[List.pairwise_cons]at ha hb;have M':P y:=hP y ((h y).2 Fl);have hir:∀ z,P z->lt z z=true->False:=λz hz hh=>by have:=ho.ir z z hz hz hh;rw[hh]at this;cases this
  have qj:x=y:=by
   rcases a8.1 ((h x).1 Fl) with e|h1
   ·exact e
   ·rcases a8.1 ((h y).2 Fl) with e|h2
    ·exact e.symm
    ·have:=ho.ir _ _ (hP x Fl) M' (ha.1 y h2);rw[hb.1 x h1]at this;cases this
  subst qj;congr 1;refine TZ ho a b ha.2 hb.2 (λz hz=>hP z (by simp[hz])) λz=>?_;constructor
  ·intro hz;rcases a8.1 ((h z).1 (by simp[hz])) with e|h1
   ·subst e;exact(hir _ M' (ha.1 _ hz)).elim
   ·exact h1
  ·intro hz;rcases a8.1 ((h z).2 (by simp[hz])) with e|h1
   ·subst e;exact(hir _ M' (hb.1 _ hz)).elim
   ·exact h1
end
end T

