import Derived.Test.YtfoopmojjjpapaaGreatX43
import Derived.Test.YtfoopmojjjpapaaGreatX40
set_option linter.all false
set_option maxHeartbeats 0
set_option maxRecDepth 20000
open List renaming getD_eq_getElem?_getD→az,length_set→bH,getElem?_set→bU,getElem?_eq_getElem→bS,length_append→bI,replicate→aI,append_nil→np,append_assoc→bw,mem_cons→a8
open Int renaming toNat_natCast→cF,le_refl→mP
open Nat renaming le_refl→aU,not_lt_zero→rW,sub_self→iq,zero_le→aS
open Go Go.Am Go.Proofs
namespace T
structure wB(m:aj)(left:List (List Bool))(c:Nat)(P:List Int):Prop where
 len:P.length=m.cls.length
 get:∀ j,j<c->(0<=P.getD j 0/\P.getD j 0<(m.cls.getD j default).length)/\(left.getD j default).getD (P.getD j 0).toNat false=true
def wB.agree{m:aj}{left:List (List Bool)}{c:Nat}{P Q:List Int}(h:wB m left c P)(hl:Q.length=m.cls.length)(hk:∀ j,j<c->Q.getD j 0=P.getD j 0):wB m left c Q :=
 ⟨hl,λj hj=>by rw[hk j hj];exact h.get j hj⟩
def IU(P:List Int)(c j:Nat)(v:Int)(h:j≠c):(P.set c v).getD j 0=P.getD j 0:=by
 rw[az,List.getElem?_set_ne (Ne.symm h),<- az]
def wB.put{m:aj}{left:List (List Bool)}{c:Nat}{P:List Int}(h:wB m left c P)(hc:c<m.cls.length){k:Nat}(hk:k<(m.cls.getD c default).length)(hb:(left.getD c default).getD k false=true):wB m left (c+1) (P.set c (k:Int)):=by
 refine⟨by rw[bH];exact h.len,λj hj=>?_⟩;by_cases e:j=c
 ·subst e;have e2:(P.set j (k:Int)).getD j 0=(k:Int):=by rw[az,bU];simp[h.len,hc]
  rw[e2];exact⟨⟨CZ,CZ⟩,by rw[cF];exact hb⟩
 ·rw[IU _ _ _ _ e];exact h.get j CZ
def wB.full{m:aj}{left:List (List Bool)}{P:List Int}(h:wB m left m.cls.length P):FP m P/\yT m left P:=by
 refine⟨⟨h.len,λj hj=>?_⟩,λi hi=>(h.get i hi).2⟩;rw[h.len]at hj;have:=h.get j hj;exact jK.2 ⟨CZ,CZ,this.1.1,by rw[cF];exact this.1.2⟩
def IV{f:List Int->Int×List Int}{c j:Nat}(hj:j<c)(row:List Bool)(P:List Int)(hf:∀ Q,(f Q).2.getD j 0=Q.getD j 0):∀ k,(iQ f c row P k).2.getD j 0=P.getD j 0
 |0=>rfl
 |k+1=>by
  rw[iQ];split
  ·dsimp only;rw[hf,IU _ _ _ _ CZ];exact IV hj row P hf k
  ·exact IV hj row P hf k
def Oj(m:aj)(left:List (List Bool)):∀ (d:Nat) (P:List Int) (j:Nat),j+d<m.cls.length->(eR m left d P).2.getD j 0=P.getD j 0
 |0,P,j,h=>rfl
 |d+1,P,j,h=>by
  rw[eR];exact IV CZ _ _ (λQ=>Oj m left d Q j CZ) _
section
variable {m:aj} {left:List (List Bool)} (hm:VM m) {b:Int} (hb:b<=1099511627776) (hP:∀ an,FP m an->yT m left an->b<=te (vU m an) 0)
include hm hb hP
def acW:∀ (d c:Nat) (P:List Int),c+d=m.cls.length->wB m left c P->b<=(eR m left d P).1
 |0,c,P,hc,h=>by
  rw[Nat.add_zero]at hc;subst hc;obtain⟨h1,h2⟩:=h.full;rw[eR];dsimp only;rw[acS hm E8 Fs Fl];dsimp only;rw[N' hm h1 _ E8 (acR h1) [] Fl];exact hP P h1 h2
 |d+1,c,P,hc,h=>by
  have e:m.cls.length-(d+1)=c:=CZ;rw[eR,e];have key:∀ k,k<=(m.cls.getD c default).length->b<=(iQ (eR m left d) c (left.getD c default) P k).1/\wB m left c (iQ (eR m left d) c (left.getD c default) P k).2:=by
   intro k
   induction k with
   |zero=>intro _;exact⟨hb,h⟩
   |succ k ih =>
    intro hk;obtain⟨i1,i2⟩:=ih CZ;rw[iQ];split
    ·rename_i hr;have h3:=i2.put CZ (k:=k) CZ hr;have h4:=acW d (c+1) _ CZ h3;refine⟨Ji,?_⟩;dsimp only;refine i2.agree (IT m left d _ h3.len) λj hj=>?_;rw[Oj m left d _ j CZ,IU _ _ _ _ CZ]
    ·exact⟨i1,i2⟩
  exact(key _ (aU _)).1
def amC:b<=w0 m left:=acW hm hb hP m.cls.length 0 _ CZ ⟨Fl,λj hj=>absurd hj (rW _)⟩
end
def Ol(f:List Int->Int×List Int)(c:Nat)(row:List Bool)(P:List Int)(k:Nat):∀ j,(iQ f c row P (k+j)).1<=(iQ f c row P k).1
 |0=>mP _
 |j+1=>by
  have:=Ol f c row P k j;rw[<- Nat.add_assoc,iQ];split
  ·dsimp only;omega
  ·exact this
def acX{m:aj}{left:List (List Bool)}(hm:VM m){an:List Int}(hp:FP m an)(dP:yT m left an):∀ (d c:Nat) (P:List Int),c+d=m.cls.length->P.length=m.cls.length->(∀ j,j<c->P.getD j 0=an.getD j 0)->(eR m left d P).1<=te (vU m an) 0
 |0,c,P,hc,hl,h=>by
  have e:P=an:=by
   apply List.ext_getElem
   ·rw[hl,hp.len]
   ·intro j h1 h2;have:=h j CZ;rw[az,az,bS h1,bS h2]at this;exact this
  subst e;rw[eR];dsimp only;rw[acS hm E8 Fs Fl];dsimp only;rw[N' hm hp _ E8 (acR hp) [] Fl];exact mP _
 |d+1,c,P,hc,hl,h=>by
  have e:m.cls.length-(d+1)=c:=CZ;have bz:c<m.cls.length:=CZ;have hg:=jK.1 (hp.get c (by rw[hp.len];exact bz));rw[cF]at hg;obtain⟨k,hk⟩:∃k:Nat,an.getD c 0=k:=⟨(an.getD c 0).toNat,CZ⟩;have hr:=dP c bz;rw[hk,cF]at hr;rw[eR,e];obtain⟨j,hj⟩:∃j,(m.cls.getD c default).length=k+1+j:=⟨(m.cls.getD c default).length-(k+1),CZ⟩;rw[hj];refine Int.le_trans (Ol _ _ _ _ (k+1) j) ?_;rw[iQ,if_pos hr];dsimp only;have lq:=E9 (λP hP=>IT m left d P hP) c (left.getD c default) hl k;have aZ:=λj (hj:j<c)=>IV hj (left.getD c default) P (λQ=>Oj m left d Q j CZ) k;generalize iQ (eR m left d) c (left.getD c default) P k=st at *;have ih:=acX hm hp dP d (c+1) (st.2.set c (k:Int)) CZ (by rw[bH];exact lq) (λj hj=>by
   by_cases e:j=c
   ·subst e;rw[hk,az,bU];simp[lq,bz]
   ·rw[IU _ _ _ _ e,aZ j CZ,h j CZ])
  omega
def amD{m:aj}{left:List (List Bool)}(hm:VM m){an:List Int}(hp:FP m an)(dP:yT m left an):w0 m left<=te (vU m an) 0 :=
 acX hm hp dP m.cls.length 0 _ CZ Fl λj hj=>absurd hj (rW _)
def amE(m:aj)(left:List (List Bool)):∀ (d:Nat) (P:List Int),(eR m left d P).1<=1099511627776
 |0,P=>by
  rw[eR];dsimp only;unfold bP;split
  ·show(0:Int)<=_;decide
  ·unfold gH;split
   ·show(0:Int)<=_;decide
   ·split
    ·show(0:Int)<=_;decide
    ·exact ab5 _ _ _
 |d+1,P=>by
  rw[eR];have:=Ol (eR m left d) (m.cls.length-(d+1)) (left.getD (m.cls.length-(d+1)) default) P 0 (m.cls.getD (m.cls.length-(d+1)) default).length;rw[Nat.zero_add]at this;exact this
section
variable {m:aj} {l:List Int} {rounds:Int} (hm:VM m) (dP:∀ c∈l,0<=c/\c<m.cls.length) (bT:l.Nodup) (aO:NV m l<=20000)
include hm dP bT aO
end
def mH(L:List Int):Nat->Nat->List Bool×Nat
 |0,k=>([],k)
 |n+1,k=>((mH L n k).1++[!Em L (mH L n k).2 4],kQ L (mH L n k).2)
def kB(L:List Int)(cls:List (List dq)):Nat->Nat->List (List Bool)×Nat
 |0,k=>([],k)
 |c+1,k=>((kB L cls c k).1++[(mH L (cls.getD c default).length (kB L cls c k).2).1],(mH L (cls.getD c default).length (kB L cls c k).2).2)
def IW{L:List Int}:∀ n k,(mH L n k).1.length=n
 |0,k=>rfl
 |n+1,k=>by rw[mH,bI,IW n];rfl
def Om{L:List Int}:∀ n k,k<=L.length->(mH L n k).2<=L.length
 |0,k,h=>h
 |n+1,k,h=>by rw[mH];exact vV (Om n k h)
def AL{L:List Int}{cls:List (List dq)}:∀ c k,(kB L cls c k).1.length=c
 |0,k=>rfl
 |c+1,k=>by rw[kB,bI,AL c];rfl
def K3{L:List Int}{cls:List (List dq)}:∀ c k,k<=L.length->(kB L cls c k).2<=L.length
 |0,k,h=>h
 |c+1,k,h=>by rw[kB];exact Om _ _ (K3 c k h)
def acY{L:List Int}{cls:List (List dq)}:∀ c k i,i<c->((kB L cls c k).1.getD i default).length=(cls.getD i default).length
 |0,k,i,h=>absurd h (rW _)
 |c+1,k,i,h=>by
  rw[kB];dsimp only;by_cases e:i<c
  ·rw[az,List.getElem?_append_left (by rw[AL];exact e),<- az];exact acY c k i e
  ·obtain rfl:i=c:=CZ;rw[az,List.getElem?_append_right (by rw[AL];omega),AL,iq];exact IW _ _
def afM{L:List Int}{m:aj}{k:Nat}:cP m (kB L m.cls m.cls.length k).1:=⟨AL _ _,λi hi=>acY _ _ _ (by rwa [AL]at hi)⟩
def amF(bs:List Bool)(n:Nat)(b:Bool):(bs++aI (n+1) false).set bs.length b=(bs++[b])++aI n false:=by
 rw[List.set_append_right _ _ (aU _),iq,List.replicate_succ,List.set_cons_zero];simp
def amG{m:aj}{left:List (List Bool)}{r:Int}(h:sR m left r=0):kR m left=0/\(bP m left []).2=0:=by
 unfold sR at h;split at h
 ·rename_i h0;exact absurd h h0
 ·rename_i h0;refine⟨CZ,?_⟩;rw[GM,if_neg h0]
def amH{m:aj}{left:List (List Bool)}{r:Int}(h:sR m left r=0):VM m/\cP m left/\(bP m left (jH m left r)).1<=w0 m left:=by
 obtain⟨h1,h2⟩:=amG h;obtain⟨hv,hf⟩:=GN h1;have h3:=(Lm (m:=m) (left:=left) r h2).1;obtain⟨_,h4,h5⟩:=ab6 h3;refine⟨hv,hf,amC hv h5 λan hp dP=>?_⟩;rw[h4]at h3 ⊢;unfold gH at h3 ⊢;split at h3
 ·cases h3
 ·split at h3
  ·cases h3
  ·rename_i h6 h7;rw[if_neg h6,if_neg h7];exact amg hv hp left hf dP _ λx hx=>by
    cases hb:gK m x with
    |true=>rfl
    |false=>exact absurd (List.all_eq_false.2 ⟨x,hx,by simp[hb]⟩) h7
def afL(m:aj)(hm:VM m)(L:List Int)(k:Nat)(hk:k<=L.length)(hL:L.length<1000000):
  Holds Tryz.prog 13 [.ptr 0 0 0,.agg (ay m)] [vC L k] (.ref 1 1 0 (kB L m.cls m.cls.length k).1.length) (vC L (kB L m.cls m.cls.length k).2::.arr 1 (fV 2 (kB L m.cls m.cls.length k).1)::rH (kB L m.cls m.cls.length k).1):=by
 unfold vC;have s8:=hm.cls;refine Holds.aQ 40 1 [.tmp 4] Tryz.func13 ?_;((try revert hK K);(repeat'(first|refine Va X0 ?_|(refine V2 X0 ?_ ?_<;>try with_reducible intro hb)|(refine Xi ?_ ?_<;>try intro ht)|refine VD ?_ ?_|exact Xx|fail))<;>try with_reducible intro K hK)
 refine bd (λz:Nat×List Ob×Nat×List (Nat×Nat)=>(⟨ar [(0,.ptr 0 0 0),(3,.ptr 1 0 0),(5,.ref z.2.2.1 1 0 z.2.2.2.length),(6,OJ z.1)],z.2.1⟩:St))
  (λz=>z.1<=m.cls.length/\dH [(0,.var [.tree 1 (ints L),OJ (kB L m.cls z.1 k).2]),(z.2.2.1,.arr 1 (rowsOf pJ z.2.2.2)),(1,.var (ay m))] z.2.2.2 (kB L m.cls z.1 k).1 z.2.1) (λz=>m.cls.length-z.1)
  (0,[.var [.tree 1 (ints L),OJ k],.var (ay m),.arr 1 []],2,[]) ⟨aS _,dH.start _ _⟩ ?_ ?_
 ·refine aH.trans (aH.nil 5 1 (by simp only[Kc,simprocAttr]) Fs) ?_;exact Xv X0
 rintro⟨i,os,oi,D⟩⟨hi,hB⟩Ql ao ax;dsimp only at hi hB ⊢;have yR:=hB.len;have eJ:=K3 (L:=L) (cls:=m.cls) i k hk;have sV:=AL (L:=L) (cls:=m.cls) i k;by_cases aq:i<m.cls.length
 ·have vL:=hm.opt _ (aF (d:=(default:List dq)) aq);have oA:kB L m.cls (i+1) k=((kB L m.cls i k).1++[(mH L (m.cls.getD i default).length (kB L m.cls i k).2).1],(mH L (m.cls.getD i default).length (kB L m.cls i k).2).2):=rfl;generalize kB L m.cls i k=X at *;obtain⟨xs,k1⟩:=X;dsimp only at eJ oA sV hB yR;have fd:=hB.b0;have fo:=hB.b1;have fm:=hB.b2;dsimp only at fd fm fo;generalize bf:m.cls.getD i default=c at *;((try revert hK K);(repeat'(first|refine Va (X3 @fm @bf @bm.eq_1) ?_|(refine V2 (X3 @fm @bf @bm.eq_1) ?_ ?_<;>try with_reducible intro hb)|(refine Xi ?_ ?_<;>try intro ht)|refine VD ?_ ?_|exact Xx|fail))<;>try with_reducible intro K hK)
  refine bd (λz:Nat×List Ob=>(⟨ar [(0,.ptr 0 0 0),(3,.ptr 1 0 0),(5,.ref oi 1 0 D.length),(6,OJ i),(7,.ref os.length 1 0 c.length),(8,OJ z.1)],z.2⟩:St))
   (λz=>z.1<=c.length/\dH [(os.length,.arr 1 (br ((mH L z.1 k1).1++aI (c.length-z.1) false))),(0,.var [.tree 1 (ints L),OJ (mH L z.1 k1).2]),(oi,.arr 1 (rowsOf pJ D)),(1,.var (ay m))] D xs z.2) (λz=>c.length-z.1) (0,os++[.arr 1 (br (aI c.length false))]) ⟨aS _,(hB.app _).add (jX _ _ _) (hB.fresh (aU _))⟩ (Xv X0) ?_
  clear fd fm fo;rintro⟨j,lR⟩⟨hj,rM⟩du bE bG;dsimp only at hj rM ⊢;have fp:=rM.b0;have fd:=rM.b1;have fo:=rM.b2;have fm:=rM.b3;dsimp only at fd fm fo fp;generalize cg:os.length=p at *;by_cases gx:j<c.length
  ·have fK:=Om (L:=L) j k1 eJ;have hnj:mH L (j+1) k1=((mH L j k1).1++[!Em L (mH L j k1).2 4],kQ L (mH L j k1).2):=rfl;have nJ:=IW (L:=L) j k1;generalize mH L j k1=B at *;obtain⟨bs,k2⟩:=B;dsimp only at fK hnj nJ rM fp fd;have qu:=aap L k2 4 (by unfold jv;omega) Fs fK hL;generalize Em L k2 4=b at *;generalize kQ L k2=k3 at *;have On:=amF bs (c.length-(j+1)) (!b);rw[show c.length-(j+1)+1=c.length-j by omega,nJ]at On;have ic:(bs++aI (c.length-j) false).length=c.length:=by rw[bI,List.length_replicate];omega
   ((try revert hK K);(repeat'(first|refine Va (X2 @fp @ic) ?_|(refine V2 (X2 @fp @ic) ?_ ?_<;>try with_reducible intro hb)|(refine Xi ?_ ?_<;>try intro ht)|refine VD ?_ ?_|exact Xx|fail))<;>try with_reducible intro K hK)
   refine tU [0] qu Fs ⟨fd,trivial⟩ ⟨.eq rfl,.pure rfl,trivial⟩ ?_;have xi:=(rM.swap.put (.var [.tree 1 (ints L),OJ k3])).swap;have Cr:=xi.b0;dsimp only at Cr;have hz:∀ (ρ:Nat->Nat),fc lR [0] (List.map (bM ρ) [.var [.tree 1 (ints L),OJ k3]])=lR.set 0 (.var [.tree 1 (ints L),OJ k3]):=λρ=>np _;rw[hz];generalize lR.set 0 (.var [.tree 1 (ints L),OJ k3])=os2 at *;clear hz fd fm fo fp;((try revert hK K);(repeat'(first|refine Va (X4 @Cr @ic @r9 @On) ?_|(refine V2 (X4 @Cr @ic @r9 @On) ?_ ?_<;>try with_reducible intro hb)|(refine Xi ?_ ?_<;>try intro ht)|refine VD ?_ ?_|exact Xx|fail))<;>try with_reducible intro K hK)
   refine bE _ (j+1,os2.set p (.arr 1 (br ((bs++[!b])++aI (c.length-(j+1)) false)))) ⟨Ji,by rw[hnj];exact xi.put _⟩ Ji ?_;exact Xv X0
  ·obtain rfl:j=c.length:=CZ;have nJ:=IW (L:=L) c.length k1;generalize mH L c.length k1=B at *;obtain⟨bs,k2⟩:=B;dsimp only at oA nJ rM fp fd;rw[iq,List.replicate_zero,np]at rM fp;have xi:=rM.snoc;have E':=xi.swap;obtain⟨CF,cX⟩:=E'.drop;((try revert hK K);(repeat'(first|refine Va (X2 @fp @nJ) ?_|(refine V2 (X2 @fp @nJ) ?_ ?_<;>try with_reducible intro hb)|(refine Xi ?_ ?_<;>try intro ht)|refine VD ?_ ?_|exact Xx|fail))<;>try with_reducible intro K hK)
   refine bG _ _ rfl ?_;clear bE bG du;repeat(first|refine Xu ?_)
   ((try revert hK K);(repeat'(first|refine Va (X5 @fo (aM fo) (gZ fo) @HZ (X4 @bF @bw.{0} @bI.{0} @bH.{0})) ?_|(refine V2 (X5 @fo (aM fo) (gZ fo) @HZ (X4 @bF @bw.{0} @bI.{0} @bH.{0})) ?_ ?_<;>try with_reducible intro hb)|(refine Xi ?_ ?_<;>try intro ht)|refine VD ?_ ?_|exact Xx|fail))<;>try with_reducible intro K hK)
   rw[nJ]at CF cX;refine ao _ (i+1,lR.set oi .gone++[.arr 1 [[.ref p 1 0 c.length]],.arr 1 (rowsOf pJ (D++[(p,c.length)]))],lR.length+1,D++[(p,c.length)]) ⟨Ji,?_⟩ Ji ?_
   ·rw[oA];refine dH.swap (((CF.other cX .gone).app _).add ?_ ((CF.other cX .gone).fresh Fl));have sZ:(lR.set oi Ob.gone).length=lR.length:=bH ..;rw[<- sZ,kC];rfl
   ·exact Xv X0
 ·obtain rfl:i=m.cls.length:=CZ;generalize kB L m.cls m.cls.length k=X at *;obtain⟨xs,k1⟩:=X;dsimp only at eJ sV hB yR ⊢;have fm:=hB.b2;dsimp only at fm;((try revert hK K);(repeat'(first|refine Va @fm ?_|(refine V2 @fm ?_ ?_<;>try with_reducible intro hb)|(refine Xi ?_ ?_<;>try intro ht)|refine VD ?_ ?_|exact Xx|fail))<;>try with_reducible intro K hK)
  refine ax _ _ rfl ?_;clear ao ax Ql;repeat(first|refine Xu ?_)
  ((try revert hK K);(repeat'(first|refine Vb X0 ?_|(refine V2 X0 ?_ ?_<;>try with_reducible intro hb)|(refine Xi ?_ ?_<;>try intro ht)|refine VD ?_ ?_|exact Xx|fail))<;>try with_reducible intro K hK)
  have h3:dH [(0,.var [.tree 1 (ints L),OJ k1]),(oi,.arr 1 (rowsOf pJ D))] D xs os :=
   ⟨λb hb=>hB.base b (by simp only[a8,List.not_mem_nil,or_false]at hb ⊢;rcases hb with hb|hb<;>simp[hb]),hB.len,hB.row,by
    have:=hB.nd;simp only[List.map_cons,List.map_nil,List.cons_append,List.nil_append,List.nodup_cons,a8,not_or]at this ⊢;exact⟨⟨this.1.1,this.1.2.2⟩,this.2.1.2,this.2.2.2⟩⟩
  rw[yR];exact h3.ret (λρ=>rfl) Fl _
end T

