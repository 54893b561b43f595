import Derived.Test.YtfoopmojjjpapaaGreatX23
set_option linter.all false
set_option maxHeartbeats 0
set_option maxRecDepth 20000
open Int renaming le_refl→nD,zero_add→CP,toNat_of_nonneg→w9,eq_ofNat_of_zero_le→Hm,toNat_natCast→dg
open Nat renaming zero_add→gR,mul_comm→vD,add_mul→gn,one_mul→wX,zero_mul→G8,lt_or_ge→dT
open List renaming getD_eq_getElem?_getD→ay,getElem?_eq_none→dN,getD_cons_zero→jc,getD_cons_succ→gB,length_cons→du,map_cons→ez,length_map→gD,range'→mU,drop_eq_nil_of_le→jL,range'_succ→wV,drop_zero→AN,mem_cons→bu
open Bool renaming and_eq_true→bc,false_eq_true→jB
open Option renaming map_some→fc,some→cH
open Go Go.Am
namespace T
def JH{f:Nat->Int}:∀ (n:Nat),(∀ i<n,0<=f i)->0<=bQ f n/\∀ i<n,f i<=bQ f n
 |0,_=>⟨nD _,λi h=>Ey⟩
 |n+1,h=>by
  have h1:=JH n λi hi=>h i Ey;have h2:=h n Ey;rw[bQ];refine⟨Ey,λi hi=>?_⟩;by_cases e:i=n
  ·subst e;omega
  ·have:=h1.2 i Ey;omega
def Gq{f g:Nat->Int}:∀ (n:Nat),(∀ i<n,f i<=g i)->bQ f n<=bQ g n
 |0,_=>nD _
 |n+1,h=>by
  have:=Gq n λi hi=>h i Ey;have:=h n Ey;rw[bQ,bQ];omega
def alu{m:ah}{plan:List Int}(hm:VM m)(hp:FP m plan){i:Nat}(hi:i<m.cls.length):bX (xX m plan i):=by
 have h:=wK hp hi;have hl:=aF (l:=m.cls) (i:=i) (d:=default) hi;exact FJ (hm.tA _ hl _ (aF (l:=m.cls.getD i default) (i:=(plan.getD i 0).toNat) (d:=default) Ey))
def sg0{m:ah}{plan:List Int}(hp:FP m plan){i:Nat}(hi:i<m.cls.length):nS plan (S0 m,T0 m) i=e8 (xX m plan i):=by
 have h:=wK hp hi;unfold nS S0;dsimp only;rw[kD _ _ _ hi];unfold dL cj;rw[List.map_map,kD _ _ _ Ey];rfl
def acv{m:ah}{plan:List Int}(hm:VM m)(hp:FP m plan){p:Pr}(dY:iC m p=true):As m plan p<p.aB.length:=by
 obtain⟨q1,q2,q3,q4,q5⟩:=rZ dY;have ha:=wK hp (j:=p.fst.toNat) Ey;have hb:=wK hp (j:=p.snd.toNat) Ey;have hl1:=hm.opt _ (aF (l:=m.cls) (i:=p.fst.toNat) (d:=default) Ey);have tg:=hm.opt _ (aF (l:=m.cls) (i:=p.snd.toNat) (d:=default) Ey);have kI:=BO ha hb Ey Ey;unfold As;omega
def tg0{m:ah}{plan:List Int}(hm:VM m)(hp:FP m plan){i:Nat}(hi:i<m.ae.length):nU m plan (S0 m,T0 m) i=e8 (vf m plan (m.ae.getD i default)):=by
 have dY:=kC hm.pr _ (aF (l:=m.ae) (i:=i) (d:=default) hi);have kI:=acv hm hp dY;unfold nU T0;dsimp only;rw[kD _ _ _ hi];unfold dL;rw[kD _ _ _ kI];unfold vf yR As;rfl
def alv{m:ah}{plan:List Int}(hp:FP m plan){c:Ct}(hc:jW m c=true):Ae plan c.bd 0=bQ (λj=>gy c.bd (j:Nat) (plan.getD j 0) 0) m.cls.length:=by
 obtain⟨_,_,_,q4⟩:=u6 hc;rw[aaF hp.len 0 q4,aby,CP,hp.len];exact jv _ λj _=>by rw[gR,abx _ _ q4]
def InP(m:ah)(left:List (List Bool))(plan:List Int):Prop:=∀ i,i<m.cls.length->(left.getD i default).getD (plan.getD i 0).toNat false=true
def JF(m:ah)(left:List (List Bool))(plan:List Int):Prop:=∀ i,i<m.cls.length->∀ j,(left.getD i default).getD j false=decide (j=(plan.getD i 0).toNat)
def alw{m:ah}{plan:List Int}{left:List (List Bool)}(hm:VM m)(hp:FP m plan)(hf:cK m left)(da:JF m left plan){c:Ct}(hc:jW m c=true):ju left c=vg plan c:=by
 obtain⟨_,_,q3,q4⟩:=u6 hc;have hw:∀ x∈c.bd,1<=x.wt/\x.wt<=1000:=λx hx=>(xQ q4 x hx).2;unfold ju vg;congr 1;rw[BU,alv hp hc,CP,hf.1];refine jv _ λj hj=>?_;have hg:=wK hp hj;have h1:=abz c.bd (j:Nat) (left.getD j []) 0 (plan.getD j 0).toNat (da j hj);have h2:=BT hw (j:Nat) (plan.getD j 0) 0 Ey;rw[gR,w9 hg.1]at h1;unfold k9;rw[gR,h1];omega
def alx{m:ah}{plan:List Int}{c:Ct}(hc:jW m c=true):bX (vg plan c):=Ny (wC (u6 hc).2.2.1)
def aly{most s:Int}(h:0<l7 most 1099511627776 s):l7 most 1099511627776 s=1099511627776:=by
 unfold l7 at *;split at h
 ·omega
 ·rename_i h2;rw[if_neg h2];omega
def alz{m:ah}{plan:List Int}{p:Pr}(h:iC m p=true):bX (vf m plan p):=Nz h _ _
structure alA(m:ah)(plan:List Int)(left:List (List Bool))(g:Lg):Prop where
 lK:yS (BN m plan) 0=min (bQ (xX m plan) m.cls.length+bQ (λi=>vf m plan (m.ae.getD i default)) m.ae.length+bQ (λi=>vg plan (m.aE.getD i default)) m.aE.length) 1099511627776
 ps:Au m plan g=bQ (xX m plan) m.cls.length+bQ (λi=>vf m plan (m.ae.getD i default)) m.ae.length
 sf:∀ i,i<m.cls.length->(nS plan g i).2=decide (1099511627776<=xX m plan i)
 tf:∀ i,i<m.ae.length->(nU m plan g i).2=decide (1099511627776<=vf m plan (m.ae.getD i default))
 sl:∀ i,i<m.cls.length->(plan.getD i 0).toNat<(g.1.getD i default).length
 tl:∀ i,i<m.ae.length->As m plan (m.ae.getD i default)<(g.2.getD i default).length
 a:0<=bQ (xX m plan) m.cls.length/\∀ i<m.cls.length,xX m plan i<=bQ (xX m plan) m.cls.length
 b:0<=bQ (λi=>vf m plan (m.ae.getD i default)) m.ae.length/\∀ i<m.ae.length,vf m plan (m.ae.getD i default)<=bQ (λi=>vf m plan (m.ae.getD i default)) m.ae.length
 c:0<=bQ (λi=>vg plan (m.aE.getD i default)) m.aE.length/\∀ i<m.aE.length,vg plan (m.aE.getD i default)<=bQ (λi=>vg plan (m.aE.getD i default)) m.aE.length
def parts{m:ah}{plan:List Int}(hm:VM m)(hp:FP m plan)(left:List (List Bool))(l:List Mv)(hl:∀ x∈l,jx m x=true):alA m plan left (j1 m l (S0 m,T0 m)):=by
 have hJ:=abt hm hp l _ _ Hg (aat hm) hl;have lH:=IZ hm l hl;refine⟨akp hm hp,?_,λi hi=>?_,λi hi=>?_,λi hi=>?_,λi hi=>?_,JH _ λi hi=>(alu hm hp hi).1,JH _ λi hi=>(alz (kC hm.pr _ (aF hi))).1,JH _ λi hi=>(alx (hm.ct _ (aF hi))).1⟩
 ·rw[hJ.1];unfold Au;rw[jv m.cls.length λi hi=>by rw[sg0 hp hi],jv m.ae.length λi hi=>by rw[tg0 hm hp hi]];rfl
 ·rw[hJ.2.1,sg0 hp hi];rfl
 ·rw[hJ.2.2,tg0 hm hp hi];rfl
 ·have:=wK hp hi;rw[lH.sl i hi];omega
 ·rw[lH.tl i hi];exact acv hm hp (kC hm.pr _ (aF hi))
def alB{m:ah}{plan:List Int}{left:List (List Bool)}(hm:VM m)(hp:FP m plan)(hf:cK m left)(nk:JF m left plan){i:Nat}(hi:i<m.ae.length)(j:Nat):(jb m left i).getD j false=decide (j=As m plan (m.ae.getD i default)):=by
 have dY:=kC hm.pr _ (aF (l:=m.ae) (i:=i) (d:=default) hi);obtain⟨q1,q2,q3,q4,q5⟩:=rZ dY;have g1:=wK hp (j:=(m.ae.getD i default).fst.toNat) Ey;have g2:=wK hp (j:=(m.ae.getD i default).snd.toNat) Ey;have o1:=nk (m.ae.getD i default).fst.toNat Ey;have o2:=nk (m.ae.getD i default).snd.toNat Ey;have f1:=hf.2 (m.ae.getD i default).fst.toNat (by have:=hf.1;omega);have f2:=hf.2 (m.ae.getD i default).snd.toNat (by have:=hf.1;omega);unfold jb As;generalize m.ae.getD i default=p at *;rw[<- f1]at g1;rw[<- f2]at g2 ⊢;generalize left.getD p.fst.toNat default=a at *;generalize left.getD p.snd.toNat default=b at *;generalize plan.getD p.fst.toNat 0=x at *;generalize plan.getD p.snd.toNat 0=y at *;obtain⟨x,rfl⟩:=Hm g1.1;obtain⟨y,rfl⟩:=Hm g2.1;simp only[dg]at o1 o2;have hx:x<a.length:=Ey;have hy:y<b.length:=Ey;have e:((x:Int)*b.length+y).toNat=x*b.length+y:=by
  rw[show((x:Int)*b.length+y)=((x*b.length+y:Nat):Int) by simp,dg]
 rw[e];by_cases hj:j<a.length*b.length
 ·rw[FY _ _ _ hj,o1,o2,<- Bool.decide_and];have hdm:=Nat.div_add_mod j b.length;have C5:=Nat.mod_lt j (show 0<b.length by omega);refine decide_eq_decide.2 ⟨λ⟨h1,h2⟩=>?_,λh=>?_⟩
  ·rw[h1,h2,vD]at hdm;exact hdm.symm
  ·rw[h,vD x,Nat.mul_add_div Ey,Nat.div_eq_of_lt hy,Nat.mul_add_mod,Nat.mod_eq_of_lt hy];exact⟨rfl,rfl⟩
 ·rw[ay,dN (by rw[DQ];omega),Option.getD_none,decide_eq_false];intro h;have h3:(x+1)*b.length<=a.length*b.length:=Nat.mul_le_mul_right _ hx;rw[gn,wX]at h3;omega
def alr{m:ah}{plan:List Int}(hm:VM m)(hp:FP m plan)(left:List (List Bool))(hf:cK m left)(nk:JF m left plan)(l:List Mv)(hl:∀ x∈l,jx m x=true):
  mL m left (j1 m l (S0 m,T0 m))=yS (BN m plan) 0:=by
 have P:=parts hm hp left l hl;generalize j1 m l (S0 m,T0 m)=g at *;rw[P.lK];have ha:=P.a;have hb:=P.b;have hc:=P.c;have hJ:=P.ps;have e1:∀ i,i<m.cls.length->tQ left g i=if(nS plan g i).2=false then((nS plan g i).1,true) else(0,false):=λi hi =>
  OA _ _ _ _ (P.sl i hi) (nk i hi) rfl
 have e2:∀ i,i<m.ae.length->tR m left g i=if(nU m plan g i).2=false then((nU m plan g i).1,true) else(0,false):=λi hi =>
  OA _ _ _ _ (P.tl i hi) (alB hm hp hf nk hi) rfl
 have e3:∀ i,i<m.aE.length->ju left (m.aE.getD i default)=vg plan (m.aE.getD i default):=λi hi =>
  alw hm hp hf nk (hm.ct _ (aF hi))
 by_cases hN:Jt m left g
 ·rw[abw hN];rcases hN with⟨i,hi,h⟩|⟨i,hi,h⟩|⟨i,hi,h⟩
  ·rw[e1 i hi,P.sf i hi]at h;have:=ha.2 i hi;by_cases hx:1099511627776<=xX m plan i
   ·omega
   ·rw[decide_eq_false hx,if_pos rfl]at h;cases h
  ·rw[e2 i hi,P.tf i hi]at h;have:=hb.2 i hi;by_cases hx:1099511627776<=vf m plan (m.ae.getD i default)
   ·omega
   ·rw[decide_eq_false hx,if_pos rfl]at h;cases h
  ·have h1:=hc.2 i hi;unfold qn at h;dsimp only at h;rw[e3 i hi,Bool.not_eq_false',bc,decide_eq_true_eq,decide_eq_true_eq]at h;have h3:vg plan (m.aE.getD i default)=1099511627776:=by
    obtain⟨h4,h5⟩:=h;unfold vg at h5 ⊢;rw[h4]at h5 ⊢;exact aly h5
   omega
 ·rw[OB hN];congr 1;rw[<- hJ];unfold Gf Au;congr 1
  ·congr 1
   ·refine jv _ λi hi=>?_;rw[e1 i hi];split
    ·rfl
    ·rename_i h;exact absurd (.inl ⟨i,hi,by rw[e1 i hi,if_neg h]⟩) hN
   ·refine jv _ λi hi=>?_;rw[e2 i hi];split
    ·rfl
    ·rename_i h;exact absurd (.inr (.inl ⟨i,hi,by rw[e2 i hi,if_neg h]⟩)) hN
  ·exact jv _ λi hi=>e3 i hi
def JI:∀ (l:List Nm) (t:List Bool) (b:Int×Bool),cW l t b=b\/∃ i,i<l.length/\t.getD i false=true/\(l.getD i default).2=false/\cW l t b=((l.getD i default).1,true)
 |[],t,b=>.inl (by cases t<;>rfl)
 |p::r,[],b=>.inl rfl
 |p::r,is::t,b=>by
  rw[cW];split
  ·rename_i hc;rcases JI r t (p.1,true) with h|⟨i,h1,h2,h3,h4⟩
   ·exact .inr ⟨0,G9,by simpa using hc.1,by simpa using hc.2.1,by rw[h];simp⟩
   ·exact .inr ⟨i+1,by simpa using h1,by simpa using h2,by simpa using h3,by rw[h4];simp⟩
  ·rcases JI r t b with h|⟨i,h1,h2,h3,h4⟩
   ·exact .inl h
   ·exact .inr ⟨i+1,by simpa using h1,by simpa using h2,by simpa using h3,by rw[h4];simp⟩
def acz{l:List Nm}{s t:List Bool}(h:∀ j,t.getD j false=true->s.getD j false=true)(h2:(cW l t (0,false)).2=true):(cW l s (0,false)).2=true/\(cW l s (0,false)).1<=(cW l t (0,false)).1:=by
 rcases JI l t (0,false) with h3|⟨i,h1,h3,h4,h5⟩
 ·rw[h3]at h2;cases h2
 ·rw[h5];exact abu l s _ i h1 (h i h3) h4
def alC{l:List Nm}{t:List Bool}(h2:(cW l t (0,false)).2=true):∃i,t.getD i false=true:=by
 rcases JI l t (0,false) with h3|⟨i,h1,h3,h4,h5⟩
 ·rw[h3]at h2;cases h2
 ·exact⟨i,h3⟩
def JJ(l:List Ld)(c:Int):∀ (row:List Bool) (o:Nat) (b:Int),ef l c o row b=b\/∃ i,row.getD i false=true/\ef l c o row b=gy l c (o+i:Nat) 0
 |[],_,_=>.inl rfl
 |is::r,o,b=>by
  rw[ef];split
  ·rename_i hc;rcases JJ l c r (o+1) (gy l c o 0) with h|⟨i,h1,h2⟩
   ·exact .inr ⟨0,by simpa using hc.1,by rw[h];rfl⟩
   ·exact .inr ⟨i+1,by simpa using h1,by rw[h2,show o+1+i=o+(i+1) by omega]⟩
  ·rcases JJ l c r (o+1) b with h|⟨i,h1,h2⟩
   ·exact .inl h
   ·exact .inr ⟨i+1,by simpa using h1,by rw[h2,show o+1+i=o+(i+1) by omega]⟩
def OS{l:List Ld}(h:∀ x∈l,1<=x.wt/\x.wt<=1000)(c:Int):∀ (row:List Bool) (o:Nat) (b:Int) (i:Nat),row.getD i false=true->0<=ef l c o row b
 |[],_,b,i,hi=>by simp at hi
 |is::r,o,b,0,hi=>by
  rw[jc]at hi;have hw:=BT h c o 0 Ey;rw[ef];split
  ·exact(D0 h c r (o+1) _ hw.1).1
  ·rename_i hc;have hb:0<=b:=by
    rcases Int.lt_or_le b 0 with h2|h2
    ·exact absurd ⟨hi,.inl h2⟩ hc
    ·exact h2
   exact(D0 h c r (o+1) b hb).1
 |is::r,o,b,i+1,hi=>by
  rw[gB]at hi;rw[ef];exact OS h c r (o+1) _ i hi
def alD{l:List Ld}(h:∀ x∈l,1<=x.wt/\x.wt<=1000){c:Int}{s t:List Bool}(hs:∀ j,t.getD j false=true->s.getD j false=true)(ht :∃j,t.getD j false=true):k9 l c s<=k9 l c t:=by
 obtain⟨j,hj⟩:=ht;have h1:=OS h c t 0 (-1) j hj;unfold k9;rcases JJ l c t 0 (-1) with h2|⟨i,h2,h3⟩
 ·omega
 ·have:=Jv h c s 0 (-1) i (hs i h2);omega
def OT(y x:List (List Bool)):Prop:=∀ i j,(y.getD i default).getD j false=true->(x.getD i default).getD j false=true
def alE{m:ah}(hm:VM m){x y:List (List Bool)}(hx:cK m x)(hy:cK m y)(h:OT y x){i:Nat}(hi:i<m.ae.length)(j:Nat)(hj:(jb m y i).getD j false=true):(jb m x i).getD j false=true:=by
 have dY:=kC hm.pr _ (aF (l:=m.ae) (i:=i) (d:=default) hi);obtain⟨q1,q2,q3,q4,q5⟩:=rZ dY;have a1:=hx.2 (m.ae.getD i default).fst.toNat (by have:=hx.1;omega);have a2:=hx.2 (m.ae.getD i default).snd.toNat (by have:=hx.1;omega);have b1:=hy.2 (m.ae.getD i default).fst.toNat (by have:=hy.1;omega);have b2:=hy.2 (m.ae.getD i default).snd.toNat (by have:=hy.1;omega);have s1:=h (m.ae.getD i default).fst.toNat;have s2:=h (m.ae.getD i default).snd.toNat;unfold jb at *;generalize y.getD (m.ae.getD i default).fst.toNat default=ya at *;generalize y.getD (m.ae.getD i default).snd.toNat default=yb at *;generalize x.getD (m.ae.getD i default).fst.toNat default=xa at *;generalize x.getD (m.ae.getD i default).snd.toNat default=xb at *;by_cases aX:j<ya.length*yb.length
 ·rw[FY _ _ _ aX,bc]at hj;rw[FY _ _ _ (by rw[a1,a2,<- b1,<- b2];exact aX),a2,<- b2,s1 _ hj.1,s2 _ hj.2];rfl
 ·rw[ay,dN (by rw[DQ];omega)]at hj;cases hj
def alF{m:ah}(hm:VM m){x y:List (List Bool)}(hx:cK m x)(hy:cK m y)(h:OT y x)(g:Lg):mL m x g<=mL m y g:=by
 by_cases hn:Jt m y g
 ·rw[abw hn];exact akx m x g
 have e1:∀ i,i<m.cls.length->(tQ y g i).2=true:=λi hi=>by
  cases hz:(tQ y g i).2 with
  |true=>rfl
  |false=>exact absurd (.inl ⟨i,hi,hz⟩) hn
 have e2:∀ i,i<m.ae.length->(tR m y g i).2=true:=λi hi=>by
  cases hz:(tR m y g i).2 with
  |true=>rfl
  |false=>exact absurd (.inr (.inl ⟨i,hi,hz⟩)) hn
 have e3:∀ i,i<m.aE.length->(qn m y i).2=true:=λi hi=>by
  cases hz:(qn m y i).2 with
  |true=>rfl
  |false=>exact absurd (.inr (.inr ⟨i,hi,hz⟩)) hn
 have f1:∀ i,i<m.cls.length->(tQ x g i).2=true/\(tQ x g i).1<=(tQ y g i).1:=λi hi=>acz (h i) (e1 i hi);have f2:∀ i,i<m.ae.length->(tR m x g i).2=true/\(tR m x g i).1<=(tR m y g i).1:=λi hi=>acz (alE hm hx hy h hi) (e2 i hi);have f3:∀ i,i<m.aE.length->ju x (m.aE.getD i default)<=ju y (m.aE.getD i default):=λi hi=>by
  obtain⟨_,_,q3,q4⟩:=u6 (hm.ct _ (aF (l:=m.aE) (i:=i) (d:=default) hi));have hw:∀ z∈(m.aE.getD i default).bd,1<=z.wt/\z.wt<=1000:=λz hz=>(xQ q4 z hz).2;refine ai3 (wC q3).1 ?_;rw[BU,BU,hx.1,hy.1];have:=Gq (f:=λj=>k9 (m.aE.getD i default).bd (0+j:Nat) (x.getD j [])) (g:=λj=>k9 (m.aE.getD i default).bd (0+j:Nat) (y.getD j [])) m.cls.length λj hj=>alD hw (h j) (alC (e1 j hj));omega
 have f4:∀ i,i<m.aE.length->(qn m x i).2=true:=λi hi=>by
  have h1:=e3 i hi;have h2:=f3 i hi;unfold qn at h1 ⊢;dsimp only at h1 ⊢;rw[Bool.not_eq_true',Bool.and_eq_false_iff,decide_eq_false_iff_not,decide_eq_false_iff_not]at h1 ⊢;rcases h1 with h1|h1
  ·exact .inl h1
  ·exact .inr Ey
 rw[OB hn,OB]
 ·have s1:=Gq m.cls.length λi hi=>(f1 i hi).2;have s2:=Gq m.ae.length λi hi=>(f2 i hi).2;have s3:bQ (λi=>(qn m x i).1) m.aE.length<=bQ (λi=>(qn m y i).1) m.aE.length:=Gq m.aE.length λi hi=>f3 i hi;unfold Gf;omega
 ·rintro(⟨i,hi,hz⟩|⟨i,hi,hz⟩|⟨i,hi,hz⟩)
  ·rw[(f1 i hi).1]at hz;cases hz
  ·rw[(f2 i hi).1]at hz;cases hz
  ·rw[f4 i hi]at hz;cases hz
def qq:List Int->List Bool->Int->Int
 |x::r,b::s,n=>qq r s (if b=true then min n x else n)
 |_,_,n=>n
def JK(aB:List Int)(w i:Nat)(a:Bool):Nat->List Bool->Int->Int
 |_,[],n=>n
 |k,b::r,n=>JK aB w i a (k+1) r (if a=true/\b=true then min n (aB.getD (i*w+k) 0) else n)
def JL(aB:List Int)(w:Nat)(rb:List Bool):Nat->List Bool->Int->Int
 |_,[],n=>n
 |i,a::r,n=>JL aB w rb (i+1) r (JK aB w i a 0 rb n)
def JM(m:ah)(left:List (List Bool))(p:Pr):Int:=JL p.aB (m.cls.getD p.snd.toNat default).length (left.getD p.snd.toNat default) 0 (left.getD p.fst.toNat default) 1099511627776
def x9:List Bool->Int->Int
 |[],n=>n
 |b::r,n=>x9 r (if b=true then n+1 else n)
def qt(c:Int)(row:List Bool):List Ld->Int×Int->Int×Int
 |[],z=>z
 |x::r,z=>qt c row r (if x.cls=c/\row.getD x.opt.toNat false=true then(z.1-1,if z.2<0\/x.wt<z.2 then x.wt else z.2) else z)
def Aw(l:List Ld)(c:Int)(row:List Bool):Int:=if 0<(qt c row l (x9 row 0,-1)).1\/(qt c row l (x9 row 0,-1)).2<0 then 0 else(qt c row l (x9 row 0,-1)).2
def D7(l:List Ld)(left:List (List Bool)):Option Int->List Ld->Int->Int
 |_,[],n=>n
 |q,x::r,n=>D7 l left (some x.cls) r (if q=some x.cls then n else n+Aw l x.cls (left.getD x.cls.toNat default))
def acA(n cA:Int):Int:=if 0<n/\cA=1099511627776 then 1099511627776 else min (n*cA) 1099511627776
def Gr(left:List (List Bool))(c:Ct):Int:=acA (max (D7 c.bd left none c.bd (-c.most)) 0) c.cA
def JN(left:List (List Bool)):Nat->List (List cP)->Int->Option Int
 |_,[],n=>some n
 |i,c::r,n=>if qq (cj c) (left.getD i default) 1099511627776=1099511627776 then none else JN left (i+1) r (n+qq (cj c) (left.getD i default) 1099511627776)
def Gs(m:ah)(left:List (List Bool)):List Pr->Int->Option Int
 |[],n=>some n
 |p::r,n=>if JM m left p=1099511627776 then none else Gs m left r (n+JM m left p)
def Gt(left:List (List Bool)):List Ct->Int->Option Int
 |[],n=>some n
 |c::r,n=>if Gr left c=1099511627776 then none else Gt left r (n+Gr left c)
def Gu:Option Int->Int
 |none=>1099511627776
 |some n=>min n 1099511627776
def Gv(m:ah)(left:List (List Bool)):Option Int->Option Int
 |none=>none
 |some n=>Gt left m.aE n
def JO(m:ah)(left:List (List Bool)):Option Int->Option Int
 |none=>none
 |some n=>Gs m left m.ae n
def D6(m:ah)(left:List (List Bool)):Int:=Gu (Gv m left (JO m left (JN left 0 m.cls 0)))
def yd(q:Int×Bool):Int:=if q.2=true then q.1 else 1099511627776
def OU:∀ (l:List Int) (s:List Bool) (b:Int×Bool),(∀ x∈l,bX x)->(b.2=true->b.1<1099511627776) ->
  yd (cW (dL l) s b)=qq l s (yd b)/\((cW (dL l) s b).2=true->(cW (dL l) s b).1<1099511627776)
 |[],s,b,_,hb=>⟨by cases s<;>rfl,hb⟩
 |x::r,[],b,_,hb=>⟨rfl,hb⟩
 |x::r,is::s,b,h,hb=>by
  have hx:=h x G9;unfold bX at hx;rw[show dL (x::r)=e8 x::dL r from rfl,cW,qq];have key:yd (if is=true/\(e8 x).2=false/\(b.2=false\/(e8 x).1<b.1) then((e8 x).1,true) else b)=(if is=true then min (yd b) x else yd b):=by
   obtain⟨b1,b2⟩:=b;unfold e8 yd;dsimp only at hb ⊢;cases is<;>cases b2<;>simp at hb ⊢<;>(repeat' split)<;>simp_all<;>omega
  have:=OU r s (if is=true/\(e8 x).2=false/\(b.2=false\/(e8 x).1<b.1) then((e8 x).1,true) else b) (λy hy=>h y (by simp[hy])) (by
   split
   ·rename_i hc;intro _;have:=hc.2.1;unfold e8 at this ⊢;simp at this;exact this
   ·exact hb)
  rw[key]at this;exact this
def acB:∀ (l:List Int) (s t:List Bool) (n:Int),s.length<=l.length->qq l (s++t) n=qq (l.drop s.length) t (qq l s n)
 |l,[],t,n,_=>by cases l<;>rfl
 |[],b::s,t,n,h=>by simp at h
 |x::r,b::s,t,n,h=>by
  rw[List.cons_append,qq,qq,du,List.drop_succ_cons];exact acB r s t _ (by simpa using h)
def acC(aB:List Int)(w i:Nat)(a:Bool):∀ (r:List Bool) (k:Nat) (n:Int),i*w+k+r.length<=aB.length->JK aB w i a k r n=qq (aB.drop (i*w+k)) (r.map (a && ·)) n
 |[],k,n,_=>by cases(aB.drop (i*w+k))<;>rfl
 |b::r,k,n,h=>by
  have aX:i*w+k<aB.length:=by simp at h;omega
  have hd:aB.drop (i*w+k)=aB.getD (i*w+k) 0::aB.drop (i*w+(k+1)):=by
   rw[List.drop_eq_getElem_cons aX,ay,List.getElem?_eq_getElem aX];rfl
  rw[JK,hd,ez,qq,acC aB w i a r (k+1) _ (by simp at h;omega)];congr 1;cases a<;>cases b<;>simp
def acD(aB:List Int)(w:Nat)(rb:List Bool)(hw:rb.length=w):∀ (r:List Bool) (i:Nat) (n:Int),i*w+r.length*w<=aB.length->JL aB w rb i r n=qq (aB.drop (i*w)) (sK r rb) n
 |[],i,n,_=>by show n=qq _ [] n;cases(aB.drop (i*w))<;>rfl
 |a::r,i,n,h=>by
  have h2:i*w+(r.length+1)*w<=aB.length:=h;rw[gn,wX]at h2;rw[JL,acC aB w i a rb 0 n Ey,acD aB w rb hw r (i+1) _ (by rw[gn];omega)];show _=qq _ (rb.map (a && ·)++sK r rb) n;rw[acB _ _ _ _ (by rw[gD,List.length_drop];omega),List.drop_drop,gD,hw,gn,wX];simp only[Nat.add_zero]
def j9:List (Int×Bool)->Int->Option Int
 |[],n=>some n
 |p::r,n=>if p.2=false then none else j9 r (n+p.1)
def JP:∀ (l:List (Int×Bool)) (n:Int),j9 l n=if(bV l (n,false)).2=true then none else some (bV l (n,false)).1
 |[],n=>rfl
 |p::r,n=>by
  rw[j9];obtain⟨a,b⟩:=p;cases b
  ·show none=if(bV r (n+a,true)).2=true then none else _;rw[Gc,if_pos rfl]
  ·exact JP r (n+a)
def acE{m:ah}(hm:VM m)(left:List (List Bool)):∀ (k i:Nat) (n:Int),i+k=m.cls.length->JN left i (m.cls.drop i) n=j9 ((mU i k).map λj=>cW ((S0 m).getD j default) (left.getD j default) (0,false)) n
 |0,i,n,h=>by rw[jL Ey];rfl
 |k+1,i,n,h=>by
  have hi:i<m.cls.length:=Ey;have hs:(S0 m).getD i default=dL (cj (m.cls.getD i default)):=by rw[S0,kD _ _ _ hi]
  have h2:=OU (cj (m.cls.getD i default)) (left.getD i default) (0,false) (λx hx=>by
   obtain⟨o,ho,rfl⟩:=List.mem_map.1 hx;exact FJ (hm.tA _ (aF hi) o ho)) G9
  rw[show yd (0,false)=1099511627776 from rfl]at h2;rw[kR m.cls i default hi,JN,wV,ez,j9,acE hm left k (i+1) _ Ey,hs,<- h2.1];generalize cW (dL (cj (m.cls.getD i default))) (left.getD i default) (0,false)=q at *;obtain⟨a,b⟩:=q;unfold yd at *;cases b<;>simp at h2 ⊢;intro e;omega
def acF{m:ah}(hm:VM m){left:List (List Bool)}(hf:cK m left):∀ (k i:Nat) (n:Int),i+k=m.ae.length->Gs m left (m.ae.drop i) n=j9 ((mU i k).map λj=>cW ((T0 m).getD j default) (jb m left j) (0,false)) n
 |0,i,n,h=>by rw[jL Ey];rfl
 |k+1,i,n,h=>by
  have hi:i<m.ae.length:=Ey;have hs:(T0 m).getD i default=dL (m.ae.getD i default).aB:=by rw[T0,kD _ _ _ hi]
  have dY:=kC hm.pr _ (aF (d:=default) hi);obtain⟨_,p1,p2,p3,p4⟩:=rZ dY;have f1:=hf.2 (m.ae.getD i default).fst.toNat (by rw[hf.1];omega);have f2:=hf.2 (m.ae.getD i default).snd.toNat (by rw[hf.1];omega);have h2:=OU (m.ae.getD i default).aB (jb m left i) (0,false) (IY dY) G9;rw[show yd (0,false)=1099511627776 from rfl]at h2;have h3:JM m left (m.ae.getD i default)=qq (m.ae.getD i default).aB (jb m left i) 1099511627776:=by
   unfold JM jb;rw[acD _ _ _ f2 _ 0 _ (by rw[G8,gR,f1];have:=p4;exact_mod_cast Int.le_of_eq this.symm),G8,AN]
  rw[kR m.ae i default hi,Gs,wV,ez,j9,acF hm hf k (i+1) _ Ey,hs,h3,<- h2.1];generalize cW (dL (m.ae.getD i default).aB) (jb m left i) (0,false)=q at *;obtain⟨a,b⟩:=q;unfold yd at *;cases b<;>simp at h2 ⊢;intro e;omega
def acG{f:Nat->Int}:∀ {n:Nat},(∀ i<n,0<=f i)->(0<=bQ f n/\(0<bQ f n↔∃ i,i<n/\0<f i))
 |0,_=>by simp[bQ]
 |n+1,h=>by
  obtain⟨h1,h2⟩:=acG (n:=n) λi hi=>h i Ey;have h3:=h n Ey;rw[bQ];refine⟨Ey,λh4=>?_,?_⟩
  ·by_cases h5:0<bQ f n
   ·obtain⟨i,hi,hf⟩:=h2.1 h5;exact⟨i,Ey,hf⟩
   ·exact⟨n,Ey,Ey⟩
  ·rintro⟨i,hi,hf⟩;by_cases e:i=n
   ·subst e;omega
   ·have:=h2.2 ⟨i,Ey,hf⟩;omega
def acH(f g:Nat->Int):∀ n,bQ f n-bQ g n=bQ (λi=>f i-g i) n
 |0=>rfl
 |n+1=>by rw[bQ,bQ,bQ,<- acH f g n];omega
def acI:∀ (row:List Bool) (n:Int),x9 row n=n+bQ (λo=>if row.getD o false=true then 1 else 0) row.length
 |[],n=>by simp[x9,bQ]
 |b::r,n=>by
  rw[x9,acI r,du,Ah];simp only[jc,gB];split<;>omega
def OV{m:ah}{q:Option Ld}{x:Ld}{r:List Ld}(h:eZ m q (x::r)=true):eZ m (some x) r=true:=by
 cases q<;>rw[eZ]at h<;>simp only[bc]at h<;>exact h.2
open Classical in
def acJ{m:ah}(c:Int)(row:List Bool):∀ {l:List Ld} {q:Option Ld},eZ m q l=true->∀ z:Int×Int,
  (qt c row l z).1=z.1-bQ (λo=>if row.getD o false=true/\∃ x∈l,x.cls=c/\x.opt=(o:Int) then 1 else 0) row.length
 |[],_,_,z=>by
  rw[jv (g:=λ_=>0) _ λi _=>G9];have:∀ n,bQ (λ_=>0) n=0:=λn=>by induction n with|zero=>rfl|succ n ih=>rw[bQ,ih];rfl
  rw[this,qt];omega
 |x::r,q,h,z=>by
  have hr:=OV h;have hx:=(k0.1 (xQ h x G9).1).2.2.1;rw[qt,acJ c row hr];by_cases hc:x.cls=c/\row.getD x.opt.toNat false=true
  ·rw[if_pos hc];have hk:x.opt.toNat<row.length:=by
    rcases dT x.opt.toNat row.length with h'|h'
    ·exact h'
    ·rw[ay,dN h']at hc;simp at hc
   rw[jv (f:=λo=>if row.getD o false=true/\∃ y∈x::r,y.cls=c/\y.opt=(o:Int) then 1 else 0) (g:=λo=>if o=x.opt.toNat then(if row.getD o false=true/\∃ y∈r,y.cls=c/\y.opt=(o:Int) then 1 else 0)+1 else(if row.getD o false=true/\∃ y∈r,y.cls=c/\y.opt=(o:Int) then 1 else 0)) _ λo _=>by
    by_cases e:o=x.opt.toNat
    ·subst e;rw[if_pos ⟨hc.2,x,G9,hc.1,Ey⟩,if_pos rfl,if_neg (by rintro⟨_,y,hy,h1,h2⟩;have:=An hr y hy;omega)];rfl
    ·rw[if_neg e];congr 1;rw[eq_iff_iff];refine and_congr_right λ_=>⟨?_,λ⟨y,hy,h1⟩=>⟨y,by simp[hy],h1⟩⟩;rintro⟨y,hy,h1,h2⟩;rcases bu.1 hy with rfl|hy
     ·omega
     ·exact⟨y,hy,h1,h2⟩,Ag,if_pos hk]
   dsimp only;omega
  ·rw[if_neg hc];rw[jv (f:=λo=>if row.getD o false=true/\∃ y∈x::r,y.cls=c/\y.opt=(o:Int) then 1 else 0) (g:=λo=>if row.getD o false=true/\∃ y∈r,y.cls=c/\y.opt=(o:Int) then 1 else 0) _ λo _=>by
    congr 1;rw[eq_iff_iff];refine and_congr_right λy7=>⟨?_,λ⟨y,hy,h1⟩=>⟨y,by simp[hy],h1⟩⟩;rintro⟨y,hy,h1,h2⟩;rcases bu.1 hy with rfl|hy
    ·exact absurd ⟨h1,by rw[h2,dg];exact y7⟩ hc
    ·exact⟨y,hy,h1,h2⟩]
def acK(c:Int)(row:List Bool):∀ {l:List Ld},(∀ x∈l,1<=x.wt)->∀ z:Int×Int,
  (∀ x∈l,x.cls=c/\row.getD x.opt.toNat false=true->0<=(qt c row l z).2/\(qt c row l z).2<=x.wt)/\(0<=z.2->0<=(qt c row l z).2/\(qt c row l z).2<=z.2) /\
   ((qt c row l z).2=z.2\/∃ x∈l,(x.cls=c/\row.getD x.opt.toNat false=true)/\(qt c row l z).2=x.wt)
 |[],_,z=>⟨G9,λh=>⟨h,nD _⟩,.inl rfl⟩
 |x::r,h,z=>by
  obtain⟨h1,h2,h3⟩:=acK c row (l:=r) (λy hy=>h y (by simp[hy])) (if x.cls=c/\row.getD x.opt.toNat false=true then(z.1-1,if z.2<0\/x.wt<z.2 then x.wt else z.2) else z);have hx:=h x G9;rw[qt];generalize qt c row r _=w at *;by_cases hc:x.cls=c/\row.getD x.opt.toNat false=true
  ·rw[if_pos hc]at h2 h3;dsimp only at h2 h3;refine⟨λy hy Bm=>?_,λhz=>?_,?_⟩
   ·rcases bu.1 hy with rfl|hy
    ·split at h2<;>omega
    ·exact h1 y hy Bm
   ·split at h2<;>omega
   ·rcases h3 with h3|⟨y,hy,h3⟩
    ·split at h3
     ·exact .inr ⟨x,G9,hc,h3⟩
     ·exact .inl h3
    ·exact .inr ⟨y,by simp[hy],h3⟩
  ·rw[if_neg hc]at h2 h3;refine⟨λy hy Bm=>?_,h2,?_⟩
   ·rcases bu.1 hy with rfl|hy
    ·exact absurd Bm hc
    ·exact h1 y hy Bm
   ·rcases h3 with h3|⟨y,hy,h3⟩
    ·exact .inl h3
    ·exact .inr ⟨y,by simp[hy],h3⟩
def OW{m:ah}:∀ {l:List Ld} {q:Option Ld},eZ m q l=true->∀ x∈l,∀ w,gy l x.cls x.opt w=x.wt
 |[],_,_,x,hx,w=>by simp at hx
 |y::r,q,h,x,hx,w=>by
  have hr:=OV h;rw[gy];rcases bu.1 hx with rfl|hx
  ·rw[if_pos ⟨rfl,rfl⟩];exact Ju r _ _ _ λz hz he=>by have:=An hr z hz;omega
  ·exact OW hr x hx _
open Classical in
def alG{m:ah}{l:List Ld}{q:Option Ld}(hl:eZ m q l=true)(c:Int)(row:List Bool):Aw l c row=k9 l c row:=by
 have hw:∀ x∈l,1<=x.wt/\x.wt<=1000:=λx hx=>(xQ hl x hx).2;have h1:=acJ c row hl (x9 row 0,-1);obtain⟨h2,_,h3⟩:=acK c row (λx hx=>(hw x hx).1) (x9 row 0,-1);unfold Aw;generalize qt c row l (x9 row 0,-1)=z at *;rw[acI,CP,acH]at h1;obtain⟨h4,h5⟩:=acG (f:=λi=>(if row.getD i false=true then(1:Int) else 0)-if row.getD i false=true/\∃ x∈l,x.cls=c/\x.opt=(i:Int) then 1 else 0) (n:=row.length) λi _=>by
  (repeat' split)<;>simp_all
 rw[<- h1]at h4 h5;have hlen:∀ i,row.getD i false=true->i<row.length:=λi h'=>by
  rcases dT i row.length with h6|h6
  ·exact h6
  ·rw[ay,dN h6]at h';simp at h'
 have nq:∀ x∈l,0<=x.opt:=λx hx=>(k0.1 (xQ hl x hx).1).2.2.1;by_cases hex :∃o,row.getD o false=true/\¬∃x∈l,x.cls=c/\x.opt=(o:Int)
 ·obtain⟨o,ho,iz⟩:=hex;rw[if_pos (.inl (h5.2 ⟨o,hlen o ho,by rw[if_pos ho,if_neg (by rintro⟨_,h'⟩;exact iz h')];decide⟩))];have h6:=Jv hw c row 0 (-1) o ho;rw[gR,Ju l c o 0 λy hy he=>iz ⟨y,hy,he⟩]at h6;unfold k9;omega
 have dS:∀ o,row.getD o false=true->∃ x∈l,x.cls=c/\x.opt=(o:Int):=λo ho=>Classical.byContradiction λh'=>hex ⟨o,ho,h'⟩;have hz:¬ 0<z.1:=λh'=>by
  obtain⟨i,hi,h6⟩:=h5.1 h';by_cases hr:row.getD i false=true
  ·rw[if_pos hr,if_pos ⟨hr,dS i hr⟩]at h6;omega
  ·rw[if_neg hr,if_neg (λh7=>hr h7.1)]at h6;omega
 by_cases yL :∃o,row.getD o false=true
 ·obtain⟨o,ho⟩:=yL;obtain⟨x,hx,vX,xY⟩:=dS o ho;obtain⟨g1,g2⟩:=h2 x hx ⟨vX,by rw[xY,dg];exact ho⟩;rw[if_neg Ey];have g3:=OS hw c row 0 (-1) o ho;unfold k9;rw[Int.max_eq_left g3];refine Int.le_antisymm ?_ ?_
  ·rcases JJ l c row 0 (-1) with e|⟨i,hi,e⟩
   ·omega
   ·obtain⟨y,hy,rW,hyo⟩:=dS i hi;rw[e,gR,<- hyo,<- rW,OW hl y hy];exact(h2 y hy ⟨rW,by rw[hyo,dg];exact hi⟩).2
  ·rcases h3 with e|⟨y,hy,⟨rW,Dp⟩,e⟩
   ·dsimp only at e;omega
   ·have h6:=Jv hw c row 0 (-1) _ Dp;rw[gR,w9 (nq y hy),<- rW,OW hl y hy]at h6;rw[<- rW];omega
 ·have e:z.2 = -1:=by
   rcases h3 with e|⟨y,hy,⟨rW,Dp⟩,e⟩
   ·exact e
   ·exact absurd ⟨_,Dp⟩ yL
  rw[if_pos (.inr Ey),k9,OC l c row 0 (-1) λi=>by
   cases h':row.getD i false with
   |false=>rfl
   |true=>exact absurd ⟨i,h'⟩ yL]
  rfl
open Classical in
def acM{m:ah}(L:List Ld)(left:List (List Bool)){N:Nat}(hN:m.cls.length<=N):∀ {r:List Ld} {q:Option Ld},eZ m q r=true->∀ n:Int,
  D7 L left (q.map (·.cls)) r n=n+bQ (λj=>if(∃ x∈r,x.cls=(j:Int))/\q.map (·.cls)≠some (j:Int) then Aw L j (left.getD j default) else 0) N
 |[],_,_,n=>by
  rw[jv (g:=λ_=>0) _ λi _=>G9];have:∀ n,bQ (λ_=>0) n=0:=λn=>by induction n with|zero=>rfl|succ n ih=>rw[bQ,ih];rfl
  rw[this,D7];omega
 |x::r,q,h,n=>by
  have hr:=OV h;obtain⟨hx0,hx1,_⟩:=k0.1 (xQ h x G9).1;have h0:=acM L left hN hr;simp only[fc]at h0;rw[D7,h0];by_cases hq:q.map (·.cls)=some x.cls
  ·rw[if_pos hq,hq];congr 1;refine jv _ λj _=>?_;congr 1;rw[eq_iff_iff];simp only[ne_eq,cH.injEq];refine and_congr_left λhj=>⟨λ⟨y,hy,e⟩=>⟨y,by simp[hy],e⟩,?_⟩;rintro⟨y,hy,e⟩;rcases bu.1 hy with rfl|hy
   ·exact absurd e hj
   ·exact⟨y,hy,e⟩
  ·rw[if_neg hq,jv (f:=λj=>if(∃ y∈x::r,y.cls=(j:Int))/\q.map (·.cls)≠some (j:Int) then Aw L j (left.getD j default) else 0)
    (g:=λj=>if j=x.cls.toNat then(if(∃ y∈r,y.cls=(j:Int))/\some x.cls≠some (j:Int) then Aw L j (left.getD j default) else 0)+Aw L x.cls (left.getD x.cls.toNat default) else(if(∃ y∈r,y.cls=(j:Int))/\some x.cls≠some (j:Int) then Aw L j (left.getD j default) else 0)) _ λj _=>by
    have JQ:((x.cls.toNat:Nat):Int)=x.cls:=w9 hx0;by_cases e:j=x.cls.toNat
    ·subst e;rw[if_pos ⟨⟨x,G9,JQ.symm⟩,by rw[JQ];exact hq⟩,if_pos rfl,if_neg (by rw[JQ];simp),JQ];omega
    ·rw[if_neg e];congr 1;rw[eq_iff_iff];constructor
     ·rintro⟨⟨y,hy,OX⟩,_⟩;rcases bu.1 hy with rfl|hy
      ·omega
      ·exact⟨⟨y,hy,OX⟩,by simp only[ne_eq,cH.injEq];omega⟩
     ·rintro⟨⟨y,hy,OX⟩,_⟩;refine⟨⟨y,by simp[hy],OX⟩,λhqj=>?_⟩;cases q with
      |none=>simp at hqj
      |some q =>
       have h6:=An h y (by simp[hy]);have h7:=An h x G9;have h8:=An hr y hy;simp only[fc,cH.injEq]at hqj hq;omega,Ag,if_pos Ey]
   omega
def alH{m:ah}(hm:VM m){left:List (List Bool)}(hf:cK m left){c:Ct}(hc:jW m c=true):
  Gr left c=ju left c/\(Gr left c=1099511627776↔(decide (c.cA=1099511627776)&&decide (0<ju left c))=true):=by
 obtain⟨_,q2,q3,q4⟩:=u6 hc;have hw:∀ x∈c.bd,1<=x.wt/\x.wt<=1000:=λx hx=>(xQ q4 x hx).2;have hs:D7 c.bd left none c.bd (-c.most) = -c.most+kE c.bd 0 left 0:=by
  have:=acM (m:=m) c.bd left (Nat.le_refl _) (q:=none) q4 (-c.most);rw[Option.map_none]at this;rw[this,BU,CP,hf.1];congr 1;refine jv _ λj _=>?_;rw[gR];split
  ·exact alG q4 _ _
  ·rename_i hn;rw[aaa λx hx e=>hn ⟨⟨x,hx,e⟩,G9⟩]
 have hr:=FG hw left;have OY:=hm.cls;rw[hf.1]at hr;unfold Gr ju;rw[hs];generalize kE c.bd 0 left 0=s at *;unfold acA l7;unfold jV at q3;rw[decide_eq_true_eq]at q3;by_cases h0:s<=c.most
 ·rw[Int.max_eq_right Ey,if_neg Ey,if_pos h0];simp<;>omega
 rw[Int.max_eq_left Ey,if_neg h0,show -c.most+s=s-c.most by omega];rcases q3 with q3|q3
 ·rw[if_neg Ey];have h1:(s-c.most)*c.cA<=24000*1048576:=Int.mul_le_mul Ey Ey Ey Ey;refine⟨rfl,?_⟩;rw[decide_eq_false (by omega:¬ c.cA=1099511627776),Bool.false_and];constructor
  ·intro h;omega
  ·intro h;simp at h
 ·rw[q3,if_pos ⟨Ey,rfl⟩,show min ((s-c.most)*1099511627776) 1099511627776=(1099511627776:Int) by omega];simp
def acO{m:ah}(hm:VM m){left:List (List Bool)}(hf:cK m left):∀ (k i:Nat) (n:Int),i+k=m.aE.length->Gt left (m.aE.drop i) n=j9 ((mU i k).map λj=>qn m left j) n
 |0,i,n,h=>by rw[jL Ey];rfl
 |k+1,i,n,h=>by
  have hi:i<m.aE.length:=Ey;obtain⟨h1,h2⟩:=alH hm hf (hm.ct _ (aF (d:=default) hi));rw[kR m.aE i default hi,Gt,wV,ez,j9,acO hm hf k (i+1) _ Ey];unfold qn;dsimp only;rw[h1]at h2 ⊢;by_cases h3:ju left (m.aE.getD i default)=1099511627776
  ·rw[if_pos h3,h2.1 h3];rfl
  ·rw[if_neg h3];cases hb:(decide ((m.aE.getD i default).cA=1099511627776)&&decide (0<ju left (m.aE.getD i default))) with
   |true=>exact absurd (h2.2 hb) h3
   |false=>rfl
def acs{m:ah}(hm:VM m){left:List (List Bool)}(hf:cK m left):D6 m left=mL m left (S0 m,T0 m):=by
 have h1:=acE hm left m.cls.length 0 0 Ey;have h2:=λn=>acF hm hf m.ae.length 0 n Ey;have h3:=λn=>acO hm hf m.aE.length 0 n Ey;simp only[AN,<- List.range_eq_range']at h1 h2 h3;unfold D6 mL;rw[h1];show Gu (Gv m left (JO m left (j9 (PC left (S0 m) m.cls.length) 0)))=_;have h2':∀ n,Gs m left m.ae n=j9 (PP m left (T0 m) m.ae.length) n:=h2;have OZ:∀ n,Gt left m.aE n=j9 (PK m left m.aE.length) n:=h3;rw[JP];generalize bV (PC left (S0 m) m.cls.length) (0,false)=z;obtain⟨a,b⟩:=z;cases b
 ·simp only[JO,h2',JP,jB,if_false];generalize bV (PP m left (T0 m) m.ae.length) (a,false)=z;obtain⟨a2,b2⟩:=z;cases b2
  ·simp only[Gv,OZ,JP,jB,if_false];generalize bV (PK m left m.aE.length) (a2,false)=z;obtain⟨a3,b3⟩:=z;cases b3<;>simp[Gu]
  ·simp only[if_true,Gv,Gu,Gc]
 ·simp only[if_true,JO,Gv,Gu];have:∀ l n,(bV l (n,true))=((bV l (n,true)).1,true):=λl n=>Prod.ext rfl (Gc l n);rw[this,this (PK m left m.aE.length)];rfl
end T

