import Derived.Test.YtfoopmojjjpapaaGreatX30
set_option linter.all false
set_option maxHeartbeats 0
set_option maxRecDepth 20000
open List renaming replicate→aK,getD_eq_getElem?_getD→ay,getElem?_replicate_of_lt→K4,length_replicate→nx,append_assoc→bH,count_append→ue,take_zero→mu,append_nil→n9,take_length→xd,getElem_of_mem→kr,getElem?_eq_getElem→bx,all_eq_true→gA,take_append_drop→Eu,count_pos_iff→QU,mem_map→bY
open Int renaming toNat_natCast→dg
open Option renaming bind_eq_some_iff→AO,getD_some→lR
open Bool renaming not_eq_false→EA,true_and→ic
open Nat renaming le_refl→aZ,sub_self→jC,zero_le→aP
open Go Go.Am Go.Proofs
namespace T
abbrev dK:=List (Int×Int)
def eI(up:dK)(j:Nat):Int×Int:=up.getD j default
def CG(n:Nat):dK:=aK n (-1,0)
def CH(up:dK):Nat->Nat->dK
 |0,_=>[]
 |f+1,k=>if 0<=(eI up k).1 then eI up k::CH up f (eI up k).1.toNat else []
def lN(up:dK)(k:Nat):dK:=CH up (k+1) k
def rA(P:List Nd)(c:Int)(l:dK):Bool:=l.any λa=>(nd P a.1.toNat).cls==c
def oN(n i:Nat)(kids:List Int)(up:dK):Nat->Option dK
 |0=>some up
 |o+1=>(oN n i kids up o).bind λu=>if lE n i (kids.getD o 0)=true/\(eI u (kids.getD o 0).toNat).1<0 then some (u.set (kids.getD o 0).toNat ((i:Int),(o:Int))) else none
def pC(m:ah)(P:List Nd)(i:Nat)(up:dK):Option dK :=
 if 0<i/\(eI up i).1<0 then none
 else if mJ m (nd P i)=false then none
 else if(nd P i).cls = -1 then some up
 else if rA P (nd P i).cls (lN up i)=true then none
 else oN P.length i (nd P i).kids up (nd P i).kids.length
def mT(m:ah)(P:List Nd):Nat->Option dK
 |0=>some (CG P.length)
 |i+1=>(mT m P i).bind (pC m P i)
def nZ(m:ah)(P:List Nd):Option dK:=if 1<=P.length/\P.length<=20000 then mT m P P.length else none
def ae0{n i:Nat}{kids:List Int}{up:dK}{o:Nat}(h:oN n i kids up o=none):∀ o',o<=o'->oN n i kids up o'=none:=by
 intro o' ho
 induction o' with
 |zero =>
  obtain rfl:o=0:=Ey;exact h
 |succ q ih =>
  by_cases e:o=q+1
  ·subst e;exact h
  ·have:=ih Ey;show(oN n i kids up q).bind _=none;rw[this];rfl
def Qn{m:ah}{P:List Nd}{o:Nat}(h:mT m P o=none):∀ o',o<=o'->mT m P o'=none:=by
 intro o' ho
 induction o' with
 |zero =>
  obtain rfl:o=0:=Ey;exact h
 |succ q ih =>
  by_cases e:o=q+1
  ·subst e;exact h
  ·have:=ih Ey;show(mT m P q).bind _=none;rw[this];rfl
structure UI(P:List Nd)(i o:Nat)(up:dK):Prop where
 len:up.length=P.length
 low:∀ j,j<P.length->eI up j=(-1,0)\/∃ p q:Nat,eI up j=((p:Int),(q:Int))/\p<j/\q<(nd P p).kids.length/\(p<i\/p=i/\q<o)
 set:∀ p q,(p<i\/p=i/\q<o)->p<P.length->q<(nd P p).kids.length->∃ j,j<P.length/\p<j/\(nd P p).kids.getD q 0=(j:Int)/\eI up j=((p:Int),(q:Int))
 qh:∀ j:Nat,j<P.length->((fM (P.take i)++(nd P i).kids.take o).count (j:Int)=if 0<=(eI up j).1 then 1 else 0)
def ae1(n j:Nat)(h:j<n):eI (CG n) j=(-1,0):=by
 unfold eI CG;rw[ay,K4 h];rfl
def UI.zero(P:List Nd):UI P 0 0 (CG P.length) where
 len:=nx
 low j hj:=.inl (ae1 _ _ hj)
 set p q h:=Ey
 qh j hj:=by rw[ae1 _ _ hj];simp[fM]
def KF{up:dK}{k j:Nat}{x:Int×Int}(hk:k<up.length):eI (up.set k x) j=if k=j then x else eI up j:=by
 unfold eI;rw[ay,List.getElem?_set];by_cases e:k=j
 ·subst e;rw[if_pos rfl,if_pos hk,if_pos rfl];rfl
 ·rw[if_neg e,if_neg e,ay]
def UI.kid{P:List Nd}{i o:Nat}{up:dK}(h:UI P i o up)(hi:i<P.length)(ho:o<(nd P i).kids.length)(hk:lE P.length i ((nd P i).kids.getD o 0)=true)(hu:(eI up ((nd P i).kids.getD o 0).toNat).1<0):
  UI P i (o+1) (up.set ((nd P i).kids.getD o 0).toNat ((i:Int),(o:Int))):=by
 unfold lE at hk;rw[decide_eq_true_eq]at hk;have ik:(nd P i).kids.take (o+1)=(nd P i).kids.take o++[(nd P i).kids.getD o 0]:=ep ho;generalize iZ:(nd P i).kids.getD o 0=k at *;obtain⟨kn,rfl⟩:∃kn:Nat,k=kn:=⟨k.toNat,Ey⟩;rw[dg]at hu ⊢;have eF:kn<up.length:=by rw[h.len];omega
 refine⟨by rw[List.length_set];exact h.len,λj hj=>?_,λp q yI hp hq=>?_,λj hj=>?_⟩
 ·rw[KF eF];by_cases e:kn=j
  ·subst e;rw[if_pos rfl];exact .inr ⟨i,o,rfl,Ey,ho,.inr ⟨rfl,Ey⟩⟩
  ·rw[if_neg e];rcases h.low j hj with h1|⟨p,q,h1,h2,h3,h4⟩
   ·exact .inl h1
   ·exact .inr ⟨p,q,h1,h2,h3,Ey⟩
 ·by_cases e:p=i/\q=o
  ·obtain⟨rfl,rfl⟩:=e;exact⟨kn,Ey,Ey,iZ,by rw[KF eF,if_pos rfl]⟩
  ·obtain⟨j,h1,h2,h3,h4⟩:=h.set p q Ey hp hq;refine⟨j,h1,h2,h3,?_⟩;rw[KF eF,if_neg ?_,h4];rintro rfl;rw[h4]at hu;dsimp only at hu;omega
 ·rw[ik,<- bH,ue,h.qh j hj,KF eF];by_cases e:kn=j
  ·subst e;rw[if_neg Ey,if_pos rfl,if_pos Hi];simp
  ·have hb:((kn:Int)==(j:Int))=false:=by rw[beq_eq_false_iff_ne];omega
   rw[if_neg e,List.count_singleton,hb];rfl
def ae2{P:List Nd}{i:Nat}(hi:i<P.length):P.take (i+1)=P.take i++[nd P i]:=ep hi
def UI.next{P:List Nd}{i:Nat}{up:dK}(h:UI P i (nd P i).kids.length up)(hi:i<P.length):UI P (i+1) 0 up where
 len:=h.len
 low j hj:=by
  rcases h.low j hj with h1|⟨p,q,h1,h2,h3,h4⟩
  ·exact .inl h1
  ·exact .inr ⟨p,q,h1,h2,h3,Ey⟩
 set p q yI hp hq:=h.set p q (by
  by_cases e:p=i
  ·subst e;exact .inr ⟨rfl,hq⟩
  ·omega) hp hq
 qh j hj:=by
  rw[mu,n9,ae2 hi,Ni,<- h.qh j hj,xd]
def UI.kids{P:List Nd}{i:Nat}(hi:i<P.length){up:dK}(h:UI P i 0 up):∀ o u,o<=(nd P i).kids.length->oN P.length i (nd P i).kids up o=some u->UI P i o u:=by
 intro o
 induction o with
 |zero=>intro u _ hu;cases hu;exact h
 |succ o ih =>
  intro u ho hu;unfold oN at hu;obtain⟨v,hv,hu⟩:=AO.1 hu;by_cases hc:lE P.length i ((nd P i).kids.getD o 0)=true/\(eI v ((nd P i).kids.getD o 0).toNat).1<0
  ·rw[if_pos hc]at hu;cases hu;exact(ih v Ey hv).kid hi Ey hc.1 hc.2
  ·rw[if_neg hc]at hu;cases hu
def Qg{m:ah}{x:Nd}(h:mJ m x=true)(hc:x.cls = -1):x.kids.length=0:=by
 unfold mJ at h;rw[if_pos hc,decide_eq_true_eq]at h;exact h.1
def UI.node{m:ah}{P:List Nd}{i:Nat}(hi:i<P.length){up u:dK}(h:UI P i 0 up)(hu:pC m P i up=some u):UI P (i+1) 0 u:=by
 unfold pC at hu;split at hu
 ·cases hu
 split at hu
 ·cases hu
 rename_i h1 h2;rw[EA]at h2;split at hu
 ·rename_i h3;cases hu;have:=Qg h2 h3;refine UI.next ?_ hi;rw[this];exact h
 split at hu
 ·cases hu
 exact(UI.kids hi h _ _ (aZ _) hu).next hi
def AH{m:ah}{P:List Nd}:∀ i u,i<=P.length->mT m P i=some u->UI P i 0 u:=by
 intro i
 induction i with
 |zero=>intro u _ hu;cases hu;exact UI.zero P
 |succ i ih =>
  intro u hi hu;unfold mT at hu;obtain⟨v,hv,hu⟩:=AO.1 hu;exact(ih v Ey hv).node Ey hu
def UI.lt{P:List Nd}{i o:Nat}{up:dK}(h:UI P i o up){k:Nat}(hk:k<P.length)(h0:0<=(eI up k).1):(eI up k).1.toNat<k:=by
 rcases h.low k hk with h1|⟨p,q,h1,h2,h3,h4⟩
 ·rw[h1]at h0;exact absurd h0 Hg
 ·rw[h1];simpa using h2
def ao8{P:List Nd}{i o:Nat}{up:dK}(h:UI P i o up):∀ k,k<P.length->∀ f g,k+1<=f->k+1<=g->CH up f k=CH up g k:=by
 intro k
 induction k using Nat.strongRecOn with
 |_ k ih =>
  intro hk f g hf hg;obtain⟨f,rfl⟩:∃f',f=f'+1:=⟨f-1,Ey⟩;obtain⟨g,rfl⟩:∃g',g=g'+1:=⟨g-1,Ey⟩;show(if 0<=(eI up k).1 then eI up k::CH up f (eI up k).1.toNat else [])=(if 0<=(eI up k).1 then eI up k::CH up g (eI up k).1.toNat else []);by_cases h0:0<=(eI up k).1
  ·have hl:=h.lt hk h0;rw[if_pos h0,if_pos h0,ih _ hl Ey f g Ey Ey]
  ·rw[if_neg h0,if_neg h0]
def Em{P:List Nd}{i o:Nat}{up:dK}(h:UI P i o up){k:Nat}(hk:k<P.length):
  lN up k=if 0<=(eI up k).1 then eI up k::lN up (eI up k).1.toNat else []:=by
 show(if 0<=(eI up k).1 then eI up k::CH up k (eI up k).1.toNat else [])=_;by_cases h0:0<=(eI up k).1
 ·have hl:=h.lt hk h0;rw[if_pos h0,if_pos h0];congr 1;exact ao8 h _ Ey _ _ Ey Ey
 ·rw[if_neg h0,if_neg h0]
def ao9{m:ah}{P:List Nd}{i:Nat}{up:dK}(hi:i<P.length)(h:mT m P i=some up)(hn:pC m P i up=none):nZ m P=none:=by
 unfold nZ;split
 ·refine Qn (o:=i+1) ?_ _ Ey;show(mT m P i).bind _=none;rw[h];exact hn
 ·rfl
def ae3{n i:Nat}{kids:List Int}{up u:dK}{o:Nat}(h:oN n i kids up o=some u)(ho:o<kids.length)(hn:¬(lE n i (kids.getD o 0)=true/\(eI u (kids.getD o 0).toNat).1<0)):oN n i kids up kids.length=none:=by
 refine ae0 (o:=o+1) ?_ _ Ey;show(oN n i kids up o).bind _=none;rw[h];show(if _ then _ else _)=_;rw[if_neg hn]
def ae4{n i:Nat}{kids:List Int}{up u:dK}{o:Nat}(h:oN n i kids up o=some u)(hn:lE n i (kids.getD o 0)=true/\(eI u (kids.getD o 0).toNat).1<0):oN n i kids up (o+1)=some (u.set (kids.getD o 0).toNat ((i:Int),(o:Int))):=by
 show(oN n i kids up o).bind _=_;rw[h];show(if _ then _ else _)=_;rw[if_pos hn]
def Qo(up:dK)(i:Nat)(a b:Int):(rowsOf bf up).set i [QM a,QM b]=rowsOf bf (up.set i (a,b)):=by simp[rowsOf,bf,List.map_set]
def ao'(n:Nat)(a b:Int):aK n [AV.lit (.int .i64 a),QM b]=rowsOf bf (aK n (a,b)):=by simp[rowsOf,bf]
def vz(n i:Nat):dK:=aK i (-1,0)++aK (n-i) (0,0)
def apa{n i:Nat}(h:i<=n):(vz n i).length=n:=by simp[vz];omega
def apb{n i:Nat}(h:i<n):(vz n i).getD i default=(0,0):=by
 unfold vz;rw[ay,List.getElem?_append_right G9,nx,jC,K4 Ey];rfl
def apc{n i:Nat}(h:i<n):(vz n i).set i (-1,0)=vz n (i+1):=by
 unfold vz;rw[List.set_append_right _ _ G9,nx,jC,show n-i=(n-(i+1))+1 by omega,List.replicate_succ,List.set_cons_zero,List.replicate_succ' (n:=i),bH];rfl
def aoE(m:ah)(P:List Nd)(hm:VM m)(hP:PB P):Holds Tryz.prog 52 [.agg (ao m),.agg (aJ P)] [] (.bC [.tree 2 (rowsOf bf ((nZ m P).getD [])),.lit (.bool (nZ m P).isSome)]) []:=by
 have uW:=hP.z';have np:=hm.cls;generalize an:nZ m P=res;refine Holds.aM 187 0 [.tmp 4,.tmp 5] Tryz.func52 ?_;by_cases aO:1<=P.length/\P.length<=20000;rotate_left
 ·have hr:res=none:=by rw[<- an];unfold nZ;rw[if_neg aO]
  subst hr;((repeat'(first|refine Vb @aJ.eq_1 ?_|(refine V2 @aJ.eq_1 ?_ ?_<;>try with_reducible intro hb)|(refine Xi ?_ ?_<;>try intro ht)|exact Xx|fail)))
  all_goals exact iJ [] true Hg trivial Hg Hg (a7.zF a7.nil (.pure rfl))
 obtain⟨jD,j5⟩:=aO;have hI0:rowsOf bf (vz P.length 0)=aK P.length [AV.lit (.int .i64 0),QM 0]:=by rw[ao'];rfl
 ((repeat'(first|refine Va @aJ.eq_1 ?_|(refine V2 @aJ.eq_1 ?_ ?_<;>try with_reducible intro hb)|(refine Xi ?_ ?_<;>try intro ht)|exact Xx|fail)))
 refine aQ (λi:Nat=>(⟨ar [(2,.ptr 0 0 0),(3,.ptr 1 0 0),(6,QM P.length),(7,.ref 2 2 0 P.length),(8,QM i)],[.var (ao m),.var (aJ P),.arr 2 (rowsOf bf (vz P.length i))]⟩:St))
  (λi=>i<=P.length) (λi=>P.length-i) 0 (aP _) (by show aD _ _ ⟨_,[_,_,.arr 2 (rowsOf bf (vz P.length 0))]⟩;rw[hI0];exact Xv @aJ.eq_1) ?_
 ·rintro i hi Ql ak aq;by_cases au:i<P.length
  ·have j4:=apa (Nat.le_of_lt au);have hug:=apb au;((repeat'(first|refine Va (X5 @j4 @hug @bf.eq_1 @Qo (apc au)) ?_|(refine Xi ?_ ?_<;>try intro ht)|exact Xx|fail)))
   exact ak _ (i+1) Ey Ey (Xv @aJ.eq_1)
  ·obtain rfl:i=P.length:=Ey;have hu0:vz P.length P.length=CG P.length:=by simp[vz,CG]
   rw[hu0];((repeat'(first|refine Va X0 ?_|(refine Xi ?_ ?_<;>try intro ht)|exact Xx|fail)))
   refine aq _ _ rfl ?_;clear ak aq Ql;repeat(refine Xu ?_)
   refine Va X0 ?_;refine aQ (λz:Nat×dK=>(⟨ar [(2,.ptr 0 0 0),(3,.ptr 1 0 0),(6,QM P.length),(7,.ref 2 2 0 P.length),(9,QM z.1)],[.var (ao m),.var (aJ P),.arr 2 (rowsOf bf z.2)]⟩:St))
    (λz=>z.1<=P.length/\mT m P z.1=some z.2) (λz=>P.length-z.1) (0,CG P.length) ⟨aP _,rfl⟩ (Xv @aJ.eq_1) ?_
   rintro⟨i,u⟩⟨hi,Bh⟩Ql ak aq;dsimp only at hi Bh ⊢;have jA:=AH i u hi Bh;have j4:=jA.len;by_cases au:i<P.length;rotate_left
   ·obtain rfl:i=P.length:=Ey;have hr:res=some u:=by rw[<- an];unfold nZ;rw[if_pos ⟨jD,j5⟩];exact Bh
    ((repeat'(first|refine Va X0 ?_|(refine Xi ?_ ?_<;>try intro ht)|exact Xx|fail)))
    refine aq _ _ rfl ?_;clear ak aq Ql;repeat(refine Xu ?_)
    subst hr;refine Vb X0 ?_;refine Nk [] true trivial (a7.zF ?_ (.pure rfl));exact .fz rfl (by rw[cF];exact j4.symm)
   have zw:pC m P i u=none->res=none:=λh=>by rw[<- an];exact ao9 au Bh h
   have bL:mT m P (i+1)=pC m P i u:=by show(mT m P i).bind _=_;rw[Bh];rfl
   have bR:=aF (l:=P) (i:=i) (d:=default) au;have b1:=hP.kids _ bR;have b2:=hP.df _ bR;have b3:=hP.a8 _ bR;have b4:=hP.cells _ bR;by_cases tx:0<i/\(eI u i).1<0
   ·have hr:=zw (by unfold pC;rw[if_pos tx]);unfold eI at tx;generalize rC:u.getD i default=ua at *;obtain⟨ua,ub⟩:=ua;dsimp only at tx;((repeat'(first|refine Va (X5 @aJ.eq_1 @j4 @rC @bf.eq_1 @ax.eq_1) ?_|(refine V2 (X5 @aJ.eq_1 @j4 @rC @bf.eq_1 @ax.eq_1) ?_ ?_<;>try with_reducible intro hb)|(refine Xi ?_ ?_<;>try intro ht)|exact Xx|fail)))
    all_goals
     repeat(refine Xu ?_)
     subst hr;refine Vb X0 ?_;exact iJ [] true Hg trivial Hg Hg (a7.zF a7.nil (.pure rfl))
   by_cases fV:mJ m (nd P i)=true;rotate_left
   ·have hr:=zw (by unfold pC;rw[if_neg tx,if_pos (Bool.eq_false_iff.2 fV)]);unfold nd at fV;unfold eI at tx;generalize rC:u.getD i default=ua at *;obtain⟨ua,ub⟩:=ua;generalize cd:P.getD i default=x at *;obtain⟨c,kids,df,a8,cells⟩:=x;dsimp only at b1 b2 b3 b4 tx;generalize oF:m.cls.getD c.toNat default=wl at *;have Aa:0<=c/\c<m.cls.length->wl.length<=24:=λh=>by rw[<- oF];exact hm.opt _ (aF Ey)
    unfold mJ at fV;dsimp only at fV;rw[oF]at fV;subst hr;by_cases eL:c = -1
    ·rw[if_pos eL,decide_eq_true_eq]at fV;((repeat'(first|refine Va (X5 @aJ.eq_1 @j4 @rC @bf.eq_1 (X2 @cd @ax.eq_1)) ?_|(refine V2 (X5 @aJ.eq_1 @j4 @rC @bf.eq_1 (X2 @cd @ax.eq_1)) ?_ ?_<;>try with_reducible intro hb)|(refine Xi ?_ ?_<;>try intro ht)|exact Xx|fail)))
     all_goals
      repeat(refine Xu ?_)
      ((repeat'(first|refine Vb X0 ?_|fail)))
      exact iJ [] true Hg trivial Hg Hg (a7.zF a7.nil (.pure rfl))
    ·rw[if_neg eL,decide_eq_true_eq]at fV;by_cases az:0<=c/\c<m.cls.length
     ·have Aa:=Aa az;((repeat'(first|refine Va (X5 @aJ.eq_1 @j4 @rC @bf.eq_1 (X4 @cd @ax.eq_1 @oF @aT.eq_1)) ?_|(refine V2 (X5 @aJ.eq_1 @j4 @rC @bf.eq_1 (X4 @cd @ax.eq_1 @oF @aT.eq_1)) ?_ ?_<;>try with_reducible intro hb)|(refine Xi ?_ ?_<;>try intro ht)|exact Xx|fail)))
      all_goals
       repeat(refine Xu ?_)
       ((repeat'(first|refine Vb X0 ?_|fail)))
       exact iJ [] true Hg trivial Hg Hg (a7.zF a7.nil (.pure rfl))
     ·((repeat'(first|refine Va (X5 @aJ.eq_1 @j4 @rC @bf.eq_1 (X2 @cd @ax.eq_1)) ?_|(refine V2 (X5 @aJ.eq_1 @j4 @rC @bf.eq_1 (X2 @cd @ax.eq_1)) ?_ ?_<;>try with_reducible intro hb)|(refine Xi ?_ ?_<;>try intro ht)|exact Xx|fail)))
      all_goals
       repeat(refine Xu ?_)
       ((repeat'(first|refine Vb X0 ?_|fail)))
       exact iJ [] true Hg trivial Hg Hg (a7.zF a7.nil (.pure rfl))
   have hnu:pC m P i u=if(nd P i).cls = -1 then some u else if rA P (nd P i).cls (lN u i)=true then none else oN P.length i (nd P i).kids u (nd P i).kids.length:=by
    unfold pC;rw[if_neg tx,if_neg (by rw[fV];simp)]
   have Dz:=λo v=>UI.kids au jA o v;rw[hnu]at zw bL;clear hnu;unfold nd at fV zw bL Dz;unfold eI at tx;generalize rC:u.getD i default=ua at *;obtain⟨ua,ub⟩:=ua;generalize cd:P.getD i default=x at *;obtain⟨c,kids,df,a8,cells⟩:=x;have Fs:=Ft hm fV;dsimp only at b1 b2 b3 b4 tx Fs zw bL Dz;generalize oF:m.cls.getD c.toNat default=wl at *;unfold mJ at fV;dsimp only at fV;rw[oF]at fV;by_cases eL:c = -1
   ·rw[if_pos eL,decide_eq_true_eq]at fV;rw[if_pos eL]at bL;((repeat'(first|refine Va (X5 @aJ.eq_1 @j4 @rC @bf.eq_1 (X2 @cd @ax.eq_1)) ?_|(refine V2 (X5 @aJ.eq_1 @j4 @rC @bf.eq_1 (X2 @cd @ax.eq_1)) ?_ ?_<;>try with_reducible intro hb)|(refine Xi ?_ ?_<;>try intro ht)|exact Xx|fail)))
    all_goals exact ak _ (i+1,u) ⟨Hi,bL⟩ Hi (Xs false [0,1,2] @aJ.eq_1)
   rw[if_neg eL,decide_eq_true_eq]at fV;rw[if_neg eL]at bL zw;have Aa:wl.length<=24:=by rw[<- oF];exact hm.opt _ (aF Ey)
   repeat'(first|((fail_if_success (first|refine dW 13 ?_|refine dX 13 ?_));refine Xr (X5 @aJ.eq_1 @j4 @rC @bf.eq_1 (X4 @cd @ax.eq_1 @oF @aT.eq_1)) ?_;intro K hK)|(refine hK _ ?_;clear hK K)|(refine Xi ?_ ?_<;>try intro ht)|refine Xy ?_|refine Xd ?_ ?_|exact Xx|fail)
   (refine YO ?_);intro Q0 fY gu
   refine pH ⟨ar [(2,.ptr 0 0 0),(3,.ptr 1 0 0),(6,QM P.length),(7,.ref 2 2 0 P.length),(9,QM i),(10,.ptr 3 0 0)],[.var (ao m),.var (aJ P),.arr 2 (rowsOf bf u),.var (ax ⟨c,kids,df,a8,cells⟩)]⟩ fY ?_ (λkey=>?_);rotate_left
   ·(try clear fY)
    ((repeat'(first|refine Va (X4 @aJ.eq_1 @j4 @rC @bf.eq_1) ?_|(refine V2 (X4 @aJ.eq_1 @j4 @rC @bf.eq_1) ?_ ?_<;>try with_reducible intro hb)|(refine Xi ?_ ?_<;>try intro ht)|exact Xx|fail)))
    all_goals
     refine key _ ?_;exact Xv (X2 @aJ.eq_1 @ax.eq_1)
   (try clear fY)
   try(try clear Q0)
   ((repeat'(first|refine Va (X5 @aJ.eq_1 @j4 @ax.eq_1 @oF @aT.eq_1) ?_|(refine V2 (X5 @aJ.eq_1 @j4 @ax.eq_1 @oF @aT.eq_1) ?_ ?_<;>try with_reducible intro hb)|(refine Xi ?_ ?_<;>try intro ht)|exact Xx|fail)))
   refine aQ (λk:Nat=>(⟨ar [(2,.ptr 0 0 0),(3,.ptr 1 0 0),(6,QM P.length),(7,.ref 2 2 0 P.length),(9,QM i),(10,.ptr 3 0 0),(11,QM k)],[.var (ao m),.var (aJ P),.arr 2 (rowsOf bf u),.var (ax ⟨c,kids,df,a8,cells⟩)]⟩:St))
    (λk=>k<P.length/\rA P c (lN u i)=rA P c (lN u k)) (λk=>k) i ⟨au,rfl⟩ (Xv (X2 @aJ.eq_1 @ax.eq_1)) ?_
   rintro k⟨hk,oY⟩cR bg bm;rw[Em jA hk]at oY;have aX:=jA.lt hk;unfold eI at oY aX;generalize zu:u.getD k default=uk at *;obtain⟨p,q⟩:=uk;dsimp only at oY aX;by_cases h0:0<=p
   ·have aX:=aX h0;rw[if_pos h0]at oY;obtain⟨p,rfl⟩:∃pn:Nat,p=pn:=⟨p.toNat,Ey⟩;rw[dg]at aX;have oY:rA P c (lN u i)=((nd P (p:Int).toNat).cls==c||rA P c (lN u (p:Int).toNat)):=oY;rw[dg]at oY;unfold nd at oY;by_cases vZ:(P.getD p default).cls=c
    ·have hr:=zw (by rw[oY,vZ];simp);subst hr;generalize qm:P.getD p default=y at *;obtain⟨yc,y1,y2,y3,y4⟩:=y;dsimp only at vZ;subst vZ;((repeat'(first|refine Va (X5 @aJ.eq_1 @j4 @zu @bf.eq_1 (X2 @ax.eq_1 @qm)) ?_|(refine Xi ?_ ?_<;>try intro ht)|exact Xx|fail)))
     all_goals
      repeat(refine Xu ?_)
      refine Vb X0 ?_;exact iJ [] true Hg trivial Hg Hg (a7.zF a7.nil (.pure rfl))
    ·have BJ:rA P c (lN u i)=rA P c (lN u p):=by rw[oY,beq_false_of_ne vZ,Bool.false_or]
     generalize qm:P.getD p default=y at *;obtain⟨yc,y1,y2,y3,y4⟩:=y;dsimp only at vZ;((repeat'(first|refine Va (X5 @aJ.eq_1 @j4 @zu @bf.eq_1 (X2 @ax.eq_1 @qm)) ?_|(refine Xi ?_ ?_<;>try intro ht)|exact Xx|fail)))
     exact bg _ p ⟨Ey,BJ⟩ Ey (Xv (X2 @aJ.eq_1 @ax.eq_1))
   rw[if_neg h0]at oY;have oY:rA P c (lN u i)=false:=oY;rw[if_neg (by rw[oY];simp)]at bL zw;((repeat'(first|refine Va (X3 @j4 @zu @bf.eq_1) ?_|(refine Xi ?_ ?_<;>try intro ht)|exact Xx|fail)))
   refine bm _ _ rfl ?_;clear bg bm cR;repeat(refine Xu ?_)
   refine Va (X2 @aJ.eq_1 @ax.eq_1) ?_;refine aQ (λz:Nat×dK=>(⟨ar [(2,.ptr 0 0 0),(3,.ptr 1 0 0),(6,QM P.length),(7,.ref 2 2 0 P.length),(9,QM i),(10,.ptr 3 0 0),(12,QM z.1)],[.var (ao m),.var (aJ P),.arr 2 (rowsOf bf z.2),.var (ax ⟨c,kids,df,a8,cells⟩)]⟩:St))
    (λz=>z.1<=kids.length/\oN P.length i kids u z.1=some z.2) (λz=>kids.length-z.1) (0,u) ⟨aP _,rfl⟩ (Xv (X2 @aJ.eq_1 @ax.eq_1)) ?_
   rintro⟨o,v⟩⟨ho,hv⟩cR bg bm;dsimp only at ho hv ⊢;have hvi:=Dz o v ho hv;have wI:=hvi.len;by_cases cz:o<kids.length
   ·have tN:=ae3 hv cz;have zh:=ae4 hv;unfold eI at tN zh;generalize iZ:kids.getD o 0=k at *;generalize KG:v.getD k.toNat default=vk at *;obtain⟨va,vb⟩:=vk;dsimp only at tN zh;by_cases az:lE P.length i k=true/\va<0
    ·have zh:=zh az;unfold lE at az;rw[decide_eq_true_eq]at az;((repeat'(first|refine Va (X5 @aJ.eq_1 @ax.eq_1 @iZ @wI (X3 @KG @bf.eq_1 @Qo)) ?_|(refine V2 (X5 @aJ.eq_1 @ax.eq_1 @iZ @wI (X3 @KG @bf.eq_1 @Qo)) ?_ ?_<;>try with_reducible intro hb)|(refine Xi ?_ ?_<;>try intro ht)|exact Xx|fail)))
     exact bg _ (o+1,v.set k.toNat ((i:Int),(o:Int))) ⟨Hi,zh⟩ Hi (Xv (X2 @aJ.eq_1 @ax.eq_1))
    ·have hr:=zw (tN az);unfold lE at az;rw[decide_eq_true_eq]at az;subst hr;((repeat'(first|refine Va (X5 @aJ.eq_1 @ax.eq_1 @iZ @wI (X2 @KG @bf.eq_1)) ?_|(refine V2 (X5 @aJ.eq_1 @ax.eq_1 @iZ @wI (X2 @KG @bf.eq_1)) ?_ ?_<;>try with_reducible intro hb)|(refine Xi ?_ ?_<;>try intro ht)|exact Xx|fail)))
     all_goals
      repeat(refine Xu ?_)
      ((repeat'(first|refine Vb X0 ?_|fail)))
      exact iJ [] true Hg trivial Hg Hg (a7.zF a7.nil (.pure rfl))
   ·obtain rfl:o=kids.length:=Ey;rw[hv]at bL;((repeat'(first|refine Va (X2 @aJ.eq_1 @ax.eq_1) ?_|(refine V2 (X2 @aJ.eq_1 @ax.eq_1) ?_ ?_<;>try with_reducible intro hb)|(refine Xi ?_ ?_<;>try intro ht)|exact Xx|fail)))
    refine bm _ _ rfl ?_;clear bg bm cR;refine Va X0 ?_;all_goals exact ak _ (i+1,v) ⟨Hi,bL⟩ Hi (Xs false [0,1,2] @aJ.eq_1)
def aeW{m:ah}{P:List Nd}{n:Nat}{up:dK}(h:mT m P n=some up):∀ i,i<n->∃ u v,mT m P i=some u/\pC m P i u=some v:=by
 intro i hi;cases hu:mT m P i with
 |none=>rw[Qn hu n Ey]at h;cases h
 |some u =>
  cases hv:pC m P i u with
  |none =>
   have h1:mT m P (i+1)=none:=by
    show(mT m P i).bind _=none;rw[hu];exact hv
   rw[Qn h1 n Ey]at h;cases h
  |some v=>exact⟨u,v,rfl,hv⟩
def aph{n i:Nat}{kids:List Int}{up v:dK}(h:oN n i kids up kids.length=some v):∀ k∈kids,lE n i k=true:=by
 intro k hk;obtain⟨o,ho,rfl⟩:=kr hk;cases hw:oN n i kids up o with
 |none=>rw[ae0 hw kids.length Ey]at h;cases h
 |some w =>
  by_cases hc:lE n i (kids.getD o 0)=true/\(eI w (kids.getD o 0).toNat).1<0
  ·have:=hc.1;rwa [ay,bx ho]at this
  ·rw[ae3 hw ho hc]at h;cases h
def Qi{m:ah}{P:List Nd}{i:Nat}{u v:dK}(h:pC m P i u=some v):
  ¬(0<i/\(eI u i).1<0)/\mJ m (nd P i)=true/\((nd P i).cls≠-1->rA P (nd P i).cls (lN u i)=false)/\kY m P.length i (nd P i)=true:=by
 unfold pC at h;split at h
 ·cases h
 rename_i h1;split at h
 ·cases h
 rename_i h2;rw[EA]at h2;split at h
 ·rename_i h3;refine⟨h1,h2,λhh=>absurd h3 hh,?_⟩;unfold kY;rw[h2,ic,List.eq_nil_of_length_eq_zero (Qg h2 h3)];rfl
 split at h
 ·cases h
 rename_i h3 h4;refine⟨h1,h2,λ_=>by simpa using h4,?_⟩;unfold kY;rw[h2,ic,gA];exact aph h
def ae6{P:List Nd}(i:Nat)(k:Int):(fM (P.take i)).count k<=(fM P).count k:=by
 conv=>rhs;rw[<- Eu i P]
 unfold fM;rw[List.flatMap_append,ue];omega
def G0{m:ah}{P:List Nd}{up:dK}(h:nZ m P=some up):(1<=P.length/\P.length<=20000)/\mT m P P.length=some up:=by
 unfold nZ at h;split at h
 ·rename_i hs;exact⟨hs,h⟩
 ·cases h
def UI.full{P:List Nd}{up:dK}(h:UI P P.length 0 up)(j:Nat)(hj:j<P.length):(fM P).count (j:Int)=if 0<=(eI up j).1 then 1 else 0:=by
 have:=h.qh j hj;rwa [mu,n9,xd]at this
def Ek{m:ah}{P:List Nd}{up:dK}(h:nZ m P=some up):jk m P=true:=by
 obtain⟨hs,hf⟩:=G0 h;have dS:=aeW hf;have jA:=AH _ _ (aZ _) hf;have nk:∀ j,1<=j->j<P.length->(fM P).count (j:Int)=1:=λj h1 h2=>by
  obtain⟨u,v,hu,hv⟩:=dS j h2;have hn:=(Qi hv).1;have hc:=(AH _ _ Ey hu).qh j h2;rw[mu,n9,if_pos Ey]at hc;have hle:=ae6 (P:=P) j (j:Int);have hfc:=jA.full j h2;split at hfc<;>omega
 rw[Iy hs λi hi=>by obtain⟨u,v,_,hv⟩:=dS i hi;exact(Qi hv).2.2.2,Bool.not_eq_true'];rw[List.any_eq_false];intro x hx;obtain⟨j,hj,rfl⟩:=kr hx;rw[List.length_drop,BK]at hj;rw[List.getElem_drop];have:=I1 (fM P) (j:=1+j) (show 1+j<P.length by omega);rw[ay,bx (by rw[BK];omega),nk (1+j) Ey Ey]at this;rw[lR]at this;rw[this];decide
def api{P:List Nd}(hd:Down P)(R:dJ->Prop)(dF:∀ s o,s.1<P.length->o<(nd P s.1).kids.length->R s->R (mP P s o)):
  ∀ (f:Nat) (s:dJ),s.1<P.length->R s->∀ v∈mj P f s,R v:=by
 intro f
 induction f with
 |zero=>intro s _ _ v hv;exact absurd hv (by simp[mj])
 |succ f ih =>
  intro s hs hr v hv;rw[mj]at hv;rcases List.mem_cons.1 hv with rfl|hv
  ·exact hr
  ·obtain⟨t,ht,hv⟩:=List.mem_flatMap.1 hv;obtain⟨o,ho,rfl⟩:=wL (List.mem_reverse.1 ht);exact ih _ (yf hd hs ho).2.1 (dF s o hs ho hr) v hv
def qD(P:List Nd)(l:dK)(x:List (List Bool)):List (List Bool):=l.foldl (λacc a=>cM acc (nd P a.1.toNat).cls.toNat a.2.toNat) x
def G3(m:ah)(P:List Nd)(u:dK)(s:dJ):Prop:=(lN u s.1).map (λa=>(nd P a.1.toNat).cls)=s.2.2.reverse/\s.2.1=qD P (lN u s.1).reverse (b9 m)
def KB{m:ah}{P:List Nd}(hd:Down P){i:Nat}{u:dK}(h:UI P i 0 u)(h0:0<P.length):∀ v∈vs P (root m),v.1<=i->G3 m P u v:=by
 refine api hd (λs=>s.1<=i->G3 m P u s) ?_ _ (root m) h0 ?_
 ·intro s o hs ho hr hle;obtain⟨h1,h2,h3⟩:=yf hd hs ho;obtain⟨r1,r2⟩:=hr Ey;obtain⟨j,Mj,zQ,hj3,hj4⟩:=h.set s.1 o (.inl Ey) hs ho;have e:(mP P s o).1=j:=Ey;unfold G3;rw[e,Em h Mj,hj4,if_pos Hi];dsimp only;rw[dg];refine⟨?_,?_⟩
  ·rw[List.map_cons,r1];show _=(s.2.2++[(nd P s.1).cls]).reverse;rw[List.reverse_append];rfl
  ·unfold qD;rw[List.reverse_cons,List.foldl_append];show cM s.2.1 _ _=_;rw[r2];rfl
 ·intro _;have qQ:eI u 0=(-1,0):=by
   rcases h.low 0 h0 with h1|⟨p,q,h1,h2,_⟩
   ·exact h1
   ·omega
  unfold G3;rw[Em h (show(root m).1<P.length from h0)];show _/\_;have:(eI u (root m).1)=(-1,0):=qQ;rw[this,if_neg Hg];exact⟨rfl,rfl⟩
def Qh{m:ah}{P:List Nd}{u:dK}{s:dJ}(h:G3 m P u s)(c:Int):rA P c (lN u s.1)=s.2.2.contains c:=by
 have h1:rA P c (lN u s.1)=((lN u s.1).map λa=>(nd P a.1.toNat).cls).any (· == c):=by
  unfold rA;rw[List.any_map];rfl
 rw[h1,h.1,List.any_reverse,Bool.eq_iff_iff,List.any_eq_true,List.contains_iff_mem];constructor
 ·rintro⟨x,hx,e⟩;rw[beq_iff_eq]at e;subst e;exact hx
 ·exact λhx=>⟨c,hx,G9⟩
def aeX{m:ah}{P:List Nd}(h:jk m P=true){j:Nat}(hj:j<P.length):∃v∈vs P (root m),v.1=j:=by
 have:=acZ h (s:=root m) rfl j hj;have hm:j∈(vs P (root m)).map (·.1):=by
  rw[<- QU];omega
 obtain⟨v,hv,e⟩:=bY.1 hm;exact⟨v,hv,e⟩
def aoS{m:ah}{P:List Nd}(h:jk m P=true)(hn:nZ m P=none):∃v∈vs P (root m),v.2.2.contains (nd P v.1).cls=true:=by
 have hl:=ye h;have hd:=vj h;have iF :∃i u,i<P.length/\mT m P i=some u/\pC m P i u=none:=by
  refine Classical.byContradiction λiz=>?_;have dS:∀ i,i<=P.length->∃ u,mT m P i=some u:=by
   intro i
   induction i with
   |zero=>exact λ_=>⟨_,rfl⟩
   |succ i ih =>
    intro hi;obtain⟨u,hu⟩:=ih Ey;cases hv:pC m P i u with
    |none=>exact absurd ⟨i,u,Ey,hu,hv⟩ iz
    |some v =>
     refine⟨v,?_⟩;show(mT m P i).bind _=_;rw[hu];exact hv
  obtain⟨u,hu⟩:=dS _ (aZ _);unfold nZ at hn;rw[if_pos hl,hu]at hn;cases hn
 obtain⟨i,u,hi,hu,hv⟩:=iF;have jA:=AH i u Ey hu;obtain⟨v,b8,Qj⟩:=aeX h hi;refine⟨v,b8,?_⟩;have kS:=KB hd jA Ey v b8 Ey;rw[<- Qh kS,Qj];have p9:=Gx h hi;unfold kY at p9;rw[Bool.and_eq_true,gA]at p9;unfold pC at hv;split at hv
 ·rename_i hp;obtain⟨p,zd,zb,_⟩:=acX h (show 1<=i by omega) hi;have:i∈kN P p:=by rw[<- QU];omega
  unfold kN at this;obtain⟨k,hk,e⟩:=bY.1 this;obtain⟨q,hq,rfl⟩:=kr hk;obtain⟨j,h1,h2,h3,h4⟩:=jA.set p q (.inl zd) Ey hq;rw[ay,bx hq,lR]at h3;rw[h3,dg]at e;subst e;rw[h4]at hp;exact absurd hp.2 Hi
 split at hv
 ·rename_i h2;rw[p9.1]at h2;cases h2
 split at hv
 ·cases hv
 split at hv
 ·assumption
 exfalso;have apk:∀ o,o<=(nd P i).kids.length->∃ w,oN P.length i (nd P i).kids u o=some w:=by
  intro o
  induction o with
  |zero=>exact λ_=>⟨_,rfl⟩
  |succ o ih =>
   intro ho;obtain⟨w,hw⟩:=ih Ey;have BJ:=p9.2 _ (aF (l:=(nd P i).kids) (i:=o) (d:=0) Ey);refine⟨_,ae4 hw ⟨BJ,?_⟩⟩;unfold lE at BJ;rw[decide_eq_true_eq]at BJ;have hwi:=UI.kids hi jA o w Ey hw;have ik:(nd P i).kids.take (o+1)=(nd P i).kids.take o++[(nd P i).kids.getD o 0]:=ep Ey;generalize iZ:(nd P i).kids.getD o 0=k at *;obtain⟨kn,rfl⟩:∃kn:Nat,k=kn:=⟨k.toNat,Ey⟩;rw[dg];refine Classical.byContradiction λiy=>?_;have hc:=hwi.qh kn Ey;rw[if_pos Ey]at hc;have h1:=acW h (j:=kn) Ey Ey;have h2:(fM (P.take (i+1))).count (kn:Int)<=(fM P).count (kn:Int):=ae6 _ _;rw[ae2 hi,Ni,ue]at h2;have h3:((nd P i).kids.take (o+1)).count (kn:Int)<=(nd P i).kids.count (kn:Int):=by
    conv=>rhs;rw[<- Eu (o+1) (nd P i).kids]
    rw[ue];omega
   rw[ik,ue]at h3;rw[ue]at hc;have h4:([(kn:Int)]:List Int).count (kn:Int)=1:=G9;omega
 obtain⟨w,hw⟩:=apk _ (aZ _);rw[hw]at hv;cases hv
end T

