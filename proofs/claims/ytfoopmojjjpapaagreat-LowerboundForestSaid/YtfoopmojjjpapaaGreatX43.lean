import Derived.Test.YtfoopmojjjpapaaGreatX37
import Derived.Test.YtfoopmojjjpapaaGreatX42
set_option linter.all false
set_option maxHeartbeats 0
set_option maxRecDepth 20000
open List renaming take→jO,drop→fH,length_cons→cV,length_nil→nr
open Go Go.Am Go.Proofs
namespace T
def afR(m:aj)(left:List (List Bool))(rounds:Int)(qx:MB m)(ov:BB left)(hr:jv rounds)(yj:sR m left rounds=0):
  Holds Tryz.prog 15 [.agg (ay m),.tree 1 (rowsOf aE left),OJ rounds] [] (.bx [.ref 0 4 0 (jH m left rounds).length,OJ 0]) [.arr 4 (rowsOf aP (jH m left rounds))]:=by
 refine dZ.one ?_;unfold jv at hr;have qy:=Lb m left [] qx ov Fl;have sI:Holds Tryz.prog 17 [.agg (ay m),.tree 1 (rowsOf aE left),.lit (.slice none 0 0)] [] (.bx [OJ (bP m left []).1,OJ (bP m left []).2]) []:=Holds.Le (pre:=[.agg (ay m),.tree 1 (rowsOf aE left)]) (post:=[]) qy;have Lf:=GM m left;have dh:=@GN m left;unfold sR at yj;generalize TC:bP m left []=v0 at *;obtain⟨val,e⟩:=v0;dsimp only at sI qy;have hs:kR m left=0:=by
  by_cases h:kR m left≠0
  ·rw[if_pos h]at yj;exact absurd yj h
  ·omega
 have he:e=0:=by
  rw[if_neg CZ]at Lf;exact congrArg Prod.snd Lf
 subst he;rw[if_neg CZ]at yj Lf;have gU:¬ (rounds<0\/64<rounds):=λh=>by rw[if_pos h]at yj;omega
 obtain⟨cf,pj⟩:=dh hs;have anu:(bP m left []).2=0:=by rw[TC]
 have afS:(bP m left []).1=val:=by rw[TC]
 refine dZ.aQ 70 0 [.tmp 6,.tmp 7] Tryz.func15 ?_;repeat'(first|((fail_if_success (first|refine eH 7 ?_|refine eI 7 ?_));refine Xq X0 ?_;intro K hK)|refine Xo X0 ?_|refine Xc (sI) ?_|(refine hK _ ?_;clear hK K)|(refine Xg X0 ?_ ?_<;>try intro hb)|(refine Xi ?_ ?_<;>try intro ht)|refine XY ?_|refine Xd ?_ ?_|exact Xx|fail)
 all_goals try(exfalso;omega)
 refine df (aH.nil 10 4 (by simp only[Kc,simprocAttr]) Fs) ?_;dsimp only;have hnw:=afU cf pj [.var (ay m),.arr 4 []];refine px 2 Fs _ rfl ?_;intro K hK;simp(disch:=omega)only[Ac,↓Pc,simprocAttr,jO,fH];refine⟨rfl,(show lr Tryz.prog 38 [.agg (ay m),.tree 1 (rowsOf aE left)] (some 33) _ _ from ?_)⟩;refine qz hnw ?_;rintro r ob⟨gi,ai,bi,mi,D,E,rfl,hW,hlen,oC,GO,iy⟩;refine⟨hlen,?_⟩;simp(disch:=omega)only[Ac,↓Pc,simprocAttr,fH];refine hK _ ?_;clear hK K;repeat(first|refine Xu ?_)
 have f0:=oC 0 _ rfl;have f1:=oC 1 _ rfl;have TD:1≠mi:=by simp only[cV,nr]at GO;omega
 have TE:1 ∉ (D++E).map (·.1):=λhm=>by have:=iy 1 hm;simp at this
 ((try revert hK K);(repeat'(first|refine Va X0 ?_|(refine V2 X0 ?_ ?_<;>try with_reducible intro hb)|(refine Xi ?_ ?_<;>try intro ht)|refine VD ?_ ?_|exact Xx|fail))<;>try with_reducible intro K hK)
 obtain⟨n,rfl⟩:∃n:Nat,rounds=n:=⟨rounds.toNat,CZ⟩;have hcf:=afW m left;have GP:(rowsOf aP ([]:List Mv))=[]:=rfl;refine bd (λz:Nat×List Mv×WS×List Ob×Nat=>(⟨ar [(1,.tree 1 (rowsOf aE left)),(3,.ptr 0 0 0),(8,OJ (bP m left z.2.1).1),(10,.ref z.2.2.2.2 4 0 z.2.1.length),(11,.ptr gi 0 0),(34,OJ n),(35,OJ z.1)],z.2.2.2.1⟩:St))
  (λz=>(KN z.2.2.1/\w4 m left (n-z.1) z.1 z.2.1 z.2.2.1=jH m left n)/\z.1<=n/\WF m (cZ m left m.cls.length) gi ai bi mi D E z.2.2.1 z.2.2.2.1/\jx m z.2.2.1/\WB (1099511627776+14843406974976*(z.1:Int)) z.2.2.1/\z.2.2.2.1[0]?=some (.var (ay m))/\z.2.2.2.1[z.2.2.2.2]?=some (.arr 4 (rowsOf aP z.2.1))/\z.2.2.2.2≠mi/\z.2.2.2.2 ∉ (D++E).map (·.1))
  (λz=>n-z.1) (0,[],W0 m,ob,1) ⟨⟨List.nodup_nil,rfl⟩,Nat.zero_le _,hW,Lh,(TF cf).mono CZ,f0,f1,TD,TE⟩ (by dsimp only;rw[afS];exact Xv X0) ?_
 clear hW f0 f1 TD TE oC hlen;rintro⟨k,X,V1,ob,bi⟩⟨⟨zQ,py⟩,hk,hW,uz,GQ,f0,fb,GR,bD⟩Ql ao ax;dsimp only at zQ py hk hW uz GQ f0 fb GR bD ⊢;have fin:∀ (X:List Mv) (ob:List Ob) (bi:Nat),ob[bi]?=some (.arr 4 (rowsOf aP X))->X=jH m left n->∀ st,aH 0 st ⟨ar [(10,.ref bi 4 0 X.length)],ob⟩->Ql (.exit 0) st:=λX ob bi fh h0 st ht=>by
  refine ax _ _ rfl ?_;clear ao ax;repeat(first|refine Xu ?_)
  refine df ht ?_;clear ht;((try revert hK K);(repeat'(first|refine Vb X0 ?_|(refine V2 X0 ?_ ?_<;>try with_reducible intro hb)|(refine Xi ?_ ?_<;>try intro ht)|refine VD ?_ ?_|exact Xx|fail))<;>try with_reducible intro K hK)
  unfold lQ;simp only[gG,gv];simp(disch:=omega)only[Ac,↓Pc,simprocAttr];refine⟨_,_,⟨rfl,rfl⟩,?_⟩;rw[<- h0];refine xS [bi] false Fl ⟨⟨gX fh,.inr (by rw[Dz];exact fh)⟩,trivial⟩ Fl Fl (.eq (by simp[bh,n9,bq]))
 by_cases bc:k<n
 ·obtain⟨r,kv⟩ :∃r,n-k=r+1:=⟨n-k-1,CZ⟩;have hr3:n-(k+1)=r:=CZ;rw[kv,w4]at py;by_cases TG:(bP m left X).1=1099511627776
  ·rw[if_pos TG]at py;((try revert hK K);(repeat'(first|refine Va X0 ?_|(refine V2 X0 ?_ ?_<;>try with_reducible intro hb)|(refine Xi ?_ ?_<;>try intro ht)|refine VD ?_ ?_|exact Xx|fail))<;>try with_reducible intro K hK)
   all_goals try(exfalso;omega)
   exact fin X ob bi fb py _ (Xv X0)
  ·rw[if_neg TG]at py;have TH:=afY (m:=m) (can:=cZ m left m.cls.length) V1 zQ k;have eW:=afZ cf hcf hW uz (B:=1099511627776+14843406974976*(k:Int)) ⟨CZ,CZ⟩ GQ (round:=k) CZ;generalize nf m (cZ m left m.cls.length) V1 k=V2 at *;repeat'(first|((fail_if_success (first|refine eH 12 ?_|refine eI 12 ?_));refine Xr X0 ?_;intro K hK)|refine Xo X0 ?_|(refine hK _ ?_;clear hK K)|(refine Xg X0 ?_ ?_<;>try intro hb)|(refine Xi ?_ ?_<;>try intro ht)|refine Xy ?_|refine Xd ?_ ?_|exact Xx|fail)
   all_goals try(exfalso;omega)
   refine px 2 Fs _ rfl ?_;intro K hK;simp(disch:=omega)only[Ac,↓Pc,simprocAttr,jO,fH];refine⟨rfl,(show lr Tryz.prog 39 [.ptr gi 0 0,OJ k] (some 42) _ _ from ?_)⟩;refine qz eW ?_;rintro r' w5⟨rfl,pz,dD,TI,Li⟩;refine⟨dD.len,?_⟩;simp(disch:=omega)only[Ac,↓Pc,simprocAttr,fH];refine hK _ ?_;clear hK K;repeat(first|refine Xu ?_)
   have TJ:0≠mi:=by simp only[cV,nr]at GO;omega
   have TK:0 ∉ (D++E).map (·.1):=λhm=>by have:=iy 0 hm;simp at this
   have f2:=dD.same 0 _ TJ TK f0;have f2b:=dD.same bi _ GR bD fb;have qA:=af1 pz TI CZ Li TH;repeat'(first|((fail_if_success (first|refine eH 13 ?_|refine eI 13 ?_));refine Xr X0 ?_;intro K hK)|refine Xo X0 ?_|(refine hK _ ?_;clear hK K)|(refine Xg X0 ?_ ?_<;>try intro hb)|(refine Xi ?_ ?_<;>try intro ht)|refine Xy ?_|refine Xd ?_ ?_|exact Xx|fail)
   refine px 1 Fs _ rfl ?_;intro K hK;simp(disch:=omega)only[Ac,↓Pc,simprocAttr,jO,fH];refine⟨rfl,(show lr Tryz.prog 40 [.ptr gi 0 0] (some 44) _ _ from ?_)⟩;refine qz qA ?_;rintro r' jU⟨⟨id,rfl,GS,anv⟩,Lj,BF⟩;have af2:id≠mi:=by have:=gX pz.mp;omega
   have idD:id ∉ (D++E).map (·.1):=λhm=>by have:=pz.lt _ hm;omega
   have hY:(kS (eP V2.am)).Perm (eP V2.am):=by unfold kS;exact GU _ _ []
   generalize kS (eP V2.am)=Y at *;refine⟨BF.len,?_⟩;simp(disch:=omega)only[Ac,↓Pc,simprocAttr,fH];refine hK _ ?_;clear hK K;repeat(first|refine Xu ?_)
   have f3:=BF.same 0 _ TJ TK f2;have TL:=BF.same bi _ GR bD f2b;have zO:Y.length<9223372036854775808:=by
    have h1:=hY.length_eq;have h2:=Li.al;have h3:(eP V2.am).length<=V2.am.length:=by unfold eP;rw[List.length_map];exact List.length_filter_le _ _
    omega
   have hvY:=Lb m left Y qx ov zO;((try revert hK K);(repeat'(first|refine Va (X2 @f3 @GS) ?_|(refine V2 (X2 @f3 @GS) ?_ ?_<;>try with_reducible intro hb)|(refine Xi ?_ ?_<;>try intro ht)|refine VD ?_ ?_|exact Xx|fail))<;>try with_reducible intro K hK)
   refine vh [] hvY Fs trivial ⟨.pure rfl,.pure rfl,cC.cJ (rows:=rowsOf aP Y) GS (pw _) (by rw[cU]) Fl (zG _),trivial⟩ rfl Fl ?_;simp(disch:=omega)only[Ac,↓Pc,simprocAttr];repeat'(first|((fail_if_success (first|refine eH 15 ?_|refine eI 15 ?_));refine Xr X0 ?_;intro K hK)|refine Xo X0 ?_|(refine hK _ ?_;clear hK K)|(refine Xg X0 ?_ ?_<;>try intro hb)|(refine Xi ?_ ?_<;>try intro ht)|refine Xy ?_|refine Xd ?_ ?_|exact Xx|fail)
   have og:∀ s X (bi:Nat),jU[bi]?=some (.arr 4 (rowsOf aP X))->bi≠mi->bi ∉ (D++E).map (·.1)->aH 0 s ⟨ar [(1,.tree 1 (rowsOf aE left)),(3,.ptr 0 0 0),(8,OJ (bP m left X).1),(10,.ref bi 4 0 X.length),(11,.ptr gi 0 0),(34,OJ n),(35,OJ (k+1:Nat))],jU⟩->w4 m left r (k+1) X V2=jH m left n->Ql .normal s:=λs X bi b1 b2 b3 h1 h0 =>
    ao _ (k+1,X,V2,jU,bi) ⟨⟨TH,by dsimp only;rw[hr3];exact h0⟩,Ji,Lj,TI,Li.mono (by push_cast;omega),f3,b1,b2,b3⟩ Ji h1
   have oA:=λs=>og s X bi TL GR bD;have hny:=λs=>og s Y id GS af2 idD;have TM:=fin X jU bi TL;clear ao ax fin og;generalize (bP m left Y).1=vy at *;generalize (bP m left Y).2=ey at *;generalize (bP m left X).1=vx at *;have anw:((k:Int)+1)=((k+1:Nat):Int):=by push_cast;rfl
   by_cases Lk:ey=0
   ·have w6:(ey != 0)=false:=by simp[Lk]
    by_cases Ll:vx<vy
    ·have d1:decide (vy<=vx)=false:=decide_eq_false CZ;have d2:decide (vy > vx)=true:=decide_eq_true Ll;((try revert hK K);(repeat'(first|refine Va (X3 @w6 @d1 @d2) ?_|(refine V2 (X3 @w6 @d1 @d2) ?_ ?_<;>try with_reducible intro hb)|(refine Xi ?_ ?_<;>try intro ht)|refine VD ?_ ?_|exact Xx|fail))<;>try with_reducible intro K hK)
     all_goals try(exfalso;omega)
     all_goals exact hny _ (Xv X0) (by rw[if_neg CZ,if_pos Ll]at py;exact py)
    ·have d1:decide (vy<=vx)=true:=decide_eq_true CZ;have d2:decide (vy > vx)=false:=decide_eq_false CZ;by_cases anx:k=0
     ·have d3:decide ((k:Int) > 0)=false:=decide_eq_false CZ;((try revert hK K);(repeat'(first|refine Va (X4 @w6 @d1 @d2 @d3) ?_|(refine V2 (X4 @w6 @d1 @d2 @d3) ?_ ?_<;>try with_reducible intro hb)|(refine Xi ?_ ?_<;>try intro ht)|refine VD ?_ ?_|exact Xx|fail))<;>try with_reducible intro K hK)
      all_goals try(exfalso;omega)
      all_goals exact oA _ (Xv X0) (by rw[if_neg CZ,if_neg Ll]at py;exact py)
     ·have d3:decide ((k:Int) > 0)=true:=decide_eq_true CZ;((try revert hK K);(repeat'(first|refine Va (X4 @w6 @d1 @d2 @d3) ?_|(refine V2 (X4 @w6 @d1 @d2 @d3) ?_ ?_<;>try with_reducible intro hb)|(refine Xi ?_ ?_<;>try intro ht)|refine VD ?_ ?_|exact Xx|fail))<;>try with_reducible intro K hK)
      all_goals try(exfalso;omega)
      all_goals exact TM (by rw[if_pos CZ]at py;exact py) _ (Xv X0)
   ·have w6:(ey != 0)=true:=by simp[Lk]
    ((try revert hK K);(repeat'(first|refine Va @w6 ?_|(refine V2 @w6 ?_ ?_<;>try with_reducible intro hb)|(refine Xi ?_ ?_<;>try intro ht)|refine VD ?_ ?_|exact Xx|fail))<;>try with_reducible intro K hK)
    all_goals try(exfalso;omega)
    all_goals exact TM (by rw[if_pos (.inl Lk)]at py;exact py) _ (Xv X0)
 ·obtain rfl:k=n:=CZ;((try revert hK K);(repeat'(first|refine Va X0 ?_|(refine V2 X0 ?_ ?_<;>try with_reducible intro hb)|(refine Xi ?_ ?_<;>try intro ht)|refine VD ?_ ?_|exact Xx|fail))<;>try with_reducible intro K hK)
  refine fin X ob bi fb (by rw[Nat.sub_self]at py;exact py) _ ?_;exact Xv X0
def Tx(m:aj)(left:List (List Bool))(rounds:Int)(qx:MB m)(ov:BB left)(hr:jv rounds)(h:sR m left rounds=0):
  Holds Tryz.prog 15 [.agg (ay m),.tree 1 (rowsOf aE left),OJ rounds] [] (.bx [.tree 4 (rowsOf aP (jH m left rounds)),OJ 0]) []:=by
 refine(afR m left rounds qx ov hr h).af6 ?_;have e:∀ x:AV,(λk=>[x].getD k AV.undef)=ar [(0,x)]:=λx=>by
  funext k;cases k<;>rfl
 rw[e (.bx [.tree 4 (rowsOf aP (jH m left rounds)),OJ 0])];refine aH.ak [] true _ _ Fs trivial Fs Fs ⟨.bx _ _ rfl λj c d hc hd=>?_,trivial⟩
 match j,hc,hd with
 |0,hc,hd =>
  cases hc;cases hd;exact cC.cJ rfl (pw _) (by rw[cU]) (rY Fs) (zG _)
 |1,hc,hd=>cases hc;cases hd;exact .pure rfl
def TA(m:aj)(rounds:Int)(qx:MB m)(hr:jv rounds)(h:sR m (dR m) rounds=0):
  Holds Tryz.prog 25 [.agg (ay m),OJ rounds] [] (.bx [.agg (cB (nF (jH m (dR m) rounds))),OJ (bP m (dR m) (jH m (dR m) rounds)).1,OJ 0]) []:=by
 have h1:=TN m qx;have h2:=Tx m (dR m) rounds qx (af7 qx) hr h;have hv:(bP m (dR m) []).2=0:=by
  rw[GM];unfold sR at h;split at h
  ·rename_i h0;exact absurd h h0
  ·rename_i h0;rw[if_neg h0]
 have hx:=(Lm rounds hv).1;generalize jH m (dR m) rounds=X at *;have h3:=TO m (nF X) qx (TP (by have:=La hx;omega));rw[TQ hx]at h3;generalize (bP m (dR m) X).1=n at *;generalize dR m=al at *;refine Holds.aQ 36 0 [.cell 4 53,.tmp 5,.tmp 6] Tryz.func25 ?_;repeat'(first|((fail_if_success (first|refine eH 5 ?_|refine eI 5 ?_));refine Xq X0 ?_;intro K hK)|refine Xo X0 ?_|refine Xc (h1) ?_|refine Xc (h2) ?_|(refine hK _ ?_;clear hK K)|(refine Xg X0 ?_ ?_<;>try intro hb)|(refine Xi ?_ ?_<;>try intro ht)|refine XY ?_|refine Xd ?_ ?_|exact Xx|fail)
 refine df (aH.af8 2 0 5 (cells':=bC ⟨-1,[],X,[],[]⟩) rfl rfl (by exact⟨.inl rfl,.inr ⟨rfl,_,rfl⟩,.inl rfl,.inr ⟨rfl,_,rfl⟩,.inr ⟨rfl,_,rfl⟩,trivial⟩)) ?_;refine df (aH.DB 2 3 0 5 (rows:=rowsOf bC (nF X)) rfl rfl rfl (pw _) (zG _)) ?_;dsimp only;simp(disch:=omega)only[Ac,↓Pc,simprocAttr];((try revert hK K);(repeat'(first|refine Vd X0 h3 ?_|(refine V2 X0 ?_ ?_<;>try with_reducible intro hb)|(refine Xi ?_ ?_<;>try intro ht)|refine VD ?_ ?_|exact Xx|fail))<;>try with_reducible intro K hK)
 simp(disch:=omega)only[Ac,↓Pc,simprocAttr];exact Xw true [] X0
def TR:dq:=⟨0,0,0,0,0,[(0,3)]⟩
def TS:dq:=⟨0,0,0,0,0,[]⟩
def kT:aj:=⟨[[TR,TS],[TS,TR]],[⟨0,1,0,[0,5,5,0]⟩],[],1⟩
def TT:VM kT:=oB.1 (by decide +kernel)
def af9:sR kT (dR kT) 4=0:=by decide +kernel
def TU:bP kT (dR kT) (jH kT (dR kT) 4)=(3,0):=by decide +kernel
def Tg:Holds Tryz.prog 9 [] [] (.lit (.bool true)) []:=by
 have h1:=TA kT 4 TT.mb (by unfold jv;omega) af9;have qy:(bP kT (dR kT) (jH kT (dR kT) 4)).2=0:=by rw[TU]
 have h2:=TO kT (nF (jH kT (dR kT) 4)) TT.mb (TP (by have:=La qy;omega));rw[TQ qy]at h2;rw[TU]at h1 h2;have cM:(nF (jH kT (dR kT) 4)).length=1:=rfl;generalize nF (jH kT (dR kT) 4)=Q at *;dsimp only at h1 h2;refine Holds.aQ 53 0 [.tmp 0] Tryz.func9 ?_;repeat'(first|((fail_if_success (first|refine eH 1 ?_|refine eI 1 ?_));refine Xr X0 ?_;intro K hK)|refine Xo X0 ?_|(refine hK _ ?_;clear hK K)|(refine Xg X0 ?_ ?_<;>try intro hb)|(refine Xi ?_ ?_<;>try intro ht)|refine XY ?_|refine Xd ?_ ?_|exact Xx|fail)
 refine Ln 15 Fs ?_;intro K K1 hK yk;simp(disch:=omega)only[Ac,↓Pc,simprocAttr,jO];refine yk _ ⟨ar [(21,.agg (ay kT))],[]⟩ ?_ ?_
 ·refine aH.ak [] true _ _ Fs trivial Fs Fs ⟨?_,trivial⟩;simp only[Kc,simprocAttr];refine cC.agg _ _ rfl (nS.spec (R:=cC _ _ _ _) (cs:=ay kT) (ds:=[.ref 4 1 0 2,.ref 6 4 0 1,.lit (.slice none 0 0),OJ 1]) ⟨.snap _ _ rfl ?_,.snap _ _ rfl ?_,.snap _ _ rfl (.nil 4),.pure rfl,trivial⟩).2
  ·exact dU.mk rfl rfl (rY Fs) (pw _) ⟨⟨dU.mk rfl rfl (rY Fs) (pw _) ⟨⟨.lit _,.lit _,.lit _,.lit _,.lit _,dU.mk rfl rfl (rY Fs) (pw _) ⟨⟨.lit _,.lit _,trivial⟩,trivial⟩,trivial⟩,⟨.lit _,.lit _,.lit _,.lit _,.lit _,.nil 2,trivial⟩,trivial⟩,trivial⟩,
    ⟨dU.mk rfl rfl (rY Fs) (pw _) ⟨⟨.lit _,.lit _,.lit _,.lit _,.lit _,.nil 2,trivial⟩,⟨.lit _,.lit _,.lit _,.lit _,.lit _,dU.mk rfl rfl (rY Fs) (pw _) ⟨⟨.lit _,.lit _,trivial⟩,trivial⟩,trivial⟩,trivial⟩,trivial⟩,trivial⟩
  ·exact dU.mk rfl rfl (rY Fs) (pw _) ⟨⟨.lit _,.lit _,.lit _,dU.mk rfl rfl (rY Fs) (x7 _) ⟨⟨.lit _,trivial⟩,⟨.lit _,trivial⟩,⟨.lit _,trivial⟩,⟨.lit _,trivial⟩,trivial⟩,trivial⟩,trivial⟩
 clear yk K1;simp(disch:=omega)only[Ac,↓Pc,simprocAttr,fH];refine hK _ ?_;clear hK K;generalize kT=m at *;repeat(first|refine Xu ?_)
 ((try revert hK K);(repeat'(first|refine Vd @cB.eq_1 (X2 h1 h2) ?_|(refine V2 @cB.eq_1 ?_ ?_<;>try with_reducible intro hb)|(refine Xi ?_ ?_<;>try intro ht)|refine VD ?_ ?_|exact Xx|fail))<;>try with_reducible intro K hK)
 all_goals exact aW (by rw[cM];rfl) (by rw[cM];rfl)
end T

