import Derived.Test.YtfoopmojjjpapaaGreatX13
set_option linter.all false
set_option maxHeartbeats 0
set_option maxRecDepth 20000
open Nat renaming zero_le→aW,lt_or_ge→du
open Bool renaming true_or→xI,false_or→oW,eq_iff_iff→nx,and_eq_true→bg,or_eq_true→l7,not_eq_true'→kz,false_eq_true→iZ,true_and→iy,not_false→mH,not_true→kU
open List renaming drop_eq_nil_of_le→jv,any_nil→CO
open Go Go.Am Go.Proofs
namespace T
def aik(m:ah)(hm:MB m):Holds Tryz.prog 60 [.agg (aq m)] [] (.lit (.bool (!th m))) []:=by
 have tz:=hm.cls;have uO:=hm.ae;have Mt:=hm.aC;unfold th;generalize w5:m.cls.any (λl=>decide (24<l.length))=b;refine Holds.aN 44 0 [.tmp 2] Tryz.func60 ?_;refine Vb X0 ?_;refine bb (λi:Nat=>(⟨ao [(1,.ptr 0 0 0),(3,Oi i)],[.var (aq m)]⟩:St)) (λi=>i<=m.cls.length/\(m.cls.drop i).any (λl=>decide (24<l.length))=b) (λi=>m.cls.length-i) 0 ⟨aW _,w5⟩ (Xv X0) ?_;rintro i⟨hi,hr⟩Ql ak au;by_cases ar:i<m.cls.length
 ·have gN:=hm.opt _ (aE (d:=(default:List cP)) ar);rw[Eo ar]at hr;generalize fY:m.cls.getD i default=l at *;((repeat'(first|refine Va @fY ?_|(refine Xi ?_ ?_<;>try intro ht)|exact Xx|fail)))
  ·rw[decide_eq_true (p:=24<l.length) AT,xI]at hr;subst hr;refine Vb X0 ?_;exact aU rfl IM
  ·rw[decide_eq_false (p:=24<l.length) AT,oW]at hr;exact ak _ (i+1) ⟨AT,hr⟩ AT (Xv X0)
 ·rw[jv AT,CO]at hr;subst hr;((repeat'(first|refine Va X0 ?_|(refine Xi ?_ ?_<;>try intro ht)|exact Xx|fail)))
  refine au _ _ rfl ?_;clear ak au Ql;repeat(refine Xu ?_)
  ((repeat'(first|refine Vb X0 ?_|(refine V2 X0 ?_ ?_<;>try with_reducible intro hb)|fail)))
  all_goals refine aU rfl ?_
  all_goals(refine congrArg (λb=>AV.lit (Value.bool b)) ?_;rw[nx];simp only[or_true,true_or,or_false,false_or,decide_eq_true_eq,beq_iff_eq,bne_iff_ne,bg,l7,kz,decide_eq_false_iff_not,iZ,reduceCtorEq,iff_true,iff_false,true_iff,false_iff,eq_self];omega)
def ail(m:ah)(k:Nat)(hk:k<m.ae.length)(hp:∀ p∈m.ae,p.aB.length<9223372036854775808)(hm:∀ l∈m.cls,l.length<=24)(hl:m.cls.length<=24)(eG:m.ae.length<9223372036854775808):
  Holds Tryz.prog 63 [.agg (aq m),Oi k] [] (.lit (.bool (gA m (m.ae.getD k default)&&(decide (k=0)||decide (ni (m.ae.getD (k-1) default) (m.ae.getD k default)<0))))) []:=by
 have eY:((k:Int)-1).toNat=k-1:=AT;have Al:=hp _ (aE (d:=(default:Pr)) hk);generalize cB:m.ae.getD k default=p at *;generalize Y6:m.ae.getD (k-1) default=q at *;have hg:∀ i,(m.cls.getD i default).length<=24:=λi=>by
  rcases du i m.cls.length with h|h
  ·exact hm _ (aE h)
  ·rw[List.getD_eq_getElem?_getD,List.getElem?_eq_none h];decide
 have h1:=hg p.fst.toNat;have h2:=hg p.snd.toNat;have hmul:(0:Int)<=(m.cls.getD p.fst.toNat default).length*(m.cls.getD p.snd.toNat default).length/\((m.cls.getD p.fst.toNat default).length:Int)*(m.cls.getD p.snd.toNat default).length<=24*24:=⟨Int.mul_nonneg AT AT,Int.mul_le_mul AT AT AT AT⟩;have aim:decide (ni q p<0)=(decide (q.dZ<p.dZ)||decide (q.dZ=p.dZ)&&(decide (q.fst<p.fst)||decide (q.fst=p.fst)&&decide (q.snd<p.snd))):=by
  rw[nx];simp only[decide_eq_true_eq,l7,bg,K9]
 have hru:=Mp m p.dZ;rw[aim];unfold gA;generalize w5:p.aB.any oG=bad;generalize xf:((m.cls.getD p.fst.toNat default).length:Int)*(m.cls.getD p.snd.toNat default).length=mm at *;generalize hD:decide (0<=p.fst/\p.fst<p.snd/\p.snd<m.cls.length/\(p.aB.length:Int)=mm)=D;generalize hO:(decide (q.dZ<p.dZ)||decide (q.dZ=p.dZ)&&(decide (q.fst<p.fst)||decide (q.fst=p.fst)&&decide (q.snd<p.snd)))=O;refine Holds.aN 114 0 [.tmp 4] Tryz.func63 ?_;((repeat'(first|refine Vd (X2 @cB @xf) hru ?_|(refine V2 (X2 @cB @xf) ?_ ?_<;>try with_reducible intro hb)|(refine Xi ?_ ?_<;>try intro ht)|exact Xx|fail)))
 all_goals try(refine aU rfl ?_;first|(rw[hb];rfl)|(rw[show D=false by rw[<- hD];exact decide_eq_false AT];simp;done))
 have Mu:D=true:=by rw[<- hD];exact decide_eq_true AT
 subst Mu;have Hx:jJ m.rules p.dZ=true:=by assumption
 refine bb (λi:Nat=>(⟨ao [(1,Oi k),(2,.ptr 0 0 0),(5,.ptr 1 0 0),(6,Oi i)],[.var (aq m),.var (aG p)]⟩:St)) (λi=>i<=p.aB.length/\(p.aB.drop i).any oG=bad) (λi=>p.aB.length-i) 0 ⟨aW _,w5⟩ (Xv X0) ?_;rintro i⟨hi,hr⟩Ql ak au;by_cases ar:i<p.aB.length
 ·rw[kh p.aB i 0 ar,List.any_cons]at hr;generalize cS:p.aB.getD i 0=x at *;((repeat'(first|refine Vc @cS (Mn x) ?_|(refine V2 @cS ?_ ?_<;>try with_reducible intro hb)|(refine Xi ?_ ?_<;>try intro ht)|exact Xx|fail)))
  ·rw[show oG x=true by simp[oG, *],xI]at hr;subst hr;refine Vb X0 ?_;exact aU rfl IM
  ·rw[show oG x=false by simp[oG, *],oW]at hr;exact ak _ (i+1) ⟨AT,hr⟩ AT (Xs false [0,1] X0)
  ·rw[show oG x=false by simp[oG, *],oW]at hr;exact ak _ (i+1) ⟨AT,hr⟩ AT (Xs false [0,1] X0)
 ·rw[jv AT,CO]at hr;subst hr;((repeat'(first|refine Va X0 ?_|(refine V2 X0 ?_ ?_<;>try with_reducible intro hb)|(refine Xi ?_ ?_<;>try intro ht)|exact Xx|fail)))
  refine au _ _ rfl ?_;clear ak au Ql;repeat(refine Xu ?_)
  ((repeat'(first|refine Vb (X2 @Y6 @eY) ?_|(refine Xi ?_ ?_<;>try intro ht)|fail)))
  all_goals refine aU rfl ?_
  all_goals rw[Hx,iy,iy]
  ·rw[decide_eq_true (p:=k=0) AT];simp
  all_goals rw[decide_eq_false (p:=k=0) AT,<- hO]
  all_goals(refine congrArg (λb=>AV.lit (Value.bool b)) ?_;rw[nx];simp only[oW,mH,true_and,decide_eq_true_eq,beq_iff_eq,bne_iff_ne,bg,l7,kz,decide_eq_false_iff_not,iZ,reduceCtorEq,iff_true,iff_false,true_iff,false_iff,eq_self];omega)
def aio(m:ah)(c:Ct)(hc:c.aZ.length<9223372036854775808):Holds Tryz.prog 64 [.agg (aq m),.agg (df c)] [] (.lit (.bool (iW m c))) []:=by
 have Mr:=Mp m c.dZ;have gp:=Mn c.cf;generalize an:iW m c=res;unfold iW at an;generalize hD:decide (0<=c.most/\c.most<=1048576)=D at *;refine Holds.aN 85 0 [.tmp 4] Tryz.func64 ?_;((repeat'(first|refine Vd X0 (X2 Mr gp) ?_|(refine V2 X0 ?_ ?_<;>try with_reducible intro hb)|(refine Xi ?_ ?_<;>try intro ht)|exact Xx|fail)))
 all_goals try(refine aU rfl ?_;first|(rw[<- an,hb];rfl)|(rw[<- an,show D=false by rw[<- hD];exact decide_eq_false AT];simp;done)|(rw[<- an,ht];simp;done))
 have Mu:D=true:=by rw[<- hD];exact decide_eq_true AT
 subst Mu;have bR:(jJ m.rules c.dZ&&true&&jo c.cf)=true:=by simp[*]
 rw[bR,iy]at an;refine bb (λk:Nat=>(⟨ao [(2,.ptr 0 0 0),(3,.ptr 1 0 0),(5,Oi k)],[.var (aq m),.var (df c)]⟩:St)) (λk=>k<=c.aZ.length/\eu m (qR c.aZ k) (c.aZ.drop k)=res) (λk=>c.aZ.length-k) 0 ⟨aW _,an⟩ (Xv X0) ?_;rintro k⟨hk,hr⟩Ql ak au;by_cases bf:k<c.aZ.length
 ·have hd:=kh c.aZ k default bf;generalize bc:c.aZ.getD k default=x at *;rw[hd,Tv]at hr;have eY:((k:Int)-1).toNat=k-1:=AT;generalize cB:c.aZ.getD (k-1) default=y at *;generalize bI:jq m x.cls x.opt=ob at *;have lR:=VS m x.cls x.opt;rw[bI]at lR;generalize hW:decide (1<=x.wt/\x.wt<=1000)=wb at *;generalize hO:decide (uE y x<0)=O at *;have Y7:O=true↔y.cls<x.cls\/(y.cls=x.cls/\y.opt<x.opt):=by rw[<- hO,decide_eq_true_eq,G9]
  ((repeat'(first|refine Vc (X3 @bc @cB @eY) lR ?_|(refine V2 (X3 @bc @cB @eY) ?_ ?_<;>try with_reducible intro hb)|(refine Xi ?_ ?_<;>try intro ht)|exact Xx|fail)))
  iterate 5
   ·obtain rfl:res=false:=by
     rw[<- hr];first
      | (rw[show ob=false by assumption];rfl)
      | (rw[show wb=false by rw[<- hW];exact decide_eq_false AT];simp;done)
      | (rw[decide_eq_false (p:=k=0) AT,show O=false from Bool.eq_false_iff.2 λh=>by have:=Y7.1 h;omega];simp;done)
    ((repeat'(first|refine Vb X0 ?_|fail)))
    exact aU rfl rfl
  all_goals
   refine ak _ (k+1) ⟨AT,?_⟩ AT (Xs false [0,1] X0);rw[w9,bc,<- hr,show ob=true by assumption,show wb=true by rw[<- hW];exact decide_eq_true AT];first
    | (rw[Y7.2 AT];simp;done)
    | (rw[decide_eq_true (p:=k=0) AT];simp;done)
 ·rw[jv AT,eu]at hr;subst hr;((repeat'(first|refine Va X0 ?_|(refine Xi ?_ ?_<;>try intro ht)|exact Xx|fail)))
  refine au _ _ rfl ?_;clear ak au Ql;repeat(refine Xu ?_)
  refine Vb X0 ?_;exact aU rfl rfl
def F8(m:ah)(hm:MB m):Holds Tryz.prog 34 [.agg (aq m)] [] (Oi (iB m)) []:=by
 generalize an:iB m=res;unfold iB at an;have tz:=hm.cls;have uO:=hm.ae;have Mt:=hm.aC;have Y8:=aik m hm;generalize Ah:th m=lb at *;cases lb;rotate_left
 ·rw[if_pos rfl]at an;subst an;refine Holds.aN 105 0 [.tmp 2] Tryz.func34 ?_;((repeat'(first|refine Vd @kU Y8 ?_|(refine Xi ?_ ?_<;>try intro ht)|exact Xx|fail)))
  all_goals first|exact aU rfl rfl|(exfalso;simp at *;done)
 rw[if_neg IM]at an;have aJ:m.cls.length<=24/\∀ l∈m.cls,l.length<=24:=by
  have h:=Ah;unfold th at h;rw[decide_eq_false_iff_not]at h;refine⟨AT,λl hl=>?_⟩;rcases du 24 l.length with h1|h1
  ·exact absurd (.inr (.inl (List.any_eq_true.2 ⟨l,hl,by simpa using h1⟩))) h
  ·exact h1
 generalize h1:(m.cls.any λl=>l.any λo=>!ej m.rules none o.ch)=b1 at *;refine Holds.aN 105 0 [.tmp 2] Tryz.func34 ?_;((repeat'(first|refine Vd @mH Y8 ?_|(refine Xi ?_ ?_<;>try intro ht)|exact Xx|fail)))
 refine bb (λi:Nat=>(⟨ao [(1,.ptr 0 0 0),(3,Oi i)],[.var (aq m)]⟩:St)) (λi=>i<=m.cls.length/\((m.cls.drop i).any λl=>l.any λo=>!ej m.rules none o.ch)=b1) (λi=>m.cls.length-i) 0 ⟨aW _,h1⟩ (Xv X0) ?_;rintro i⟨hi,hr⟩Ql ak au;by_cases ar:i<m.cls.length
 ·have Mw:=aE (d:=(default:List cP)) ar;have nM:=hm.opt _ Mw;have bn:=hm.ch _ Mw;have qD:=aJ.2 _ Mw;rw[Eo ar]at hr;generalize fY:m.cls.getD i default=l at *;generalize Mx:((m.cls.drop (i+1)).any λl=>l.any λo=>!ej m.rules none o.ch)=rest at *;((repeat'(first|refine Va X0 ?_|(refine Xi ?_ ?_<;>try intro ht)|exact Xx|fail)))
  refine bb (λk:Nat=>(⟨ao [(1,.ptr 0 0 0),(3,Oi i),(4,Oi k)],[.var (aq m)]⟩:St)) (λk=>k<=l.length/\(((l.drop k).any λo=>!ej m.rules none o.ch)||rest)=b1) (λk=>l.length-k) 0 ⟨aW _,hr⟩ (Xv X0) ?_;clear hr;rintro k⟨hk,hr⟩dL bO bQ;by_cases bf:k<l.length
  ·have wT:=aE (d:=(default:cP)) bf;have kM:=bn _ wT;rw[Eo bf]at hr;generalize tx:l.getD k default=o at *;generalize Y9:((l.drop (k+1)).any λo=>!ej m.rules none o.ch)=aip at *;((repeat'(first|refine Va (X2 @fY @tx) ?_|(refine Xi ?_ ?_<;>try intro ht)|exact Xx|fail)))
   refine bb (λj:Nat=>(⟨ao [(1,.ptr 0 0 0),(3,Oi i),(4,Oi k),(5,.tree 2 (rowsOf dv o.ch)),(6,Oi j)],[.var (aq m)]⟩:St)) (λj=>j<=o.ch.length/\(!ej m.rules (qR o.ch j) (o.ch.drop j)||aip||rest)=b1) (λj=>o.ch.length-j) 0 ⟨aW _,hr⟩ (Xv X0) ?_;clear hr;rintro j⟨hj,hr⟩nR iR gD;by_cases fJ:j<o.ch.length
   ·have hd:=kh o.ch j default fJ;generalize bc:o.ch.getD j default=c at *;rw[hd,Tt]at hr;have eY:((j:Int)-1).toNat=j-1:=AT;generalize cB:o.ch.getD (j-1) default=q at *;have cF:=Mp m c.1;generalize DZ:jJ m.rules c.1=rb at *;have eG:=Mn c.2;generalize dp:jo c.2=pb at *;((repeat'(first|refine Vc (X3 @bc @cB @eY) (X2 cF eG) ?_|(refine V2 (X3 @bc @cB @eY) ?_ ?_<;>try with_reducible intro hb)|(refine Xi ?_ ?_<;>try intro ht)|exact Xx|fail)))
    iterate 3
     ·obtain rfl:b1=true:=by
       rw[<- hr];first
        | (rw[show rb=false by assumption];rfl)
        | (rw[show pb=false by assumption];simp;done)
        | (rw[decide_eq_false (p:=j=0) AT,decide_eq_false (p:=q.1<c.1) AT];simp;done)
      rw[if_pos rfl]at an;repeat(refine Xu ?_)
      ((repeat'(first|refine Vb X0 ?_|fail)))
      exact aU rfl (by rw[an])
    all_goals
     refine iR _ (j+1) ⟨AT,?_⟩ AT (Xv X0);rw[w9,bc,<- hr,show rb=true by assumption,show pb=true by assumption];first
      | (rw[decide_eq_true (p:=q.1<c.1) AT];simp;done)
      | (rw[decide_eq_true (p:=j=0) AT];simp;done)
   ·rw[jv AT,ej]at hr;simp only[kU,oW]at hr;((repeat'(first|refine Va X0 ?_|(refine Xi ?_ ?_<;>try intro ht)|exact Xx|fail)))
    refine gD _ _ rfl ?_;clear iR gD nR;repeat(refine Xu ?_)
    refine Va X0 ?_;exact bO _ (k+1) ⟨AT,by rw[Y9];exact hr⟩ AT (Xv X0)
  ·rw[jv AT,CO,oW]at hr;((repeat'(first|refine Va @fY ?_|(refine Xi ?_ ?_<;>try intro ht)|exact Xx|fail)))
   refine bQ _ _ rfl ?_;clear bO bQ dL;repeat(refine Xu ?_)
   refine Va X0 ?_;exact ak _ (i+1) ⟨AT,by rw[Mx];exact hr⟩ AT (Xv X0)
 rw[jv AT,CO]at hr;subst hr;rw[if_neg IM]at an;((repeat'(first|refine Va X0 ?_|(refine Xi ?_ ?_<;>try intro ht)|exact Xx|fail)))
 refine au _ _ rfl ?_;clear ak au Ql;clear hi ar;repeat(refine Xu ?_)
 refine Vb X0 ?_;refine bb (λk:Nat=>(⟨ao [(1,.ptr 0 0 0),(7,Oi k)],[.var (aq m)]⟩:St)) (λk=>k<=m.ae.length/\e7 m none m.ae=e7 m (qR m.ae k) (m.ae.drop k)) (λk=>m.ae.length-k) 0 ⟨aW _,rfl⟩ (Xv X0) ?_;rintro k⟨hk,hr⟩Ql ak au;by_cases bf:k<m.ae.length
 ·have hd:=kh m.ae k default bf;have gp:=ail m k bf hm.aB aJ.2 aJ.1 hm.ae;rw[hd,Tu]at hr;generalize (gA m (m.ae.getD k default)&&(decide (k=0)||decide (ni (m.ae.getD (k-1) default) (m.ae.getD k default)<0)))=pb at *;((repeat'(first|refine Vc X0 gp ?_|(refine Xi ?_ ?_<;>try intro ht)|exact Xx|fail)))
  ·obtain rfl:pb=false:=by assumption
   rw[Bool.false_and]at hr;rw[if_pos hr]at an;subst an;refine Vb X0 ?_;exact aU rfl rfl
  ·obtain rfl:pb=true:=by assumption
   rw[iy]at hr;exact ak _ (k+1) ⟨AT,by rw[w9];exact hr⟩ AT (Xv X0)
 rw[jv AT,e7]at hr;rw[if_neg (by rw[hr];simp)]at an;((repeat'(first|refine Va X0 ?_|(refine Xi ?_ ?_<;>try intro ht)|exact Xx|fail)))
 refine au _ _ rfl ?_;clear ak au Ql;clear hr hk bf;repeat(refine Xu ?_)
 refine Vb X0 ?_;generalize h2:(m.aC.any λc=>!iW m c)=b2 at *;refine bb (λk:Nat=>(⟨ao [(1,.ptr 0 0 0),(8,Oi k)],[.var (aq m)]⟩:St)) (λk=>k<=m.aC.length/\((m.aC.drop k).any λc=>!iW m c)=b2) (λk=>m.aC.length-k) 0 ⟨aW _,h2⟩ (Xv X0) ?_;rintro k⟨hk,hr⟩Ql ak au;by_cases bf:k<m.aC.length
 ·have jk:=aE (d:=(default:Ct)) bf;have fY:=hm.mz _ jk;rw[Eo bf]at hr;generalize bc:m.aC.getD k default=c at *;have yu:=aio m c fY;generalize iW m c=cb at *;((repeat'(first|refine Vc @bc yu ?_|(refine Xi ?_ ?_<;>try intro ht)|exact Xx|fail)))
  ·obtain rfl:cb=false:=by assumption
   simp only[mH,xI]at hr;rw[if_pos hr.symm]at an;subst an;refine Vb X0 ?_;exact aU rfl rfl
  ·obtain rfl:cb=true:=by assumption
   rw[kU,oW]at hr;exact ak _ (k+1) ⟨AT,hr⟩ AT (Xv X0)
 rw[jv AT,CO]at hr;subst hr;rw[if_neg IM]at an;subst an;((repeat'(first|refine Va X0 ?_|(refine Xi ?_ ?_<;>try intro ht)|exact Xx|fail)))
 refine au _ _ rfl ?_;clear ak au Ql;repeat(refine Xu ?_)
 refine Vb X0 ?_;exact aU rfl rfl
def ahH{most cf n:Int}(hp:bJ cf):B5 (n-most) cf=kL most cf n:=by
 unfold B5 kL bJ at *;by_cases h:n<=most
 ·rw[if_pos AT,if_pos h]
 ·rw[if_neg AT,if_neg h];split
  ·have:cf=1099511627776:=AT;subst this;omega
  ·rfl
end T

