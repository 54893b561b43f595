import Derived.Test.YtdipcmigdbnheaaGreatX11
set_option linter.all false
set_option maxHeartbeats 0
set_option maxRecDepth 20000
open Nat renaming zero_le→aQ,lt_or_ge→eh
open Bool renaming true_or→rQ,false_or→mu,eq_iff_iff→my,and_eq_true→ba,or_eq_true→ke,not_eq_true'→jW,false_eq_true→jy,true_and→iq,not_false→m4,not_true→lA
open List renaming drop_eq_nil_of_le→cU,any_nil→BE
open Go Go.Am Go.Proofs
namespace T
def Z9(m:aj)(hm:MB m):an Tryz.prog 58 [.agg (av m)] [] (.lit (.bool (!qa m))) []:=by
 have vc:=hm.cls;have vd:=hm.ae;have Ra:=hm.ar;unfold qa;generalize tL:m.cls.any (λl=>decide (24<l.length))=b;refine an.aF 44 0 [.tmp 2] Tryz.func58 ?_;refine Vb X0 ?_;refine aW (λi:Nat=>(⟨ax [(1,.ptr 0 0 0),(3,aa3 i)],[.var (av m)]⟩:St)) (λi=>i<=m.cls.length/\(m.cls.drop i).any (λl=>decide (24<l.length))=b) (λi=>m.cls.length-i) 0 ⟨aQ _,tL⟩ (Xv X0) ?_;rintro i⟨hi,hr⟩Ql aq au;by_cases hi':i<m.cls.length
 ·have gI:=hm.opt _ (aC (d:=(default:List br)) hi');rw[Az hi']at hr;generalize iT:m.cls.getD i default=l at *;((repeat'(first|refine Va @iT ?_|(refine Xi ?_ ?_<;>try intro ht)|exact Xx|fail)))
  ·rw[decide_eq_true (p:=24<l.length) I6,rQ]at hr;subst hr;refine Vb X0 ?_;exact aO rfl Jd
  ·rw[decide_eq_false (p:=24<l.length) I6,mu]at hr;exact aq _ (i+1) ⟨I6,hr⟩ I6 (Xv X0)
 ·rw[cU I6,BE]at hr;subst hr;((repeat'(first|refine Va X0 ?_|(refine Xi ?_ ?_<;>try intro ht)|exact Xx|fail)))
  refine au _ _ rfl ?_;clear aq au Ql;repeat(refine Xu ?_)
  ((repeat'(first|refine Vb X0 ?_|(refine V2 X0 ?_ ?_<;>try with_reducible intro hb)|fail)))
  all_goals refine aO rfl ?_
  all_goals(refine congrArg (λb=>AV.lit (Value.bool b)) ?_;rw[my];simp only[or_true,true_or,or_false,false_or,decide_eq_true_eq,beq_iff_eq,bne_iff_ne,ba,ke,jW,decide_eq_false_iff_not,jy,reduceCtorEq,iff_true,iff_false,true_iff,false_iff,eq_self];omega)
def aaa(m:aj)(k:Nat)(hk:k<m.ae.length)(hp:∀ p∈m.ae,p.ay.length<9223372036854775808)(hm:∀ l∈m.cls,l.length<=24)(hl:m.cls.length<=24)(cE:m.ae.length<9223372036854775808):
  an Tryz.prog 61 [.agg (av m),aa3 k] [] (.lit (.bool (eS m (m.ae.getD k default)&&(decide (k=0)||decide (mh (m.ae.getD (k-1) default) (m.ae.getD k default)<0))))) []:=by
 have fZ:((k:Int)-1).toNat=k-1:=I6;have Dm:=hp _ (aC (d:=(default:Pr)) hk);generalize cG:m.ae.getD k default=p at *;generalize hqq:m.ae.getD (k-1) default=q at *;have hg:∀ i,(m.cls.getD i default).length<=24:=λi=>by
  rcases eh i m.cls.length with h|h
  ·exact hm _ (aC h)
  ·rw[List.getD_eq_getElem?_getD,List.getElem?_eq_none h];decide
 have h1:=hg p.fst.toNat;have h2:=hg p.snd.toNat;have hmul:(0:Int)<=(m.cls.getD p.fst.toNat default).length*(m.cls.getD p.snd.toNat default).length/\((m.cls.getD p.fst.toNat default).length:Int)*(m.cls.getD p.snd.toNat default).length<=24*24:=⟨Int.mul_nonneg I6 I6,Int.mul_le_mul I6 I6 I6 I6⟩;have aac:decide (mh q p<0)=(decide (q.aV<p.aV)||decide (q.aV=p.aV)&&(decide (q.fst<p.fst)||decide (q.fst=p.fst)&&decide (q.snd<p.snd))):=by
  rw[my];simp only[decide_eq_true_eq,ke,ba,GN]
 have ou:=GL m p.aV;rw[aac];unfold eS;generalize tL:p.ay.any mR=bad;generalize tM:((m.cls.getD p.fst.toNat default).length:Int)*(m.cls.getD p.snd.toNat default).length=mm at *;generalize hD:decide (0<=p.fst/\p.fst<p.snd/\p.snd<m.cls.length/\(p.ay.length:Int)=mm)=D;generalize hO:(decide (q.aV<p.aV)||decide (q.aV=p.aV)&&(decide (q.fst<p.fst)||decide (q.fst=p.fst)&&decide (q.snd<p.snd)))=O;refine an.aF 114 0 [.tmp 4] Tryz.func61 ?_;((repeat'(first|refine Vd (X2 @cG @tM) ou ?_|(refine V2 (X2 @cG @tM) ?_ ?_<;>try with_reducible intro hb)|(refine Xi ?_ ?_<;>try intro ht)|exact Xx|fail)))
 all_goals try(refine aO rfl ?_;first|(rw[hb];rfl)|(rw[show D=false by rw[<- hD];exact decide_eq_false I6];simp;done))
 have GY:D=true:=by rw[<- hD];exact decide_eq_true I6
 subst GY;have qc:ij m.rules p.aV=true:=by assumption
 refine aW (λi:Nat=>(⟨ax [(1,aa3 k),(2,.ptr 0 0 0),(5,.ptr 1 0 0),(6,aa3 i)],[.var (av m),.var (bu p)]⟩:St)) (λi=>i<=p.ay.length/\(p.ay.drop i).any mR=bad) (λi=>p.ay.length-i) 0 ⟨aQ _,tL⟩ (Xv X0) ?_;rintro i⟨hi,hr⟩Ql aq au;by_cases hi':i<p.ay.length
 ·rw[cS p.ay i 0 hi',List.any_cons]at hr;generalize bG:p.ay.getD i 0=x at *;((repeat'(first|refine Vc @bG (GJ x) ?_|(refine V2 @bG ?_ ?_<;>try with_reducible intro hb)|(refine Xi ?_ ?_<;>try intro ht)|exact Xx|fail)))
  ·rw[show mR x=true by simp[mR, *],rQ]at hr;subst hr;refine Vb X0 ?_;exact aO rfl Jd
  ·rw[show mR x=false by simp[mR, *],mu]at hr;exact aq _ (i+1) ⟨I6,hr⟩ I6 (Xs false [0,1] X0)
  ·rw[show mR x=false by simp[mR, *],mu]at hr;exact aq _ (i+1) ⟨I6,hr⟩ I6 (Xs false [0,1] X0)
 ·rw[cU I6,BE]at hr;subst hr;((repeat'(first|refine Va X0 ?_|(refine V2 X0 ?_ ?_<;>try with_reducible intro hb)|(refine Xi ?_ ?_<;>try intro ht)|exact Xx|fail)))
  refine au _ _ rfl ?_;clear aq au Ql;repeat(refine Xu ?_)
  ((repeat'(first|refine Vb (X2 @hqq @fZ) ?_|(refine Xi ?_ ?_<;>try intro ht)|fail)))
  all_goals refine aO rfl ?_
  all_goals rw[qc,iq,iq]
  ·rw[decide_eq_true (p:=k=0) I6];simp
  all_goals rw[decide_eq_false (p:=k=0) I6,<- hO]
  all_goals(refine congrArg (λb=>AV.lit (Value.bool b)) ?_;rw[my];simp only[mu,m4,true_and,decide_eq_true_eq,beq_iff_eq,bne_iff_ne,ba,ke,jW,decide_eq_false_iff_not,jy,reduceCtorEq,iff_true,iff_false,true_iff,false_iff,eq_self];omega)
def aad(m:aj)(c:Ct)(hc:c.aS.length<9223372036854775808):an Tryz.prog 62 [.agg (av m),.agg (aK c)] [] (.lit (.bool (fN m c))) []:=by
 have GZ:=GL m c.aV;have mL:=GJ c.bM;generalize ao:fN m c=res;unfold fN at ao;generalize hD:decide (0<=c.most/\c.most<=1048576)=D at *;refine an.aF 85 0 [.tmp 4] Tryz.func62 ?_;((repeat'(first|refine Vd X0 (X2 GZ mL) ?_|(refine V2 X0 ?_ ?_<;>try with_reducible intro hb)|(refine Xi ?_ ?_<;>try intro ht)|exact Xx|fail)))
 all_goals try(refine aO rfl ?_;first|(rw[<- ao,hb];rfl)|(rw[<- ao,show D=false by rw[<- hD];exact decide_eq_false I6];simp;done)|(rw[<- ao,ht];simp;done))
 have GY:D=true:=by rw[<- hD];exact decide_eq_true I6
 subst GY;have dL:(ij m.rules c.aV&&true&&iF c.bM)=true:=by simp[*]
 rw[dL,iq]at ao;refine aW (λk:Nat=>(⟨ax [(2,.ptr 0 0 0),(3,.ptr 1 0 0),(5,aa3 k)],[.var (av m),.var (aK c)]⟩:St)) (λk=>k<=c.aS.length/\dm m (kr c.aS k) (c.aS.drop k)=res) (λk=>c.aS.length-k) 0 ⟨aQ _,ao⟩ (Xv X0) ?_;rintro k⟨hk,hr⟩Ql aq au;by_cases aJ:k<c.aS.length
 ·have hd:=cS c.aS k default aJ;generalize bb:c.aS.getD k default=x at *;rw[hd,QL]at hr;have fZ:((k:Int)-1).toNat=k-1:=I6;generalize cG:c.aS.getD (k-1) default=y at *;generalize aP:gW m x.cls x.opt=ob at *;have ve:=ZX m x.cls x.opt;rw[aP]at ve;generalize hW:decide (1<=x.wt/\x.wt<=1000)=wb at *;generalize hO:decide (rf y x<0)=O at *;have Rb:O=true↔y.cls<x.cls\/(y.cls=x.cls/\y.opt<x.opt):=by rw[<- hO,decide_eq_true_eq,Dj]
  ((repeat'(first|refine Vc (X3 @bb @cG @fZ) ve ?_|(refine V2 (X3 @bb @cG @fZ) ?_ ?_<;>try with_reducible intro hb)|(refine Xi ?_ ?_<;>try intro ht)|exact Xx|fail)))
  iterate 5
   ·obtain rfl:res=false:=by
     rw[<- hr];first
      | (rw[show ob=false by assumption];rfl)
      | (rw[show wb=false by rw[<- hW];exact decide_eq_false I6];simp;done)
      | (rw[decide_eq_false (p:=k=0) I6,show O=false from Bool.eq_false_iff.2 λh=>by have:=Rb.1 h;omega];simp;done)
    ((repeat'(first|refine Vb X0 ?_|fail)))
    exact aO rfl rfl
  all_goals
   refine aq _ (k+1) ⟨I6,?_⟩ I6 (Xs false [0,1] X0);rw[sA,bb,<- hr,show ob=true by assumption,show wb=true by rw[<- hW];exact decide_eq_true I6];first
    | (rw[Rb.2 I6];simp;done)
    | (rw[decide_eq_true (p:=k=0) I6];simp;done)
 ·rw[cU I6,dm]at hr;subst hr;((repeat'(first|refine Va X0 ?_|(refine Xi ?_ ?_<;>try intro ht)|exact Xx|fail)))
  refine au _ _ rfl ?_;clear aq au Ql;repeat(refine Xu ?_)
  refine Vb X0 ?_;exact aO rfl rfl
def aae(m:aj)(hm:MB m):an Tryz.prog 25 [.agg (av m)] [] (aa3 (eJ m)) []:=by
 generalize ao:eJ m=res;unfold eJ at ao;have vc:=hm.cls;have vd:=hm.ae;have Ra:=hm.ar;have Rd:=Z9 m hm;generalize wM:qa m=lb at *;cases lb;rotate_left
 ·rw[if_pos rfl]at ao;subst ao;refine an.aF 105 0 [.tmp 2] Tryz.func25 ?_;((repeat'(first|refine Vd @lA Rd ?_|(refine Xi ?_ ?_<;>try intro ht)|exact Xx|fail)))
  all_goals first|exact aO rfl rfl|(exfalso;simp at *;done)
 rw[if_neg Jd]at ao;have a6:m.cls.length<=24/\∀ l∈m.cls,l.length<=24:=by
  have h:=wM;unfold qa at h;rw[decide_eq_false_iff_not]at h;refine⟨I6,λl hl=>?_⟩;rcases eh 24 l.length with h1|h1
  ·exact absurd (.inr (.inl (List.any_eq_true.2 ⟨l,hl,by simpa using h1⟩))) h
  ·exact h1
 generalize h1:(m.cls.any λl=>l.any λo=>!db m.rules none o.ch)=b1 at *;refine an.aF 105 0 [.tmp 2] Tryz.func25 ?_;((repeat'(first|refine Vd @m4 Rd ?_|(refine Xi ?_ ?_<;>try intro ht)|exact Xx|fail)))
 refine aW (λi:Nat=>(⟨ax [(1,.ptr 0 0 0),(3,aa3 i)],[.var (av m)]⟩:St)) (λi=>i<=m.cls.length/\((m.cls.drop i).any λl=>l.any λo=>!db m.rules none o.ch)=b1) (λi=>m.cls.length-i) 0 ⟨aQ _,h1⟩ (Xv X0) ?_;rintro i⟨hi,hr⟩Ql aq au;by_cases hi':i<m.cls.length
 ·have qd:=aC (d:=(default:List br)) hi';have iz:=hm.opt _ qd;have cy:=hm.ch _ qd;have vf:=a6.2 _ qd;rw[Az hi']at hr;generalize iT:m.cls.getD i default=l at *;generalize G0:((m.cls.drop (i+1)).any λl=>l.any λo=>!db m.rules none o.ch)=rest at *;((repeat'(first|refine Va X0 ?_|(refine Xi ?_ ?_<;>try intro ht)|exact Xx|fail)))
  refine aW (λk:Nat=>(⟨ax [(1,.ptr 0 0 0),(3,aa3 i),(4,aa3 k)],[.var (av m)]⟩:St)) (λk=>k<=l.length/\(((l.drop k).any λo=>!db m.rules none o.ch)||rest)=b1) (λk=>l.length-k) 0 ⟨aQ _,hr⟩ (Xv X0) ?_;clear hr;rintro k⟨hk,hr⟩eR bX bQ;by_cases aJ:k<l.length
  ·have dZ:=aC (d:=(default:br)) aJ;have eC:=cy _ dZ;rw[Az aJ]at hr;generalize me:l.getD k default=o at *;generalize Re:((l.drop (k+1)).any λo=>!db m.rules none o.ch)=aaf at *;((repeat'(first|refine Va (X2 @iT @me) ?_|(refine Xi ?_ ?_<;>try intro ht)|exact Xx|fail)))
   refine aW (λj:Nat=>(⟨ax [(1,.ptr 0 0 0),(3,aa3 i),(4,aa3 k),(5,.tree 2 (rowsOf bz o.ch)),(6,aa3 j)],[.var (av m)]⟩:St)) (λj=>j<=o.ch.length/\(!db m.rules (kr o.ch j) (o.ch.drop j)||aaf||rest)=b1) (λj=>o.ch.length-j) 0 ⟨aQ _,hr⟩ (Xv X0) ?_;clear hr;rintro j⟨hj,hr⟩lM gw eK;by_cases dG:j<o.ch.length
   ·have hd:=cS o.ch j default dG;generalize bb:o.ch.getD j default=c at *;rw[hd,QJ]at hr;have fZ:((j:Int)-1).toNat=j-1:=I6;generalize cG:o.ch.getD (j-1) default=q at *;have cD:=GL m c.1;generalize NS:ij m.rules c.1=rb at *;have cE:=GJ c.2;generalize ef:iF c.2=pb at *;((repeat'(first|refine Vc (X3 @bb @cG @fZ) (X2 cD cE) ?_|(refine V2 (X3 @bb @cG @fZ) ?_ ?_<;>try with_reducible intro hb)|(refine Xi ?_ ?_<;>try intro ht)|exact Xx|fail)))
    iterate 3
     ·obtain rfl:b1=true:=by
       rw[<- hr];first
        | (rw[show rb=false by assumption];rfl)
        | (rw[show pb=false by assumption];simp;done)
        | (rw[decide_eq_false (p:=j=0) I6,decide_eq_false (p:=q.1<c.1) I6];simp;done)
      rw[if_pos rfl]at ao;repeat(refine Xu ?_)
      ((repeat'(first|refine Vb X0 ?_|fail)))
      exact aO rfl (by rw[ao])
    all_goals
     refine gw _ (j+1) ⟨I6,?_⟩ I6 (Xv X0);rw[sA,bb,<- hr,show rb=true by assumption,show pb=true by assumption];first
      | (rw[decide_eq_true (p:=q.1<c.1) I6];simp;done)
      | (rw[decide_eq_true (p:=j=0) I6];simp;done)
   ·rw[cU I6,db]at hr;simp only[lA,mu]at hr;((repeat'(first|refine Va X0 ?_|(refine Xi ?_ ?_<;>try intro ht)|exact Xx|fail)))
    refine eK _ _ rfl ?_;clear gw eK lM;repeat(refine Xu ?_)
    refine Va X0 ?_;exact bX _ (k+1) ⟨I6,by rw[Re];exact hr⟩ I6 (Xv X0)
  ·rw[cU I6,BE,mu]at hr;((repeat'(first|refine Va @iT ?_|(refine Xi ?_ ?_<;>try intro ht)|exact Xx|fail)))
   refine bQ _ _ rfl ?_;clear bX bQ eR;repeat(refine Xu ?_)
   refine Va X0 ?_;exact aq _ (i+1) ⟨I6,by rw[G0];exact hr⟩ I6 (Xv X0)
 rw[cU I6,BE]at hr;subst hr;rw[if_neg Jd]at ao;((repeat'(first|refine Va X0 ?_|(refine Xi ?_ ?_<;>try intro ht)|exact Xx|fail)))
 refine au _ _ rfl ?_;clear aq au Ql;clear hi hi';repeat(refine Xu ?_)
 refine Vb X0 ?_;refine aW (λk:Nat=>(⟨ax [(1,.ptr 0 0 0),(7,aa3 k)],[.var (av m)]⟩:St)) (λk=>k<=m.ae.length/\dW m none m.ae=dW m (kr m.ae k) (m.ae.drop k)) (λk=>m.ae.length-k) 0 ⟨aQ _,rfl⟩ (Xv X0) ?_;rintro k⟨hk,hr⟩Ql aq au;by_cases aJ:k<m.ae.length
 ·have hd:=cS m.ae k default aJ;have mL:=aaa m k aJ hm.ay a6.2 a6.1 hm.ae;rw[hd,QK]at hr;generalize (eS m (m.ae.getD k default)&&(decide (k=0)||decide (mh (m.ae.getD (k-1) default) (m.ae.getD k default)<0)))=pb at *;((repeat'(first|refine Vc X0 mL ?_|(refine Xi ?_ ?_<;>try intro ht)|exact Xx|fail)))
  ·obtain rfl:pb=false:=by assumption
   rw[Bool.false_and]at hr;rw[if_pos hr]at ao;subst ao;refine Vb X0 ?_;exact aO rfl rfl
  ·obtain rfl:pb=true:=by assumption
   rw[iq]at hr;exact aq _ (k+1) ⟨I6,by rw[sA];exact hr⟩ I6 (Xv X0)
 rw[cU I6,dW]at hr;rw[if_neg (by rw[hr];simp)]at ao;((repeat'(first|refine Va X0 ?_|(refine Xi ?_ ?_<;>try intro ht)|exact Xx|fail)))
 refine au _ _ rfl ?_;clear aq au Ql;clear hr hk aJ;repeat(refine Xu ?_)
 refine Vb X0 ?_;generalize h2:(m.ar.any λc=>!fN m c)=b2 at *;refine aW (λk:Nat=>(⟨ax [(1,.ptr 0 0 0),(8,aa3 k)],[.var (av m)]⟩:St)) (λk=>k<=m.ar.length/\((m.ar.drop k).any λc=>!fN m c)=b2) (λk=>m.ar.length-k) 0 ⟨aQ _,h2⟩ (Xv X0) ?_;rintro k⟨hk,hr⟩Ql aq au;by_cases aJ:k<m.ar.length
 ·have gK:=aC (d:=(default:Ct)) aJ;have iT:=hm.ku _ gK;rw[Az aJ]at hr;generalize bb:m.ar.getD k default=c at *;have pd:=aad m c iT;generalize fN m c=cb at *;((repeat'(first|refine Vc @bb pd ?_|(refine Xi ?_ ?_<;>try intro ht)|exact Xx|fail)))
  ·obtain rfl:cb=false:=by assumption
   simp only[m4,rQ]at hr;rw[if_pos hr.symm]at ao;subst ao;refine Vb X0 ?_;exact aO rfl rfl
  ·obtain rfl:cb=true:=by assumption
   rw[lA,mu]at hr;exact aq _ (k+1) ⟨I6,hr⟩ I6 (Xv X0)
 rw[cU I6,BE]at hr;subst hr;rw[if_neg Jd]at ao;subst ao;((repeat'(first|refine Va X0 ?_|(refine Xi ?_ ?_<;>try intro ht)|exact Xx|fail)))
 refine au _ _ rfl ?_;clear aq au Ql;repeat(refine Xu ?_)
 refine Vb X0 ?_;exact aO rfl rfl
end T

