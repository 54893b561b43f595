import Derived.Test.YtdipcmigdbnheaaGreatX10
set_option linter.all false
set_option maxHeartbeats 0
set_option maxRecDepth 20000
open Nat renaming zero_le→aI,lt_or_ge→fK
open Bool renaming true_or→uB,false_or→ma,eq_iff_iff→mI,and_eq_true→bw,or_eq_true→l9,not_eq_true'→ld,false_eq_true→jQ,true_and→eQ,not_false→je,not_true→gT
open List renaming drop_eq_nil_of_le→cR,any_nil→GP
open Go Go.Am Go.Proofs
namespace T
def ahN(m:aj)(hm:MB m):ao Tryz.prog 58 [.agg (aq m)] [] (.lit (.bool (!ue m))) []:=by
 have rR:=hm.cls;have rS:=hm.ae;have MT:=hm.av;unfold ue;generalize vx:m.cls.any (λl=>decide (24<l.length))=b;refine ao.aD 44 0 [.tmp 2] Tryz.func58 ?_;refine Vb X0 ?_;refine aM (λi:Nat=>(⟨aw [(1,.ptr 0 0 0),(3,aaC i)],[.var (aq m)]⟩:St)) (λi=>i<=m.cls.length/\(m.cls.drop i).any (λl=>decide (24<l.length))=b) (λi=>m.cls.length-i) 0 ⟨aI _,vx⟩ (Xv X0) ?_;rintro i⟨hi,hr⟩Ql an ar;by_cases hi':i<m.cls.length
 ·have jv:=hm.opt _ (ay (d:=(default:List bU)) hi');rw[E6 hi']at hr;generalize e7:m.cls.getD i default=l at *;((repeat'(first|refine Va @e7 ?_|(refine Xi ?_ ?_<;>try intro ht)|exact Xx|fail)))
  ·rw[decide_eq_true (p:=24<l.length) GC,uB]at hr;subst hr;refine Vb X0 ?_;exact aE rfl GF
  ·rw[decide_eq_false (p:=24<l.length) GC,ma]at hr;exact an _ (i+1) ⟨GC,hr⟩ GC (Xv X0)
 ·rw[cR GC,GP]at hr;subst hr;((repeat'(first|refine Va X0 ?_|(refine Xi ?_ ?_<;>try intro ht)|exact Xx|fail)))
  refine ar _ _ rfl ?_;clear an ar Ql;repeat(refine Xu ?_)
  ((repeat'(first|refine Vb X0 ?_|(refine V2 X0 ?_ ?_<;>try with_reducible intro hb)|fail)))
  all_goals refine aE rfl ?_
  all_goals(refine congrArg (λb=>AV.lit (Value.bool b)) ?_;rw[mI];simp only[or_true,true_or,or_false,false_or,decide_eq_true_eq,beq_iff_eq,bne_iff_ne,bw,l9,ld,decide_eq_false_iff_not,jQ,reduceCtorEq,iff_true,iff_false,true_iff,false_iff,eq_self];omega)
def ahO(m:aj)(k:Nat)(hk:k<m.ae.length)(hp:∀ p∈m.ae,p.aB.length<9223372036854775808)(hm:∀ l∈m.cls,l.length<=24)(hl:m.cls.length<=24)(cu:m.ae.length<9223372036854775808):
  ao Tryz.prog 61 [.agg (aq m),aaC k] [] (.lit (.bool (gH m (m.ae.getD k default)&&(decide (k=0)||decide (po (m.ae.getD (k-1) default) (m.ae.getD k default)<0))))) []:=by
 have jb:((k:Int)-1).toNat=k-1:=GC;have IC:=hp _ (ay (d:=(default:Pr)) hk);generalize b6:m.ae.getD k default=p at *;generalize MU:m.ae.getD (k-1) default=q at *;have hg:∀ i,(m.cls.getD i default).length<=24:=λi=>by
  rcases fK i m.cls.length with h|h
  ·exact hm _ (ay h)
  ·rw[List.getD_eq_getElem?_getD,List.getElem?_eq_none h];decide
 have h1:=hg p.fst.toNat;have h2:=hg p.snd.toNat;have hmul:(0:Int)<=(m.cls.getD p.fst.toNat default).length*(m.cls.getD p.snd.toNat default).length/\((m.cls.getD p.fst.toNat default).length:Int)*(m.cls.getD p.snd.toNat default).length<=24*24:=⟨Int.mul_nonneg GC GC,Int.mul_le_mul GC GC GC GC⟩;have ahP:decide (po q p<0)=(decide (q.bz<p.bz)||decide (q.bz=p.bz)&&(decide (q.fst<p.fst)||decide (q.fst=p.fst)&&decide (q.snd<p.snd))):=by
  rw[mI];simp only[decide_eq_true_eq,l9,bw,MH]
 have oI:=MF m p.bz;rw[ahP];unfold gH;generalize vx:p.aB.any pY=bad;generalize xR:((m.cls.getD p.fst.toNat default).length:Int)*(m.cls.getD p.snd.toNat default).length=mm at *;generalize hD:decide (0<=p.fst/\p.fst<p.snd/\p.snd<m.cls.length/\(p.aB.length:Int)=mm)=D;generalize hO:(decide (q.bz<p.bz)||decide (q.bz=p.bz)&&(decide (q.fst<p.fst)||decide (q.fst=p.fst)&&decide (q.snd<p.snd)))=O;refine ao.aD 114 0 [.tmp 4] Tryz.func61 ?_;((repeat'(first|refine Vd (X2 @b6 @xR) oI ?_|(refine V2 (X2 @b6 @xR) ?_ ?_<;>try with_reducible intro hb)|(refine Xi ?_ ?_<;>try intro ht)|exact Xx|fail)))
 all_goals try(refine aE rfl ?_;first|(rw[hb];rfl)|(rw[show D=false by rw[<- hD];exact decide_eq_false GC];simp;done))
 have MV:D=true:=by rw[<- hD];exact decide_eq_true GC
 subst MV;have sj:jI m.rules p.bz=true:=by assumption
 refine aM (λi:Nat=>(⟨aw [(1,aaC k),(2,.ptr 0 0 0),(5,.ptr 1 0 0),(6,aaC i)],[.var (aq m),.var (aP p)]⟩:St)) (λi=>i<=p.aB.length/\(p.aB.drop i).any pY=bad) (λi=>p.aB.length-i) 0 ⟨aI _,vx⟩ (Xv X0) ?_;rintro i⟨hi,hr⟩Ql an ar;by_cases hi':i<p.aB.length
 ·rw[cP p.aB i 0 hi',List.any_cons]at hr;generalize aS:p.aB.getD i 0=x at *;((repeat'(first|refine Vc @aS (MD x) ?_|(refine V2 @aS ?_ ?_<;>try with_reducible intro hb)|(refine Xi ?_ ?_<;>try intro ht)|exact Xx|fail)))
  ·rw[show pY x=true by simp[pY, *],uB]at hr;subst hr;refine Vb X0 ?_;exact aE rfl GF
  ·rw[show pY x=false by simp[pY, *],ma]at hr;exact an _ (i+1) ⟨GC,hr⟩ GC (Xs false [0,1] X0)
  ·rw[show pY x=false by simp[pY, *],ma]at hr;exact an _ (i+1) ⟨GC,hr⟩ GC (Xs false [0,1] X0)
 ·rw[cR GC,GP]at hr;subst hr;((repeat'(first|refine Va X0 ?_|(refine V2 X0 ?_ ?_<;>try with_reducible intro hb)|(refine Xi ?_ ?_<;>try intro ht)|exact Xx|fail)))
  refine ar _ _ rfl ?_;clear an ar Ql;repeat(refine Xu ?_)
  ((repeat'(first|refine Vb (X2 @MU @jb) ?_|(refine Xi ?_ ?_<;>try intro ht)|fail)))
  all_goals refine aE rfl ?_
  all_goals rw[sj,eQ,eQ]
  ·rw[decide_eq_true (p:=k=0) GC];simp
  all_goals rw[decide_eq_false (p:=k=0) GC,<- hO]
  all_goals(refine congrArg (λb=>AV.lit (Value.bool b)) ?_;rw[mI];simp only[ma,je,true_and,decide_eq_true_eq,beq_iff_eq,bne_iff_ne,bw,l9,ld,decide_eq_false_iff_not,jQ,reduceCtorEq,iff_true,iff_false,true_iff,false_iff,eq_self];omega)
def ahQ(m:aj)(c:Ct)(hc:c.aH.length<9223372036854775808):ao Tryz.prog 62 [.agg (aq m),.agg (aV c)] [] (.lit (.bool (iQ m c))) []:=by
 have MW:=MF m c.bz;have ky:=MD c.bM;generalize ak:iQ m c=res;unfold iQ at ak;generalize hD:decide (0<=c.most/\c.most<=1048576)=D at *;refine ao.aD 85 0 [.tmp 4] Tryz.func62 ?_;((repeat'(first|refine Vd X0 (X2 MW ky) ?_|(refine V2 X0 ?_ ?_<;>try with_reducible intro hb)|(refine Xi ?_ ?_<;>try intro ht)|exact Xx|fail)))
 all_goals try(refine aE rfl ?_;first|(rw[<- ak,hb];rfl)|(rw[<- ak,show D=false by rw[<- hD];exact decide_eq_false GC];simp;done)|(rw[<- ak,ht];simp;done))
 have MV:D=true:=by rw[<- hD];exact decide_eq_true GC
 subst MV;have ez:(jI m.rules c.bz&&true&&jY c.bM)=true:=by simp[*]
 rw[ez,eQ]at ak;refine aM (λk:Nat=>(⟨aw [(2,.ptr 0 0 0),(3,.ptr 1 0 0),(5,aaC k)],[.var (aq m),.var (aV c)]⟩:St)) (λk=>k<=c.aH.length/\eI m (mU c.aH k) (c.aH.drop k)=res) (λk=>c.aH.length-k) 0 ⟨aI _,ak⟩ (Xv X0) ?_;rintro k⟨hk,hr⟩Ql an ar;by_cases aK:k<c.aH.length
 ·have hd:=cP c.aH k default aK;generalize aR:c.aH.getD k default=x at *;rw[hd,Yz]at hr;have jb:((k:Int)-1).toNat=k-1:=GC;generalize b6:c.aH.getD (k-1) default=y at *;generalize bk:eW m x.cls x.opt=ob at *;have kA:=E1 m x.cls x.opt;rw[bk]at kA;generalize hW:decide (1<=x.wt/\x.wt<=1000)=wb at *;generalize hO:decide (vw y x<0)=O at *;have YZ:O=true↔y.cls<x.cls\/(y.cls=x.cls/\y.opt<x.opt):=by rw[<- hO,decide_eq_true_eq,Iv]
  ((repeat'(first|refine Vc (X3 @aR @b6 @jb) kA ?_|(refine V2 (X3 @aR @b6 @jb) ?_ ?_<;>try with_reducible intro hb)|(refine Xi ?_ ?_<;>try intro ht)|exact Xx|fail)))
  iterate 5
   ·obtain rfl:res=false:=by
     rw[<- hr];first
      | (rw[show ob=false by assumption];rfl)
      | (rw[show wb=false by rw[<- hW];exact decide_eq_false GC];simp;done)
      | (rw[decide_eq_false (p:=k=0) GC,show O=false from Bool.eq_false_iff.2 λh=>by have:=YZ.1 h;omega];simp;done)
    ((repeat'(first|refine Vb X0 ?_|fail)))
    exact aE rfl rfl
  all_goals
   refine an _ (k+1) ⟨GC,?_⟩ GC (Xs false [0,1] X0);rw[wB,aR,<- hr,show ob=true by assumption,show wb=true by rw[<- hW];exact decide_eq_true GC];first
    | (rw[YZ.2 GC];simp;done)
    | (rw[decide_eq_true (p:=k=0) GC];simp;done)
 ·rw[cR GC,eI]at hr;subst hr;((repeat'(first|refine Va X0 ?_|(refine Xi ?_ ?_<;>try intro ht)|exact Xx|fail)))
  refine ar _ _ rfl ?_;clear an ar Ql;repeat(refine Xu ?_)
  refine Vb X0 ?_;exact aE rfl rfl
def wx(m:aj)(hm:MB m):ao Tryz.prog 25 [.agg (aq m)] [] (aaC (df m)) []:=by
 generalize ak:df m=res;unfold df at ak;have rR:=hm.cls;have rS:=hm.ae;have MT:=hm.av;have Y1:=ahN m hm;generalize vq:ue m=lb at *;cases lb;rotate_left
 ·rw[if_pos rfl]at ak;subst ak;refine ao.aD 105 0 [.tmp 2] Tryz.func25 ?_;((repeat'(first|refine Vd @gT Y1 ?_|(refine Xi ?_ ?_<;>try intro ht)|exact Xx|fail)))
  all_goals first|exact aE rfl rfl|(exfalso;simp at *;done)
 rw[if_neg GF]at ak;have bx:m.cls.length<=24/\∀ l∈m.cls,l.length<=24:=by
  have h:=vq;unfold ue at h;rw[decide_eq_false_iff_not]at h;refine⟨GC,λl hl=>?_⟩;rcases fK 24 l.length with h1|h1
  ·exact absurd (.inr (.inl (List.any_eq_true.2 ⟨l,hl,by simpa using h1⟩))) h
  ·exact h1
 generalize h1:(m.cls.any λl=>l.any λo=>!eo m.rules none o.ch)=b1 at *;refine ao.aD 105 0 [.tmp 2] Tryz.func25 ?_;((repeat'(first|refine Vd @je Y1 ?_|(refine Xi ?_ ?_<;>try intro ht)|exact Xx|fail)))
 refine aM (λi:Nat=>(⟨aw [(1,.ptr 0 0 0),(3,aaC i)],[.var (aq m)]⟩:St)) (λi=>i<=m.cls.length/\((m.cls.drop i).any λl=>l.any λo=>!eo m.rules none o.ch)=b1) (λi=>m.cls.length-i) 0 ⟨aI _,h1⟩ (Xv X0) ?_;rintro i⟨hi,hr⟩Ql an ar;by_cases hi':i<m.cls.length
 ·have qP:=ay (d:=(default:List bU)) hi';have fZ:=hm.opt _ qP;have cm:=hm.ch _ qP;have s6:=bx.2 _ qP;rw[E6 hi']at hr;generalize e7:m.cls.getD i default=l at *;generalize MX:((m.cls.drop (i+1)).any λl=>l.any λo=>!eo m.rules none o.ch)=rest at *;((repeat'(first|refine Va X0 ?_|(refine Xi ?_ ?_<;>try intro ht)|exact Xx|fail)))
  refine aM (λk:Nat=>(⟨aw [(1,.ptr 0 0 0),(3,aaC i),(4,aaC k)],[.var (aq m)]⟩:St)) (λk=>k<=l.length/\(((l.drop k).any λo=>!eo m.rules none o.ch)||rest)=b1) (λk=>l.length-k) 0 ⟨aI _,hr⟩ (Xv X0) ?_;clear hr;rintro k⟨hk,hr⟩cJ ba bd;by_cases aK:k<l.length
  ·have fj:=ay (d:=(default:bU)) aK;have ek:=cm _ fj;rw[E6 aK]at hr;generalize kY:l.getD k default=o at *;generalize Y2:((l.drop (k+1)).any λo=>!eo m.rules none o.ch)=ahR at *;((repeat'(first|refine Va (X2 @e7 @kY) ?_|(refine Xi ?_ ?_<;>try intro ht)|exact Xx|fail)))
   refine aM (λj:Nat=>(⟨aw [(1,.ptr 0 0 0),(3,aaC i),(4,aaC k),(5,.tree 2 (rowsOf aL o.ch)),(6,aaC j)],[.var (aq m)]⟩:St)) (λj=>j<=o.ch.length/\(!eo m.rules (mU o.ch j) (o.ch.drop j)||ahR||rest)=b1) (λj=>o.ch.length-j) 0 ⟨aI _,hr⟩ (Xv X0) ?_;clear hr;rintro j⟨hj,hr⟩lB fQ eV;by_cases db:j<o.ch.length
   ·have hd:=cP o.ch j default db;generalize aR:o.ch.getD j default=c at *;rw[hd,Yx]at hr;have jb:((j:Int)-1).toNat=j-1:=GC;generalize b6:o.ch.getD (j-1) default=q at *;have cD:=MF m c.1;generalize tY:jI m.rules c.1=rb at *;have cu:=MD c.2;generalize dE:jY c.2=pb at *;((repeat'(first|refine Vc (X3 @aR @b6 @jb) (X2 cD cu) ?_|(refine V2 (X3 @aR @b6 @jb) ?_ ?_<;>try with_reducible intro hb)|(refine Xi ?_ ?_<;>try intro ht)|exact Xx|fail)))
    iterate 3
     ·obtain rfl:b1=true:=by
       rw[<- hr];first
        | (rw[show rb=false by assumption];rfl)
        | (rw[show pb=false by assumption];simp;done)
        | (rw[decide_eq_false (p:=j=0) GC,decide_eq_false (p:=q.1<c.1) GC];simp;done)
      rw[if_pos rfl]at ak;repeat(refine Xu ?_)
      ((repeat'(first|refine Vb X0 ?_|fail)))
      exact aE rfl (by rw[ak])
    all_goals
     refine fQ _ (j+1) ⟨GC,?_⟩ GC (Xv X0);rw[wB,aR,<- hr,show rb=true by assumption,show pb=true by assumption];first
      | (rw[decide_eq_true (p:=q.1<c.1) GC];simp;done)
      | (rw[decide_eq_true (p:=j=0) GC];simp;done)
   ·rw[cR GC,eo]at hr;simp only[gT,ma]at hr;((repeat'(first|refine Va X0 ?_|(refine Xi ?_ ?_<;>try intro ht)|exact Xx|fail)))
    refine eV _ _ rfl ?_;clear fQ eV lB;repeat(refine Xu ?_)
    refine Va X0 ?_;exact ba _ (k+1) ⟨GC,by rw[Y2];exact hr⟩ GC (Xv X0)
  ·rw[cR GC,GP,ma]at hr;((repeat'(first|refine Va @e7 ?_|(refine Xi ?_ ?_<;>try intro ht)|exact Xx|fail)))
   refine bd _ _ rfl ?_;clear ba bd cJ;repeat(refine Xu ?_)
   refine Va X0 ?_;exact an _ (i+1) ⟨GC,by rw[MX];exact hr⟩ GC (Xv X0)
 rw[cR GC,GP]at hr;subst hr;rw[if_neg GF]at ak;((repeat'(first|refine Va X0 ?_|(refine Xi ?_ ?_<;>try intro ht)|exact Xx|fail)))
 refine ar _ _ rfl ?_;clear an ar Ql;clear hi hi';repeat(refine Xu ?_)
 refine Vb X0 ?_;refine aM (λk:Nat=>(⟨aw [(1,.ptr 0 0 0),(7,aaC k)],[.var (aq m)]⟩:St)) (λk=>k<=m.ae.length/\fH m none m.ae=fH m (mU m.ae k) (m.ae.drop k)) (λk=>m.ae.length-k) 0 ⟨aI _,rfl⟩ (Xv X0) ?_;rintro k⟨hk,hr⟩Ql an ar;by_cases aK:k<m.ae.length
 ·have hd:=cP m.ae k default aK;have ky:=ahO m k aK hm.aB bx.2 bx.1 hm.ae;rw[hd,Yy]at hr;generalize (gH m (m.ae.getD k default)&&(decide (k=0)||decide (po (m.ae.getD (k-1) default) (m.ae.getD k default)<0)))=pb at *;((repeat'(first|refine Vc X0 ky ?_|(refine Xi ?_ ?_<;>try intro ht)|exact Xx|fail)))
  ·obtain rfl:pb=false:=by assumption
   rw[Bool.false_and]at hr;rw[if_pos hr]at ak;subst ak;refine Vb X0 ?_;exact aE rfl rfl
  ·obtain rfl:pb=true:=by assumption
   rw[eQ]at hr;exact an _ (k+1) ⟨GC,by rw[wB];exact hr⟩ GC (Xv X0)
 rw[cR GC,fH]at hr;rw[if_neg (by rw[hr];simp)]at ak;((repeat'(first|refine Va X0 ?_|(refine Xi ?_ ?_<;>try intro ht)|exact Xx|fail)))
 refine ar _ _ rfl ?_;clear an ar Ql;clear hr hk aK;repeat(refine Xu ?_)
 refine Vb X0 ?_;generalize h2:(m.av.any λc=>!iQ m c)=b2 at *;refine aM (λk:Nat=>(⟨aw [(1,.ptr 0 0 0),(8,aaC k)],[.var (aq m)]⟩:St)) (λk=>k<=m.av.length/\((m.av.drop k).any λc=>!iQ m c)=b2) (λk=>m.av.length-k) 0 ⟨aI _,h2⟩ (Xv X0) ?_;rintro k⟨hk,hr⟩Ql an ar;by_cases aK:k<m.av.length
 ·have fi:=ay (d:=(default:Ct)) aK;have e7:=hm.mW _ fi;rw[E6 aK]at hr;generalize aR:m.av.getD k default=c at *;have oM:=ahQ m c e7;generalize iQ m c=cb at *;((repeat'(first|refine Vc @aR oM ?_|(refine Xi ?_ ?_<;>try intro ht)|exact Xx|fail)))
  ·obtain rfl:cb=false:=by assumption
   simp only[je,uB]at hr;rw[if_pos hr.symm]at ak;subst ak;refine Vb X0 ?_;exact aE rfl rfl
  ·obtain rfl:cb=true:=by assumption
   rw[gT,ma]at hr;exact an _ (k+1) ⟨GC,hr⟩ GC (Xv X0)
 rw[cR GC,GP]at hr;subst hr;rw[if_neg GF]at ak;subst ak;((repeat'(first|refine Va X0 ?_|(refine Xi ?_ ?_<;>try intro ht)|exact Xx|fail)))
 refine ar _ _ rfl ?_;clear an ar Ql;repeat(refine Xu ?_)
 refine Vb X0 ?_;exact aE rfl rfl
end T

