import Derived.Test.YtjadfapldkfbpaaGreatX13
import Derived.Test.YtjadfapldkfbpaaGreatX16
set_option linter.all false
set_option maxHeartbeats 0
set_option maxRecDepth 20000
open Bool renaming eq_iff_iff→mR,and_eq_true→bk,or_eq_true→kB,not_eq_true'→kz,false_eq_true→ju,true_and→eX,true_or→qg,false_and→jE,or_false→yL,and_false→PZ,or_true→xr,eq_false_iff→BW,not_true→iZ
open Nat renaming zero_le→aF,lt_or_ge→fN,le_refl→aR,not_lt_zero→mQ
open List renaming drop_eq_nil_of_le→cM,getD_eq_getElem?_getD→aG,take_zero→ky,getElem_of_mem→ry,length_take→fy,getElem?_eq_getElem→bT,all_eq_true→gV,take_length→sH,length_drop→xq
open Go Go.Am Go.Proofs
namespace T
def agO(l:List bV):an Tryz.prog 87 [.tree 6 (rowsOf cK l)] [] (.lit (.bool (decide (24<l.length)))) []:=by
 refine an.aC 6 0 [.tmp 2] Tryz.func87 ?_;repeat'(first|(refine Xr X0 ?_;intro K hK)|(refine hK _ ?_;clear hK K)|refine Xz ?_|(refine Xe ?_;first|refine aE rfl ?_|refine Xl ?_ ?_)|fail)
 (refine congrArg (λb=>AV.lit (Value.bool b)) ?_;rw[mR];simp only[gt_iff_lt,decide_eq_true_eq,beq_iff_eq,bne_iff_ne,bk,kB,kz,decide_eq_false_iff_not,ju,reduceCtorEq,iff_true,iff_false,true_iff,false_iff,eq_self];omega)
def agP(m:ah)(hm:MB m):an Tryz.prog 40 [.agg (ao m)] [] (.lit (.bool (tU m))) []:=by
 have h1:=hm.cls;have h2:=af2 m.cls 87 [] [] (λl=>decide (24<l.length)) h1 (λx _=>by simpa using agO x);unfold tU;generalize m.cls.any (λl=>decide (24<l.length))=b at *;cases b;all_goals refine an.aC 36 0 [.tmp 2] Tryz.func40 ?_
 all_goals repeat'(first|(refine Xq X0 ?_;intro K hK)|refine Xo X0 ?_|refine Xc (h2) ?_|(refine hK _ ?_;clear hK K)|(refine Xg X0 ?_ ?_<;>try intro hb)|refine Xz ?_|(refine Xe ?_;first|refine aE rfl ?_|refine Xl ?_ ?_)|fail)
 all_goals first|rfl|(simp;done)|(refine congrArg (λb=>AV.lit (Value.bool b)) ?_;rw[mR];simp only[or_true,true_or,or_false,false_or,decide_eq_true_eq,beq_iff_eq,bne_iff_ne,bk,kB,kz,decide_eq_false_iff_not,ju,reduceCtorEq,iff_true,iff_false,true_iff,false_iff,eq_self];omega)
def agQ(m:ah)(o:bV)(ho:o.ch.length<9223372036854775808):an Tryz.prog 43 [.agg (ao m),.agg (cK o)] [] (.lit (.bool (eH m.rules none o.ch))) []:=by
 generalize aj:eH m.rules none o.ch=res;refine an.aC 43 0 [.tmp 4] Tryz.func43 ?_;repeat'(first|(refine Xr X0 ?_;intro K hK)|(refine hK _ ?_;clear hK K)|refine Xz ?_|fail)
 refine aO (λk:Nat=>(⟨au [(2,.ptr 0 0 0),(3,.ptr 1 0 0),(8,.tree 2 (rowsOf aK o.ch)),(9,aaa o.ch.length),(10,aaa k)],[.var (ao m),.var (cK o)]⟩:St)) (λk=>k<=o.ch.length/\eH m.rules (mA o.ch k) (o.ch.drop k)=res) (λk=>o.ch.length-k) 0 ⟨aF _,aj⟩ (Xv X0) ?_;rintro k⟨hk,hr⟩Ql ak ar;by_cases aL:k<o.ch.length
 ·have hd:=cN o.ch k default aL;generalize aM:o.ch.getD k default=c at *;rw[hd,TQ]at hr;have IM:=My m c.1;have gv:((k:Int)-1).toNat=k-1:=G3;repeat'(first|(refine Xq (X2 @aM @gv) ?_;intro K hK)|refine Xo (X2 @aM @gv) ?_|refine Xc (IM) ?_|refine Xc (Mw c.2) ?_|(refine hK _ ?_;clear hK K)|(refine Xg (X2 @aM @gv) ?_ ?_<;>try intro hb)|(refine Xi ?_ ?_<;>try intro ht)|refine Xz ?_|refine Xh ?_|(refine Xe ?_;first|refine aE rfl ?_|refine Xl ?_ ?_)|refine Xd ?_ ?_|exact Xx|fail)
  ·rw[<- hr];simp[*]
  ·rw[<- hr];simp[*]
  ·rw[<- hr,decide_eq_false (p:=k=0) G3,decide_eq_false (p:=_<c.1) G3];simp
  ·refine ak _ (k+1) ⟨G3,?_⟩ G3 (Xs false [0,1] X0);rw[wy,aM,<- hr,decide_eq_true (p:=_<c.1) ht];simp[*]
  ·refine ak _ (k+1) ⟨G3,?_⟩ G3 (Xs false [0,1] X0);rw[wy,aM,<- hr,decide_eq_true (p:=k=0) G3];simp[*]
 ·repeat'(first|(refine Xr X0 ?_;intro K hK)|(refine hK _ ?_;clear hK K)|(refine Xi ?_ ?_<;>try intro ht)|refine Xz ?_|refine Xh ?_|(refine Xe ?_;first|refine aE rfl ?_|refine Xl ?_ ?_)|refine Xd ?_ ?_|exact Xx|fail)
  rw[cM G3,eH]at hr;rw[<- hr]
def agR(a b:Pr):an Tryz.prog 45 [.agg (aQ a),.agg (aQ b)] [] (aaa (o8 a b)) []:=by
 refine an.aC 22 0 [.tmp 4] Tryz.func45 ?_;repeat'(first|(refine Xr X0 ?_;intro K hK)|(refine hK _ ?_;clear hK K)|refine Xz ?_|fail)
 (try(refine Cw [4,9,14] rfl Kq (by decide +kernel) ?_);intro K hK;simp(disch:=omega)only[Ac,↓Pc,simprocAttr])
 repeat'(first|refine Xo X0 ?_|refine Xc (Wt _ _) ?_|fail)
 refine pI [] (Wu [pW a.bF b.bF,pW a.fst b.fst,pW a.snd b.snd] G9) Kq trivial ⟨aI.cp rfl (ny _) rfl Kq (oa _),trivial⟩ rfl G9 ?_;repeat'(first|refine Xo X0 ?_|(refine hK _ ?_;clear hK K)|refine Xz ?_|(refine Xe ?_;first|refine aE rfl ?_|refine Xl ?_ ?_)|fail)
 ·rfl
def agS(n:Int):an Tryz.prog 93 [aaa n] [] (.lit (.bool (pX n))) []:=by
 refine an.aC 10 0 [.tmp 2] Tryz.func93 ?_;repeat'(first|(refine Xq X0 ?_;intro K hK)|refine Xo X0 ?_|refine Xc (Mw n) ?_|(refine hK _ ?_;clear hK K)|(refine Xg X0 ?_ ?_<;>try intro hb)|refine Xz ?_|(refine Xe ?_;first|refine aE rfl ?_|refine Xl ?_ ?_)|fail)
 all_goals(simp[pX, *]<;>omega)
def agT(m:ah)(p:Pr)(hp:p.aD.length<9223372036854775808)(hm:∀ l∈m.cls,l.length<=24)(hl:m.cls.length<=24):an Tryz.prog 44 [.agg (ao m),.agg (aQ p)] [] (.lit (.bool (gL m p))) []:=by
 have hg:∀ i,(m.cls.getD i default).length<=24:=λi=>by
  rcases fN i m.cls.length with h|h
  ·exact hm _ (aB h)
  ·rw[aG,List.getElem?_eq_none h];decide
 have h1:=hg p.fst.toNat;have h2:=hg p.snd.toNat;have hmul:(0:Int)<=(m.cls.getD p.fst.toNat default).length*(m.cls.getD p.snd.toNat default).length/\((m.cls.getD p.fst.toNat default).length:Int)*(m.cls.getD p.snd.toNat default).length<=24*24:=⟨Int.mul_nonneg G3 G3,Int.mul_le_mul G3 G3 G3 G3⟩;have hc:=WA p.aD 93 [] [] pX hp (λx _=>by simpa using agS x);unfold gL;generalize vp:((m.cls.getD p.fst.toNat default).length:Int)*(m.cls.getD p.snd.toNat default).length=mm at *;refine an.aC 55 0 [.tmp 4] Tryz.func44 ?_;repeat'(first|(refine Xq @vp ?_;intro K hK)|refine Xo @vp ?_|refine Xc (My m p.bF) ?_|refine Xc (hc) ?_|(refine hK _ ?_;clear hK K)|(refine Xg @vp ?_ ?_<;>try intro hb)|(refine Xi ?_ ?_<;>try intro ht)|refine Xz ?_|(refine Xe ?_;first|refine aE rfl ?_|refine Xl ?_ ?_)|refine Xd ?_ ?_|exact Xx|fail)
 ·rw[hb];rfl
 iterate 4
  ·rw[decide_eq_false G3];simp
 ·rw[decide_eq_true G3];simp[*]
def agU(m:ah)(c:Ct)(hc:c.aJ.length<9223372036854775808):an Tryz.prog 48 [.agg (ao m),.agg (aV c)] [] (.lit (.bool (iW m c))) []:=by
 have MS:=My m c.bF;have ke:=Mw c.b8;generalize aj:iW m c=res;unfold iW at aj;refine an.aC 81 0 [.tmp 4] Tryz.func48 ?_;repeat'(first|(refine Xq X0 ?_;intro K hK)|refine Xo X0 ?_|refine Xc (MS) ?_|refine Xc (ke) ?_|(refine hK _ ?_;clear hK K)|(refine Xg X0 ?_ ?_<;>try intro hb)|(refine Xi ?_ ?_<;>try intro ht)|refine Xz ?_|(refine Xe ?_;first|refine aE rfl ?_|refine Xl ?_ ?_)|exact Xx|fail)
 ·rw[<- aj,hb];rfl
 ·rw[<- aj,decide_eq_false G3];simp
 ·rw[<- aj,decide_eq_false G3];simp
 ·rw[<- aj,ht];simp
 have iV:(jI m.rules c.bF&&decide (0<=c.most/\c.most<=1048576)&&jH c.b8)=true:=by rw[decide_eq_true G3];simp[*]
 rw[iV,eX]at aj;refine aO (λk:Nat=>(⟨au [(2,.ptr 0 0 0),(3,.ptr 1 0 0),(29,.tree 3 (rowsOf iH c.aJ)),(30,aaa c.aJ.length),(31,aaa k)],[.var (ao m),.var (aV c)]⟩:St)) (λk=>k<=c.aJ.length/\eE m (mA c.aJ k) (c.aJ.drop k)=res) (λk=>c.aJ.length-k) 0 ⟨aF _,aj⟩ (Xv X0) ?_;rintro k⟨hk,hr⟩Ql ak ar;by_cases aL:k<c.aJ.length
 ·have hd:=cN c.aJ k default aL;generalize aM:c.aJ.getD k default=x at *;rw[hd,TS]at hr;have gv:((k:Int)-1).toNat=k-1:=G3;generalize bL:c.aJ.getD (k-1) default=y at *;repeat'(first|(refine Xr (X2 @aM @gv) ?_;intro K hK)|refine Xo (X2 @aM @gv) ?_|refine Xc (Wv m x.cls x.opt) ?_|(refine hK _ ?_;clear hK K)|(refine Xg (X2 @aM @gv) ?_ ?_<;>try intro hb)|(refine Xi ?_ ?_<;>try intro ht)|refine Xz ?_|refine Xh ?_|(refine Xe ?_;first|refine aE rfl ?_|refine Xl ?_ ?_)|refine Xd ?_ ?_|exact Xx|fail)
  ·rw[<- hr,hb];simp
  ·rw[<- hr,decide_eq_false (p:=1<=x.wt/\x.wt<=1000) G3];simp
  ·rw[<- hr,decide_eq_false (p:=1<=x.wt/\x.wt<=1000) G3];simp
  have hw:decide (1<=x.wt/\x.wt<=1000)=true:=decide_eq_true G3;have a8:eU m x.cls x.opt=true:=by assumption
  rw[a8,hw,eX,eX]at hr;(try(refine Cw [12,22] rfl Kq (by decide +kernel) ?_);intro K hK;simp(disch:=omega)only[Ac,↓Pc,simprocAttr,aM,gv,bL])
  repeat'(first|(refine Xq (X3 @aM @gv @bL) ?_;intro K hK)|refine Xo (X3 @aM @gv @bL) ?_|refine Xc (Wt _ _) ?_|(refine hK _ ?_;clear hK K)|(refine Xg (X3 @aM @gv @bL) ?_ ?_<;>try intro hb)|(refine Xi ?_ ?_<;>try intro ht)|refine Xz ?_|refine Xd ?_ ?_|exact Xx|fail)
  ·refine pI [] (Wu [pW y.cls x.cls,pW y.opt x.opt] G9) Kq trivial ⟨aI.cp rfl (ny _) rfl Kq (oa _),trivial⟩ rfl G9 ?_;repeat'(first|(refine Xr (X3 @aM @gv @bL) ?_;intro K hK)|refine Xo (X3 @aM @gv @bL) ?_|(refine hK _ ?_;clear hK K)|(refine Xi ?_ ?_<;>try intro ht)|refine Xz ?_|refine Xh ?_|(refine Xe ?_;first|refine aE rfl ?_|refine Xl ?_ ?_)|refine Xd ?_ ?_|exact Xx|fail)
   ·rw[<- hr,decide_eq_false (p:=k=0) G3,decide_eq_false (p:=vg y x<0) (by unfold vg;omega)];simp
   ·refine ak _ (k+1) ⟨G3,?_⟩ G3 (Xs false [0,1] X0);rw[wy,aM,<- hr,decide_eq_true (p:=vg y x<0) (by unfold vg;omega)];simp
  ·refine ak _ (k+1) ⟨G3,?_⟩ G3 (Xs false [0,1] X0);rw[wy,aM,<- hr,decide_eq_true (p:=k=0) G3];simp
 ·repeat'(first|(refine Xr X0 ?_;intro K hK)|(refine hK _ ?_;clear hK K)|(refine Xi ?_ ?_<;>try intro ht)|refine Xz ?_|refine Xh ?_|(refine Xe ?_;first|refine aE rfl ?_|refine Xl ?_ ?_)|refine Xd ?_ ?_|exact Xx|fail)
  rw[cM G3,eE]at hr;rw[<- hr]
def agV(m:ah)(o:bV)(ho:o.ch.length<9223372036854775808):an Tryz.prog 42 [.agg (cK o),.ptr 0 0 0] [.var (ao m)] (.lit (.bool (!eH m.rules none o.ch))) [.var (ao m)]:=by
 refine an.aC 8 1 [.tmp 3] Tryz.func42 ?_;refine Vd X0 (agQ m o ho) ?_;exact Xw false [0] X0
def agW(m:ah)(c:Ct)(hc:c.aJ.length<9223372036854775808):an Tryz.prog 47 [.agg (aV c),.ptr 0 0 0] [.var (ao m)] (.lit (.bool (!iW m c))) [.var (ao m)]:=by
 refine an.aC 8 1 [.tmp 3] Tryz.func47 ?_;refine Vd X0 (agU m c hc) ?_;exact Xw false [0] X0
def Ff{α:Type}[Inhabited α]{l:List α}{f:α->Bool}{k:Nat}(hk:k<l.length):(l.drop k).any f=(f (l.getD k default)||(l.drop (k+1)).any f):=by
 rw[cN l k default hk,List.any_cons]
def ud(m:ah)(hm:MB m):an Tryz.prog 20 [.agg (ao m)] [] (aaa (ek m)) []:=by
 generalize aj:ek m=res;unfold ek at aj;have rX:=hm.cls;have rW:=hm.ae;refine an.aC 52 0 [.tmp 2] Tryz.func20 ?_;repeat'(first|(refine Xq X0 ?_;intro K hK)|refine Xc (agP m hm) ?_|(refine hK _ ?_;clear hK K)|(refine Xi ?_ ?_<;>try intro ht)|refine Xz ?_|(refine Xe ?_;first|refine aE rfl ?_|refine Xl ?_ ?_)|fail)
 ·rw[if_pos ht]at aj;rw[<- aj]
 rw[if_neg (by simp[ht])]at aj;have bg:m.cls.length<=24/\∀ l∈m.cls,l.length<=24:=by
  have h:=ht;unfold tU at h;rw[decide_eq_false_iff_not]at h;refine⟨G3,λl hl=>?_⟩;rcases fN 24 l.length with h1|h1
  ·exact absurd (.inr (.inl (List.any_eq_true.2 ⟨l,hl,by simpa using h1⟩))) h
  ·exact h1
 clear ht;refine aO (λk:Nat=>(⟨au [(1,.ptr 0 0 0),(10,.tree 1 (rowsOf a9 m.cls)),(11,aaa m.cls.length),(12,aaa k)],[.var (ao m)]⟩:St)) (λk=>k<=m.cls.length/\(m.cls.any λl=>l.any λo=>!eH m.rules none o.ch)=(m.cls.drop k).any λl=>l.any λo=>!eH m.rules none o.ch) (λk=>m.cls.length-k) 0 ⟨aF _,rfl⟩ (Xv X0) ?_;rintro k⟨hk,hr⟩Ql ak ar;by_cases aL:k<m.cls.length
 ·have bJ:=aB (d:=(default:List bV)) aL;rw[Ff aL]at hr;generalize aM:m.cls.getD k default=l at *;have kJ:=af4 l 42 [.ptr 0 0 0] [.var (ao m)] (λo=>!eH m.rules none o.ch) (hm.opt l bJ) (λo ho=>by simpa using agV m o (hm.ch l bJ o ho));repeat'(first|(refine Xr @aM ?_;intro K hK)|(refine hK _ ?_;clear hK K)|(refine Xi ?_ ?_<;>try intro ht)|refine Xz ?_|refine Xh ?_|refine Xd ?_ ?_|exact Xx|fail)
  refine il kJ (aR _) ?_;repeat'(first|(refine Xr @aM ?_;intro K hK)|(refine hK _ ?_;clear hK K)|(refine Xi ?_ ?_<;>try intro ht)|refine Xz ?_|refine Xh ?_|(refine Xe ?_;first|refine aE rfl ?_|refine Xl ?_ ?_)|refine Xd ?_ ?_|exact Xx|fail)
  ·rw[ht,qg]at hr;rw[if_pos hr]at aj;rw[<- aj]
  ·rw[ht,Bool.false_or]at hr;exact ak _ (k+1) ⟨G3,hr⟩ G3 (Xv X0)
 rw[cM G3,List.any_nil]at hr;rw[if_neg (by rw[hr];simp)]at aj;((repeat'(first|refine Va X0 ?_|(refine Xi ?_ ?_<;>try intro ht)|exact Xx|fail)))
 refine ar _ _ rfl ?_;clear ak ar Ql;clear hr aL hk;repeat(refine Xu ?_)
 repeat'(first|(refine Xr X0 ?_;intro K hK)|(refine hK _ ?_;clear hK K)|refine Xz ?_|fail)
 refine aO (λk:Nat=>(⟨au [(1,.ptr 0 0 0),(21,.tree 4 (rowsOf aQ m.ae)),(22,aaa m.ae.length),(23,aaa k)],[.var (ao m)]⟩:St)) (λk=>k<=m.ae.length/\fH m none m.ae=fH m (mA m.ae k) (m.ae.drop k)) (λk=>m.ae.length-k) 0 ⟨aF _,rfl⟩ (Xv X0) ?_;rintro k⟨hk,hr⟩Ql ak ar;by_cases aL:k<m.ae.length
 ·have bJ:=aB (d:=(default:Pr)) aL;have hd:=cN m.ae k default aL;have gv:((k:Int)-1).toNat=k-1:=G3;generalize aM:m.ae.getD k default=p at *;rw[hd,TR]at hr;generalize bL:m.ae.getD (k-1) default=q at *;repeat'(first|(refine Xq (X3 @aM @gv @bL) ?_;intro K hK)|refine Xo (X3 @aM @gv @bL) ?_|refine Xc (agT m p (hm.aD p bJ) bg.2 bg.1) ?_|refine Xc (agR q p) ?_|(refine hK _ ?_;clear hK K)|(refine Xg (X3 @aM @gv @bL) ?_ ?_<;>try intro hb)|(refine Xi ?_ ?_<;>try intro ht)|refine Xz ?_|refine Xh ?_|(refine Xe ?_;first|refine aE rfl ?_|refine Xl ?_ ?_)|refine Xd ?_ ?_|exact Xx|fail)
  ·have zr:gL m p=false:=by assumption
   rw[zr,jE,jE]at hr;rw[if_pos hr]at aj;rw[<- aj]
  ·rw[decide_eq_false (p:=k=0) G3,decide_eq_false (p:=o8 q p<0) G3,yL,PZ,jE]at hr;rw[if_pos hr]at aj;rw[<- aj]
  ·have zr:gL m p=true:=by assumption
   rw[zr,decide_eq_true (p:=o8 q p<0) G3,xr,eX,eX]at hr;refine ak _ (k+1) ⟨G3,?_⟩ G3 (Xs false [0] X0);rw[wy,aM];exact hr
  ·have zr:gL m p=true:=by assumption
   rw[zr,decide_eq_true (p:=k=0) G3,qg,eX,eX]at hr;refine ak _ (k+1) ⟨G3,?_⟩ G3 (Xs false [0] X0);rw[wy,aM];exact hr
 rw[cM G3,fH]at hr;rw[if_neg (by rw[hr];simp)]at aj;((repeat'(first|refine Va X0 ?_|(refine Xi ?_ ?_<;>try intro ht)|exact Xx|fail)))
 refine ar _ _ rfl ?_;clear ak ar Ql;clear hr aL hk;repeat(refine Xu ?_)
 have kJ:=af5 m.ax 47 [.ptr 0 0 0] [.var (ao m)] (λc=>!iW m c) hm.ax (λc hc=>by simpa using agW m c (hm.mB c hc));repeat'(first|(refine Xr X0 ?_;intro K hK)|refine Xz ?_|fail)
 refine il kJ (aR _) ?_;repeat'(first|(refine Xr X0 ?_;intro K hK)|(refine hK _ ?_;clear hK K)|(refine Xi ?_ ?_<;>try intro ht)|refine Xz ?_|(refine Xe ?_;first|refine aE rfl ?_|refine Xl ?_ ?_)|fail)
 ·rw[if_pos ht]at aj;rw[<- aj]
 ·rw[if_neg (by rw[ht];simp)]at aj;rw[<- aj]
def Yj(m:ah)(plan:List Int)(hp:plan.length<9223372036854775808):an Tryz.prog 71 [.agg (ao m),.tree 1 (ints plan)] [] (.lit (.bool (qG m plan))) []:=by
 generalize aj:qG m plan=res;unfold qG at aj;refine an.aC 30 0 [.tmp 4] Tryz.func71 ?_;repeat'(first|(refine Xr X0 ?_;intro K hK)|(refine hK _ ?_;clear hK K)|(refine Xi ?_ ?_<;>try intro ht)|refine Xz ?_|(refine Xe ?_;first|refine aE rfl ?_|refine Xl ?_ ?_)|fail)
 ·rw[if_pos G3]at aj;rw[<- aj]
 rw[if_neg G3]at aj;refine aO (λk:Nat=>(⟨au [(2,.ptr 0 0 0),(13,.tree 1 (ints plan)),(14,aaa plan.length),(15,aaa k)],[.var (ao m)]⟩:St)) (λk=>k<=plan.length/\qF m k (plan.drop k)=res) (λk=>plan.length-k) 0 ⟨aF _,aj⟩ (Xv X0) ?_;rintro k⟨hk,hr⟩Ql ak ar;by_cases aL:k<plan.length
 ·have hd:=cN plan k 0 aL;generalize aM:plan.getD k 0=o at *;rw[hd,qF]at hr;repeat'(first|(refine Xq @aM ?_;intro K hK)|refine Xo @aM ?_|refine Xc (Wv m k o) ?_|(refine hK _ ?_;clear hK K)|(refine Xg @aM ?_ ?_<;>try intro hb)|(refine Xi ?_ ?_<;>try intro ht)|refine Xz ?_|refine Xh ?_|(refine Xe ?_;first|refine aE rfl ?_|refine Xl ?_ ?_)|refine Xd ?_ ?_|exact Xx|fail)
  ·rw[decide_eq_false (p:=o = -1) G3,ht]at hr;rw[<- hr];rfl
  ·rw[decide_eq_false (p:=o = -1) G3,ht,xr,eX]at hr;exact ak _ (k+1) ⟨G3,hr⟩ G3 (Xv X0)
  ·rw[decide_eq_true (p:=o = -1) G3,qg,eX]at hr;exact ak _ (k+1) ⟨G3,hr⟩ G3 (Xv X0)
 ·repeat'(first|(refine Xr X0 ?_;intro K hK)|(refine hK _ ?_;clear hK K)|(refine Xg X0 ?_ ?_<;>try intro hb)|(refine Xi ?_ ?_<;>try intro ht)|refine Xz ?_|refine Xh ?_|(refine Xe ?_;first|refine aE rfl ?_|refine Xl ?_ ?_)|refine Xd ?_ ?_|exact Xx|fail)
  rw[cM G3,qF]at hr;rw[<- hr]
def agX(n:Int):an Tryz.prog 138 [aaa n] [] (.lit (.bool (n != 1))) []:=by
 refine an.aC 5 0 [.tmp 2] Tryz.func138 ?_;refine Vb X0 ?_;exact aE rfl rfl
def agY(m:ah)(P:List Nd)(hm:VM m)(hP:PB P):an Tryz.prog 101 [.agg (ao m),.agg (aU P)] [] (.lit (.bool (j4 m P))) []:=by
 have x7:=hP.sU;have nL:=hm.cls;generalize aj:j4 m P=res;refine an.aC 136 0 [.tmp 4] Tryz.func101 ?_;by_cases bg:1<=P.length/\P.length<=20000;rotate_left
 ·rw[Yk bg]at aj;subst aj;((repeat'(first|refine Vb @aU.eq_1 ?_|(refine V2 @aU.eq_1 ?_ ?_<;>try with_reducible intro hb)|(refine Xi ?_ ?_<;>try intro ht)|exact Xx|fail)))
  all_goals exact aE rfl rfl
 obtain⟨jk,jS⟩:=bg;((repeat'(first|refine Vb @aU.eq_1 ?_|(refine V2 @aU.eq_1 ?_ ?_<;>try with_reducible intro hb)|(refine Xi ?_ ?_<;>try intro ht)|exact Xx|fail)))
 refine aO (λi:Nat=>(⟨au [(2,.ptr 0 0 0),(3,.ptr 1 0 0),(5,.ref 2 1 0 P.length),(25,.tree 5 (rowsOf az P)),(26,aaa P.length),(27,aaa i)],[.var (ao m),.var (aU P),.arr 1 (ints (kf P.length (gw (P.take i))))]⟩:St))
  (λi=>i<=P.length/\∀ a,a<i->lL m P.length a (P.getD a default)=true) (λi=>P.length-i) 0 ⟨aF _,λa ha=>absurd ha (mQ _)⟩ (by rw[ky];show ay _ _ ⟨_,[_,_,.arr 1 (ints (kf P.length []))]⟩;rw[agZ];exact Xv (X2 @aU.eq_1 @Hq)) ?_
 rintro i⟨hi,eB⟩Ql ak ar;by_cases hi':i<P.length
 ·have bJ:=aB (l:=P) (i:=i) (d:=default) hi';have b1:=hP.kids _ bJ;have b2:=hP.cR _ bJ;have b3:=hP.bh _ bJ;have b4:=hP.cells _ bJ;have cq:=eJ hi';have IN:∀ l,gw (P.take (i+1))=gw (P.take i)++l↔l=(P.getD i default).kids:=λl=>by rw[cq,MT];exact⟨λh=>(List.append_cancel_left h).symm,λh=>by rw[h]⟩
  have iJ:=Yl (m:=m) hi';have hlen:=Ym (n:=0) hm (P.take i) λy hy=>by
   obtain⟨a,ha,rfl⟩:=ry hy;rw[fy]at ha;have:=eB a G3;unfold lL at this;rw[bk,aG,bT G3]at this;simpa using this.1
  rw[fy]at hlen;generalize aS:P.getD i default=x at *;obtain⟨c,kids,cR,bh,cells⟩:=x;dsimp only at b1 b2 b3 b4 IN;have IN:=(IN _).2 rfl;have b7:¬(nf m ⟨c,kids,cR,bh,cells⟩=true)->res=false:=λh=>by
   rw[<- aj];refine iJ ?_;unfold lL;rw[BW.2 h,jE]
  have p5:∀ j,j<kids.length->¬(lX P.length i (kids.getD j 0)=true)->res=false:=λj hj h=>by
   rw[<- aj];refine iJ ?_;unfold lL;have:kids.all (lX P.length i)=false:=by
    rw[BW];intro h2;rw[gV]at h2;exact h (h2 _ (aB hj))
   dsimp only;rw[this,PZ]
  clear iJ;generalize oG:m.cls.getD c.toNat default=wl at *;have zs:0<=c/\c<m.cls.length->wl.length<=24:=λh=>by rw[<- oG];exact hm.opt _ (aB G3)
  by_cases gy:nf m ⟨c,kids,cR,bh,cells⟩=true;rotate_left
  ·have hr:=b7 gy;unfold nf at gy;dsimp only at gy;rw[oG]at gy;by_cases eK:c = -1
   ·rw[if_pos eK,decide_eq_true_eq]at gy;((repeat'(first|refine Va (X3 @aU.eq_1 @aS @az.eq_1) ?_|(refine V2 (X3 @aU.eq_1 @aS @az.eq_1) ?_ ?_<;>try with_reducible intro hb)|(refine Xi ?_ ?_<;>try intro ht)|exact Xx|fail)))
    all_goals
     repeat(refine Xu ?_)
     ((repeat'(first|refine Vb X0 ?_|fail)))
     exact aE rfl (by rw[hr])
   ·rw[if_neg eK,decide_eq_true_eq]at gy;by_cases aw:0<=c/\c<m.cls.length
    ·have zs:=zs aw;((repeat'(first|refine Va (X5 @aU.eq_1 @aS @az.eq_1 @oG @a9.eq_1) ?_|(refine V2 (X5 @aU.eq_1 @aS @az.eq_1 @oG @a9.eq_1) ?_ ?_<;>try with_reducible intro hb)|(refine Xi ?_ ?_<;>try intro ht)|exact Xx|fail)))
     all_goals
      repeat(refine Xu ?_)
      ((repeat'(first|refine Vb X0 ?_|fail)))
      exact aE rfl (by rw[hr])
    ·((repeat'(first|refine Va (X3 @aU.eq_1 @aS @az.eq_1) ?_|(refine V2 (X3 @aU.eq_1 @aS @az.eq_1) ?_ ?_<;>try with_reducible intro hb)|(refine Xi ?_ ?_<;>try intro ht)|exact Xx|fail)))
     all_goals
      repeat(refine Xu ?_)
      ((repeat'(first|refine Vb X0 ?_|fail)))
      exact aE rfl (by rw[hr])
  have Fg:=IP hm gy;have wF:(∀ j,j<kids.length->lX P.length i (kids.getD j 0)=true)->lL m P.length i ⟨c,kids,cR,bh,cells⟩=true:=λh=>by
   unfold lL;rw[gy,eX,gV];intro k hk;obtain⟨j,hj,rfl⟩:=ry hk;have:=h j hj;rwa [aG,bT hj]at this
  dsimp only at Fg;repeat'(first|((fail_if_success (first|refine dE 7 ?_|refine dF 7 ?_));refine Xr (X3 @aU.eq_1 @aS @az.eq_1) ?_;intro K hK)|(refine hK _ ?_;clear hK K)|(refine Xi ?_ ?_<;>try intro ht)|refine Xy ?_|refine Xd ?_ ?_|exact Xx|fail)
  (refine afX ?_);intro Q0 eA pT
  refine wa ⟨au [(2,.ptr 0 0 0),(3,.ptr 1 0 0),(5,.ref 2 1 0 P.length),(6,aaa i),(7,.ptr 3 0 0),(25,.tree 5 (rowsOf az P)),(26,aaa P.length),(27,aaa i)],[.var (ao m),.var (aU P),.arr 1 (ints (kf P.length (gw (P.take i)))),.var (az ⟨c,kids,cR,bh,cells⟩)]⟩ eA ?_ (λkey=>?_);rotate_left
  ·(try clear eA)
   unfold nf at gy;dsimp only at gy;rw[oG]at gy;by_cases eK:c = -1
   ·rw[if_pos eK,decide_eq_true_eq]at gy;((repeat'(first|refine Va (X3 @aU.eq_1 @aS @az.eq_1) ?_|(refine V2 (X3 @aU.eq_1 @aS @az.eq_1) ?_ ?_<;>try with_reducible intro hb)|(refine Xi ?_ ?_<;>try intro ht)|exact Xx|fail)))
    all_goals
     refine key _ ?_;exact Xv (X2 @aU.eq_1 @az.eq_1)
   ·rw[if_neg eK,decide_eq_true_eq]at gy;have zs:=zs ⟨gy.1,gy.2.1⟩;((repeat'(first|refine Va (X5 @aU.eq_1 @aS @az.eq_1 @oG @a9.eq_1) ?_|(refine V2 (X5 @aU.eq_1 @aS @az.eq_1 @oG @a9.eq_1) ?_ ?_<;>try with_reducible intro hb)|(refine Xi ?_ ?_<;>try intro ht)|exact Xx|fail)))
    all_goals
     refine key _ ?_;exact Xv (X2 @aU.eq_1 @az.eq_1)
  (try clear eA;try clear pT)
  refine Va (X2 @aU.eq_1 @az.eq_1) ?_;refine aO (λj:Nat=>(⟨au [(2,.ptr 0 0 0),(3,.ptr 1 0 0),(5,.ref 2 1 0 P.length),(6,aaa i),(25,.tree 5 (rowsOf az P)),(26,aaa P.length),(27,aaa i),(108,.tree 1 (ints kids)),(109,aaa kids.length),(110,aaa j)],[.var (ao m),.var (aU P),.arr 1 (ints (kf P.length (gw (P.take i)++kids.take j)))]⟩:St))
   (λj=>j<=kids.length/\∀ a,a<j->lX P.length i (kids.getD a 0)=true) (λj=>kids.length-j) 0 ⟨aF _,λa ha=>absurd ha (mQ _)⟩ (by rw[ky,List.append_nil];exact Xs false [0,1,2] @aU.eq_1) ?_
  rintro j⟨hj,Yn⟩cL a7 ba;by_cases dx:j<kids.length
  ·have jg:=eJ dx;have Fh:kids.getD j default=kids.getD j 0:=rfl;have ag0:=p5 j dx;rw[Fh]at jg;have tP:(gw (P.take i)++kids.take j).length<=24*P.length+24:=by rw[List.length_append,fy];omega
   generalize iK:kids.getD j 0=k at *;by_cases Fi:lX P.length i k=true;rotate_left
   ·have hr:=ag0 Fi;unfold lX at Fi;rw[decide_eq_true_eq]at Fi;((repeat'(first|refine Va (X2 @aU.eq_1 @iK) ?_|(refine V2 (X2 @aU.eq_1 @iK) ?_ ?_<;>try with_reducible intro hb)|(refine Xi ?_ ?_<;>try intro ht)|exact Xx|fail)))
    all_goals
     repeat(refine Xu ?_)
     ((repeat'(first|refine Vb X0 ?_|fail)))
     exact aE rfl (by rw[hr])
   have Yo:=Fi;unfold lX at Yo;rw[decide_eq_true_eq]at Yo;have u9:=ag1 (n:=P.length) (l:=gw (P.take i)++kids.take j) (j:=k.toNat) G3;have dh:=A0 P.length (gw (P.take i)++kids.take j);have oV:=ag2 P.length (gw (P.take i)++kids.take j) k.toNat G3;rw[Int.toNat_of_nonneg G3,List.append_assoc,<- jg]at oV;((repeat'(first|refine Va (X3 @aU.eq_1 @iK @dh) ?_|(refine V2 (X3 @aU.eq_1 @iK @dh) ?_ ?_<;>try with_reducible intro hb)|(refine Xi ?_ ?_<;>try intro ht)|exact Xx|fail)))
   refine a7 _ (j+1) ⟨G3,λa ha=>?_⟩ G3 (by rw[oV];exact Xv @aU.eq_1);by_cases e:a=j
   ·subst e;rw[iK];exact Fi
   ·exact Yn a G3
  ·obtain rfl:j=kids.length:=G3;rw[sH,<- IN];((repeat'(first|refine Va X0 ?_|(refine V2 X0 ?_ ?_<;>try with_reducible intro hb)|(refine Xi ?_ ?_<;>try intro ht)|exact Xx|fail)))
   refine ba _ _ rfl ?_;clear a7 ba cL;repeat(refine Xu ?_)
   refine Va X0 ?_;refine ak _ (i+1) ⟨G3,λa ha=>?_⟩ G3 (Xv @aU.eq_1);by_cases e:a=i
   ·subst e;rw[aS];exact wF Yn
   ·exact eB a G3
 ·obtain rfl:i=P.length:=G3;rw[sH];have kh:=IQ (m:=m) ⟨jk,jS⟩ eB;rw[aj]at kh;have x8:=WA ((kf P.length (gw P)).drop 1) 138 [] [] (λx=>x != 1) (by rw[xq,A0];omega) (λx _=>agX x);have dh:=A0 P.length (gw P);have oF:(ints (kf P.length (gw P))).drop 1=ints ((kf P.length (gw P)).drop 1):=by unfold ints;rw[List.map_drop]
  have A2:((kf P.length (gw P)).drop 1).length=P.length-1:=by rw[xq,A0]
  ((repeat'(first|refine Va X0 ?_|(refine Xi ?_ ?_<;>try intro ht)|exact Xx|fail)))
  refine ar _ _ rfl ?_;clear ak ar Ql;repeat(refine Xu ?_)
  generalize kf P.length (gw P)=pc at *;refine bD (σ':=⟨au [(5,.tree 1 (ints pc))],[]⟩) (by rw[<- dh];exact Xs true [] X0) ?_;((repeat'(first|refine Vd (X4 @dh @oF @A2 @Option.map_none.{0,0}) x8 ?_|refine VD ?_ ?_|fail)))
  ·intro _;trivial
  exact aE rfl (by rw[kh])
def x9(v:Int):List Int->Int->Int
 |[],_=>-1
 |x::r,k=>if v=x then k else x9 v r (k+1)
def Yp(v:Int):∀ (l:List Int) (k:Int),0<=k->(0<=x9 v l k↔v∈l)
 |[],k,hk=>by simp[x9]
 |x::r,k,hk=>by
  rw[x9];split
  ·rename_i h;simp[h,hk]
  ·rename_i h;rw[Yp v r (k+1) G3];simp[h]
def ag3(l:List Int)(v:Int)(hl:l.length<9223372036854775808):an Tryz.prog 113 [.tree 1 (ints l),aaa v] [] (aaa (x9 v l 0)) []:=by
 generalize aj:x9 v l 0=res;refine an.aC 19 0 [.tmp 4] Tryz.func113 ?_;repeat'(first|(refine Xr X0 ?_;intro K hK)|(refine hK _ ?_;clear hK K)|refine Xz ?_|fail)
 refine aO (λk:Nat=>(⟨au [(0,.tree 1 (ints l)),(1,aaa v),(7,aaa l.length),(8,aaa k)],[]⟩:St)) (λk=>k<=l.length/\x9 v (l.drop k) k=res) (λk=>l.length-k) 0 ⟨aF _,aj⟩ (Xv X0) ?_;rintro k⟨hk,hr⟩Ql ak ar;by_cases aL:k<l.length
 ·have hd:=cN l k 0 aL;generalize aM:l.getD k 0=x at *;rw[hd,x9]at hr;((repeat'(first|refine Va @aM ?_|(refine Xi ?_ ?_<;>try intro ht)|exact Xx|fail)))
  ·rw[if_pos (by assumption)]at hr;repeat(refine Xu ?_)
   refine Vb X0 ?_;rw[<- hr];exact HA rfl
  ·rw[if_neg (by assumption)]at hr;exact ak _ (k+1) ⟨G3,hr⟩ G3 (Xv X0)
 ·((repeat'(first|refine Va X0 ?_|(refine Xi ?_ ?_<;>try intro ht)|exact Xx|fail)))
  rw[cM G3,x9]at hr;refine ar _ _ rfl ?_;clear ak ar Ql;repeat(refine Xu ?_)
  refine Vb X0 ?_;rw[<- hr];exact HA rfl
def MU(l:List Int)(v:Int)(hl:l.length<9223372036854775808):an Tryz.prog 72 [.tree 1 (ints l),aaa v] [] (.lit (.bool (l.contains v))) []:=by
 have h:=Yp v l 0 G3;refine an.aC 9 0 [.tmp 4] Tryz.func72 ?_;repeat'(first|(refine Xq X0 ?_;intro K hK)|refine Xo X0 ?_|refine Xc (ag3 l v hl) ?_|(refine hK _ ?_;clear hK K)|refine Xz ?_|(refine Xe ?_;first|refine aE rfl ?_|refine Xl ?_ ?_)|fail)
 rw[<- List.contains_iff_mem]at h;cases hb:l.contains v<;>rw[hb]at h
 ·rw[decide_eq_false (by simpa using h)]
 ·rw[decide_eq_true (by simpa using h)]
def ag4(m:ah)(plan:List Int)(hb:MB m)(dh:plan.length<9223372036854775808):an Tryz.prog 29 [.agg (ao m),.tree 1 (ints plan)] [] (aaa (pe m plan)) []:=by
 generalize aj:pe m plan=res;unfold pe at aj;refine an.aC 19 0 [.tmp 4] Tryz.func29 ?_;repeat'(first|(refine Xq X0 ?_;intro K hK)|refine Xo X0 ?_|refine Xc (ud m hb) ?_|refine Xc (Yj m plan dh) ?_|refine Xc (MU plan (-1) dh) ?_|(refine hK _ ?_;clear hK K)|(refine Xg X0 ?_ ?_<;>try intro hb)|(refine Xi ?_ ?_<;>try intro ht)|refine Xz ?_|(refine Xe ?_;first|refine aE rfl ?_|refine Xl ?_ ?_)|exact Xx|fail)
 all_goals(rw[<- aj];first|(rw[if_pos (by assumption)];done)|(rw[if_neg G3,if_pos (by simp only[*,iZ,Bool.not_false,qg,xr])];done)|(rw[if_neg G3,if_neg (by simp only[*,iZ,yL,ju,not_false_eq_true])];done))
end T

