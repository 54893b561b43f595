import Derived.Test.YtfoopmojjjpapaaGreatX27
set_option linter.all false
set_option maxHeartbeats 0
set_option maxRecDepth 20000
open Bool renaming true_and→gK,and_eq_true→bb,false_and→qU,false_eq_true→jo
open And renaming intro→c6
open List renaming append_assoc→bE,length_append→bO,set_set→wD,length_set→bJ,getElem?_eq_some_iff→aV,length_take→eY,append_nil→nL,take_of_length_le→dm,length_singleton→Ca
open Nat renaming zero_le→aS,le_refl→aY
open Go Go.Am Go.Proofs
namespace T
def aa0{m:ah}{gi ai bi:Nat}{D E:List (Nat×Nat)}{S T:List (List Nm)}{os:List Ob}(h:LO ba (GB m gi ai bi D E) D E S T os)(x:Mv)(hx:0<=x.pair/\x.pair<m.ae.length)(pT:m.ae.length<=4000):
  Holds Tryz.prog 112 [.ptr gi 0 0,.agg (aU x)] os (Qf (eV m x)) (os++[.var (aU x)]):=by
 obtain⟨fg,fa,fb⟩:=Bp h;have eg:=aN fg;generalize au:eV m x=res;unfold eV at au;refine Holds.aM 28 os.length [.tmp 4] Tryz.func112 ?_;by_cases hs:x.side=0
 ·rw[if_pos hs]at au;generalize cg:m.ae.getD x.pair.toNat default=p at *;((repeat'(first|refine Vb (X5 @fg @eg @gC.eq_1 @bH (X3 @cg @aU.eq_1 @aI.eq_1)) ?_|(refine Xi ?_ ?_<;>try intro ht)|exact Xx|fail)))
  exact eF rfl GM (by rw[au])
 ·rw[if_neg hs]at au;generalize cg:m.ae.getD x.pair.toNat default=p at *;((repeat'(first|refine Vb (X5 @fg @eg @gC.eq_1 @bH (X3 @cg @aU.eq_1 @aI.eq_1)) ?_|(refine Xi ?_ ?_<;>try intro ht)|exact Xx|fail)))
  exact eF rfl GM (by rw[au])
def NR{os:List Ob}{id r:Nat}{row:List Nm}(h:os[id]?=some (.arr 2 (rowsOf ba row)))(hr:r<row.length)(n:Int)(mL:cR ((row.getD r default).1+n)):
  Holds Tryz.prog 113 [.ptr id r 0,Qf n] os (.bD []) (os.set id (.arr 2 (rowsOf ba (jQ row r n)))):=by
 unfold cR at mL;refine Holds.aM 12 os.length [] Tryz.func113 ?_;refine Vb (X3 @h @ba.eq_1 @ahC) ?_;exact eF rfl GM rfl
def ajR{m:ah}(hm:VM m){x:Mv}(h1:0<=x.pair)(h2:x.pair<m.ae.length):0<=eV m x/\eV m x<m.cls.length:=by
 obtain⟨a,b,c,_⟩:=FA (j6 hm.pr _ (aF (l:=m.ae) (i:=x.pair.toNat) (d:=default) GK));unfold eV;split<;>omega
def ajy{m:ah}(hm:VM m){gi ai bi:Nat}{D E:List (Nat×Nat)}{S T:List (List Nm)}{os:List Ob}(h:LO ba (GB m gi ai bi D E) D E S T os){B:Int}(hg:LG m B (S,T))(x:Mv):
  cX Tryz.prog 79 [.ptr gi 0 0,.agg (aU x)] os λr ob=>r=.lit (.bool (iT m x))/\∃ l,ob=os++l:=by
 obtain⟨fg,fa,fb⟩:=Bp h;have eg:=aN fg;have ea:=aN fa;have hE:=h.rE.len;have hD:=h.rD.len;have jr:S.length=m.cls.length:=hg.s;have Fp:T.length=m.ae.length:=hg.t;have pT:=hm.ae;have rT:=hm.cls;generalize au:iT m x=res;unfold iT at au;refine cX.aM 56 os.length [.tmp 4] Tryz.func79 ?_;by_cases hr:0<=x.pair/\x.pair<m.ae.length/\0<=x.side/\x.side<=1/\-268435456<=x.amt/\x.amt<=268435456
 ·rw[decide_eq_true hr,gK]at au;have bK:=aa0 (h.app [.gone]) x ⟨hr.1,hr.2.1⟩ pT;have eb:=aN fb;((repeat'(first|refine Vb (X5 @fg @eg @fb @eb (X3 @gC.eq_1 @bH @aU.eq_1)) ?_|(refine V2 (X5 @fg @eg @fb @eb (X3 @gC.eq_1 @bH @aU.eq_1)) ?_ ?_<;>try with_reducible intro hb)|(refine Xi ?_ ?_<;>try intro ht)|exact Xx|fail)))
  refine cL (aH.CR 3 os.length (cells:=aU x) (by rw[kl];rfl) (by simp only[Kc,simprocAttr]) (by simp[aU])) ?_;refine cL (σ':=⟨ao [(0,.ptr gi 0 0),(3,.cB (aU x))],os++[.gone]⟩) (by rw[E5];exact Xv @aU.eq_1) ?_;obtain⟨c1,c2⟩:=ajR hm hr.1 hr.2.1;obtain⟨mu,z8⟩:=h.rD.row (eV m x).toNat GK;have qd:=aN mu;have lX:=hg.sl (eV m x).toNat GK;have I3:=hm.opt _ (aF (l:=m.cls) (i:=(eV m x).toNat) (d:=default) GK);generalize FB:eV m x=c at *;obtain⟨bo,hd⟩:∃b,decide (x.opt >= 0)=b:=⟨_,rfl⟩;cases bo;all_goals
   have cM:=hd;simp only[decide_eq_true_eq,decide_eq_false_iff_not]at cM;have ajS:res=(decide (0<=x.opt)&&decide (x.opt<((D.getD c.toNat default).2:Int))):=by
    rw[<- au,Bool.eq_iff_iff,bb,decide_eq_true_eq,decide_eq_true_eq,jN];dsimp only at lX;omega
   refine pw [1,5,11] (.take 0 (.take 1 (.take 2 (.take 3 (.take 6 (.take 10 (.take 11 (.three 4 (.take 5 (.both 7 (.both 8 (.both 9 (.take 12 (.take 13 (.take 14 (.take 15 (.take 16 (.take 17 (.take 18 .nil))))))) 12 (.take 9 (.take 13 (.take 14 (.take 15 (.take 16 (.take 17 (.take 18 .nil)))))))) 12 (.take 8 (.take 9 (.take 13 (.take 14 (.take 15 (.take 16 (.take 17 (.take 18 .nil))))))))) 12 (.take 7 (.take 8 (.take 9 (.take 13 (.take 14 (.take 15 (.take 16 (.take 17 (.take 18 .nil))))))))))) 7 (.three 4 (.take 5 (.both 8 (.both 9 (.take 12 (.take 13 (.take 14 (.take 15 (.take 16 (.take 17 (.take 18 .nil))))))) 12 (.take 9 (.take 13 (.take 14 (.take 15 (.take 16 (.take 17 (.take 18 .nil)))))))) 12 (.take 8 (.take 9 (.take 13 (.take 14 (.take 15 (.take 16 (.take 17 (.take 18 .nil)))))))))) 8 (.three 4 (.take 5 (.both 9 (.take 12 (.take 13 (.take 14 (.take 15 (.take 16 (.take 17 (.take 18 .nil))))))) 12 (.take 9 (.take 13 (.take 14 (.take 15 (.take 16 (.take 17 (.take 18 .nil))))))))) 9 (.both 4 (.take 5 (.take 12 (.take 13 (.take 14 (.take 15 (.take 16 (.take 17 (.take 18 .nil)))))))) 12 (.take 4 (.take 5 (.take 13 (.take 14 (.take 15 (.take 16 (.take 17 (.take 18 .nil))))))))) 12 (.take 4 (.take 5 (.take 9 (.take 13 (.take 14 (.take 15 (.take 16 (.take 17 (.take 18 .nil)))))))))) 12 (.take 4 (.take 5 (.take 8 (.take 9 (.take 13 (.take 14 (.take 15 (.take 16 (.take 17 (.take 18 .nil))))))))))) 12 (.take 4 (.take 5 (.take 7 (.take 8 (.take 9 (.take 13 (.take 14 (.take 15 (.take 16 (.take 17 (.take 18 .nil))))))))))))))))))) rfl GS (by decide +kernel) ?_;simp(disch:=omega)only[Ac,↓Pc,simprocAttr,q7,nU,mJ,mI,cj,↓Lq,fg,eg,fa,ea,gC,cE,bH,qd,mu,aU,hd];repeat'(first|with_reducible refine c6 ?_ ?_|omega|(refine fZ bK GM ?_;simp(disch:=omega)only[Ac,↓Pc,simprocAttr,q7,nU,mJ,mI,cj,↓Lq,fg,eg,fa,ea,gC,cE,bH,qd,mu,aU,hd,bE]))
   all_goals
    repeat(refine Xu ?_)
    ((repeat'(first|refine Vb X0 ?_|fail)))
    unfold eU;simp only[dI,dE];simp(disch:=omega)only[Ac,↓Pc,simprocAttr];refine⟨.lit (.bool res),_,⟨rfl,_,rfl⟩,eF rfl GM ?_⟩;rw[ajS];first|rfl|(rw[decide_eq_true cM,gK])|(rw[decide_eq_false cM,qU])
 ·rw[decide_eq_false hr,qU]at au;have eb:=aN fb;((repeat'(first|refine Vb (X5 @fg @eg @fb @eb (X3 @gC.eq_1 @bH @aU.eq_1)) ?_|(refine V2 (X5 @fg @eg @fb @eb (X3 @gC.eq_1 @bH @aU.eq_1)) ?_ ?_<;>try with_reducible intro hb)|(refine Xi ?_ ?_<;>try intro ht)|exact Xx|fail)))
  all_goals
   unfold eU;simp only[dI,dE];simp(disch:=omega)only[Ac,↓Pc,simprocAttr];exact⟨.lit (.bool res),_,⟨rfl,_,rfl⟩,eF rfl GM (by rw[<- au])⟩
def ajA{m:ah}(hm:VM m){gi ai bi:Nat}{D E:List (Nat×Nat)}{S T:List (List Nm)}{os:List Ob}(h:LO ba (GB m gi ai bi D E) D E S T os){B:Int}(hB:0<=B/\B<=4611686018427387904)(hg:LG m B (S,T))(x:Mv)(hx:iT m x=true):
  cX Tryz.prog 80 [.ptr gi 0 0,.agg (aU x)] os λr ob=>r=.bD []/\LO ba (GB m gi ai bi D E) D E (j5 m x (S,T)).1 (j5 m x (S,T)).2 ob/\os.length<=ob.length:=by
 obtain⟨fg,fa,fb⟩:=Bp h;have eg:=aN fg;have ea:=aN fa;have eb:=aN fb;have hE:=h.rE.len;have hD:=h.rD.len;have jr:S.length=m.cls.length:=hg.s;have Fp:T.length=m.ae.length:=hg.t;have pT:=hm.ae;have rT:=hm.cls;have b6:=hx;unfold iT at b6;rw[bb,decide_eq_true_eq]at b6;obtain⟨⟨x1,x2,x3,x4,x5,x6⟩,mQ⟩:=b6;obtain⟨o1,o2,o3,o4⟩:=jN.1 mQ;have dO:=j6 hm.pr _ (aF (l:=m.ae) (i:=x.pair.toNat) (d:=default) GK);obtain⟨NS,NT,NU,FC⟩:=FA dO;have hlF:=hm.opt _ (aF (l:=m.cls) (i:=(m.ae.getD x.pair.toNat default).fst.toNat) (d:=default) GK);have hlS:=hm.opt _ (aF (l:=m.cls) (i:=(m.ae.getD x.pair.toNat default).snd.toNat) (d:=default) GK);obtain⟨tq,FD⟩:=h.rE.row x.pair.toNat GK;obtain⟨mu,z8⟩:=h.rD.row (eV m x).toNat GK;have qe:=aN tq;have qd:=aN mu;have FE:(S.getD (eV m x).toNat default).length=(m.cls.getD (eV m x).toNat default).length:=hg.sl (eV m x).toNat GK;have Dp:(T.getD x.pair.toNat default).length=(m.ae.getD x.pair.toNat default).ay.length:=hg.tl x.pair.toNat GK;have np:=(uz hg.sb (eV m x).toNat).get hB.1 x.opt.toNat;dsimp only at np;obtain⟨I4,NV⟩:=h.rD.row (m.ae.getD x.pair.toNat default).snd.toNat GK;obtain⟨rF1,rF2⟩:=h.rD.row (m.ae.getD x.pair.toNat default).fst.toNat GK;have IZ:(S.getD (m.ae.getD x.pair.toNat default).snd.toNat default).length=(m.cls.getD (m.ae.getD x.pair.toNat default).snd.toNat default).length:=hg.sl _ GK;have hFl:(S.getD (m.ae.getD x.pair.toNat default).fst.toNat default).length=(m.cls.getD (m.ae.getD x.pair.toNat default).fst.toNat default).length:=hg.sl _ GK;generalize cg:m.ae.getD x.pair.toNat default=p at *;generalize FF:(m.cls.getD p.snd.toNat default).length=dw at *;generalize NW:(m.cls.getD p.fst.toNat default).length=rows at *;refine cX.aM 95 os.length [] Tryz.func80 ?_;refine Xk ?_;refine M9 ?_;intro K hK;simp(disch:=omega)only[Ac,↓Pc,simprocAttr,fg,eg,aU];refine hK _ ?_;clear hK K;refine hn _ ?_;(try clear hn;try clear he)
 refine cL (aH.CR 3 os.length (cells:=aU x) (by rw[kl];rfl) (by simp only[Kc,simprocAttr]) (by simp[aU])) ?_;refine cL (σ':=⟨ao [(0,.ptr gi 0 0),(3,.cB (aU x))],os++[.gone]⟩) (by rw[E5];exact Xv @aU.eq_1) ?_;refine Xk ?_;refine vW ?_;intro Q hn he;refine ph ⟨ao [(0,.ptr gi 0 0),(3,.cB (aU x)),(4,.ptr (os.length+1) 0 0),(5,.ref (E.getD x.pair.toNat default).1 2 0 (E.getD x.pair.toNat default).2)],os++[.gone,.var (aI p)]⟩ hn ?_ (λkey=>?_);rotate_left
 ·refine pw [6,8,14] (.take 0 (.take 1 (.take 2 (.take 3 (.take 4 (.take 5 (.take 6 (.take 7 (.take 8 (.take 9 (.take 10 (.take 11 (.take 13 (.take 14 (.both 12 (.take 15 (.both 16 (.take 17 (.take 18 (.take 19 .nil))) 17 (.both 16 (.take 18 (.take 19 .nil)) 18 (.take 16 (.take 19 .nil))))) 17 (.both 12 (.take 15 (.both 16 (.take 18 (.take 19 .nil)) 18 (.take 16 (.take 19 .nil)))) 18 (.take 12 (.take 15 (.take 16 (.take 19 .nil)))))))))))))))))))) rfl GS (by decide +kernel) ?_;simp(disch:=omega)only[Ac,↓Pc,simprocAttr,q7,nU,mJ,mI,cj,↓Lq,fg,eg,fb,eb,gC,cE,bH,qe,tq,aU,aI,cg,bE,bO];repeat'(first|with_reducible refine c6 ?_ ?_|omega)
  all_goals
   refine key _ ?_;exact Xv (X2 @aU.eq_1 @aI.eq_1)
 (try clear hn;try clear he)
 try(try clear Q)
 have Dt:LO ba (GB m gi ai bi D E) D E S T (os++[.gone,.var (aI p)]):=h.app _;have fp:(os++[Ob.gone,.var (aI p)])[os.length+1]?=some (.var (aI p)):=by rw[kP];rfl
 have bK:=aa0 Dt x ⟨x1,x2⟩ pT;have fg1:=eg [.gone,.var (aI p)];have fa1:=ea [.gone,.var (aI p)];have qd1:=qd [.gone,.var (aI p)];have eg1:=aN fg1;have ea1:=aN fa1;have ed1:=aN qd1;have ep1:=aN fp;refine Xk ?_;have xA:=NR (os:=os++[Ob.gone,.var (aI p),.var (aU x)]) (id:=(D.getD (eV m x).toNat default).1) (r:=x.opt.toNat) (row:=S.getD (eV m x).toNat default) (qd _) GK x.amt (by unfold cR;omega);have sd:=iy mu;generalize FB:eV m x=c at *;refine vW ?_;intro Q hn he;refine ph ⟨ao [(0,.ptr gi 0 0),(3,.cB (aU x)),(4,.ptr (os.length+1) 0 0),(5,.ref (E.getD x.pair.toNat default).1 2 0 (E.getD x.pair.toNat default).2)],os.set (D.getD c.toNat default).1 (.arr 2 (rowsOf ba (jQ (S.getD c.toNat default) x.opt.toNat x.amt)))++[.gone,.var (aI p),.var (aU x)]⟩ hn ?_ (λkey=>?_);rotate_left
 ·refine aiq [5,10,13] (.take 0 (.take 4 (.take 5 (.four 1 (.four 2 (.four 3 (.three 6 (.take 7 (.take 8 (.take 9 (.take 10 (.take 11 (.take 12 (.take 13 (.take 14 .nil)))))))) 9 (.take 10 (.both 6 (.take 7 (.take 8 (.take 11 (.take 12 (.take 13 (.take 14 .nil)))))) 12 (.take 6 (.take 7 (.take 8 (.take 11 (.take 13 (.take 14 .nil)))))))) 12 (.take 13 (.both 6 (.take 7 (.take 8 (.take 9 (.take 10 (.take 11 (.take 14 .nil)))))) 9 (.take 6 (.take 7 (.take 8 (.take 10 (.take 11 (.take 14 .nil))))))))) 6 (.take 3 (.take 7 (.take 8 (.take 9 (.take 10 (.take 11 (.take 12 (.take 13 (.take 14 .nil))))))))) 9 (.take 10 (.three 3 (.both 6 (.take 7 (.take 8 (.take 11 (.take 12 (.take 13 (.take 14 .nil)))))) 12 (.take 6 (.take 7 (.take 8 (.take 11 (.take 13 (.take 14 .nil))))))) 6 (.take 3 (.take 7 (.take 8 (.take 11 (.take 12 (.take 13 (.take 14 .nil))))))) 12 (.take 13 (.both 3 (.take 6 (.take 7 (.take 8 (.take 11 (.take 14 .nil))))) 6 (.take 3 (.take 7 (.take 8 (.take 11 (.take 14 .nil))))))))) 12 (.take 13 (.three 3 (.both 6 (.take 7 (.take 8 (.take 9 (.take 10 (.take 11 (.take 14 .nil)))))) 9 (.take 6 (.take 7 (.take 8 (.take 10 (.take 11 (.take 14 .nil))))))) 6 (.take 3 (.take 7 (.take 8 (.take 9 (.take 10 (.take 11 (.take 14 .nil))))))) 9 (.take 10 (.both 3 (.take 6 (.take 7 (.take 8 (.take 11 (.take 14 .nil))))) 6 (.take 3 (.take 7 (.take 8 (.take 11 (.take 14 .nil)))))))))) 6 (.take 2 (.take 3 (.take 7 (.take 8 (.take 9 (.take 10 (.take 11 (.take 12 (.take 13 (.take 14 .nil)))))))))) 9 (.take 10 (.three 2 (.three 3 (.both 6 (.take 7 (.take 8 (.take 11 (.take 12 (.take 13 (.take 14 .nil)))))) 12 (.take 6 (.take 7 (.take 8 (.take 11 (.take 13 (.take 14 .nil))))))) 6 (.take 3 (.take 7 (.take 8 (.take 11 (.take 12 (.take 13 (.take 14 .nil))))))) 12 (.take 13 (.both 3 (.take 6 (.take 7 (.take 8 (.take 11 (.take 14 .nil))))) 6 (.take 3 (.take 7 (.take 8 (.take 11 (.take 14 .nil)))))))) 6 (.take 2 (.take 3 (.take 7 (.take 8 (.take 11 (.take 12 (.take 13 (.take 14 .nil)))))))) 12 (.take 13 (.both 2 (.both 3 (.take 6 (.take 7 (.take 8 (.take 11 (.take 14 .nil))))) 6 (.take 3 (.take 7 (.take 8 (.take 11 (.take 14 .nil)))))) 6 (.take 2 (.take 3 (.take 7 (.take 8 (.take 11 (.take 14 .nil)))))))))) 12 (.take 13 (.three 2 (.three 3 (.both 6 (.take 7 (.take 8 (.take 9 (.take 10 (.take 11 (.take 14 .nil)))))) 9 (.take 6 (.take 7 (.take 8 (.take 10 (.take 11 (.take 14 .nil))))))) 6 (.take 3 (.take 7 (.take 8 (.take 9 (.take 10 (.take 11 (.take 14 .nil))))))) 9 (.take 10 (.both 3 (.take 6 (.take 7 (.take 8 (.take 11 (.take 14 .nil))))) 6 (.take 3 (.take 7 (.take 8 (.take 11 (.take 14 .nil)))))))) 6 (.take 2 (.take 3 (.take 7 (.take 8 (.take 9 (.take 10 (.take 11 (.take 14 .nil)))))))) 9 (.take 10 (.both 2 (.both 3 (.take 6 (.take 7 (.take 8 (.take 11 (.take 14 .nil))))) 6 (.take 3 (.take 7 (.take 8 (.take 11 (.take 14 .nil)))))) 6 (.take 2 (.take 3 (.take 7 (.take 8 (.take 11 (.take 14 .nil))))))))))) 6 (.take 1 (.take 2 (.take 3 (.take 7 (.take 8 (.take 9 (.take 10 (.take 11 (.take 12 (.take 13 (.take 14 .nil))))))))))) 9 (.take 10 (.three 1 (.three 2 (.three 3 (.both 6 (.take 7 (.take 8 (.take 11 (.take 12 (.take 13 (.take 14 .nil)))))) 12 (.take 6 (.take 7 (.take 8 (.take 11 (.take 13 (.take 14 .nil))))))) 6 (.take 3 (.take 7 (.take 8 (.take 11 (.take 12 (.take 13 (.take 14 .nil))))))) 12 (.take 13 (.both 3 (.take 6 (.take 7 (.take 8 (.take 11 (.take 14 .nil))))) 6 (.take 3 (.take 7 (.take 8 (.take 11 (.take 14 .nil)))))))) 6 (.take 2 (.take 3 (.take 7 (.take 8 (.take 11 (.take 12 (.take 13 (.take 14 .nil)))))))) 12 (.take 13 (.both 2 (.both 3 (.take 6 (.take 7 (.take 8 (.take 11 (.take 14 .nil))))) 6 (.take 3 (.take 7 (.take 8 (.take 11 (.take 14 .nil)))))) 6 (.take 2 (.take 3 (.take 7 (.take 8 (.take 11 (.take 14 .nil))))))))) 6 (.take 1 (.take 2 (.take 3 (.take 7 (.take 8 (.take 11 (.take 12 (.take 13 (.take 14 .nil))))))))) 12 (.take 13 (.both 1 (.both 2 (.both 3 (.take 6 (.take 7 (.take 8 (.take 11 (.take 14 .nil))))) 6 (.take 3 (.take 7 (.take 8 (.take 11 (.take 14 .nil)))))) 6 (.take 2 (.take 3 (.take 7 (.take 8 (.take 11 (.take 14 .nil))))))) 6 (.take 1 (.take 2 (.take 3 (.take 7 (.take 8 (.take 11 (.take 14 .nil))))))))))) 12 (.take 13 (.three 1 (.three 2 (.three 3 (.both 6 (.take 7 (.take 8 (.take 9 (.take 10 (.take 11 (.take 14 .nil)))))) 9 (.take 6 (.take 7 (.take 8 (.take 10 (.take 11 (.take 14 .nil))))))) 6 (.take 3 (.take 7 (.take 8 (.take 9 (.take 10 (.take 11 (.take 14 .nil))))))) 9 (.take 10 (.both 3 (.take 6 (.take 7 (.take 8 (.take 11 (.take 14 .nil))))) 6 (.take 3 (.take 7 (.take 8 (.take 11 (.take 14 .nil)))))))) 6 (.take 2 (.take 3 (.take 7 (.take 8 (.take 9 (.take 10 (.take 11 (.take 14 .nil)))))))) 9 (.take 10 (.both 2 (.both 3 (.take 6 (.take 7 (.take 8 (.take 11 (.take 14 .nil))))) 6 (.take 3 (.take 7 (.take 8 (.take 11 (.take 14 .nil)))))) 6 (.take 2 (.take 3 (.take 7 (.take 8 (.take 11 (.take 14 .nil))))))))) 6 (.take 1 (.take 2 (.take 3 (.take 7 (.take 8 (.take 9 (.take 10 (.take 11 (.take 14 .nil))))))))) 9 (.take 10 (.both 1 (.both 2 (.both 3 (.take 6 (.take 7 (.take 8 (.take 11 (.take 14 .nil))))) 6 (.take 3 (.take 7 (.take 8 (.take 11 (.take 14 .nil)))))) 6 (.take 2 (.take 3 (.take 7 (.take 8 (.take 11 (.take 14 .nil))))))) 6 (.take 1 (.take 2 (.take 3 (.take 7 (.take 8 (.take 11 (.take 14 .nil))))))))))))))) rfl GS (by decide +kernel) ?_;simp(disch:=omega)only[Ac,↓Pc,simprocAttr,vT,vS,vR,vQ,uJ,cj,↓Lq,eg,ea,gC,cE,bH,qd,aU];repeat'(first|with_reducible refine c6 ?_ ?_|omega|(refine fZ bK GM ?_;simp(disch:=omega)only[Ac,↓Pc,simprocAttr,vT,vS,vR,vQ,uJ,cj,↓Lq,eg,ea,gC,cE,bH,qd,aU,bE])|(refine fZ xA GM ?_;simp(disch:=omega)only[Ac,↓Pc,simprocAttr,uJ,sd,bE]))
  all_goals
   refine key _ ?_;exact Xv @aU.eq_1
 (try clear hn;try clear he)
 try(try clear Q)
 have mU:=(h.Bo (j:=c.toNat) GK (r:=jQ (S.getD c.toNat default) x.opt.toNat x.amt) (yr _ _ _)).app [.gone,.var (aI p),.var (aU x)];have Nl:os.length<=(os.set (D.getD c.toNat default).1 (.arr 2 (rowsOf ba (jQ (S.getD c.toNat default) x.opt.toNat x.amt)))++[Ob.gone,Ob.var (aI p),Ob.var (aU x)]).length:=GM;have fp2:(os.set (D.getD c.toNat default).1 (.arr 2 (rowsOf ba (jQ (S.getD c.toNat default) x.opt.toNat x.amt)))++[Ob.gone,Ob.var (aI p),Ob.var (aU x)])[os.length+1]?=some (.var (aI p)):=pL _ _ _ _ _;have hmS:j5 m x (S,T)=(S.set c.toNat (jQ (S.getD c.toNat default) x.opt.toNat x.amt),T.set x.pair.toNat (gQ (oU m x).1 x.amt (oU m x).2 (T.getD x.pair.toNat default))):=by unfold j5;rw[FB]
 rw[hmS];dsimp only;have xB:x.pair.toNat<T.length:=GK;have I5:oU m x=if x.side=0 then(λk:Nat=>(x.opt*dw+k).toNat,dw) else(λk:Nat=>((k:Int)*dw+x.opt).toNat,rows):=by unfold oU;rw[cg,FF,NW]
 have I6:c=if x.side=0 then p.fst else p.snd:=by rw[<- FB];unfold eV;rw[cg]
 have NX:=uz hg.tb x.pair.toNat;dsimp only at NX;have oz:=Ds dO hm;generalize hS':S.set c.toNat (jQ (S.getD c.toNat default) x.opt.toNat x.amt)=S' at *;generalize os.set (D.getD c.toNat default).1 (.arr 2 (rowsOf ba (jQ (S.getD c.toNat default) x.opt.toNat x.amt)))++[Ob.gone,.var (aI p),.var (aU x)]=ly at *;obtain⟨gg,ga,gb⟩:=Bp mU;obtain⟨u1,u2⟩:=mU.rD.row p.snd.toNat GK;obtain⟨v1,v2⟩:=mU.rD.row p.fst.toNat GK;clear fg eg fa ea fb eb tq mu qe qd I4 rF1 Dt fp bK fg1 fa1 qd1 eg1 ea1 ed1 ep1 xA sd h;have yD:(D.getD p.snd.toNat default).2=dw:=by rw[<- NV];exact IZ
 have aa5:(D.getD p.fst.toNat default).2=rows:=by rw[<- rF2];exact hFl
 by_cases hs:x.side=0
 ·rw[if_pos hs]at I6 I5;rw[I6]at o4;rw[I5];dsimp only;((repeat'(first|refine Vb (X5 @gg @ga @gC.eq_1 @cE.eq_1 (X5 @fp2 @aI.eq_1 @u1 @v1 (X3 @yD @aa5 @aU.eq_1))) ?_|(refine Xi ?_ ?_<;>try intro ht)|exact Xx|fail)))
  refine aR (λz:Nat×List Ob=>(⟨ao [(3,.cB (aU x)),(5,.ref (E.getD x.pair.toNat default).1 2 0 (E.getD x.pair.toNat default).2),(6,Qf dw),(53,Qf dw),(54,Qf z.1)],z.2⟩:St))
   (λz=>z.1<=dw/\LO ba (GB m gi ai bi D E) D E S' (T.set x.pair.toNat (gQ (λk:Nat=>(x.opt*dw+k).toNat) x.amt z.1 (T.getD x.pair.toNat default))) z.2/\os.length<=z.2.length)
   (λz=>dw-z.1) (0,ly) ⟨aS _,by rw[gQ,zC];exact mU,Nl⟩ (Xv @aU.eq_1) ?_
  rintro⟨k,ok⟩⟨hk,kr,gr⟩Ql ak aq;dsimp only at hk kr gr ⊢;obtain⟨tu,BG⟩:=kr.rE.row x.pair.toNat GK;rw[uq _ _ _ xB]at tu BG;have lX:=Bj (λk:Nat=>(x.opt*dw+k).toNat) x.amt k (T.getD x.pair.toNat default);have NY:=(NX.sub GK (λk:Nat=>(x.opt*dw+k).toNat) (a:=x.amt) GK k).get GK (x.opt*dw+k:Int).toNat;by_cases bg:k<dw
  ·have mV:=kr.zR (j:=x.pair.toNat) GK (r:=jQ (gQ (λk:Nat=>(x.opt*dw+k).toNat) x.amt k (T.getD x.pair.toNat default)) (x.opt*dw+k:Int).toNat (-x.amt)) (by rw[uq _ _ _ xB];exact yr _ _ _);rw[wD]at mV;obtain⟨NZ,N0,N1,N2⟩:=I7 (a:=x.opt) (k:=(k:Int)) (c:=(dw:Int)) (n:=(rows:Int)) ⟨o3,GK⟩ GK GK GK;generalize vZ:(x.opt*dw+k:Int)=ix at *;generalize gR:gQ (λk:Nat=>(x.opt*dw+k).toNat) x.amt k (T.getD x.pair.toNat default)=tk at *;have xA:=NR tu (r:=ix.toNat) GK (-x.amt) (by unfold cR;omega);((repeat'(first|refine Va (X3 @tu @aU.eq_1 @vZ) ?_|(refine Xi ?_ ?_<;>try intro ht)|exact Xx|fail))<;>try with_reducible intro K hK)
   refine fZ xA GM ?_;((try revert hK K);(refine Va X0 ?_))
   refine ak _ (k+1,_) ⟨PW,by rw[gQ,gR,vZ];exact mV,by dsimp only;rw[bJ];exact gr⟩ PW ?_;exact Xv @aU.eq_1
  ·have tv:k=dw:=GK;rw[tv]at kr;((repeat'(first|refine Va X0 ?_|(refine Xi ?_ ?_<;>try intro ht)|exact Xx|fail)))
   refine aq _ _ rfl ?_;clear ak aq Ql;repeat(refine Xu ?_)
   refine Vb X0 ?_;unfold eU;simp only[dI,dE];exact⟨.bD [],_,⟨rfl,kr,gr⟩,eF rfl gr rfl⟩
 ·rw[if_neg hs]at I6 I5;rw[I6]at o4;rw[I5];dsimp only;((repeat'(first|refine Vb (X5 @gg @ga @gC.eq_1 @cE.eq_1 (X5 @fp2 @aI.eq_1 @u1 @v1 (X3 @yD @aa5 @aU.eq_1))) ?_|(refine Xi ?_ ?_<;>try intro ht)|exact Xx|fail)))
  refine aR (λz:Nat×List Ob=>(⟨ao [(3,.cB (aU x)),(5,.ref (E.getD x.pair.toNat default).1 2 0 (E.getD x.pair.toNat default).2),(6,Qf dw),(78,Qf rows),(79,Qf z.1)],z.2⟩:St))
   (λz=>z.1<=rows/\LO ba (GB m gi ai bi D E) D E S' (T.set x.pair.toNat (gQ (λk:Nat=>((k:Int)*dw+x.opt).toNat) x.amt z.1 (T.getD x.pair.toNat default))) z.2/\os.length<=z.2.length)
   (λz=>rows-z.1) (0,ly) ⟨aS _,by rw[gQ,zC];exact mU,Nl⟩ (Xv @aU.eq_1) ?_
  rintro⟨k,ok⟩⟨hk,kr,gr⟩Ql ak aq;dsimp only at hk kr gr ⊢;obtain⟨tu,BG⟩:=kr.rE.row x.pair.toNat GK;rw[uq _ _ _ xB]at tu BG;have lX:=Bj (λk:Nat=>((k:Int)*dw+x.opt).toNat) x.amt k (T.getD x.pair.toNat default);have NY:=(NX.sub GK (λk:Nat=>((k:Int)*dw+x.opt).toNat) (a:=x.amt) GK k).get GK ((k:Int)*dw+x.opt).toNat;by_cases bg:k<rows
  ·have mV:=kr.zR (j:=x.pair.toNat) GK (r:=jQ (gQ (λk:Nat=>((k:Int)*dw+x.opt).toNat) x.amt k (T.getD x.pair.toNat default)) ((k:Int)*dw+x.opt).toNat (-x.amt)) (by rw[uq _ _ _ xB];exact yr _ _ _);rw[wD]at mV;obtain⟨NZ,N0,N1,N2⟩:=I7 (a:=(k:Int)) (k:=x.opt) (c:=(dw:Int)) (n:=(rows:Int)) GK ⟨o3,GK⟩ GK GK;generalize vZ:((k:Int)*dw+x.opt)=ix at *;generalize gR:gQ (λk:Nat=>((k:Int)*dw+x.opt).toNat) x.amt k (T.getD x.pair.toNat default)=tk at *;have xA:=NR tu (r:=ix.toNat) GK (-x.amt) (by unfold cR;omega);((repeat'(first|refine Va (X3 @tu @aU.eq_1 @vZ) ?_|(refine Xi ?_ ?_<;>try intro ht)|exact Xx|fail))<;>try with_reducible intro K hK)
   refine fZ xA GM ?_;((try revert hK K);(refine Va X0 ?_))
   refine ak _ (k+1,_) ⟨PW,by rw[gQ,gR,vZ];exact mV,by dsimp only;rw[bJ];exact gr⟩ PW ?_;exact Xv @aU.eq_1
  ·have tv:k=rows:=GK;rw[tv]at kr;((repeat'(first|refine Va X0 ?_|(refine Xi ?_ ?_<;>try intro ht)|exact Xx|fail)))
   refine aq _ _ rfl ?_;clear ak aq Ql;repeat(refine Xu ?_)
   ((skip))
   unfold eU;simp only[dI,dE];exact⟨.bD [],_,⟨rfl,kr,gr⟩,eF rfl gr rfl⟩
def ajs{m:ah}(hm:VM m){gi ai bi:Nat}{D E:List (Nat×Nat)}{S T:List (List Nm)}{os:List Ob}(h:LO ba (GB m gi ai bi D E) D E S T os){B:Int}(hg:LG m B (S,T)){left:List (List Bool)}(hf:dh m left)(c:Nat)(hc:c<m.cls.length):
  cX Tryz.prog 115 [.ptr gi 0 0,Qf c,.tree 1 (rowsOf aC left)] os λr ob=>ic os ob/\∃ id,r=.ref id 2 0 (j7 (S.getD c default) (left.getD c default)).length/\ob[id]?=some (.arr 2 (rowsOf ba (j7 (S.getD c default) (left.getD c default)))):=by
 obtain⟨fg,fa,fb⟩:=Bp h;have hD:=h.rD.len;have jr:S.length=m.cls.length:=hg.s;have rT:=hm.cls;have iP:=hf.1;obtain⟨mu,z8⟩:=h.rD.row c GK;have FE:(S.getD c default).length=(m.cls.getD c default).length:=hg.sl c hc;have ij:=hf.2 c GK;have I3:=hm.opt _ (aF (l:=m.cls) (i:=c) (d:=default) hc);generalize bL:S.getD c default=row at *;generalize jV:left.getD c default=lc at *;refine cX.aM 36 os.length [.tmp 6] Tryz.func115 ?_;refine Vb (X5 @fg @fa @gC.eq_1 @mu @cE.eq_1) ?_;have xw:(D.getD c default).2=row.length:=z8.symm;refine aR (λz:Nat×List Ob×Nat×List Nm=>(⟨ao [(1,Qf c),(2,.tree 1 (rowsOf aC left)),(7,.ref z.2.2.1 2 0 z.2.2.2.length),(16,.ref (D.getD c default).1 2 0 row.length),(17,Qf row.length),(18,Qf z.1)],z.2.1⟩:St))
  (λz=>z.1<=row.length/\ic os z.2.1/\z.2.1[z.2.2.1]?=some (.arr 2 (rowsOf ba z.2.2.2))/\os.length<=z.2.2.1/\z.2.2.2=j7 (row.take z.1) (lc.take z.1)/\z.2.2.2.length<=z.1)
  (λz=>row.length-z.1) (0,os++[.arr 2 []],os.length,[]) ⟨aS _,(ic.refl os).app _,kl _ _ _,aY _,rfl,aY _⟩ ?_ ?_
 ·refine aH.trans (aH.nil 7 2 (by simp only[Kc,simprocAttr]) GS) ?_;exact Xv @xw
 rintro⟨i,ob,ti,xs⟩⟨hi,bf,eX,kS,dz,vC⟩Ql ak aq;dsimp only at hi bf eX kS dz vC ⊢;have r1:=bf _ _ mu;have I8:=aN r1;have tg:=aN eX;have Fz:=iy eX;have oz:=(aV.1 eX).1;by_cases ar:i<row.length
 ·have h1:=eu ar;have h2:=eu (l:=lc) (k:=i) GK;have h3:=MN (row.getD i default) (lc.getD i default) (row.take i) (lc.take i) (by rw[eY,eY];omega);rw[<- h1,<- h2,<- dz]at h3;have uE:lc.getD i default=lc.getD i false:=rfl;rw[uE]at h3;generalize cg:row.getD i default=p at *;generalize xC:lc.getD i false=is at *;cases is
  ·simp only[jo,if_false,nL]at h3;((repeat'(first|refine Va (X5 @r1 @I8 @ba.eq_1 @cg (X4 @jV @xC @aC.eq_1 @bH)) ?_|(refine Xi ?_ ?_<;>try intro ht)|exact Xx|fail)))
   refine ak _ (i+1,ob++[.var (ba p)],ti,xs) ⟨PW,bf.app _,tg _,kS,h3.symm,PW⟩ PW ?_;exact Xv X0
  ·simp only[if_true]at h3;have N3:rowsOf ba xs++[[AV.lit (.int .i64 p.1),.lit (.bool p.2)]]=rowsOf ba (xs++[p]):=by simp[rowsOf,ba]
   ((repeat'(first|refine Va (X5 @r1 @I8 @eX @tg (X5 @Fz @ba.eq_1 @cg @jV (X5 @xC @aC.eq_1 @N3 @bH (X3 @bE.{0} @bO.{0} @bJ.{0})))) ?_|(refine Xi ?_ ?_<;>try intro ht)|exact Xx|fail)))
   refine ak _ (i+1,ob.set ti .gone++[.var (ba p),.arr 2 [ba p],.arr 2 (rowsOf ba (xs++[p]))],ob.length+2,xs++[p]) ⟨PW,(bf.set kS).app _,pL _ _ _ _ _,by dsimp only;have:=bf.len;omega,h3.symm,P2⟩ PW ?_;exact Xv @ba.eq_1
 ·rw[dm GK,dm GK]at dz;((repeat'(first|refine Va X0 ?_|(refine Xi ?_ ?_<;>try intro ht)|exact Xx|fail)))
  refine aq _ _ rfl ?_;clear ak aq Ql;repeat(refine Xu ?_)
  refine Vb X0 ?_;unfold eU;simp only[dI,dE];simp(disch:=omega)only[Ac,↓Pc,simprocAttr];rw[<- dz];exact⟨_,_,⟨bf,ti,rfl,eX⟩,eF rfl bf.len rfl⟩
def aju {m:ah} (hm:VM m) {gi ai bi:Nat} {D E:List (Nat×Nat)} {S T:List (List Nm)} {os:List Ob} (h:LO ba (GB m gi ai bi D E) D E S T os) {B:Int} (hg:LG m B (S,T)) {left:List (List Bool)} (hf:dh m left) (c:Nat) (hc:c<m.ae.length) :
    cX Tryz.prog 116 [.ptr gi 0 0,Qf c,.tree 1 (rowsOf aC left)] os λr ob=>ic os ob/\∃ id,r=.ref id 2 0 (j7 (T.getD c default) (iI m left c)).length/\ob[id]?=some (.arr 2 (rowsOf ba (j7 (T.getD c default) (iI m left c)))):=by
  obtain ⟨fg,fa,fb⟩:=Bp h
  have eg:=aN fg
  have ea:=aN fa
  have eb:=aN fb
  have hD:=h.rD.len
  have hE:=h.rE.len
  have jr:S.length=m.cls.length:=hg.s
  have Fp:T.length=m.ae.length:=hg.t
  have rT:=hm.cls
  have pT:=hm.ae
  have iP:=hf.1
  obtain ⟨tq,FD⟩:=h.rE.row c GK
  have Dp:(T.getD c default).length=(m.ae.getD c default).ay.length:=hg.tl c hc
  have dO:=j6 hm.pr _ (aF (d:=default) hc)
  obtain ⟨NS,NT,NU,FC⟩:=FA dO
  have oz:=Ds dO hm
  have I9:=hf.2 (m.ae.getD c default).fst.toNat GK
  have z':=hf.2 (m.ae.getD c default).snd.toNat GK
  have hoa:=hm.opt _ (aF (l:=m.cls) (i:=(m.ae.getD c default).fst.toNat) (d:=default) GK)
  have bP:=hm.opt _ (aF (l:=m.cls) (i:=(m.ae.getD c default).snd.toNat) (d:=default) GK)
  obtain ⟨I4,NV⟩:=h.rD.row (m.ae.getD c default).snd.toNat GK
  have IZ:(S.getD (m.ae.getD c default).snd.toNat default).length=(m.cls.getD (m.ae.getD c default).snd.toNat default).length:=hg.sl _ GK
  have N4:iI m left c=rJ (left.getD (m.ae.getD c default).fst.toNat default) (left.getD (m.ae.getD c default).snd.toNat default):=rfl
  have yH:=EY (left.getD (m.ae.getD c default).snd.toNat default) (left.getD (m.ae.getD c default).fst.toNat default)
  have hbg:=Ia (left.getD (m.ae.getD c default).snd.toNat default) (left.getD (m.ae.getD c default).fst.toNat default)
  rw[<- N4] at yH hbg
  generalize bL:T.getD c default=row at *
  generalize cg:m.ae.getD c default=p at *
  generalize FG:left.getD p.fst.toNat default=la at *
  generalize xD:left.getD p.snd.toNat default=lb at *
  generalize iI m left c=pb at *
  have yD:(D.getD p.snd.toNat default).2=lb.length:=by rw[<- NV,IZ,z']
  have br:row.length=pb.length:=by
    rw[yH,I9,z',Dp]
    have:=FC
    rw[<- Int.natCast_mul] at this
    exact Int.ofNat_inj.1 this
  have xw:(E.getD c default).2=row.length:=FD.symm
  have qp:=aN I4
  have qe:=aN tq
  refine cX.aM 70 os.length [.tmp 6] Tryz.func116 ?_
  (((refine Vb (X5 @fg @fa @fb @eg (X5 @ea @eb @gC.eq_1 @I4 (X5 @qp @tq @qe @cE.eq_1 (X5 @cg @aI.eq_1 @bH @yD @xw)))) ?_)))
  refine aR (λz:Nat×List Ob×Nat×List Nm=>(⟨ao [(2,.tree 1 (rowsOf aC left)),(7,.ptr os.length 0 0),(8,Qf lb.length),(9,.ref z.2.2.1 2 0 z.2.2.2.length),(35,.ref (E.getD c default).1 2 0 row.length),(36,Qf row.length),(37,Qf z.1)],z.2.1⟩:St))
    (λz=>z.1<=row.length/\ic (os++[.var (aI p)]) z.2.1/\z.2.1[z.2.2.1]?=some (.arr 2 (rowsOf ba z.2.2.2))/\os.length<z.2.2.1/\z.2.2.2=j7 (row.take z.1) (pb.take z.1)/\z.2.2.2.length<=z.1)
    (λz=>row.length - z.1) (0,(os++[.var (aI p)])++[.arr 2 []],(os++[Ob.var (aI p)]).length,[]) ⟨aS _,(ic.refl _).app _,kl _ _ _,GM,rfl,aY _⟩ ?_ ?_
  · refine aH.trans (aH.nil 9 2 (by simp only[Kc,simprocAttr]) GS) ?_
    exact Xv (X2 @xw @yD)
  rintro ⟨i,ob,ti,xs⟩ ⟨hi,bf,eX,kS,dz,vC⟩ Ql ak aq
  dsimp only at hi bf eX kS dz vC ⊢
  have r1:=bf _ _ (qe [.var (aI p)])
  have rv:ob[os.length]?=some (.var (aI p)):=bf _ _ (kl _ _ _)
  have I8:=aN r1
  have erv:=aN rv
  have tg:=aN eX
  have Fz:=iy eX
  have ao7:=(aV.1 eX).1
  have eG:=bf.len
  rw[bO,Ca] at eG
  by_cases ar:i<row.length
  · have h1:=eu ar
    have h2:=eu (l:=pb) (k:=i) GK
    have h3:=MN (row.getD i default) (pb.getD i default) (row.take i) (pb.take i) (by rw[eY,eY];omega)
    rw[<- h1,<- h2,<- dz] at h3
    have uE:pb.getD i default=(la.getD (i / lb.length) false && lb.getD (i % lb.length) false):=hbg i GK
    rw[uE] at h3
    have aa7:0<lb.length:=by
      rcases Nat.eq_zero_or_pos lb.length with h0 | h0
      · rw[h0,Nat.mul_zero] at yH;omega
      · exact h0
    have hdiv:i / lb.length<la.length:=by rw[Nat.div_lt_iff_lt_mul aa7];omega
    have ry:=Nat.mod_lt i aa7
    have hq:((i:Int).tdiv lb.length)=((i / lb.length:Nat):Int):=by rw[Int.tdiv_eq_ediv_of_nonneg GK];simp
    have hr:((i:Int).tmod lb.length)=((i % lb.length:Nat):Int):=by rw[Int.tmod_eq_emod_of_nonneg GK];simp
    have I':((i:Int) / (lb.length:Int))=((i / lb.length:Nat):Int):=GM
    have kh:((i:Int) % (lb.length:Int))=((i % lb.length:Nat):Int):=GM
    generalize hdd:i / lb.length=dd at *
    generalize yA:i % lb.length=mm at *
    generalize yI:row.getD i default=q at *
    generalize Ek:la.getD dd false=ia at *
    generalize Lz:lb.getD mm false=ib at *
    have N3:rowsOf ba xs++[[AV.lit (.int .i64 q.1),.lit (.bool q.2)]]=rowsOf ba (xs++[q]):=by simp[rowsOf,ba]
    cases ia<;>cases ib
    all_goals
      simp only[qU,gK,jo,if_false,if_true,nL] at h3
      ((repeat' (first|refine Va (X5 @r1 @I8 @rv @erv (X5 @eX @tg @Fz @ba.eq_1 (X5 @aI.eq_1 @yI @FG @xD (X5 @hq @hr @I' @kh (X5 @Ek @Lz @aC.eq_1 @N3 (X5 @bH @Int.toNat_natCast @bE.{0} @bO.{0} @bJ.{0})))))) ?_|(refine Xi ?_ ?_<;>try intro ht)|exact Xx|fail)))
    all_goals first
      | (refine ak _ (i+1,ob++[.var (ba q)],ti,xs) ⟨PW,bf.app _,tg _,kS,h3.symm,PW⟩ PW ?_
         exact Xv @ba.eq_1;done)
      | (refine ak _ (i+1,ob.set ti .gone++[.var (ba q),.arr 2 [ba q],.arr 2 (rowsOf ba (xs++[q]))],ob.length+2,xs++[q]) ⟨PW,(bf.set (by rw[bO,Ca];omega)).app _,pL _ _ _ _ _,PW,h3.symm,P2⟩ PW ?_
         exact Xv @ba.eq_1;done)
  · rw[dm GK,dm GK] at dz
    ((repeat' (first|refine Va X0 ?_|(refine Xi ?_ ?_<;>try intro ht)|exact Xx|fail)))
    refine aq _ _ rfl ?_;clear ak aq Ql
    repeat (refine Xu ?_)
    refine Vb X0 ?_
    unfold eU
    simp only[dI,dE]
    simp (disch:=omega) only[Ac,↓Pc,simprocAttr]
    rw[<- dz]
    refine⟨_,ob,⟨λk o hk=>bf k o (aN hk _),ti,rfl,eX⟩,eF rfl GK rfl⟩
end T

