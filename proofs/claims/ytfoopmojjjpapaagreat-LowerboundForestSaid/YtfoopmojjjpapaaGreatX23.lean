import Derived.Test.YtfoopmojjjpapaaGreatX22
set_option linter.all false
set_option maxHeartbeats 0
set_option maxRecDepth 20000
open Bool renaming true_and→iI,and_eq_true→a7,false_and→pV,false_eq_true→jd
open And renaming intro→c6
open List renaming append_assoc→bw,length_append→bI,set_set→xQ,length_set→bH,getElem?_eq_some_iff→aT,length_take→fZ,append_nil→np,take_of_length_le→c9,length_singleton→CT
open Nat renaming zero_le→aS,le_refl→aU
open Go Go.Am Go.Proofs
namespace T
def abY{m:aj}{gi ai bi:Nat}{D E:List (Nat×Nat)}{S T:List (List Nm)}{os:List Ob}(h:LO aX (GB m gi ai bi D E) D E S T os)(x:Mv)(hx:0<=x.pair/\x.pair<m.ae.length)(pD:m.ae.length<=4000):
  Holds Tryz.prog 112 [.ptr gi 0 0,.agg (aP x)] os (OJ (dL m x)) (os++[.var (aP x)]):=by
 obtain⟨fg,fa,fb⟩:=Ah h;have eg:=aM fg;generalize au:dL m x=res;unfold dL at au;refine Holds.aQ 28 os.length [.tmp 4] Tryz.func112 ?_;by_cases hs:x.side=0
 ·rw[if_pos hs]at au;generalize cg:m.ae.getD x.pair.toNat default=p at *;((repeat'(first|refine Vb (X5 @fg @eg @gC.eq_1 @bF (X3 @cg @aP.eq_1 @aL.eq_1)) ?_|(refine Xi ?_ ?_<;>try intro ht)|exact Xx|fail)))
  exact dX rfl Fl (by rw[au])
 ·rw[if_neg hs]at au;generalize cg:m.ae.getD x.pair.toNat default=p at *;((repeat'(first|refine Vb (X5 @fg @eg @gC.eq_1 @bF (X3 @cg @aP.eq_1 @aL.eq_1)) ?_|(refine Xi ?_ ?_<;>try intro ht)|exact Xx|fail)))
  exact dX rfl Fl (by rw[au])
def NQ{os:List Ob}{id r:Nat}{row:List Nm}(h:os[id]?=some (.arr 2 (rowsOf aX row)))(hr:r<row.length)(n:Int)(o8:jv ((row.getD r default).1+n)):
  Holds Tryz.prog 113 [.ptr id r 0,OJ n] os (.bx []) (os.set id (.arr 2 (rowsOf aX (jz row r n)))):=by
 unfold jv at o8;refine Holds.aQ 12 os.length [] Tryz.func113 ?_;refine Vb (X3 @h @aX.eq_1 @aim) ?_;exact dX rfl Fl rfl
def alK{m:aj}(hm:VM m){x:Mv}(h1:0<=x.pair)(h2:x.pair<m.ae.length):0<=dL m x/\dL m x<m.cls.length:=by
 obtain⟨a,b,c,_⟩:=EI (jV hm.pr _ (aF (l:=m.ae) (i:=x.pair.toNat) (d:=default) CZ));unfold dL;split<;>omega
def alo{m:aj}(hm:VM m){gi ai bi:Nat}{D E:List (Nat×Nat)}{S T:List (List Nm)}{os:List Ob}(h:LO aX (GB m gi ai bi D E) D E S T os){B:Int}(hg:LG m B (S,T))(x:Mv):
  dZ Tryz.prog 79 [.ptr gi 0 0,.agg (aP x)] os λr ob=>r=.lit (.bool (gK m x))/\∃ l,ob=os++l:=by
 obtain⟨fg,fa,fb⟩:=Ah h;have eg:=aM fg;have ea:=aM fa;have hE:=h.rE.len;have hD:=h.rD.len;have ka:S.length=m.cls.length:=hg.s;have ES:T.length=m.ae.length:=hg.t;have pD:=hm.ae;have qE:=hm.cls;generalize au:gK m x=res;unfold gK at au;refine dZ.aQ 56 os.length [.tmp 4] Tryz.func79 ?_;by_cases hr:0<=x.pair/\x.pair<m.ae.length/\0<=x.side/\x.side<=1/\-268435456<=x.amt/\x.amt<=268435456
 ·rw[decide_eq_true hr,iI]at au;have bz:=abY (h.app [.gone]) x ⟨hr.1,hr.2.1⟩ pD;have eb:=aM fb;((repeat'(first|refine Vb (X5 @fg @eg @fb @eb (X3 @gC.eq_1 @bF @aP.eq_1)) ?_|(refine V2 (X5 @fg @eg @fb @eb (X3 @gC.eq_1 @bF @aP.eq_1)) ?_ ?_<;>try with_reducible intro hb)|(refine Xi ?_ ?_<;>try intro ht)|exact Xx|fail)))
  refine df (aH.Bz 3 os.length (cells:=aP x) (by rw[jX];rfl) (by simp only[Kc,simprocAttr]) (by simp[aP])) ?_;refine df (σ':=⟨ar [(0,.ptr gi 0 0),(3,.cj (aP x))],os++[.gone]⟩) (by rw[D7];exact Xv @aP.eq_1) ?_;obtain⟨c1,c2⟩:=alK hm hr.1 hr.2.1;obtain⟨lE,yS⟩:=h.rD.row (dL m x).toNat CZ;have qd:=aM lE;have ln:=hg.sl (dL m x).toNat CZ;have Ho:=hm.opt _ (aF (l:=m.cls) (i:=(dL m x).toNat) (d:=default) CZ);generalize D5:dL m x=c at *;obtain⟨bo,hd⟩:∃b,decide (x.opt >= 0)=b:=⟨_,rfl⟩;cases bo;all_goals
   have cO:=hd;simp only[decide_eq_true_eq,decide_eq_false_iff_not]at cO;have alL:res=(decide (0<=x.opt)&&decide (x.opt<((D.getD c.toNat default).2:Int))):=by
    rw[<- au,Bool.eq_iff_iff,a7,decide_eq_true_eq,decide_eq_true_eq,jK];dsimp only at ln;omega
   refine q7 [1,5,11] (.take 0 (.take 1 (.take 2 (.take 3 (.take 6 (.take 10 (.take 11 (.three 4 (.take 5 (.both 7 (.both 8 (.both 9 (.take 12 (.take 13 (.take 14 (.take 15 (.take 16 (.take 17 (.take 18 .nil))))))) 12 (.take 9 (.take 13 (.take 14 (.take 15 (.take 16 (.take 17 (.take 18 .nil)))))))) 12 (.take 8 (.take 9 (.take 13 (.take 14 (.take 15 (.take 16 (.take 17 (.take 18 .nil))))))))) 12 (.take 7 (.take 8 (.take 9 (.take 13 (.take 14 (.take 15 (.take 16 (.take 17 (.take 18 .nil))))))))))) 7 (.three 4 (.take 5 (.both 8 (.both 9 (.take 12 (.take 13 (.take 14 (.take 15 (.take 16 (.take 17 (.take 18 .nil))))))) 12 (.take 9 (.take 13 (.take 14 (.take 15 (.take 16 (.take 17 (.take 18 .nil)))))))) 12 (.take 8 (.take 9 (.take 13 (.take 14 (.take 15 (.take 16 (.take 17 (.take 18 .nil)))))))))) 8 (.three 4 (.take 5 (.both 9 (.take 12 (.take 13 (.take 14 (.take 15 (.take 16 (.take 17 (.take 18 .nil))))))) 12 (.take 9 (.take 13 (.take 14 (.take 15 (.take 16 (.take 17 (.take 18 .nil))))))))) 9 (.both 4 (.take 5 (.take 12 (.take 13 (.take 14 (.take 15 (.take 16 (.take 17 (.take 18 .nil)))))))) 12 (.take 4 (.take 5 (.take 13 (.take 14 (.take 15 (.take 16 (.take 17 (.take 18 .nil))))))))) 12 (.take 4 (.take 5 (.take 9 (.take 13 (.take 14 (.take 15 (.take 16 (.take 17 (.take 18 .nil)))))))))) 12 (.take 4 (.take 5 (.take 8 (.take 9 (.take 13 (.take 14 (.take 15 (.take 16 (.take 17 (.take 18 .nil))))))))))) 12 (.take 4 (.take 5 (.take 7 (.take 8 (.take 9 (.take 13 (.take 14 (.take 15 (.take 16 (.take 17 (.take 18 .nil))))))))))))))))))) rfl Fs (by decide +kernel) ?_;simp(disch:=omega)only[Ac,↓Pc,simprocAttr,p8,p9,nU,nV,cp,↓Lq,fg,eg,fa,ea,gC,cu,bF,qd,lE,aP,hd];repeat'(first|with_reducible refine c6 ?_ ?_|omega|(refine gj bz Fl ?_;simp(disch:=omega)only[Ac,↓Pc,simprocAttr,p8,p9,nU,nV,cp,↓Lq,fg,eg,fa,ea,gC,cu,bF,qd,lE,aP,hd,bw]))
   all_goals
    repeat(refine Xu ?_)
    ((repeat'(first|refine Vb X0 ?_|fail)))
    unfold lQ;simp only[gG,gv];simp(disch:=omega)only[Ac,↓Pc,simprocAttr];refine⟨.lit (.bool res),_,⟨rfl,_,rfl⟩,dX rfl Fl ?_⟩;rw[alL];first|rfl|(rw[decide_eq_true cO,iI])|(rw[decide_eq_false cO,pV])
 ·rw[decide_eq_false hr,pV]at au;have eb:=aM fb;((repeat'(first|refine Vb (X5 @fg @eg @fb @eb (X3 @gC.eq_1 @bF @aP.eq_1)) ?_|(refine V2 (X5 @fg @eg @fb @eb (X3 @gC.eq_1 @bF @aP.eq_1)) ?_ ?_<;>try with_reducible intro hb)|(refine Xi ?_ ?_<;>try intro ht)|exact Xx|fail)))
  all_goals
   unfold lQ;simp only[gG,gv];simp(disch:=omega)only[Ac,↓Pc,simprocAttr];exact⟨.lit (.bool res),_,⟨rfl,_,rfl⟩,dX rfl Fl (by rw[<- au])⟩
def alq{m:aj}(hm:VM m){gi ai bi:Nat}{D E:List (Nat×Nat)}{S T:List (List Nm)}{os:List Ob}(h:LO aX (GB m gi ai bi D E) D E S T os){B:Int}(hB:0<=B/\B<=4611686018427387904)(hg:LG m B (S,T))(x:Mv)(hx:gK m x=true):
  dZ Tryz.prog 80 [.ptr gi 0 0,.agg (aP x)] os λr ob=>r=.bx []/\LO aX (GB m gi ai bi D E) D E (iY m x (S,T)).1 (iY m x (S,T)).2 ob/\os.length<=ob.length:=by
 obtain⟨fg,fa,fb⟩:=Ah h;have eg:=aM fg;have ea:=aM fa;have eb:=aM fb;have hE:=h.rE.len;have hD:=h.rD.len;have ka:S.length=m.cls.length:=hg.s;have ES:T.length=m.ae.length:=hg.t;have pD:=hm.ae;have qE:=hm.cls;have bZ:=hx;unfold gK at bZ;rw[a7,decide_eq_true_eq]at bZ;obtain⟨⟨x1,x2,x3,x4,x5,x6⟩,l8⟩:=bZ;obtain⟨o1,o2,o3,o4⟩:=jK.1 l8;have dj:=jV hm.pr _ (aF (l:=m.ae) (i:=x.pair.toNat) (d:=default) CZ);obtain⟨Ni,Nj,Nk,EL⟩:=EI dj;have hlF:=hm.opt _ (aF (l:=m.cls) (i:=(m.ae.getD x.pair.toNat default).fst.toNat) (d:=default) CZ);have hlS:=hm.opt _ (aF (l:=m.cls) (i:=(m.ae.getD x.pair.toNat default).snd.toNat) (d:=default) CZ);obtain⟨rJ,EM⟩:=h.rE.row x.pair.toNat CZ;obtain⟨lE,yS⟩:=h.rD.row (dL m x).toNat CZ;have qe:=aM rJ;have qd:=aM lE;have BC:(S.getD (dL m x).toNat default).length=(m.cls.getD (dL m x).toNat default).length:=hg.sl (dL m x).toNat CZ;have Cm:(T.getD x.pair.toNat default).length=(m.ae.getD x.pair.toNat default).aC.length:=hg.tl x.pair.toNat CZ;have sI:=(ta hg.sb (dL m x).toNat).get hB.1 x.opt.toNat;dsimp only at sI;obtain⟨Ir,NR⟩:=h.rD.row (m.ae.getD x.pair.toNat default).snd.toNat CZ;obtain⟨rF1,rF2⟩:=h.rD.row (m.ae.getD x.pair.toNat default).fst.toNat CZ;have Im:(S.getD (m.ae.getD x.pair.toNat default).snd.toNat default).length=(m.cls.getD (m.ae.getD x.pair.toNat default).snd.toNat default).length:=hg.sl _ CZ;have hFl:(S.getD (m.ae.getD x.pair.toNat default).fst.toNat default).length=(m.cls.getD (m.ae.getD x.pair.toNat default).fst.toNat default).length:=hg.sl _ CZ;generalize cg:m.ae.getD x.pair.toNat default=p at *;generalize EO:(m.cls.getD p.snd.toNat default).length=c5 at *;generalize Ns:(m.cls.getD p.fst.toNat default).length=rows at *;refine dZ.aQ 95 os.length [] Tryz.func80 ?_;refine Xk ?_;refine KZ ?_;intro K hK;simp(disch:=omega)only[Ac,↓Pc,simprocAttr,fg,eg,aP];refine hK _ ?_;clear hK K;refine hn _ ?_;(try clear hn;try clear he)
 refine df (aH.Bz 3 os.length (cells:=aP x) (by rw[jX];rfl) (by simp only[Kc,simprocAttr]) (by simp[aP])) ?_;refine df (σ':=⟨ar [(0,.ptr gi 0 0),(3,.cj (aP x))],os++[.gone]⟩) (by rw[D7];exact Xv @aP.eq_1) ?_;refine Xk ?_;refine vP ?_;intro Q hn he;refine tV ⟨ar [(0,.ptr gi 0 0),(3,.cj (aP x)),(4,.ptr (os.length+1) 0 0),(5,.ref (E.getD x.pair.toNat default).1 2 0 (E.getD x.pair.toNat default).2)],os++[.gone,.var (aL p)]⟩ hn ?_ (λkey=>?_);rotate_left
 ·refine q7 [6,8,14] (.take 0 (.take 1 (.take 2 (.take 3 (.take 4 (.take 5 (.take 6 (.take 7 (.take 8 (.take 9 (.take 10 (.take 11 (.take 13 (.take 14 (.both 12 (.take 15 (.both 16 (.take 17 (.take 18 (.take 19 .nil))) 17 (.both 16 (.take 18 (.take 19 .nil)) 18 (.take 16 (.take 19 .nil))))) 17 (.both 12 (.take 15 (.both 16 (.take 18 (.take 19 .nil)) 18 (.take 16 (.take 19 .nil)))) 18 (.take 12 (.take 15 (.take 16 (.take 19 .nil)))))))))))))))))))) rfl Fs (by decide +kernel) ?_;simp(disch:=omega)only[Ac,↓Pc,simprocAttr,p8,p9,nU,nV,cp,↓Lq,fg,eg,fb,eb,gC,cu,bF,qe,rJ,aP,aL,cg,bw,bI];repeat'(first|with_reducible refine c6 ?_ ?_|omega)
  all_goals
   refine key _ ?_;exact Xv (X2 @aP.eq_1 @aL.eq_1)
 (try clear hn;try clear he)
 try(try clear Q)
 have Cn:LO aX (GB m gi ai bi D E) D E S T (os++[.gone,.var (aL p)]):=h.app _;have fp:(os++[Ob.gone,.var (aL p)])[os.length+1]?=some (.var (aL p)):=by rw[kC];rfl
 have bz:=abY Cn x ⟨x1,x2⟩ pD;have fg1:=eg [.gone,.var (aL p)];have fa1:=ea [.gone,.var (aL p)];have qd1:=qd [.gone,.var (aL p)];have eg1:=aM fg1;have ea1:=aM fa1;have ed1:=aM qd1;have ep1:=aM fp;refine Xk ?_;have wq:=NQ (os:=os++[Ob.gone,.var (aL p),.var (aP x)]) (id:=(D.getD (dL m x).toNat default).1) (r:=x.opt.toNat) (row:=S.getD (dL m x).toNat default) (qd _) CZ x.amt (by unfold jv;omega);have sd:=gZ lE;generalize D5:dL m x=c at *;refine vP ?_;intro Q hn he;refine tV ⟨ar [(0,.ptr gi 0 0),(3,.cj (aP x)),(4,.ptr (os.length+1) 0 0),(5,.ref (E.getD x.pair.toNat default).1 2 0 (E.getD x.pair.toNat default).2)],os.set (D.getD c.toNat default).1 (.arr 2 (rowsOf aX (jz (S.getD c.toNat default) x.opt.toNat x.amt)))++[.gone,.var (aL p),.var (aP x)]⟩ hn ?_ (λkey=>?_);rotate_left
 ·refine afG [5,10,13] (.take 0 (.take 4 (.take 5 (.four 1 (.four 2 (.four 3 (.three 6 (.take 7 (.take 8 (.take 9 (.take 10 (.take 11 (.take 12 (.take 13 (.take 14 .nil)))))))) 9 (.take 10 (.both 6 (.take 7 (.take 8 (.take 11 (.take 12 (.take 13 (.take 14 .nil)))))) 12 (.take 6 (.take 7 (.take 8 (.take 11 (.take 13 (.take 14 .nil)))))))) 12 (.take 13 (.both 6 (.take 7 (.take 8 (.take 9 (.take 10 (.take 11 (.take 14 .nil)))))) 9 (.take 6 (.take 7 (.take 8 (.take 10 (.take 11 (.take 14 .nil))))))))) 6 (.take 3 (.take 7 (.take 8 (.take 9 (.take 10 (.take 11 (.take 12 (.take 13 (.take 14 .nil))))))))) 9 (.take 10 (.three 3 (.both 6 (.take 7 (.take 8 (.take 11 (.take 12 (.take 13 (.take 14 .nil)))))) 12 (.take 6 (.take 7 (.take 8 (.take 11 (.take 13 (.take 14 .nil))))))) 6 (.take 3 (.take 7 (.take 8 (.take 11 (.take 12 (.take 13 (.take 14 .nil))))))) 12 (.take 13 (.both 3 (.take 6 (.take 7 (.take 8 (.take 11 (.take 14 .nil))))) 6 (.take 3 (.take 7 (.take 8 (.take 11 (.take 14 .nil))))))))) 12 (.take 13 (.three 3 (.both 6 (.take 7 (.take 8 (.take 9 (.take 10 (.take 11 (.take 14 .nil)))))) 9 (.take 6 (.take 7 (.take 8 (.take 10 (.take 11 (.take 14 .nil))))))) 6 (.take 3 (.take 7 (.take 8 (.take 9 (.take 10 (.take 11 (.take 14 .nil))))))) 9 (.take 10 (.both 3 (.take 6 (.take 7 (.take 8 (.take 11 (.take 14 .nil))))) 6 (.take 3 (.take 7 (.take 8 (.take 11 (.take 14 .nil)))))))))) 6 (.take 2 (.take 3 (.take 7 (.take 8 (.take 9 (.take 10 (.take 11 (.take 12 (.take 13 (.take 14 .nil)))))))))) 9 (.take 10 (.three 2 (.three 3 (.both 6 (.take 7 (.take 8 (.take 11 (.take 12 (.take 13 (.take 14 .nil)))))) 12 (.take 6 (.take 7 (.take 8 (.take 11 (.take 13 (.take 14 .nil))))))) 6 (.take 3 (.take 7 (.take 8 (.take 11 (.take 12 (.take 13 (.take 14 .nil))))))) 12 (.take 13 (.both 3 (.take 6 (.take 7 (.take 8 (.take 11 (.take 14 .nil))))) 6 (.take 3 (.take 7 (.take 8 (.take 11 (.take 14 .nil)))))))) 6 (.take 2 (.take 3 (.take 7 (.take 8 (.take 11 (.take 12 (.take 13 (.take 14 .nil)))))))) 12 (.take 13 (.both 2 (.both 3 (.take 6 (.take 7 (.take 8 (.take 11 (.take 14 .nil))))) 6 (.take 3 (.take 7 (.take 8 (.take 11 (.take 14 .nil)))))) 6 (.take 2 (.take 3 (.take 7 (.take 8 (.take 11 (.take 14 .nil)))))))))) 12 (.take 13 (.three 2 (.three 3 (.both 6 (.take 7 (.take 8 (.take 9 (.take 10 (.take 11 (.take 14 .nil)))))) 9 (.take 6 (.take 7 (.take 8 (.take 10 (.take 11 (.take 14 .nil))))))) 6 (.take 3 (.take 7 (.take 8 (.take 9 (.take 10 (.take 11 (.take 14 .nil))))))) 9 (.take 10 (.both 3 (.take 6 (.take 7 (.take 8 (.take 11 (.take 14 .nil))))) 6 (.take 3 (.take 7 (.take 8 (.take 11 (.take 14 .nil)))))))) 6 (.take 2 (.take 3 (.take 7 (.take 8 (.take 9 (.take 10 (.take 11 (.take 14 .nil)))))))) 9 (.take 10 (.both 2 (.both 3 (.take 6 (.take 7 (.take 8 (.take 11 (.take 14 .nil))))) 6 (.take 3 (.take 7 (.take 8 (.take 11 (.take 14 .nil)))))) 6 (.take 2 (.take 3 (.take 7 (.take 8 (.take 11 (.take 14 .nil))))))))))) 6 (.take 1 (.take 2 (.take 3 (.take 7 (.take 8 (.take 9 (.take 10 (.take 11 (.take 12 (.take 13 (.take 14 .nil))))))))))) 9 (.take 10 (.three 1 (.three 2 (.three 3 (.both 6 (.take 7 (.take 8 (.take 11 (.take 12 (.take 13 (.take 14 .nil)))))) 12 (.take 6 (.take 7 (.take 8 (.take 11 (.take 13 (.take 14 .nil))))))) 6 (.take 3 (.take 7 (.take 8 (.take 11 (.take 12 (.take 13 (.take 14 .nil))))))) 12 (.take 13 (.both 3 (.take 6 (.take 7 (.take 8 (.take 11 (.take 14 .nil))))) 6 (.take 3 (.take 7 (.take 8 (.take 11 (.take 14 .nil)))))))) 6 (.take 2 (.take 3 (.take 7 (.take 8 (.take 11 (.take 12 (.take 13 (.take 14 .nil)))))))) 12 (.take 13 (.both 2 (.both 3 (.take 6 (.take 7 (.take 8 (.take 11 (.take 14 .nil))))) 6 (.take 3 (.take 7 (.take 8 (.take 11 (.take 14 .nil)))))) 6 (.take 2 (.take 3 (.take 7 (.take 8 (.take 11 (.take 14 .nil))))))))) 6 (.take 1 (.take 2 (.take 3 (.take 7 (.take 8 (.take 11 (.take 12 (.take 13 (.take 14 .nil))))))))) 12 (.take 13 (.both 1 (.both 2 (.both 3 (.take 6 (.take 7 (.take 8 (.take 11 (.take 14 .nil))))) 6 (.take 3 (.take 7 (.take 8 (.take 11 (.take 14 .nil)))))) 6 (.take 2 (.take 3 (.take 7 (.take 8 (.take 11 (.take 14 .nil))))))) 6 (.take 1 (.take 2 (.take 3 (.take 7 (.take 8 (.take 11 (.take 14 .nil))))))))))) 12 (.take 13 (.three 1 (.three 2 (.three 3 (.both 6 (.take 7 (.take 8 (.take 9 (.take 10 (.take 11 (.take 14 .nil)))))) 9 (.take 6 (.take 7 (.take 8 (.take 10 (.take 11 (.take 14 .nil))))))) 6 (.take 3 (.take 7 (.take 8 (.take 9 (.take 10 (.take 11 (.take 14 .nil))))))) 9 (.take 10 (.both 3 (.take 6 (.take 7 (.take 8 (.take 11 (.take 14 .nil))))) 6 (.take 3 (.take 7 (.take 8 (.take 11 (.take 14 .nil)))))))) 6 (.take 2 (.take 3 (.take 7 (.take 8 (.take 9 (.take 10 (.take 11 (.take 14 .nil)))))))) 9 (.take 10 (.both 2 (.both 3 (.take 6 (.take 7 (.take 8 (.take 11 (.take 14 .nil))))) 6 (.take 3 (.take 7 (.take 8 (.take 11 (.take 14 .nil)))))) 6 (.take 2 (.take 3 (.take 7 (.take 8 (.take 11 (.take 14 .nil))))))))) 6 (.take 1 (.take 2 (.take 3 (.take 7 (.take 8 (.take 9 (.take 10 (.take 11 (.take 14 .nil))))))))) 9 (.take 10 (.both 1 (.both 2 (.both 3 (.take 6 (.take 7 (.take 8 (.take 11 (.take 14 .nil))))) 6 (.take 3 (.take 7 (.take 8 (.take 11 (.take 14 .nil)))))) 6 (.take 2 (.take 3 (.take 7 (.take 8 (.take 11 (.take 14 .nil))))))) 6 (.take 1 (.take 2 (.take 3 (.take 7 (.take 8 (.take 11 (.take 14 .nil))))))))))))))) rfl Fs (by decide +kernel) ?_;simp(disch:=omega)only[Ac,↓Pc,simprocAttr,ux,uw,uv,uu,sQ,cp,↓Lq,eg,ea,gC,cu,bF,qd,aP];repeat'(first|with_reducible refine c6 ?_ ?_|omega|(refine gj bz Fl ?_;simp(disch:=omega)only[Ac,↓Pc,simprocAttr,ux,uw,uv,uu,sQ,cp,↓Lq,eg,ea,gC,cu,bF,qd,aP,bw])|(refine gj wq Fl ?_;simp(disch:=omega)only[Ac,↓Pc,simprocAttr,sQ,sd,bw]))
  all_goals
   refine key _ ?_;exact Xv @aP.eq_1
 (try clear hn;try clear he)
 try(try clear Q)
 have lV:=(h.Aa (j:=c.toNat) CZ (r:=jz (S.getD c.toNat default) x.opt.toNat x.amt) (xm _ _ _)).app [.gone,.var (aL p),.var (aP x)];have NS:os.length<=(os.set (D.getD c.toNat default).1 (.arr 2 (rowsOf aX (jz (S.getD c.toNat default) x.opt.toNat x.amt)))++[Ob.gone,Ob.var (aL p),Ob.var (aP x)]).length:=Fl;have Cr:(os.set (D.getD c.toNat default).1 (.arr 2 (rowsOf aX (jz (S.getD c.toNat default) x.opt.toNat x.amt)))++[Ob.gone,Ob.var (aL p),Ob.var (aP x)])[os.length+1]?=some (.var (aL p)):=oH _ _ _ _ _;have hmS:iY m x (S,T)=(S.set c.toNat (jz (S.getD c.toNat default) x.opt.toNat x.amt),T.set x.pair.toNat (gz (nK m x).1 x.amt (nK m x).2 (T.getD x.pair.toNat default))):=by unfold iY;rw[D5]
 rw[hmS];dsimp only;have wu:x.pair.toNat<T.length:=CZ;have Is:nK m x=if x.side=0 then(λk:Nat=>(x.opt*c5+k).toNat,c5) else(λk:Nat=>((k:Int)*c5+x.opt).toNat,rows):=by unfold nK;rw[cg,EO,Ns]
 have It:c=if x.side=0 then p.fst else p.snd:=by rw[<- D5];unfold dL;rw[cg]
 have NT:=ta hg.tb x.pair.toNat;dsimp only at NT;have kF:=Cl dj hm;generalize hS':S.set c.toNat (jz (S.getD c.toNat default) x.opt.toNat x.amt)=S' at *;generalize os.set (D.getD c.toNat default).1 (.arr 2 (rowsOf aX (jz (S.getD c.toNat default) x.opt.toNat x.amt)))++[Ob.gone,.var (aL p),.var (aP x)]=lR at *;obtain⟨gg,ga,gb⟩:=Ah lV;obtain⟨u1,u2⟩:=lV.rD.row p.snd.toNat CZ;obtain⟨v1,v2⟩:=lV.rD.row p.fst.toNat CZ;clear fg eg fa ea fb eb rJ lE qe qd Ir rF1 Cn fp bz fg1 fa1 qd1 eg1 ea1 ed1 ep1 wq sd h;have w8:(D.getD p.snd.toNat default).2=c5:=by rw[<- NR];exact Im
 have ab2:(D.getD p.fst.toNat default).2=rows:=by rw[<- rF2];exact hFl
 by_cases hs:x.side=0
 ·rw[if_pos hs]at It Is;rw[It]at o4;rw[Is];dsimp only;((repeat'(first|refine Vb (X5 @gg @ga @gC.eq_1 @cu.eq_1 (X5 @Cr @aL.eq_1 @u1 @v1 (X3 @w8 @ab2 @aP.eq_1))) ?_|(refine Xi ?_ ?_<;>try intro ht)|exact Xx|fail)))
  refine bd (λz:Nat×List Ob=>(⟨ar [(3,.cj (aP x)),(5,.ref (E.getD x.pair.toNat default).1 2 0 (E.getD x.pair.toNat default).2),(6,OJ c5),(53,OJ c5),(54,OJ z.1)],z.2⟩:St))
   (λz=>z.1<=c5/\LO aX (GB m gi ai bi D E) D E S' (T.set x.pair.toNat (gz (λk:Nat=>(x.opt*c5+k).toNat) x.amt z.1 (T.getD x.pair.toNat default))) z.2/\os.length<=z.2.length)
   (λz=>c5-z.1) (0,lR) ⟨aS _,by rw[gz,Ad];exact lV,NS⟩ (Xv @aP.eq_1) ?_
  rintro⟨k,ok⟩⟨hk,j8,jS⟩Ql ao ax;dsimp only at hk j8 jS ⊢;obtain⟨rK,Az⟩:=j8.rE.row x.pair.toNat CZ;rw[uE _ _ _ wu]at rK Az;have ln:=Ai (λk:Nat=>(x.opt*c5+k).toNat) x.amt k (T.getD x.pair.toNat default);have Nl:=(NT.sub CZ (λk:Nat=>(x.opt*c5+k).toNat) (a:=x.amt) CZ k).get CZ (x.opt*c5+k:Int).toNat;by_cases bc:k<c5
  ·have lW:=j8.yu (j:=x.pair.toNat) CZ (r:=jz (gz (λk:Nat=>(x.opt*c5+k).toNat) x.amt k (T.getD x.pair.toNat default)) (x.opt*c5+k:Int).toNat (-x.amt)) (by rw[uE _ _ _ wu];exact xm _ _ _);rw[xQ]at lW;obtain⟨Nn,Np,Nq,Nr⟩:=Ig (a:=x.opt) (k:=(k:Int)) (c:=(c5:Int)) (n:=(rows:Int)) ⟨o3,CZ⟩ CZ CZ CZ;generalize uN:(x.opt*c5+k:Int)=ix at *;generalize hZ:gz (λk:Nat=>(x.opt*c5+k).toNat) x.amt k (T.getD x.pair.toNat default)=tk at *;have wq:=NQ rK (r:=ix.toNat) CZ (-x.amt) (by unfold jv;omega);((repeat'(first|refine Va (X3 @rK @aP.eq_1 @uN) ?_|(refine Xi ?_ ?_<;>try intro ht)|exact Xx|fail))<;>try with_reducible intro K hK)
   refine gj wq Fl ?_;((try revert hK K);(refine Va X0 ?_))
   refine ao _ (k+1,_) ⟨Ji,by rw[gz,hZ,uN];exact lW,by dsimp only;rw[bH];exact jS⟩ Ji ?_;exact Xv @aP.eq_1
  ·have xk:k=c5:=CZ;rw[xk]at j8;((repeat'(first|refine Va X0 ?_|(refine Xi ?_ ?_<;>try intro ht)|exact Xx|fail)))
   refine ax _ _ rfl ?_;clear ao ax Ql;repeat(refine Xu ?_)
   refine Vb X0 ?_;unfold lQ;simp only[gG,gv];exact⟨.bx [],_,⟨rfl,j8,jS⟩,dX rfl jS rfl⟩
 ·rw[if_neg hs]at It Is;rw[It]at o4;rw[Is];dsimp only;((repeat'(first|refine Vb (X5 @gg @ga @gC.eq_1 @cu.eq_1 (X5 @Cr @aL.eq_1 @u1 @v1 (X3 @w8 @ab2 @aP.eq_1))) ?_|(refine Xi ?_ ?_<;>try intro ht)|exact Xx|fail)))
  refine bd (λz:Nat×List Ob=>(⟨ar [(3,.cj (aP x)),(5,.ref (E.getD x.pair.toNat default).1 2 0 (E.getD x.pair.toNat default).2),(6,OJ c5),(78,OJ rows),(79,OJ z.1)],z.2⟩:St))
   (λz=>z.1<=rows/\LO aX (GB m gi ai bi D E) D E S' (T.set x.pair.toNat (gz (λk:Nat=>((k:Int)*c5+x.opt).toNat) x.amt z.1 (T.getD x.pair.toNat default))) z.2/\os.length<=z.2.length)
   (λz=>rows-z.1) (0,lR) ⟨aS _,by rw[gz,Ad];exact lV,NS⟩ (Xv @aP.eq_1) ?_
  rintro⟨k,ok⟩⟨hk,j8,jS⟩Ql ao ax;dsimp only at hk j8 jS ⊢;obtain⟨rK,Az⟩:=j8.rE.row x.pair.toNat CZ;rw[uE _ _ _ wu]at rK Az;have ln:=Ai (λk:Nat=>((k:Int)*c5+x.opt).toNat) x.amt k (T.getD x.pair.toNat default);have Nl:=(NT.sub CZ (λk:Nat=>((k:Int)*c5+x.opt).toNat) (a:=x.amt) CZ k).get CZ ((k:Int)*c5+x.opt).toNat;by_cases bc:k<rows
  ·have lW:=j8.yu (j:=x.pair.toNat) CZ (r:=jz (gz (λk:Nat=>((k:Int)*c5+x.opt).toNat) x.amt k (T.getD x.pair.toNat default)) ((k:Int)*c5+x.opt).toNat (-x.amt)) (by rw[uE _ _ _ wu];exact xm _ _ _);rw[xQ]at lW;obtain⟨Nn,Np,Nq,Nr⟩:=Ig (a:=(k:Int)) (k:=x.opt) (c:=(c5:Int)) (n:=(rows:Int)) CZ ⟨o3,CZ⟩ CZ CZ;generalize uN:((k:Int)*c5+x.opt)=ix at *;generalize hZ:gz (λk:Nat=>((k:Int)*c5+x.opt).toNat) x.amt k (T.getD x.pair.toNat default)=tk at *;have wq:=NQ rK (r:=ix.toNat) CZ (-x.amt) (by unfold jv;omega);((repeat'(first|refine Va (X3 @rK @aP.eq_1 @uN) ?_|(refine Xi ?_ ?_<;>try intro ht)|exact Xx|fail))<;>try with_reducible intro K hK)
   refine gj wq Fl ?_;((try revert hK K);(refine Va X0 ?_))
   refine ao _ (k+1,_) ⟨Ji,by rw[gz,hZ,uN];exact lW,by dsimp only;rw[bH];exact jS⟩ Ji ?_;exact Xv @aP.eq_1
  ·have xk:k=rows:=CZ;rw[xk]at j8;((repeat'(first|refine Va X0 ?_|(refine Xi ?_ ?_<;>try intro ht)|exact Xx|fail)))
   refine ax _ _ rfl ?_;clear ao ax Ql;repeat(refine Xu ?_)
   ((skip))
   unfold lQ;simp only[gG,gv];exact⟨.bx [],_,⟨rfl,j8,jS⟩,dX rfl jS rfl⟩
def ali{m:aj}(hm:VM m){gi ai bi:Nat}{D E:List (Nat×Nat)}{S T:List (List Nm)}{os:List Ob}(h:LO aX (GB m gi ai bi D E) D E S T os){B:Int}(hg:LG m B (S,T)){left:List (List Bool)}(hf:cP m left)(c:Nat)(hc:c<m.cls.length):
  dZ Tryz.prog 115 [.ptr gi 0 0,OJ c,.tree 1 (rowsOf aE left)] os λr ob=>gM os ob/\∃ id,r=.ref id 2 0 (jJ (S.getD c default) (left.getD c default)).length/\ob[id]?=some (.arr 2 (rowsOf aX (jJ (S.getD c default) (left.getD c default)))):=by
 obtain⟨fg,fa,fb⟩:=Ah h;have hD:=h.rD.len;have ka:S.length=m.cls.length:=hg.s;have qE:=hm.cls;have iL:=hf.1;obtain⟨lE,yS⟩:=h.rD.row c CZ;have BC:(S.getD c default).length=(m.cls.getD c default).length:=hg.sl c hc;have ic:=hf.2 c CZ;have Ho:=hm.opt _ (aF (l:=m.cls) (i:=c) (d:=default) hc);generalize bR:S.getD c default=row at *;generalize jC:left.getD c default=lc at *;refine dZ.aQ 36 os.length [.tmp 6] Tryz.func115 ?_;refine Vb (X5 @fg @fa @gC.eq_1 @lE @cu.eq_1) ?_;have vF:(D.getD c default).2=row.length:=yS.symm;refine bd (λz:Nat×List Ob×Nat×List Nm=>(⟨ar [(1,OJ c),(2,.tree 1 (rowsOf aE left)),(7,.ref z.2.2.1 2 0 z.2.2.2.length),(16,.ref (D.getD c default).1 2 0 row.length),(17,OJ row.length),(18,OJ z.1)],z.2.1⟩:St))
  (λz=>z.1<=row.length/\gM os z.2.1/\z.2.1[z.2.2.1]?=some (.arr 2 (rowsOf aX z.2.2.2))/\os.length<=z.2.2.1/\z.2.2.2=jJ (row.take z.1) (lc.take z.1)/\z.2.2.2.length<=z.1)
  (λz=>row.length-z.1) (0,os++[.arr 2 []],os.length,[]) ⟨aS _,(gM.refl os).app _,jX _ _ _,aU _,rfl,aU _⟩ ?_ ?_
 ·refine aH.trans (aH.nil 7 2 (by simp only[Kc,simprocAttr]) Fs) ?_;exact Xv @vF
 rintro⟨i,ob,ti,xs⟩⟨hi,aZ,eL,kk,dN,sV⟩Ql ao ax;dsimp only at hi aZ eL kk dN sV ⊢;have r1:=aZ _ _ lE;have Iu:=aM r1;have rL:=aM eL;have ET:=gZ eL;have kF:=(aT.1 eL).1;by_cases aq:i<row.length
 ·have h1:=eQ aq;have h2:=eQ (l:=lc) (k:=i) CZ;have h3:=Mj (row.getD i default) (lc.getD i default) (row.take i) (lc.take i) (by rw[fZ,fZ];omega);rw[<- h1,<- h2,<- dN]at h3;have th:lc.getD i default=lc.getD i false:=rfl;rw[th]at h3;generalize cg:row.getD i default=p at *;generalize vQ:lc.getD i false=is at *;cases is
  ·simp only[jd,if_false,np]at h3;((repeat'(first|refine Va (X5 @r1 @Iu @aX.eq_1 @cg (X4 @jC @vQ @aE.eq_1 @bF)) ?_|(refine Xi ?_ ?_<;>try intro ht)|exact Xx|fail)))
   refine ao _ (i+1,ob++[.var (aX p)],ti,xs) ⟨Ji,aZ.app _,rL _,kk,h3.symm,Ji⟩ Ji ?_;exact Xv X0
  ·simp only[if_true]at h3;have NU:rowsOf aX xs++[[AV.lit (.int .i64 p.1),.lit (.bool p.2)]]=rowsOf aX (xs++[p]):=by simp[rowsOf,aX]
   ((repeat'(first|refine Va (X5 @r1 @Iu @eL @rL (X5 @ET @aX.eq_1 @cg @jC (X5 @vQ @aE.eq_1 @NU @bF (X3 @bw.{0} @bI.{0} @bH.{0})))) ?_|(refine Xi ?_ ?_<;>try intro ht)|exact Xx|fail)))
   refine ao _ (i+1,ob.set ti .gone++[.var (aX p),.arr 2 [aX p],.arr 2 (rowsOf aX (xs++[p]))],ob.length+2,xs++[p]) ⟨Ji,(aZ.set kk).app _,oH _ _ _ _ _,by dsimp only;have:=aZ.len;omega,h3.symm,Jo⟩ Ji ?_;exact Xv @aX.eq_1
 ·rw[c9 CZ,c9 CZ]at dN;((repeat'(first|refine Va X0 ?_|(refine Xi ?_ ?_<;>try intro ht)|exact Xx|fail)))
  refine ax _ _ rfl ?_;clear ao ax Ql;repeat(refine Xu ?_)
  refine Vb X0 ?_;unfold lQ;simp only[gG,gv];simp(disch:=omega)only[Ac,↓Pc,simprocAttr];rw[<- dN];exact⟨_,_,⟨aZ,ti,rfl,eL⟩,dX rfl aZ.len rfl⟩
def alk {m:aj} (hm:VM m) {gi ai bi:Nat} {D E:List (Nat×Nat)} {S T:List (List Nm)} {os:List Ob} (h:LO aX (GB m gi ai bi D E) D E S T os) {B:Int} (hg:LG m B (S,T)) {left:List (List Bool)} (hf:cP m left) (c:Nat) (hc:c<m.ae.length) :
    dZ Tryz.prog 116 [.ptr gi 0 0,OJ c,.tree 1 (rowsOf aE left)] os λr ob=>gM os ob/\∃ id,r=.ref id 2 0 (jJ (T.getD c default) (ig m left c)).length/\ob[id]?=some (.arr 2 (rowsOf aX (jJ (T.getD c default) (ig m left c)))):=by
  obtain ⟨fg,fa,fb⟩:=Ah h
  have eg:=aM fg
  have ea:=aM fa
  have eb:=aM fb
  have hD:=h.rD.len
  have hE:=h.rE.len
  have ka:S.length=m.cls.length:=hg.s
  have ES:T.length=m.ae.length:=hg.t
  have qE:=hm.cls
  have pD:=hm.ae
  have iL:=hf.1
  obtain ⟨rJ,EM⟩:=h.rE.row c CZ
  have Cm:(T.getD c default).length=(m.ae.getD c default).aC.length:=hg.tl c hc
  have dj:=jV hm.pr _ (aF (d:=default) hc)
  obtain ⟨Ni,Nj,Nk,EL⟩:=EI dj
  have kF:=Cl dj hm
  have Hd:=hf.2 (m.ae.getD c default).fst.toNat CZ
  have zW:=hf.2 (m.ae.getD c default).snd.toNat CZ
  have hoa:=hm.opt _ (aF (l:=m.cls) (i:=(m.ae.getD c default).fst.toNat) (d:=default) CZ)
  have bK:=hm.opt _ (aF (l:=m.cls) (i:=(m.ae.getD c default).snd.toNat) (d:=default) CZ)
  obtain ⟨Ir,NR⟩:=h.rD.row (m.ae.getD c default).snd.toNat CZ
  have Im:(S.getD (m.ae.getD c default).snd.toNat default).length=(m.cls.getD (m.ae.getD c default).snd.toNat default).length:=hg.sl _ CZ
  have Nt:ig m left c=qN (left.getD (m.ae.getD c default).fst.toNat default) (left.getD (m.ae.getD c default).snd.toNat default):=rfl
  have nJ:=Ek (left.getD (m.ae.getD c default).snd.toNat default) (left.getD (m.ae.getD c default).fst.toNat default)
  have hbg:=HM (left.getD (m.ae.getD c default).snd.toNat default) (left.getD (m.ae.getD c default).fst.toNat default)
  rw[<- Nt] at nJ hbg
  generalize bR:T.getD c default=row at *
  generalize cg:m.ae.getD c default=p at *
  generalize EP:left.getD p.fst.toNat default=la at *
  generalize vI:left.getD p.snd.toNat default=lb at *
  generalize ig m left c=pb at *
  have w8:(D.getD p.snd.toNat default).2=lb.length:=by rw[<- NR,Im,zW]
  have bG:row.length=pb.length:=by
    rw[nJ,Hd,zW,Cm]
    have:=EL
    rw[<- Int.natCast_mul] at this
    exact Int.ofNat_inj.1 this
  have vF:(E.getD c default).2=row.length:=EM.symm
  have qp:=aM Ir
  have qe:=aM rJ
  refine dZ.aQ 70 os.length [.tmp 6] Tryz.func116 ?_
  (((refine Vb (X5 @fg @fa @fb @eg (X5 @ea @eb @gC.eq_1 @Ir (X5 @qp @rJ @qe @cu.eq_1 (X5 @cg @aL.eq_1 @bF @w8 @vF)))) ?_)))
  refine bd (λz:Nat×List Ob×Nat×List Nm=>(⟨ar [(2,.tree 1 (rowsOf aE left)),(7,.ptr os.length 0 0),(8,OJ lb.length),(9,.ref z.2.2.1 2 0 z.2.2.2.length),(35,.ref (E.getD c default).1 2 0 row.length),(36,OJ row.length),(37,OJ z.1)],z.2.1⟩:St))
    (λz=>z.1<=row.length/\gM (os++[.var (aL p)]) z.2.1/\z.2.1[z.2.2.1]?=some (.arr 2 (rowsOf aX z.2.2.2))/\os.length<z.2.2.1/\z.2.2.2=jJ (row.take z.1) (pb.take z.1)/\z.2.2.2.length<=z.1)
    (λz=>row.length - z.1) (0,(os++[.var (aL p)])++[.arr 2 []],(os++[Ob.var (aL p)]).length,[]) ⟨aS _,(gM.refl _).app _,jX _ _ _,Fl,rfl,aU _⟩ ?_ ?_
  · refine aH.trans (aH.nil 9 2 (by simp only[Kc,simprocAttr]) Fs) ?_
    exact Xv (X2 @vF @w8)
  rintro ⟨i,ob,ti,xs⟩ ⟨hi,aZ,eL,kk,dN,sV⟩ Ql ao ax
  dsimp only at hi aZ eL kk dN sV ⊢
  have r1:=aZ _ _ (qe [.var (aL p)])
  have rv:ob[os.length]?=some (.var (aL p)):=aZ _ _ (jX _ _ _)
  have Iu:=aM r1
  have erv:=aM rv
  have rL:=aM eL
  have ET:=gZ eL
  have aoi:=(aT.1 eL).1
  have dY:=aZ.len
  rw[bI,CT] at dY
  by_cases aq:i<row.length
  · have h1:=eQ aq
    have h2:=eQ (l:=pb) (k:=i) CZ
    have h3:=Mj (row.getD i default) (pb.getD i default) (row.take i) (pb.take i) (by rw[fZ,fZ];omega)
    rw[<- h1,<- h2,<- dN] at h3
    have th:pb.getD i default=(la.getD (i / lb.length) false && lb.getD (i % lb.length) false):=hbg i CZ
    rw[th] at h3
    have ab4:0<lb.length:=by
      rcases Nat.eq_zero_or_pos lb.length with h0 | h0
      · rw[h0,Nat.mul_zero] at nJ;omega
      · exact h0
    have hdiv:i / lb.length<la.length:=by rw[Nat.div_lt_iff_lt_mul ab4];omega
    have Bv:=Nat.mod_lt i ab4
    have hq:((i:Int).tdiv lb.length)=((i / lb.length:Nat):Int):=by rw[Int.tdiv_eq_ediv_of_nonneg CZ];simp
    have hr:((i:Int).tmod lb.length)=((i % lb.length:Nat):Int):=by rw[Int.tmod_eq_emod_of_nonneg CZ];simp
    have Hx:((i:Int) / (lb.length:Int))=((i / lb.length:Nat):Int):=Fl
    have kv:((i:Int) % (lb.length:Int))=((i % lb.length:Nat):Int):=Fl
    generalize Cs:i / lb.length=dd at *
    generalize xr:i % lb.length=mm at *
    generalize xG:row.getD i default=q at *
    generalize Dk:la.getD dd false=ia at *
    generalize Ku:lb.getD mm false=ib at *
    have NU:rowsOf aX xs++[[AV.lit (.int .i64 q.1),.lit (.bool q.2)]]=rowsOf aX (xs++[q]):=by simp[rowsOf,aX]
    cases ia<;>cases ib
    all_goals
      simp only[pV,iI,jd,if_false,if_true,np] at h3
      ((repeat' (first|refine Va (X5 @r1 @Iu @rv @erv (X5 @eL @rL @ET @aX.eq_1 (X5 @aL.eq_1 @xG @EP @vI (X5 @hq @hr @Hx @kv (X5 @Dk @Ku @aE.eq_1 @NU (X5 @bF @Int.toNat_natCast @bw.{0} @bI.{0} @bH.{0})))))) ?_|(refine Xi ?_ ?_<;>try intro ht)|exact Xx|fail)))
    all_goals first
      | (refine ao _ (i+1,ob++[.var (aX q)],ti,xs) ⟨Ji,aZ.app _,rL _,kk,h3.symm,Ji⟩ Ji ?_
         exact Xv @aX.eq_1;done)
      | (refine ao _ (i+1,ob.set ti .gone++[.var (aX q),.arr 2 [aX q],.arr 2 (rowsOf aX (xs++[q]))],ob.length+2,xs++[q]) ⟨Ji,(aZ.set (by rw[bI,CT];omega)).app _,oH _ _ _ _ _,Ji,h3.symm,Jo⟩ Ji ?_
         exact Xv @aX.eq_1;done)
  · rw[c9 CZ,c9 CZ] at dN
    ((repeat' (first|refine Va X0 ?_|(refine Xi ?_ ?_<;>try intro ht)|exact Xx|fail)))
    refine ax _ _ rfl ?_;clear ao ax Ql
    repeat (refine Xu ?_)
    refine Vb X0 ?_
    unfold lQ
    simp only[gG,gv]
    simp (disch:=omega) only[Ac,↓Pc,simprocAttr]
    rw[<- dN]
    refine⟨_,ob,⟨λk o hk=>aZ k o (aM hk _),ti,rfl,eL⟩,dX rfl CZ rfl⟩
end T

