import Derived.Test.YtfoopmojjjpapaaGreatX19
set_option linter.all false
set_option maxHeartbeats 0
set_option maxRecDepth 20000
open Bool renaming true_and→iy,and_eq_true→bg,false_and→p8,false_eq_true→iZ
open And renaming intro→cQ
open List renaming append_assoc→bz,length_append→bL,set_set→rf,length_set→bw,getElem?_eq_some_iff→aR,length_take→fe,append_nil→q7,take_of_length_le→cZ,length_singleton→y7
open Nat renaming zero_le→aW,le_refl→aX
open Go Go.Am Go.Proofs
namespace T
def VH{m:ah}{gi ai bi:Nat}{D E:List (Nat×Nat)}{S T:List (List Nm)}{os:List Ob}(h:LO a6 (GB m gi ai bi D E) D E S T os)(x:Mv)(hx:0<=x.pair/\x.pair<m.ae.length)(oO:m.ae.length<=4000):
  Holds Tryz.prog 112 [.ptr gi 0 0,.agg (aP x)] os (Oi (eI m x)) (os++[.var (aP x)]):=by
 obtain⟨fg,fa,fb⟩:=z7 h;have eg:=aK fg;generalize an:eI m x=res;unfold eI at an;refine Holds.aN 28 os.length [.tmp 4] Tryz.func112 ?_;by_cases hs:x.side=0
 ·rw[if_pos hs]at an;generalize cB:m.ae.getD x.pair.toNat default=p at *;((repeat'(first|refine Vb (X5 @fg @eg @gC.eq_1 @bH (X3 @cB @aP.eq_1 @aG.eq_1)) ?_|(refine Xi ?_ ?_<;>try intro ht)|exact Xx|fail)))
  exact dX rfl IM (by rw[an])
 ·rw[if_neg hs]at an;generalize cB:m.ae.getD x.pair.toNat default=p at *;((repeat'(first|refine Vb (X5 @fg @eg @gC.eq_1 @bH (X3 @cB @aP.eq_1 @aG.eq_1)) ?_|(refine Xi ?_ ?_<;>try intro ht)|exact Xx|fail)))
  exact dX rfl IM (by rw[an])
def LX{os:List Ob}{id r:Nat}{row:List Nm}(h:os[id]?=some (.arr 2 (rowsOf a6 row)))(hr:r<row.length)(n:Int)(k9:fM ((row.getD r default).1+n)):
  Holds Tryz.prog 113 [.ptr id r 0,Oi n] os (.bu []) (os.set id (.arr 2 (rowsOf a6 (jn row r n)))):=by
 unfold fM at k9;refine Holds.aN 12 os.length [] Tryz.func113 ?_;refine Vb (X3 @h @a6.eq_1 @afB) ?_;exact dX rfl IM rfl
def aha{m:ah}(hm:VM m){x:Mv}(h1:0<=x.pair)(h2:x.pair<m.ae.length):0<=eI m x/\eI m x<m.cls.length:=by
 obtain⟨a,b,c,_⟩:=Eb (jG hm.pr _ (aE (l:=m.ae) (i:=x.pair.toNat) (d:=default) AT));unfold eI;split<;>omega
def agU{m:ah}(hm:VM m){gi ai bi:Nat}{D E:List (Nat×Nat)}{S T:List (List Nm)}{os:List Ob}(h:LO a6 (GB m gi ai bi D E) D E S T os){B:Int}(hg:LG m B (S,T))(x:Mv):
  dy Tryz.prog 79 [.ptr gi 0 0,.agg (aP x)] os λr ob=>r=.lit (.bool (il m x))/\∃ l,ob=os++l:=by
 obtain⟨fg,fa,fb⟩:=z7 h;have eg:=aK fg;have ea:=aK fa;have hE:=h.rE.len;have hD:=h.rD.len;have jx:S.length=m.cls.length:=hg.s;have D7:T.length=m.ae.length:=hg.t;have oO:=hm.ae;have qV:=hm.cls;generalize an:il m x=res;unfold il at an;refine dy.aN 56 os.length [.tmp 4] Tryz.func79 ?_;by_cases hr:0<=x.pair/\x.pair<m.ae.length/\0<=x.side/\x.side<=1/\-268435456<=x.amt/\x.amt<=268435456
 ·rw[decide_eq_true hr,iy]at an;have bn:=VH (h.app [.gone]) x ⟨hr.1,hr.2.1⟩ oO;have eb:=aK fb;((repeat'(first|refine Vb (X5 @fg @eg @fb @eb (X3 @gC.eq_1 @bH @aP.eq_1)) ?_|(refine V2 (X5 @fg @eg @fb @eb (X3 @gC.eq_1 @bH @aP.eq_1)) ?_ ?_<;>try with_reducible intro hb)|(refine Xi ?_ ?_<;>try intro ht)|exact Xx|fail)))
  refine cd (aF.vt 3 os.length (cells:=aP x) (by rw[ka];rfl) (by simp only[Kc,simprocAttr]) (by simp[aP])) ?_;refine cd (σ':=⟨ao [(0,.ptr gi 0 0),(3,.bY (aP x))],os++[.gone]⟩) (by rw[DU];exact Xv @aP.eq_1) ?_;obtain⟨c1,c2⟩:=aha hm hr.1 hr.2.1;obtain⟨ly,yG⟩:=h.rD.row (eI m x).toNat AT;have qd:=aK ly;have iU:=hg.sl (eI m x).toNat AT;have HA:=hm.opt _ (aE (l:=m.cls) (i:=(eI m x).toNat) (d:=default) AT);generalize Ec:eI m x=c at *;obtain⟨bo,hd⟩:∃b,decide (x.opt >= 0)=b:=⟨_,rfl⟩;cases bo;all_goals
   have dt:=hd;simp only[decide_eq_true_eq,decide_eq_false_iff_not]at dt;have ahb:res=(decide (0<=x.opt)&&decide (x.opt<((D.getD c.toNat default).2:Int))):=by
    rw[<- an,Bool.eq_iff_iff,bg,decide_eq_true_eq,decide_eq_true_eq,iN];dsimp only at iU;omega
   refine lI [1,5,11] (.take 0 (.take 1 (.take 2 (.take 3 (.take 6 (.take 10 (.take 11 (.three 4 (.take 5 (.both 7 (.both 8 (.both 9 (.take 12 (.take 13 (.take 14 (.take 15 (.take 16 (.take 17 (.take 18 .nil))))))) 12 (.take 9 (.take 13 (.take 14 (.take 15 (.take 16 (.take 17 (.take 18 .nil)))))))) 12 (.take 8 (.take 9 (.take 13 (.take 14 (.take 15 (.take 16 (.take 17 (.take 18 .nil))))))))) 12 (.take 7 (.take 8 (.take 9 (.take 13 (.take 14 (.take 15 (.take 16 (.take 17 (.take 18 .nil))))))))))) 7 (.three 4 (.take 5 (.both 8 (.both 9 (.take 12 (.take 13 (.take 14 (.take 15 (.take 16 (.take 17 (.take 18 .nil))))))) 12 (.take 9 (.take 13 (.take 14 (.take 15 (.take 16 (.take 17 (.take 18 .nil)))))))) 12 (.take 8 (.take 9 (.take 13 (.take 14 (.take 15 (.take 16 (.take 17 (.take 18 .nil)))))))))) 8 (.three 4 (.take 5 (.both 9 (.take 12 (.take 13 (.take 14 (.take 15 (.take 16 (.take 17 (.take 18 .nil))))))) 12 (.take 9 (.take 13 (.take 14 (.take 15 (.take 16 (.take 17 (.take 18 .nil))))))))) 9 (.both 4 (.take 5 (.take 12 (.take 13 (.take 14 (.take 15 (.take 16 (.take 17 (.take 18 .nil)))))))) 12 (.take 4 (.take 5 (.take 13 (.take 14 (.take 15 (.take 16 (.take 17 (.take 18 .nil))))))))) 12 (.take 4 (.take 5 (.take 9 (.take 13 (.take 14 (.take 15 (.take 16 (.take 17 (.take 18 .nil)))))))))) 12 (.take 4 (.take 5 (.take 8 (.take 9 (.take 13 (.take 14 (.take 15 (.take 16 (.take 17 (.take 18 .nil))))))))))) 12 (.take 4 (.take 5 (.take 7 (.take 8 (.take 9 (.take 13 (.take 14 (.take 15 (.take 16 (.take 17 (.take 18 .nil))))))))))))))))))) rfl IP (by decide +kernel) ?_;simp(disch:=omega)only[Ac,↓Pc,simprocAttr,ql,mM,lF,lG,cj,↓Lq,fg,eg,fa,ea,gC,cA,bH,qd,ly,aP,hd];repeat'(first|with_reducible refine cQ ?_ ?_|omega|(refine fi bn IM ?_;simp(disch:=omega)only[Ac,↓Pc,simprocAttr,ql,mM,lF,lG,cj,↓Lq,fg,eg,fa,ea,gC,cA,bH,qd,ly,aP,hd,bz]))
   all_goals
    repeat(refine Xu ?_)
    ((repeat'(first|refine Vb X0 ?_|fail)))
    unfold kJ;simp only[gm,fW];simp(disch:=omega)only[Ac,↓Pc,simprocAttr];refine⟨.lit (.bool res),_,⟨rfl,_,rfl⟩,dX rfl IM ?_⟩;rw[ahb];first|rfl|(rw[decide_eq_true dt,iy])|(rw[decide_eq_false dt,p8])
 ·rw[decide_eq_false hr,p8]at an;have eb:=aK fb;((repeat'(first|refine Vb (X5 @fg @eg @fb @eb (X3 @gC.eq_1 @bH @aP.eq_1)) ?_|(refine V2 (X5 @fg @eg @fb @eb (X3 @gC.eq_1 @bH @aP.eq_1)) ?_ ?_<;>try with_reducible intro hb)|(refine Xi ?_ ?_<;>try intro ht)|exact Xx|fail)))
  all_goals
   unfold kJ;simp only[gm,fW];simp(disch:=omega)only[Ac,↓Pc,simprocAttr];exact⟨.lit (.bool res),_,⟨rfl,_,rfl⟩,dX rfl IM (by rw[<- an])⟩
def agW{m:ah}(hm:VM m){gi ai bi:Nat}{D E:List (Nat×Nat)}{S T:List (List Nm)}{os:List Ob}(h:LO a6 (GB m gi ai bi D E) D E S T os){B:Int}(hB:0<=B/\B<=4611686018427387904)(hg:LG m B (S,T))(x:Mv)(hx:il m x=true):
  dy Tryz.prog 80 [.ptr gi 0 0,.agg (aP x)] os λr ob=>r=.bu []/\LO a6 (GB m gi ai bi D E) D E (jF m x (S,T)).1 (jF m x (S,T)).2 ob/\os.length<=ob.length:=by
 obtain⟨fg,fa,fb⟩:=z7 h;have eg:=aK fg;have ea:=aK fa;have eb:=aK fb;have hE:=h.rE.len;have hD:=h.rD.len;have jx:S.length=m.cls.length:=hg.s;have D7:T.length=m.ae.length:=hg.t;have oO:=hm.ae;have qV:=hm.cls;have bW:=hx;unfold il at bW;rw[bg,decide_eq_true_eq]at bW;obtain⟨⟨x1,x2,x3,x4,x5,x6⟩,lR⟩:=bW;obtain⟨o1,o2,o3,o4⟩:=iN.1 lR;have dp:=jG hm.pr _ (aE (l:=m.ae) (i:=x.pair.toNat) (d:=default) AT);obtain⟨LY,LZ,L0,Ed⟩:=Eb dp;have hlF:=hm.opt _ (aE (l:=m.cls) (i:=(m.ae.getD x.pair.toNat default).fst.toNat) (d:=default) AT);have hlS:=hm.opt _ (aE (l:=m.cls) (i:=(m.ae.getD x.pair.toNat default).snd.toNat) (d:=default) AT);obtain⟨rU,Ee⟩:=h.rE.row x.pair.toNat AT;obtain⟨ly,yG⟩:=h.rD.row (eI m x).toNat AT;have qe:=aK rU;have qd:=aK ly;have HB:(S.getD (eI m x).toNat default).length=(m.cls.getD (eI m x).toNat default).length:=hg.sl (eI m x).toNat AT;have Ca:(T.getD x.pair.toNat default).length=(m.ae.getD x.pair.toNat default).aB.length:=hg.tl x.pair.toNat AT;have oh:=(te hg.sb (eI m x).toNat).get hB.1 x.opt.toNat;dsimp only at oh;obtain⟨HC,L1⟩:=h.rD.row (m.ae.getD x.pair.toNat default).snd.toNat AT;obtain⟨rF1,rF2⟩:=h.rD.row (m.ae.getD x.pair.toNat default).fst.toNat AT;have Ht:(S.getD (m.ae.getD x.pair.toNat default).snd.toNat default).length=(m.cls.getD (m.ae.getD x.pair.toNat default).snd.toNat default).length:=hg.sl _ AT;have hFl:(S.getD (m.ae.getD x.pair.toNat default).fst.toNat default).length=(m.cls.getD (m.ae.getD x.pair.toNat default).fst.toNat default).length:=hg.sl _ AT;generalize cB:m.ae.getD x.pair.toNat default=p at *;generalize Ef:(m.cls.getD p.snd.toNat default).length=c7 at *;generalize L3:(m.cls.getD p.fst.toNat default).length=rows at *;refine dy.aN 95 os.length [] Tryz.func80 ?_;refine Xk ?_;refine Ku ?_;intro K hK;simp(disch:=omega)only[Ac,↓Pc,simprocAttr,fg,eg,aP];refine hK _ ?_;clear hK K;refine hn _ ?_;(try clear hn;try clear he)
 refine cd (aF.vt 3 os.length (cells:=aP x) (by rw[ka];rfl) (by simp only[Kc,simprocAttr]) (by simp[aP])) ?_;refine cd (σ':=⟨ao [(0,.ptr gi 0 0),(3,.bY (aP x))],os++[.gone]⟩) (by rw[DU];exact Xv @aP.eq_1) ?_;refine Xk ?_;refine uM ?_;intro Q hn he;refine sv ⟨ao [(0,.ptr gi 0 0),(3,.bY (aP x)),(4,.ptr (os.length+1) 0 0),(5,.ref (E.getD x.pair.toNat default).1 2 0 (E.getD x.pair.toNat default).2)],os++[.gone,.var (aG p)]⟩ hn ?_ (λkey=>?_);rotate_left
 ·refine lI [6,8,14] (.take 0 (.take 1 (.take 2 (.take 3 (.take 4 (.take 5 (.take 6 (.take 7 (.take 8 (.take 9 (.take 10 (.take 11 (.take 13 (.take 14 (.both 12 (.take 15 (.both 16 (.take 17 (.take 18 (.take 19 .nil))) 17 (.both 16 (.take 18 (.take 19 .nil)) 18 (.take 16 (.take 19 .nil))))) 17 (.both 12 (.take 15 (.both 16 (.take 18 (.take 19 .nil)) 18 (.take 16 (.take 19 .nil)))) 18 (.take 12 (.take 15 (.take 16 (.take 19 .nil)))))))))))))))))))) rfl IP (by decide +kernel) ?_;simp(disch:=omega)only[Ac,↓Pc,simprocAttr,ql,mM,lF,lG,cj,↓Lq,fg,eg,fb,eb,gC,cA,bH,qe,rU,aP,aG,cB,bz,bL];repeat'(first|with_reducible refine cQ ?_ ?_|omega)
  all_goals
   refine key _ ?_;exact Xv (X2 @aP.eq_1 @aG.eq_1)
 (try clear hn;try clear he)
 try(try clear Q)
 have Cg:LO a6 (GB m gi ai bi D E) D E S T (os++[.gone,.var (aG p)]):=h.app _;have fp:(os++[Ob.gone,.var (aG p)])[os.length+1]?=some (.var (aG p)):=by rw[kN];rfl
 have bn:=VH Cg x ⟨x1,x2⟩ oO;have VI:=eg [.gone,.var (aG p)];have VJ:=ea [.gone,.var (aG p)];have VK:=qd [.gone,.var (aG p)];have eg1:=aK VI;have ea1:=aK VJ;have ed1:=aK VK;have ep1:=aK fp;refine Xk ?_;have vL:=LX (os:=os++[Ob.gone,.var (aG p),.var (aP x)]) (id:=(D.getD (eI m x).toNat default).1) (r:=x.opt.toNat) (row:=S.getD (eI m x).toNat default) (qd _) AT x.amt (by unfold fM;omega);have sd:=iG ly;generalize Ec:eI m x=c at *;refine uM ?_;intro Q hn he;refine sv ⟨ao [(0,.ptr gi 0 0),(3,.bY (aP x)),(4,.ptr (os.length+1) 0 0),(5,.ref (E.getD x.pair.toNat default).1 2 0 (E.getD x.pair.toNat default).2)],os.set (D.getD c.toNat default).1 (.arr 2 (rowsOf a6 (jn (S.getD c.toNat default) x.opt.toNat x.amt)))++[.gone,.var (aG p),.var (aP x)]⟩ hn ?_ (λkey=>?_);rotate_left
 ·refine aeC [5,10,13] (.take 0 (.take 4 (.take 5 (.four 1 (.four 2 (.four 3 (.three 6 (.take 7 (.take 8 (.take 9 (.take 10 (.take 11 (.take 12 (.take 13 (.take 14 .nil)))))))) 9 (.take 10 (.both 6 (.take 7 (.take 8 (.take 11 (.take 12 (.take 13 (.take 14 .nil)))))) 12 (.take 6 (.take 7 (.take 8 (.take 11 (.take 13 (.take 14 .nil)))))))) 12 (.take 13 (.both 6 (.take 7 (.take 8 (.take 9 (.take 10 (.take 11 (.take 14 .nil)))))) 9 (.take 6 (.take 7 (.take 8 (.take 10 (.take 11 (.take 14 .nil))))))))) 6 (.take 3 (.take 7 (.take 8 (.take 9 (.take 10 (.take 11 (.take 12 (.take 13 (.take 14 .nil))))))))) 9 (.take 10 (.three 3 (.both 6 (.take 7 (.take 8 (.take 11 (.take 12 (.take 13 (.take 14 .nil)))))) 12 (.take 6 (.take 7 (.take 8 (.take 11 (.take 13 (.take 14 .nil))))))) 6 (.take 3 (.take 7 (.take 8 (.take 11 (.take 12 (.take 13 (.take 14 .nil))))))) 12 (.take 13 (.both 3 (.take 6 (.take 7 (.take 8 (.take 11 (.take 14 .nil))))) 6 (.take 3 (.take 7 (.take 8 (.take 11 (.take 14 .nil))))))))) 12 (.take 13 (.three 3 (.both 6 (.take 7 (.take 8 (.take 9 (.take 10 (.take 11 (.take 14 .nil)))))) 9 (.take 6 (.take 7 (.take 8 (.take 10 (.take 11 (.take 14 .nil))))))) 6 (.take 3 (.take 7 (.take 8 (.take 9 (.take 10 (.take 11 (.take 14 .nil))))))) 9 (.take 10 (.both 3 (.take 6 (.take 7 (.take 8 (.take 11 (.take 14 .nil))))) 6 (.take 3 (.take 7 (.take 8 (.take 11 (.take 14 .nil)))))))))) 6 (.take 2 (.take 3 (.take 7 (.take 8 (.take 9 (.take 10 (.take 11 (.take 12 (.take 13 (.take 14 .nil)))))))))) 9 (.take 10 (.three 2 (.three 3 (.both 6 (.take 7 (.take 8 (.take 11 (.take 12 (.take 13 (.take 14 .nil)))))) 12 (.take 6 (.take 7 (.take 8 (.take 11 (.take 13 (.take 14 .nil))))))) 6 (.take 3 (.take 7 (.take 8 (.take 11 (.take 12 (.take 13 (.take 14 .nil))))))) 12 (.take 13 (.both 3 (.take 6 (.take 7 (.take 8 (.take 11 (.take 14 .nil))))) 6 (.take 3 (.take 7 (.take 8 (.take 11 (.take 14 .nil)))))))) 6 (.take 2 (.take 3 (.take 7 (.take 8 (.take 11 (.take 12 (.take 13 (.take 14 .nil)))))))) 12 (.take 13 (.both 2 (.both 3 (.take 6 (.take 7 (.take 8 (.take 11 (.take 14 .nil))))) 6 (.take 3 (.take 7 (.take 8 (.take 11 (.take 14 .nil)))))) 6 (.take 2 (.take 3 (.take 7 (.take 8 (.take 11 (.take 14 .nil)))))))))) 12 (.take 13 (.three 2 (.three 3 (.both 6 (.take 7 (.take 8 (.take 9 (.take 10 (.take 11 (.take 14 .nil)))))) 9 (.take 6 (.take 7 (.take 8 (.take 10 (.take 11 (.take 14 .nil))))))) 6 (.take 3 (.take 7 (.take 8 (.take 9 (.take 10 (.take 11 (.take 14 .nil))))))) 9 (.take 10 (.both 3 (.take 6 (.take 7 (.take 8 (.take 11 (.take 14 .nil))))) 6 (.take 3 (.take 7 (.take 8 (.take 11 (.take 14 .nil)))))))) 6 (.take 2 (.take 3 (.take 7 (.take 8 (.take 9 (.take 10 (.take 11 (.take 14 .nil)))))))) 9 (.take 10 (.both 2 (.both 3 (.take 6 (.take 7 (.take 8 (.take 11 (.take 14 .nil))))) 6 (.take 3 (.take 7 (.take 8 (.take 11 (.take 14 .nil)))))) 6 (.take 2 (.take 3 (.take 7 (.take 8 (.take 11 (.take 14 .nil))))))))))) 6 (.take 1 (.take 2 (.take 3 (.take 7 (.take 8 (.take 9 (.take 10 (.take 11 (.take 12 (.take 13 (.take 14 .nil))))))))))) 9 (.take 10 (.three 1 (.three 2 (.three 3 (.both 6 (.take 7 (.take 8 (.take 11 (.take 12 (.take 13 (.take 14 .nil)))))) 12 (.take 6 (.take 7 (.take 8 (.take 11 (.take 13 (.take 14 .nil))))))) 6 (.take 3 (.take 7 (.take 8 (.take 11 (.take 12 (.take 13 (.take 14 .nil))))))) 12 (.take 13 (.both 3 (.take 6 (.take 7 (.take 8 (.take 11 (.take 14 .nil))))) 6 (.take 3 (.take 7 (.take 8 (.take 11 (.take 14 .nil)))))))) 6 (.take 2 (.take 3 (.take 7 (.take 8 (.take 11 (.take 12 (.take 13 (.take 14 .nil)))))))) 12 (.take 13 (.both 2 (.both 3 (.take 6 (.take 7 (.take 8 (.take 11 (.take 14 .nil))))) 6 (.take 3 (.take 7 (.take 8 (.take 11 (.take 14 .nil)))))) 6 (.take 2 (.take 3 (.take 7 (.take 8 (.take 11 (.take 14 .nil))))))))) 6 (.take 1 (.take 2 (.take 3 (.take 7 (.take 8 (.take 11 (.take 12 (.take 13 (.take 14 .nil))))))))) 12 (.take 13 (.both 1 (.both 2 (.both 3 (.take 6 (.take 7 (.take 8 (.take 11 (.take 14 .nil))))) 6 (.take 3 (.take 7 (.take 8 (.take 11 (.take 14 .nil)))))) 6 (.take 2 (.take 3 (.take 7 (.take 8 (.take 11 (.take 14 .nil))))))) 6 (.take 1 (.take 2 (.take 3 (.take 7 (.take 8 (.take 11 (.take 14 .nil))))))))))) 12 (.take 13 (.three 1 (.three 2 (.three 3 (.both 6 (.take 7 (.take 8 (.take 9 (.take 10 (.take 11 (.take 14 .nil)))))) 9 (.take 6 (.take 7 (.take 8 (.take 10 (.take 11 (.take 14 .nil))))))) 6 (.take 3 (.take 7 (.take 8 (.take 9 (.take 10 (.take 11 (.take 14 .nil))))))) 9 (.take 10 (.both 3 (.take 6 (.take 7 (.take 8 (.take 11 (.take 14 .nil))))) 6 (.take 3 (.take 7 (.take 8 (.take 11 (.take 14 .nil)))))))) 6 (.take 2 (.take 3 (.take 7 (.take 8 (.take 9 (.take 10 (.take 11 (.take 14 .nil)))))))) 9 (.take 10 (.both 2 (.both 3 (.take 6 (.take 7 (.take 8 (.take 11 (.take 14 .nil))))) 6 (.take 3 (.take 7 (.take 8 (.take 11 (.take 14 .nil)))))) 6 (.take 2 (.take 3 (.take 7 (.take 8 (.take 11 (.take 14 .nil))))))))) 6 (.take 1 (.take 2 (.take 3 (.take 7 (.take 8 (.take 9 (.take 10 (.take 11 (.take 14 .nil))))))))) 9 (.take 10 (.both 1 (.both 2 (.both 3 (.take 6 (.take 7 (.take 8 (.take 11 (.take 14 .nil))))) 6 (.take 3 (.take 7 (.take 8 (.take 11 (.take 14 .nil)))))) 6 (.take 2 (.take 3 (.take 7 (.take 8 (.take 11 (.take 14 .nil))))))) 6 (.take 1 (.take 2 (.take 3 (.take 7 (.take 8 (.take 11 (.take 14 .nil))))))))))))))) rfl IP (by decide +kernel) ?_;simp(disch:=omega)only[Ac,↓Pc,simprocAttr,ux,uw,uv,uu,s9,cj,↓Lq,eg,ea,gC,cA,bH,qd,aP];repeat'(first|with_reducible refine cQ ?_ ?_|omega|(refine fi bn IM ?_;simp(disch:=omega)only[Ac,↓Pc,simprocAttr,ux,uw,uv,uu,s9,cj,↓Lq,eg,ea,gC,cA,bH,qd,aP,bz])|(refine fi vL IM ?_;simp(disch:=omega)only[Ac,↓Pc,simprocAttr,s9,sd,bz]))
  all_goals
   refine key _ ?_;exact Xv @aP.eq_1
 (try clear hn;try clear he)
 try(try clear Q)
 have lW:=(h.z6 (j:=c.toNat) AT (r:=jn (S.getD c.toNat default) x.opt.toNat x.amt) (w6 _ _ _)).app [.gone,.var (aG p),.var (aP x)];have LB:os.length<=(os.set (D.getD c.toNat default).1 (.arr 2 (rowsOf a6 (jn (S.getD c.toNat default) x.opt.toNat x.amt)))++[Ob.gone,Ob.var (aG p),Ob.var (aP x)]).length:=IM;have VL:(os.set (D.getD c.toNat default).1 (.arr 2 (rowsOf a6 (jn (S.getD c.toNat default) x.opt.toNat x.amt)))++[Ob.gone,Ob.var (aG p),Ob.var (aP x)])[os.length+1]?=some (.var (aG p)):=oI _ _ _ _ _;have hmS:jF m x (S,T)=(S.set c.toNat (jn (S.getD c.toNat default) x.opt.toNat x.amt),T.set x.pair.toNat (gq (nN m x).1 x.amt (nN m x).2 (T.getD x.pair.toNat default))):=by unfold jF;rw[Ec]
 rw[hmS];dsimp only;have vN:x.pair.toNat<T.length:=AT;have HD:nN m x=if x.side=0 then(λk:Nat=>(x.opt*c7+k).toNat,c7) else(λk:Nat=>((k:Int)*c7+x.opt).toNat,rows):=by unfold nN;rw[cB,Ef,L3]
 have HE:c=if x.side=0 then p.fst else p.snd:=by rw[<- Ec];unfold eI;rw[cB]
 have L4:=te hg.tb x.pair.toNat;dsimp only at L4;have nk:=Ce dp hm;generalize hS':S.set c.toNat (jn (S.getD c.toNat default) x.opt.toNat x.amt)=S' at *;generalize os.set (D.getD c.toNat default).1 (.arr 2 (rowsOf a6 (jn (S.getD c.toNat default) x.opt.toNat x.amt)))++[Ob.gone,.var (aG p),.var (aP x)]=tA at *;obtain⟨gg,ga,gb⟩:=z7 lW;obtain⟨u1,u2⟩:=lW.rD.row p.snd.toNat AT;obtain⟨v1,v2⟩:=lW.rD.row p.fst.toNat AT;clear fg eg fa ea fb eb rU ly qe qd HC rF1 Cg fp bn VI VJ VK eg1 ea1 ed1 ep1 vL sd h;have xk:(D.getD p.snd.toNat default).2=c7:=by rw[<- L1];exact Ht
 have VN:(D.getD p.fst.toNat default).2=rows:=by rw[<- rF2];exact hFl
 by_cases hs:x.side=0
 ·rw[if_pos hs]at HE HD;rw[HE]at o4;rw[HD];dsimp only;((repeat'(first|refine Vb (X5 @gg @ga @gC.eq_1 @cA.eq_1 (X5 @VL @aG.eq_1 @u1 @v1 (X3 @xk @VN @aP.eq_1))) ?_|(refine Xi ?_ ?_<;>try intro ht)|exact Xx|fail)))
  refine bb (λz:Nat×List Ob=>(⟨ao [(3,.bY (aP x)),(5,.ref (E.getD x.pair.toNat default).1 2 0 (E.getD x.pair.toNat default).2),(6,Oi c7),(53,Oi c7),(54,Oi z.1)],z.2⟩:St))
   (λz=>z.1<=c7/\LO a6 (GB m gi ai bi D E) D E S' (T.set x.pair.toNat (gq (λk:Nat=>(x.opt*c7+k).toNat) x.amt z.1 (T.getD x.pair.toNat default))) z.2/\os.length<=z.2.length)
   (λz=>c7-z.1) (0,tA) ⟨aW _,by rw[gq,yi];exact lW,LB⟩ (Xv @aP.eq_1) ?_
  rintro⟨k,ok⟩⟨hk,jW,jP⟩Ql ak au;dsimp only at hk jW jP ⊢;obtain⟨rV,Ag⟩:=jW.rE.row x.pair.toNat AT;rw[rJ _ _ _ vN]at rV Ag;have iU:=zU (λk:Nat=>(x.opt*c7+k).toNat) x.amt k (T.getD x.pair.toNat default);have L5:=(L4.sub AT (λk:Nat=>(x.opt*c7+k).toNat) (a:=x.amt) AT k).get AT (x.opt*c7+k:Int).toNat;by_cases bf:k<c7
  ·have lX:=jW.yA (j:=x.pair.toNat) AT (r:=jn (gq (λk:Nat=>(x.opt*c7+k).toNat) x.amt k (T.getD x.pair.toNat default)) (x.opt*c7+k:Int).toNat (-x.amt)) (by rw[rJ _ _ _ vN];exact w6 _ _ _);rw[rf]at lX;obtain⟨L6,L7,L8,L9⟩:=HF (a:=x.opt) (k:=(k:Int)) (c:=(c7:Int)) (n:=(rows:Int)) ⟨o3,AT⟩ AT AT AT;generalize uN:(x.opt*c7+k:Int)=ix at *;generalize gV:gq (λk:Nat=>(x.opt*c7+k).toNat) x.amt k (T.getD x.pair.toNat default)=tk at *;have vL:=LX rV (r:=ix.toNat) AT (-x.amt) (by unfold fM;omega);((repeat'(first|refine Va (X3 @rV @aP.eq_1 @uN) ?_|(refine Xi ?_ ?_<;>try intro ht)|exact Xx|fail))<;>try with_reducible intro K hK)
   refine fi vL IM ?_;((try revert hK K);(refine Va X0 ?_))
   refine ak _ (k+1,_) ⟨NZ,by rw[gq,gV,uN];exact lX,by dsimp only;rw[bw];exact jP⟩ NZ ?_;exact Xv @aP.eq_1
  ·have xl:k=c7:=AT;rw[xl]at jW;((repeat'(first|refine Va X0 ?_|(refine Xi ?_ ?_<;>try intro ht)|exact Xx|fail)))
   refine au _ _ rfl ?_;clear ak au Ql;repeat(refine Xu ?_)
   refine Vb X0 ?_;unfold kJ;simp only[gm,fW];exact⟨.bu [],_,⟨rfl,jW,jP⟩,dX rfl jP rfl⟩
 ·rw[if_neg hs]at HE HD;rw[HE]at o4;rw[HD];dsimp only;((repeat'(first|refine Vb (X5 @gg @ga @gC.eq_1 @cA.eq_1 (X5 @VL @aG.eq_1 @u1 @v1 (X3 @xk @VN @aP.eq_1))) ?_|(refine Xi ?_ ?_<;>try intro ht)|exact Xx|fail)))
  refine bb (λz:Nat×List Ob=>(⟨ao [(3,.bY (aP x)),(5,.ref (E.getD x.pair.toNat default).1 2 0 (E.getD x.pair.toNat default).2),(6,Oi c7),(78,Oi rows),(79,Oi z.1)],z.2⟩:St))
   (λz=>z.1<=rows/\LO a6 (GB m gi ai bi D E) D E S' (T.set x.pair.toNat (gq (λk:Nat=>((k:Int)*c7+x.opt).toNat) x.amt z.1 (T.getD x.pair.toNat default))) z.2/\os.length<=z.2.length)
   (λz=>rows-z.1) (0,tA) ⟨aW _,by rw[gq,yi];exact lW,LB⟩ (Xv @aP.eq_1) ?_
  rintro⟨k,ok⟩⟨hk,jW,jP⟩Ql ak au;dsimp only at hk jW jP ⊢;obtain⟨rV,Ag⟩:=jW.rE.row x.pair.toNat AT;rw[rJ _ _ _ vN]at rV Ag;have iU:=zU (λk:Nat=>((k:Int)*c7+x.opt).toNat) x.amt k (T.getD x.pair.toNat default);have L5:=(L4.sub AT (λk:Nat=>((k:Int)*c7+x.opt).toNat) (a:=x.amt) AT k).get AT ((k:Int)*c7+x.opt).toNat;by_cases bf:k<rows
  ·have lX:=jW.yA (j:=x.pair.toNat) AT (r:=jn (gq (λk:Nat=>((k:Int)*c7+x.opt).toNat) x.amt k (T.getD x.pair.toNat default)) ((k:Int)*c7+x.opt).toNat (-x.amt)) (by rw[rJ _ _ _ vN];exact w6 _ _ _);rw[rf]at lX;obtain⟨L6,L7,L8,L9⟩:=HF (a:=(k:Int)) (k:=x.opt) (c:=(c7:Int)) (n:=(rows:Int)) AT ⟨o3,AT⟩ AT AT;generalize uN:((k:Int)*c7+x.opt)=ix at *;generalize gV:gq (λk:Nat=>((k:Int)*c7+x.opt).toNat) x.amt k (T.getD x.pair.toNat default)=tk at *;have vL:=LX rV (r:=ix.toNat) AT (-x.amt) (by unfold fM;omega);((repeat'(first|refine Va (X3 @rV @aP.eq_1 @uN) ?_|(refine Xi ?_ ?_<;>try intro ht)|exact Xx|fail))<;>try with_reducible intro K hK)
   refine fi vL IM ?_;((try revert hK K);(refine Va X0 ?_))
   refine ak _ (k+1,_) ⟨NZ,by rw[gq,gV,uN];exact lX,by dsimp only;rw[bw];exact jP⟩ NZ ?_;exact Xv @aP.eq_1
  ·have xl:k=rows:=AT;rw[xl]at jW;((repeat'(first|refine Va X0 ?_|(refine Xi ?_ ?_<;>try intro ht)|exact Xx|fail)))
   refine au _ _ rfl ?_;clear ak au Ql;repeat(refine Xu ?_)
   ((skip))
   unfold kJ;simp only[gm,fW];exact⟨.bu [],_,⟨rfl,jW,jP⟩,dX rfl jP rfl⟩
def agO{m:ah}(hm:VM m){gi ai bi:Nat}{D E:List (Nat×Nat)}{S T:List (List Nm)}{os:List Ob}(h:LO a6 (GB m gi ai bi D E) D E S T os){B:Int}(hg:LG m B (S,T)){left:List (List Bool)}(hf:cp m left)(c:Nat)(hc:c<m.cls.length):
  dy Tryz.prog 115 [.ptr gi 0 0,Oi c,.tree 1 (rowsOf ay left)] os λr ob=>gB os ob/\∃ id,r=.ref id 2 0 (jI (S.getD c default) (left.getD c default)).length/\ob[id]?=some (.arr 2 (rowsOf a6 (jI (S.getD c default) (left.getD c default)))):=by
 obtain⟨fg,fa,fb⟩:=z7 h;have hD:=h.rD.len;have jx:S.length=m.cls.length:=hg.s;have qV:=hm.cls;have gK:=hf.1;obtain⟨ly,yG⟩:=h.rD.row c AT;have HB:(S.getD c default).length=(m.cls.getD c default).length:=hg.sl c hc;have fY:=hf.2 c AT;have HA:=hm.opt _ (aE (l:=m.cls) (i:=c) (d:=default) hc);generalize bE:S.getD c default=row at *;generalize jy:left.getD c default=lc at *;refine dy.aN 36 os.length [.tmp 6] Tryz.func115 ?_;refine Vb (X5 @fg @fa @gC.eq_1 @ly @cA.eq_1) ?_;have vK:(D.getD c default).2=row.length:=yG.symm;refine bb (λz:Nat×List Ob×Nat×List Nm=>(⟨ao [(1,Oi c),(2,.tree 1 (rowsOf ay left)),(7,.ref z.2.2.1 2 0 z.2.2.2.length),(16,.ref (D.getD c default).1 2 0 row.length),(17,Oi row.length),(18,Oi z.1)],z.2.1⟩:St))
  (λz=>z.1<=row.length/\gB os z.2.1/\z.2.1[z.2.2.1]?=some (.arr 2 (rowsOf a6 z.2.2.2))/\os.length<=z.2.2.1/\z.2.2.2=jI (row.take z.1) (lc.take z.1)/\z.2.2.2.length<=z.1)
  (λz=>row.length-z.1) (0,os++[.arr 2 []],os.length,[]) ⟨aW _,(gB.refl os).app _,ka _ _ _,aX _,rfl,aX _⟩ ?_ ?_
 ·refine aF.trans (aF.nil 7 2 (by simp only[Kc,simprocAttr]) IP) ?_;exact Xv @vK
 rintro⟨i,ob,ti,xs⟩⟨hi,a7,eJ,ke,cO,uJ⟩Ql ak au;dsimp only at hi a7 eJ ke cO uJ ⊢;have r1:=a7 _ _ ly;have HG:=aK r1;have rS:=aK eJ;have D9:=iG eJ;have nk:=(aR.1 eJ).1;by_cases ar:i<row.length
 ·have h1:=ei ar;have h2:=ei (l:=lc) (k:=i) AT;have h3:=K5 (row.getD i default) (lc.getD i default) (row.take i) (lc.take i) (by rw[fe,fe];omega);rw[<- h1,<- h2,<- cO]at h3;have tq:lc.getD i default=lc.getD i false:=rfl;rw[tq]at h3;generalize cB:row.getD i default=p at *;generalize nS:lc.getD i false=is at *;cases is
  ·simp only[iZ,if_false,q7]at h3;((repeat'(first|refine Va (X5 @r1 @HG @a6.eq_1 @cB (X4 @jy @nS @ay.eq_1 @bH)) ?_|(refine Xi ?_ ?_<;>try intro ht)|exact Xx|fail)))
   refine ak _ (i+1,ob++[.var (a6 p)],ti,xs) ⟨NZ,a7.app _,rS _,ke,h3.symm,NZ⟩ NZ ?_;exact Xv X0
  ·simp only[if_true]at h3;have Ma:rowsOf a6 xs++[[AV.lit (.int .i64 p.1),.lit (.bool p.2)]]=rowsOf a6 (xs++[p]):=by simp[rowsOf,a6]
   ((repeat'(first|refine Va (X5 @r1 @HG @eJ @rS (X5 @D9 @a6.eq_1 @cB @jy (X5 @nS @ay.eq_1 @Ma @bH (X3 @bz.{0} @bL.{0} @bw.{0})))) ?_|(refine Xi ?_ ?_<;>try intro ht)|exact Xx|fail)))
   refine ak _ (i+1,ob.set ti .gone++[.var (a6 p),.arr 2 [a6 p],.arr 2 (rowsOf a6 (xs++[p]))],ob.length+2,xs++[p]) ⟨NZ,(a7.set ke).app _,oI _ _ _ _ _,by dsimp only;have:=a7.len;omega,h3.symm,N0⟩ NZ ?_;exact Xv @a6.eq_1
 ·rw[cZ AT,cZ AT]at cO;((repeat'(first|refine Va X0 ?_|(refine Xi ?_ ?_<;>try intro ht)|exact Xx|fail)))
  refine au _ _ rfl ?_;clear ak au Ql;repeat(refine Xu ?_)
  refine Vb X0 ?_;unfold kJ;simp only[gm,fW];simp(disch:=omega)only[Ac,↓Pc,simprocAttr];rw[<- cO];exact⟨_,_,⟨a7,ti,rfl,eJ⟩,dX rfl a7.len rfl⟩
def agQ {m:ah} (hm:VM m) {gi ai bi:Nat} {D E:List (Nat×Nat)} {S T:List (List Nm)} {os:List Ob} (h:LO a6 (GB m gi ai bi D E) D E S T os) {B:Int} (hg:LG m B (S,T)) {left:List (List Bool)} (hf:cp m left) (c:Nat) (hc:c<m.ae.length) :
    dy Tryz.prog 116 [.ptr gi 0 0,Oi c,.tree 1 (rowsOf ay left)] os λr ob=>gB os ob/\∃ id,r=.ref id 2 0 (jI (T.getD c default) (gr m left c)).length/\ob[id]?=some (.arr 2 (rowsOf a6 (jI (T.getD c default) (gr m left c)))):=by
  obtain ⟨fg,fa,fb⟩:=z7 h
  have eg:=aK fg
  have ea:=aK fa
  have eb:=aK fb
  have hD:=h.rD.len
  have hE:=h.rE.len
  have jx:S.length=m.cls.length:=hg.s
  have D7:T.length=m.ae.length:=hg.t
  have qV:=hm.cls
  have oO:=hm.ae
  have gK:=hf.1
  obtain ⟨rU,Ee⟩:=h.rE.row c AT
  have Ca:(T.getD c default).length=(m.ae.getD c default).aB.length:=hg.tl c hc
  have dp:=jG hm.pr _ (aE (d:=default) hc)
  obtain ⟨LY,LZ,L0,Ed⟩:=Eb dp
  have nk:=Ce dp hm
  have HH:=hf.2 (m.ae.getD c default).fst.toNat AT
  have Ah:=hf.2 (m.ae.getD c default).snd.toNat AT
  have hoa:=hm.opt _ (aE (l:=m.cls) (i:=(m.ae.getD c default).fst.toNat) (d:=default) AT)
  have bI:=hm.opt _ (aE (l:=m.cls) (i:=(m.ae.getD c default).snd.toNat) (d:=default) AT)
  obtain ⟨HC,L1⟩:=h.rD.row (m.ae.getD c default).snd.toNat AT
  have Ht:(S.getD (m.ae.getD c default).snd.toNat default).length=(m.cls.getD (m.ae.getD c default).snd.toNat default).length:=hg.sl _ AT
  have Mb:gr m left c=qM (left.getD (m.ae.getD c default).fst.toNat default) (left.getD (m.ae.getD c default).snd.toNat default):=rfl
  have xm:=BM (left.getD (m.ae.getD c default).snd.toNat default) (left.getD (m.ae.getD c default).fst.toNat default)
  have xn:=BL (left.getD (m.ae.getD c default).snd.toNat default) (left.getD (m.ae.getD c default).fst.toNat default)
  rw[<- Mb] at xm xn
  generalize bE:T.getD c default=row at *
  generalize cB:m.ae.getD c default=p at *
  generalize Eg:left.getD p.fst.toNat default=la at *
  generalize vO:left.getD p.snd.toNat default=lb at *
  generalize gr m left c=pb at *
  have xk:(D.getD p.snd.toNat default).2=lb.length:=by rw[<- L1,Ht,Ah]
  have bQ:row.length=pb.length:=by
    rw[xm,HH,Ah,Ca]
    have:=Ed
    rw[<- Int.natCast_mul] at this
    exact Int.ofNat_inj.1 this
  have vK:(E.getD c default).2=row.length:=Ee.symm
  have qp:=aK HC
  have qe:=aK rU
  refine dy.aN 70 os.length [.tmp 6] Tryz.func116 ?_
  (((refine Vb (X5 @fg @fa @fb @eg (X5 @ea @eb @gC.eq_1 @HC (X5 @qp @rU @qe @cA.eq_1 (X5 @cB @aG.eq_1 @bH @xk @vK)))) ?_)))
  refine bb (λz:Nat×List Ob×Nat×List Nm=>(⟨ao [(2,.tree 1 (rowsOf ay left)),(7,.ptr os.length 0 0),(8,Oi lb.length),(9,.ref z.2.2.1 2 0 z.2.2.2.length),(35,.ref (E.getD c default).1 2 0 row.length),(36,Oi row.length),(37,Oi z.1)],z.2.1⟩:St))
    (λz=>z.1<=row.length/\gB (os++[.var (aG p)]) z.2.1/\z.2.1[z.2.2.1]?=some (.arr 2 (rowsOf a6 z.2.2.2))/\os.length<z.2.2.1/\z.2.2.2=jI (row.take z.1) (pb.take z.1)/\z.2.2.2.length<=z.1)
    (λz=>row.length - z.1) (0,(os++[.var (aG p)])++[.arr 2 []],(os++[Ob.var (aG p)]).length,[]) ⟨aW _,(gB.refl _).app _,ka _ _ _,IM,rfl,aX _⟩ ?_ ?_
  · refine aF.trans (aF.nil 9 2 (by simp only[Kc,simprocAttr]) IP) ?_
    exact Xv (X2 @vK @xk)
  rintro ⟨i,ob,ti,xs⟩ ⟨hi,a7,eJ,ke,cO,uJ⟩ Ql ak au
  dsimp only at hi a7 eJ ke cO uJ ⊢
  have r1:=a7 _ _ (qe [.var (aG p)])
  have rv:ob[os.length]?=some (.var (aG p)):=a7 _ _ (ka _ _ _)
  have HG:=aK r1
  have erv:=aK rv
  have rS:=aK eJ
  have D9:=iG eJ
  have amO:=(aR.1 eJ).1
  have ed:=a7.len
  rw[bL,y7] at ed
  by_cases ar:i<row.length
  · have h1:=ei ar
    have h2:=ei (l:=pb) (k:=i) AT
    have h3:=K5 (row.getD i default) (pb.getD i default) (row.take i) (pb.take i) (by rw[fe,fe];omega)
    rw[<- h1,<- h2,<- cO] at h3
    have tq:pb.getD i default=(la.getD (i / lb.length) false && lb.getD (i % lb.length) false):=xn i AT
    rw[tq] at h3
    have VO:0<lb.length:=by
      rcases Nat.eq_zero_or_pos lb.length with h0 | h0
      · rw[h0,Nat.mul_zero] at xm;omega
      · exact h0
    have hdiv:i / lb.length<la.length:=by rw[Nat.div_lt_iff_lt_mul VO];omega
    have Di:=Nat.mod_lt i VO
    have hq:((i:Int).tdiv lb.length)=((i / lb.length:Nat):Int):=by rw[Int.tdiv_eq_ediv_of_nonneg AT];simp
    have hr:((i:Int).tmod lb.length)=((i % lb.length:Nat):Int):=by rw[Int.tmod_eq_emod_of_nonneg AT];simp
    have VP:((i:Int) / (lb.length:Int))=((i / lb.length:Nat):Int):=IM
    have gz:((i:Int) % (lb.length:Int))=((i % lb.length:Nat):Int):=IM
    generalize hdd:i / lb.length=dd at *
    generalize xf:i % lb.length=mm at *
    generalize Md:row.getD i default=q at *
    generalize C6:la.getD dd false=ia at *
    generalize JU:lb.getD mm false=ib at *
    have Ma:rowsOf a6 xs++[[AV.lit (.int .i64 q.1),.lit (.bool q.2)]]=rowsOf a6 (xs++[q]):=by simp[rowsOf,a6]
    cases ia<;>cases ib
    all_goals
      simp only[p8,iy,iZ,if_false,if_true,q7] at h3
      ((repeat' (first|refine Va (X5 @r1 @HG @rv @erv (X5 @eJ @rS @D9 @a6.eq_1 (X5 @aG.eq_1 @Md @Eg @vO (X5 @hq @hr @VP @gz (X5 @C6 @JU @ay.eq_1 @Ma (X5 @bH @Int.toNat_natCast @bz.{0} @bL.{0} @bw.{0})))))) ?_|(refine Xi ?_ ?_<;>try intro ht)|exact Xx|fail)))
    all_goals first
      | (refine ak _ (i+1,ob++[.var (a6 q)],ti,xs) ⟨NZ,a7.app _,rS _,ke,h3.symm,NZ⟩ NZ ?_
         exact Xv @a6.eq_1;done)
      | (refine ak _ (i+1,ob.set ti .gone++[.var (a6 q),.arr 2 [a6 q],.arr 2 (rowsOf a6 (xs++[q]))],ob.length+2,xs++[q]) ⟨NZ,(a7.set (by rw[bL,y7];omega)).app _,oI _ _ _ _ _,NZ,h3.symm,N0⟩ NZ ?_
         exact Xv @a6.eq_1;done)
  · rw[cZ AT,cZ AT] at cO
    ((repeat' (first|refine Va X0 ?_|(refine Xi ?_ ?_<;>try intro ht)|exact Xx|fail)))
    refine au _ _ rfl ?_;clear ak au Ql
    repeat (refine Xu ?_)
    refine Vb X0 ?_
    unfold kJ
    simp only[gm,fW]
    simp (disch:=omega) only[Ac,↓Pc,simprocAttr]
    rw[<- cO]
    refine⟨_,ob,⟨λk o hk=>a7 k o (aK hk _),ti,rfl,eJ⟩,dX rfl AT rfl⟩
end T

