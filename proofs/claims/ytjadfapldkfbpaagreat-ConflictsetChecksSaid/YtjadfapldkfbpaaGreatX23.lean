import Derived.Test.YtjadfapldkfbpaaGreatX22
set_option linter.all false
set_option maxHeartbeats 0
set_option maxRecDepth 20000
open Bool renaming true_and→eX,and_eq_true→bk,false_and→jE,false_eq_true→ju
open And renaming intro→cI
open List renaming append_assoc→cY,length_append→bQ,set_set→vY,length_set→bw,cons_append→dP,nil_append→dZ,set_cons_succ→n6,set_cons_zero→mh,length_cons→eu,length_nil→k8,take_zero→ky,mem_cons→cu,not_mem_nil→jQ,length_map→eO,length_take→fy,take_of_length_le→ej,getElem?_eq_some_iff→aY,getElem?_set_ne→bM,append_nil→ic,length_singleton→rj
open Nat renaming zero_le→aF,zero_add→gf,le_refl→aR
open Go Go.Am Go.Proofs
namespace T
def aaj{m:ah}{gi ai bi:Nat}{D E:List (Nat×Nat)}{S T:List (List Nm)}{os:List Ob}(h:LO bq (GB m gi ai bi D E) D E S T os)(x:Mv)(hx:0<=x.pair/\x.pair<m.ae.length)(s7:m.ae.length<=4000):
  an Tryz.prog 145 [.ptr gi 0 0,.agg (bN x)] os (aaa (fR m x)) (os++[.var (bN x)]):=by
 obtain⟨fg,fa,fb⟩:=A6 h;have eg:=bf fg;generalize aj:fR m x=res;unfold fR at aj;refine an.aC 28 os.length [.tmp 4] Tryz.func145 ?_;by_cases hs:x.side=0
 ·rw[if_pos hs]at aj;generalize bL:m.ae.getD x.pair.toNat default=p at *;((repeat'(first|refine Vb (X5 @fg @eg @gC.eq_1 @cD (X3 @bL @bN.eq_1 @aQ.eq_1)) ?_|(refine Xi ?_ ?_<;>try intro ht)|exact Xx|fail)))
  exact ey rfl G9 (by rw[aj])
 ·rw[if_neg hs]at aj;generalize bL:m.ae.getD x.pair.toNat default=p at *;((repeat'(first|refine Vb (X5 @fg @eg @gC.eq_1 @cD (X3 @bL @bN.eq_1 @aQ.eq_1)) ?_|(refine Xi ?_ ?_<;>try intro ht)|exact Xx|fail)))
  exact ey rfl G9 (by rw[aj])
def NP{os:List Ob}{id r:Nat}{row:List Nm}(h:os[id]?=some (.arr 2 (rowsOf bq row)))(hr:r<row.length)(n:Int)(eF:dS ((row.getD r default).1+n)):
  an Tryz.prog 146 [.ptr id r 0,aaa n] os (.bH []) (os.set id (.arr 2 (rowsOf bq (j6 row r n)))):=by
 unfold dS at eF;refine an.aC 12 os.length [] Tryz.func146 ?_;refine Vb (X3 @h @bq.eq_1 @ahc) ?_;exact ey rfl G9 rfl
def ai6{m:ah}(hm:VM m){x:Mv}(h1:0<=x.pair)(h2:x.pair<m.ae.length):0<=fR m x/\fR m x<m.cls.length:=by
 obtain⟨a,b,c,_⟩:=F4 (jy hm.pr _ (aB (l:=m.ae) (i:=x.pair.toNat) (d:=default) G3));unfold fR;split<;>omega
def aiP{m:ah}(hm:VM m){gi ai bi:Nat}{D E:List (Nat×Nat)}{S T:List (List Nm)}{os:List Ob}(h:LO bq (GB m gi ai bi D E) D E S T os){B:Int}(hg:LG m B (S,T))(x:Mv):
  fG Tryz.prog 110 [.ptr gi 0 0,.agg (bN x)] os λr ob=>r=.lit (.bool (j5 m x))/\∃ l,ob=os++l:=by
 obtain⟨fg,fa,fb⟩:=A6 h;have eg:=bf fg;have ea:=bf fa;have hE:=h.rE.len;have hD:=h.rD.len;have jk:S.length=m.cls.length:=hg.s;have ht1:T.length=m.ae.length:=hg.t;have s7:=hm.ae;have yp:=hm.cls;generalize aj:j5 m x=res;unfold j5 at aj;refine fG.aC 56 os.length [.tmp 4] Tryz.func110 ?_;by_cases hr:0<=x.pair/\x.pair<m.ae.length/\0<=x.side/\x.side<=1/\-268435456<=x.dO/\x.dO<=268435456
 ·rw[decide_eq_true hr,eX]at aj;have bY:=aaj (h.app [.gone]) x ⟨hr.1,hr.2.1⟩ s7;have eb:=bf fb;((repeat'(first|refine Vb (X5 @fg @eg @fb @eb (X3 @gC.eq_1 @cD @bN.eq_1)) ?_|(refine V2 (X5 @fg @eg @fb @eb (X3 @gC.eq_1 @cD @bN.eq_1)) ?_ ?_<;>try with_reducible intro hb)|(refine Xi ?_ ?_<;>try intro ht)|exact Xx|fail)))
  refine bD (ay.jf 3 os.length (cells:=bN x) (by rw[kj];rfl) (by simp only[Kc,simprocAttr]) (by simp[bN])) ?_;refine bD (σ':=⟨au [(0,.ptr gi 0 0),(3,.bm (bN x))],os++[.gone]⟩) (by rw[zx];exact Xv @bN.eq_1) ?_;obtain⟨c1,c2⟩:=ai6 hm hr.1 hr.2.1;obtain⟨mN,zF⟩:=h.rD.row (fR m x).toNat G3;have qd:=bf mN;have fA:=hg.sl (fR m x).toNat G3;have aak:=hm.opt _ (aB (l:=m.cls) (i:=(fR m x).toNat) (d:=default) G3);generalize NQ:fR m x=c at *;obtain⟨bo,hd⟩:∃b,decide (x.opt >= 0)=b:=⟨_,rfl⟩;cases bo;all_goals
   have cU:=hd;simp only[decide_eq_true_eq,decide_eq_false_iff_not]at cU;have ai7:res=(decide (0<=x.opt)&&decide (x.opt<((D.getD c.toNat default).2:Int))):=by
    rw[<- aj,Bool.eq_iff_iff,bk,decide_eq_true_eq,decide_eq_true_eq,iv];dsimp only at fA;omega
   refine jb [1,5,11] (.take 0 (.take 1 (.take 2 (.take 3 (.take 6 (.take 10 (.take 11 (.three 4 (.take 5 (.both 7 (.both 8 (.both 9 (.take 12 (.take 13 (.take 14 (.take 15 (.take 16 (.take 17 (.take 18 .nil))))))) 12 (.take 9 (.take 13 (.take 14 (.take 15 (.take 16 (.take 17 (.take 18 .nil)))))))) 12 (.take 8 (.take 9 (.take 13 (.take 14 (.take 15 (.take 16 (.take 17 (.take 18 .nil))))))))) 12 (.take 7 (.take 8 (.take 9 (.take 13 (.take 14 (.take 15 (.take 16 (.take 17 (.take 18 .nil))))))))))) 7 (.three 4 (.take 5 (.both 8 (.both 9 (.take 12 (.take 13 (.take 14 (.take 15 (.take 16 (.take 17 (.take 18 .nil))))))) 12 (.take 9 (.take 13 (.take 14 (.take 15 (.take 16 (.take 17 (.take 18 .nil)))))))) 12 (.take 8 (.take 9 (.take 13 (.take 14 (.take 15 (.take 16 (.take 17 (.take 18 .nil)))))))))) 8 (.three 4 (.take 5 (.both 9 (.take 12 (.take 13 (.take 14 (.take 15 (.take 16 (.take 17 (.take 18 .nil))))))) 12 (.take 9 (.take 13 (.take 14 (.take 15 (.take 16 (.take 17 (.take 18 .nil))))))))) 9 (.both 4 (.take 5 (.take 12 (.take 13 (.take 14 (.take 15 (.take 16 (.take 17 (.take 18 .nil)))))))) 12 (.take 4 (.take 5 (.take 13 (.take 14 (.take 15 (.take 16 (.take 17 (.take 18 .nil))))))))) 12 (.take 4 (.take 5 (.take 9 (.take 13 (.take 14 (.take 15 (.take 16 (.take 17 (.take 18 .nil)))))))))) 12 (.take 4 (.take 5 (.take 8 (.take 9 (.take 13 (.take 14 (.take 15 (.take 16 (.take 17 (.take 18 .nil))))))))))) 12 (.take 4 (.take 5 (.take 7 (.take 8 (.take 9 (.take 13 (.take 14 (.take 15 (.take 16 (.take 17 (.take 18 .nil))))))))))))))))))) rfl Kq (by decide +kernel) ?_;simp(disch:=omega)only[Ac,↓Pc,simprocAttr,D7,xG,uP,uQ,du,↓Lq,fg,eg,fa,ea,gC,cS,cD,qd,mN,bN,hd];repeat'(first|with_reducible refine cI ?_ ?_|omega|(refine il bY G9 ?_;simp(disch:=omega)only[Ac,↓Pc,simprocAttr,D7,xG,uP,uQ,du,↓Lq,fg,eg,fa,ea,gC,cS,cD,qd,mN,bN,hd,cY]))
   all_goals
    repeat(refine Xu ?_)
    ((repeat'(first|refine Vb X0 ?_|fail)))
    unfold gR;simp only[eQ,eG];simp(disch:=omega)only[Ac,↓Pc,simprocAttr];refine⟨.lit (.bool res),_,⟨rfl,_,rfl⟩,ey rfl G9 ?_⟩;rw[ai7];first|rfl|(rw[decide_eq_true cU,eX])|(rw[decide_eq_false cU,jE])
 ·rw[decide_eq_false hr,jE]at aj;have eb:=bf fb;((repeat'(first|refine Vb (X5 @fg @eg @fb @eb (X3 @gC.eq_1 @cD @bN.eq_1)) ?_|(refine V2 (X5 @fg @eg @fb @eb (X3 @gC.eq_1 @cD @bN.eq_1)) ?_ ?_<;>try with_reducible intro hb)|(refine Xi ?_ ?_<;>try intro ht)|exact Xx|fail)))
  all_goals
   unfold gR;simp only[eQ,eG];simp(disch:=omega)only[Ac,↓Pc,simprocAttr];exact⟨.lit (.bool res),_,⟨rfl,_,rfl⟩,ey rfl G9 (by rw[<- aj])⟩
def aiR{m:ah}(hm:VM m){gi ai bi:Nat}{D E:List (Nat×Nat)}{S T:List (List Nm)}{os:List Ob}(h:LO bq (GB m gi ai bi D E) D E S T os){B:Int}(hB:0<=B/\B<=4611686018427387904)(hg:LG m B (S,T))(x:Mv)(hx:j5 m x=true):
  fG Tryz.prog 111 [.ptr gi 0 0,.agg (bN x)] os λr ob=>r=.bH []/\LO bq (GB m gi ai bi D E) D E (kl m x (S,T)).1 (kl m x (S,T)).2 ob/\os.length<=ob.length:=by
 obtain⟨fg,fa,fb⟩:=A6 h;have eg:=bf fg;have ea:=bf fa;have eb:=bf fb;have hE:=h.rE.len;have hD:=h.rD.len;have jk:S.length=m.cls.length:=hg.s;have ht1:T.length=m.ae.length:=hg.t;have s7:=hm.ae;have yp:=hm.cls;have cV:=hx;unfold j5 at cV;rw[bk,decide_eq_true_eq]at cV;obtain⟨⟨x1,x2,x3,x4,x5,x6⟩,l5⟩:=cV;obtain⟨o1,o2,o3,o4⟩:=iv.1 l5;have dJ:=jy hm.pr _ (aB (l:=m.ae) (i:=x.pair.toNat) (d:=default) G3);obtain⟨NR,NS,NT,F5⟩:=F4 dJ;have hlF:=hm.opt _ (aB (l:=m.cls) (i:=(m.ae.getD x.pair.toNat default).fst.toNat) (d:=default) G3);have hlS:=hm.opt _ (aB (l:=m.cls) (i:=(m.ae.getD x.pair.toNat default).snd.toNat) (d:=default) G3);obtain⟨td,F6⟩:=h.rE.row x.pair.toNat G3;obtain⟨mN,zF⟩:=h.rD.row (fR m x).toNat G3;have qe:=bf td;have qd:=bf mN;have w5:(S.getD (fR m x).toNat default).length=(m.cls.getD (fR m x).toNat default).length:=hg.sl (fR m x).toNat G3;have s8:(T.getD x.pair.toNat default).length=(m.ae.getD x.pair.toNat default).aD.length:=hg.tl x.pair.toNat G3;have oW:=(ug hg.sb (fR m x).toNat).get hB.1 x.opt.toNat;dsimp only at oW;obtain⟨Js,NU⟩:=h.rD.row (m.ae.getD x.pair.toNat default).snd.toNat G3;obtain⟨rF1,rF2⟩:=h.rD.row (m.ae.getD x.pair.toNat default).fst.toNat G3;have Jn:(S.getD (m.ae.getD x.pair.toNat default).snd.toNat default).length=(m.cls.getD (m.ae.getD x.pair.toNat default).snd.toNat default).length:=hg.sl _ G3;have hFl:(S.getD (m.ae.getD x.pair.toNat default).fst.toNat default).length=(m.cls.getD (m.ae.getD x.pair.toNat default).fst.toNat default).length:=hg.sl _ G3;generalize bL:m.ae.getD x.pair.toNat default=p at *;generalize F7:(m.cls.getD p.snd.toNat default).length=dT at *;generalize NV:(m.cls.getD p.fst.toNat default).length=rows at *;refine fG.aC 95 os.length [] Tryz.func111 ?_;refine Xk ?_;refine TN ?_;intro K hK;simp(disch:=omega)only[Ac,↓Pc,simprocAttr,fg,eg,bN];refine hK _ ?_;clear hK K;refine hn _ ?_;(try clear hn;try clear he)
 refine bD (ay.jf 3 os.length (cells:=bN x) (by rw[kj];rfl) (by simp only[Kc,simprocAttr]) (by simp[bN])) ?_;refine bD (σ':=⟨au [(0,.ptr gi 0 0),(3,.bm (bN x))],os++[.gone]⟩) (by rw[zx];exact Xv @bN.eq_1) ?_;refine Xk ?_;refine E1 ?_;intro Q hn he;refine wa ⟨au [(0,.ptr gi 0 0),(3,.bm (bN x)),(4,.ptr (os.length+1) 0 0),(5,.ref (E.getD x.pair.toNat default).1 2 0 (E.getD x.pair.toNat default).2)],os++[.gone,.var (aQ p)]⟩ hn ?_ (λkey=>?_);rotate_left
 ·refine jb [6,8,14] (.take 0 (.take 1 (.take 2 (.take 3 (.take 4 (.take 5 (.take 6 (.take 7 (.take 8 (.take 9 (.take 10 (.take 11 (.take 13 (.take 14 (.both 12 (.take 15 (.both 16 (.take 17 (.take 18 (.take 19 .nil))) 17 (.both 16 (.take 18 (.take 19 .nil)) 18 (.take 16 (.take 19 .nil))))) 17 (.both 12 (.take 15 (.both 16 (.take 18 (.take 19 .nil)) 18 (.take 16 (.take 19 .nil)))) 18 (.take 12 (.take 15 (.take 16 (.take 19 .nil)))))))))))))))))))) rfl Kq (by decide +kernel) ?_;simp(disch:=omega)only[Ac,↓Pc,simprocAttr,D7,xG,uP,uQ,du,↓Lq,fg,eg,fb,eb,gC,cS,cD,qe,td,bN,aQ,bL,cY,bQ];repeat'(first|with_reducible refine cI ?_ ?_|omega)
  all_goals
   refine key _ ?_;exact Xv (X2 @bN.eq_1 @aQ.eq_1)
 (try clear hn;try clear he)
 try(try clear Q)
 have Dd:LO bq (GB m gi ai bi D E) D E S T (os++[.gone,.var (aQ p)]):=h.app _;have fp:(os++[Ob.gone,.var (aQ p)])[os.length+1]?=some (.var (aQ p)):=by rw[nN];rfl
 have bY:=aaj Dd x ⟨x1,x2⟩ s7;have fg1:=eg [.gone,.var (aQ p)];have fa1:=ea [.gone,.var (aQ p)];have qd1:=qd [.gone,.var (aQ p)];have eg1:=bf fg1;have ea1:=bf fa1;have ed1:=bf qd1;have ep1:=bf fp;refine Xk ?_;have nU:=NP (os:=os++[Ob.gone,.var (aQ p),.var (bN x)]) (id:=(D.getD (fR m x).toNat default).1) (r:=x.opt.toNat) (row:=S.getD (fR m x).toNat default) (qd _) G3 x.dO (by unfold dS;omega);have sd:=gz mN;generalize NQ:fR m x=c at *;refine E1 ?_;intro Q hn he;refine wa ⟨au [(0,.ptr gi 0 0),(3,.bm (bN x)),(4,.ptr (os.length+1) 0 0),(5,.ref (E.getD x.pair.toNat default).1 2 0 (E.getD x.pair.toNat default).2)],os.set (D.getD c.toNat default).1 (.arr 2 (rowsOf bq (j6 (S.getD c.toNat default) x.opt.toNat x.dO)))++[.gone,.var (aQ p),.var (bN x)]⟩ hn ?_ (λkey=>?_);rotate_left
 ·refine afC [5,10,13] (.take 0 (.take 4 (.take 5 (.four 1 (.four 2 (.four 3 (.three 6 (.take 7 (.take 8 (.take 9 (.take 10 (.take 11 (.take 12 (.take 13 (.take 14 .nil)))))))) 9 (.take 10 (.both 6 (.take 7 (.take 8 (.take 11 (.take 12 (.take 13 (.take 14 .nil)))))) 12 (.take 6 (.take 7 (.take 8 (.take 11 (.take 13 (.take 14 .nil)))))))) 12 (.take 13 (.both 6 (.take 7 (.take 8 (.take 9 (.take 10 (.take 11 (.take 14 .nil)))))) 9 (.take 6 (.take 7 (.take 8 (.take 10 (.take 11 (.take 14 .nil))))))))) 6 (.take 3 (.take 7 (.take 8 (.take 9 (.take 10 (.take 11 (.take 12 (.take 13 (.take 14 .nil))))))))) 9 (.take 10 (.three 3 (.both 6 (.take 7 (.take 8 (.take 11 (.take 12 (.take 13 (.take 14 .nil)))))) 12 (.take 6 (.take 7 (.take 8 (.take 11 (.take 13 (.take 14 .nil))))))) 6 (.take 3 (.take 7 (.take 8 (.take 11 (.take 12 (.take 13 (.take 14 .nil))))))) 12 (.take 13 (.both 3 (.take 6 (.take 7 (.take 8 (.take 11 (.take 14 .nil))))) 6 (.take 3 (.take 7 (.take 8 (.take 11 (.take 14 .nil))))))))) 12 (.take 13 (.three 3 (.both 6 (.take 7 (.take 8 (.take 9 (.take 10 (.take 11 (.take 14 .nil)))))) 9 (.take 6 (.take 7 (.take 8 (.take 10 (.take 11 (.take 14 .nil))))))) 6 (.take 3 (.take 7 (.take 8 (.take 9 (.take 10 (.take 11 (.take 14 .nil))))))) 9 (.take 10 (.both 3 (.take 6 (.take 7 (.take 8 (.take 11 (.take 14 .nil))))) 6 (.take 3 (.take 7 (.take 8 (.take 11 (.take 14 .nil)))))))))) 6 (.take 2 (.take 3 (.take 7 (.take 8 (.take 9 (.take 10 (.take 11 (.take 12 (.take 13 (.take 14 .nil)))))))))) 9 (.take 10 (.three 2 (.three 3 (.both 6 (.take 7 (.take 8 (.take 11 (.take 12 (.take 13 (.take 14 .nil)))))) 12 (.take 6 (.take 7 (.take 8 (.take 11 (.take 13 (.take 14 .nil))))))) 6 (.take 3 (.take 7 (.take 8 (.take 11 (.take 12 (.take 13 (.take 14 .nil))))))) 12 (.take 13 (.both 3 (.take 6 (.take 7 (.take 8 (.take 11 (.take 14 .nil))))) 6 (.take 3 (.take 7 (.take 8 (.take 11 (.take 14 .nil)))))))) 6 (.take 2 (.take 3 (.take 7 (.take 8 (.take 11 (.take 12 (.take 13 (.take 14 .nil)))))))) 12 (.take 13 (.both 2 (.both 3 (.take 6 (.take 7 (.take 8 (.take 11 (.take 14 .nil))))) 6 (.take 3 (.take 7 (.take 8 (.take 11 (.take 14 .nil)))))) 6 (.take 2 (.take 3 (.take 7 (.take 8 (.take 11 (.take 14 .nil)))))))))) 12 (.take 13 (.three 2 (.three 3 (.both 6 (.take 7 (.take 8 (.take 9 (.take 10 (.take 11 (.take 14 .nil)))))) 9 (.take 6 (.take 7 (.take 8 (.take 10 (.take 11 (.take 14 .nil))))))) 6 (.take 3 (.take 7 (.take 8 (.take 9 (.take 10 (.take 11 (.take 14 .nil))))))) 9 (.take 10 (.both 3 (.take 6 (.take 7 (.take 8 (.take 11 (.take 14 .nil))))) 6 (.take 3 (.take 7 (.take 8 (.take 11 (.take 14 .nil)))))))) 6 (.take 2 (.take 3 (.take 7 (.take 8 (.take 9 (.take 10 (.take 11 (.take 14 .nil)))))))) 9 (.take 10 (.both 2 (.both 3 (.take 6 (.take 7 (.take 8 (.take 11 (.take 14 .nil))))) 6 (.take 3 (.take 7 (.take 8 (.take 11 (.take 14 .nil)))))) 6 (.take 2 (.take 3 (.take 7 (.take 8 (.take 11 (.take 14 .nil))))))))))) 6 (.take 1 (.take 2 (.take 3 (.take 7 (.take 8 (.take 9 (.take 10 (.take 11 (.take 12 (.take 13 (.take 14 .nil))))))))))) 9 (.take 10 (.three 1 (.three 2 (.three 3 (.both 6 (.take 7 (.take 8 (.take 11 (.take 12 (.take 13 (.take 14 .nil)))))) 12 (.take 6 (.take 7 (.take 8 (.take 11 (.take 13 (.take 14 .nil))))))) 6 (.take 3 (.take 7 (.take 8 (.take 11 (.take 12 (.take 13 (.take 14 .nil))))))) 12 (.take 13 (.both 3 (.take 6 (.take 7 (.take 8 (.take 11 (.take 14 .nil))))) 6 (.take 3 (.take 7 (.take 8 (.take 11 (.take 14 .nil)))))))) 6 (.take 2 (.take 3 (.take 7 (.take 8 (.take 11 (.take 12 (.take 13 (.take 14 .nil)))))))) 12 (.take 13 (.both 2 (.both 3 (.take 6 (.take 7 (.take 8 (.take 11 (.take 14 .nil))))) 6 (.take 3 (.take 7 (.take 8 (.take 11 (.take 14 .nil)))))) 6 (.take 2 (.take 3 (.take 7 (.take 8 (.take 11 (.take 14 .nil))))))))) 6 (.take 1 (.take 2 (.take 3 (.take 7 (.take 8 (.take 11 (.take 12 (.take 13 (.take 14 .nil))))))))) 12 (.take 13 (.both 1 (.both 2 (.both 3 (.take 6 (.take 7 (.take 8 (.take 11 (.take 14 .nil))))) 6 (.take 3 (.take 7 (.take 8 (.take 11 (.take 14 .nil)))))) 6 (.take 2 (.take 3 (.take 7 (.take 8 (.take 11 (.take 14 .nil))))))) 6 (.take 1 (.take 2 (.take 3 (.take 7 (.take 8 (.take 11 (.take 14 .nil))))))))))) 12 (.take 13 (.three 1 (.three 2 (.three 3 (.both 6 (.take 7 (.take 8 (.take 9 (.take 10 (.take 11 (.take 14 .nil)))))) 9 (.take 6 (.take 7 (.take 8 (.take 10 (.take 11 (.take 14 .nil))))))) 6 (.take 3 (.take 7 (.take 8 (.take 9 (.take 10 (.take 11 (.take 14 .nil))))))) 9 (.take 10 (.both 3 (.take 6 (.take 7 (.take 8 (.take 11 (.take 14 .nil))))) 6 (.take 3 (.take 7 (.take 8 (.take 11 (.take 14 .nil)))))))) 6 (.take 2 (.take 3 (.take 7 (.take 8 (.take 9 (.take 10 (.take 11 (.take 14 .nil)))))))) 9 (.take 10 (.both 2 (.both 3 (.take 6 (.take 7 (.take 8 (.take 11 (.take 14 .nil))))) 6 (.take 3 (.take 7 (.take 8 (.take 11 (.take 14 .nil)))))) 6 (.take 2 (.take 3 (.take 7 (.take 8 (.take 11 (.take 14 .nil))))))))) 6 (.take 1 (.take 2 (.take 3 (.take 7 (.take 8 (.take 9 (.take 10 (.take 11 (.take 14 .nil))))))))) 9 (.take 10 (.both 1 (.both 2 (.both 3 (.take 6 (.take 7 (.take 8 (.take 11 (.take 14 .nil))))) 6 (.take 3 (.take 7 (.take 8 (.take 11 (.take 14 .nil)))))) 6 (.take 2 (.take 3 (.take 7 (.take 8 (.take 11 (.take 14 .nil))))))) 6 (.take 1 (.take 2 (.take 3 (.take 7 (.take 8 (.take 11 (.take 14 .nil))))))))))))))) rfl Kq (by decide +kernel) ?_;simp(disch:=omega)only[Ac,↓Pc,simprocAttr,Il,Ik,Ij,Ii,ER,du,↓Lq,eg,ea,gC,cS,cD,qd,bN];repeat'(first|with_reducible refine cI ?_ ?_|omega|(refine il bY G9 ?_;simp(disch:=omega)only[Ac,↓Pc,simprocAttr,Il,Ik,Ij,Ii,ER,du,↓Lq,eg,ea,gC,cS,cD,qd,bN,cY])|(refine il nU G9 ?_;simp(disch:=omega)only[Ac,↓Pc,simprocAttr,ER,sd,cY]))
  all_goals
   refine key _ ?_;exact Xv @bN.eq_1
 (try clear hn;try clear he)
 try(try clear Q)
 have pt:=(h.M4 (j:=c.toNat) G3 (r:=j6 (S.getD c.toNat default) x.opt.toNat x.dO) (yd _ _ _)).app [.gone,.var (aQ p),.var (bN x)];have wZ:os.length<=(os.set (D.getD c.toNat default).1 (.arr 2 (rowsOf bq (j6 (S.getD c.toNat default) x.opt.toNat x.dO)))++[Ob.gone,Ob.var (aQ p),Ob.var (bN x)]).length:=G9;have fp2:(os.set (D.getD c.toNat default).1 (.arr 2 (rowsOf bq (j6 (S.getD c.toNat default) x.opt.toNat x.dO)))++[Ob.gone,Ob.var (aQ p),Ob.var (bN x)])[os.length+1]?=some (.var (aQ p)):=yb _ _ _ _ _;have hmS:kl m x (S,T)=(S.set c.toNat (j6 (S.getD c.toNat default) x.opt.toNat x.dO),T.set x.pair.toNat (iz (pg m x).1 x.dO (pg m x).2 (T.getD x.pair.toNat default))):=by unfold kl;rw[NQ]
 rw[hmS];dsimp only;have w6:x.pair.toNat<T.length:=G3;have Jt:pg m x=if x.side=0 then(λk:Nat=>(x.opt*dT+k).toNat,dT) else(λk:Nat=>((k:Int)*dT+x.opt).toNat,rows):=by unfold pg;rw[bL,F7,NV]
 have Ju:c=if x.side=0 then p.fst else p.snd:=by rw[<- NQ];unfold fR;rw[bL]
 have NW:=ug hg.tb x.pair.toNat;dsimp only at NW;have mJ:=Dc dJ hm;generalize hS':S.set c.toNat (j6 (S.getD c.toNat default) x.opt.toNat x.dO)=S' at *;generalize os.set (D.getD c.toNat default).1 (.arr 2 (rowsOf bq (j6 (S.getD c.toNat default) x.opt.toNat x.dO)))++[Ob.gone,.var (aQ p),.var (bN x)]=te at *;obtain⟨gg,ga,gb⟩:=A6 pt;obtain⟨u1,u2⟩:=pt.rD.row p.snd.toNat G3;obtain⟨v1,v2⟩:=pt.rD.row p.fst.toNat G3;clear fg eg fa ea fb eb td mN qe qd Js rF1 Dd fp bY fg1 fa1 qd1 eg1 ea1 ed1 ep1 nU sd h;have tz:(D.getD p.snd.toNat default).2=dT:=by rw[<- NU];exact Jn
 have aap:(D.getD p.fst.toNat default).2=rows:=by rw[<- rF2];exact hFl
 by_cases hs:x.side=0
 ·rw[if_pos hs]at Ju Jt;rw[Ju]at o4;rw[Jt];dsimp only;((repeat'(first|refine Vb (X5 @gg @ga @gC.eq_1 @cS.eq_1 (X5 @fp2 @aQ.eq_1 @u1 @v1 (X3 @tz @aap @bN.eq_1))) ?_|(refine Xi ?_ ?_<;>try intro ht)|exact Xx|fail)))
  refine aO (λz:Nat×List Ob=>(⟨au [(3,.bm (bN x)),(5,.ref (E.getD x.pair.toNat default).1 2 0 (E.getD x.pair.toNat default).2),(6,aaa dT),(53,aaa dT),(54,aaa z.1)],z.2⟩:St))
   (λz=>z.1<=dT/\LO bq (GB m gi ai bi D E) D E S' (T.set x.pair.toNat (iz (λk:Nat=>(x.opt*dT+k).toNat) x.dO z.1 (T.getD x.pair.toNat default))) z.2/\os.length<=z.2.length)
   (λz=>dT-z.1) (0,te) ⟨aF _,by rw[iz,Fo];exact pt,wZ⟩ (Xv @bN.eq_1) ?_
  rintro⟨k,ok⟩⟨hk,kZ,g9⟩Ql ak ar;dsimp only at hk kZ g9 ⊢;obtain⟨tg,Br⟩:=kZ.rE.row x.pair.toNat G3;rw[vr _ _ _ w6]at tg Br;have fA:=A7 (λk:Nat=>(x.opt*dT+k).toNat) x.dO k (T.getD x.pair.toNat default);have I6:=(NW.sub G3 (λk:Nat=>(x.opt*dT+k).toNat) (a:=x.dO) G3 k).get G3 (x.opt*dT+k:Int).toNat;by_cases aL:k<dT
  ·have yn:=kZ.IY (j:=x.pair.toNat) G3 (r:=j6 (iz (λk:Nat=>(x.opt*dT+k).toNat) x.dO k (T.getD x.pair.toNat default)) (x.opt*dT+k:Int).toNat (-x.dO)) (by rw[vr _ _ _ w6];exact yd _ _ _);rw[vY]at yn;obtain⟨NX,NY,NZ,N0⟩:=Jv (a:=x.opt) (k:=(k:Int)) (c:=(dT:Int)) (n:=(rows:Int)) ⟨o3,G3⟩ G3 G3 G3;generalize vy:(x.opt*dT+k:Int)=ix at *;generalize jg:iz (λk:Nat=>(x.opt*dT+k).toNat) x.dO k (T.getD x.pair.toNat default)=tk at *;have nU:=NP tg (r:=ix.toNat) G3 (-x.dO) (by unfold dS;omega);((repeat'(first|refine Va (X3 @tg @bN.eq_1 @vy) ?_|(refine Xi ?_ ?_<;>try intro ht)|exact Xx|fail))<;>try with_reducible intro K hK)
   refine il nU G9 ?_;((try revert hK K);(refine Va X0 ?_))
   refine ak _ (k+1,_) ⟨Kw,by rw[iz,jg,vy];exact yn,by dsimp only;rw[bw];exact g9⟩ Kw ?_;exact Xv @bN.eq_1
  ·have vz:k=dT:=G3;rw[vz]at kZ;((repeat'(first|refine Va X0 ?_|(refine Xi ?_ ?_<;>try intro ht)|exact Xx|fail)))
   refine ar _ _ rfl ?_;clear ak ar Ql;repeat(refine Xu ?_)
   refine Vb X0 ?_;unfold gR;simp only[eQ,eG];exact⟨.bH [],_,⟨rfl,kZ,g9⟩,ey rfl g9 rfl⟩
 ·rw[if_neg hs]at Ju Jt;rw[Ju]at o4;rw[Jt];dsimp only;((repeat'(first|refine Vb (X5 @gg @ga @gC.eq_1 @cS.eq_1 (X5 @fp2 @aQ.eq_1 @u1 @v1 (X3 @tz @aap @bN.eq_1))) ?_|(refine Xi ?_ ?_<;>try intro ht)|exact Xx|fail)))
  refine aO (λz:Nat×List Ob=>(⟨au [(3,.bm (bN x)),(5,.ref (E.getD x.pair.toNat default).1 2 0 (E.getD x.pair.toNat default).2),(6,aaa dT),(78,aaa rows),(79,aaa z.1)],z.2⟩:St))
   (λz=>z.1<=rows/\LO bq (GB m gi ai bi D E) D E S' (T.set x.pair.toNat (iz (λk:Nat=>((k:Int)*dT+x.opt).toNat) x.dO z.1 (T.getD x.pair.toNat default))) z.2/\os.length<=z.2.length)
   (λz=>rows-z.1) (0,te) ⟨aF _,by rw[iz,Fo];exact pt,wZ⟩ (Xv @bN.eq_1) ?_
  rintro⟨k,ok⟩⟨hk,kZ,g9⟩Ql ak ar;dsimp only at hk kZ g9 ⊢;obtain⟨tg,Br⟩:=kZ.rE.row x.pair.toNat G3;rw[vr _ _ _ w6]at tg Br;have fA:=A7 (λk:Nat=>((k:Int)*dT+x.opt).toNat) x.dO k (T.getD x.pair.toNat default);have I6:=(NW.sub G3 (λk:Nat=>((k:Int)*dT+x.opt).toNat) (a:=x.dO) G3 k).get G3 ((k:Int)*dT+x.opt).toNat;by_cases aL:k<rows
  ·have yn:=kZ.IY (j:=x.pair.toNat) G3 (r:=j6 (iz (λk:Nat=>((k:Int)*dT+x.opt).toNat) x.dO k (T.getD x.pair.toNat default)) ((k:Int)*dT+x.opt).toNat (-x.dO)) (by rw[vr _ _ _ w6];exact yd _ _ _);rw[vY]at yn;obtain⟨NX,NY,NZ,N0⟩:=Jv (a:=(k:Int)) (k:=x.opt) (c:=(dT:Int)) (n:=(rows:Int)) G3 ⟨o3,G3⟩ G3 G3;generalize vy:((k:Int)*dT+x.opt)=ix at *;generalize jg:iz (λk:Nat=>((k:Int)*dT+x.opt).toNat) x.dO k (T.getD x.pair.toNat default)=tk at *;have nU:=NP tg (r:=ix.toNat) G3 (-x.dO) (by unfold dS;omega);((repeat'(first|refine Va (X3 @tg @bN.eq_1 @vy) ?_|(refine Xi ?_ ?_<;>try intro ht)|exact Xx|fail))<;>try with_reducible intro K hK)
   refine il nU G9 ?_;((try revert hK K);(refine Va X0 ?_))
   refine ak _ (k+1,_) ⟨Kw,by rw[iz,jg,vy];exact yn,by dsimp only;rw[bw];exact g9⟩ Kw ?_;exact Xv @bN.eq_1
  ·have vz:k=rows:=G3;rw[vz]at kZ;((repeat'(first|refine Va X0 ?_|(refine Xi ?_ ?_<;>try intro ht)|exact Xx|fail)))
   refine ar _ _ rfl ?_;clear ak ar Ql;repeat(refine Xu ?_)
   ((skip))
   unfold gR;simp only[eQ,eG];exact⟨.bH [],_,⟨rfl,kZ,g9⟩,ey rfl g9 rfl⟩
def NN(xs:List Nm)(n:Int):rowsOf bq xs++[[AV.lit (.int .i64 n),.lit (.bool (decide (1099511627776<=n)))]]=rowsOf bq (xs++[fL n]):=by simp[rowsOf,bq,fL]
def aiO{m:ah}(hm:VM m)(os:List Ob):fG Tryz.prog 109 [.agg (ao m)] os λr ob=>∃ gi ai bi D E,r=.ptr gi 0 0/\LO bq (GB m gi ai bi D E) D E (S0 m) (T0 m) ob/\iL os ob:=by
 have yp:=hm.cls;have s7:=hm.ae;refine fG.aC 94 os.length [.tmp 2] Tryz.func109 ?_;refine Vb (X3 @cD @cY.{0} @bQ.{0}) ?_;have kz1:(os++[Ob.var (ao m),Ob.var (ao m++[.lit (.slice none 0 0),.lit (.slice none 0 0)])])[os.length+1]?=some (.var (ao m++[.lit (.slice none 0 0),.lit (.slice none 0 0)])):=by rw[nN];rfl
 refine bD (ay.my (os.length+1) 4 1 kz1 rfl Kq) ?_;simp only[cY,dP,dZ,IW,n6,mh,bQ,eu,k8,ao,gf,Nat.reduceAdd];clear kz1;refine bD (ay.my (os.length+1) 5 1 (by rw[nN];rfl) rfl Kq) ?_;simp only[cY,dP,dZ,IW,n6,mh,bQ,eu,k8,gf,Nat.reduceAdd];have uw:LO bq [(os.length+1,.var (gC m (os.length+2) (os.length+3) [] [])),(os.length+2,.arr 1 (rowsOf cS [])),(os.length,.var (ao m)),(os.length+3,.arr 1 (rowsOf cS []))] [] [] ((S0 m).take 0) [] (os++[.var (ao m),.var (gC m (os.length+2) (os.length+3) [] []),.arr 1 [],.arr 1 []]):=by
  refine⟨λb hb=>?_,by rw[ky];exact RI.nil,RI.nil,G9⟩;simp only[cu,jQ,or_false]at hb;rcases hb with rfl|rfl|rfl|rfl
  ·exact⟨by rw[nN];rfl,G9⟩
  ·exact⟨by rw[nN];rfl,G9⟩
  ·exact⟨by rw[kj],G9⟩
  ·exact⟨by rw[nN];rfl,G9⟩
 refine aO (λz:Nat×List Ob×Nat×List (Nat×Nat)=>(⟨au [(1,.ptr os.length 0 0),(3,.ptr (os.length+1) 0 0),(21,.tree 1 (rowsOf a9 m.cls)),(22,aaa m.cls.length),(23,aaa z.1)],z.2.1⟩:St))
  (λz=>z.1<=m.cls.length/\z.2.2.2.length=z.1/\LO bq [(os.length+1,.var (gC m z.2.2.1 (os.length+3) z.2.2.2 [])),(z.2.2.1,.arr 1 (rowsOf cS z.2.2.2)),(os.length,.var (ao m)),(os.length+3,.arr 1 (rowsOf cS []))] z.2.2.2 [] ((S0 m).take z.1) [] z.2.1/\iL os z.2.1/\os.length+1<z.2.2.1/\z.2.2.1≠os.length+3)
  (λz=>m.cls.length-z.1) (0,os++[.var (ao m),.var (gC m (os.length+2) (os.length+3) [] []),.arr 1 [],.arr 1 []],os.length+2,[]) ⟨aF _,rfl,uw,(iL.refl os).app _,Kw,Kw⟩ (Xv X0) ?_
 clear uw;rintro⟨i,ob,ai,D⟩⟨hi,hD,hL,bS,EI,N2⟩Ql ak ar;dsimp only at hi hD hL bS EI N2 ⊢;by_cases hi':i<m.cls.length
 ·have eT:=aB (d:=default) hi';have sh:=hm.opt _ eT;have cq:(S0 m).take (i+1)=(S0 m).take i++[ep (iy (m.cls.getD i default))]:=by
   rw[eJ (by unfold S0;rw[eO];exact hi')];unfold S0;rw[kU _ _ _ hi']
  have fC:=λo ho=>hm.oB _ eT o ho;have FD:=λo ho=>aar hm eT (o:=o) ho;generalize aM:m.cls.getD i default=c at *;((repeat'(first|refine Va (X2 @aM @a9.eq_1) ?_|(refine Xi ?_ ?_<;>try intro ht)|exact Xx|fail)))
  have sm:(ep (iy c)).length=c.length:=by unfold ep iy;simp
  refine aO (λz:Nat×List Ob×Nat×List Nm=>(⟨au [(1,.ptr os.length 0 0),(3,.ptr (os.length+1) 0 0),(21,.tree 1 (rowsOf a9 m.cls)),(22,aaa m.cls.length),(23,aaa i),(6,.ref z.2.2.1 2 0 z.2.2.2.length),(27,.tree 6 (rowsOf cK c)),(28,aaa c.length),(29,aaa z.1)],z.2.1⟩:St))
   (λz=>z.1<=c.length/\LO bq [(os.length+1,.var (gC m ai (os.length+3) D [])),(ai,.arr 1 (rowsOf cS D)),(os.length,.var (ao m)),(os.length+3,.arr 1 (rowsOf cS []))] D [] ((S0 m).take i) [] z.2.1/\iL os z.2.1/\z.2.1[z.2.2.1]?=some (.arr 2 (rowsOf bq z.2.2.2))/\z.2.2.1 ∉ List.map (λq:Nat×Nat=>q.1) (D++[])/\os.length<=z.2.2.1/\z.2.2.2=(ep (iy c)).take z.1)
   (λz=>c.length-z.1) (0,ob++[.arr 2 []],ob.length,[]) ⟨aF _,hL.app _,bS.app _,kj _ _ _,hL.fresh (aR _),bS.len,rfl⟩ ?_ ?_
  ·refine ay.trans (ay.nil 6 2 (by simp only[Kc,simprocAttr]) Kq) ?_;exact Xv X0
  clear hL bS;rintro⟨k,ok,oi,xs⟩⟨hk,hL,bS,l7,dV,ux,dj⟩cL a7 ba;dsimp only at hk hL bS l7 dV ux dj ⊢;by_cases aL:k<c.length
  ·have fq:=aB (l:=c) (d:=default) aL;have aas:=IU (fC _ fq);have aob:=FD _ fq;have F8:(ep (iy c)).getD k default=fL (sY (c.getD k default)):=by
    unfold ep iy;rw[List.map_map,kU _ _ _ aL];rfl
   have De:=eJ (l:=ep (iy c)) (k:=k) G3;rw[F8,<- dj]at De;have qU:xs.length=k:=by rw[dj,fy];omega
   generalize kY:c.getD k default=o at *;((repeat'(first|refine Va (X3 @kY @cD @cK.eq_1) ?_|(refine Xi ?_ ?_<;>try intro ht)|exact Xx|fail)))
   refine aO (λz:Nat×List Ob=>(⟨au [(1,.ptr os.length 0 0),(3,.ptr (os.length+1) 0 0),(21,.tree 1 (rowsOf a9 m.cls)),(22,aaa m.cls.length),(23,aaa i),(6,.ref oi 2 0 xs.length),(27,.tree 6 (rowsOf cK c)),(28,aaa c.length),(29,aaa k),(9,aaa (((o.ch.take z.1).map (·.2)).foldl fl 0)),(34,.tree 2 (rowsOf aK o.ch)),(35,aaa o.ch.length),(36,aaa z.1)],z.2⟩:St))
    (λz=>z.1<=o.ch.length/\LO bq [(os.length+1,.var (gC m ai (os.length+3) D [])),(ai,.arr 1 (rowsOf cS D)),(os.length,.var (ao m)),(os.length+3,.arr 1 (rowsOf cS []))] D [] ((S0 m).take i) [] z.2/\iL os z.2/\z.2[oi]?=some (.arr 2 (rowsOf bq xs)))
    (λz=>o.ch.length-z.1) (0,ok++[.var (cK o)]) ⟨aF _,hL.app _,bS.app _,bf l7 _⟩ (Xv (X4 @ky.{0} @List.map_nil.{0,0} @List.foldl_nil.{0,0} @cK.eq_1)) ?_
   clear hL bS l7;rintro⟨q,oq⟩⟨hq,hL,bS,l7⟩kX fJ eR;dsimp only at hq hL bS l7 ⊢;have hs:=Fm ((o.ch.take q).map (·.2)) 0 (λx hx=>by
    obtain⟨c,iR,rfl⟩:=List.mem_map.1 hx;exact aas c (List.mem_of_mem_take iR)) (by unfold bZ;decide)
   by_cases CE:q<o.ch.length
   ·have ajh:=aas _ (aB (d:=default) CE);have dX:=M0 o.ch q CE;generalize ((o.ch.take q).map (·.2)).foldl fl 0=s at *;have nU:=Mu s (o.ch.getD q default).2 hs ajh;generalize gA:o.ch.getD q default=y at *;((repeat'(first|refine Vc (X3 @gA @cD @aK.eq_1) nU ?_|(refine Xi ?_ ?_<;>try intro ht)|exact Xx|fail)))
    refine fJ _ (q+1,oq++[.var (aK y)]) ⟨Kw,hL.app _,bS.app _,bf l7 _⟩ Kw ?_;simp only[dX];exact Xv @aK.eq_1
   ·have kh:((o.ch.take q).map (·.2)).foldl fl 0=sY o:=by rw[ej G3];rfl
    rw[kh]at hs;rw[<- kh]at De;generalize ((o.ch.take q).map (·.2)).foldl fl 0=s at *;have N3:=NM s;have eoi:=bf l7;have N4:=gz l7;have fX:=(aY.1 l7).1;((repeat'(first|refine Va X0 ?_|(refine Xi ?_ ?_<;>try intro ht)|exact Xx|fail)))
    refine eR _ _ rfl ?_;clear fJ eR kX;repeat(refine Xu ?_)
    refine Vc (X5 @l7 @eoi @N4 @bq.eq_1 (X5 @fL.eq_1 @cD @cY.{0} @bQ.{0} (X2 @bw.{0} @NN))) N3 ?_;have pt:=(hL.I0 (y:=.gone) dV l7).app [.arr 2 [bq (fL s)],.arr 2 (rowsOf bq (xs++[fL s]))];refine a7 _ (k+1,oq.set oi .gone++[.arr 2 [bq (fL s)],.arr 2 (rowsOf bq (xs++[fL s]))],oq.length+1,xs++[fL s]) ⟨Kw,pt,(bS.set ux).app _,yb _ _ _ _ _,(hL.I0 (y:=.gone) dV l7).fresh (by dsimp only;rw[bw];omega),by dsimp only;have:=bS.len;omega,De.symm⟩ Kw ?_;exact Xv (X2 @bq.eq_1 @fL.eq_1)
  ·rw[ej G3]at dj;have sO:=(hL.base (os.length+1,.var (gC m ai (os.length+3) D [])) G9).1;have p8:=(hL.base (ai,.arr 1 (rowsOf cS D)) G9).1;dsimp only at sO p8;have N5:=bf sO;have N6:=bf p8;have N7:=gz p8;have qq:(ok.set ai .gone)[os.length+1]?=some (.var (gC m ai (os.length+3) D [])):=by rw[bM G3];exact sO
   have uu:=bf qq;have N8:=gz qq;have dX:=hL.step l7 dV (by simp only[cu,jQ,or_false,forall_eq_or_imp,forall_eq];omega) [.tree 1 (rowsOf a9 m.cls),.tree 4 (rowsOf aQ m.ae),.tree 4 (rowsOf aV m.ax),aaa m.rules,.ref (ok.length+1) 1 0 (D.length+1),.ref (os.length+3) 1 0 0] (rowsOf cS (D++[(oi,xs.length)])) (.arr 1 [[.ref oi 2 0 xs.length]]);have N9:gC m (ok.length+1) (os.length+3) (D++[(oi,xs.length)]) []=[.tree 1 (rowsOf a9 m.cls),.tree 4 (rowsOf aQ m.ae),.tree 4 (rowsOf aV m.ax),aaa m.rules,.ref (ok.length+1) 1 0 (D.length+1),.ref (os.length+3) 1 0 0]:=by simp[gC]
   have C3:=(aY.1 (hL.base (os.length+3,.arr 1 (rowsOf cS [])) G9).1).1;have gJ:=(aY.1 p8).1;dsimp only at C3;((repeat'(first|refine Va X0 ?_|(refine Xi ?_ ?_<;>try intro ht)|exact Xx|fail)))
   refine ba _ _ rfl ?_;clear a7 ba cL;repeat(refine Xu ?_)
   refine Va (X5 @sO @p8 @N5 @N6 (X5 @N7 @uu @N8 @gC.eq_1 (X5 @IX @cD @cY.{0} @bQ.{0} @bw.{0}))) ?_;refine ak _ (i+1,_,ok.length+1,D++[(oi,xs.length)]) ⟨Kw,PX,by dsimp only;rw[cq,<- dj,N9];exact dX,((bS.set G3).set G3).app _,Kw,Kw⟩ Kw ?_;exact Xv X0
 rw[ej (by unfold S0;rw[eO];omega)]at hL;have Df:=(hL.base (os.length,.var (ao m)) G9).1;dsimp only at Df;((repeat'(first|refine Va @Df ?_|(refine Xi ?_ ?_<;>try intro ht)|exact Xx|fail)))
 refine ar _ _ rfl ?_;clear ak ar Ql;repeat(refine Xu ?_)
 refine Va @Df ?_;have hL0:LO bq [(os.length+1,.var (gC m ai (os.length+3) D [])),(os.length+3,.arr 1 (rowsOf cS [])),(os.length,.var (ao m)),(ai,.arr 1 (rowsOf cS D))] [] D ((T0 m).take 0) (S0 m) ob:=hL.swap.sub (by simp only[cu,jQ,or_false];intro b hb;rcases hb with rfl|rfl|rfl|rfl<;>simp);refine aO (λz:Nat×List Ob×Nat×List (Nat×Nat)=>(⟨au [(1,.ptr os.length 0 0),(3,.ptr (os.length+1) 0 0),(63,.tree 4 (rowsOf aQ m.ae)),(64,aaa m.ae.length),(65,aaa z.1)],z.2.1⟩:St))
  (λz=>z.1<=m.ae.length/\z.2.2.2.length=z.1/\LO bq [(os.length+1,.var (gC m ai z.2.2.1 D z.2.2.2)),(z.2.2.1,.arr 1 (rowsOf cS z.2.2.2)),(os.length,.var (ao m)),(ai,.arr 1 (rowsOf cS D))] z.2.2.2 D ((T0 m).take z.1) (S0 m) z.2.1/\iL os z.2.1/\os.length+1<z.2.2.1/\ai≠z.2.2.1)
  (λz=>m.ae.length-z.1) (0,ob,os.length+3,[]) ⟨aF _,rfl,hL0,bS,Kw,N2⟩ (Xv X0) ?_
 clear hL hL0 bS Df hi hi' N2 ob;rintro⟨i,ob,bi,E⟩⟨hi,hE,hL,bS,im,wT⟩Ql ak ar;dsimp only at hi hE hL bS im wT ⊢;by_cases hi':i<m.ae.length
 ·have dJ:=jy hm.pr _ (aB (d:=default) hi');have mJ:=Dc dJ hm;have lC:=I1 dJ;have cq:(T0 m).take (i+1)=(T0 m).take i++[ep (m.ae.getD i default).aD]:=by
   rw[eJ (by unfold T0;rw[eO];exact hi')];unfold T0;rw[kU _ _ _ hi']
  generalize bL:m.ae.getD i default=p at *;((repeat'(first|refine Va (X3 @bL @cD @aQ.eq_1) ?_|(refine Xi ?_ ?_<;>try intro ht)|exact Xx|fail)))
  have sm:(ep p.aD).length=p.aD.length:=by unfold ep;simp
  refine aO (λz:Nat×List Ob×Nat×List Nm=>(⟨au [(1,.ptr os.length 0 0),(3,.ptr (os.length+1) 0 0),(63,.tree 4 (rowsOf aQ m.ae)),(64,aaa m.ae.length),(65,aaa i),(14,.ref z.2.2.1 2 0 z.2.2.2.length),(70,.tree 1 (ints p.aD)),(71,aaa p.aD.length),(72,aaa z.1)],z.2.1⟩:St))
   (λz=>z.1<=p.aD.length/\LO bq [(os.length+1,.var (gC m ai bi D E)),(bi,.arr 1 (rowsOf cS E)),(os.length,.var (ao m)),(ai,.arr 1 (rowsOf cS D))] E D ((T0 m).take i) (S0 m) z.2.1/\iL os z.2.1/\z.2.1[z.2.2.1]?=some (.arr 2 (rowsOf bq z.2.2.2))/\z.2.2.1 ∉ List.map (λq:Nat×Nat=>q.1) (E++D)/\os.length<=z.2.2.1/\z.2.2.2=(ep p.aD).take z.1)
   (λz=>p.aD.length-z.1) (0,(ob++[.var (aQ p)])++[.arr 2 []],(ob++[Ob.var (aQ p)]).length,[]) ⟨aF _,(hL.app _).app _,(bS.app _).app _,kj _ _ _,(hL.app [.var (aQ p)]).fresh (aR _),by simp;have:=bS.len;omega,rfl⟩ ?_ ?_
  ·refine ay.trans (ay.nil 14 2 (by simp only[Kc,simprocAttr]) Kq) ?_;exact Xv X0
  clear hL bS;rintro⟨k,ok,oi,xs⟩⟨hk,hL,bS,l7,dV,ux,dj⟩cL a7 ba;dsimp only at hk hL bS l7 dV ux dj ⊢;by_cases aL:k<p.aD.length
  ·have F8:(ep p.aD).getD k default=fL (p.aD.getD k 0):=by
    unfold ep;rw[kU _ _ _ aL];rfl
   have De:=eJ (l:=ep p.aD) (k:=k) G3;rw[F8,<- dj]at De;have qU:xs.length=k:=by rw[dj,fy];omega
   have hs:=lC _ (aB (d:=0) aL);unfold bZ at hs;generalize gA:p.aD.getD k 0=s at *;have N3:=NM s;have eoi:=bf l7;have N4:=gz l7;have fX:=(aY.1 l7).1;((repeat'(first|refine Vc (X5 @gA @l7 @eoi @N4 (X5 @bq.eq_1 @fL.eq_1 @cD @cY.{0} (X3 @bQ.{0} @bw.{0} @NN))) N3 ?_|(refine Xi ?_ ?_<;>try intro ht)|exact Xx|fail)))
   have pt:=(hL.I0 (y:=.gone) dV l7).app [.arr 2 [bq (fL s)],.arr 2 (rowsOf bq (xs++[fL s]))];refine a7 _ (k+1,ok.set oi .gone++[.arr 2 [bq (fL s)],.arr 2 (rowsOf bq (xs++[fL s]))],ok.length+1,xs++[fL s]) ⟨Kw,pt,(bS.set ux).app _,yb _ _ _ _ _,(hL.I0 (y:=.gone) dV l7).fresh (by dsimp only;rw[bw];omega),by dsimp only;have:=bS.len;omega,De.symm⟩ Kw ?_;exact Xv (X2 @bq.eq_1 @fL.eq_1)
  ·rw[ej G3]at dj;have sO:=(hL.base (os.length+1,.var (gC m ai bi D E)) G9).1;have p8:=(hL.base (bi,.arr 1 (rowsOf cS E)) G9).1;have ha3:=(aY.1 (hL.base (ai,.arr 1 (rowsOf cS D)) G9).1).1;dsimp only at sO p8 ha3;have N5:=bf sO;have N6:=bf p8;have N7:=gz p8;have qq:(ok.set bi .gone)[os.length+1]?=some (.var (gC m ai bi D E)):=by rw[bM G3];exact sO
   have uu:=bf qq;have N8:=gz qq;have dX:=hL.step l7 dV (by simp only[cu,jQ,or_false,forall_eq_or_imp,forall_eq];omega) [.tree 1 (rowsOf a9 m.cls),.tree 4 (rowsOf aQ m.ae),.tree 4 (rowsOf aV m.ax),aaa m.rules,.ref ai 1 0 D.length,.ref (ok.length+1) 1 0 (E.length+1)] (rowsOf cS (E++[(oi,xs.length)])) (.arr 1 [[.ref oi 2 0 xs.length]]);have N9:gC m ai (ok.length+1) D (E++[(oi,xs.length)])=[.tree 1 (rowsOf a9 m.cls),.tree 4 (rowsOf aQ m.ae),.tree 4 (rowsOf aV m.ax),aaa m.rules,.ref ai 1 0 D.length,.ref (ok.length+1) 1 0 (E.length+1)]:=by simp[gC]
   have gJ:=(aY.1 p8).1;((repeat'(first|refine Va X0 ?_|(refine Xi ?_ ?_<;>try intro ht)|exact Xx|fail)))
   refine ba _ _ rfl ?_;clear a7 ba cL;repeat(refine Xu ?_)
   refine Va (X5 @sO @p8 @N5 @N6 (X5 @N7 @uu @N8 @gC.eq_1 (X5 @IX @cD @cY.{0} @bQ.{0} @bw.{0}))) ?_;refine ak _ (i+1,_,ok.length+1,E++[(oi,xs.length)]) ⟨Kw,PX,by dsimp only;rw[cq,<- dj,N9];exact dX,((bS.set G3).set G3).app _,Kw,Kw⟩ Kw ?_;exact Xv X0
 rw[ej (by unfold T0;rw[eO];omega)]at hL;((repeat'(first|refine Va X0 ?_|(refine Xi ?_ ?_<;>try intro ht)|exact Xx|fail)))
 refine ar _ _ rfl ?_;clear ak ar Ql;repeat(refine Xu ?_)
 refine Vb X0 ?_;unfold gR;simp only[eQ,eG];simp(disch:=omega)only[Ac,↓Pc,simprocAttr];refine⟨.ptr (os.length+1) 0 0,ob,⟨os.length+1,ai,bi,D,E,rfl,hL.swap.sub ?_,bS⟩,ey rfl bS.len rfl⟩;simp only[cu,jQ,or_false];intro b hb;rcases hb with rfl|rfl|rfl<;>simp
def aiJ{m:ah}(hm:VM m){gi ai bi:Nat}{D E:List (Nat×Nat)}{S T:List (List Nm)}{os:List Ob}(h:LO bq (GB m gi ai bi D E) D E S T os){B:Int}(hg:LG m B (S,T)){left:List (List Bool)}(hf:fD m left)(c:Nat)(hc:c<m.cls.length):
  fG Tryz.prog 148 [.ptr gi 0 0,aaa c,.tree 1 (rowsOf aT left)] os λr ob=>iL os ob/\∃ id,r=.ref id 2 0 (ki (S.getD c default) (left.getD c default)).length/\ob[id]?=some (.arr 2 (rowsOf bq (ki (S.getD c default) (left.getD c default)))):=by
 obtain⟨fg,fa,fb⟩:=A6 h;have hD:=h.rD.len;have jk:S.length=m.cls.length:=hg.s;have yp:=hm.cls;have fK:=hf.1;obtain⟨mN,zF⟩:=h.rD.row c G3;have w5:(S.getD c default).length=(m.cls.getD c default).length:=hg.sl c hc;have dI:=hf.2 c G3;have aak:=hm.opt _ (aB (l:=m.cls) (i:=c) (d:=default) hc);generalize bj:S.getD c default=row at *;generalize ld:left.getD c default=lc at *;refine fG.aC 36 os.length [.tmp 6] Tryz.func148 ?_;refine Vb (X5 @fg @fa @gC.eq_1 @mN @cS.eq_1) ?_;have A2:(D.getD c default).2=row.length:=zF.symm;refine aO (λz:Nat×List Ob×Nat×List Nm=>(⟨au [(1,aaa c),(2,.tree 1 (rowsOf aT left)),(7,.ref z.2.2.1 2 0 z.2.2.2.length),(16,.ref (D.getD c default).1 2 0 row.length),(17,aaa row.length),(18,aaa z.1)],z.2.1⟩:St))
  (λz=>z.1<=row.length/\iL os z.2.1/\z.2.1[z.2.2.1]?=some (.arr 2 (rowsOf bq z.2.2.2))/\os.length<=z.2.2.1/\z.2.2.2=ki (row.take z.1) (lc.take z.1)/\z.2.2.2.length<=z.1)
  (λz=>row.length-z.1) (0,os++[.arr 2 []],os.length,[]) ⟨aF _,(iL.refl os).app _,kj _ _ _,aR _,rfl,aR _⟩ ?_ ?_
 ·refine ay.trans (ay.nil 7 2 (by simp only[Kc,simprocAttr]) Kq) ?_;exact Xv @A2
 rintro⟨i,ob,ti,xs⟩⟨hi,bS,fS,lC,dj,qU⟩Ql ak ar;dsimp only at hi bS fS lC dj qU ⊢;have r1:=bS _ _ mN;have Jw:=bf r1;have ta:=bf fS;have F2:=gz fS;have mJ:=(aY.1 fS).1;by_cases hi':i<row.length
 ·have h1:=eJ hi';have h2:=eJ (l:=lc) (k:=i) G3;have h3:=M1 (row.getD i default) (lc.getD i default) (row.take i) (lc.take i) (by rw[fy,fy];omega);rw[<- h1,<- h2,<- dj]at h3;have tY:lc.getD i default=lc.getD i false:=rfl;rw[tY]at h3;generalize bL:row.getD i default=p at *;generalize Bs:lc.getD i false=is at *;cases is
  ·simp only[ju,if_false,ic]at h3;((repeat'(first|refine Va (X5 @r1 @Jw @bq.eq_1 @bL (X4 @ld @Bs @aT.eq_1 @cD)) ?_|(refine Xi ?_ ?_<;>try intro ht)|exact Xx|fail)))
   refine ak _ (i+1,ob++[.var (bq p)],ti,xs) ⟨Kw,bS.app _,ta _,lC,h3.symm,Kw⟩ Kw ?_;exact Xv X0
  ·simp only[if_true]at h3;have N':rowsOf bq xs++[[AV.lit (.int .i64 p.1),.lit (.bool p.2)]]=rowsOf bq (xs++[p]):=by simp[rowsOf,bq]
   ((repeat'(first|refine Va (X5 @r1 @Jw @fS @ta (X5 @F2 @bq.eq_1 @bL @ld (X5 @Bs @aT.eq_1 @N' @cD (X3 @cY.{0} @bQ.{0} @bw.{0})))) ?_|(refine Xi ?_ ?_<;>try intro ht)|exact Xx|fail)))
   refine ak _ (i+1,ob.set ti .gone++[.var (bq p),.arr 2 [bq p],.arr 2 (rowsOf bq (xs++[p]))],ob.length+2,xs++[p]) ⟨Kw,(bS.set lC).app _,yb _ _ _ _ _,by dsimp only;have:=bS.len;omega,h3.symm,PX⟩ Kw ?_;exact Xv @bq.eq_1
 ·rw[ej G3,ej G3]at dj;((repeat'(first|refine Va X0 ?_|(refine Xi ?_ ?_<;>try intro ht)|exact Xx|fail)))
  refine ar _ _ rfl ?_;clear ak ar Ql;repeat(refine Xu ?_)
  refine Vb X0 ?_;unfold gR;simp only[eQ,eG];simp(disch:=omega)only[Ac,↓Pc,simprocAttr];rw[<- dj];exact⟨_,_,⟨bS,ti,rfl,fS⟩,ey rfl bS.len rfl⟩
def aiL {m:ah} (hm:VM m) {gi ai bi:Nat} {D E:List (Nat×Nat)} {S T:List (List Nm)} {os:List Ob} (h:LO bq (GB m gi ai bi D E) D E S T os) {B:Int} (hg:LG m B (S,T)) {left:List (List Bool)} (hf:fD m left) (c:Nat) (hc:c<m.ae.length) :
    fG Tryz.prog 149 [.ptr gi 0 0,aaa c,.tree 1 (rowsOf aT left)] os λr ob=>iL os ob/\∃ id,r=.ref id 2 0 (ki (T.getD c default) (jK m left c)).length/\ob[id]?=some (.arr 2 (rowsOf bq (ki (T.getD c default) (jK m left c)))):=by
  obtain ⟨fg,fa,fb⟩:=A6 h
  have eg:=bf fg
  have ea:=bf fa
  have eb:=bf fb
  have hD:=h.rD.len
  have hE:=h.rE.len
  have jk:S.length=m.cls.length:=hg.s
  have ht1:T.length=m.ae.length:=hg.t
  have yp:=hm.cls
  have s7:=hm.ae
  have fK:=hf.1
  obtain ⟨td,F6⟩:=h.rE.row c G3
  have s8:(T.getD c default).length=(m.ae.getD c default).aD.length:=hg.tl c hc
  have dJ:=jy hm.pr _ (aB (d:=default) hc)
  obtain ⟨NR,NS,NT,F5⟩:=F4 dJ
  have mJ:=Dc dJ hm
  have Bt:=hf.2 (m.ae.getD c default).fst.toNat G3
  have vA:=hf.2 (m.ae.getD c default).snd.toNat G3
  have hoa:=hm.opt _ (aB (l:=m.cls) (i:=(m.ae.getD c default).fst.toNat) (d:=default) G3)
  have a8:=hm.opt _ (aB (l:=m.cls) (i:=(m.ae.getD c default).snd.toNat) (d:=default) G3)
  obtain ⟨Js,NU⟩:=h.rD.row (m.ae.getD c default).snd.toNat G3
  have Jn:(S.getD (m.ae.getD c default).snd.toNat default).length=(m.cls.getD (m.ae.getD c default).snd.toNat default).length:=hg.sl _ G3
  have Oa:jK m left c=rZ (left.getD (m.ae.getD c default).fst.toNat default) (left.getD (m.ae.getD c default).snd.toNat default):=rfl
  have w7:=Fs (left.getD (m.ae.getD c default).snd.toNat default) (left.getD (m.ae.getD c default).fst.toNat default)
  have hbg:=M8 (left.getD (m.ae.getD c default).snd.toNat default) (left.getD (m.ae.getD c default).fst.toNat default)
  rw[<- Oa] at w7 hbg
  generalize bj:T.getD c default=row at *
  generalize bL:m.ae.getD c default=p at *
  generalize F9:left.getD p.fst.toNat default=la at *
  generalize Ga:left.getD p.snd.toNat default=lb at *
  generalize jK m left c=pb at *
  have tz:(D.getD p.snd.toNat default).2=lb.length:=by rw[<- NU,Jn,vA]
  have ba:row.length=pb.length:=by
    rw[w7,Bt,vA,s8]
    have:=F5
    rw[<- Int.natCast_mul] at this
    exact Int.ofNat_inj.1 this
  have A2:(E.getD c default).2=row.length:=F6.symm
  have qp:=bf Js
  have qe:=bf td
  refine fG.aC 70 os.length [.tmp 6] Tryz.func149 ?_
  (((refine Vb (X5 @fg @fa @fb @eg (X5 @ea @eb @gC.eq_1 @Js (X5 @qp @td @qe @cS.eq_1 (X5 @bL @aQ.eq_1 @cD @tz @A2)))) ?_)))
  refine aO (λz:Nat×List Ob×Nat×List Nm=>(⟨au [(2,.tree 1 (rowsOf aT left)),(7,.ptr os.length 0 0),(8,aaa lb.length),(9,.ref z.2.2.1 2 0 z.2.2.2.length),(35,.ref (E.getD c default).1 2 0 row.length),(36,aaa row.length),(37,aaa z.1)],z.2.1⟩:St))
    (λz=>z.1<=row.length/\iL (os++[.var (aQ p)]) z.2.1/\z.2.1[z.2.2.1]?=some (.arr 2 (rowsOf bq z.2.2.2))/\os.length<z.2.2.1/\z.2.2.2=ki (row.take z.1) (pb.take z.1)/\z.2.2.2.length<=z.1)
    (λz=>row.length - z.1) (0,(os++[.var (aQ p)])++[.arr 2 []],(os++[Ob.var (aQ p)]).length,[]) ⟨aF _,(iL.refl _).app _,kj _ _ _,G9,rfl,aR _⟩ ?_ ?_
  · refine ay.trans (ay.nil 9 2 (by simp only[Kc,simprocAttr]) Kq) ?_
    exact Xv (X2 @A2 @tz)
  rintro ⟨i,ob,ti,xs⟩ ⟨hi,bS,fS,lC,dj,qU⟩ Ql ak ar
  dsimp only at hi bS fS lC dj qU ⊢
  have r1:=bS _ _ (qe [.var (aQ p)])
  have rv:ob[os.length]?=some (.var (aQ p)):=bS _ _ (kj _ _ _)
  have Jw:=bf r1
  have erv:=bf rv
  have ta:=bf fS
  have F2:=gz fS
  have Gb:=(aY.1 fS).1
  have cF:=bS.len
  rw[bQ,rj] at cF
  by_cases hi':i<row.length
  · have h1:=eJ hi'
    have h2:=eJ (l:=pb) (k:=i) G3
    have h3:=M1 (row.getD i default) (pb.getD i default) (row.take i) (pb.take i) (by rw[fy,fy];omega)
    rw[<- h1,<- h2,<- dj] at h3
    have tY:pb.getD i default=(la.getD (i / lb.length) false && lb.getD (i % lb.length) false):=hbg i G3
    rw[tY] at h3
    have aav:0<lb.length:=by
      rcases Nat.eq_zero_or_pos lb.length with h0 | h0
      · rw[h0,Nat.mul_zero] at w7;omega
      · exact h0
    have hdiv:i / lb.length<la.length:=by rw[Nat.div_lt_iff_lt_mul aav];omega
    have y9:=Nat.mod_lt i aav
    have hq:((i:Int).tdiv lb.length)=((i / lb.length:Nat):Int):=by rw[Int.tdiv_eq_ediv_of_nonneg G3];simp
    have hr:((i:Int).tmod lb.length)=((i % lb.length:Nat):Int):=by rw[Int.tmod_eq_emod_of_nonneg G3];simp
    have w8:((i:Int) / (lb.length:Int))=((i / lb.length:Nat):Int):=G9
    have fB:((i:Int) % (lb.length:Int))=((i % lb.length:Nat):Int):=G9
    generalize hdd:i / lb.length=dd at *
    generalize vp:i % lb.length=mm at *
    generalize pj:row.getD i default=q at *
    generalize Eo:la.getD dd false=ia at *
    generalize LJ:lb.getD mm false=ib at *
    have N':rowsOf bq xs++[[AV.lit (.int .i64 q.1),.lit (.bool q.2)]]=rowsOf bq (xs++[q]):=by simp[rowsOf,bq]
    cases ia<;>cases ib
    all_goals
      simp only[jE,eX,ju,if_false,if_true,ic] at h3
      ((repeat' (first|refine Va (X5 @r1 @Jw @rv @erv (X5 @fS @ta @F2 @bq.eq_1 (X5 @aQ.eq_1 @pj @F9 @Ga (X5 @hq @hr @w8 @fB (X5 @Eo @LJ @aT.eq_1 @N' (X5 @cD @Int.toNat_natCast @cY.{0} @bQ.{0} @bw.{0})))))) ?_|(refine Xi ?_ ?_<;>try intro ht)|exact Xx|fail)))
    all_goals first
      | (refine ak _ (i+1,ob++[.var (bq q)],ti,xs) ⟨Kw,bS.app _,ta _,lC,h3.symm,Kw⟩ Kw ?_
         exact Xv @bq.eq_1;done)
      | (refine ak _ (i+1,ob.set ti .gone++[.var (bq q),.arr 2 [bq q],.arr 2 (rowsOf bq (xs++[q]))],ob.length+2,xs++[q]) ⟨Kw,(bS.set (by rw[bQ,rj];omega)).app _,yb _ _ _ _ _,Kw,h3.symm,PX⟩ Kw ?_
         exact Xv @bq.eq_1;done)
  · rw[ej G3,ej G3] at dj
    ((repeat' (first|refine Va X0 ?_|(refine Xi ?_ ?_<;>try intro ht)|exact Xx|fail)))
    refine ar _ _ rfl ?_;clear ak ar Ql
    repeat (refine Xu ?_)
    refine Vb X0 ?_
    unfold gR
    simp only[eQ,eG]
    simp (disch:=omega) only[Ac,↓Pc,simprocAttr]
    rw[<- dj]
    refine⟨_,ob,⟨λk o hk=>bS k o (bf hk _),ti,rfl,fS⟩,ey rfl G3 rfl⟩
end T

