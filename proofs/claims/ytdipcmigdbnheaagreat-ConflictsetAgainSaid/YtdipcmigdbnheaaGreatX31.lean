import Derived.Test.YtdipcmigdbnheaaGreatX30
set_option linter.all false
set_option maxHeartbeats 0
set_option maxRecDepth 20000
open Nat renaming zero_le→aQ,le_refl→aG,eq_zero_or_pos→mr,sub_self→lV,mul_le_mul→zb,le_trans→iM
open List renaming map_cons→dJ,cons_append→cW,nil_append→da,drop_eq_nil_of_le→cU,map_nil→lX,append_nil→gb,getElem?_append_left→cd,length_set→bE,getElem?_set_ne→bj,range→aN,take_of_length_le→fP,eq_nil_of_length_eq_zero→oO,append_assoc→dC,length_append→bR,getElem?_eq_some_iff→aM,getElem?_append_right→eu
open And renaming intro→gB
open Go Go.Am Go.Proofs
namespace T
def AS{σ:St}{kp:Nat->Prop}{ρ:Nat->Nat}(e:Int):aE σ kp ρ true (.bO [.agg (av Dq),aa3 e]) (.bO [.agg [.lit (.slice none 0 0),.lit (.slice none 0 0),.lit (.slice none 0 0),aa3 0],aa3 e]) :=
 .qF (.agg _ _ rfl (dS.spec (R:=aE σ kp ρ true) (cs:=av Dq) (ds:=[.lit (.slice none 0 0),.lit (.slice none 0 0),.lit (.slice none 0 0),aa3 0]) ⟨.nil,.nil,.nil,.pure rfl,trivial⟩).2) (.pure rfl)
def Vl{m:aj}(hm:VM m){l:List br}(hl:l∈m.cls){o:br}(ho:o∈l):o.ch.length<=56/\∀ c∈o.ch,0<=c.1/\c.1<m.rules:=by
 have h:=hm.kQ l hl o ho;refine⟨by have:=C5 hm.iS.1 h;have:=hm.iS;omega,λc hc=>?_⟩;have:=(u9 h c hc).1;rwa [ij,decide_eq_true_eq]at this
def IQ{m:aj}(h:VM m){p:Pr}(hp:p∈m.ae):p.ay.length<=576:=by
 obtain⟨_,h1,h2,h3,h4⟩:=lr (jo h.pr p hp);have a:=h.opt _ (aC (l:=m.cls) (i:=p.fst.toNat) (d:=default) I6);have b:=h.opt _ (aC (l:=m.cls) (i:=p.snd.toNat) (d:=default) I6);have:((m.cls.getD p.fst.toNat default).length:Int)*(m.cls.getD p.snd.toNat default).length<=24*24:=Int.mul_le_mul I6 I6 I6 I6;omega
def ad1(aw:List Bool)(o:br):(jF aw o).wk=o.wk/\(jF aw o).day=o.day/\(jF aw o).st=o.st/\(jF aw o).len=o.len/\(jF aw o).room=o.room/\(jF aw o).ch=o.ch.filter λc=>dj aw c.1:=⟨rfl,rfl,rfl,rfl,rfl,rfl⟩
def oM(m:aj)(aw:List Bool)(cls:List (List br)):List Ob :=
 [.var (av m),.var [.tree 1 (aY aw)],.var [.lit (.slice none 0 0),.lit (.slice none 0 0),.lit (.slice none 0 0),aa3 0],
  .var [.ref 4 1 0 cls.length,.lit (.slice none 0 0),.lit (.slice none 0 0),aa3 m.rules],.arr 1 (rowsOf bD cls)]
def Zc(m:aj)(aw:List Bool)(hb:MB m)(hk:aw.length<9223372036854775808):an Tryz.prog 69 [.agg (av m),.tree 1 (aY aw)] [] (.bO [.agg (av (p7 m aw).1),aa3 (p7 m aw).2]) []:=by
 generalize ao:p7 m aw=res;unfold p7 at ao;have hval:=p5 m hb;by_cases hv:eJ m=0;rotate_left
 ·rw[if_pos hv]at ao;subst ao;refine an.aF 72 0 [.cell 4 29,.tmp 5] Tryz.func69 ?_;((try revert hK K);(repeat'(first|refine Vd X0 hval ?_|(refine V2 X0 ?_ ?_<;>try with_reducible intro hb)|(refine Xi ?_ ?_<;>try intro ht)|refine VD ?_ ?_|exact Xx|fail))<;>try with_reducible intro K hK)
  all_goals try(exfalso;omega)
  simp(disch:=omega)only[Ac,↓Pc,simprocAttr];exact du [] true aab trivial aab aab (AS _)
 rw[if_neg I6]at ao;rw[hv]at hval;by_cases cr:(aw.length:Int)=m.rules;rotate_left
 ·rw[if_pos cr]at ao;subst ao;refine an.aF 72 0 [.cell 4 29,.tmp 5] Tryz.func69 ?_;((try revert hK K);(repeat'(first|refine Vd X0 hval ?_|(refine V2 X0 ?_ ?_<;>try with_reducible intro hb)|(refine Xi ?_ ?_<;>try intro ht)|refine VD ?_ ?_|exact Xx|fail))<;>try with_reducible intro K hK)
  all_goals try(exfalso;omega)
  simp(disch:=omega)only[Ac,↓Pc,simprocAttr];exact du [] true aab trivial aab aab (AS _)
 rw[if_neg I6]at ao;have hm:=fc.1 hv;have Ar:=hm.cls;have mL:=ZD aw m.ae (by have:=hm.ae;omega) (λc hc=>by have:=lr (jo hm.pr c hc);omega) (λc hc=>by have:=IQ hm hc;omega);have pd:=ZG aw m.ar (by have:=hm.ar;omega) (λc hc=>by have:=lp (hm.ct c hc);omega) (λc hc=>by have:=Al hm (lp (hm.ct c hc)).2.2.2;omega);unfold fX at ao;generalize gK:(m.cls.map λl=>l.map (jF aw))=IN at *;generalize (m.ae.filter λp=>dj aw p.aV)=Vj at *;generalize (m.ar.filter λc=>dj aw c.aV)=Vk at *;subst ao;refine an.aF 72 0 [.cell 4 29,.tmp 5] Tryz.func69 ?_;((try revert hK K);(repeat'(first|refine Vd X0 hval ?_|(refine V2 X0 ?_ ?_<;>try with_reducible intro hb)|(refine Xi ?_ ?_<;>try intro ht)|refine VD ?_ ?_|exact Xx|fail))<;>try with_reducible intro K hK)
 all_goals try(exfalso;omega)
 refine aW (λz:Nat×List (List br)=>(⟨ax [(2,.ptr 0 0 0),(3,.ptr 1 0 0),(4,.ptr 2 0 0),(7,.ptr 3 0 0),(30,.tree 1 (rowsOf bD m.cls)),(31,aa3 m.cls.length),(32,aa3 z.1)],oM m aw z.2⟩:St))
  (λz=>z.1<=m.cls.length/\z.2.length=z.1/\z.2++(m.cls.drop z.1).map (λl=>l.map (jF aw))=IN) (λz=>m.cls.length-z.1) (0,[]) ⟨aQ _,rfl,gK⟩ (by
   refine aB.trans (aB.kN 3 0 1 rfl rfl aab) ?_;unfold oM;exact Xv X0) ?_
 rintro⟨i,cls⟩⟨hi,cy,cm⟩Ql aq au;dsimp only at hi cy cm ⊢;unfold oM;by_cases hi':i<m.cls.length
 ·have hd:=cS m.cls i default hi';have qd:=aC (d:=(default:List br)) hi';have vf:=hm.opt _ qd;generalize iT:m.cls.getD i default=l at *;rw[hd,dJ]at cm;generalize yl:l.map (jF aw)=IP at *;((try revert hK K);(repeat'(first|refine Va @iT ?_|(refine V2 @iT ?_ ?_<;>try with_reducible intro hb)|(refine Xi ?_ ?_<;>try intro ht)|refine VD ?_ ?_|exact Xx|fail))<;>try with_reducible intro K hK)
  refine aW (λz:Nat×List br=>(⟨ax [(2,.ptr 0 0 0),(3,.ptr 1 0 0),(4,.ptr 2 0 0),(7,.ptr 3 0 0),(30,.tree 1 (rowsOf bD m.cls)),(31,aa3 m.cls.length),(32,aa3 i),(10,.ref 5 6 0 z.2.length),(36,.tree 6 (rowsOf cw l)),(37,aa3 l.length),(38,aa3 z.1)],oM m aw cls++[.arr 6 (rowsOf cw z.2)]⟩:St))
   (λz=>z.1<=l.length/\z.2.length=z.1/\z.2++(l.drop z.1).map (jF aw)=IP) (λz=>l.length-z.1) (0,[]) ⟨aQ _,rfl,yl⟩ (by
    refine aB.trans (aB.nil 10 6 (by simp only[Kc,simprocAttr]) aab) ?_;unfold oM;exact Xv X0) ?_
  rintro⟨k,ol⟩⟨iK,iz,rG⟩eR bX bQ;dsimp only at iK iz rG ⊢;unfold oM;simp only[cW,da];by_cases aJ:k<l.length
  ·have sB:=cS l k default aJ;have dZ:=aC (d:=(default:br)) aJ;obtain⟨og,xU⟩:=Vl hm qd dZ;generalize me:l.getD k default=o at *;have bI:=ZA aw o.ch I6 (λc hc=>by have:=xU c hc;omega);rw[sB,dJ]at rG;((try revert hK K);(repeat'(first|refine Va @me ?_|(refine V2 @me ?_ ?_<;>try with_reducible intro hb)|(refine Xi ?_ ?_<;>try intro ht)|refine VD ?_ ?_|exact Xx|fail))<;>try with_reducible intro K hK)
   (refine Xn [1] (bI) ?_;simp(disch:=omega)only[Ac,↓Pc,simprocAttr,me])
   ((try revert hK K);(repeat'(first|refine Va X0 ?_|(refine V2 X0 ?_ ?_<;>try with_reducible intro hb)|(refine Xi ?_ ?_<;>try intro ht)|refine VD ?_ ?_|exact Xx|fail))<;>try with_reducible intro K hK)
   refine bX _ (k+1,ol++[jF aw o]) ⟨aaK,aaZ,by rw[<- rG];simp⟩ aaK ?_;have e:=jM (enc:=cw) ol (jF aw o);simp only[cw,ad1]at e;rw[e];unfold oM;simp only[cW,da];exact Xs false [0,1,2,3,4,8] X0
  ·((try revert hK K);(repeat'(first|refine Va X0 ?_|(refine V2 X0 ?_ ?_<;>try with_reducible intro hb)|(refine Xi ?_ ?_<;>try intro ht)|refine VD ?_ ?_|exact Xx|fail))<;>try with_reducible intro K hK)
   rw[cU I6,lX,gb]at rG;subst rG;refine bQ _ _ rfl ?_;clear bX bQ eR;repeat(first|refine Xu ?_)
   refine bP (σ':=⟨ax [(2,.ptr 0 0 0),(3,.ptr 1 0 0),(4,.ptr 2 0 0),(7,.ptr 3 0 0),(30,.tree 1 (rowsOf bD m.cls)),(31,aa3 m.cls.length),(32,aa3 i),(10,.tree 6 (rowsOf cw ol))],oM m aw cls⟩) (by unfold oM;exact Xs true [0,1,2,3,4] X0) ?_;unfold oM;((try revert hK K);(repeat'(first|refine Va X0 ?_|(refine V2 X0 ?_ ?_<;>try with_reducible intro hb)|(refine Xi ?_ ?_<;>try intro ht)|refine VD ?_ ?_|exact Xx|fail))<;>try with_reducible intro K hK)
   refine aq _ (i+1,cls++[ol]) ⟨aaK,aaZ,by rw[<- cm];simp⟩ aaK ?_;have e:=jM (enc:=bD) cls ol;simp only[bD]at e;rw[e];unfold oM;exact Xs false [0,1,2,3,6] X0
 ·((try revert hK K);(repeat'(first|refine Va X0 ?_|(refine V2 X0 ?_ ?_<;>try with_reducible intro hb)|(refine Xi ?_ ?_<;>try intro ht)|refine VD ?_ ?_|exact Xx|fail))<;>try with_reducible intro K hK)
  rw[cU I6,lX,gb]at cm;refine au _ _ rfl ?_;clear aq au Ql;repeat(first|refine Xu ?_)
  refine bP (σ':=⟨ax [(2,.ptr 0 0 0),(3,.ptr 1 0 0),(4,.ptr 2 0 0),(7,.ptr 3 0 0)],oM m aw cls⟩) (by unfold oM;exact Xv X0) ?_;unfold oM;refine bP (aB.sk 4 3 0 1 rfl rfl (by rw[bW];rfl) (eF _) (jh _)) ?_;((try revert hK K);(repeat'(first|refine Vb X0 ?_|(refine V2 X0 ?_ ?_<;>try with_reducible intro hb)|(refine Xi ?_ ?_<;>try intro ht)|refine VD ?_ ?_|exact Xx|fail))<;>try with_reducible intro K hK)
  (refine Xn [1] (mL) ?_;simp(disch:=omega)only[Ac,↓Pc,simprocAttr])
  ((try revert hK K);(repeat'(first|refine Vb X0 ?_|(refine V2 X0 ?_ ?_<;>try with_reducible intro hb)|(refine Xi ?_ ?_<;>try intro ht)|refine VD ?_ ?_|exact Xx|fail))<;>try with_reducible intro K hK)
  (refine Xn [1] (pd) ?_;simp(disch:=omega)only[Ac,↓Pc,simprocAttr])
  ((try revert hK K);(repeat'(first|refine Vb X0 ?_|(refine V2 X0 ?_ ?_<;>try with_reducible intro hb)|(refine Xi ?_ ?_<;>try intro ht)|refine VD ?_ ?_|exact Xx|fail))<;>try with_reducible intro K hK)
  simp(disch:=omega)only[Ac,↓Pc,simprocAttr];rw[<- cm];exact aO rfl rfl
def zM:List AV:=[.lit (.slice none 0 0),.lit (.slice none 0 0),.lit (.slice none 0 0),aa3 0]
def TwO(m:aj)(a b d:Nat)(os:List Ob):Prop :=
 ∃ h1 C l2 h2 C2,yM m.cls os a 1 h1 m.cls.length C/\AP m.ae os b l2 h2 m.ae.length C2/\a<l2/\os[d]?=some (.arr 4 (rowsOf aK m.ar))/\b<d
def Vn{w:Nat}{os:List Ob}{l r b:Nat}{X:List (List AV)}(h:os[b]?=some (.arr w X))(hl:l<=b)(hr:b<r)(hw:∀ row∈X,row.length=w):fL w os l r (.ref b w 0 X.length) X :=
 .inr ⟨b,[],rfl,hl,hr,by rw[gb];exact h,by rw[gb];exact hw⟩
def Vo{m:aj}(hm:VM m){c:List br}(hc:c∈m.cls){o:br}(ho:o∈c):o.ch.length<=100:=by
 have h:=hm.kQ c hc o ho;have hr:=hm.iS;cases eC:o.ch with
 |nil=>simp
 |cons x r =>
  rw[eC,db]at h;simp only[Bool.and_eq_true,decide_eq_true_eq,ij]at h;rcases Di h.2 with rfl|h2
  ·simp
  ·simp only[List.length_cons];omega
def eD.IS{m b:Nat}{ot:List Ob}(hb:m<=b)(hl:m<=ot.length)(y:Ob)(L:List Ob):eD 4 m ot ((ot.set b .gone).set 3 y++L):=λi h1 h2=>by
 rw[cd (by rw[bE,bE];omega),bj I6,bj I6]
def xg{α:Type}(f:Nat->α)(n:Nat):((aN n).map f).length=n:=Jd
def IT{α:Type}(f:Nat->α)(n:Nat):((aN n).map f).take n=(aN n).map f:=fP Jd
def ad3(m:aj)(hm:VM m):ez Tryz.prog 46 [.agg (av m)] [.var zM] (λr os=>os[0]?=some (.var zM)/\∃ a b d,r=.agg [.ref a 1 0 m.cls.length,.ref b 4 0 m.ae.length,.ref d 4 0 m.ar.length,aa3 m.rules]/\TwO m a b d os):=by
 have tE:=hm.cls;have ym:=hm.ae;have ht4:=hm.ar;unfold zM;refine ez.aF 83 1 [.cell 2 29] Tryz.func46 ?_;repeat'(first|((fail_if_success (first|refine eG 2 ?_|refine eH 2 ?_));refine Xr @av.eq_1 ?_;intro K hK)|(refine hK _ ?_;clear hK K)|refine Xy ?_|fail)
 refine bP (aB.oo 1 1 (cells:=av m) aa2 (by simp only[Kc,simprocAttr]) (by simp[av])) ?_;refine bP (aB.kN 3 0 1 aa2 rfl aab) ?_;refine bP (σ':=⟨ax [(1,.cq (av m)),(2,.ptr 2 0 0),(3,.ptr 3 0 0)],[.var zM,.gone,.var zM,.var [.ref 4 1 0 0,.lit (.slice none 0 0),.lit (.slice none 0 0),aa3 m.rules],.arr 1 []]⟩) (Xv X0) ?_;refine Va @av.eq_1 ?_;have Vp:∀ o:br,il o=[aa3 o.wk,aa3 o.day,aa3 o.st,aa3 o.len,aa3 o.room]:=λ_=>rfl;refine aW (λz:Nat×List Ob=>(⟨ax [(1,.cq (av m)),(2,.ptr 2 0 0),(3,.ptr 3 0 0),(17,.tree 1 (rowsOf bD m.cls)),(18,aa3 m.cls.length),(19,aa3 z.1)],z.2⟩:St))
  (λz=>z.1<=m.cls.length/\z.2[0]?=some (.var zM)/\z.2[2]?=some (.var zM)/\∃ a hi C,z.2[3]?=some (.var [.ref a 1 0 z.1,.lit (.slice none 0 0),.lit (.slice none 0 0),aa3 m.rules])/\yM m.cls z.2 a 4 hi z.1 C)
  (λz=>m.cls.length-z.1) (0,[.var zM,.gone,.var zM,.var [.ref 4 1 0 0,.lit (.slice none 0 0),.lit (.slice none 0 0),aa3 m.rules],.arr 1 []])
  ⟨aQ _,rfl,rfl,4,4,λ_=>.undef,rfl,cn.nil rfl 4 (aG _) _ _⟩ (Xv @av.eq_1) ?_
 rintro⟨i,os⟩⟨hi,f0,f2,a,x6,C,f3,hC⟩Ql aq au;dsimp only at hi f0 f2 f3 hC ⊢;by_cases hi':i<m.cls.length
 ·have gK:=aC (d:=default) hi';have vf:=hm.opt _ gK;have AW:=λo ho=>Vo hm gK (o:=o) ho;generalize bb:m.cls.getD i default=l at *;((repeat'(first|refine Va (X2 @bb @bD.eq_1) ?_|(refine Xi ?_ ?_<;>try intro ht)|exact Xx|fail)))
  refine aW (λz:Nat×Nat×List Ob=>(⟨ax [(1,.cq (av m)),(2,.ptr 2 0 0),(3,.ptr 3 0 0),(17,.tree 1 (rowsOf bD m.cls)),(18,aa3 m.cls.length),(19,aa3 i),(6,.ref z.2.1 6 0 z.1),(23,.tree 6 (rowsOf cw l)),(24,aa3 l.length),(25,aa3 z.1)],z.2.2⟩:St))
   (λz=>z.1<=l.length/\eD 0 os.length os z.2.2/\∃ hi C,cn 6 (λk=>tU (l.getD k default).ch) z.2.2 z.2.1 os.length hi z.1 (λk=>il (l.getD k default)) C)
   (λz=>l.length-z.1) (0,os.length,os++[.arr 6 []]) ⟨aQ _,eD.app (aG _) _ _,os.length,λ_=>.undef,cn.nil (lR _ _ _) _ (aG _) _ _⟩ ?_ ?_
  ·refine aB.trans (aB.nil 6 6 (by simp only[Kc,simprocAttr]) aab) ?_;exact Xv X0
  rintro⟨k,b,ot⟩⟨hk,jl,lH,C2,hR⟩eR bX bQ;dsimp only at hk jl hR ⊢;by_cases aJ:k<l.length
  ·have dZ:=aC (l:=l) (d:=default) aJ;have cy:=AW _ dZ;have j3:=hR.arr;have uc:=hR.len;have Ep:=hR.at_;have Er:=hR.qh;have xh:=λX v h2=>hR.app (λk=>DQ _) X (v:=v) uc (aG _) rfl h2;have eV:=xg (λk=>il (l.getD k default)++[C2 k]) k;have vA:=IT (λk=>il (l.getD k default)++[C2 k]) k;generalize nW:(aN k).map (λk=>il (l.getD k default)++[C2 k])=R at *;generalize me:l.getD k default=o at *;repeat'(first|((fail_if_success (first|refine eG 1 ?_|refine eH 1 ?_));refine Xr (X3 @me @dr @cw.eq_1) ?_;intro K hK)|(refine hK _ ?_;clear hK K)|(refine Xi ?_ ?_<;>try intro ht)|refine Xy ?_|refine Xd ?_ ?_|exact Xx|fail)
   refine bP (aB.oo 8 ot.length (cells:=cw o) (by simp(disch:=omega)only[Ac,↓Pc,simprocAttr,dr,cw]) (by simp only[Kc,simprocAttr]) (by simp[cw])) ?_;rw[yI];have gp:=bC j3;have fl:=λl y=>gP j3 l (y:=y);rcases mr o.ch.length with h0|h0
   ·have Bn:=oO h0;have jx:an Tryz.prog 89 [.tree 2 (rowsOf bz [])] [] (.tree 2 (rowsOf bz [])) []:=ZH;refine lg [2,4] (.take 0 (.take 3 (.take 4 (.both 1 (.take 2 (.take 5 (.take 6 (.take 7 (.take 8 (.take 9 .nil)))))) 5 (.take 1 (.take 2 (.take 6 (.take 7 (.take 8 (.take 9 .nil)))))))))) rfl aab (by decide +kernel) ?_;simp(disch:=omega)only[Ac,↓Pc,simprocAttr,Pw,↓Lq,cw,Bn];(with_reducible refine gB ?_ ?_)
    all_goals
     (refine Xn [] (jx) ?_;simp(disch:=omega)only[Ac,↓Pc,simprocAttr,Pw,↓Lq,dr,dC,bR,gp,fl,eV,vA])
     repeat'(first|with_reducible refine gB ?_ ?_|omega)
    all_goals
     repeat(refine Xu ?_)
     ((repeat'(first|refine Va X0 ?_|fail)))
     have hq:=xh [Ob.gone,Ob.arr 6 [il o++[AV.tree 2 (rowsOf bz [])]]] (AV.tree 2 (rowsOf bz [])) (λos' _=>by
      show tU o.ch _ _ _ _;rw[Bn];exact .inl ⟨rfl,rfl⟩)
     exact bX _ (k+1,ot.length+2,ot.set b Ob.gone++[Ob.gone,Ob.arr 6 [il o++[AV.tree 2 (rowsOf bz [])]],Ob.arr 6 (R++[il o++[AV.tree 2 (rowsOf bz [])]])]) ⟨aaK,jl.trans (eD.kill I6 uc _),_,_,hq⟩ aaK (Xv @Vp)
   ·have jx:=ZI o.ch h0 I6;refine lg [2,4] (.take 0 (.take 3 (.take 4 (.both 1 (.take 2 (.take 5 (.take 6 (.take 7 (.take 8 (.take 9 .nil)))))) 5 (.take 1 (.take 2 (.take 6 (.take 7 (.take 8 (.take 9 .nil)))))))))) rfl aab (by decide +kernel) ?_;simp(disch:=omega)only[Ac,↓Pc,simprocAttr,Pw,↓Lq,cw];(with_reducible refine gB ?_ ?_)
    all_goals
     (refine Xn [] (jx) ?_;simp(disch:=omega)only[Ac,↓Pc,simprocAttr,Pw,↓Lq,dr,dC,bR,gp,fl,eV,vA])
     repeat'(first|with_reducible refine gB ?_ ?_|omega)
    all_goals
     repeat(refine Xu ?_)
     ((repeat'(first|refine Va X0 ?_|fail)))
     have hq:=xh [Ob.gone,Ob.arr 2 (rowsOf bz o.ch),Ob.arr 6 [il o++[AV.ref (ot.length+1) 2 0 o.ch.length]]] (AV.ref (ot.length+1) 2 0 o.ch.length) (λos' iu=>by
      show fL 2 os' ot.length (ot.length+3) (.ref (ot.length+1) 2 0 o.ch.length) (rowsOf bz o.ch);rw[<- bW (enc:=bz)];refine Vn (b:=ot.length+1) ?_ I6 Jd (eF _);rw[iu _ I6 Jd,mU];rfl)
     exact bX _ (k+1,ot.length+3,ot.set b Ob.gone++[Ob.gone,Ob.arr 2 (rowsOf bz o.ch),Ob.arr 6 [il o++[AV.ref (ot.length+1) 2 0 o.ch.length]],Ob.arr 6 (R++[il o++[AV.ref (ot.length+1) 2 0 o.ch.length]])]) ⟨aaK,jl.trans (eD.kill I6 uc _),_,_,hq⟩ aaK (Xv @Vp)
  ·obtain rfl:k=l.length:=I6;have uc:=hR.len;have Ep:=hR.at_;have Er:=hR.qh;have Bo:=hC.len;have Vq:=hC.at_;have ad5:=hC.qh;have Vr:=(aM.1 f3).1;have k0:ot[0]?=some (.var zM):=(jl 0 I6 I6).trans f0;have k2:ot[2]?=some (.var zM):=(jl 2 I6 I6).trans f2;have k3:ot[3]?=some (.var [.ref a 1 0 i,.lit (.slice none 0 0),.lit (.slice none 0 0),aa3 m.rules]):=(jl 3 I6 Vr).trans f3;have Vs:yM m.cls ot a 4 x6 i C:=cn.same (λc=>sM _) hC (jl.mono I6 I6) (jl a I6 Bo);have xh:=λX v h2=>cn.app (λc=>sM _) Vs X (v:=v) (l0:=os.length) Bo I6 rfl h2;have j3:=Vs.arr;have eV:=xg (λk=>([]:List AV)++[C k]) i;have vA:=IT (λk=>([]:List AV)++[C k]) i;generalize nW:(aN i).map (λk=>([]:List AV)++[C k])=R at *;have gp:=bC j3;have fl:=λl y=>gP j3 l (y:=y);have k7:(ot.set a .gone)[3]?=_:=(bj I6).trans k3;have cr:=bC k3;have xi:=bC k7;have xj:=λl y=>gP k7 l (y:=y);((repeat'(first|refine Va X0 ?_|(refine Xi ?_ ?_<;>try intro ht)|exact Xx|fail)))
   refine bQ _ _ rfl ?_;clear bX bQ;repeat(refine Xu ?_)
   refine Va (X5 @dr @dC.{0} @bR.{0} @gp (X5 @fl @eV @vA @k3 (X4 @k7 @cr @xi @xj))) ?_;have hq:=xh [Ob.arr 1 [[AV.ref b 6 0 l.length]]] (AV.ref b 6 0 l.length) (λos' iu=>by
    show tW (m.cls.getD i default) os' os.length (ot.length+1) (.ref b 6 0 l.length);rw[bb];have jc:∀ j,os.length<=j->j<ot.length->os'[j]?=ot[j]?:=λj h1 h2=>(iu j h1 I6).trans (cd h2);exact⟨b,lH,C2,rfl,I6,hR.same (λk=>DQ _) (λj h1 h2=>jc j h1 I6) (jc b I6 uc)⟩)
   have sO:=cn.AO (λc=>sM _) hq (q:=3) I6 (Ob.var [.ref (ot.length+1) 1 0 (i+1),.lit (.slice none 0 0),.lit (.slice none 0 0),aa3 m.rules]);rw[gP k7]at sO;exact aq _ (i+1,(ot.set a Ob.gone).set 3 (Ob.var [.ref (ot.length+1) 1 0 (i+1),.lit (.slice none 0 0),.lit (.slice none 0 0),aa3 m.rules])++[Ob.arr 1 [[AV.ref b 6 0 l.length]],Ob.arr 1 (R++[[AV.ref b 6 0 l.length]])])
    ⟨aaK,bC ((bj I6).trans ((bj I6).trans k0)) _,bC ((bj I6).trans ((bj I6).trans k2)) _,ot.length+1,_,_,bC (iH k7) _,sO⟩ aaK (Xv @av.eq_1)
 obtain rfl:i=m.cls.length:=I6;have Bo:=hC.len;have Vq:=hC.at_;have ad5:=hC.qh;have Vr:=(aM.1 f3).1;((repeat'(first|refine Va X0 ?_|(refine Xi ?_ ?_<;>try intro ht)|exact Xx|fail)))
 refine au _ _ rfl ?_;clear aq au Ql;repeat(refine Xu ?_)
 refine Va @av.eq_1 ?_;refine bP (aB.kN 3 1 4 f3 rfl aab) ?_;rw[gP f3];have sh:∀ Y:Ob,(os.set 3 Y++[Ob.arr 4 []])[os.length]?=some (.arr 4 []):=λY=>by
  rw[eu (by rw[bE];exact aG _),bE,lV];rfl
 have tA:∀ Y:Ob,eD 4 os.length os (os.set 3 Y++[Ob.arr 4 []]):=λY j h1 h2=>by
  rw[cd (by rw[bE];exact h2),bj I6]
 refine aW (λz:Nat×List Ob=>(⟨ax [(1,.cq (av m)),(2,.ptr 2 0 0),(3,.ptr 3 0 0),(47,.tree 4 (rowsOf bu m.ae)),(48,aa3 m.ae.length),(49,aa3 z.1)],z.2⟩:St))
  (λz=>z.1<=m.ae.length/\z.2[0]?=some (.var zM)/\z.2[2]?=some (.var zM)/\eD 4 os.length os z.2/\∃ b hi C,z.2[3]?=some (.var [.ref a 1 0 m.cls.length,.ref b 4 0 z.1,.lit (.slice none 0 0),aa3 m.rules])/\AP m.ae z.2 b os.length hi z.1 C)
  (λz=>m.ae.length-z.1) (0,os.set 3 (.var [.ref a 1 0 m.cls.length,.ref os.length 4 0 0,.lit (.slice none 0 0),aa3 m.rules])++[Ob.arr 4 []])
  ⟨aQ _,bC ((bj I6).trans f0) _,bC ((bj I6).trans f2) _,tA _,os.length,os.length,λ_=>.undef,bC (iH f3) _,cn.nil (sh _) _ (aG _) _ _⟩ (Xv @av.eq_1) ?_
 rintro⟨i,ot⟩⟨hi,k0,k2,jl,b,lH,C2,k3,hP⟩Ql aq au;dsimp only at hi k0 k2 jl k3 hP ⊢;by_cases hi':i<m.ae.length
 ·have w5:=aC (l:=m.ae) (d:=default) hi';have cE:=IQ hm w5;have uc:=hP.len;have Ep:=hP.at_;have Er:=hP.qh;have xh:=λX v h2=>cn.app (λc=>tV _) hP X (v:=v) uc (aG _) rfl h2;have j3:=hP.arr;have eV:=xg (λk=>iY (m.ae.getD k default)++[C2 k]) i;have vA:=IT (λk=>iY (m.ae.getD k default)++[C2 k]) i;generalize nW:(aN i).map (λk=>iY (m.ae.getD k default)++[C2 k])=R at *;generalize cG:m.ae.getD i default=p at *;have Vt:∀ p:Pr,iY p=[aa3 p.fst,aa3 p.snd,aa3 p.aV]:=λ_=>rfl;have gp:=bC j3;have fl:=λl y=>gP j3 l (y:=y);have k7:(ot.set b .gone)[3]?=_:=(bj I6).trans k3;have cr:=bC k3;have xi:=bC k7;have xj:=λl y=>gP k7 l (y:=y);rcases mr p.ay.length with h0|h0
  ·have ht0:=oO h0;have jx:=NN [] aab;((repeat'(first|refine Vc (X5 @cG @bu.eq_1 @ht0 @dr (X5 @dC.{0} @bR.{0} @gp @fl (X5 @eV @vA @k3 @k7 (X3 @cr @xi @xj)))) jx ?_|(refine Xi ?_ ?_<;>try intro ht)|exact Xx|fail)))
   have hq:=xh [Ob.var (iY p++[AV.tree 1 (ints [])]),Ob.arr 4 [iY p++[AV.tree 1 (ints [])]]] (AV.tree 1 (ints [])) (λos' _=>by
    show sL p.ay _ _ _ _;rw[ht0];exact .inl ⟨rfl,rfl⟩)
   have sO:=cn.AO (λc=>tV _) hq (q:=3) I6 (Ob.var [.ref a 1 0 m.cls.length,.ref (ot.length+2) 4 0 (i+1),.lit (.slice none 0 0),aa3 m.rules]);rw[gP k7]at sO;exact aq _ (i+1,(ot.set b Ob.gone).set 3 (Ob.var [.ref a 1 0 m.cls.length,.ref (ot.length+2) 4 0 (i+1),.lit (.slice none 0 0),aa3 m.rules])++[Ob.var (iY p++[AV.tree 1 (ints [])]),Ob.arr 4 [iY p++[AV.tree 1 (ints [])]],Ob.arr 4 (R++[iY p++[AV.tree 1 (ints [])]])])
    ⟨aaK,bC ((bj I6).trans ((bj I6).trans k0)) _,bC ((bj I6).trans ((bj I6).trans k2)) _,jl.trans (eD.IS I6 I6 _ _),ot.length+2,_,_,bC (iH k7) _,sO⟩ aaK (Xv (X2 @av.eq_1 @Vt))
  ·have jx:=NM p.ay h0 I6;((repeat'(first|refine Va (X5 @cG @bu.eq_1 @dr @dC.{0} (X5 @bR.{0} @gp @fl @eV (X5 @vA @k3 @k7 @cr (X2 @xi @xj)))) ?_|(refine Xi ?_ ?_<;>try intro ht)|exact Xx|fail))<;>try with_reducible intro K hK)
   (refine Xn [] (jx) ?_;simp(disch:=omega)only[Ac,↓Pc,simprocAttr,dr,dC,bR])
   ((try revert hK K);((refine Va (X5 @cG @bu.eq_1 @dr @dC.{0} (X5 @bR.{0} @gp @fl @eV (X5 @vA @k3 @k7 @cr (X2 @xi @xj)))) ?_)))
   have hq:=xh [Ob.var (iY p++[AV.ref (ot.length+1) 1 0 p.ay.length]),Ob.arr 1 (ints p.ay),Ob.arr 4 [iY p++[AV.ref (ot.length+1) 1 0 p.ay.length]]] (AV.ref (ot.length+1) 1 0 p.ay.length) (λos' iu=>by
    show fL 1 os' ot.length (ot.length+3) (.ref (ot.length+1) 1 0 p.ay.length) (ints p.ay);rw[<- ni p.ay];refine Vn (b:=ot.length+1) ?_ I6 I6 (pO _);rw[iu _ I6 Jd,mU];rfl)
   have sO:=cn.AO (λc=>tV _) hq (q:=3) I6 (Ob.var [.ref a 1 0 m.cls.length,.ref (ot.length+3) 4 0 (i+1),.lit (.slice none 0 0),aa3 m.rules]);rw[gP k7]at sO;exact aq _ (i+1,(ot.set b Ob.gone).set 3 (Ob.var [.ref a 1 0 m.cls.length,.ref (ot.length+3) 4 0 (i+1),.lit (.slice none 0 0),aa3 m.rules])++[Ob.var (iY p++[AV.ref (ot.length+1) 1 0 p.ay.length]),Ob.arr 1 (ints p.ay),Ob.arr 4 [iY p++[AV.ref (ot.length+1) 1 0 p.ay.length]],Ob.arr 4 (R++[iY p++[AV.ref (ot.length+1) 1 0 p.ay.length]])])
    ⟨aaK,bC ((bj I6).trans ((bj I6).trans k0)) _,bC ((bj I6).trans ((bj I6).trans k2)) _,jl.trans (eD.IS I6 I6 _ _),ot.length+3,_,_,bC (iH k7) _,sO⟩ aaK (Xv (X2 @av.eq_1 @Vt))
 obtain rfl:i=m.ae.length:=I6;have uc:=hP.len;have Ep:=hP.at_;have Er:=hP.qh;have afp:=(aM.1 k3).1;((repeat'(first|refine Va X0 ?_|(refine Xi ?_ ?_<;>try intro ht)|exact Xx|fail)))
 refine au _ _ rfl ?_;clear aq au Ql;repeat(refine Xu ?_)
 refine Va @av.eq_1 ?_;refine bP (aB.kN 3 2 4 k3 rfl aab) ?_;rw[gP k3];have sh:∀ Y:Ob,(ot.set 3 Y++[Ob.arr 4 []])[ot.length]?=some (.arr 4 []):=λY=>by
  rw[eu (by rw[bE];exact aG _),bE,lV];rfl
 have tA:∀ Y:Ob,eD 4 ot.length ot (ot.set 3 Y++[Ob.arr 4 []]):=λY j h1 h2=>by
  rw[cd (by rw[bE];exact h2),bj I6]
 refine aW (λz:Nat×List Ob=>(⟨ax [(1,.cq (av m)),(2,.ptr 2 0 0),(3,.ptr 3 0 0),(65,.tree 4 (rowsOf aK m.ar)),(66,aa3 m.ar.length),(67,aa3 z.1)],z.2⟩:St))
  (λz=>z.1<=m.ar.length/\z.2[0]?=some (.var zM)/\z.2[2]?=some (.var zM)/\eD 4 ot.length ot z.2/\∃ d,z.2[3]?=some (.var [.ref a 1 0 m.cls.length,.ref b 4 0 m.ae.length,.ref d 4 0 z.1,aa3 m.rules])/\ot.length<=d/\z.2[d]?=some (.arr 4 (rowsOf aK (m.ar.take z.1))))
  (λz=>m.ar.length-z.1) (0,ot.set 3 (.var [.ref a 1 0 m.cls.length,.ref b 4 0 m.ae.length,.ref ot.length 4 0 0,aa3 m.rules])++[Ob.arr 4 []])
  ⟨aQ _,bC ((bj I6).trans k0) _,bC ((bj I6).trans k2) _,tA _,ot.length,bC (iH k3) _,aG _,sh _⟩ (Xv @av.eq_1) ?_
 clear tA sh;rintro⟨i,oc⟩⟨hi,g0,g2,lG,d,g3,hd,gd⟩Ql aq au;dsimp only at hi g0 g2 lG g3 gd ⊢;have wX:=(aM.1 gd).1;by_cases hi':i<m.ar.length
 ·have gK:=aC (l:=m.ar) (d:=default) hi';have xX:(m.ar.getD i default).aS.length<549755813888:=by
   obtain⟨_,_,_,h4⟩:=lp (hm.ct _ gK);have:=Al hm h4;omega
  have ey:=iB hi';have yR:(rowsOf aK (m.ar.take i)).length=i:=by rw[bW,List.length_take];omega
  have ua:(rowsOf aK (m.ar.take i)).take i=rowsOf aK (m.ar.take i):=fP I6;have nf:=jM (enc:=aK) (m.ar.take i) (m.ar.getD i default);rw[<- ey]at nf;generalize hR:rowsOf aK (m.ar.take i)=R at *;generalize bb:m.ar.getD i default=c at *;have jx:=NO c.aS xX;have gp:=bC gd;have fl:=λl y=>gP gd l (y:=y);have k7:(oc.set d .gone)[3]?=_:=(bj I6).trans g3;have cr:=bC g3;have xi:=bC k7;have xj:=λl y=>gP k7 l (y:=y);((repeat'(first|refine Vc (X5 @bb @aK.eq_1 @dr @dC.{0} (X5 @bR.{0} @gp @fl @yR (X5 @ua @g3 @k7 @cr (X2 @xi @xj)))) jx ?_|(refine Xi ?_ ?_<;>try intro ht)|exact Xx|fail)))
  refine aq _ (i+1,(oc.set d Ob.gone).set 3 (Ob.var [.ref a 1 0 m.cls.length,.ref b 4 0 m.ae.length,.ref (oc.length+2) 4 0 (i+1),aa3 m.rules])++[Ob.var (aK c),Ob.arr 4 [aK c],Ob.arr 4 (R++[aK c])])
   ⟨aaK,bC ((bj I6).trans ((bj I6).trans g0)) _,bC ((bj I6).trans ((bj I6).trans g2)) _,lG.trans (eD.IS I6 I6 _ _),oc.length+2,bC (iH k7) _,I6,?_⟩ aaK (Xv (X2 @av.eq_1 @aK.eq_1))
  rw[eu (by rw[bE,bE];omega),bE,bE,Nat.add_sub_cancel_left,<- nf];rfl
 obtain rfl:i=m.ar.length:=I6;rw[List.take_length]at gd;((repeat'(first|refine Va X0 ?_|(refine Xi ?_ ?_<;>try intro ht)|exact Xx|fail)))
 refine au _ _ rfl ?_;clear aq au Ql;repeat(refine Xu ?_)
 refine Va (X3 @g3 @g2 @zM.eq_1) ?_;have g2s:=λy=>iH (y:=y) g2;unfold fJ;simp only[dQ,dK];simp(disch:=omega)only[Ac,↓Pc,simprocAttr,g2s];have afq:=(aM.1 g3).1;have e1:=cn.same (λc=>sM _) hC (jl.mono (aG _) I6) (jl a I6 Bo);have e2:=cn.same (λc=>sM _) e1 (lG.mono (aG _) I6) (lG a I6 I6);have e3:=cn.same (λc=>tV _) hP (lG.mono I6 I6) (lG b I6 uc);refine⟨_,_,⟨(bj I6).trans g0,a,b,d,rfl,x6,C,os.length,lH,C2,cn.low (cn.AO (λc=>sM _) e2 I6 _) I6,cn.AO (λc=>tV _) e3 I6 _,Bo,(bj I6).trans gd,I6⟩,fB rfl ?_ rfl⟩;rw[bE];omega
def Vu:∀ (l:List (List br)) (n:Nat),rA l n<=((n*kX l:Nat):Int)
 |[],n=>by rw[rA,kX,Nat.mul_one];exact Int.le_refl _
 |c::r,n=>by
  rw[rA];split
  ·exact Int.natCast_nonneg _
  ·rw[show(min ((n:Int)*c.length) 65537:Int)=((min (n*c.length) 65537:Nat):Int) by rw[<- Int.natCast_mul];omega];refine Int.le_trans (Vu r _) (Int.ofNat_le.2 ?_);rw[kX,<- Nat.mul_assoc];exact Nat.mul_le_mul_right _ (Nat.min_le_left _ _)
def IU{w:Nat}(hw:1<=w):∀ (l:List (List br)) (k:Nat),l.length<=k->(∀ x∈l,x.length<=w)->kX l<=w^k
 |[],k,_,_=>Nat.pow_pos hw
 |c::r,0,h,_=>by simp at h
 |c::r,k+1,h,hx=>by
  rw[kX,Nat.pow_succ,Nat.mul_comm (w^k)];exact zb (hx c Jd) (IU hw r k (by simpa using h) λx h1=>hx x (by simp[h1]))
def Vv(x:List br):∀ l:List (List br),kX (l++[x])=kX l*x.length
 |[]=>by show x.length*1=1*x.length;omega
 |c::r=>by rw[cW,kX,kX,Vv x r,Nat.mul_assoc]
def Vw{m:aj}(k:Nat)(h:kX m.cls<=k):fo m<=k:=by
 unfold fo;split
 ·have:=Vu m.cls 1;rw[show((1:Nat):Int)=1 from rfl,Nat.one_mul]at this;omega
 ·exact Int.natCast_nonneg k
structure TM(m:aj):Prop where
 om:OM m
 nG:VM m->fo m<=1000
def Is.tm{m m':aj}{q:Nat}(hm:MM m 3 3)(hq:q<=24)(h:Is q m m'):TM m':=⟨h.om.mono I6,λhv=>Vw 1000 (by
 have h3:=IU (w:=3) aab m.cls 3 hm.nG λx hx=>(hm.some x hx).2;rcases h.cl with e|⟨x,e⟩
 ·rw[e];omega
 ·have hx:x.length<=24:=hv.opt x (by rw[e];simp);rw[e,Vv];exact iM (zb h3 hx) aab)⟩
def FW.tm{m:aj}(h:FW m){xs:List Pr}(hx:xs.length=m.ae.length)(ht:∀ p∈xs,p.ay.length<=576)(r:Int):TM ⟨m.cls,xs,m.ar,r⟩:=⟨(kc.ae (l:=xs) h.vm.om (by have:=h.vm.ae;omega) λp hp=>by have:=ht p hp;omega).rules r,λ_=>Vw 1000 (iM (IU aab m.cls 4 h.nG h.opt) aab)⟩
def YW(L:List Int)(k:Nat)(hk:k<=L.length)(hL:L.length<1000000):
  ez Tryz.prog 28 [.ptr 0 0 0] [jm L k] (λr os=>∃ m k',TM m/\k'<=L.length/\r=.agg (av m)/\os=[jm L k']):=by
 have jD:=yq L k 9 (by unfold fx;omega) I6 hk hL;have bK:=fY hk;generalize wO L k 9=bo at *;generalize cO L k=k2 at *;clear hk;unfold jm at *;refine ez.aF 51 1 [.cell 2 29] Tryz.func28 ?_;((refine Va X0 ?_)<;>try with_reducible intro K hK)
 (refine Xn [0] (jD) ?_;simp(disch:=omega)only[Ac,↓Pc,simprocAttr])
 have yY:∀ (env:Nat->AV) (m:aj) (k':Nat) (os:List Ob) (v:AV),TM m->k'<=L.length->env 2=.ptr 1 0 0->os[0]?=some (.var [.tree 1 (ints L),aa3 k'])->os[1]?=some (.var [.tree 1 (rowsOf bD m.cls),v,.tree 4 (rowsOf aK m.ar),aa3 m.rules])->(v=.tree 4 (rowsOf bu m.ae)\/∃ q,v=.ref q 4 0 m.ae.length/\q≠0/\os[q]?=some (.arr 4 (rowsOf bu m.ae))) ->
   fJ Tryz.prog 1 [.cell 2 29] (λr os=>∃ m k',TM m/\k'<=L.length/\r=.agg (av m)/\os=[.var [.tree 1 (ints L),aa3 k']]) .ret ⟨env,os⟩:=by
  intro env m k' os v dZ aJ sg h0 h1 hv;have hl0:=(aM.1 h0).1;have Ck:b7 v=true:=by rcases hv with rfl|⟨q,rfl,_⟩<;>rfl
  unfold fJ;simp only[dQ,dK,sg];simp(disch:=omega)only[Ac,↓Pc,simprocAttr,sg,h1,Ck];refine⟨_,_,⟨m,k',dZ,aJ,rfl,rfl⟩,?_⟩;refine du [0] true aab ⟨⟨hl0,.inr (by rw[h0];rfl)⟩,trivial⟩ aab (λi hi=>by
   obtain rfl:i=0:=I6;rfl) ?_
  refine(aE.agg _ _ rfl (dS.spec (R:=aE _ _ _ _) (cs:=av m) (ds:=[.tree 1 (rowsOf bD m.cls),v,.tree 4 (rowsOf aK m.ar),aa3 m.rules]) ⟨.pure rfl,?_,.pure rfl,.pure rfl,trivial⟩).2);rcases hv with rfl|⟨q,rfl,Iw,hq⟩
  ·exact .pure rfl
  ·exact aE.bS hq (eF _) (by rw[bW]) (gG (by simpa using Iw)) (jh _)
 repeat'(first|(refine hK _ ?_;clear hK K)|(refine Xi ?_ ?_<;>try intro ht)|refine Xy ?_|fail)
 ·have uK:=abF L k2 3 3 bK hL aab aab aab;unfold jm at uK;refine YH 2 0 aab _ _ rfl rfl ?_;intro K hK;simp(disch:=omega)only[Ac,↓Pc,simprocAttr,List.take,List.drop];refine⟨rfl,(show ma Tryz.prog 26 [.ptr 0 0 0,aa3 (3:Nat),aa3 (3:Nat)] (some 11) _ _ from ?_)⟩;refine zY [0] uK aab ⟨rfl,trivial⟩ ⟨.eq rfl,.pure rfl,.pure rfl,trivial⟩ ?_;rintro r os⟨m,k,hm,hk,rfl,rfl⟩;have tM:=hm;have Vx:=adf 24 (aG _) L k m hm.vm hm.vm.cls hk hL;unfold jm at Vx;simp(disch:=omega)only[Ac,↓Pc,simprocAttr];refine⟨rfl,(show ma Tryz.prog 43 [.ptr 0 0 0,.agg (av m)] (some 12) _ _ from ?_)⟩;refine zY [0] Vx aab ⟨rfl,trivial⟩ ⟨.eq rfl,.pure rfl,trivial⟩ ?_;rintro r os⟨m1,k,vc,hk,rfl,rfl⟩;have vd:=vc.tm tM (aG _);simp(disch:=omega)only[Ac,↓Pc,simprocAttr];refine hK _ ?_;clear hK K;refine Va X0 ?_;exact yY _ m1 k _ (.tree 4 (rowsOf bu m1.ae)) vd hk (by simp only[Kc,simprocAttr]) rfl rfl (.inl rfl)
 ·have IV:=adq L k2 bK hL;unfold jm tX at IV;refine qW 1 aab _ rfl ?_;intro K hK;simp(disch:=omega)only[Ac,↓Pc,simprocAttr,List.take,List.drop];refine⟨rfl,(show ma Tryz.prog 44 [.ptr 0 0 0] (some 14) _ _ from ?_)⟩;refine zY [0] IV aab ⟨rfl,trivial⟩ ⟨.eq rfl,trivial⟩ ?_;rintro r os⟨m,k3,hm,kq,rfl,rfl⟩;simp(disch:=omega)only[Ac,↓Pc,simprocAttr,pU];refine hK _ ?_;clear hK K;clear IV bK jD;have dH:=hm.vm;have cD:=dH.iS;have cE:=dH.ae;have htb:∀ p∈m.ae,p.ay.length<=576:=λp hp=>UF dH hp;refine Va X0 ?_;refine aW (λz:Nat×Nat×List Pr=>(⟨ax [(0,.ptr 0 0 0),(2,.ptr 1 0 0),(3,.ptr 3 0 0),(4,aa3 z.1)],[.var [.tree 1 (ints L),aa3 z.2.1],.var [.lit (.slice none 0 0),.lit (.slice none 0 0),.lit (.slice none 0 0),aa3 0],.arr 4 (rowsOf bu z.2.2),.var [.tree 1 (rowsOf bD m.cls),.ref 2 4 0 m.ae.length,.tree 4 (rowsOf aK m.ar),aa3 (m.rules+2)]]⟩:St))
   (λz=>z.1<=m.ae.length/\z.2.1<=L.length/\z.2.2.length=m.ae.length/\∀ p∈z.2.2,p.ay.length<=576) (λz=>m.ae.length-z.1) (0,k3,m.ae) ⟨aQ _,kq,rfl,htb⟩ (Xv X0) ?_
  rintro⟨i,k,xs⟩⟨hi,hk,pj,Es⟩Ql aq au;dsimp only at hi hk pj Es ⊢;by_cases hi':i<m.ae.length
  ·have yR:=Es _ (aC (l:=xs) (i:=i) (d:=default) I6);generalize cG:xs.getD i default=p at *;((repeat'(first|refine Va (X2 @cG @bu.eq_1) ?_|(refine Xi ?_ ?_<;>try intro ht)|exact Xx|fail)))
   refine aW (λz:Nat×Nat×List Int=>(⟨ax [(0,.ptr 0 0 0),(2,.ptr 1 0 0),(3,.ptr 3 0 0),(4,aa3 i),(5,.ref 4 1 0 p.ay.length),(6,aa3 z.1)],[.var [.tree 1 (ints L),aa3 z.2.1],.var [.lit (.slice none 0 0),.lit (.slice none 0 0),.lit (.slice none 0 0),aa3 0],.arr 4 (rowsOf bu xs),.var [.tree 1 (rowsOf bD m.cls),.ref 2 4 0 m.ae.length,.tree 4 (rowsOf aK m.ar),aa3 (m.rules+2)],.arr 1 (ints z.2.2)]⟩:St))
    (λz=>z.1<=p.ay.length/\z.2.1<=L.length/\z.2.2.length=p.ay.length) (λz=>p.ay.length-z.1) (0,k,p.ay) ⟨aQ _,hk,rfl⟩ (Xv X0) ?_
   rintro⟨j,kk,t⟩⟨hj,iK,AZ⟩eR bX bQ;dsimp only at hj iK AZ ⊢;by_cases dG:j<p.ay.length
   ·have jD:=yq L kk 3 (by unfold fx;omega) I6 iK hL;have w9:=fY iK;unfold jm at *;generalize wO L kk 3=bo2 at *;generalize cO L kk=k4 at *;((repeat'(first|refine Va X0 ?_|(refine Xi ?_ ?_<;>try intro ht)|exact Xx|fail))<;>try with_reducible intro K hK)
    (refine Xn [0] (jD) ?_;simp(disch:=omega)only[Ac,↓Pc,simprocAttr])
    ((try revert hK K);(repeat'(first|refine Va @ints_set ?_|(refine Xi ?_ ?_<;>try intro ht)|fail)))
    ·exact bX _ (j+1,k4,t.set j 1099511627776) ⟨aaK,w9,by simpa using AZ⟩ aaK (Xv X0)
    ·exact bX _ (j+1,k4,t) ⟨aaK,w9,AZ⟩ aaK (Xv X0)
   ·((repeat'(first|refine Va X0 ?_|(refine Xi ?_ ?_<;>try intro ht)|exact Xx|fail)))
    refine bQ _ _ rfl ?_;repeat(refine Xu ?_)
    have ht5:t.length<9223372036854775808:=I6;refine bP (aB.Jr 5 4 1 (rows:=ints t) rfl (by rw[ni,AZ];simp only[Kc,simprocAttr]) (pO _) (qD _)) ?_;have kC:(rowsOf bu xs).set i [aa3 p.fst,aa3 p.snd,aa3 p.aV,.tree 1 (ints t)]=rowsOf bu (xs.set i ⟨p.fst,p.snd,p.aV,t⟩):=x8 (enc:=bu) xs i ⟨p.fst,p.snd,p.aV,t⟩;refine Va (X3 @cG @bu.eq_1 @kC) ?_;exact aq _ (i+1,kk,xs.set i ⟨p.fst,p.snd,p.aV,t⟩) ⟨aaK,iK,by simpa using pj,λy hy=>(List.mem_or_eq_of_mem_set hy).elim (Es y) λe=>by rw[e];show t.length<=576;omega⟩ aaK (Xs false [0,1,2,3] X0)
  ·((repeat'(first|refine Va X0 ?_|(refine Xi ?_ ?_<;>try intro ht)|exact Xx|fail)))
   refine au _ _ rfl ?_;clear aq au Ql;repeat(refine Xu ?_)
   refine Va X0 ?_;exact yY _ ⟨m.cls,xs,m.ar,m.rules+2⟩ k _ (.ref 2 4 0 m.ae.length) (hm.tm pj Es _) hk (by simp only[Kc,simprocAttr]) rfl rfl (.inr ⟨2,by rw[pj],aab,rfl⟩)
end T

