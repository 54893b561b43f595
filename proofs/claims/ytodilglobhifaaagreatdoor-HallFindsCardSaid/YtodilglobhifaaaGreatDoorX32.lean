import Derived.Test.YtodilglobhifaaaGreatDoorX26
import Derived.Test.YtodilglobhifaaaGreatDoorX31
set_option linter.all false
set_option maxHeartbeats 0
set_option maxRecDepth 20000
open Nat renaming zero_le→aN,le_refl→aM,not_lt_zero→oQ
open Bool renaming false_or→mn
open List renaming all_eq_true→gN,mem_range→kA,length_take→j9,getD_eq_getElem?_getD→aw,getElem?_eq_getElem→bc,take→hJ,take_of_length_le→kW,length_pos_iff→qX,length_append→aJ
open Int renaming toNat_natCast→dz
open Option renaming map_none→jn,map_some→g9
open Go Go.Am Go.Proofs
namespace T
def gK(o:bh):List AV:=[aah o.wk,aah o.day,aah o.st,aah o.len,aah o.room]
def tU(a b:bh):Bool:=decide (0<=a.room/\a.room=b.room/\a.day=b.day/\a.st=b.st/\0<a.wk/\0<b.wk/\p7 a.wk=p7 b.wk)
def Zk(a b:bh)(ha:a.wk<=3)(hb:b.wk<=3):ao Tryz.prog 73 [.agg (gK a),.agg (gK b)] [] (.lit (.bool (tU a b))) []:=by
 by_cases hp:0<a.wk/\0<b.wk
 ·have h1:=Dy a.wk Ay;have h2:=Dy b.wk Ay;generalize az:tU a b=res;unfold tU at az;generalize p7 a.wk=la at *;generalize p7 b.wk=lb at *;refine ao.aO 56 0 [.tmp 4] Tryz.func73 ?_;((try revert hK K);(repeat'(first|refine Vd @gK.eq_1 (X2 h1 h2) ?_|(refine V2 @gK.eq_1 ?_ ?_<;>try with_reducible intro hb)|(refine Xi ?_ ?_<;>try intro ht)|refine VD ?_ ?_|exact Xx|fail))<;>try with_reducible intro K hK)
  all_goals try(exfalso;omega)
  all_goals
   rw[<- az];refine aT rfl ?_;congr 2;first
   | (rw[eq_comm,decide_eq_false_iff_not];omega)
   | (rw[Bool.eq_iff_iff,beq_iff_eq,decide_eq_true_eq];omega)
 ·have h1:=Dy 1 Ay;generalize az:tU a b=res;unfold tU at az;refine ao.aO 56 0 [.tmp 4] Tryz.func73 ?_;((try revert hK K);(repeat'(first|refine Vd @gK.eq_1 h1 ?_|(refine V2 @gK.eq_1 ?_ ?_<;>try with_reducible intro hb)|(refine Xi ?_ ?_<;>try intro ht)|refine VD ?_ ?_|exact Xx|fail))<;>try with_reducible intro K hK)
  all_goals try(exfalso;omega)
  all_goals
   rw[<- az];refine aT rfl ?_;congr 2;rw[eq_comm,decide_eq_false_iff_not];omega
def Ry(a b:Int×Int):ao Tryz.prog 77 [.agg (aj a),.agg (aj b)] [] (.lit (.bool (decide (a.1<b.1\/(a.1=b.1/\a.2<b.2))))) []:=by
 generalize az:decide (a.1<b.1\/(a.1=b.1/\a.2<b.2))=res;refine ao.aO 24 0 [.tmp 4] Tryz.func77 ?_;((try revert hK K);(repeat'(first|refine Vb @aj.eq_1 ?_|(refine V2 @aj.eq_1 ?_ ?_<;>try with_reducible intro hb)|(refine Xi ?_ ?_<;>try intro ht)|refine VD ?_ ?_|exact Xx|fail))<;>try with_reducible intro K hK)
 all_goals try(exfalso;omega)
 all_goals
  rw[<- az];refine aT rfl ?_;congr 2;first
  | (rw[decide_eq_decide];omega)
  | (rw[eq_comm,decide_eq_false_iff_not];omega)
  | (rw[eq_comm,decide_eq_true_eq];omega)
def Zl{m:ah}(hm:VM m)(a b:Int×Int)(ha:iB m a)(hb:iB m b):
  ao Tryz.prog 74 [.agg (aA m),.agg (aj a),.agg (aj b)] [] (.lit (.bool (pD m a.1 a.2 b.1 b.2))) []:=by
 obtain⟨x,y,fJ⟩:∃x y,(b.1<a.1/\x=b/\y=a)\/(¬ b.1<a.1/\x=a/\y=b):=by
  by_cases h:b.1<a.1
  ·exact⟨b,a,.inl ⟨h,rfl,rfl⟩⟩
  ·exact⟨a,b,.inr ⟨h,rfl,rfl⟩⟩
 have hv:pD m a.1 a.2 b.1 b.2=m.ae.any (qK m x.1 x.2 y.1 y.2):=by
  unfold pD;rcases fJ with⟨h,rfl,rfl⟩|⟨h,rfl,rfl⟩
  ·rw[if_pos h]
  ·rw[if_neg h]
 have dQ:iB m x/\iB m y:=by rcases fJ with⟨h,rfl,rfl⟩|⟨h,rfl,rfl⟩<;>exact⟨by assumption,by assumption⟩
 have ln:=hm.ae;rw[hv];generalize az:m.ae.any (qK m x.1 x.2 y.1 y.2)=res;refine ao.aO 60 0 [.tmp 6] Tryz.func74 ?_;repeat'(first|((fail_if_success (first|refine gP 3 ?_|refine gQ 3 ?_));refine Xr @aj.eq_1 ?_;intro K hK)|refine Xo @aj.eq_1 ?_|(refine hK _ ?_;clear hK K)|(refine Xg @aj.eq_1 ?_ ?_<;>try intro hb)|(refine Xi ?_ ?_<;>try intro ht)|refine Xy ?_|refine Xd ?_ ?_|exact Xx|fail)
 all_goals try(exfalso;omega)
 all_goals
  refine cE (σ':=⟨au [(3,.ptr 0 0 0),(4,.ptr 1 0 0),(5,.ptr 2 0 0)],[.var (aA m),.var (aj x),.var (aj y)]⟩) (by rcases fJ with⟨h,rfl,rfl⟩|⟨h,rfl,rfl⟩<;>first|(exfalso;omega)|exact Xv @aj.eq_1) ?_;clear ha hb hv;obtain⟨⟨⟨a1,a2⟩,a3,a4⟩,⟨b1,b2⟩,b3,b4⟩:=dQ;((try revert hK K);(repeat'(first|refine Va X0 ?_|(refine V2 X0 ?_ ?_<;>try with_reducible intro hb)|(refine Xi ?_ ?_<;>try intro ht)|refine VD ?_ ?_|exact Xx|fail))<;>try with_reducible intro K hK)
  refine aX (λk:Nat=>(⟨au [(3,.ptr 0 0 0),(4,.ptr 1 0 0),(5,.ptr 2 0 0),(7,aah k)],[.var (aA m),.var (aj x),.var (aj y)]⟩:St)) (λk=>k<=m.ae.length/\(m.ae.drop k).any (qK m x.1 x.2 y.1 y.2)=res) (λk=>m.ae.length-k) 0 ⟨aN _,az⟩ (Xv X0) ?_;rintro k⟨hk,hr⟩Ql an ay;by_cases aQ:k<m.ae.length
  ·have ny:=nr hm.pr _ (aG (d:=default) aQ);rw[w9 aQ]at hr;have Ai:qK m x.1 x.2 y.1 y.2 (m.ae.getD k default)=decide ((m.ae.getD k default).fst=x.1/\(m.ae.getD k default).snd=y.1/\nq m (m.ae.getD k default) x.2 y.2=1099511627776):=rfl;generalize bJ:m.ae.getD k default=p at *;by_cases cg:p.fst=x.1/\p.snd=y.1
   ·obtain⟨q1,q2,q3,q4,q5⟩:=u7 ny;have vy:=hm.opt _ (aG (l:=m.cls) (i:=p.fst.toNat) (d:=default) Ay);have lq:=hm.opt _ (aG (l:=m.cls) (i:=p.snd.toNat) (d:=default) Ay);rw[cg.1]at q5 vy;rw[cg.2]at q5 lq;have vn:=u9 (x:=x.2) (y:=y.2) (a:=(m.cls.getD x.1.toNat default).length) (b:=(m.cls.getD y.1.toNat default).length) ⟨a3,a4⟩ ⟨b3,b4⟩ Ay Ay;unfold nq at Ai;rw[cg.2]at Ai;rw[<- q5]at vn;generalize mI:m.cls.getD y.1.toNat default=lb at *;generalize oN:x.2*(lb.length:Int)=xm at *;generalize z4:p.bg.getD (xm+y.2).toNat 0=en at *;((try revert hK K);(repeat'(first|refine Va (X5 @bJ @mI @oN @z4 (X3 @bL.eq_1 @bk.eq_1 @aj.eq_1)) ?_|(refine V2 (X5 @bJ @mI @oN @z4 (X3 @bL.eq_1 @bk.eq_1 @aj.eq_1)) ?_ ?_<;>try with_reducible intro hb)|(refine Xi ?_ ?_<;>try intro ht)|refine VD ?_ ?_|exact Xx|fail))<;>try with_reducible intro K hK)
    all_goals try(exfalso;omega)
    ·rw[Ai,decide_eq_true ⟨cg.1,rfl,by assumption⟩,Bool.true_or]at hr;repeat(first|refine Xu ?_|(refine bf _ _ rfl ?_;clear aS bf;try clear cC)|(refine dJ _ _ rfl ?_;clear eH dJ;try clear jC)|(refine ja _ _ rfl ?_;clear pY ja;try clear tQ))
     ((try revert hK K);(repeat'(first|refine Vb X0 ?_|(refine V2 X0 ?_ ?_<;>try with_reducible intro hb)|(refine Xi ?_ ?_<;>try intro ht)|refine VD ?_ ?_|exact Xx|fail))<;>try with_reducible intro K hK)
     exact aT rfl (by rw[<- hr])
    ·rw[Ai,decide_eq_false (λh=>absurd h.2.2 (by assumption)),mn]at hr;exact an _ (k+1) ⟨Ay,hr⟩ Ay (Xs false [0,1,2] X0)
   ·rw[Ai,decide_eq_false (λh=>cg ⟨h.1,h.2.1⟩),mn]at hr;((try revert hK K);(repeat'(first|refine Va (X3 @bJ @bL.eq_1 @aj.eq_1) ?_|(refine V2 (X3 @bJ @bL.eq_1 @aj.eq_1) ?_ ?_<;>try with_reducible intro hb)|(refine Xi ?_ ?_<;>try intro ht)|refine VD ?_ ?_|exact Xx|fail))<;>try with_reducible intro K hK)
    all_goals try(exfalso;omega)
    all_goals exact an _ (k+1) ⟨Ay,hr⟩ Ay (Xs false [0,1,2] X0)
  ·((try revert hK K);(repeat'(first|refine Va X0 ?_|(refine V2 X0 ?_ ?_<;>try with_reducible intro hb)|(refine Xi ?_ ?_<;>try intro ht)|refine VD ?_ ?_|exact Xx|fail))<;>try with_reducible intro K hK)
   rw[List.drop_eq_nil_of_le Ay,List.any_nil]at hr;refine ay _ _ rfl ?_;clear an ay Ql;repeat(first|refine Xu ?_)
   ((try revert hK K);(repeat'(first|refine Vb X0 ?_|(refine V2 X0 ?_ ?_<;>try with_reducible intro hb)|(refine Xi ?_ ?_<;>try intro ht)|refine VD ?_ ?_|exact Xx|fail))<;>try with_reducible intro K hK)
   exact aT rfl (by rw[<- hr])
def GN:m7 Tryz.prog 92 2:=m7.of 4 (by kernel_rfl)
def GO:Tryz.prog.eqGuardType Tryz.prog.depth 92=false:=by kernel_rfl
def Zm{m:ah}{L:List (Int×Int)}{i j:Nat}(hi:i<L.length)(hj:j<i)(h:ti m (L.getD i default) (L.getD j default)=false):mO m L=false:=by
 rw[<- Bool.not_eq_true,mO,gN];intro hh;have h1:=hh i (kA.2 hi);rw[vh,gN]at h1;rw[h1 _ (QT Ay hj)]at h;cases h
def Zn{m:ah}{L:List (Int×Int)}{i:Nat}(hi:i<L.length)(h:∀ j,j<i->ti m (L.getD i default) (L.getD j default)=true):vh m L i=true:=by
 rw[vh,gN];intro y hy;obtain⟨n,h1,h2⟩:=List.mem_iff_getElem.1 hy;rw[j9]at h1;have h3:=h n Ay;rw[List.getElem_take]at h2;rw[aw (l:=L) (i:=n),bc Ay,Option.getD_some,h2]at h3;exact h3
def Y7{m:ah}(hm:VM m)(hw:WK m){left:List (List Bool)}(hf:jd m left)(x:Int×Int)(hx:iB m x):
  ao Tryz.prog 35 [.agg (aA m),.tree 1 (rowsOf bE left),.agg (aj x)] [] (.tree 2 (rowsOf aj (qG m (cZ m left) x))) []:=by
 have Cm:=hm.cls;obtain⟨⟨x1,x2⟩,x3,x4⟩:=hx;have j4:fh m x=(m.cls.getD x.1.toNat default).getD x.2.toNat default:=rfl;have C9:=hw x;generalize tg:m.cls.getD x.1.toNat default=xr at *;have Zo:∀ y,wR m x y=tU (fh m x) (fh m y):=λ_=>rfl;have jv:=λy=>Zk (fh m x) y C9;generalize fh m x=ox at *;generalize fO:xr.getD x.2.toNat default=oo at *;subst j4;generalize az:qG m (cZ m left) x=res;obtain⟨f,uT⟩:∃f:Int×Int->Bool,f=λy=>decide (y=x)||wR m x y:=⟨_,rfl⟩;have GQ:∀ c i,c<=m.cls.length->i<=24->((XP m left c i).filter f).length<=24*c+i:=λc i h1 h2=>Nat.le_trans (List.length_filter_le _ _) (xe hm.opt c i h1 h2);refine ao.aO 114 0 [.tmp 6] Tryz.func35 ?_;((try revert hK K);(repeat'(first|refine Va (X4 @tg @fO @gK.eq_1 @bk.eq_1) ?_|(refine V2 (X4 @tg @fO @gK.eq_1 @bk.eq_1) ?_ ?_<;>try with_reducible intro hb)|(refine Xi ?_ ?_<;>try intro ht)|refine VD ?_ ?_|exact Xx|fail))<;>try with_reducible intro K hK)
 refine aX (λc:Nat=>(⟨au [(1,.tree 1 (rowsOf bE left)),(3,.ptr 0 0 0),(5,.ptr 1 0 0),(7,.ref 3 2 0 ((XP m left c 0).filter f).length),(8,.ptr 2 0 0),(9,aah c)],[.var (aA m),.var (aj x),.var (gK ox),.arr 2 (rowsOf aj ((XP m left c 0).filter f))]⟩:St))
  (λc=>c<=m.cls.length) (λc=>m.cls.length-c) 0 (aN _) ?_ ?_
 ·refine aC.trans (aC.nil 7 2 (by simp only[Kc,simprocAttr]) Ha) ?_;exact Xv @gK.eq_1
 rintro c hc Ql an ay;by_cases jr:c<m.cls.length
 ·have QC:=hm.opt _ (aG (l:=m.cls) (i:=c) (d:=default) jr);have bl:=hf.2 c (by have:=hf.1;omega);have fV:=hf.1;have iC:=CN m left c;generalize aP:m.cls.getD c default=row at *;generalize dt:left.getD c default=lc at *;((try revert hK K);(repeat'(first|refine Va (X2 @aP @bk.eq_1) ?_|(refine V2 (X2 @aP @bk.eq_1) ?_ ?_<;>try with_reducible intro hb)|(refine Xi ?_ ?_<;>try intro ht)|refine VD ?_ ?_|exact Xx|fail))<;>try with_reducible intro K hK)
  refine aX (λi:Nat=>(⟨au [(1,.tree 1 (rowsOf bE left)),(3,.ptr 0 0 0),(5,.ptr 1 0 0),(7,.ref 3 2 0 ((XP m left c i).filter f).length),(8,.ptr 2 0 0),(9,aah c),(10,aah i)],[.var (aA m),.var (aj x),.var (gK ox),.arr 2 (rowsOf aj ((XP m left c i).filter f))]⟩:St))
   (λi=>i<=row.length) (λi=>row.length-i) 0 (aN _) ?_ ?_
  ·exact Xv @gK.eq_1
  rintro i hi cC aS bf;by_cases hi':i<row.length
  ·have eb:=Gu m left c i;rw[dt]at eb;have Gg:=GQ c i hc Ay;have kL:lc.getD i default=lc.getD i false:=rfl;have xo:fh m ((c:Int),(i:Int))=row.getD i default:=by
    unfold fh;dsimp only;rw[dz,dz,aP]
   have GR:f ((c:Int),(i:Int))=(decide (((c:Int),(i:Int))=x)||tU ox (row.getD i default)):=by rw[uT];dsimp only;rw[Zo,xo]
   have Rz:=hw ((c:Int),(i:Int));rw[xo]at Rz;have dX:=jv (row.getD i default) Rz;generalize lq:lc.getD i false=lb at *;generalize GS:row.getD i default=oy at *;generalize tU ox oy=ak at *;have bX:∀ b:Bool,f ((c:Int),(i:Int))=b->(XP m left c (i+1)).filter f=if lb=true/\b=true then(XP m left c i).filter f++[((c:Int),(i:Int))] else(XP m left c i).filter f:=λb hb=>by
    rw[eb,List.filter_append];cases lb
    ·simp
    ·rw[if_pos rfl,List.filter_cons,List.filter_nil,hb];cases b<;>simp
   generalize hLL:(XP m left c i).filter f=L at *;have qQ:(rowsOf aj L).length=L.length:=by simp[rowsOf]
   have Ah:hJ L.length (rowsOf aj L)=rowsOf aj L:=kW Ay;have gT:rowsOf aj L++[[aah (c:Int),aah (i:Int)]]=rowsOf aj (L++[((c:Int),(i:Int))]):=by simp[rowsOf,aj]
   ((try revert hK K);(repeat'(first|refine Vc (X5 @aP @dt @kL @lq (X5 @GS @qQ @Ah @gT (X4 @bk.eq_1 @bE.eq_1 @gK.eq_1 @aj.eq_1))) dX ?_|(refine V2 (X5 @aP @dt @kL @lq (X5 @GS @qQ @Ah @gT (X4 @bk.eq_1 @bE.eq_1 @gK.eq_1 @aj.eq_1))) ?_ ?_<;>try with_reducible intro hb)|(refine Xi ?_ ?_<;>try intro ht)|refine VD ?_ ?_|exact Xx|fail))<;>try with_reducible intro K hK)
   ·have e:=bX _ rfl;rw[if_neg (λh=>by rw[hb]at h;simp at h)]at e;exact aS _ (i+1) Ay Ay (by rw[e];exact Xs false [0,1,2,3] @gK.eq_1)
   ·exact GN
   ·exact GO
   ·have e:=bX false (by rw[GR,ht,decide_eq_false (λe=>hb (by rw[<- e]))];rfl);rw[if_neg Dg]at e;exact aS _ (i+1) Ay Ay (by rw[e];exact Xs false [0,1,2,3] @gK.eq_1)
   ·have e:=bX true (by rw[GR,ht];simp);rw[if_pos ⟨by assumption,rfl⟩]at e;refine aS _ (i+1) Ay Ay ?_;rw[e];exact Xs false [0,1,2,6] @gK.eq_1
   ·have e:=bX true (by rw[GR,decide_eq_true (Prod.ext (by simpa using congrArg (λl=>l.getD 0 0) hb) (by simpa using congrArg (λl=>l.getD 1 0) hb))];simp);rw[if_pos ⟨by assumption,rfl⟩]at e;refine aS _ (i+1) Ay Ay ?_;rw[e];exact Xs false [0,1,2,6] @gK.eq_1
  ·((try revert hK K);(repeat'(first|refine Va (X2 @aP @bk.eq_1) ?_|(refine V2 (X2 @aP @bk.eq_1) ?_ ?_<;>try with_reducible intro hb)|(refine Xi ?_ ?_<;>try intro ht)|refine VD ?_ ?_|exact Xx|fail))<;>try with_reducible intro K hK)
   refine bf _ _ rfl ?_;clear aS bf cC;repeat(first|refine Xu ?_)
   ((try revert hK K);(repeat'(first|refine Va X0 ?_|(refine V2 X0 ?_ ?_<;>try with_reducible intro hb)|(refine Xi ?_ ?_<;>try intro ht)|refine VD ?_ ?_|exact Xx|fail))<;>try with_reducible intro K hK)
   have B4:i=row.length:=Ay;refine an _ (c+1) Ay Ay ?_;rw[iC,<- B4];exact Xv @gK.eq_1
 ·((try revert hK K);(repeat'(first|refine Va X0 ?_|(refine V2 X0 ?_ ?_<;>try with_reducible intro hb)|(refine Xi ?_ ?_<;>try intro ht)|refine VD ?_ ?_|exact Xx|fail))<;>try with_reducible intro K hK)
  refine ay _ _ rfl ?_;clear an ay Ql;repeat(first|refine Xu ?_)
  have ou:c=m.cls.length:=Ay;rw[ou,pR];have hL0:((cZ m left).filter f).length<=576:=by have:=GQ c 0 Ay Ay;rw[ou,pR]at this;omega
  have RA:∀ y∈(cZ m left).filter f,iB m y:=λy hy=>by
   have:=zJ (m:=m) (left:=left) (c:=m.cls.length) (i:=0) (.inr ⟨rfl,aM _⟩) (aN _);rw[pR]at this;exact this y (List.mem_filter.1 hy).1
  unfold qG at az;rw[show vj m (cZ m left) x=(cZ m left).filter f by rw[uT];rfl]at az;clear GQ;generalize (cZ m left).filter f=L at *;have qQ:(rowsOf aj L).length=L.length:=by simp[rowsOf]
  ((try revert hK K);(repeat'(first|refine Va X0 ?_|(refine V2 X0 ?_ ?_<;>try with_reducible intro hb)|(refine Xi ?_ ?_<;>try intro ht)|refine VD ?_ ?_|exact Xx|fail))<;>try with_reducible intro K hK)
  refine aX (λi:Nat=>(⟨au [(3,.ptr 0 0 0),(5,.ptr 1 0 0),(7,.ref 3 2 0 L.length),(12,aah i)],[.var (aA m),.var (aj x),.var (gK ox),.arr 2 (rowsOf aj L)]⟩:St))
   (λi=>i<=L.length/\∀ j,j<i->vh m L j=true) (λi=>L.length-i) 0 ⟨aN _,by intro j hj;exact absurd hj (oQ _)⟩ ?_ ?_
  ·exact Xv @gK.eq_1
  rintro i⟨hi,zV⟩Ql an ay;by_cases hi':i<L.length
  ·((try revert hK K);(repeat'(first|refine Va (X2 @qQ @aj.eq_1) ?_|(refine V2 (X2 @qQ @aj.eq_1) ?_ ?_<;>try with_reducible intro hb)|(refine Xi ?_ ?_<;>try intro ht)|refine VD ?_ ?_|exact Xx|fail))<;>try with_reducible intro K hK)
   refine aX (λk:Nat=>(⟨au [(3,.ptr 0 0 0),(5,.ptr 1 0 0),(7,.ref 3 2 0 L.length),(12,aah i),(13,aah k)],[.var (aA m),.var (aj x),.var (gK ox),.arr 2 (rowsOf aj L)]⟩:St))
    (λk=>k<=i/\∀ j,j<k->ti m (L.getD i default) (L.getD j default)=true) (λk=>i-k) 0 ⟨aN _,by intro j hj;exact absurd hj (oQ _)⟩ ?_ ?_
   ·exact Xv @gK.eq_1
   rintro k⟨hk,lH⟩cC aS bf;by_cases aQ:k<i
   ·have nB:=nC L hi';have kq:=nC L (show k<L.length by omega);have Zp:=RA _ (aG (l:=L) (i:=i) (d:=default) hi');have wL:=RA _ (aG (l:=L) (i:=k) (d:=default) Ay);have hex:=Zl hm _ _ Zp wL;have zL:ti m (L.getD i default) (L.getD k default)=(decide ((L.getD i default).1=(L.getD k default).1)||pD m (L.getD i default).1 (L.getD i default).2 (L.getD k default).1 (L.getD k default).2):=rfl;have Zq:=Zm (m:=m) hi' aQ;generalize gJ:L.getD i default=y at *;generalize iL:L.getD k default=z at *;generalize pD m y.1 y.2 z.1 z.2=cl at *;((try revert hK K);(repeat'(first|refine Vc (X4 @qQ @nB @kq @aj.eq_1) hex ?_|(refine V2 (X4 @qQ @nB @kq @aj.eq_1) ?_ ?_<;>try with_reducible intro hb)|(refine Xi ?_ ?_<;>try intro ht)|refine VD ?_ ?_|exact Xx|fail))<;>try with_reducible intro K hK)
    ·have Zr:=Zq (by rw[zL,decide_eq_false hb,ht];rfl);rw[if_neg (by rw[Zr];simp)]at az;subst az;repeat(first|refine Xu ?_|(refine bf _ _ rfl ?_;clear aS bf;try clear cC)|(refine dJ _ _ rfl ?_;clear eH dJ;try clear jC)|(refine ja _ _ rfl ?_;clear pY ja;try clear tQ))
     ((try revert hK K);(repeat'(first|refine Vb X0 ?_|(refine V2 X0 ?_ ?_<;>try with_reducible intro hb)|(refine Xi ?_ ?_<;>try intro ht)|refine VD ?_ ?_|exact Xx|fail))<;>try with_reducible intro K hK)
     refine eU [] true Ha trivial Ha Ha (.snap _ _ rfl (cA.flat (rows:=rowsOf aj [x]) rfl (gb _) rfl (λh=>by unfold kept at h;simp at h) (jt _)))
    ·refine aS _ (k+1) ⟨Ay,λj hj=>?_⟩ Ay (Xv @gK.eq_1);by_cases mr:j=k
     ·rw[mr,iL,zL,ht];simp
     ·exact lH j Ay
    ·refine aS _ (k+1) ⟨Ay,λj hj=>?_⟩ Ay (Xv @gK.eq_1);by_cases mr:j=k
     ·rw[mr,iL,zL,decide_eq_true hb];rfl
     ·exact lH j Ay
   ·((try revert hK K);(repeat'(first|refine Va X0 ?_|(refine V2 X0 ?_ ?_<;>try with_reducible intro hb)|(refine Xi ?_ ?_<;>try intro ht)|refine VD ?_ ?_|exact Xx|fail))<;>try with_reducible intro K hK)
    refine bf _ _ rfl ?_;clear aS bf cC;repeat(first|refine Xu ?_)
    ((try revert hK K);(repeat'(first|refine Va X0 ?_|(refine V2 X0 ?_ ?_<;>try with_reducible intro hb)|(refine Xi ?_ ?_<;>try intro ht)|refine VD ?_ ?_|exact Xx|fail))<;>try with_reducible intro K hK)
    refine an _ (i+1) ⟨Ay,λj hj=>?_⟩ Ay (Xv @gK.eq_1);by_cases dI:j=i
    ·rw[dI];exact Zn hi' λj hj=>lH j Ay
    ·exact zV j Ay
  ·have Zs:mO m L=true:=by
    rw[mO,gN];intro k hk;exact zV k (by have:=kA.1 hk;omega)
   rw[if_pos Zs]at az;subst az;((try revert hK K);(repeat'(first|refine Va X0 ?_|(refine V2 X0 ?_ ?_<;>try with_reducible intro hb)|(refine Xi ?_ ?_<;>try intro ht)|refine VD ?_ ?_|exact Xx|fail))<;>try with_reducible intro K hK)
   refine ay _ _ rfl ?_;clear an ay Ql;repeat(first|refine Xu ?_)
   ((try revert hK K);(repeat'(first|refine Vb X0 ?_|(refine V2 X0 ?_ ?_<;>try with_reducible intro hb)|(refine Xi ?_ ?_<;>try intro ht)|refine VD ?_ ?_|exact Xx|fail))<;>try with_reducible intro K hK)
   refine eU [] true Ha trivial Ha Ha ?_;first|exact .pure rfl|exact .eq rfl|exact .fz rfl (by simp only[Bc,Rc])
def Zj(l:List (List (Int×Int)))(x:List (Int×Int))(hx:x≠[])(hl:∀ y∈l,y≠[])(hb:l.length<1000000):
  ao Tryz.prog 37 [.tree 1 (rowsOf aH l),.tree 2 (rowsOf aj x)] [] (.tree 1 (rowsOf aH (oJ dR x l))) []:=by
 generalize az:oJ dR x l=res;unfold oJ at az;have lY:=B3 dR x l l.length;generalize hp:j3 dR x l l.length=p at *;have bl:(rowsOf aH l).length=l.length:=by simp[rowsOf]
 have pQ:(rowsOf aj x).length=x.length:=by simp[rowsOf]
 have Fw:=qX.2 hx;have hx0:=nC x Fw;refine ao.aO 38 0 [.tmp 4] Tryz.func37 ?_;((try revert hK K);(repeat'(first|refine Va @bl ?_|(refine V2 @bl ?_ ?_<;>try with_reducible intro hb)|(refine Xi ?_ ?_<;>try intro ht)|refine VD ?_ ?_|exact Xx|fail))<;>try with_reducible intro K hK)
 refine aX (λk:Nat=>(⟨au [(0,.tree 1 (rowsOf aH l)),(1,.tree 2 (rowsOf aj x)),(5,aah k)],[]⟩:St)) (λk=>k<=l.length/\j3 dR x l k=p) (λk=>k) l.length ⟨aM _,hp⟩ ?_ ?_
 ·exact Xv X0
 clear hp;rintro k⟨hk,hr⟩Ql an ay;have fin:∀ s,aC 0 s ⟨au [(0,.tree 1 (rowsOf aH l)),(1,.tree 2 (rowsOf aj x)),(5,aah p)],[]⟩->Ql (.exit 0) s:=λs je=>by
  refine ay _ _ rfl ?_;clear an ay Ql hr hk;repeat(first|refine Xu ?_)
  refine cE je ?_;have GU:hJ p (rowsOf aH l)=rowsOf aH (l.take p):=by unfold rowsOf;rw[List.map_take]
  have GV:List.drop p (rowsOf aH l)=rowsOf aH (l.drop p):=by unfold rowsOf;rw[List.map_drop]
  have hl1:(rowsOf aH (l.take p)).length=p:=by rw[cH,j9];omega
  have iK:(rowsOf aH (l.drop p)).length=l.length-p:=by rw[cH,List.length_drop]
  have oz:=AZ (enc:=aH) (l.take p);have mH:=AZ (enc:=aH) (l.drop p);have t1:hJ p (rowsOf aH (hJ p l))=rowsOf aH (hJ p l):=kW Ay;((try revert hK K);(repeat'(first|refine Va (X5 @bl @GU @GV @hl1 (X5 @iK @oz @mH @jn.{0,0} (X2 @g9.{0,0} @implies_true.{0}))) ?_|(refine V2 (X5 @bl @GU @GV @hl1 (X5 @iK @oz @mH @jn.{0,0} (X2 @g9.{0,0} @implies_true.{0}))) ?_ ?_<;>try with_reducible intro hb)|(refine Xi ?_ ?_<;>try intro ht)|refine VD ?_ ?_|exact Xx|fail))<;>try with_reducible intro K hK)
  have t2:hJ (p+1) (rowsOf aH (hJ p l)++[[.tree 2 (rowsOf aj x)]])=rowsOf aH (hJ p l)++[[.tree 2 (rowsOf aj x)]]:=kW (by rw[aJ,hl1];simp);have t3:(rowsOf aH (hJ p l)++[[.tree 2 (rowsOf aj x)]])++rowsOf aH (l.drop p)=rowsOf aH res:=by rw[<- az];simp[rowsOf,aH]
  refine lN [] (.take 0 (.take 1 (.take 4 (.take 5 (.both 2 (.both 3 (.take 6 (.take 7 (.take 8 .nil))) 6 (.take 3 (.take 7 (.take 8 .nil)))) 6 (.take 2 (.take 3 (.take 7 (.take 8 .nil))))))))) rfl Ha (by decide +kernel) ?_;simp(disch:=omega)only[Ac,↓Pc,simprocAttr,Pw,bl,GU,GV,hl1,iK,oz,mH,t1,t2,t3,jn,g9,implies_true,aJ];repeat'(first|with_reducible refine And.intro ?_ ?_|omega|with_reducible rfl)
  all_goals
   repeat(first|refine Xu ?_)
   ((try revert hK K);(repeat'(first|refine Vb X0 ?_|(refine V2 X0 ?_ ?_<;>try with_reducible intro hb)|(refine Xi ?_ ?_<;>try intro ht)|refine VD ?_ ?_|exact Xx|fail))<;>try with_reducible intro K hK)
   refine eU [] true Ha trivial Ha Ha ?_;refine .snap _ _ rfl (cA.flat (rows:=rowsOf aH res) rfl (gb _) ?_ (λh=>by unfold kept at h;simp at h) (jt _));rw[<- t3,aJ,aJ,hl1,iK];simp
 cases k with
 |zero =>
  have Da:=Ry default default;rw[j3]at hr;((try revert hK K);(repeat'(first|refine Vc @bl Da ?_|(refine V2 @bl ?_ ?_<;>try with_reducible intro hb)|(refine Xi ?_ ?_<;>try intro ht)|refine VD ?_ ?_|exact Xx|fail))<;>try with_reducible intro K hK)
  all_goals try(exfalso;omega)
  refine fin _ ?_;rw[<- hr];exact Xv X0
 |succ k =>
  have hy:=hl _ (aG (l:=l) (i:=k) (d:=default) Ay);have kq:(rowsOf aH l)[k]?=some (aH (l.getD k default)):=nc _ _ Ay;generalize gJ:l.getD k default=y at *;have hyp:=qX.2 hy;have RB:=nC y hyp;have GW:(rowsOf aj y).length=y.length:=by simp[rowsOf]
  have Da:=Ry (bM x) (bM y);unfold bM at Da;rw[j3,gJ]at hr;unfold dR bM at hr;generalize bK:x.getD 0 default=x0 at *;generalize RC:y.getD 0 default=y0 at *;generalize decide (x0.1<y0.1\/(x0.1=y0.1/\x0.2<y0.2))=b at *;have fi:((k+1:Nat):Int)-1=(k:Int):=Ay;((try revert hK K);(repeat'(first|refine Vc (X5 @bl @pQ @hx0 @kq (X5 @RB @GW @fi @gJ (X4 @bK @RC @aH.eq_1 @aj.eq_1))) Da ?_|(refine V2 (X5 @bl @pQ @hx0 @kq (X5 @RB @GW @fi @gJ (X4 @bK @RC @aH.eq_1 @aj.eq_1))) ?_ ?_<;>try with_reducible intro hb)|(refine Xi ?_ ?_<;>try intro ht)|refine VD ?_ ?_|exact Xx|fail))<;>try with_reducible intro K hK)
  all_goals try(exfalso;omega)
  ·rw[if_pos ht]at hr;exact an _ k ⟨Ay,hr⟩ Ay (Xv @fi)
  ·rw[if_neg (by rw[ht];simp)]at hr;refine fin _ ?_;rw[<- hr];exact Xv X0
def RD{α:Type}[Inhabited α]{a b:List α}(h1:a.length=b.length)(h2:∀ j,j<a.length->a.getD j default=b.getD j default):a=b:=by
 refine List.ext_getElem h1 λi hi hj=>?_;have:=h2 i hi;rwa [aw,bc hi,aw,bc hj]at this
def XN(a b:List (List (Int×Int)))(ha:a.length<1000000)(Ch:b.length<1000000)(jv:∀ x∈a,x.length<1000000)(pX:∀ x∈b,x.length<1000000):
  ao Tryz.prog 16 [.tree 1 (rowsOf aH a),.tree 1 (rowsOf aH b)] [] (.lit (.bool (decide (a=b)))) []:=by
 generalize az:decide (a=b)=res;have la:(rowsOf aH a).length=a.length:=by simp[rowsOf]
 have lb:(rowsOf aH b).length=b.length:=by simp[rowsOf]
 refine ao.aO 53 0 [.tmp 4] Tryz.func16 ?_;by_cases hl:a.length=b.length;rotate_left
 ·rw[decide_eq_false (λe=>hl (by rw[e]))]at az;((try revert hK K);(repeat'(first|refine Va (X2 @la @lb) ?_|(refine V2 (X2 @la @lb) ?_ ?_<;>try with_reducible intro hb)|(refine Xi ?_ ?_<;>try intro ht)|refine VD ?_ ?_|exact Xx|fail))<;>try with_reducible intro K hK)
  all_goals try(exfalso;omega)
  exact aT rfl (by rw[<- az])
 ((try revert hK K);(repeat'(first|refine Va (X2 @la @lb) ?_|(refine V2 (X2 @la @lb) ?_ ?_<;>try with_reducible intro hb)|(refine Xi ?_ ?_<;>try intro ht)|refine VD ?_ ?_|exact Xx|fail))<;>try with_reducible intro K hK)
 all_goals try(exfalso;omega)
 refine aX (λk:Nat=>(⟨au [(0,.tree 1 (rowsOf aH a)),(1,.tree 1 (rowsOf aH b)),(5,aah k)],[]⟩:St)) (λk=>k<=a.length/\∀ j,j<k->a.getD j default=b.getD j default) (λk=>a.length-k) 0 ⟨aN _,by intro j hj;exact absurd hj (oQ _)⟩ (Xv X0) ?_;rintro k⟨hk,hs⟩Ql an ay;by_cases aQ:k<a.length
 ·have pQ:=jv _ (aG (l:=a) (i:=k) (d:=default) aQ);have GW:=pX _ (aG (l:=b) (i:=k) (d:=default) Ay);have tV:(rowsOf aH a)[k]?=some (aH (a.getD k default)):=nc _ _ Ay;have tW:(rowsOf aH b)[k]?=some (aH (b.getD k default)):=nc _ _ Ay;have jX:a.getD k default≠b.getD k default->res=false:=λh=>by rw[<- az];exact decide_eq_false λe=>h (by rw[e])
  generalize bK:a.getD k default=x at *;generalize gJ:b.getD k default=y at *;have lx:(rowsOf aj x).length=x.length:=by simp[rowsOf]
  have ly:(rowsOf aj y).length=y.length:=by simp[rowsOf]
  by_cases fJ:x.length=y.length;rotate_left
  ·((try revert hK K);(repeat'(first|refine Va (X5 @la @lb @tV @tW (X5 @bK @gJ @lx @ly @aH.eq_1)) ?_|(refine V2 (X5 @la @lb @tV @tW (X5 @bK @gJ @lx @ly @aH.eq_1)) ?_ ?_<;>try with_reducible intro hb)|(refine Xi ?_ ?_<;>try intro ht)|refine VD ?_ ?_|exact Xx|fail))<;>try with_reducible intro K hK)
   all_goals try(exfalso;omega)
   repeat(first|refine Xu ?_|(refine bf _ _ rfl ?_;clear aS bf;try clear cC)|(refine dJ _ _ rfl ?_;clear eH dJ;try clear jC)|(refine ja _ _ rfl ?_;clear pY ja;try clear tQ))
   ((try revert hK K);(repeat'(first|refine Vb X0 ?_|(refine V2 X0 ?_ ?_<;>try with_reducible intro hb)|(refine Xi ?_ ?_<;>try intro ht)|refine VD ?_ ?_|exact Xx|fail))<;>try with_reducible intro K hK)
   exact aT rfl (by rw[jX (λe=>fJ (by rw[e]))])
  ((try revert hK K);(repeat'(first|refine Va (X5 @la @lb @tV @tW (X5 @bK @gJ @lx @ly @aH.eq_1)) ?_|(refine V2 (X5 @la @lb @tV @tW (X5 @bK @gJ @lx @ly @aH.eq_1)) ?_ ?_<;>try with_reducible intro hb)|(refine Xi ?_ ?_<;>try intro ht)|refine VD ?_ ?_|exact Xx|fail))<;>try with_reducible intro K hK)
  all_goals try(exfalso;omega)
  refine aX (λi:Nat=>(⟨au [(0,.tree 1 (rowsOf aH a)),(1,.tree 1 (rowsOf aH b)),(5,aah k),(6,aah i)],[]⟩:St)) (λi=>i<=x.length/\∀ j,j<i->x.getD j default=y.getD j default) (λi=>x.length-i) 0 ⟨aN _,by intro j hj;exact absurd hj (oQ _)⟩ (Xv X0) ?_;rintro i⟨hi,mE⟩cC aS bf;by_cases hi':i<x.length
  ·have RE:=nC x hi';have RF:=nC y (show i<y.length by omega);have Zt:x.getD i default≠y.getD i default->res=false:=λh=>jX λe=>h (by rw[e]);generalize cg:x.getD i default=p at *;generalize kR:y.getD i default=q at *;((try revert hK K);(repeat'(first|refine Va (X5 @la @lb @tV @tW (X5 @bK @gJ @lx @ly (X5 @RE @RF @cg @kR (X2 @aH.eq_1 @aj.eq_1)))) ?_|(refine V2 (X5 @la @lb @tV @tW (X5 @bK @gJ @lx @ly (X5 @RE @RF @cg @kR (X2 @aH.eq_1 @aj.eq_1)))) ?_ ?_<;>try with_reducible intro hb)|(refine Xi ?_ ?_<;>try intro ht)|refine VD ?_ ?_|exact Xx|fail))<;>try with_reducible intro K hK)
   ·exact GN
   ·exact GO
   ·repeat(first|refine Xu ?_|(refine bf _ _ rfl ?_;clear aS bf;try clear cC)|(refine dJ _ _ rfl ?_;clear eH dJ;try clear jC)|(refine ja _ _ rfl ?_;clear pY ja;try clear tQ))
    ((try revert hK K);(repeat'(first|refine Vb X0 ?_|(refine V2 X0 ?_ ?_<;>try with_reducible intro hb)|(refine Xi ?_ ?_<;>try intro ht)|refine VD ?_ ?_|exact Xx|fail))<;>try with_reducible intro K hK)
    exact aT rfl (by rw[Zt (λe=>ht (by rw[e]))])
   ·have Zu:p=q:=by
     simp only[List.cons.injEq,and_true]at ht;exact Prod.ext ht.1 ht.2
    refine aS _ (i+1) ⟨Ay,λj hj=>?_⟩ Ay (Xv X0);by_cases dI:j=i
    ·rw[dI,cg,kR,Zu]
    ·exact mE j Ay
  ·((try revert hK K);(repeat'(first|refine Va (X5 @la @lb @tV @tW (X5 @bK @gJ @lx @ly @aH.eq_1)) ?_|(refine V2 (X5 @la @lb @tV @tW (X5 @bK @gJ @lx @ly @aH.eq_1)) ?_ ?_<;>try with_reducible intro hb)|(refine Xi ?_ ?_<;>try intro ht)|refine VD ?_ ?_|exact Xx|fail))<;>try with_reducible intro K hK)
   refine bf _ _ rfl ?_;clear aS bf cC;repeat(first|refine Xu ?_)
   ((try revert hK K);(repeat'(first|refine Va X0 ?_|(refine V2 X0 ?_ ?_<;>try with_reducible intro hb)|(refine Xi ?_ ?_<;>try intro ht)|refine VD ?_ ?_|exact Xx|fail))<;>try with_reducible intro K hK)
   refine an _ (k+1) ⟨Ay,λj hj=>?_⟩ Ay (Xv X0);by_cases mr:j=k
   ·rw[mr,bK,gJ];exact RD fJ λj hj=>mE j Ay
   ·exact hs j Ay
 ·have:res=true:=by rw[<- az];exact decide_eq_true (RD hl λj hj=>hs j Ay)
  ((try revert hK K);(repeat'(first|refine Va @la ?_|(refine V2 @la ?_ ?_<;>try with_reducible intro hb)|(refine Xi ?_ ?_<;>try intro ht)|refine VD ?_ ?_|exact Xx|fail))<;>try with_reducible intro K hK)
  refine ay _ _ rfl ?_;clear an ay Ql;repeat(first|refine Xu ?_)
  ((try revert hK K);(repeat'(first|refine Vb X0 ?_|(refine V2 X0 ?_ ?_<;>try with_reducible intro hb)|(refine Xi ?_ ?_<;>try intro ht)|refine VD ?_ ?_|exact Xx|fail))<;>try with_reducible intro K hK)
  exact aT rfl (by rw[this])
end T

