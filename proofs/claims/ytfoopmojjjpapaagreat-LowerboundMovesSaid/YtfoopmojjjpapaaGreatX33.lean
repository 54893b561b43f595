import Derived.Test.YtfoopmojjjpapaaGreatX32
set_option linter.all false
set_option maxHeartbeats 0
set_option maxRecDepth 20000
open Nat renaming zero_le→aT,mul_le_mul→xE,sub_self→iT,add_zero→iq
open List renaming getD_eq_getElem?_getD→aB,getElem?_map→b9,getElem?_eq_getElem→bT,length_take→e8,take_zero→nU,map_nil→nu,foldl_nil→yW,mem_of_mem_take→qS,take_of_length_le→c8,mem_append→cB,mem_singleton→cU,length_map→fX,append_assoc→bC,length_append→bE,length_set→bK,getElem?_eq_some_iff→aR,map_append→dR,nodup_append→pU,mem_cons→bj,not_mem_nil→gU,set_set→wE,range_zero→NL
open Bool renaming true_and→iu,false_and→pT,and_eq_true→aZ,not_false→mK,not_true→lI
open And renaming intro→cJ
open Go Go.Am Go.Proofs
namespace T
def ahi(l:List cE)(R:Int)(hl:l.length<=24)(ng:∀ o∈l,eh R none o.ch=true)(hlen:∀ o∈l,o.ch.length<=100):Holds Tryz.prog 46 [.tree 6 (rowsOf b6 l)] [] (.tree 1 (ints (bV l))) []:=by
 refine Holds.aK 39 0 [.tmp 2] Tryz.func46 ?_;refine Vb X0 ?_;refine aU (λz:Nat×List Int=>(⟨an [(0,.tree 6 (rowsOf b6 l)),(3,.ref 0 1 0 z.2.length),(4,NX z.1)],[.arr 1 (ints z.2)]⟩:St)) (λz=>z.1<=l.length/\z.2=(bV l).take z.1) (λz=>l.length-z.1) (0,[]) ⟨aT _,rfl⟩ ?_ ?_
 ·refine aF.trans (aF.nil 3 1 (by simp only[Kc,simprocAttr]) NF) ?_;exact Xv X0
 rintro⟨i,xs⟩⟨hi,dp⟩Ql ak ar;dsimp only at hi dp ⊢;have mV:(bV l).length=l.length:=by unfold bV;simp
 by_cases aq:i<l.length
 ·have e9:=eZ (l:=bV l) (k:=i) Iv;have oM:(bV l).getD i default=qB (l.getD i default):=by
   unfold bV;rw[aB,b9,aB,bT aq];rfl
  have fJ:=aG (l:=l) (d:=default) aq;have hc:=GC (ng _ fJ);have hle:=hlen _ fJ;have a6:xs.length=i:=by rw[dp,e8];omega
  rw[oM,<- dp]at e9;generalize tu:l.getD i default=o at *;((repeat'(first|refine Va @tu ?_|(refine Xi ?_ ?_<;>try intro ht)|exact Xx|fail)))
  refine aU (λk:Nat=>(⟨an [(0,.tree 6 (rowsOf b6 l)),(3,.ref 0 1 0 xs.length),(4,NX i),(5,NX (((o.ch.take k).map (·.2)).foldl dZ 0)),(6,NX k)],[.arr 1 (ints xs)]⟩:St)) (λk=>k<=o.ch.length) (λk=>o.ch.length-k) 0 (aT _) (Xv (X3 @nU.{0} @nu.{0,0} @yW.{0,0})) ?_;rintro k hk c7 br bx;have hs:=Ds ((o.ch.take k).map (·.2)) 0 (λx hx=>by
   obtain⟨c,fD,rfl⟩:=List.mem_map.1 hx;exact hc c (qS fD)) (by unfold bM;decide)
  by_cases ba:k<o.ch.length
  ·have bd:=hc _ (aG (d:=default) ba);have dU:=Wt o.ch k ba;generalize ((o.ch.take k).map (·.2)).foldl dZ 0=s at *;have vL:=aey s (o.ch.getD k default).2 hs bd;generalize cW:o.ch.getD k default=x at *;((repeat'(first|refine Vc (X4 @tu @cW @b6.eq_1 @dj.eq_1) vL ?_|(refine Xi ?_ ?_<;>try intro ht)|exact Xx|fail)))
   exact br _ (k+1) Iv Iv (by simp only[dU];exact Xv X0)
  ·have kD:((o.ch.take k).map (·.2)).foldl dZ 0=qB o:=by rw[c8 Iv];rfl
   rw[kD]at hs;generalize ((o.ch.take k).map (·.2)).foldl dZ 0=s at *;((repeat'(first|refine Va (X2 @tu @b6.eq_1) ?_|(refine Xi ?_ ?_<;>try intro ht)|exact Xx|fail)))
   refine bx _ _ rfl ?_;clear br bx c7;repeat(refine Xu ?_)
   refine Va X0 ?_;refine ak _ (i+1,xs++[s]) ⟨NN,by rw[e9,<- kD]⟩ NN ?_;exact Xs false [2] X0
 ·rw[c8 Iv]at dp;subst dp;((repeat'(first|refine Va X0 ?_|(refine Xi ?_ ?_<;>try intro ht)|exact Xx|fail)))
  refine ar _ _ rfl ?_;clear ak ar Ql;repeat(refine Xu ?_)
  refine Vb X0 ?_;exact Xw true [] X0
def Ys(l:List Int)(hl:l.length<=1000):Holds Tryz.prog 45 [.tree 1 (ints l)] [] (.ref 0 2 0 (dy l).length) [.arr 2 (rowsOf iW (dy l))]:=by
 refine Holds.aK 25 0 [.tmp 2] Tryz.func45 ?_;refine Vb X0 ?_;refine aU (λz:Nat×List Nm=>(⟨an [(0,.tree 1 (ints l)),(3,.ref 0 2 0 z.2.length),(4,NX z.1)],[.arr 2 (rowsOf iW z.2)]⟩:St)) (λz=>z.1<=l.length/\z.2=(dy l).take z.1) (λz=>l.length-z.1) (0,[]) ⟨aT _,rfl⟩ ?_ ?_
 ·refine aF.trans (aF.nil 3 2 (by simp only[Kc,simprocAttr]) NF) ?_;exact Xv X0
 rintro⟨i,xs⟩⟨hi,dp⟩Ql ak ar;dsimp only at hi dp ⊢;have mV:(dy l).length=l.length:=by unfold dy;simp
 by_cases aq:i<l.length
 ·have e9:=eZ (l:=dy l) (k:=i) Iv;have oM:(dy l).getD i default=ez (l.getD i 0):=by
   unfold dy;rw[aB,b9,aB,bT aq];rfl
  have a6:xs.length=i:=by rw[dp,e8];omega
  rw[oM,<- dp]at e9;generalize tu:l.getD i 0=o at *;((repeat'(first|refine Va @tu ?_|(refine Xi ?_ ?_<;>try intro ht)|exact Xx|fail)))
  refine ak _ (i+1,xs++[ez o]) ⟨NN,e9.symm⟩ NN ?_;have eno:[[AV.lit (.bool (decide (o >= 1099511627776))),AV.lit (.int .i64 o)]]=rowsOf iW [ez o]:=rfl;exact Xs false [2] (X2 @eno @JT)
 ·rw[c8 Iv]at dp;subst dp;((repeat'(first|refine Va X0 ?_|(refine Xi ?_ ?_<;>try intro ht)|exact Xx|fail)))
  refine ar _ _ rfl ?_;clear ak ar Ql;repeat(refine Xu ?_)
  refine Vb X0 ?_;exact Xw false [0] X0
def Yt(l:List Nm)(s:List Bool)(hl:l.length=s.length)(fh:l.length<9223372036854775808):Holds Tryz.prog 47 [.tree 2 (rowsOf iW l),.tree 1 (bm s)] [] (.bu [NX (dm l s (0,false)).1,.lit (.bool (dm l s (0,false)).2)]) []:=by
 refine Holds.aK 47 0 [.tmp 4,.tmp 5] Tryz.func47 ?_;refine Vb X0 ?_;refine aU (λi:Nat=>(⟨an [(0,.tree 2 (rowsOf iW l)),(1,.tree 1 (bm s)),(6,NX (dm (l.take i) (s.take i) (0,false)).1),(7,.lit (.bool (dm (l.take i) (s.take i) (0,false)).2)),(8,NX i)],[]⟩:St)) (λi=>i<=l.length) (λi=>l.length-i) 0 (aT _) (Xv (X2 @nU.{0} (X2 @dm.eq_1 @dm.eq_2))) ?_;rintro i hi Ql ak ar;by_cases aq:i<l.length
 ·have h1:=eZ aq;have h2:=eZ (l:=s) (k:=i) Iv;have h3:=Wv (l.getD i default) (s.getD i default) (l.take i) (s.take i) (0,false) (by rw[e8,e8];omega);rw[<- h1,<- h2]at h3;have sV:s.getD i default=s.getD i false:=rfl;rw[sV]at h3;generalize dm (l.take i) (s.take i) (0,false)=b at *;generalize cr:l.getD i default=p at *;generalize vN:s.getD i false=is at *;unfold Wu at h3;obtain⟨b1,b2⟩:=b;obtain⟨p1,p2⟩:=p;dsimp only at h3 ⊢;by_cases a6:p1<b1;all_goals
   cases is<;>cases p2<;>cases b2
  all_goals
   simp[a6]at h3;((repeat'(first|refine Va (X3 @cr @vN @iW.eq_1) ?_|(refine Xi ?_ ?_<;>try intro ht)|exact Xx|fail)))
   all_goals
    refine ak _ (i+1) Iv Iv ?_;simp only[h3];exact Xv X0
 ·((repeat'(first|refine Va X0 ?_|(refine V2 X0 ?_ ?_<;>try with_reducible intro hb)|(refine Xi ?_ ?_<;>try intro ht)|exact Xx|fail)))
  refine ar _ _ rfl ?_;clear ak ar Ql;repeat(refine Xu ?_)
  rw[c8 Iv,c8 Iv];refine Vb X0 ?_;exact aS rfl rfl
def Yi(l:List Nm)(fh:l.length<9223372036854775808):Holds Tryz.prog 114 [.tree 2 (rowsOf aW l)] [] (.agg (aW (sY l))) []:=by
 refine Holds.aK 30 0 [.cell 2 182] Tryz.func114 ?_;refine Vb X0 ?_;refine aU (λi:Nat=>(⟨an [(2,.ptr 0 0 0),(3,.ptr 1 0 0),(7,.tree 2 (rowsOf aW l)),(8,NX l.length),(9,NX i)],[.var [NX 0,.lit (.bool false)],.var (aW (sY (l.take i)))]⟩:St)) (λi=>i<=l.length) (λi=>l.length-i) 0 (aT _) (Xv @nU.{0}) ?_;rintro i hi Ql ak ar;by_cases aq:i<l.length
 ·have h1:=eZ aq;have h3:=afF (l.take i) (l.getD i default);rw[<- h1]at h3;generalize sY (l.take i)=b at *;generalize cr:l.getD i default=p at *;unfold BC at h3;obtain⟨b1,b2⟩:=b;obtain⟨p1,p2⟩:=p;dsimp only at h3 ⊢;unfold aW;dsimp only;by_cases a6:p1<b1;all_goals
   cases p2<;>cases b2
  all_goals
   simp[a6]at h3;((repeat'(first|refine Va (X2 @cr @aW.eq_1) ?_|(refine Xi ?_ ?_<;>try intro ht)|exact Xx|fail)))
   all_goals
    refine ak _ (i+1) Iv Iv ?_;simp only[h3];exact Xs false [0,1] @aW.eq_1
 ·((repeat'(first|refine Va @aW.eq_1 ?_|(refine V2 @aW.eq_1 ?_ ?_<;>try with_reducible intro hb)|(refine Xi ?_ ?_<;>try intro ht)|exact Xx|fail)))
  refine ar _ _ rfl ?_;clear ak ar Ql;repeat(refine Xu ?_)
  rw[c8 Iv];refine Vb @aW.eq_1 ?_;simp(disch:=omega)only[Ac,↓Pc,simprocAttr,aW,du];exact aS rfl rfl
def ahk(m:ah)(x:Mv)(hm:VM m):Holds Tryz.prog 44 [.agg (ao m),.agg (aO x)] [] (.lit (.bool (iC m x))) []:=by
 have uk:=hm.ae;have ho:=TC m (eK m x) x.opt;generalize au:iC m x=res;unfold iC at au;unfold eK at au ho;refine Holds.aK 58 0 [.tmp 4] Tryz.func44 ?_;by_cases hr:0<=x.pair/\x.pair<m.ae.length/\0<=x.side/\x.side<=1/\-268435456<=x.amt/\x.amt<=268435456
 ·rw[decide_eq_true hr,iu]at au;generalize cr:m.ae.getD x.pair.toNat default=p at *;by_cases hs:x.side=0
  ·rw[if_pos hs]at au ho;rw[au]at ho;((repeat'(first|refine Vd (X3 @cr @aO.eq_1 @aH.eq_1) ho ?_|(refine V2 (X3 @cr @aO.eq_1 @aH.eq_1) ?_ ?_<;>try with_reducible intro hb)|(refine Xi ?_ ?_<;>try intro ht)|exact Xx|fail)))
   all_goals exact aS rfl rfl
  ·rw[if_neg hs]at au ho;rw[au]at ho;((repeat'(first|refine Vd (X3 @cr @aO.eq_1 @aH.eq_1) ho ?_|(refine V2 (X3 @cr @aO.eq_1 @aH.eq_1) ?_ ?_<;>try with_reducible intro hb)|(refine Xi ?_ ?_<;>try intro ht)|exact Xx|fail)))
   all_goals exact aS rfl rfl
 ·rw[decide_eq_false hr,pT]at au;((repeat'(first|refine Vb (X2 @aO.eq_1 @aH.eq_1) ?_|(refine V2 (X2 @aO.eq_1 @aH.eq_1) ?_ ?_<;>try with_reducible intro hb)|(refine Xi ?_ ?_<;>try intro ht)|exact Xx|fail)))
  all_goals exact aS rfl (by rw[au])
def Yp{m:ah}(hm:VM m){c:List cE}(hc:c∈m.cls){o:cE}(ho:o∈c):o.ch.length<=100:=by
 have h:=hm.ry c hc o ho;have hr:=hm.uA;cases ng:o.ch with
 |nil=>simp
 |cons x r =>
  rw[ng,eh]at h;simp only[aZ,decide_eq_true_eq,jA]at h;rcases Kq h.2 with rfl|h2
  ·simp
  ·simp only[List.length_cons];omega
def BT{m:ah}{p:Pr}(hp:gB m p=true)(hm:VM m):p.ax.length<=576:=by
 unfold gB at hp;simp only[aZ,decide_eq_true_eq]at hp;obtain⟨⟨_,h1,h2,h3,h4⟩,_⟩:=hp;have a:=hm.opt _ (aG (l:=m.cls) (i:=p.fst.toNat) (d:=default) Iv);have b:=hm.opt _ (aG (l:=m.cls) (i:=p.snd.toNat) (d:=default) Iv);have:=xE a b;have e:(p.ax.length:Int)=((m.cls.getD p.fst.toNat default).length*(m.cls.getD p.snd.toNat default).length:Nat):=by rw[h4];simp
 omega
def DV{m:ah}{p:Pr}(hp:gB m p=true):0<=p.fst/\p.fst<p.snd/\p.snd<m.cls.length/\(p.ax.length:Int)=(m.cls.getD p.fst.toNat default).length*(m.cls.getD p.snd.toNat default).length:=by
 unfold gB at hp;simp only[aZ,decide_eq_true_eq]at hp;exact hp.1.2
def G7{a k c n:Int}(ha:0<=a/\a<n)(hk:0<=k/\k<c)(hc:c<=24)(hn:n<=24):0<=a*c/\a*c<=576/\0<=a*c+k/\a*c+k<n*c:=by
 have h1:0<=a*c:=Int.mul_nonneg ha.1 Iv;have h2:(a+1)*c<=n*c:=Int.mul_le_mul_of_nonneg_right Iv Iv;rw[Int.add_mul]at h2;have h3:n*c<=24*24:=Int.mul_le_mul hn hc Iv Iv;omega
def KQ(m:ah)(left:List (List Bool))(l:List Mv)(hm:MB m)(hb:BB left)(hl:l.length<9223372036854775808):Holds Tryz.prog 18 [.agg (ao m),.tree 1 (rowsOf aA left),.tree 4 (rowsOf aO l)] [] (.bu [NX (bQ m left l).1,NX (bQ m left l).2]) []:=by
 have h1:=Lx m hm;have h2:=ahl m left hm hb;generalize au:bQ m left l=res;unfold bQ kn at au;refine Holds.aK 342 0 [.tmp 6,.tmp 7] Tryz.func18 ?_;by_cases hv:jP m=0;rotate_left
 ·rw[if_pos (c:=jP m≠0) hv,if_pos hv]at au;generalize jP m=e at *;subst au;((repeat'(first|refine Vd X0 (X2 h1 h2) ?_|(refine Xi ?_ ?_<;>try intro ht)|exact Xx|fail)))
  all_goals exact aS rfl rfl
 rw[if_neg (c:=jP m≠0) (by rw[hv];simp)]at au;rw[hv]at h1;by_cases hf:df m left;rotate_left
 ·rw[if_neg hf,if_pos Iw]at au;rw[decide_eq_false hf]at h2;subst au;((repeat'(first|refine Vd (X2 @bne_self_eq_false.{0} @mK) (X2 h1 h2) ?_|(refine Xi ?_ ?_<;>try intro ht)|exact Xx|fail)))
  all_goals exact aS rfl rfl
 rw[if_pos hf,if_neg Iw]at au;rw[decide_eq_true hf]at h2;have cA:=rz.1 hv;have qD:=cA.cls;have oL:=cA.ae;have FE:=cA.aC;unfold iO at au;by_cases hlen:2000<l.length
 ·rw[if_pos hlen]at au;subst au;((repeat'(first|refine Vd (X2 @bne_self_eq_false.{0} @lI) (X2 h1 h2) ?_|(refine Xi ?_ ?_<;>try intro ht)|exact Xx|fail)))
  all_goals exact aS rfl rfl
 rw[if_neg hlen]at au;((repeat'(first|refine Vd (X2 @bne_self_eq_false.{0} @lI) (X2 h1 h2) ?_|(refine Xi ?_ ?_<;>try intro ht)|exact Xx|fail)))
 refine aU (λi:Nat=>(⟨an [(1,.tree 1 (rowsOf aA left)),(2,.tree 4 (rowsOf aO l)),(3,.ptr 0 0 0),(9,NX i)],[.var (ao m)]⟩:St)) (λi=>i<=l.length/\∀ x∈l.take i,iC m x=true) (λi=>l.length-i) 0 ⟨aT _,Iw⟩ (Xv X0) ?_;rintro i⟨hi,gj⟩Ql ak ar;by_cases aq:i<l.length
 ·have qF:=ahk m (l.getD i default) cA;have e9:=eZ aq;have cH:=aG (d:=default) aq;generalize cW:l.getD i default=x at *;by_cases hx:iC m x=true
  ·rw[hx]at qF;((repeat'(first|refine Vc (X3 @cW @aO.eq_1 @lI) qF ?_|(refine Xi ?_ ?_<;>try intro ht)|exact Xx|fail)))
   exact ak _ (i+1) ⟨Iv,λy hy=>by
    rw[e9]at hy;rcases cB.1 hy with hy|hy
    ·exact gj y hy
    ·simp only[cU]at hy;subst hy;exact hx⟩ Iv (Xv X0)
  ·have bS:iC m x=false:=by simpa using hx
   rw[bS]at qF;rw[if_pos (by rw[List.all_eq_false];exact⟨x,cH,hx⟩)]at au;subst au;((repeat'(first|refine Vc (X3 @cW @aO.eq_1 @mK) qF ?_|(refine Xi ?_ ?_<;>try intro ht)|exact Xx|fail)))
   repeat(refine Xu ?_)
   refine Vb X0 ?_;exact aS rfl rfl
 rw[c8 Iv]at gj;rw[if_neg (by rw[Bool.not_eq_false];exact List.all_eq_true.2 gj)]at au;((repeat'(first|refine Va X0 ?_|(refine Xi ?_ ?_<;>try intro ht)|exact Xx|fail)))
 refine ar _ _ rfl ?_;clear ak ar Ql;repeat(refine Xu ?_)
 refine Va X0 ?_;have Ly:([.var (ao m)]:List Ob)[0]?=some (.var (ao m)):=rfl;refine aU (λz:Nat×List Ob×Nat×List (Nat×Nat)=>(⟨an [(1,.tree 1 (rowsOf aA left)),(2,.tree 4 (rowsOf aO l)),(3,.ptr 0 0 0),(10,.ref z.2.2.1 1 0 z.2.2.2.length),(11,.lit (.slice none 0 0)),(12,NX z.1)],z.2.1⟩:St))
  (λz=>z.1<=m.cls.length/\z.2.2.2.length=z.1/\z.2.1[0]?=some (.var (ao m))/\z.2.1[z.2.2.1]?=some (.arr 1 (rowsOf cu z.2.2.2))/\RI iW z.2.1 z.2.2.2 ((S0 m).take z.1)/\(z.2.2.2.map (·.1)).Nodup)
  (λz=>m.cls.length-z.1) (0,[.var (ao m),.arr 1 []],1,[]) ⟨aT _,rfl,rfl,rfl,by rw[nU];exact RI.nil,Iw⟩ ?_ ?_
 ·refine aF.trans (aF.nil 10 1 (by simp only[Kc,simprocAttr]) NF) ?_;exact Xv X0
 clear hi aq Ly;rintro⟨i,os,ai,D⟩⟨hi,hD,f0,fa,hR,bU⟩Ql ak ar;dsimp only at hi hD f0 fa hR bU ⊢;have e0:=aM f0;have ea:=aM fa;have sa:=iN fa;by_cases aq:i<m.cls.length
 ·have jN:=aG (d:=default) aq;have uH:=cA.opt _ jN;have Aa:=ahi (m.cls.getD i default) m.rules uH (cA.ry _ jN) (λo ho=>Yp cA jN ho);have Lz:=Ys (bV (m.cls.getD i default)) (by unfold bV;rw[fX];omega);generalize bd:m.cls.getD i default=c at *;((repeat'(first|refine Vc (X5 @f0 @fa @e0 @ea (X3 @bd @aQ.eq_1 @bF)) Aa ?_|(refine Xi ?_ ?_<;>try intro ht)|exact Xx|fail))<;>try with_reducible intro K hK)
  refine jv [] Lz Iw trivial ⟨.pure rfl,trivial⟩ ?_;have LA:(0:Nat)≠ai:=λe=>by rw[<- e,f0]at fa;cases fa
  obtain⟨g1,g2,g3,g4⟩:=RI.step fa Iw hR bU (dy (bV c)) (.arr 1 [[.ref os.length 2 0 (dy (bV c)).length]]) (.arr 1 (rowsOf cu (D++[(os.length,(dy (bV c)).length)])));have e9:(S0 m).take (i+1)=(S0 m).take i++[dy (bV c)]:=by
   rw[eZ (by unfold S0;rw[fX];exact aq)];unfold S0;rw[iX _ _ _ aq,bd]
  ((try revert hK K);((refine Va (X5 @f0 @fa @e0 @ea (X5 @sa @bd @aQ.eq_1 @bF (X5 @bC.{0} @iT @iq @GF (X2 @bE.{0} @bK.{0})))) ?_)))
  refine ak _ (i+1,_,os.length+2,D++[(os.length,(dy (bV c)).length)]) ⟨NN,NP,g4 _ _ f0 LA,g1,by rw[e9];exact g2,g3⟩ NN ?_;exact Xv X0
 rw[c8 (by unfold S0;rw[fX];omega)]at hR;have GY:D.length=m.cls.length:=Iv;((repeat'(first|refine Va (X4 @f0 @fa @e0 @ea) ?_|(refine Xi ?_ ?_<;>try intro ht)|exact Xx|fail)))
 refine ar _ _ rfl ?_;clear ak ar Ql;repeat(refine Xu ?_)
 refine Va (X2 @f0 @fa) ?_;clear hi aq hD e0 ea sa;have Yu:(os++[Ob.arr 1 []])[os.length]?=some (.arr 1 (rowsOf cu [])):=by rw[kq];rfl
 refine aU (λz:Nat×List Ob×Nat×List (Nat×Nat)=>(⟨an [(1,.tree 1 (rowsOf aA left)),(2,.tree 4 (rowsOf aO l)),(3,.ptr 0 0 0),(10,.ref ai 1 0 D.length),(11,.ref z.2.2.1 1 0 z.2.2.2.length),(13,NX z.1)],z.2.1⟩:St))
  (λz=>z.1<=m.ae.length/\z.2.2.2.length=z.1/\z.2.1[0]?=some (.var (ao m))/\z.2.1[ai]?=some (.arr 1 (rowsOf cu D))/\z.2.1[z.2.2.1]?=some (.arr 1 (rowsOf cu z.2.2.2))/\z.2.2.1≠ai/\RI iW z.2.1 D (S0 m)/\RI iW z.2.1 z.2.2.2 ((T0 m).take z.1)/\((D++z.2.2.2).map (·.1)).Nodup)
  (λz=>m.ae.length-z.1) (0,os++[.arr 1 []],os.length,[]) ⟨aT _,rfl,aM f0 _,aM fa _,Yu,λe=>by have h2:=(aR.1 fa).1;dsimp only at e;omega,hR.app _,by rw[nU];exact RI.nil,by simpa using bU⟩ ?_ ?_
 ·refine aF.trans (aF.nil 11 1 (by simp only[Kc,simprocAttr]) NF) ?_;exact Xv X0
 clear f0 fa hR bU Yu os;rintro⟨i,os,bi,E⟩⟨hi,hE,f0,fa,fb,iY,DW,DX,bU⟩Ql ak ar;dsimp only at hi hE f0 fa fb iY DW DX bU ⊢;have e0:=aM f0;have eb:=aM fb;have sb:=iN fb;by_cases aq:i<m.ae.length
 ·have hpm:=jQ cA.pr _ (aG (d:=default) aq);have nk:=(BT hpm cA);have Lz:=Ys (m.ae.getD i default).ax Iv;have LA:(0:Nat)≠bi:=λe=>by rw[<- e,f0]at fb;cases fb
  rw[dR,pU]at bU;obtain⟨g1,g2,g3,g4⟩:=RI.step fb Iw DX bU.2.1 (dy (m.ae.getD i default).ax) (.arr 1 [[.ref os.length 2 0 (dy (m.ae.getD i default).ax).length]]) (.arr 1 (rowsOf cu (E++[(os.length,(dy (m.ae.getD i default).ax).length)])));have e9:(T0 m).take (i+1)=(T0 m).take i++[dy (m.ae.getD i default).ax]:=by
   rw[eZ (by unfold T0;rw[fX];exact aq)];unfold T0;rw[iX _ _ _ aq]
  have ahn:=(DW.kill (y:=.gone) fb Iw).app [.arr 2 (rowsOf iW (dy (m.ae.getD i default).ax)),.arr 1 [[.ref os.length 2 0 (dy (m.ae.getD i default).ax).length]],.arr 1 (rowsOf cu (E++[(os.length,(dy (m.ae.getD i default).ax).length)]))];have G8:((D++(E++[(os.length,(dy (m.ae.getD i default).ax).length)])).map (·.1)).Nodup:=by
   rw[dR,pU];refine⟨bU.1,g3,λa ha b hb=>?_⟩;rw[dR,cB]at hb;rcases hb with hb|hb
   ·exact bU.2.2 a ha b hb
   ·simp only[List.map_cons,nu,cU]at hb;subst hb;exact λe=>DW.fresh (Nat.le_refl _) (e▸ha)
  have fal:=(aR.1 fa).1;generalize cr:m.ae.getD i default=p at *;((repeat'(first|refine Va (X5 @f0 @fb @e0 @eb (X3 @cr @aH.eq_1 @bF)) ?_|(refine Xi ?_ ?_<;>try intro ht)|exact Xx|fail))<;>try with_reducible intro K hK)
  refine jv [] Lz Iw trivial ⟨.pure rfl,trivial⟩ ?_;((try revert hK K);((refine Va (X5 @f0 @fb @e0 @eb (X5 @sb @cr @aH.eq_1 @bF (X5 @bC.{0} @iT @iq @GF (X2 @bE.{0} @bK.{0})))) ?_)))
  refine ak _ (i+1,_,os.length+2,E++[(os.length,(dy p.ax).length)]) ⟨NN,NP,g4 _ _ f0 LA,g4 _ _ fa iY.symm,g1,NN,ahn,by rw[e9];exact g2,G8⟩ NN ?_;exact Xv X0
 rw[c8 (by unfold T0;rw[fX];omega)]at DX;have yF:E.length=m.ae.length:=Iv;((repeat'(first|refine Va (X4 @f0 @fa @e0 @eb) ?_|(refine Xi ?_ ?_<;>try intro ht)|exact Xx|fail)))
 refine ar _ _ rfl ?_;clear ak ar Ql;repeat(refine Xu ?_)
 refine Va (X2 @f0 @fa) ?_;clear hi aq hE e0 eb sb;have iF:LO iW [(0,.var (ao m)),(ai,.arr 1 (rowsOf cu D)),(bi,.arr 1 (rowsOf cu E))] D E (S0 m) (T0 m) os:=⟨λb hb=>by
  simp only[bj,gU,or_false]at hb;rcases hb with rfl|rfl|rfl
  ·exact⟨f0,Iw⟩
  ·exact⟨fa,Iw⟩
  ·exact⟨fb,Iw⟩,DW,DX,bU⟩
 refine aU (λz:Nat×List Ob=>(⟨an [(1,.tree 1 (rowsOf aA left)),(2,.tree 4 (rowsOf aO l)),(3,.ptr 0 0 0),(10,.ref ai 1 0 D.length),(11,.ref bi 1 0 E.length),(14,NX z.1)],z.2⟩:St))
  (λz=>z.1<=l.length/\LO iW [(0,.var (ao m)),(ai,.arr 1 (rowsOf cu D)),(bi,.arr 1 (rowsOf cu E))] D E (iD m (l.take z.1) (S0 m,T0 m)).1 (iD m (l.take z.1) (S0 m,T0 m)).2 z.2)
  (λz=>l.length-z.1) (0,os) ⟨aT _,iF⟩ (Xv X0) ?_
 clear f0 fa fb DW DX bU iF os;rintro⟨i,os⟩⟨hi,iF⟩Ql ak ar;dsimp only at hi iF ⊢;have f0:=(iF.base (0,.var (ao m)) Iw).1;have fa:=(iF.base (ai,.arr 1 (rowsOf cu D)) Iw).1;have fb:=(iF.base (bi,.arr 1 (rowsOf cu E)) Iw).1;have e0:=aM f0;have ea:=aM fa;have eb:=aM fb;dsimp only at f0 fa fb e0 ea eb;by_cases aq:i<l.length
 ·have hxm:=aG (d:=default) aq;have nD:=gj _ hxm;have e9:iD m (l.take (i+1)) (S0 m,T0 m)=jE m (l.getD i default) (iD m (l.take i) (S0 m,T0 m)):=by rw[eZ aq,Ww]
  have kC:=GL cA (l.take i) (λx hx=>gj x (qS hx));rw[e8,Nat.min_eq_left Iv]at kC;generalize iD m (l.take i) (S0 m,T0 m)=g at *;generalize cW:l.getD i default=x at *;have LB:=nD;unfold iC at LB;rw[aZ,decide_eq_true_eq]at LB;obtain⟨⟨x1,x2,x3,x4,x5,x6⟩,l'⟩:=LB;obtain⟨o1,o2,o3,o4⟩:=kR.1 l';have dN:=jQ cA.pr _ (aG (l:=m.ae) (i:=x.pair.toNat) (d:=default) Iv);obtain⟨LC,LD,LF,DY⟩:=DV dN;have hlF:=cA.opt _ (aG (l:=m.cls) (i:=(m.ae.getD x.pair.toNat default).fst.toNat) (d:=default) Iv);have hlS:=cA.opt _ (aG (l:=m.cls) (i:=(m.ae.getD x.pair.toNat default).snd.toNat) (d:=default) Iv);obtain⟨rL,DZ⟩:=iF.rE.row x.pair.toNat Iv;obtain⟨lz,yG⟩:=iF.rD.row (eK m x).toNat Iv;have qe:=aM rL;have qd:=aM lz;have G9:=kC.sl (eK m x).toNat Iv;have BO:=kC.tl x.pair.toNat Iv;have amh:(List.getD E x.pair.toNat default).1=(List.getD E x.pair.toNat default).1:=rfl;by_cases hs:x.side=0
  ·have hc:eK m x=(m.ae.getD x.pair.toNat default).fst:=by unfold eK;rw[if_pos hs]
   rw[hc]at lz yG qd G9 o1 o2 o4;have sd:=iN lz;have kN:=(sZ kC.sb (m.ae.getD x.pair.toNat default).fst.toNat).get Iv x.opt.toNat;have hF:nI m x=(λk:Nat=>(x.opt*(m.cls.getD (m.ae.getD x.pair.toNat default).snd.toNat default).length+k).toNat,(m.cls.getD (m.ae.getD x.pair.toNat default).snd.toNat default).length):=by unfold nI;rw[if_pos hs]
   have xf:jE m x g=(g.1.set (m.ae.getD x.pair.toNat default).fst.toNat (jn (g.1.getD (m.ae.getD x.pair.toNat default).fst.toNat default) x.opt.toNat x.amt),g.2.set x.pair.toNat (gv (nI m x).1 x.amt (nI m x).2 (g.2.getD x.pair.toNat default))):=by unfold jE;rw[hc]
   have BX:=(iF.zR (j:=(m.ae.getD x.pair.toNat default).fst.toNat) Iv (r:=jn (g.1.getD (m.ae.getD x.pair.toNat default).fst.toNat default) x.opt.toNat x.amt) (w7 _ _ _)).vars (bK ..) (.var (aO x)) (.var (aH (m.ae.getD x.pair.toNat default))) Iw Iw;generalize cr:m.ae.getD x.pair.toNat default=p at *;generalize D0:(m.cls.getD p.snd.toNat default).length=dg at *;((repeat'(first|refine Va (X5 @f0 @fa @fb @e0 (X5 @ea @eb @cW @cr (X5 @D0 @aO.eq_1 @aH.eq_1 @aQ.eq_1 (X5 @cu.eq_1 @iW.eq_1 @rL @lz (X5 @qe @qd @sd @bF (X5 @GH @bC.{0} @iT @iq @bE.{0})))))) ?_|(refine Xi ?_ ?_<;>try intro ht)|exact Xx|fail)))
   rw[hF]at xf;dsimp only at xf;refine aU (λz:Nat×List Ob=>(⟨an [(1,.tree 1 (rowsOf aA left)),(2,.tree 4 (rowsOf aO l)),(3,.ptr 0 0 0),(10,.ref ai 1 0 D.length),(11,.ref bi 1 0 E.length),(14,NX i),(15,.ptr os.length 0 0),(18,NX dg),(19,.ref (E.getD x.pair.toNat default).1 2 0 (E.getD x.pair.toNat default).2),(20,NX z.1)],z.2⟩:St))
    (λz=>z.1<=dg/\LO iW ((os.length,.var (aO x))::(os.length+1,.var (aH p))::[(0,.var (ao m)),(ai,.arr 1 (rowsOf cu D)),(bi,.arr 1 (rowsOf cu E))]) D E (g.1.set p.fst.toNat (jn (g.1.getD p.fst.toNat default) x.opt.toNat x.amt)) (g.2.set x.pair.toNat (gv (λk:Nat=>(x.opt*dg+k).toNat) x.amt z.1 (g.2.getD x.pair.toNat default))) z.2)
    (λz=>dg-z.1) (0,_) ⟨aT _,by rw[gv,zS];exact BX⟩ (Xv X0) ?_
   rintro⟨k,ok⟩⟨hk,jS⟩c7 br bx;dsimp only at hk jS ⊢;have fx:=(jS.base (os.length,.var (aO x)) Iw).1;dsimp only at fx;obtain⟨rM,Ab⟩:=jS.rE.row x.pair.toNat Iv;have vO:x.pair.toNat<g.2.length:=by rw[kC.t];omega
   rw[uE _ _ _ vO]at rM Ab;have k8:=zU (λk:Nat=>(x.opt*dg+k).toNat) x.amt k (g.2.getD x.pair.toNat default);have LH:=((sZ kC.tb x.pair.toNat).sub Iv (λk:Nat=>(x.opt*dg+k).toNat) (a:=x.amt) Iv k).get Iv (x.opt*dg+k:Int).toNat;by_cases ba:k<dg
   ·have l8:=jS.yr (j:=x.pair.toNat) Iv (r:=jn (gv (λk:Nat=>(x.opt*dg+k).toNat) x.amt k (g.2.getD x.pair.toNat default)) (x.opt*dg+k:Int).toNat (-x.amt)) (by rw[uE _ _ _ vO];exact w7 _ _ _);rw[wE]at l8;obtain⟨LI,LJ,LK,LL⟩:=G7 (a:=x.opt) (k:=(k:Int)) (c:=(dg:Int)) (n:=((m.cls.getD p.fst.toNat default).length:Int)) ⟨o3,o4⟩ Iv Iv Iv;generalize uL:(x.opt*dg+k:Int)=ix at *;generalize iA:gv (λk:Nat=>(x.opt*dg+k).toNat) x.amt k (g.2.getD x.pair.toNat default)=tk at *;((repeat'(first|refine Va (X5 @fx @cW @rM @aO.eq_1 (X4 @iW.eq_1 @GH @uL @Int.sub_eq_add_neg)) ?_|(refine Xi ?_ ?_<;>try intro ht)|exact Xx|fail)))
    refine br _ (k+1,_) ⟨NN,by rw[gv,iA,uL];exact l8⟩ NN ?_;exact Xv X0
   ·have xi:k=dg:=Iv;rw[xi]at jS;((repeat'(first|refine Va X0 ?_|(refine Xi ?_ ?_<;>try intro ht)|exact Xx|fail)))
    refine bx _ _ rfl ?_;clear br bx c7;repeat(refine Xu ?_)
    refine Va X0 ?_;refine ak _ (i+1,_) ⟨NN,by rw[e9,xf];exact jS.sub Iw⟩ NN ?_;exact Xv X0
  ·have hc:eK m x=(m.ae.getD x.pair.toNat default).snd:=by unfold eK;rw[if_neg hs]
   rw[hc]at lz yG qd G9 o1 o2 o4;have sd:=iN lz;have kN:=(sZ kC.sb (m.ae.getD x.pair.toNat default).snd.toNat).get Iv x.opt.toNat;have hF:nI m x=(λk:Nat=>((k:Int)*(m.cls.getD (m.ae.getD x.pair.toNat default).snd.toNat default).length+x.opt).toNat,(m.cls.getD (m.ae.getD x.pair.toNat default).fst.toNat default).length):=by unfold nI;rw[if_neg hs]
   have xf:jE m x g=(g.1.set (m.ae.getD x.pair.toNat default).snd.toNat (jn (g.1.getD (m.ae.getD x.pair.toNat default).snd.toNat default) x.opt.toNat x.amt),g.2.set x.pair.toNat (gv (nI m x).1 x.amt (nI m x).2 (g.2.getD x.pair.toNat default))):=by unfold jE;rw[hc]
   have BX:=(iF.zR (j:=(m.ae.getD x.pair.toNat default).snd.toNat) Iv (r:=jn (g.1.getD (m.ae.getD x.pair.toNat default).snd.toNat default) x.opt.toNat x.amt) (w7 _ _ _)).vars (bK ..) (.var (aO x)) (.var (aH (m.ae.getD x.pair.toNat default))) Iw Iw;generalize cr:m.ae.getD x.pair.toNat default=p at *;generalize D0:(m.cls.getD p.snd.toNat default).length=dg at *;generalize LM:(m.cls.getD p.fst.toNat default).length=rows at *;((repeat'(first|refine Va (X5 @f0 @fa @fb @e0 (X5 @ea @eb @cW @cr (X5 @D0 @LM @aO.eq_1 @aH.eq_1 (X5 @aQ.eq_1 @cu.eq_1 @iW.eq_1 @rL (X5 @lz @qe @qd @sd (X5 @bF @GH @bC.{0} @iT (X2 @iq @bE.{0}))))))) ?_|(refine Xi ?_ ?_<;>try intro ht)|exact Xx|fail)))
   rw[hF]at xf;dsimp only at xf;refine aU (λz:Nat×List Ob=>(⟨an [(1,.tree 1 (rowsOf aA left)),(2,.tree 4 (rowsOf aO l)),(3,.ptr 0 0 0),(10,.ref ai 1 0 D.length),(11,.ref bi 1 0 E.length),(14,NX i),(15,.ptr os.length 0 0),(17,NX rows),(18,NX dg),(19,.ref (E.getD x.pair.toNat default).1 2 0 (E.getD x.pair.toNat default).2),(21,NX z.1)],z.2⟩:St))
    (λz=>z.1<=rows/\LO iW ((os.length,.var (aO x))::(os.length+1,.var (aH p))::[(0,.var (ao m)),(ai,.arr 1 (rowsOf cu D)),(bi,.arr 1 (rowsOf cu E))]) D E (g.1.set p.snd.toNat (jn (g.1.getD p.snd.toNat default) x.opt.toNat x.amt)) (g.2.set x.pair.toNat (gv (λk:Nat=>((k:Int)*dg+x.opt).toNat) x.amt z.1 (g.2.getD x.pair.toNat default))) z.2)
    (λz=>rows-z.1) (0,_) ⟨aT _,by rw[gv,zS];exact BX⟩ (Xv X0) ?_
   rintro⟨k,ok⟩⟨hk,jS⟩c7 br bx;dsimp only at hk jS ⊢;have fx:=(jS.base (os.length,.var (aO x)) Iw).1;dsimp only at fx;obtain⟨rM,Ab⟩:=jS.rE.row x.pair.toNat Iv;have vO:x.pair.toNat<g.2.length:=by rw[kC.t];omega
   rw[uE _ _ _ vO]at rM Ab;have k8:=zU (λk:Nat=>((k:Int)*dg+x.opt).toNat) x.amt k (g.2.getD x.pair.toNat default);have LH:=((sZ kC.tb x.pair.toNat).sub Iv (λk:Nat=>((k:Int)*dg+x.opt).toNat) (a:=x.amt) Iv k).get Iv ((k:Int)*dg+x.opt).toNat;by_cases ba:k<rows
   ·have l8:=jS.yr (j:=x.pair.toNat) Iv (r:=jn (gv (λk:Nat=>((k:Int)*dg+x.opt).toNat) x.amt k (g.2.getD x.pair.toNat default)) ((k:Int)*dg+x.opt).toNat (-x.amt)) (by rw[uE _ _ _ vO];exact w7 _ _ _);rw[wE]at l8;obtain⟨LI,LJ,LK,LL⟩:=G7 (a:=(k:Int)) (k:=x.opt) (c:=(dg:Int)) (n:=(rows:Int)) Iv ⟨o3,o4⟩ Iv Iv;generalize uL:((k:Int)*dg+x.opt)=ix at *;generalize iA:gv (λk:Nat=>((k:Int)*dg+x.opt).toNat) x.amt k (g.2.getD x.pair.toNat default)=tk at *;((repeat'(first|refine Va (X5 @fx @cW @rM @aO.eq_1 (X4 @iW.eq_1 @GH @uL @Int.sub_eq_add_neg)) ?_|(refine Xi ?_ ?_<;>try intro ht)|exact Xx|fail)))
    refine br _ (k+1,_) ⟨NN,by rw[gv,iA,uL];exact l8⟩ NN ?_;exact Xv X0
   ·have xi:k=rows:=Iv;rw[xi]at jS;((repeat'(first|refine Va X0 ?_|(refine Xi ?_ ?_<;>try intro ht)|exact Xx|fail)))
    refine bx _ _ rfl ?_;clear br bx c7;repeat(refine Xu ?_)
    refine Va X0 ?_;refine ak _ (i+1,_) ⟨NN,by rw[e9,xf];exact jS.sub Iw⟩ NN ?_;exact Xv X0
 rw[c8 Iv]at iF;have kC:=GL cA l gj;have ami:l.length<=2000:=Iv;generalize iD m l (S0 m,T0 m)=g at *;have BY:(∀ r∈g.1,NB lr r)/\∀ r∈g.2,NB lr r:=⟨λr hr=>(kC.sb r hr).mono (by unfold lr;omega),λr hr=>(kC.tb r hr).mono (by unfold lr;omega)⟩;((repeat'(first|refine Va @f0 ?_|(refine Xi ?_ ?_<;>try intro ht)|exact Xx|fail)))
 refine ar _ _ rfl ?_;clear ak ar Ql;repeat(refine Xu ?_)
 refine Va @f0 ?_;have iy:=hf.1;refine aU (λi:Nat=>(⟨an [(1,.tree 1 (rowsOf aA left)),(3,.ptr 0 0 0),(10,.ref ai 1 0 D.length),(11,.ref bi 1 0 E.length),(22,NX (bJ (PC left g.1 i) (0,false)).1),(23,.lit (.bool (bJ (PC left g.1 i) (0,false)).2)),(24,NX i)],os⟩:St))
  (λi=>i<=m.cls.length) (λi=>m.cls.length-i) 0 (aT _) (Xv (X5 @PC.eq_1 @bJ.eq_1 @NL @nu.{0,0} @yW.{0,0})) ?_
 rintro i hi Ql ak ar;by_cases aq:i<m.cls.length
 ·have kz:=yv _ (0,false) (KG (left:=left) (by unfold lr;decide) BY.1 i);rw[BH]at kz;have hlen:=hf.2 i Iv;have cQ:=kC.sl i aq;have D1:=Yt (g.1.getD i default) (left.getD i default) Iv (by have:=cA.opt _ (aG (d:=default) aq);omega);have oo:=Dw (g.1.getD i default) (left.getD i default) (0,false) (sZ BY.1 i) (by unfold lr;decide);have dU:bJ (PC left g.1 (i+1)) (0,false)=((bJ (PC left g.1 i) (0,false)).1+(dm (g.1.getD i default) (left.getD i default) (0,false)).1,(bJ (PC left g.1 i) (0,false)).2||!(dm (g.1.getD i default) (left.getD i default) (0,false)).2):=by
   rw[show PC left g.1 (i+1)=PC left g.1 i++[dm (g.1.getD i default) (left.getD i default) (0,false)] from yu _ i,BG]
  obtain⟨lz,yG⟩:=iF.rD.row i Iv;generalize bJ (PC left g.1 i) (0,false)=z at *;obtain⟨z1,z2⟩:=z;generalize dm (g.1.getD i default) (left.getD i default) (0,false)=q at *;obtain⟨q1,q2⟩:=q;unfold lr at kz oo;dsimp only at *;generalize fh:left.getD i default=ll at *;((repeat'(first|refine Va (X5 @f0 @fa @lz @cu.eq_1 (X2 @fh @aA.eq_1)) ?_|(refine Xi ?_ ?_<;>try intro ht)|exact Xx|fail))<;>try with_reducible intro K hK)
  cases z2<;>cases q2;all_goals
   refine vg [] D1 Iw trivial ⟨bw.fz lz (by rw[cf];exact yG.symm) Iw,.pure rfl,trivial⟩ rfl Iw ?_;((try revert hK K);(repeat'(first|refine Va (X4 @f0 @fa @lI @mK) ?_|fail)))
   refine ak _ (i+1) Iv Iv ?_;simp only[dU];exact Xv X0
 have GZ:i=m.cls.length:=Iv;rw[GZ];have G':=yv _ (0,false) (KG (left:=left) (by unfold lr;decide) BY.1 m.cls.length);rw[BH]at G';unfold lq at au;generalize bJ (PC left g.1 m.cls.length) (0,false)=zc at *;((repeat'(first|refine Va @f0 ?_|(refine Xi ?_ ?_<;>try intro ht)|exact Xx|fail)))
 refine ar _ _ rfl ?_;clear ak ar Ql;repeat(refine Xu ?_)
 refine Va @f0 ?_;clear hi aq;have Yv:LO iW [(0,.var (ao m)),(bi,.arr 1 (rowsOf cu E))] D E g.1 g.2 os:=iF.sub Iw;refine aU (λz:Nat×List Ob=>(⟨an [(1,.tree 1 (rowsOf aA left)),(3,.ptr 0 0 0),(11,.ref bi 1 0 E.length),(22,NX (bJ (PP m left g.2 z.1) zc).1),(23,.lit (.bool (bJ (PP m left g.2 z.1) zc).2)),(27,NX z.1)],z.2⟩:St))
  (λz=>z.1<=m.ae.length/\LO iW [(0,.var (ao m)),(bi,.arr 1 (rowsOf cu E))] D E g.1 g.2 z.2) (λz=>m.ae.length-z.1) (0,os) ⟨aT _,Yv⟩ (Xv (X5 @PP.eq_1 @bJ.eq_1 @NL @nu.{0,0} @yW.{0,0})) ?_
 clear iF Yv f0 fa fb e0 ea eb os;rintro⟨i,os⟩⟨hi,iF⟩Ql ak ar;dsimp only at hi iF ⊢;have f0:=(iF.base (0,.var (ao m)) Iw).1;have fb:=(iF.base (bi,.arr 1 (rowsOf cu E)) Iw).1;dsimp only at f0 fb;have e0:=aM f0;have eb:=aM fb;by_cases aq:i<m.ae.length
 ·have dN:=jQ cA.pr _ (aG (d:=default) aq);obtain⟨LC,LD,LF,DY⟩:=DV dN;have kz:=yv _ zc (KH (m:=m) (left:=left) (by unfold lr;decide) BY.2 i);rw[Dx]at kz;have dU:bJ (PP m left g.2 (i+1)) zc=((bJ (PP m left g.2 i) zc).1+(dm (g.2.getD i default) (ik m left i) (0,false)).1,(bJ (PP m left g.2 i) zc).2||!(dm (g.2.getD i default) (ik m left i) (0,false)).2):=by
   rw[show PP m left g.2 (i+1)=PP m left g.2 i++[dm (g.2.getD i default) (ik m left i) (0,false)] from yu _ i,BG]
  have oo:=Dw (g.2.getD i default) (ik m left i) (0,false) (sZ BY.2 i) (by unfold lr;decide);have Ha:=hf.2 (m.ae.getD i default).fst.toNat Iv;have rG:=hf.2 (m.ae.getD i default).snd.toNat Iv;have hoa:=cA.opt _ (aG (l:=m.cls) (i:=(m.ae.getD i default).fst.toNat) (d:=default) Iv);have bI:=cA.opt _ (aG (l:=m.cls) (i:=(m.ae.getD i default).snd.toNat) (d:=default) Iv);have cQ:=kC.tl i aq;have pJ:(g.2.getD i default).length=(ik m left i).length:=by
   unfold ik;rw[Dy,Ha,rG,cQ];have:=DY;rw[<- Int.natCast_mul]at this;exact Int.ofNat_inj.1 this
  have nk:=BT dN cA;have D1:=Yt (g.2.getD i default) (ik m left i) pJ Iv;have LN:ik m left i=qC (left.getD (m.ae.getD i default).fst.toNat default) (left.getD (m.ae.getD i default).snd.toNat default):=rfl;generalize dm (g.2.getD i default) (ik m left i) (0,false)=q at *;generalize bJ (PP m left g.2 i) zc=z at *;generalize ik m left i=pb at *;generalize cr:m.ae.getD i default=p at *;generalize D2:left.getD p.fst.toNat default=la at *;generalize vP:left.getD p.snd.toNat default=lb at *;obtain⟨z1,z2⟩:=z;obtain⟨q1,q2⟩:=q;unfold lr at kz oo G';dsimp only at dU kz oo D1 ⊢;((repeat'(first|refine Va (X4 @f0 @fb @cr @bF) ?_|(refine Xi ?_ ?_<;>try intro ht)|exact Xx|fail)))
  have Yw:LO iW ((os.length,.var (aH p))::[(0,.var (ao m)),(bi,.arr 1 (rowsOf cu E))]) D E g.1 g.2 ((os++[.var (aH p)])++[.arr 1 []]):=((iF.app _).app _).add (aM (kq _ _ _) _) Iw;refine aU (λy:Nat×List Ob×Nat×List Bool=>(⟨an [(1,.tree 1 (rowsOf aA left)),(3,.ptr 0 0 0),(11,.ref bi 1 0 E.length),(22,NX z1),(23,.lit (.bool z2)),(27,NX i),(28,.ptr os.length 0 0),(29,.ref y.2.2.1 1 0 y.2.2.2.length),(30,NX y.1)],y.2.1⟩:St))
   (λy=>y.1<=la.length/\LO iW ((os.length,.var (aH p))::[(0,.var (ao m)),(bi,.arr 1 (rowsOf cu E))]) D E g.1 g.2 y.2.1/\y.2.1[y.2.2.1]?=some (.arr 1 (bm y.2.2.2))/\os.length<y.2.2.1/\y.2.2.2=qC (la.take y.1) lb)
   (λy=>la.length-y.1) (0,(os++[.var (aH p)])++[.arr 1 []],(os++[Ob.var (aH p)]).length,[]) ⟨aT _,Yw,kq _ _ _,Iw,rfl⟩ ?_ ?_
  ·refine aF.trans (aF.nil 29 1 (by simp only[Kc,simprocAttr]) NF) ?_;exact Xv X0
  clear Yw;rintro⟨a,oy,ti,bs⟩⟨ha,BZ,eL,kd,pg⟩c7 br bx;dsimp only at ha BZ eL kd pg ⊢;have fp:=(BZ.base (os.length,.var (aH p)) Iw).1;have Yx:=(BZ.base (bi,.arr 1 (rowsOf cu E)) Iw).1;have bil:=(aR.1 fb).1;have osl:=(aR.1 f0).1;dsimp only at fp Yx;by_cases oE:a<la.length
  ·((repeat'(first|refine Va (X5 @fp @cr @D2 @aA.eq_1 @aH.eq_1) ?_|(refine Xi ?_ ?_<;>try intro ht)|exact Xx|fail)))
   have hta:=eZ oE;refine aU (λy:Nat×List Ob×Nat×List Bool=>(⟨an [(1,.tree 1 (rowsOf aA left)),(3,.ptr 0 0 0),(11,.ref bi 1 0 E.length),(22,NX z1),(23,.lit (.bool z2)),(27,NX i),(28,.ptr os.length 0 0),(29,.ref y.2.2.1 1 0 y.2.2.2.length),(30,NX a),(31,NX y.1)],y.2.1⟩:St))
    (λy=>y.1<=lb.length/\LO iW ((os.length,.var (aH p))::[(0,.var (ao m)),(bi,.arr 1 (rowsOf cu E))]) D E g.1 g.2 y.2.1/\y.2.1[y.2.2.1]?=some (.arr 1 (bm y.2.2.2))/\os.length<y.2.2.1/\y.2.2.2=bs++(lb.take y.1).map (la.getD a default && ·))
    (λy=>lb.length-y.1) (0,oy,ti,bs) ⟨aT _,BZ,eL,kd,Iw⟩ (Xv X0) ?_
   rintro⟨b,ob,tb,cs⟩⟨aV,zV,Ad,D3,iH⟩mC gG fI;dsimp only at aV zV Ad D3 iH ⊢;have D4:=(zV.base (os.length,.var (aH p)) Iw).1;dsimp only at D4;have rJ:=aM Ad;have epb:=aM D4;have stb:=iN Ad;have bG:cs.length<=24*24+24:=by
    rw[iH,pg,bE,Dy,fX,e8,e8];have:=xE (show min a la.length<=24 by omega) (show lb.length<=24 by omega);omega
   by_cases oF:b<lb.length
   ·have ahv:=eZ oF;have Yy:=((zV.kill (y:=.gone) Ad Iw (by simp only[bj,gU,or_false,forall_eq_or_imp,forall_eq];omega)).app [.arr 1 [[.lit (.bool (la.getD a false&&lb.getD b false))]],.arr 1 (bm (cs++[la.getD a false&&lb.getD b false]))]);have iP:cs++[la.getD a false&&lb.getD b false]=bs++(lb.take (b+1)).map (la.getD a default && ·):=by rw[ahv,dR,<- bC,<- iH];rfl
    have aml:=(aR.1 Ad).1;generalize hxa:la.getD a false=xa at *;generalize ahx:lb.getD b false=xb at *;cases xa;all_goals
     simp only[pT,iu]at Yy iP;((repeat'(first|refine Va (X5 @D4 @Ad @rJ @epb (X5 @stb @cr @D2 @vP (X5 @hxa @ahx @aA.eq_1 @aH.eq_1 (X5 @bF @bC.{0} @iT @iq (X3 @bE.{0} @bK.{0} @CE))))) ?_|(refine Xi ?_ ?_<;>try intro ht)|exact Xx|fail)))
     refine gG _ (b+1,_,ob.length+1,_) ⟨NN,Yy,oH _ _ _ _ _,NN,iP⟩ NN ?_;exact Xv X0
   ·rw[c8 Iv]at iH;((repeat'(first|refine Va (X5 @D4 @cr @vP @aA.eq_1 @aH.eq_1) ?_|(refine V2 (X5 @D4 @cr @vP @aA.eq_1 @aH.eq_1) ?_ ?_<;>try with_reducible intro hb)|(refine Xi ?_ ?_<;>try intro ht)|exact Xx|fail)))
    refine fI _ _ rfl ?_;clear gG fI mC;repeat(refine Xu ?_)
    refine Va X0 ?_;refine br _ (a+1,ob,tb,cs) ⟨NN,zV,Ad,D3,by rw[hta,afM,<- pg];exact iH⟩ NN ?_;exact Xv X0
  ·rw[c8 Iv,<- LN]at pg;subst pg;obtain⟨rL,DZ⟩:=BZ.rE.row i Iv;((repeat'(first|refine Va (X5 @fp @cr @D2 @aA.eq_1 @aH.eq_1) ?_|(refine Xi ?_ ?_<;>try intro ht)|exact Xx|fail)))
   refine bx _ _ rfl ?_;clear br bx c7;repeat(refine Xu ?_)
   ((refine Va (X3 @Yx @rL @cu.eq_1) ?_)<;>try with_reducible intro K hK)
   cases z2<;>cases q2;all_goals
    refine vg [] D1 Iw trivial ⟨bw.fz rL (by rw[cf];exact DZ.symm) Iw,bw.fz eL (by rw[xR]) Iw,trivial⟩ rfl Iw ?_;((try revert hK K);(repeat'(first|refine Va (X2 @lI @mK) ?_|fail)))
    refine ak _ (i+1,oy) ⟨NN,BZ.sub Iw⟩ NN ?_;simp only[dU];exact Xv X0
 have G0:i=m.ae.length:=Iv;rw[G0];have LP:=yv _ zc (KH (m:=m) (left:=left) (by unfold lr;decide) BY.2 m.ae.length);rw[Dx]at LP;generalize bJ (PP m left g.2 m.ae.length) zc=zp at *;((repeat'(first|refine Va @f0 ?_|(refine Xi ?_ ?_<;>try intro ht)|exact Xx|fail)))
 refine ar _ _ rfl ?_;clear ak ar Ql;repeat(refine Xu ?_)
 refine Va @f0 ?_;clear hi aq;refine aU (λi:Nat=>(⟨an [(1,.tree 1 (rowsOf aA left)),(3,.ptr 0 0 0),(22,NX (bJ (PK m left i) zp).1),(23,.lit (.bool (bJ (PK m left i) zp).2)),(34,NX i)],os⟩:St))
  (λi=>i<=m.aC.length) (λi=>m.aC.length-i) 0 (aT _) (Xv (X5 @PK.eq_1 @bJ.eq_1 @NL @nu.{0,0} @yW.{0,0})) ?_
 rintro i hi Ql ak ar;unfold lr at G' LP;dsimp only at G' LP;by_cases aq:i<m.aC.length
 ·have jN:=aG (d:=default) aq;obtain⟨q1,q2,q3,q4⟩:=Lj cA hf jN;have h3:=ahy m left _ cA hf jN;have DE:=C4 (λx hx=>(q1 x hx).2) left;have h4:=aeA (jO (m.aC.getD i default).aY 0 left 0-(m.aC.getD i default).most) (m.aC.getD i default).bX Iv q3;rw[ahz q3]at h4;have kz:=yv _ zp (KI cA (left:=left) i);rw[GM]at kz;have hvr:=WE (m.aC.getD i default).most (m.aC.getD i default).bX (jO (m.aC.getD i default).aY 0 left 0) q2 q3.1;have dU:bJ (PK m left (i+1)) zp=((bJ (PK m left i) zp).1+iL left (m.aC.getD i default),(bJ (PK m left i) zp).2||!!(decide ((m.aC.getD i default).bX=1099511627776)&&decide (0<iL left (m.aC.getD i default)))):=by
   rw[show PK m left (i+1)=PK m left i++[(iL left (m.aC.getD i default),!(decide ((m.aC.getD i default).bX=1099511627776)&&decide (0<iL left (m.aC.getD i default))))] from yu _ i,BG]
  unfold iL at dU;generalize bJ (PK m left i) zp=z at *;obtain⟨z1,z2⟩:=z;generalize bd:m.aC.getD i default=c at *;generalize kQ c.most c.bX (jO c.aY 0 left 0)=v at *;dsimp only at dU kz ⊢;by_cases LQ:c.bX=1099511627776;all_goals
   by_cases ni:0<v
  all_goals
   simp only[LQ,ni,decide_true,decide_false,Bool.and_true,Bool.and_false,lI,mK,Bool.or_true,Bool.or_false]at dU;cases z2
  all_goals
   ((repeat'(first|refine Vc (X3 @f0 @bd @db.eq_1) (X2 h3 h4) ?_|(refine V2 (X3 @f0 @bd @db.eq_1) ?_ ?_<;>try with_reducible intro hb)|(refine Xi ?_ ?_<;>try intro ht)|exact Xx|fail)))
   refine ak _ (i+1) Iv Iv ?_;simp only[dU];exact Xv (X4 @gt_iff_lt.{0} @ni @decide_true @decide_false)
 ·have Lm:i=m.aC.length:=Iv;rw[Lm];have Yz:=yv _ zp (KI cA (left:=left) m.aC.length);rw[GM]at Yz;generalize bJ (PK m left m.aC.length) zp=zk at *;obtain⟨k1,k2⟩:=zk;dsimp only at au Yz ⊢;((repeat'(first|refine Va @f0 ?_|(refine Xi ?_ ?_<;>try intro ht)|exact Xx|fail)))
  refine ar _ _ rfl ?_;clear ak ar Ql;repeat(refine Xu ?_)
  cases k2
  ·simp only[Bool.false_eq_true,if_false]at au;subst au;((repeat'(first|refine Vb @f0 ?_|(refine Xi ?_ ?_<;>try intro ht)|exact Xx|fail)))
   exact aS rfl rfl
  ·simp only[if_true]at au;subst au;((repeat'(first|refine Vb @f0 ?_|(refine Xi ?_ ?_<;>try intro ht)|exact Xx|fail)))
   exact aS rfl rfl
def YA{m:ah}{gi ai bi:Nat}{D E:List (Nat×Nat)}{S T:List (List Nm)}{os:List Ob}(h:LO aW (GB m gi ai bi D E) D E S T os)(x:Mv)(hx:0<=x.pair/\x.pair<m.ae.length)(oL:m.ae.length<=4000):
  Holds Tryz.prog 112 [.ptr gi 0 0,.agg (aO x)] os (NX (eK m x)) (os++[.var (aO x)]):=by
 obtain⟨fg,fa,fb⟩:=zT h;have eg:=aM fg;generalize au:eK m x=res;unfold eK at au;refine Holds.aK 28 os.length [.tmp 4] Tryz.func112 ?_;by_cases hs:x.side=0
 ·rw[if_pos hs]at au;generalize cr:m.ae.getD x.pair.toNat default=p at *;((repeat'(first|refine Vb (X5 @fg @eg @gC.eq_1 @bF (X3 @cr @aO.eq_1 @aH.eq_1)) ?_|(refine Xi ?_ ?_<;>try intro ht)|exact Xx|fail)))
  exact ed rfl Iw (by rw[au])
 ·rw[if_neg hs]at au;generalize cr:m.ae.getD x.pair.toNat default=p at *;((repeat'(first|refine Vb (X5 @fg @eg @gC.eq_1 @bF (X3 @cr @aO.eq_1 @aH.eq_1)) ?_|(refine Xi ?_ ?_<;>try intro ht)|exact Xx|fail)))
  exact ed rfl Iw (by rw[au])
def LS{os:List Ob}{id r:Nat}{row:List Nm}(h:os[id]?=some (.arr 2 (rowsOf aW row)))(hr:r<row.length)(n:Int)(lS:cS ((row.getD r default).1+n)):
  Holds Tryz.prog 113 [.ptr id r 0,NX n] os (.bu []) (os.set id (.arr 2 (rowsOf aW (jn row r n)))):=by
 unfold cS at lS;refine Holds.aK 12 os.length [] Tryz.func113 ?_;refine Vb (X3 @h @aW.eq_1 @afH) ?_;exact ed rfl Iw rfl
def ahA{m:ah}(hm:VM m){x:Mv}(h1:0<=x.pair)(h2:x.pair<m.ae.length):0<=eK m x/\eK m x<m.cls.length:=by
 obtain⟨a,b,c,_⟩:=DV (jQ hm.pr _ (aG (l:=m.ae) (i:=x.pair.toNat) (d:=default) Iv));unfold eK;split<;>omega
def ag0{m:ah}(hm:VM m){gi ai bi:Nat}{D E:List (Nat×Nat)}{S T:List (List Nm)}{os:List Ob}(h:LO aW (GB m gi ai bi D E) D E S T os){B:Int}(hg:LG m B (S,T))(x:Mv):
  cL Tryz.prog 79 [.ptr gi 0 0,.agg (aO x)] os λr ob=>r=.lit (.bool (iC m x))/\∃ l,ob=os++l:=by
 obtain⟨fg,fa,fb⟩:=zT h;have eg:=aM fg;have ea:=aM fa;have hE:=h.rE.len;have hD:=h.rD.len;have jI:S.length=m.cls.length:=hg.s;have ht1:T.length=m.ae.length:=hg.t;have oL:=hm.ae;have qG:=hm.cls;generalize au:iC m x=res;unfold iC at au;refine cL.aK 56 os.length [.tmp 4] Tryz.func79 ?_;by_cases hr:0<=x.pair/\x.pair<m.ae.length/\0<=x.side/\x.side<=1/\-268435456<=x.amt/\x.amt<=268435456
 ·rw[decide_eq_true hr,iu]at au;have bG:=YA (h.app [.gone]) x ⟨hr.1,hr.2.1⟩ oL;have eb:=aM fb;((repeat'(first|refine Vb (X5 @fg @eg @fb @eb (X3 @gC.eq_1 @bF @aO.eq_1)) ?_|(refine V2 (X5 @fg @eg @fb @eb (X3 @gC.eq_1 @bF @aO.eq_1)) ?_ ?_<;>try with_reducible intro hb)|(refine Xi ?_ ?_<;>try intro ht)|exact Xx|fail)))
  refine cp (aF.Bs 3 os.length (cells:=aO x) (by rw[kq];rfl) (by simp only[Kc,simprocAttr]) (by simp[aO])) ?_;refine cp (σ':=⟨an [(0,.ptr gi 0 0),(3,.cd (aO x))],os++[.gone]⟩) (by rw[Du];exact Xv @aO.eq_1) ?_;obtain⟨c1,c2⟩:=ahA hm hr.1 hr.2.1;obtain⟨lz,yG⟩:=h.rD.row (eK m x).toNat Iv;have qd:=aM lz;have k8:=hg.sl (eK m x).toNat Iv;have Hb:=hm.opt _ (aG (l:=m.cls) (i:=(eK m x).toNat) (d:=default) Iv);generalize D5:eK m x=c at *;obtain⟨bo,hd⟩:∃b,decide (x.opt >= 0)=b:=⟨_,rfl⟩;cases bo;all_goals
   have cZ:=hd;simp only[decide_eq_true_eq,decide_eq_false_iff_not]at cZ;have ahB:res=(decide (0<=x.opt)&&decide (x.opt<((D.getD c.toNat default).2:Int))):=by
    rw[<- au,Bool.eq_iff_iff,aZ,decide_eq_true_eq,decide_eq_true_eq,kR];dsimp only at k8;omega
   refine nY [1,5,11] (.take 0 (.take 1 (.take 2 (.take 3 (.take 6 (.take 10 (.take 11 (.three 4 (.take 5 (.both 7 (.both 8 (.both 9 (.take 12 (.take 13 (.take 14 (.take 15 (.take 16 (.take 17 (.take 18 .nil))))))) 12 (.take 9 (.take 13 (.take 14 (.take 15 (.take 16 (.take 17 (.take 18 .nil)))))))) 12 (.take 8 (.take 9 (.take 13 (.take 14 (.take 15 (.take 16 (.take 17 (.take 18 .nil))))))))) 12 (.take 7 (.take 8 (.take 9 (.take 13 (.take 14 (.take 15 (.take 16 (.take 17 (.take 18 .nil))))))))))) 7 (.three 4 (.take 5 (.both 8 (.both 9 (.take 12 (.take 13 (.take 14 (.take 15 (.take 16 (.take 17 (.take 18 .nil))))))) 12 (.take 9 (.take 13 (.take 14 (.take 15 (.take 16 (.take 17 (.take 18 .nil)))))))) 12 (.take 8 (.take 9 (.take 13 (.take 14 (.take 15 (.take 16 (.take 17 (.take 18 .nil)))))))))) 8 (.three 4 (.take 5 (.both 9 (.take 12 (.take 13 (.take 14 (.take 15 (.take 16 (.take 17 (.take 18 .nil))))))) 12 (.take 9 (.take 13 (.take 14 (.take 15 (.take 16 (.take 17 (.take 18 .nil))))))))) 9 (.both 4 (.take 5 (.take 12 (.take 13 (.take 14 (.take 15 (.take 16 (.take 17 (.take 18 .nil)))))))) 12 (.take 4 (.take 5 (.take 13 (.take 14 (.take 15 (.take 16 (.take 17 (.take 18 .nil))))))))) 12 (.take 4 (.take 5 (.take 9 (.take 13 (.take 14 (.take 15 (.take 16 (.take 17 (.take 18 .nil)))))))))) 12 (.take 4 (.take 5 (.take 8 (.take 9 (.take 13 (.take 14 (.take 15 (.take 16 (.take 17 (.take 18 .nil))))))))))) 12 (.take 4 (.take 5 (.take 7 (.take 8 (.take 9 (.take 13 (.take 14 (.take 15 (.take 16 (.take 17 (.take 18 .nil))))))))))))))))))) rfl NF (by decide +kernel) ?_;simp(disch:=omega)only[Ac,↓Pc,simprocAttr,p8,mO,lQ,lP,bZ,↓Lq,fg,eg,fa,ea,gC,cu,bF,qd,lz,aO,hd];repeat'(first|with_reducible refine cJ ?_ ?_|omega|(refine fF bG Iw ?_;simp(disch:=omega)only[Ac,↓Pc,simprocAttr,p8,mO,lQ,lP,bZ,↓Lq,fg,eg,fa,ea,gC,cu,bF,qd,lz,aO,hd,bC]))
   all_goals
    repeat(refine Xu ?_)
    ((repeat'(first|refine Vb X0 ?_|fail)))
    unfold eH;simp only[dx,du];simp(disch:=omega)only[Ac,↓Pc,simprocAttr];refine⟨.lit (.bool res),_,⟨rfl,_,rfl⟩,ed rfl Iw ?_⟩;rw[ahB];first|rfl|(rw[decide_eq_true cZ,iu])|(rw[decide_eq_false cZ,pT])
 ·rw[decide_eq_false hr,pT]at au;have eb:=aM fb;((repeat'(first|refine Vb (X5 @fg @eg @fb @eb (X3 @gC.eq_1 @bF @aO.eq_1)) ?_|(refine V2 (X5 @fg @eg @fb @eb (X3 @gC.eq_1 @bF @aO.eq_1)) ?_ ?_<;>try with_reducible intro hb)|(refine Xi ?_ ?_<;>try intro ht)|exact Xx|fail)))
  all_goals
   unfold eH;simp only[dx,du];simp(disch:=omega)only[Ac,↓Pc,simprocAttr];exact⟨.lit (.bool res),_,⟨rfl,_,rfl⟩,ed rfl Iw (by rw[<- au])⟩
def ag2{m:ah}(hm:VM m){gi ai bi:Nat}{D E:List (Nat×Nat)}{S T:List (List Nm)}{os:List Ob}(h:LO aW (GB m gi ai bi D E) D E S T os){B:Int}(hB:0<=B/\B<=4611686018427387904)(hg:LG m B (S,T))(x:Mv)(hx:iC m x=true):
  cL Tryz.prog 80 [.ptr gi 0 0,.agg (aO x)] os λr ob=>r=.bu []/\LO aW (GB m gi ai bi D E) D E (jE m x (S,T)).1 (jE m x (S,T)).2 ob/\os.length<=ob.length:=by
 obtain⟨fg,fa,fb⟩:=zT h;have eg:=aM fg;have ea:=aM fa;have eb:=aM fb;have hE:=h.rE.len;have hD:=h.rD.len;have jI:S.length=m.cls.length:=hg.s;have ht1:T.length=m.ae.length:=hg.t;have oL:=hm.ae;have qG:=hm.cls;have bS:=hx;unfold iC at bS;rw[aZ,decide_eq_true_eq]at bS;obtain⟨⟨x1,x2,x3,x4,x5,x6⟩,l'⟩:=bS;obtain⟨o1,o2,o3,o4⟩:=kR.1 l';have dN:=jQ hm.pr _ (aG (l:=m.ae) (i:=x.pair.toNat) (d:=default) Iv);obtain⟨LC,LD,LF,DY⟩:=DV dN;have hlF:=hm.opt _ (aG (l:=m.cls) (i:=(m.ae.getD x.pair.toNat default).fst.toNat) (d:=default) Iv);have hlS:=hm.opt _ (aG (l:=m.cls) (i:=(m.ae.getD x.pair.toNat default).snd.toNat) (d:=default) Iv);obtain⟨rL,DZ⟩:=h.rE.row x.pair.toNat Iv;obtain⟨lz,yG⟩:=h.rD.row (eK m x).toNat Iv;have qe:=aM rL;have qd:=aM lz;have G9:(S.getD (eK m x).toNat default).length=(m.cls.getD (eK m x).toNat default).length:=hg.sl (eK m x).toNat Iv;have BO:(T.getD x.pair.toNat default).length=(m.ae.getD x.pair.toNat default).ax.length:=hg.tl x.pair.toNat Iv;have kN:=(sZ hg.sb (eK m x).toNat).get hB.1 x.opt.toNat;dsimp only at kN;obtain⟨Hd,LU⟩:=h.rD.row (m.ae.getD x.pair.toNat default).snd.toNat Iv;obtain⟨rF1,rF2⟩:=h.rD.row (m.ae.getD x.pair.toNat default).fst.toNat Iv;have G2:(S.getD (m.ae.getD x.pair.toNat default).snd.toNat default).length=(m.cls.getD (m.ae.getD x.pair.toNat default).snd.toNat default).length:=hg.sl _ Iv;have hFl:(S.getD (m.ae.getD x.pair.toNat default).fst.toNat default).length=(m.cls.getD (m.ae.getD x.pair.toNat default).fst.toNat default).length:=hg.sl _ Iv;generalize cr:m.ae.getD x.pair.toNat default=p at *;generalize D0:(m.cls.getD p.snd.toNat default).length=dg at *;generalize LM:(m.cls.getD p.fst.toNat default).length=rows at *;refine cL.aK 95 os.length [] Tryz.func80 ?_;refine Xk ?_;refine Kf ?_;intro K hK;simp(disch:=omega)only[Ac,↓Pc,simprocAttr,fg,eg,aO];refine hK _ ?_;clear hK K;refine hn _ ?_;(try clear hn;try clear he)
 refine cp (aF.Bs 3 os.length (cells:=aO x) (by rw[kq];rfl) (by simp only[Kc,simprocAttr]) (by simp[aO])) ?_;refine cp (σ':=⟨an [(0,.ptr gi 0 0),(3,.cd (aO x))],os++[.gone]⟩) (by rw[Du];exact Xv @aO.eq_1) ?_;refine Xk ?_;refine ur ?_;intro Q hn he;refine pY ⟨an [(0,.ptr gi 0 0),(3,.cd (aO x)),(4,.ptr (os.length+1) 0 0),(5,.ref (E.getD x.pair.toNat default).1 2 0 (E.getD x.pair.toNat default).2)],os++[.gone,.var (aH p)]⟩ hn ?_ (λkey=>?_);rotate_left
 ·refine nY [6,8,14] (.take 0 (.take 1 (.take 2 (.take 3 (.take 4 (.take 5 (.take 6 (.take 7 (.take 8 (.take 9 (.take 10 (.take 11 (.take 13 (.take 14 (.both 12 (.take 15 (.both 16 (.take 17 (.take 18 (.take 19 .nil))) 17 (.both 16 (.take 18 (.take 19 .nil)) 18 (.take 16 (.take 19 .nil))))) 17 (.both 12 (.take 15 (.both 16 (.take 18 (.take 19 .nil)) 18 (.take 16 (.take 19 .nil)))) 18 (.take 12 (.take 15 (.take 16 (.take 19 .nil)))))))))))))))))))) rfl NF (by decide +kernel) ?_;simp(disch:=omega)only[Ac,↓Pc,simprocAttr,p8,mO,lQ,lP,bZ,↓Lq,fg,eg,fb,eb,gC,cu,bF,qe,rL,aO,aH,cr,bC,bE];repeat'(first|with_reducible refine cJ ?_ ?_|omega)
  all_goals
   refine key _ ?_;exact Xv (X2 @aO.eq_1 @aH.eq_1)
 (try clear hn;try clear he)
 try(try clear Q)
 have BX:LO aW (GB m gi ai bi D E) D E S T (os++[.gone,.var (aH p)]):=h.app _;have fp:(os++[Ob.gone,.var (aH p)])[os.length+1]?=some (.var (aH p)):=by rw[kS];rfl
 have bG:=YA BX x ⟨x1,x2⟩ oL;have YB:=eg [.gone,.var (aH p)];have YC:=ea [.gone,.var (aH p)];have YD:=qd [.gone,.var (aH p)];have eg1:=aM YB;have ea1:=aM YC;have ed1:=aM YD;have ep1:=aM fp;refine Xk ?_;have vL:=LS (os:=os++[Ob.gone,.var (aH p),.var (aO x)]) (id:=(D.getD (eK m x).toNat default).1) (r:=x.opt.toNat) (row:=S.getD (eK m x).toNat default) (qd _) Iv x.amt (by unfold cS;omega);have sd:=iN lz;generalize D5:eK m x=c at *;refine ur ?_;intro Q hn he;refine pY ⟨an [(0,.ptr gi 0 0),(3,.cd (aO x)),(4,.ptr (os.length+1) 0 0),(5,.ref (E.getD x.pair.toNat default).1 2 0 (E.getD x.pair.toNat default).2)],os.set (D.getD c.toNat default).1 (.arr 2 (rowsOf aW (jn (S.getD c.toNat default) x.opt.toNat x.amt)))++[.gone,.var (aH p),.var (aO x)]⟩ hn ?_ (λkey=>?_);rotate_left
 ·refine aeJ [5,10,13] (.take 0 (.take 4 (.take 5 (.four 1 (.four 2 (.four 3 (.three 6 (.take 7 (.take 8 (.take 9 (.take 10 (.take 11 (.take 12 (.take 13 (.take 14 .nil)))))))) 9 (.take 10 (.both 6 (.take 7 (.take 8 (.take 11 (.take 12 (.take 13 (.take 14 .nil)))))) 12 (.take 6 (.take 7 (.take 8 (.take 11 (.take 13 (.take 14 .nil)))))))) 12 (.take 13 (.both 6 (.take 7 (.take 8 (.take 9 (.take 10 (.take 11 (.take 14 .nil)))))) 9 (.take 6 (.take 7 (.take 8 (.take 10 (.take 11 (.take 14 .nil))))))))) 6 (.take 3 (.take 7 (.take 8 (.take 9 (.take 10 (.take 11 (.take 12 (.take 13 (.take 14 .nil))))))))) 9 (.take 10 (.three 3 (.both 6 (.take 7 (.take 8 (.take 11 (.take 12 (.take 13 (.take 14 .nil)))))) 12 (.take 6 (.take 7 (.take 8 (.take 11 (.take 13 (.take 14 .nil))))))) 6 (.take 3 (.take 7 (.take 8 (.take 11 (.take 12 (.take 13 (.take 14 .nil))))))) 12 (.take 13 (.both 3 (.take 6 (.take 7 (.take 8 (.take 11 (.take 14 .nil))))) 6 (.take 3 (.take 7 (.take 8 (.take 11 (.take 14 .nil))))))))) 12 (.take 13 (.three 3 (.both 6 (.take 7 (.take 8 (.take 9 (.take 10 (.take 11 (.take 14 .nil)))))) 9 (.take 6 (.take 7 (.take 8 (.take 10 (.take 11 (.take 14 .nil))))))) 6 (.take 3 (.take 7 (.take 8 (.take 9 (.take 10 (.take 11 (.take 14 .nil))))))) 9 (.take 10 (.both 3 (.take 6 (.take 7 (.take 8 (.take 11 (.take 14 .nil))))) 6 (.take 3 (.take 7 (.take 8 (.take 11 (.take 14 .nil)))))))))) 6 (.take 2 (.take 3 (.take 7 (.take 8 (.take 9 (.take 10 (.take 11 (.take 12 (.take 13 (.take 14 .nil)))))))))) 9 (.take 10 (.three 2 (.three 3 (.both 6 (.take 7 (.take 8 (.take 11 (.take 12 (.take 13 (.take 14 .nil)))))) 12 (.take 6 (.take 7 (.take 8 (.take 11 (.take 13 (.take 14 .nil))))))) 6 (.take 3 (.take 7 (.take 8 (.take 11 (.take 12 (.take 13 (.take 14 .nil))))))) 12 (.take 13 (.both 3 (.take 6 (.take 7 (.take 8 (.take 11 (.take 14 .nil))))) 6 (.take 3 (.take 7 (.take 8 (.take 11 (.take 14 .nil)))))))) 6 (.take 2 (.take 3 (.take 7 (.take 8 (.take 11 (.take 12 (.take 13 (.take 14 .nil)))))))) 12 (.take 13 (.both 2 (.both 3 (.take 6 (.take 7 (.take 8 (.take 11 (.take 14 .nil))))) 6 (.take 3 (.take 7 (.take 8 (.take 11 (.take 14 .nil)))))) 6 (.take 2 (.take 3 (.take 7 (.take 8 (.take 11 (.take 14 .nil)))))))))) 12 (.take 13 (.three 2 (.three 3 (.both 6 (.take 7 (.take 8 (.take 9 (.take 10 (.take 11 (.take 14 .nil)))))) 9 (.take 6 (.take 7 (.take 8 (.take 10 (.take 11 (.take 14 .nil))))))) 6 (.take 3 (.take 7 (.take 8 (.take 9 (.take 10 (.take 11 (.take 14 .nil))))))) 9 (.take 10 (.both 3 (.take 6 (.take 7 (.take 8 (.take 11 (.take 14 .nil))))) 6 (.take 3 (.take 7 (.take 8 (.take 11 (.take 14 .nil)))))))) 6 (.take 2 (.take 3 (.take 7 (.take 8 (.take 9 (.take 10 (.take 11 (.take 14 .nil)))))))) 9 (.take 10 (.both 2 (.both 3 (.take 6 (.take 7 (.take 8 (.take 11 (.take 14 .nil))))) 6 (.take 3 (.take 7 (.take 8 (.take 11 (.take 14 .nil)))))) 6 (.take 2 (.take 3 (.take 7 (.take 8 (.take 11 (.take 14 .nil))))))))))) 6 (.take 1 (.take 2 (.take 3 (.take 7 (.take 8 (.take 9 (.take 10 (.take 11 (.take 12 (.take 13 (.take 14 .nil))))))))))) 9 (.take 10 (.three 1 (.three 2 (.three 3 (.both 6 (.take 7 (.take 8 (.take 11 (.take 12 (.take 13 (.take 14 .nil)))))) 12 (.take 6 (.take 7 (.take 8 (.take 11 (.take 13 (.take 14 .nil))))))) 6 (.take 3 (.take 7 (.take 8 (.take 11 (.take 12 (.take 13 (.take 14 .nil))))))) 12 (.take 13 (.both 3 (.take 6 (.take 7 (.take 8 (.take 11 (.take 14 .nil))))) 6 (.take 3 (.take 7 (.take 8 (.take 11 (.take 14 .nil)))))))) 6 (.take 2 (.take 3 (.take 7 (.take 8 (.take 11 (.take 12 (.take 13 (.take 14 .nil)))))))) 12 (.take 13 (.both 2 (.both 3 (.take 6 (.take 7 (.take 8 (.take 11 (.take 14 .nil))))) 6 (.take 3 (.take 7 (.take 8 (.take 11 (.take 14 .nil)))))) 6 (.take 2 (.take 3 (.take 7 (.take 8 (.take 11 (.take 14 .nil))))))))) 6 (.take 1 (.take 2 (.take 3 (.take 7 (.take 8 (.take 11 (.take 12 (.take 13 (.take 14 .nil))))))))) 12 (.take 13 (.both 1 (.both 2 (.both 3 (.take 6 (.take 7 (.take 8 (.take 11 (.take 14 .nil))))) 6 (.take 3 (.take 7 (.take 8 (.take 11 (.take 14 .nil)))))) 6 (.take 2 (.take 3 (.take 7 (.take 8 (.take 11 (.take 14 .nil))))))) 6 (.take 1 (.take 2 (.take 3 (.take 7 (.take 8 (.take 11 (.take 14 .nil))))))))))) 12 (.take 13 (.three 1 (.three 2 (.three 3 (.both 6 (.take 7 (.take 8 (.take 9 (.take 10 (.take 11 (.take 14 .nil)))))) 9 (.take 6 (.take 7 (.take 8 (.take 10 (.take 11 (.take 14 .nil))))))) 6 (.take 3 (.take 7 (.take 8 (.take 9 (.take 10 (.take 11 (.take 14 .nil))))))) 9 (.take 10 (.both 3 (.take 6 (.take 7 (.take 8 (.take 11 (.take 14 .nil))))) 6 (.take 3 (.take 7 (.take 8 (.take 11 (.take 14 .nil)))))))) 6 (.take 2 (.take 3 (.take 7 (.take 8 (.take 9 (.take 10 (.take 11 (.take 14 .nil)))))))) 9 (.take 10 (.both 2 (.both 3 (.take 6 (.take 7 (.take 8 (.take 11 (.take 14 .nil))))) 6 (.take 3 (.take 7 (.take 8 (.take 11 (.take 14 .nil)))))) 6 (.take 2 (.take 3 (.take 7 (.take 8 (.take 11 (.take 14 .nil))))))))) 6 (.take 1 (.take 2 (.take 3 (.take 7 (.take 8 (.take 9 (.take 10 (.take 11 (.take 14 .nil))))))))) 9 (.take 10 (.both 1 (.both 2 (.both 3 (.take 6 (.take 7 (.take 8 (.take 11 (.take 14 .nil))))) 6 (.take 3 (.take 7 (.take 8 (.take 11 (.take 14 .nil)))))) 6 (.take 2 (.take 3 (.take 7 (.take 8 (.take 11 (.take 14 .nil))))))) 6 (.take 1 (.take 2 (.take 3 (.take 7 (.take 8 (.take 11 (.take 14 .nil))))))))))))))) rfl NF (by decide +kernel) ?_;simp(disch:=omega)only[Ac,↓Pc,simprocAttr,uy,ux,uw,uv,sS,bZ,↓Lq,eg,ea,gC,cu,bF,qd,aO];repeat'(first|with_reducible refine cJ ?_ ?_|omega|(refine fF bG Iw ?_;simp(disch:=omega)only[Ac,↓Pc,simprocAttr,uy,ux,uw,uv,sS,bZ,↓Lq,eg,ea,gC,cu,bF,qd,aO,bC])|(refine fF vL Iw ?_;simp(disch:=omega)only[Ac,↓Pc,simprocAttr,sS,sd,bC]))
  all_goals
   refine key _ ?_;exact Xv @aO.eq_1
 (try clear hn;try clear he)
 try(try clear Q)
 have l8:=(h.zR (j:=c.toNat) Iv (r:=jn (S.getD c.toNat default) x.opt.toNat x.amt) (w7 _ _ _)).app [.gone,.var (aH p),.var (aO x)];have Lb:os.length<=(os.set (D.getD c.toNat default).1 (.arr 2 (rowsOf aW (jn (S.getD c.toNat default) x.opt.toNat x.amt)))++[Ob.gone,Ob.var (aH p),Ob.var (aO x)]).length:=Iw;have YE:(os.set (D.getD c.toNat default).1 (.arr 2 (rowsOf aW (jn (S.getD c.toNat default) x.opt.toNat x.amt)))++[Ob.gone,Ob.var (aH p),Ob.var (aO x)])[os.length+1]?=some (.var (aH p)):=oH _ _ _ _ _;have hmS:jE m x (S,T)=(S.set c.toNat (jn (S.getD c.toNat default) x.opt.toNat x.amt),T.set x.pair.toNat (gv (nI m x).1 x.amt (nI m x).2 (T.getD x.pair.toNat default))):=by unfold jE;rw[D5]
 rw[hmS];dsimp only;have vO:x.pair.toNat<T.length:=Iv;have He:nI m x=if x.side=0 then(λk:Nat=>(x.opt*dg+k).toNat,dg) else(λk:Nat=>((k:Int)*dg+x.opt).toNat,rows):=by unfold nI;rw[cr,D0,LM]
 have Hf:c=if x.side=0 then p.fst else p.snd:=by rw[<- D5];unfold eK;rw[cr]
 have LV:=sZ hg.tb x.pair.toNat;dsimp only at LV;have nk:=BT dN hm;generalize hS':S.set c.toNat (jn (S.getD c.toNat default) x.opt.toNat x.amt)=S' at *;generalize os.set (D.getD c.toNat default).1 (.arr 2 (rowsOf aW (jn (S.getD c.toNat default) x.opt.toNat x.amt)))++[Ob.gone,.var (aH p),.var (aO x)]=tv at *;obtain⟨gg,ga,gb⟩:=zT l8;obtain⟨u1,u2⟩:=l8.rD.row p.snd.toNat Iv;obtain⟨v1,v2⟩:=l8.rD.row p.fst.toNat Iv;clear fg eg fa ea fb eb rL lz qe qd Hd rF1 BX fp bG YB YC YD eg1 ea1 ed1 ep1 vL sd h;have wY:(D.getD p.snd.toNat default).2=dg:=by rw[<- LU];exact G2
 have YF:(D.getD p.fst.toNat default).2=rows:=by rw[<- rF2];exact hFl
 by_cases hs:x.side=0
 ·rw[if_pos hs]at Hf He;rw[Hf]at o4;rw[He];dsimp only;((repeat'(first|refine Vb (X5 @gg @ga @gC.eq_1 @cu.eq_1 (X5 @YE @aH.eq_1 @u1 @v1 (X3 @wY @YF @aO.eq_1))) ?_|(refine Xi ?_ ?_<;>try intro ht)|exact Xx|fail)))
  refine aU (λz:Nat×List Ob=>(⟨an [(3,.cd (aO x)),(5,.ref (E.getD x.pair.toNat default).1 2 0 (E.getD x.pair.toNat default).2),(6,NX dg),(53,NX dg),(54,NX z.1)],z.2⟩:St))
   (λz=>z.1<=dg/\LO aW (GB m gi ai bi D E) D E S' (T.set x.pair.toNat (gv (λk:Nat=>(x.opt*dg+k).toNat) x.amt z.1 (T.getD x.pair.toNat default))) z.2/\os.length<=z.2.length)
   (λz=>dg-z.1) (0,tv) ⟨aT _,by rw[gv,zS];exact l8,Lb⟩ (Xv @aO.eq_1) ?_
  rintro⟨k,ok⟩⟨hk,jS,jL⟩Ql ak ar;dsimp only at hk jS jL ⊢;obtain⟨rM,Ab⟩:=jS.rE.row x.pair.toNat Iv;rw[uE _ _ _ vO]at rM Ab;have k8:=zU (λk:Nat=>(x.opt*dg+k).toNat) x.amt k (T.getD x.pair.toNat default);have LH:=(LV.sub Iv (λk:Nat=>(x.opt*dg+k).toNat) (a:=x.amt) Iv k).get Iv (x.opt*dg+k:Int).toNat;by_cases ba:k<dg
  ·have l9:=jS.yr (j:=x.pair.toNat) Iv (r:=jn (gv (λk:Nat=>(x.opt*dg+k).toNat) x.amt k (T.getD x.pair.toNat default)) (x.opt*dg+k:Int).toNat (-x.amt)) (by rw[uE _ _ _ vO];exact w7 _ _ _);rw[wE]at l9;obtain⟨LI,LJ,LK,LL⟩:=G7 (a:=x.opt) (k:=(k:Int)) (c:=(dg:Int)) (n:=(rows:Int)) ⟨o3,Iv⟩ Iv Iv Iv;generalize uL:(x.opt*dg+k:Int)=ix at *;generalize iA:gv (λk:Nat=>(x.opt*dg+k).toNat) x.amt k (T.getD x.pair.toNat default)=tk at *;have vL:=LS rM (r:=ix.toNat) Iv (-x.amt) (by unfold cS;omega);((repeat'(first|refine Va (X3 @rM @aO.eq_1 @uL) ?_|(refine Xi ?_ ?_<;>try intro ht)|exact Xx|fail))<;>try with_reducible intro K hK)
   refine fF vL Iw ?_;((try revert hK K);(refine Va X0 ?_))
   refine ak _ (k+1,_) ⟨NN,by rw[gv,iA,uL];exact l9,by dsimp only;rw[bK];exact jL⟩ NN ?_;exact Xv @aO.eq_1
  ·have xi:k=dg:=Iv;rw[xi]at jS;((repeat'(first|refine Va X0 ?_|(refine Xi ?_ ?_<;>try intro ht)|exact Xx|fail)))
   refine ar _ _ rfl ?_;clear ak ar Ql;repeat(refine Xu ?_)
   refine Vb X0 ?_;unfold eH;simp only[dx,du];exact⟨.bu [],_,⟨rfl,jS,jL⟩,ed rfl jL rfl⟩
 ·rw[if_neg hs]at Hf He;rw[Hf]at o4;rw[He];dsimp only;((repeat'(first|refine Vb (X5 @gg @ga @gC.eq_1 @cu.eq_1 (X5 @YE @aH.eq_1 @u1 @v1 (X3 @wY @YF @aO.eq_1))) ?_|(refine Xi ?_ ?_<;>try intro ht)|exact Xx|fail)))
  refine aU (λz:Nat×List Ob=>(⟨an [(3,.cd (aO x)),(5,.ref (E.getD x.pair.toNat default).1 2 0 (E.getD x.pair.toNat default).2),(6,NX dg),(78,NX rows),(79,NX z.1)],z.2⟩:St))
   (λz=>z.1<=rows/\LO aW (GB m gi ai bi D E) D E S' (T.set x.pair.toNat (gv (λk:Nat=>((k:Int)*dg+x.opt).toNat) x.amt z.1 (T.getD x.pair.toNat default))) z.2/\os.length<=z.2.length)
   (λz=>rows-z.1) (0,tv) ⟨aT _,by rw[gv,zS];exact l8,Lb⟩ (Xv @aO.eq_1) ?_
  rintro⟨k,ok⟩⟨hk,jS,jL⟩Ql ak ar;dsimp only at hk jS jL ⊢;obtain⟨rM,Ab⟩:=jS.rE.row x.pair.toNat Iv;rw[uE _ _ _ vO]at rM Ab;have k8:=zU (λk:Nat=>((k:Int)*dg+x.opt).toNat) x.amt k (T.getD x.pair.toNat default);have LH:=(LV.sub Iv (λk:Nat=>((k:Int)*dg+x.opt).toNat) (a:=x.amt) Iv k).get Iv ((k:Int)*dg+x.opt).toNat;by_cases ba:k<rows
  ·have l9:=jS.yr (j:=x.pair.toNat) Iv (r:=jn (gv (λk:Nat=>((k:Int)*dg+x.opt).toNat) x.amt k (T.getD x.pair.toNat default)) ((k:Int)*dg+x.opt).toNat (-x.amt)) (by rw[uE _ _ _ vO];exact w7 _ _ _);rw[wE]at l9;obtain⟨LI,LJ,LK,LL⟩:=G7 (a:=(k:Int)) (k:=x.opt) (c:=(dg:Int)) (n:=(rows:Int)) Iv ⟨o3,Iv⟩ Iv Iv;generalize uL:((k:Int)*dg+x.opt)=ix at *;generalize iA:gv (λk:Nat=>((k:Int)*dg+x.opt).toNat) x.amt k (T.getD x.pair.toNat default)=tk at *;have vL:=LS rM (r:=ix.toNat) Iv (-x.amt) (by unfold cS;omega);((repeat'(first|refine Va (X3 @rM @aO.eq_1 @uL) ?_|(refine Xi ?_ ?_<;>try intro ht)|exact Xx|fail))<;>try with_reducible intro K hK)
   refine fF vL Iw ?_;((try revert hK K);(refine Va X0 ?_))
   refine ak _ (k+1,_) ⟨NN,by rw[gv,iA,uL];exact l9,by dsimp only;rw[bK];exact jL⟩ NN ?_;exact Xv @aO.eq_1
  ·have xi:k=rows:=Iv;rw[xi]at jS;((repeat'(first|refine Va X0 ?_|(refine Xi ?_ ?_<;>try intro ht)|exact Xx|fail)))
   refine ar _ _ rfl ?_;clear ak ar Ql;repeat(refine Xu ?_)
   ((skip))
   unfold eH;simp only[dx,du];exact⟨.bu [],_,⟨rfl,jS,jL⟩,ed rfl jL rfl⟩
end T

