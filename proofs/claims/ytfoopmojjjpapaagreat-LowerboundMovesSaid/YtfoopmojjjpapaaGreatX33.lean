import Derived.Test.YtfoopmojjjpapaaGreatX32
set_option linter.all false
set_option maxHeartbeats 0
set_option maxRecDepth 20000
open Nat renaming zero_le→aT,mul_le_mul→u6,sub_self→iT,add_zero→iq
open List renaming getD_eq_getElem?_getD→aB,getElem?_map→b9,getElem?_eq_getElem→bT,length_take→e8,take_zero→nU,map_nil→nu,foldl_nil→yY,mem_of_mem_take→qT,take_of_length_le→c8,mem_append→cC,mem_singleton→cU,length_map→fW,append_assoc→bC,length_append→bF,length_set→bK,getElem?_eq_some_iff→aR,map_append→dS,nodup_append→pV,mem_cons→bj,not_mem_nil→gU,set_set→wG,range_zero→NO
open Bool renaming true_and→iu,false_and→pU,and_eq_true→aZ,not_false→mK,not_true→lI
open And renaming intro→cK
open Go Go.Am Go.Proofs
namespace T
def ahm(l:List cg)(R:Int)(hl:l.length<=24)(ng:∀ o∈l,eh R none o.ch=true)(hlen:∀ o∈l,o.ch.length<=100):Holds Tryz.prog 46 [.tree 6 (rowsOf b6 l)] [] (.tree 1 (ints (bV l))) []:=by
 refine Holds.aK 39 0 [.tmp 2] Tryz.func46 ?_;refine Vb X0 ?_;refine aU (λz:Nat×List Int=>(⟨an [(0,.tree 6 (rowsOf b6 l)),(3,.ref 0 1 0 z.2.length),(4,N0 z.1)],[.arr 1 (ints z.2)]⟩:St)) (λz=>z.1<=l.length/\z.2=(bV l).take z.1) (λz=>l.length-z.1) (0,[]) ⟨aT _,rfl⟩ ?_ ?_
 ·refine aF.trans (aF.nil 3 1 (by simp only[Kc,simprocAttr]) NI) ?_;exact Xv X0
 rintro⟨i,xs⟩⟨hi,dq⟩Ql ak ar;dsimp only at hi dq ⊢;have mV:(bV l).length=l.length:=by unfold bV;simp
 by_cases aq:i<l.length
 ·have e9:=eZ (l:=bV l) (k:=i) Ix;have oM:(bV l).getD i default=qC (l.getD i default):=by
   unfold bV;rw[aB,b9,aB,bT aq];rfl
  have fJ:=aG (l:=l) (d:=default) aq;have hc:=GG (ng _ fJ);have hle:=hlen _ fJ;have a6:xs.length=i:=by rw[dq,e8];omega
  rw[oM,<- dq]at e9;generalize tv:l.getD i default=o at *;((repeat'(first|refine Va @tv ?_|(refine Xi ?_ ?_<;>try intro ht)|exact Xx|fail)))
  refine aU (λk:Nat=>(⟨an [(0,.tree 6 (rowsOf b6 l)),(3,.ref 0 1 0 xs.length),(4,N0 i),(5,N0 (((o.ch.take k).map (·.2)).foldl dZ 0)),(6,N0 k)],[.arr 1 (ints xs)]⟩:St)) (λk=>k<=o.ch.length) (λk=>o.ch.length-k) 0 (aT _) (Xv (X3 @nU.{0} @nu.{0,0} @yY.{0,0})) ?_;rintro k hk c7 br bx;have hs:=Du ((o.ch.take k).map (·.2)) 0 (λx hx=>by
   obtain⟨c,fD,rfl⟩:=List.mem_map.1 hx;exact hc c (qT fD)) (by unfold bM;decide)
  by_cases ba:k<o.ch.length
  ·have bc:=hc _ (aG (d:=default) ba);have dU:=Ww o.ch k ba;generalize ((o.ch.take k).map (·.2)).foldl dZ 0=s at *;have vN:=aeC s (o.ch.getD k default).2 hs bc;generalize cW:o.ch.getD k default=x at *;((repeat'(first|refine Vc (X4 @tv @cW @b6.eq_1 @dm.eq_1) vN ?_|(refine Xi ?_ ?_<;>try intro ht)|exact Xx|fail)))
   exact br _ (k+1) Ix Ix (by simp only[dU];exact Xv X0)
  ·have kD:((o.ch.take k).map (·.2)).foldl dZ 0=qC o:=by rw[c8 Ix];rfl
   rw[kD]at hs;generalize ((o.ch.take k).map (·.2)).foldl dZ 0=s at *;((repeat'(first|refine Va (X2 @tv @b6.eq_1) ?_|(refine Xi ?_ ?_<;>try intro ht)|exact Xx|fail)))
   refine bx _ _ rfl ?_;clear br bx c7;repeat(refine Xu ?_)
   refine Va X0 ?_;refine ak _ (i+1,xs++[s]) ⟨NQ,by rw[e9,<- kD]⟩ NQ ?_;exact Xs false [2] X0
 ·rw[c8 Ix]at dq;subst dq;((repeat'(first|refine Va X0 ?_|(refine Xi ?_ ?_<;>try intro ht)|exact Xx|fail)))
  refine ar _ _ rfl ?_;clear ak ar Ql;repeat(refine Xu ?_)
  refine Vb X0 ?_;exact Xw true [] X0
def Yw(l:List Int)(hl:l.length<=1000):Holds Tryz.prog 45 [.tree 1 (ints l)] [] (.ref 0 2 0 (dy l).length) [.arr 2 (rowsOf iW (dy l))]:=by
 refine Holds.aK 25 0 [.tmp 2] Tryz.func45 ?_;refine Vb X0 ?_;refine aU (λz:Nat×List Nm=>(⟨an [(0,.tree 1 (ints l)),(3,.ref 0 2 0 z.2.length),(4,N0 z.1)],[.arr 2 (rowsOf iW z.2)]⟩:St)) (λz=>z.1<=l.length/\z.2=(dy l).take z.1) (λz=>l.length-z.1) (0,[]) ⟨aT _,rfl⟩ ?_ ?_
 ·refine aF.trans (aF.nil 3 2 (by simp only[Kc,simprocAttr]) NI) ?_;exact Xv X0
 rintro⟨i,xs⟩⟨hi,dq⟩Ql ak ar;dsimp only at hi dq ⊢;have mV:(dy l).length=l.length:=by unfold dy;simp
 by_cases aq:i<l.length
 ·have e9:=eZ (l:=dy l) (k:=i) Ix;have oM:(dy l).getD i default=ez (l.getD i 0):=by
   unfold dy;rw[aB,b9,aB,bT aq];rfl
  have a6:xs.length=i:=by rw[dq,e8];omega
  rw[oM,<- dq]at e9;generalize tv:l.getD i 0=o at *;((repeat'(first|refine Va @tv ?_|(refine Xi ?_ ?_<;>try intro ht)|exact Xx|fail)))
  refine ak _ (i+1,xs++[ez o]) ⟨NQ,e9.symm⟩ NQ ?_;have eno:[[AV.lit (.bool (decide (o >= 1099511627776))),AV.lit (.int .i64 o)]]=rowsOf iW [ez o]:=rfl;exact Xs false [2] (X2 @eno @JV)
 ·rw[c8 Ix]at dq;subst dq;((repeat'(first|refine Va X0 ?_|(refine Xi ?_ ?_<;>try intro ht)|exact Xx|fail)))
  refine ar _ _ rfl ?_;clear ak ar Ql;repeat(refine Xu ?_)
  refine Vb X0 ?_;exact Xw false [0] X0
def Yx(l:List Nm)(s:List Bool)(hl:l.length=s.length)(fh:l.length<9223372036854775808):Holds Tryz.prog 47 [.tree 2 (rowsOf iW l),.tree 1 (bm s)] [] (.bu [N0 (dp l s (0,false)).1,.lit (.bool (dp l s (0,false)).2)]) []:=by
 refine Holds.aK 47 0 [.tmp 4,.tmp 5] Tryz.func47 ?_;refine Vb X0 ?_;refine aU (λi:Nat=>(⟨an [(0,.tree 2 (rowsOf iW l)),(1,.tree 1 (bm s)),(6,N0 (dp (l.take i) (s.take i) (0,false)).1),(7,.lit (.bool (dp (l.take i) (s.take i) (0,false)).2)),(8,N0 i)],[]⟩:St)) (λi=>i<=l.length) (λi=>l.length-i) 0 (aT _) (Xv (X2 @nU.{0} (X2 @dp.eq_1 @dp.eq_2))) ?_;rintro i hi Ql ak ar;by_cases aq:i<l.length
 ·have h1:=eZ aq;have h2:=eZ (l:=s) (k:=i) Ix;have h3:=Wy (l.getD i default) (s.getD i default) (l.take i) (s.take i) (0,false) (by rw[e8,e8];omega);rw[<- h1,<- h2]at h3;have sW:s.getD i default=s.getD i false:=rfl;rw[sW]at h3;generalize dp (l.take i) (s.take i) (0,false)=b at *;generalize cu:l.getD i default=p at *;generalize vP:s.getD i false=is at *;unfold Wx at h3;obtain⟨b1,b2⟩:=b;obtain⟨p1,p2⟩:=p;dsimp only at h3 ⊢;by_cases a6:p1<b1;all_goals
   cases is<;>cases p2<;>cases b2
  all_goals
   simp[a6]at h3;((repeat'(first|refine Va (X3 @cu @vP @iW.eq_1) ?_|(refine Xi ?_ ?_<;>try intro ht)|exact Xx|fail)))
   all_goals
    refine ak _ (i+1) Ix Ix ?_;simp only[h3];exact Xv X0
 ·((repeat'(first|refine Va X0 ?_|(refine V2 X0 ?_ ?_<;>try with_reducible intro hb)|(refine Xi ?_ ?_<;>try intro ht)|exact Xx|fail)))
  refine ar _ _ rfl ?_;clear ak ar Ql;repeat(refine Xu ?_)
  rw[c8 Ix,c8 Ix];refine Vb X0 ?_;exact aS rfl rfl
def Ym(l:List Nm)(fh:l.length<9223372036854775808):Holds Tryz.prog 114 [.tree 2 (rowsOf aW l)] [] (.agg (aW (sZ l))) []:=by
 refine Holds.aK 30 0 [.cell 2 182] Tryz.func114 ?_;refine Vb X0 ?_;refine aU (λi:Nat=>(⟨an [(2,.ptr 0 0 0),(3,.ptr 1 0 0),(7,.tree 2 (rowsOf aW l)),(8,N0 l.length),(9,N0 i)],[.var [N0 0,.lit (.bool false)],.var (aW (sZ (l.take i)))]⟩:St)) (λi=>i<=l.length) (λi=>l.length-i) 0 (aT _) (Xv @nU.{0}) ?_;rintro i hi Ql ak ar;by_cases aq:i<l.length
 ·have h1:=eZ aq;have h3:=afJ (l.take i) (l.getD i default);rw[<- h1]at h3;generalize sZ (l.take i)=b at *;generalize cu:l.getD i default=p at *;unfold BF at h3;obtain⟨b1,b2⟩:=b;obtain⟨p1,p2⟩:=p;dsimp only at h3 ⊢;unfold aW;dsimp only;by_cases a6:p1<b1;all_goals
   cases p2<;>cases b2
  all_goals
   simp[a6]at h3;((repeat'(first|refine Va (X2 @cu @aW.eq_1) ?_|(refine Xi ?_ ?_<;>try intro ht)|exact Xx|fail)))
   all_goals
    refine ak _ (i+1) Ix Ix ?_;simp only[h3];exact Xs false [0,1] @aW.eq_1
 ·((repeat'(first|refine Va @aW.eq_1 ?_|(refine V2 @aW.eq_1 ?_ ?_<;>try with_reducible intro hb)|(refine Xi ?_ ?_<;>try intro ht)|exact Xx|fail)))
  refine ar _ _ rfl ?_;clear ak ar Ql;repeat(refine Xu ?_)
  rw[c8 Ix];refine Vb @aW.eq_1 ?_;simp(disch:=omega)only[Ac,↓Pc,simprocAttr,aW,dv];exact aS rfl rfl
def aho(m:ah)(x:Mv)(hm:VM m):Holds Tryz.prog 44 [.agg (ao m),.agg (aO x)] [] (.lit (.bool (iC m x))) []:=by
 have uk:=hm.ae;have ho:=TF m (eK m x) x.opt;generalize au:iC m x=res;unfold iC at au;unfold eK at au ho;refine Holds.aK 58 0 [.tmp 4] Tryz.func44 ?_;by_cases hr:0<=x.pair/\x.pair<m.ae.length/\0<=x.side/\x.side<=1/\-268435456<=x.amt/\x.amt<=268435456
 ·rw[decide_eq_true hr,iu]at au;generalize cu:m.ae.getD x.pair.toNat default=p at *;by_cases hs:x.side=0
  ·rw[if_pos hs]at au ho;rw[au]at ho;((repeat'(first|refine Vd (X3 @cu @aO.eq_1 @aH.eq_1) ho ?_|(refine V2 (X3 @cu @aO.eq_1 @aH.eq_1) ?_ ?_<;>try with_reducible intro hb)|(refine Xi ?_ ?_<;>try intro ht)|exact Xx|fail)))
   all_goals exact aS rfl rfl
  ·rw[if_neg hs]at au ho;rw[au]at ho;((repeat'(first|refine Vd (X3 @cu @aO.eq_1 @aH.eq_1) ho ?_|(refine V2 (X3 @cu @aO.eq_1 @aH.eq_1) ?_ ?_<;>try with_reducible intro hb)|(refine Xi ?_ ?_<;>try intro ht)|exact Xx|fail)))
   all_goals exact aS rfl rfl
 ·rw[decide_eq_false hr,pU]at au;((repeat'(first|refine Vb (X2 @aO.eq_1 @aH.eq_1) ?_|(refine V2 (X2 @aO.eq_1 @aH.eq_1) ?_ ?_<;>try with_reducible intro hb)|(refine Xi ?_ ?_<;>try intro ht)|exact Xx|fail)))
  all_goals exact aS rfl (by rw[au])
def Yt{m:ah}(hm:VM m){c:List cg}(hc:c∈m.cls){o:cg}(ho:o∈c):o.ch.length<=100:=by
 have h:=hm.rz c hc o ho;have hr:=hm.uA;cases ng:o.ch with
 |nil=>simp
 |cons x r =>
  rw[ng,eh]at h;simp only[aZ,decide_eq_true_eq,jA]at h;rcases Ks h.2 with rfl|h2
  ·simp
  ·simp only[List.length_cons];omega
def BX{m:ah}{p:Pr}(hp:gB m p=true)(hm:VM m):p.ax.length<=576:=by
 unfold gB at hp;simp only[aZ,decide_eq_true_eq]at hp;obtain⟨⟨_,h1,h2,h3,h4⟩,_⟩:=hp;have a:=hm.opt _ (aG (l:=m.cls) (i:=p.fst.toNat) (d:=default) Ix);have b:=hm.opt _ (aG (l:=m.cls) (i:=p.snd.toNat) (d:=default) Ix);have:=u6 a b;have e:(p.ax.length:Int)=((m.cls.getD p.fst.toNat default).length*(m.cls.getD p.snd.toNat default).length:Nat):=by rw[h4];simp
 omega
def DY{m:ah}{p:Pr}(hp:gB m p=true):0<=p.fst/\p.fst<p.snd/\p.snd<m.cls.length/\(p.ax.length:Int)=(m.cls.getD p.fst.toNat default).length*(m.cls.getD p.snd.toNat default).length:=by
 unfold gB at hp;simp only[aZ,decide_eq_true_eq]at hp;exact hp.1.2
def G'{a k c n:Int}(ha:0<=a/\a<n)(hk:0<=k/\k<c)(hc:c<=24)(hn:n<=24):0<=a*c/\a*c<=576/\0<=a*c+k/\a*c+k<n*c:=by
 have h1:0<=a*c:=Int.mul_nonneg ha.1 Ix;have h2:(a+1)*c<=n*c:=Int.mul_le_mul_of_nonneg_right Ix Ix;rw[Int.add_mul]at h2;have h3:n*c<=24*24:=Int.mul_le_mul hn hc Ix Ix;omega
def KT(m:ah)(left:List (List Bool))(l:List Mv)(hm:MB m)(hb:BB left)(hl:l.length<9223372036854775808):Holds Tryz.prog 18 [.agg (ao m),.tree 1 (rowsOf aA left),.tree 4 (rowsOf aO l)] [] (.bu [N0 (bQ m left l).1,N0 (bQ m left l).2]) []:=by
 have h1:=LA m hm;have h2:=ahp m left hm hb;generalize au:bQ m left l=res;unfold bQ kn at au;refine Holds.aK 342 0 [.tmp 6,.tmp 7] Tryz.func18 ?_;by_cases hv:jO m=0;rotate_left
 ·rw[if_pos (c:=jO m≠0) hv,if_pos hv]at au;generalize jO m=e at *;subst au;((repeat'(first|refine Vd X0 (X2 h1 h2) ?_|(refine Xi ?_ ?_<;>try intro ht)|exact Xx|fail)))
  all_goals exact aS rfl rfl
 rw[if_neg (c:=jO m≠0) (by rw[hv];simp)]at au;rw[hv]at h1;by_cases hf:df m left;rotate_left
 ·rw[if_neg hf,if_pos Iy]at au;rw[decide_eq_false hf]at h2;subst au;((repeat'(first|refine Vd (X2 @bne_self_eq_false.{0} @mK) (X2 h1 h2) ?_|(refine Xi ?_ ?_<;>try intro ht)|exact Xx|fail)))
  all_goals exact aS rfl rfl
 rw[if_pos hf,if_neg Iy]at au;rw[decide_eq_true hf]at h2;have cB:=rA.1 hv;have qE:=cB.cls;have oL:=cB.ae;have FH:=cB.aC;unfold iO at au;by_cases hlen:2000<l.length
 ·rw[if_pos hlen]at au;subst au;((repeat'(first|refine Vd (X2 @bne_self_eq_false.{0} @lI) (X2 h1 h2) ?_|(refine Xi ?_ ?_<;>try intro ht)|exact Xx|fail)))
  all_goals exact aS rfl rfl
 rw[if_neg hlen]at au;((repeat'(first|refine Vd (X2 @bne_self_eq_false.{0} @lI) (X2 h1 h2) ?_|(refine Xi ?_ ?_<;>try intro ht)|exact Xx|fail)))
 refine aU (λi:Nat=>(⟨an [(1,.tree 1 (rowsOf aA left)),(2,.tree 4 (rowsOf aO l)),(3,.ptr 0 0 0),(9,N0 i)],[.var (ao m)]⟩:St)) (λi=>i<=l.length/\∀ x∈l.take i,iC m x=true) (λi=>l.length-i) 0 ⟨aT _,Iy⟩ (Xv X0) ?_;rintro i⟨hi,gf⟩Ql ak ar;by_cases aq:i<l.length
 ·have qG:=aho m (l.getD i default) cB;have e9:=eZ aq;have cH:=aG (d:=default) aq;generalize cW:l.getD i default=x at *;by_cases hx:iC m x=true
  ·rw[hx]at qG;((repeat'(first|refine Vc (X3 @cW @aO.eq_1 @lI) qG ?_|(refine Xi ?_ ?_<;>try intro ht)|exact Xx|fail)))
   exact ak _ (i+1) ⟨Ix,λy hy=>by
    rw[e9]at hy;rcases cC.1 hy with hy|hy
    ·exact gf y hy
    ·simp only[cU]at hy;subst hy;exact hx⟩ Ix (Xv X0)
  ·have bS:iC m x=false:=by simpa using hx
   rw[bS]at qG;rw[if_pos (by rw[List.all_eq_false];exact⟨x,cH,hx⟩)]at au;subst au;((repeat'(first|refine Vc (X3 @cW @aO.eq_1 @mK) qG ?_|(refine Xi ?_ ?_<;>try intro ht)|exact Xx|fail)))
   repeat(refine Xu ?_)
   refine Vb X0 ?_;exact aS rfl rfl
 rw[c8 Ix]at gf;rw[if_neg (by rw[Bool.not_eq_false];exact List.all_eq_true.2 gf)]at au;((repeat'(first|refine Va X0 ?_|(refine Xi ?_ ?_<;>try intro ht)|exact Xx|fail)))
 refine ar _ _ rfl ?_;clear ak ar Ql;repeat(refine Xu ?_)
 refine Va X0 ?_;have LB:([.var (ao m)]:List Ob)[0]?=some (.var (ao m)):=rfl;refine aU (λz:Nat×List Ob×Nat×List (Nat×Nat)=>(⟨an [(1,.tree 1 (rowsOf aA left)),(2,.tree 4 (rowsOf aO l)),(3,.ptr 0 0 0),(10,.ref z.2.2.1 1 0 z.2.2.2.length),(11,.lit (.slice none 0 0)),(12,N0 z.1)],z.2.1⟩:St))
  (λz=>z.1<=m.cls.length/\z.2.2.2.length=z.1/\z.2.1[0]?=some (.var (ao m))/\z.2.1[z.2.2.1]?=some (.arr 1 (rowsOf cy z.2.2.2))/\RI iW z.2.1 z.2.2.2 ((S0 m).take z.1)/\(z.2.2.2.map (·.1)).Nodup)
  (λz=>m.cls.length-z.1) (0,[.var (ao m),.arr 1 []],1,[]) ⟨aT _,rfl,rfl,rfl,by rw[nU];exact RI.nil,Iy⟩ ?_ ?_
 ·refine aF.trans (aF.nil 10 1 (by simp only[Kc,simprocAttr]) NI) ?_;exact Xv X0
 clear hi aq LB;rintro⟨i,os,ai,D⟩⟨hi,hD,f0,fa,hR,bU⟩Ql ak ar;dsimp only at hi hD f0 fa hR bU ⊢;have e0:=aL f0;have ea:=aL fa;have sa:=iD fa;by_cases aq:i<m.cls.length
 ·have jM:=aG (d:=default) aq;have uH:=cB.opt _ jM;have Ad:=ahm (m.cls.getD i default) m.rules uH (cB.rz _ jM) (λo ho=>Yt cB jM ho);have LC:=Yw (bV (m.cls.getD i default)) (by unfold bV;rw[fW];omega);generalize bc:m.cls.getD i default=c at *;((repeat'(first|refine Vc (X5 @f0 @fa @e0 @ea (X3 @bc @aQ.eq_1 @bE)) Ad ?_|(refine Xi ?_ ?_<;>try intro ht)|exact Xx|fail))<;>try with_reducible intro K hK)
  refine jv [] LC Iy trivial ⟨.pure rfl,trivial⟩ ?_;have LD:(0:Nat)≠ai:=λe=>by rw[<- e,f0]at fa;cases fa
  obtain⟨g1,g2,g3,g4⟩:=RI.step fa Iy hR bU (dy (bV c)) (.arr 1 [[.ref os.length 2 0 (dy (bV c)).length]]) (.arr 1 (rowsOf cy (D++[(os.length,(dy (bV c)).length)])));have e9:(S0 m).take (i+1)=(S0 m).take i++[dy (bV c)]:=by
   rw[eZ (by unfold S0;rw[fW];exact aq)];unfold S0;rw[iX _ _ _ aq,bc]
  ((try revert hK K);((refine Va (X5 @f0 @fa @e0 @ea (X5 @sa @bc @aQ.eq_1 @bE (X5 @bC.{0} @iT @iq @GJ (X2 @bF.{0} @bK.{0})))) ?_)))
  refine ak _ (i+1,_,os.length+2,D++[(os.length,(dy (bV c)).length)]) ⟨NQ,NS,g4 _ _ f0 LD,g1,by rw[e9];exact g2,g3⟩ NQ ?_;exact Xv X0
 rw[c8 (by unfold S0;rw[fW];omega)]at hR;have G2:D.length=m.cls.length:=Ix;((repeat'(first|refine Va (X4 @f0 @fa @e0 @ea) ?_|(refine Xi ?_ ?_<;>try intro ht)|exact Xx|fail)))
 refine ar _ _ rfl ?_;clear ak ar Ql;repeat(refine Xu ?_)
 refine Va (X2 @f0 @fa) ?_;clear hi aq hD e0 ea sa;have Yy:(os++[Ob.arr 1 []])[os.length]?=some (.arr 1 (rowsOf cy [])):=by rw[kq];rfl
 refine aU (λz:Nat×List Ob×Nat×List (Nat×Nat)=>(⟨an [(1,.tree 1 (rowsOf aA left)),(2,.tree 4 (rowsOf aO l)),(3,.ptr 0 0 0),(10,.ref ai 1 0 D.length),(11,.ref z.2.2.1 1 0 z.2.2.2.length),(13,N0 z.1)],z.2.1⟩:St))
  (λz=>z.1<=m.ae.length/\z.2.2.2.length=z.1/\z.2.1[0]?=some (.var (ao m))/\z.2.1[ai]?=some (.arr 1 (rowsOf cy D))/\z.2.1[z.2.2.1]?=some (.arr 1 (rowsOf cy z.2.2.2))/\z.2.2.1≠ai/\RI iW z.2.1 D (S0 m)/\RI iW z.2.1 z.2.2.2 ((T0 m).take z.1)/\((D++z.2.2.2).map (·.1)).Nodup)
  (λz=>m.ae.length-z.1) (0,os++[.arr 1 []],os.length,[]) ⟨aT _,rfl,aL f0 _,aL fa _,Yy,λe=>by have h2:=(aR.1 fa).1;dsimp only at e;omega,hR.app _,by rw[nU];exact RI.nil,by simpa using bU⟩ ?_ ?_
 ·refine aF.trans (aF.nil 11 1 (by simp only[Kc,simprocAttr]) NI) ?_;exact Xv X0
 clear f0 fa hR bU Yy os;rintro⟨i,os,bi,E⟩⟨hi,hE,f0,fa,fb,iY,DZ,D0,bU⟩Ql ak ar;dsimp only at hi hE f0 fa fb iY DZ D0 bU ⊢;have e0:=aL f0;have eb:=aL fb;have sb:=iD fb;by_cases aq:i<m.ae.length
 ·have hpm:=jP cB.pr _ (aG (d:=default) aq);have nk:=(BX hpm cB);have LC:=Yw (m.ae.getD i default).ax Ix;have LD:(0:Nat)≠bi:=λe=>by rw[<- e,f0]at fb;cases fb
  rw[dS,pV]at bU;obtain⟨g1,g2,g3,g4⟩:=RI.step fb Iy D0 bU.2.1 (dy (m.ae.getD i default).ax) (.arr 1 [[.ref os.length 2 0 (dy (m.ae.getD i default).ax).length]]) (.arr 1 (rowsOf cy (E++[(os.length,(dy (m.ae.getD i default).ax).length)])));have e9:(T0 m).take (i+1)=(T0 m).take i++[dy (m.ae.getD i default).ax]:=by
   rw[eZ (by unfold T0;rw[fW];exact aq)];unfold T0;rw[iX _ _ _ aq]
  have ahr:=(DZ.kill (y:=.gone) fb Iy).app [.arr 2 (rowsOf iW (dy (m.ae.getD i default).ax)),.arr 1 [[.ref os.length 2 0 (dy (m.ae.getD i default).ax).length]],.arr 1 (rowsOf cy (E++[(os.length,(dy (m.ae.getD i default).ax).length)]))];have Ha:((D++(E++[(os.length,(dy (m.ae.getD i default).ax).length)])).map (·.1)).Nodup:=by
   rw[dS,pV];refine⟨bU.1,g3,λa ha b hb=>?_⟩;rw[dS,cC]at hb;rcases hb with hb|hb
   ·exact bU.2.2 a ha b hb
   ·simp only[List.map_cons,nu,cU]at hb;subst hb;exact λe=>DZ.fresh (Nat.le_refl _) (e▸ha)
  have fal:=(aR.1 fa).1;generalize cu:m.ae.getD i default=p at *;((repeat'(first|refine Va (X5 @f0 @fb @e0 @eb (X3 @cu @aH.eq_1 @bE)) ?_|(refine Xi ?_ ?_<;>try intro ht)|exact Xx|fail))<;>try with_reducible intro K hK)
  refine jv [] LC Iy trivial ⟨.pure rfl,trivial⟩ ?_;((try revert hK K);((refine Va (X5 @f0 @fb @e0 @eb (X5 @sb @cu @aH.eq_1 @bE (X5 @bC.{0} @iT @iq @GJ (X2 @bF.{0} @bK.{0})))) ?_)))
  refine ak _ (i+1,_,os.length+2,E++[(os.length,(dy p.ax).length)]) ⟨NQ,NS,g4 _ _ f0 LD,g4 _ _ fa iY.symm,g1,NQ,ahr,by rw[e9];exact g2,Ha⟩ NQ ?_;exact Xv X0
 rw[c8 (by unfold T0;rw[fW];omega)]at D0;have yH:E.length=m.ae.length:=Ix;((repeat'(first|refine Va (X4 @f0 @fa @e0 @eb) ?_|(refine Xi ?_ ?_<;>try intro ht)|exact Xx|fail)))
 refine ar _ _ rfl ?_;clear ak ar Ql;repeat(refine Xu ?_)
 refine Va (X2 @f0 @fa) ?_;clear hi aq hE e0 eb sb;have iG:LO iW [(0,.var (ao m)),(ai,.arr 1 (rowsOf cy D)),(bi,.arr 1 (rowsOf cy E))] D E (S0 m) (T0 m) os:=⟨λb hb=>by
  simp only[bj,gU,or_false]at hb;rcases hb with rfl|rfl|rfl
  ·exact⟨f0,Iy⟩
  ·exact⟨fa,Iy⟩
  ·exact⟨fb,Iy⟩,DZ,D0,bU⟩
 refine aU (λz:Nat×List Ob=>(⟨an [(1,.tree 1 (rowsOf aA left)),(2,.tree 4 (rowsOf aO l)),(3,.ptr 0 0 0),(10,.ref ai 1 0 D.length),(11,.ref bi 1 0 E.length),(14,N0 z.1)],z.2⟩:St))
  (λz=>z.1<=l.length/\LO iW [(0,.var (ao m)),(ai,.arr 1 (rowsOf cy D)),(bi,.arr 1 (rowsOf cy E))] D E (iF m (l.take z.1) (S0 m,T0 m)).1 (iF m (l.take z.1) (S0 m,T0 m)).2 z.2)
  (λz=>l.length-z.1) (0,os) ⟨aT _,iG⟩ (Xv X0) ?_
 clear f0 fa fb DZ D0 bU iG os;rintro⟨i,os⟩⟨hi,iG⟩Ql ak ar;dsimp only at hi iG ⊢;have f0:=(iG.base (0,.var (ao m)) Iy).1;have fa:=(iG.base (ai,.arr 1 (rowsOf cy D)) Iy).1;have fb:=(iG.base (bi,.arr 1 (rowsOf cy E)) Iy).1;have e0:=aL f0;have ea:=aL fa;have eb:=aL fb;dsimp only at f0 fa fb e0 ea eb;by_cases aq:i<l.length
 ·have hxm:=aG (d:=default) aq;have nD:=gf _ hxm;have e9:iF m (l.take (i+1)) (S0 m,T0 m)=jE m (l.getD i default) (iF m (l.take i) (S0 m,T0 m)):=by rw[eZ aq,WC]
  have kC:=GO cB (l.take i) (λx hx=>gf x (qT hx));rw[e8,Nat.min_eq_left Ix]at kC;generalize iF m (l.take i) (S0 m,T0 m)=g at *;generalize cW:l.getD i default=x at *;have LF:=nD;unfold iC at LF;rw[aZ,decide_eq_true_eq]at LF;obtain⟨⟨x1,x2,x3,x4,x5,x6⟩,l'⟩:=LF;obtain⟨o1,o2,o3,o4⟩:=kR.1 l';have dO:=jP cB.pr _ (aG (l:=m.ae) (i:=x.pair.toNat) (d:=default) Ix);obtain⟨LH,LI,LJ,D1⟩:=DY dO;have hlF:=cB.opt _ (aG (l:=m.cls) (i:=(m.ae.getD x.pair.toNat default).fst.toNat) (d:=default) Ix);have hlS:=cB.opt _ (aG (l:=m.cls) (i:=(m.ae.getD x.pair.toNat default).snd.toNat) (d:=default) Ix);obtain⟨rL,D2⟩:=iG.rE.row x.pair.toNat Ix;obtain⟨lz,yI⟩:=iG.rD.row (eK m x).toNat Ix;have qe:=aL rL;have qd:=aL lz;have Hb:=kC.sl (eK m x).toNat Ix;have BT:=kC.tl x.pair.toNat Ix;have amj:(List.getD E x.pair.toNat default).1=(List.getD E x.pair.toNat default).1:=rfl;by_cases hs:x.side=0
  ·have hc:eK m x=(m.ae.getD x.pair.toNat default).fst:=by unfold eK;rw[if_pos hs]
   rw[hc]at lz yI qd Hb o1 o2 o4;have sd:=iD lz;have kN:=(s6 kC.sb (m.ae.getD x.pair.toNat default).fst.toNat).get Ix x.opt.toNat;have hF:nI m x=(λk:Nat=>(x.opt*(m.cls.getD (m.ae.getD x.pair.toNat default).snd.toNat default).length+k).toNat,(m.cls.getD (m.ae.getD x.pair.toNat default).snd.toNat default).length):=by unfold nI;rw[if_pos hs]
   have xj:jE m x g=(g.1.set (m.ae.getD x.pair.toNat default).fst.toNat (jn (g.1.getD (m.ae.getD x.pair.toNat default).fst.toNat default) x.opt.toNat x.amt),g.2.set x.pair.toNat (gu (nI m x).1 x.amt (nI m x).2 (g.2.getD x.pair.toNat default))):=by unfold jE;rw[hc]
   have BZ:=(iG.zT (j:=(m.ae.getD x.pair.toNat default).fst.toNat) Ix (r:=jn (g.1.getD (m.ae.getD x.pair.toNat default).fst.toNat default) x.opt.toNat x.amt) (xc _ _ _)).vars (bK ..) (.var (aO x)) (.var (aH (m.ae.getD x.pair.toNat default))) Iy Iy;generalize cu:m.ae.getD x.pair.toNat default=p at *;generalize D3:(m.cls.getD p.snd.toNat default).length=dg at *;((repeat'(first|refine Va (X5 @f0 @fa @fb @e0 (X5 @ea @eb @cW @cu (X5 @D3 @aO.eq_1 @aH.eq_1 @aQ.eq_1 (X5 @cy.eq_1 @iW.eq_1 @rL @lz (X5 @qe @qd @sd @bE (X5 @GL @bC.{0} @iT @iq @bF.{0})))))) ?_|(refine Xi ?_ ?_<;>try intro ht)|exact Xx|fail)))
   rw[hF]at xj;dsimp only at xj;refine aU (λz:Nat×List Ob=>(⟨an [(1,.tree 1 (rowsOf aA left)),(2,.tree 4 (rowsOf aO l)),(3,.ptr 0 0 0),(10,.ref ai 1 0 D.length),(11,.ref bi 1 0 E.length),(14,N0 i),(15,.ptr os.length 0 0),(18,N0 dg),(19,.ref (E.getD x.pair.toNat default).1 2 0 (E.getD x.pair.toNat default).2),(20,N0 z.1)],z.2⟩:St))
    (λz=>z.1<=dg/\LO iW ((os.length,.var (aO x))::(os.length+1,.var (aH p))::[(0,.var (ao m)),(ai,.arr 1 (rowsOf cy D)),(bi,.arr 1 (rowsOf cy E))]) D E (g.1.set p.fst.toNat (jn (g.1.getD p.fst.toNat default) x.opt.toNat x.amt)) (g.2.set x.pair.toNat (gu (λk:Nat=>(x.opt*dg+k).toNat) x.amt z.1 (g.2.getD x.pair.toNat default))) z.2)
    (λz=>dg-z.1) (0,_) ⟨aT _,by rw[gu,zU];exact BZ⟩ (Xv X0) ?_
   rintro⟨k,ok⟩⟨hk,jR⟩c7 br bx;dsimp only at hk jR ⊢;have fx:=(jR.base (os.length,.var (aO x)) Iy).1;dsimp only at fx;obtain⟨rM,Ae⟩:=jR.rE.row x.pair.toNat Ix;have vQ:x.pair.toNat<g.2.length:=by rw[kC.t];omega
   rw[uE _ _ _ vQ]at rM Ae;have k8:=zW (λk:Nat=>(x.opt*dg+k).toNat) x.amt k (g.2.getD x.pair.toNat default);have LK:=((s6 kC.tb x.pair.toNat).sub Ix (λk:Nat=>(x.opt*dg+k).toNat) (a:=x.amt) Ix k).get Ix (x.opt*dg+k:Int).toNat;by_cases ba:k<dg
   ·have l8:=jR.yv (j:=x.pair.toNat) Ix (r:=jn (gu (λk:Nat=>(x.opt*dg+k).toNat) x.amt k (g.2.getD x.pair.toNat default)) (x.opt*dg+k:Int).toNat (-x.amt)) (by rw[uE _ _ _ vQ];exact xc _ _ _);rw[wG]at l8;obtain⟨LL,LM,LN,LP⟩:=G' (a:=x.opt) (k:=(k:Int)) (c:=(dg:Int)) (n:=((m.cls.getD p.fst.toNat default).length:Int)) ⟨o3,o4⟩ Ix Ix Ix;generalize uL:(x.opt*dg+k:Int)=ix at *;generalize iA:gu (λk:Nat=>(x.opt*dg+k).toNat) x.amt k (g.2.getD x.pair.toNat default)=tk at *;((repeat'(first|refine Va (X5 @fx @cW @rM @aO.eq_1 (X4 @iW.eq_1 @GL @uL @Int.sub_eq_add_neg)) ?_|(refine Xi ?_ ?_<;>try intro ht)|exact Xx|fail)))
    refine br _ (k+1,_) ⟨NQ,by rw[gu,iA,uL];exact l8⟩ NQ ?_;exact Xv X0
   ·have xm:k=dg:=Ix;rw[xm]at jR;((repeat'(first|refine Va X0 ?_|(refine Xi ?_ ?_<;>try intro ht)|exact Xx|fail)))
    refine bx _ _ rfl ?_;clear br bx c7;repeat(refine Xu ?_)
    refine Va X0 ?_;refine ak _ (i+1,_) ⟨NQ,by rw[e9,xj];exact jR.sub Iy⟩ NQ ?_;exact Xv X0
  ·have hc:eK m x=(m.ae.getD x.pair.toNat default).snd:=by unfold eK;rw[if_neg hs]
   rw[hc]at lz yI qd Hb o1 o2 o4;have sd:=iD lz;have kN:=(s6 kC.sb (m.ae.getD x.pair.toNat default).snd.toNat).get Ix x.opt.toNat;have hF:nI m x=(λk:Nat=>((k:Int)*(m.cls.getD (m.ae.getD x.pair.toNat default).snd.toNat default).length+x.opt).toNat,(m.cls.getD (m.ae.getD x.pair.toNat default).fst.toNat default).length):=by unfold nI;rw[if_neg hs]
   have xj:jE m x g=(g.1.set (m.ae.getD x.pair.toNat default).snd.toNat (jn (g.1.getD (m.ae.getD x.pair.toNat default).snd.toNat default) x.opt.toNat x.amt),g.2.set x.pair.toNat (gu (nI m x).1 x.amt (nI m x).2 (g.2.getD x.pair.toNat default))):=by unfold jE;rw[hc]
   have BZ:=(iG.zT (j:=(m.ae.getD x.pair.toNat default).snd.toNat) Ix (r:=jn (g.1.getD (m.ae.getD x.pair.toNat default).snd.toNat default) x.opt.toNat x.amt) (xc _ _ _)).vars (bK ..) (.var (aO x)) (.var (aH (m.ae.getD x.pair.toNat default))) Iy Iy;generalize cu:m.ae.getD x.pair.toNat default=p at *;generalize D3:(m.cls.getD p.snd.toNat default).length=dg at *;generalize LQ:(m.cls.getD p.fst.toNat default).length=rows at *;((repeat'(first|refine Va (X5 @f0 @fa @fb @e0 (X5 @ea @eb @cW @cu (X5 @D3 @LQ @aO.eq_1 @aH.eq_1 (X5 @aQ.eq_1 @cy.eq_1 @iW.eq_1 @rL (X5 @lz @qe @qd @sd (X5 @bE @GL @bC.{0} @iT (X2 @iq @bF.{0}))))))) ?_|(refine Xi ?_ ?_<;>try intro ht)|exact Xx|fail)))
   rw[hF]at xj;dsimp only at xj;refine aU (λz:Nat×List Ob=>(⟨an [(1,.tree 1 (rowsOf aA left)),(2,.tree 4 (rowsOf aO l)),(3,.ptr 0 0 0),(10,.ref ai 1 0 D.length),(11,.ref bi 1 0 E.length),(14,N0 i),(15,.ptr os.length 0 0),(17,N0 rows),(18,N0 dg),(19,.ref (E.getD x.pair.toNat default).1 2 0 (E.getD x.pair.toNat default).2),(21,N0 z.1)],z.2⟩:St))
    (λz=>z.1<=rows/\LO iW ((os.length,.var (aO x))::(os.length+1,.var (aH p))::[(0,.var (ao m)),(ai,.arr 1 (rowsOf cy D)),(bi,.arr 1 (rowsOf cy E))]) D E (g.1.set p.snd.toNat (jn (g.1.getD p.snd.toNat default) x.opt.toNat x.amt)) (g.2.set x.pair.toNat (gu (λk:Nat=>((k:Int)*dg+x.opt).toNat) x.amt z.1 (g.2.getD x.pair.toNat default))) z.2)
    (λz=>rows-z.1) (0,_) ⟨aT _,by rw[gu,zU];exact BZ⟩ (Xv X0) ?_
   rintro⟨k,ok⟩⟨hk,jR⟩c7 br bx;dsimp only at hk jR ⊢;have fx:=(jR.base (os.length,.var (aO x)) Iy).1;dsimp only at fx;obtain⟨rM,Ae⟩:=jR.rE.row x.pair.toNat Ix;have vQ:x.pair.toNat<g.2.length:=by rw[kC.t];omega
   rw[uE _ _ _ vQ]at rM Ae;have k8:=zW (λk:Nat=>((k:Int)*dg+x.opt).toNat) x.amt k (g.2.getD x.pair.toNat default);have LK:=((s6 kC.tb x.pair.toNat).sub Ix (λk:Nat=>((k:Int)*dg+x.opt).toNat) (a:=x.amt) Ix k).get Ix ((k:Int)*dg+x.opt).toNat;by_cases ba:k<rows
   ·have l8:=jR.yv (j:=x.pair.toNat) Ix (r:=jn (gu (λk:Nat=>((k:Int)*dg+x.opt).toNat) x.amt k (g.2.getD x.pair.toNat default)) ((k:Int)*dg+x.opt).toNat (-x.amt)) (by rw[uE _ _ _ vQ];exact xc _ _ _);rw[wG]at l8;obtain⟨LL,LM,LN,LP⟩:=G' (a:=(k:Int)) (k:=x.opt) (c:=(dg:Int)) (n:=(rows:Int)) Ix ⟨o3,o4⟩ Ix Ix;generalize uL:((k:Int)*dg+x.opt)=ix at *;generalize iA:gu (λk:Nat=>((k:Int)*dg+x.opt).toNat) x.amt k (g.2.getD x.pair.toNat default)=tk at *;((repeat'(first|refine Va (X5 @fx @cW @rM @aO.eq_1 (X4 @iW.eq_1 @GL @uL @Int.sub_eq_add_neg)) ?_|(refine Xi ?_ ?_<;>try intro ht)|exact Xx|fail)))
    refine br _ (k+1,_) ⟨NQ,by rw[gu,iA,uL];exact l8⟩ NQ ?_;exact Xv X0
   ·have xm:k=rows:=Ix;rw[xm]at jR;((repeat'(first|refine Va X0 ?_|(refine Xi ?_ ?_<;>try intro ht)|exact Xx|fail)))
    refine bx _ _ rfl ?_;clear br bx c7;repeat(refine Xu ?_)
    refine Va X0 ?_;refine ak _ (i+1,_) ⟨NQ,by rw[e9,xj];exact jR.sub Iy⟩ NQ ?_;exact Xv X0
 rw[c8 Ix]at iG;have kC:=GO cB l gf;have amk:l.length<=2000:=Ix;generalize iF m l (S0 m,T0 m)=g at *;have B1:(∀ r∈g.1,NB lr r)/\∀ r∈g.2,NB lr r:=⟨λr hr=>(kC.sb r hr).mono (by unfold lr;omega),λr hr=>(kC.tb r hr).mono (by unfold lr;omega)⟩;((repeat'(first|refine Va @f0 ?_|(refine Xi ?_ ?_<;>try intro ht)|exact Xx|fail)))
 refine ar _ _ rfl ?_;clear ak ar Ql;repeat(refine Xu ?_)
 refine Va @f0 ?_;have iy:=hf.1;refine aU (λi:Nat=>(⟨an [(1,.tree 1 (rowsOf aA left)),(3,.ptr 0 0 0),(10,.ref ai 1 0 D.length),(11,.ref bi 1 0 E.length),(22,N0 (bJ (PC left g.1 i) (0,false)).1),(23,.lit (.bool (bJ (PC left g.1 i) (0,false)).2)),(24,N0 i)],os⟩:St))
  (λi=>i<=m.cls.length) (λi=>m.cls.length-i) 0 (aT _) (Xv (X5 @PC.eq_1 @bJ.eq_1 @NO @nu.{0,0} @yY.{0,0})) ?_
 rintro i hi Ql ak ar;by_cases aq:i<m.cls.length
 ·have kz:=yx _ (0,false) (KI (left:=left) (by unfold lr;decide) B1.1 i);rw[BK]at kz;have hlen:=hf.2 i Ix;have cI:=kC.sl i aq;have D4:=Yx (g.1.getD i default) (left.getD i default) Ix (by have:=cB.opt _ (aG (d:=default) aq);omega);have oo:=Dy (g.1.getD i default) (left.getD i default) (0,false) (s6 B1.1 i) (by unfold lr;decide);have dU:bJ (PC left g.1 (i+1)) (0,false)=((bJ (PC left g.1 i) (0,false)).1+(dp (g.1.getD i default) (left.getD i default) (0,false)).1,(bJ (PC left g.1 i) (0,false)).2||!(dp (g.1.getD i default) (left.getD i default) (0,false)).2):=by
   rw[show PC left g.1 (i+1)=PC left g.1 i++[dp (g.1.getD i default) (left.getD i default) (0,false)] from yw _ i,BJ]
  obtain⟨lz,yI⟩:=iG.rD.row i Ix;generalize bJ (PC left g.1 i) (0,false)=z at *;obtain⟨z1,z2⟩:=z;generalize dp (g.1.getD i default) (left.getD i default) (0,false)=q at *;obtain⟨q1,q2⟩:=q;unfold lr at kz oo;dsimp only at *;generalize fh:left.getD i default=ll at *;((repeat'(first|refine Va (X5 @f0 @fa @lz @cy.eq_1 (X2 @fh @aA.eq_1)) ?_|(refine Xi ?_ ?_<;>try intro ht)|exact Xx|fail))<;>try with_reducible intro K hK)
  cases z2<;>cases q2;all_goals
   refine vh [] D4 Iy trivial ⟨bw.fz lz (by rw[cf];exact yI.symm) Iy,.pure rfl,trivial⟩ rfl Iy ?_;((try revert hK K);(repeat'(first|refine Va (X4 @f0 @fa @lI @mK) ?_|fail)))
   refine ak _ (i+1) Ix Ix ?_;simp only[dU];exact Xv X0
 have G3:i=m.cls.length:=Ix;rw[G3];have Hd:=yx _ (0,false) (KI (left:=left) (by unfold lr;decide) B1.1 m.cls.length);rw[BK]at Hd;unfold lq at au;generalize bJ (PC left g.1 m.cls.length) (0,false)=zc at *;((repeat'(first|refine Va @f0 ?_|(refine Xi ?_ ?_<;>try intro ht)|exact Xx|fail)))
 refine ar _ _ rfl ?_;clear ak ar Ql;repeat(refine Xu ?_)
 refine Va @f0 ?_;clear hi aq;have Yz:LO iW [(0,.var (ao m)),(bi,.arr 1 (rowsOf cy E))] D E g.1 g.2 os:=iG.sub Iy;refine aU (λz:Nat×List Ob=>(⟨an [(1,.tree 1 (rowsOf aA left)),(3,.ptr 0 0 0),(11,.ref bi 1 0 E.length),(22,N0 (bJ (PP m left g.2 z.1) zc).1),(23,.lit (.bool (bJ (PP m left g.2 z.1) zc).2)),(27,N0 z.1)],z.2⟩:St))
  (λz=>z.1<=m.ae.length/\LO iW [(0,.var (ao m)),(bi,.arr 1 (rowsOf cy E))] D E g.1 g.2 z.2) (λz=>m.ae.length-z.1) (0,os) ⟨aT _,Yz⟩ (Xv (X5 @PP.eq_1 @bJ.eq_1 @NO @nu.{0,0} @yY.{0,0})) ?_
 clear iG Yz f0 fa fb e0 ea eb os;rintro⟨i,os⟩⟨hi,iG⟩Ql ak ar;dsimp only at hi iG ⊢;have f0:=(iG.base (0,.var (ao m)) Iy).1;have fb:=(iG.base (bi,.arr 1 (rowsOf cy E)) Iy).1;dsimp only at f0 fb;have e0:=aL f0;have eb:=aL fb;by_cases aq:i<m.ae.length
 ·have dO:=jP cB.pr _ (aG (d:=default) aq);obtain⟨LH,LI,LJ,D1⟩:=DY dO;have kz:=yx _ zc (KJ (m:=m) (left:=left) (by unfold lr;decide) B1.2 i);rw[Dz]at kz;have dU:bJ (PP m left g.2 (i+1)) zc=((bJ (PP m left g.2 i) zc).1+(dp (g.2.getD i default) (ik m left i) (0,false)).1,(bJ (PP m left g.2 i) zc).2||!(dp (g.2.getD i default) (ik m left i) (0,false)).2):=by
   rw[show PP m left g.2 (i+1)=PP m left g.2 i++[dp (g.2.getD i default) (ik m left i) (0,false)] from yw _ i,BJ]
  have oo:=Dy (g.2.getD i default) (ik m left i) (0,false) (s6 B1.2 i) (by unfold lr;decide);have He:=hf.2 (m.ae.getD i default).fst.toNat Ix;have rG:=hf.2 (m.ae.getD i default).snd.toNat Ix;have hoa:=cB.opt _ (aG (l:=m.cls) (i:=(m.ae.getD i default).fst.toNat) (d:=default) Ix);have bI:=cB.opt _ (aG (l:=m.cls) (i:=(m.ae.getD i default).snd.toNat) (d:=default) Ix);have cI:=kC.tl i aq;have pK:(g.2.getD i default).length=(ik m left i).length:=by
   unfold ik;rw[DA,He,rG,cI];have:=D1;rw[<- Int.natCast_mul]at this;exact Int.ofNat_inj.1 this
  have nk:=BX dO cB;have D4:=Yx (g.2.getD i default) (ik m left i) pK Ix;have LS:ik m left i=qD (left.getD (m.ae.getD i default).fst.toNat default) (left.getD (m.ae.getD i default).snd.toNat default):=rfl;generalize dp (g.2.getD i default) (ik m left i) (0,false)=q at *;generalize bJ (PP m left g.2 i) zc=z at *;generalize ik m left i=pb at *;generalize cu:m.ae.getD i default=p at *;generalize D5:left.getD p.fst.toNat default=la at *;generalize vR:left.getD p.snd.toNat default=lb at *;obtain⟨z1,z2⟩:=z;obtain⟨q1,q2⟩:=q;unfold lr at kz oo Hd;dsimp only at dU kz oo D4 ⊢;((repeat'(first|refine Va (X4 @f0 @fb @cu @bE) ?_|(refine Xi ?_ ?_<;>try intro ht)|exact Xx|fail)))
  have YA:LO iW ((os.length,.var (aH p))::[(0,.var (ao m)),(bi,.arr 1 (rowsOf cy E))]) D E g.1 g.2 ((os++[.var (aH p)])++[.arr 1 []]):=((iG.app _).app _).add (aL (kq _ _ _) _) Iy;refine aU (λy:Nat×List Ob×Nat×List Bool=>(⟨an [(1,.tree 1 (rowsOf aA left)),(3,.ptr 0 0 0),(11,.ref bi 1 0 E.length),(22,N0 z1),(23,.lit (.bool z2)),(27,N0 i),(28,.ptr os.length 0 0),(29,.ref y.2.2.1 1 0 y.2.2.2.length),(30,N0 y.1)],y.2.1⟩:St))
   (λy=>y.1<=la.length/\LO iW ((os.length,.var (aH p))::[(0,.var (ao m)),(bi,.arr 1 (rowsOf cy E))]) D E g.1 g.2 y.2.1/\y.2.1[y.2.2.1]?=some (.arr 1 (bm y.2.2.2))/\os.length<y.2.2.1/\y.2.2.2=qD (la.take y.1) lb)
   (λy=>la.length-y.1) (0,(os++[.var (aH p)])++[.arr 1 []],(os++[Ob.var (aH p)]).length,[]) ⟨aT _,YA,kq _ _ _,Iy,rfl⟩ ?_ ?_
  ·refine aF.trans (aF.nil 29 1 (by simp only[Kc,simprocAttr]) NI) ?_;exact Xv X0
  clear YA;rintro⟨a,oy,ti,bs⟩⟨ha,B3,eL,ka,pg⟩c7 br bx;dsimp only at ha B3 eL ka pg ⊢;have fp:=(B3.base (os.length,.var (aH p)) Iy).1;have YB:=(B3.base (bi,.arr 1 (rowsOf cy E)) Iy).1;have bil:=(aR.1 fb).1;have osl:=(aR.1 f0).1;dsimp only at fp YB;by_cases oE:a<la.length
  ·((repeat'(first|refine Va (X5 @fp @cu @D5 @aA.eq_1 @aH.eq_1) ?_|(refine Xi ?_ ?_<;>try intro ht)|exact Xx|fail)))
   have hta:=eZ oE;refine aU (λy:Nat×List Ob×Nat×List Bool=>(⟨an [(1,.tree 1 (rowsOf aA left)),(3,.ptr 0 0 0),(11,.ref bi 1 0 E.length),(22,N0 z1),(23,.lit (.bool z2)),(27,N0 i),(28,.ptr os.length 0 0),(29,.ref y.2.2.1 1 0 y.2.2.2.length),(30,N0 a),(31,N0 y.1)],y.2.1⟩:St))
    (λy=>y.1<=lb.length/\LO iW ((os.length,.var (aH p))::[(0,.var (ao m)),(bi,.arr 1 (rowsOf cy E))]) D E g.1 g.2 y.2.1/\y.2.1[y.2.2.1]?=some (.arr 1 (bm y.2.2.2))/\os.length<y.2.2.1/\y.2.2.2=bs++(lb.take y.1).map (la.getD a default && ·))
    (λy=>lb.length-y.1) (0,oy,ti,bs) ⟨aT _,B3,eL,ka,Iy⟩ (Xv X0) ?_
   rintro⟨b,ob,tb,cs⟩⟨aV,zX,Af,D6,iI⟩mC gG fI;dsimp only at aV zX Af D6 iI ⊢;have D7:=(zX.base (os.length,.var (aH p)) Iy).1;dsimp only at D7;have rJ:=aL Af;have epb:=aL D7;have stb:=iD Af;have bG:cs.length<=24*24+24:=by
    rw[iI,pg,bF,DA,fW,e8,e8];have:=u6 (show min a la.length<=24 by omega) (show lb.length<=24 by omega);omega
   by_cases oF:b<lb.length
   ·have ahz:=eZ oF;have YC:=((zX.kill (y:=.gone) Af Iy (by simp only[bj,gU,or_false,forall_eq_or_imp,forall_eq];omega)).app [.arr 1 [[.lit (.bool (la.getD a false&&lb.getD b false))]],.arr 1 (bm (cs++[la.getD a false&&lb.getD b false]))]);have iP:cs++[la.getD a false&&lb.getD b false]=bs++(lb.take (b+1)).map (la.getD a default && ·):=by rw[ahz,dS,<- bC,<- iI];rfl
    have amn:=(aR.1 Af).1;generalize hxa:la.getD a false=xa at *;generalize ahB:lb.getD b false=xb at *;cases xa;all_goals
     simp only[pU,iu]at YC iP;((repeat'(first|refine Va (X5 @D7 @Af @rJ @epb (X5 @stb @cu @D5 @vR (X5 @hxa @ahB @aA.eq_1 @aH.eq_1 (X5 @bE @bC.{0} @iT @iq (X3 @bF.{0} @bK.{0} @CG))))) ?_|(refine Xi ?_ ?_<;>try intro ht)|exact Xx|fail)))
     refine gG _ (b+1,_,ob.length+1,_) ⟨NQ,YC,oH _ _ _ _ _,NQ,iP⟩ NQ ?_;exact Xv X0
   ·rw[c8 Ix]at iI;((repeat'(first|refine Va (X5 @D7 @cu @vR @aA.eq_1 @aH.eq_1) ?_|(refine V2 (X5 @D7 @cu @vR @aA.eq_1 @aH.eq_1) ?_ ?_<;>try with_reducible intro hb)|(refine Xi ?_ ?_<;>try intro ht)|exact Xx|fail)))
    refine fI _ _ rfl ?_;clear gG fI mC;repeat(refine Xu ?_)
    refine Va X0 ?_;refine br _ (a+1,ob,tb,cs) ⟨NQ,zX,Af,D6,by rw[hta,afQ,<- pg];exact iI⟩ NQ ?_;exact Xv X0
  ·rw[c8 Ix,<- LS]at pg;subst pg;obtain⟨rL,D2⟩:=B3.rE.row i Ix;((repeat'(first|refine Va (X5 @fp @cu @D5 @aA.eq_1 @aH.eq_1) ?_|(refine Xi ?_ ?_<;>try intro ht)|exact Xx|fail)))
   refine bx _ _ rfl ?_;clear br bx c7;repeat(refine Xu ?_)
   ((refine Va (X3 @YB @rL @cy.eq_1) ?_)<;>try with_reducible intro K hK)
   cases z2<;>cases q2;all_goals
    refine vh [] D4 Iy trivial ⟨bw.fz rL (by rw[cf];exact D2.symm) Iy,bw.fz eL (by rw[xU]) Iy,trivial⟩ rfl Iy ?_;((try revert hK K);(repeat'(first|refine Va (X2 @lI @mK) ?_|fail)))
    refine ak _ (i+1,oy) ⟨NQ,B3.sub Iy⟩ NQ ?_;simp only[dU];exact Xv X0
 have G4:i=m.ae.length:=Ix;rw[G4];have LU:=yx _ zc (KJ (m:=m) (left:=left) (by unfold lr;decide) B1.2 m.ae.length);rw[Dz]at LU;generalize bJ (PP m left g.2 m.ae.length) zc=zp at *;((repeat'(first|refine Va @f0 ?_|(refine Xi ?_ ?_<;>try intro ht)|exact Xx|fail)))
 refine ar _ _ rfl ?_;clear ak ar Ql;repeat(refine Xu ?_)
 refine Va @f0 ?_;clear hi aq;refine aU (λi:Nat=>(⟨an [(1,.tree 1 (rowsOf aA left)),(3,.ptr 0 0 0),(22,N0 (bJ (PK m left i) zp).1),(23,.lit (.bool (bJ (PK m left i) zp).2)),(34,N0 i)],os⟩:St))
  (λi=>i<=m.aC.length) (λi=>m.aC.length-i) 0 (aT _) (Xv (X5 @PK.eq_1 @bJ.eq_1 @NO @nu.{0,0} @yY.{0,0})) ?_
 rintro i hi Ql ak ar;unfold lr at Hd LU;dsimp only at Hd LU;by_cases aq:i<m.aC.length
 ·have jM:=aG (d:=default) aq;obtain⟨q1,q2,q3,q4⟩:=Lm cB hf jM;have h3:=ahC m left _ cB hf jM;have DH:=C6 (λx hx=>(q1 x hx).2) left;have h4:=aeE (jN (m.aC.getD i default).aY 0 left 0-(m.aC.getD i default).most) (m.aC.getD i default).bX Ix q3;rw[ahD q3]at h4;have kz:=yx _ zp (KK cB (left:=left) i);rw[GP]at kz;have hvr:=WI (m.aC.getD i default).most (m.aC.getD i default).bX (jN (m.aC.getD i default).aY 0 left 0) q2 q3.1;have dU:bJ (PK m left (i+1)) zp=((bJ (PK m left i) zp).1+iM left (m.aC.getD i default),(bJ (PK m left i) zp).2||!!(decide ((m.aC.getD i default).bX=1099511627776)&&decide (0<iM left (m.aC.getD i default)))):=by
   rw[show PK m left (i+1)=PK m left i++[(iM left (m.aC.getD i default),!(decide ((m.aC.getD i default).bX=1099511627776)&&decide (0<iM left (m.aC.getD i default))))] from yw _ i,BJ]
  unfold iM at dU;generalize bJ (PK m left i) zp=z at *;obtain⟨z1,z2⟩:=z;generalize bc:m.aC.getD i default=c at *;generalize kQ c.most c.bX (jN c.aY 0 left 0)=v at *;dsimp only at dU kz ⊢;by_cases LV:c.bX=1099511627776;all_goals
   by_cases ni:0<v
  all_goals
   simp only[LV,ni,decide_true,decide_false,Bool.and_true,Bool.and_false,lI,mK,Bool.or_true,Bool.or_false]at dU;cases z2
  all_goals
   ((repeat'(first|refine Vc (X3 @f0 @bc @db.eq_1) (X2 h3 h4) ?_|(refine V2 (X3 @f0 @bc @db.eq_1) ?_ ?_<;>try with_reducible intro hb)|(refine Xi ?_ ?_<;>try intro ht)|exact Xx|fail)))
   refine ak _ (i+1) Ix Ix ?_;simp only[dU];exact Xv (X4 @gt_iff_lt.{0} @ni @decide_true @decide_false)
 ·have Lp:i=m.aC.length:=Ix;rw[Lp];have YD:=yx _ zp (KK cB (left:=left) m.aC.length);rw[GP]at YD;generalize bJ (PK m left m.aC.length) zp=zk at *;obtain⟨k1,k2⟩:=zk;dsimp only at au YD ⊢;((repeat'(first|refine Va @f0 ?_|(refine Xi ?_ ?_<;>try intro ht)|exact Xx|fail)))
  refine ar _ _ rfl ?_;clear ak ar Ql;repeat(refine Xu ?_)
  cases k2
  ·simp only[Bool.false_eq_true,if_false]at au;subst au;((repeat'(first|refine Vb @f0 ?_|(refine Xi ?_ ?_<;>try intro ht)|exact Xx|fail)))
   exact aS rfl rfl
  ·simp only[if_true]at au;subst au;((repeat'(first|refine Vb @f0 ?_|(refine Xi ?_ ?_<;>try intro ht)|exact Xx|fail)))
   exact aS rfl rfl
def YE{m:ah}{gi ai bi:Nat}{D E:List (Nat×Nat)}{S T:List (List Nm)}{os:List Ob}(h:LO aW (GB m gi ai bi D E) D E S T os)(x:Mv)(hx:0<=x.pair/\x.pair<m.ae.length)(oL:m.ae.length<=4000):
  Holds Tryz.prog 112 [.ptr gi 0 0,.agg (aO x)] os (N0 (eK m x)) (os++[.var (aO x)]):=by
 obtain⟨fg,fa,fb⟩:=zV h;have eg:=aL fg;generalize au:eK m x=res;unfold eK at au;refine Holds.aK 28 os.length [.tmp 4] Tryz.func112 ?_;by_cases hs:x.side=0
 ·rw[if_pos hs]at au;generalize cu:m.ae.getD x.pair.toNat default=p at *;((repeat'(first|refine Vb (X5 @fg @eg @gC.eq_1 @bE (X3 @cu @aO.eq_1 @aH.eq_1)) ?_|(refine Xi ?_ ?_<;>try intro ht)|exact Xx|fail)))
  exact ed rfl Iy (by rw[au])
 ·rw[if_neg hs]at au;generalize cu:m.ae.getD x.pair.toNat default=p at *;((repeat'(first|refine Vb (X5 @fg @eg @gC.eq_1 @bE (X3 @cu @aO.eq_1 @aH.eq_1)) ?_|(refine Xi ?_ ?_<;>try intro ht)|exact Xx|fail)))
  exact ed rfl Iy (by rw[au])
def LW{os:List Ob}{id r:Nat}{row:List Nm}(h:os[id]?=some (.arr 2 (rowsOf aW row)))(hr:r<row.length)(n:Int)(lS:cS ((row.getD r default).1+n)):
  Holds Tryz.prog 113 [.ptr id r 0,N0 n] os (.bu []) (os.set id (.arr 2 (rowsOf aW (jn row r n)))):=by
 unfold cS at lS;refine Holds.aK 12 os.length [] Tryz.func113 ?_;refine Vb (X3 @h @aW.eq_1 @afL) ?_;exact ed rfl Iy rfl
def ahE{m:ah}(hm:VM m){x:Mv}(h1:0<=x.pair)(h2:x.pair<m.ae.length):0<=eK m x/\eK m x<m.cls.length:=by
 obtain⟨a,b,c,_⟩:=DY (jP hm.pr _ (aG (l:=m.ae) (i:=x.pair.toNat) (d:=default) Ix));unfold eK;split<;>omega
def ag4{m:ah}(hm:VM m){gi ai bi:Nat}{D E:List (Nat×Nat)}{S T:List (List Nm)}{os:List Ob}(h:LO aW (GB m gi ai bi D E) D E S T os){B:Int}(hg:LG m B (S,T))(x:Mv):
  cQ Tryz.prog 79 [.ptr gi 0 0,.agg (aO x)] os λr ob=>r=.lit (.bool (iC m x))/\∃ l,ob=os++l:=by
 obtain⟨fg,fa,fb⟩:=zV h;have eg:=aL fg;have ea:=aL fa;have hE:=h.rE.len;have hD:=h.rD.len;have jH:S.length=m.cls.length:=hg.s;have ht1:T.length=m.ae.length:=hg.t;have oL:=hm.ae;have qH:=hm.cls;generalize au:iC m x=res;unfold iC at au;refine cQ.aK 56 os.length [.tmp 4] Tryz.func79 ?_;by_cases hr:0<=x.pair/\x.pair<m.ae.length/\0<=x.side/\x.side<=1/\-268435456<=x.amt/\x.amt<=268435456
 ·rw[decide_eq_true hr,iu]at au;have bG:=YE (h.app [.gone]) x ⟨hr.1,hr.2.1⟩ oL;have eb:=aL fb;((repeat'(first|refine Vb (X5 @fg @eg @fb @eb (X3 @gC.eq_1 @bE @aO.eq_1)) ?_|(refine V2 (X5 @fg @eg @fb @eb (X3 @gC.eq_1 @bE @aO.eq_1)) ?_ ?_<;>try with_reducible intro hb)|(refine Xi ?_ ?_<;>try intro ht)|exact Xx|fail)))
  refine cr (aF.Bv 3 os.length (cells:=aO x) (by rw[kq];rfl) (by simp only[Kc,simprocAttr]) (by simp[aO])) ?_;refine cr (σ':=⟨an [(0,.ptr gi 0 0),(3,.cd (aO x))],os++[.gone]⟩) (by rw[Dw];exact Xv @aO.eq_1) ?_;obtain⟨c1,c2⟩:=ahE hm hr.1 hr.2.1;obtain⟨lz,yI⟩:=h.rD.row (eK m x).toNat Ix;have qd:=aL lz;have k8:=hg.sl (eK m x).toNat Ix;have Hf:=hm.opt _ (aG (l:=m.cls) (i:=(eK m x).toNat) (d:=default) Ix);generalize D8:eK m x=c at *;obtain⟨bo,hd⟩:∃b,decide (x.opt >= 0)=b:=⟨_,rfl⟩;cases bo;all_goals
   have cZ:=hd;simp only[decide_eq_true_eq,decide_eq_false_iff_not]at cZ;have ahF:res=(decide (0<=x.opt)&&decide (x.opt<((D.getD c.toNat default).2:Int))):=by
    rw[<- au,Bool.eq_iff_iff,aZ,decide_eq_true_eq,decide_eq_true_eq,kR];dsimp only at k8;omega
   refine nY [1,5,11] (.take 0 (.take 1 (.take 2 (.take 3 (.take 6 (.take 10 (.take 11 (.three 4 (.take 5 (.both 7 (.both 8 (.both 9 (.take 12 (.take 13 (.take 14 (.take 15 (.take 16 (.take 17 (.take 18 .nil))))))) 12 (.take 9 (.take 13 (.take 14 (.take 15 (.take 16 (.take 17 (.take 18 .nil)))))))) 12 (.take 8 (.take 9 (.take 13 (.take 14 (.take 15 (.take 16 (.take 17 (.take 18 .nil))))))))) 12 (.take 7 (.take 8 (.take 9 (.take 13 (.take 14 (.take 15 (.take 16 (.take 17 (.take 18 .nil))))))))))) 7 (.three 4 (.take 5 (.both 8 (.both 9 (.take 12 (.take 13 (.take 14 (.take 15 (.take 16 (.take 17 (.take 18 .nil))))))) 12 (.take 9 (.take 13 (.take 14 (.take 15 (.take 16 (.take 17 (.take 18 .nil)))))))) 12 (.take 8 (.take 9 (.take 13 (.take 14 (.take 15 (.take 16 (.take 17 (.take 18 .nil)))))))))) 8 (.three 4 (.take 5 (.both 9 (.take 12 (.take 13 (.take 14 (.take 15 (.take 16 (.take 17 (.take 18 .nil))))))) 12 (.take 9 (.take 13 (.take 14 (.take 15 (.take 16 (.take 17 (.take 18 .nil))))))))) 9 (.both 4 (.take 5 (.take 12 (.take 13 (.take 14 (.take 15 (.take 16 (.take 17 (.take 18 .nil)))))))) 12 (.take 4 (.take 5 (.take 13 (.take 14 (.take 15 (.take 16 (.take 17 (.take 18 .nil))))))))) 12 (.take 4 (.take 5 (.take 9 (.take 13 (.take 14 (.take 15 (.take 16 (.take 17 (.take 18 .nil)))))))))) 12 (.take 4 (.take 5 (.take 8 (.take 9 (.take 13 (.take 14 (.take 15 (.take 16 (.take 17 (.take 18 .nil))))))))))) 12 (.take 4 (.take 5 (.take 7 (.take 8 (.take 9 (.take 13 (.take 14 (.take 15 (.take 16 (.take 17 (.take 18 .nil))))))))))))))))))) rfl NI (by decide +kernel) ?_;simp(disch:=omega)only[Ac,↓Pc,simprocAttr,p9,mO,lQ,lP,bZ,↓Lq,fg,eg,fa,ea,gC,cy,bE,qd,lz,aO,hd];repeat'(first|with_reducible refine cK ?_ ?_|omega|(refine fF bG Iy ?_;simp(disch:=omega)only[Ac,↓Pc,simprocAttr,p9,mO,lQ,lP,bZ,↓Lq,fg,eg,fa,ea,gC,cy,bE,qd,lz,aO,hd,bC]))
   all_goals
    repeat(refine Xu ?_)
    ((repeat'(first|refine Vb X0 ?_|fail)))
    unfold eH;simp only[dx,dv];simp(disch:=omega)only[Ac,↓Pc,simprocAttr];refine⟨.lit (.bool res),_,⟨rfl,_,rfl⟩,ed rfl Iy ?_⟩;rw[ahF];first|rfl|(rw[decide_eq_true cZ,iu])|(rw[decide_eq_false cZ,pU])
 ·rw[decide_eq_false hr,pU]at au;have eb:=aL fb;((repeat'(first|refine Vb (X5 @fg @eg @fb @eb (X3 @gC.eq_1 @bE @aO.eq_1)) ?_|(refine V2 (X5 @fg @eg @fb @eb (X3 @gC.eq_1 @bE @aO.eq_1)) ?_ ?_<;>try with_reducible intro hb)|(refine Xi ?_ ?_<;>try intro ht)|exact Xx|fail)))
  all_goals
   unfold eH;simp only[dx,dv];simp(disch:=omega)only[Ac,↓Pc,simprocAttr];exact⟨.lit (.bool res),_,⟨rfl,_,rfl⟩,ed rfl Iy (by rw[<- au])⟩
def ag6{m:ah}(hm:VM m){gi ai bi:Nat}{D E:List (Nat×Nat)}{S T:List (List Nm)}{os:List Ob}(h:LO aW (GB m gi ai bi D E) D E S T os){B:Int}(hB:0<=B/\B<=4611686018427387904)(hg:LG m B (S,T))(x:Mv)(hx:iC m x=true):
  cQ Tryz.prog 80 [.ptr gi 0 0,.agg (aO x)] os λr ob=>r=.bu []/\LO aW (GB m gi ai bi D E) D E (jE m x (S,T)).1 (jE m x (S,T)).2 ob/\os.length<=ob.length:=by
 obtain⟨fg,fa,fb⟩:=zV h;have eg:=aL fg;have ea:=aL fa;have eb:=aL fb;have hE:=h.rE.len;have hD:=h.rD.len;have jH:S.length=m.cls.length:=hg.s;have ht1:T.length=m.ae.length:=hg.t;have oL:=hm.ae;have qH:=hm.cls;have bS:=hx;unfold iC at bS;rw[aZ,decide_eq_true_eq]at bS;obtain⟨⟨x1,x2,x3,x4,x5,x6⟩,l'⟩:=bS;obtain⟨o1,o2,o3,o4⟩:=kR.1 l';have dO:=jP hm.pr _ (aG (l:=m.ae) (i:=x.pair.toNat) (d:=default) Ix);obtain⟨LH,LI,LJ,D1⟩:=DY dO;have hlF:=hm.opt _ (aG (l:=m.cls) (i:=(m.ae.getD x.pair.toNat default).fst.toNat) (d:=default) Ix);have hlS:=hm.opt _ (aG (l:=m.cls) (i:=(m.ae.getD x.pair.toNat default).snd.toNat) (d:=default) Ix);obtain⟨rL,D2⟩:=h.rE.row x.pair.toNat Ix;obtain⟨lz,yI⟩:=h.rD.row (eK m x).toNat Ix;have qe:=aL rL;have qd:=aL lz;have Hb:(S.getD (eK m x).toNat default).length=(m.cls.getD (eK m x).toNat default).length:=hg.sl (eK m x).toNat Ix;have BT:(T.getD x.pair.toNat default).length=(m.ae.getD x.pair.toNat default).ax.length:=hg.tl x.pair.toNat Ix;have kN:=(s6 hg.sb (eK m x).toNat).get hB.1 x.opt.toNat;dsimp only at kN;obtain⟨Hg,LX⟩:=h.rD.row (m.ae.getD x.pair.toNat default).snd.toNat Ix;obtain⟨rF1,rF2⟩:=h.rD.row (m.ae.getD x.pair.toNat default).fst.toNat Ix;have G5:(S.getD (m.ae.getD x.pair.toNat default).snd.toNat default).length=(m.cls.getD (m.ae.getD x.pair.toNat default).snd.toNat default).length:=hg.sl _ Ix;have hFl:(S.getD (m.ae.getD x.pair.toNat default).fst.toNat default).length=(m.cls.getD (m.ae.getD x.pair.toNat default).fst.toNat default).length:=hg.sl _ Ix;generalize cu:m.ae.getD x.pair.toNat default=p at *;generalize D3:(m.cls.getD p.snd.toNat default).length=dg at *;generalize LQ:(m.cls.getD p.fst.toNat default).length=rows at *;refine cQ.aK 95 os.length [] Tryz.func80 ?_;refine Xk ?_;refine Kh ?_;intro K hK;simp(disch:=omega)only[Ac,↓Pc,simprocAttr,fg,eg,aO];refine hK _ ?_;clear hK K;refine hn _ ?_;(try clear hn;try clear he)
 refine cr (aF.Bv 3 os.length (cells:=aO x) (by rw[kq];rfl) (by simp only[Kc,simprocAttr]) (by simp[aO])) ?_;refine cr (σ':=⟨an [(0,.ptr gi 0 0),(3,.cd (aO x))],os++[.gone]⟩) (by rw[Dw];exact Xv @aO.eq_1) ?_;refine Xk ?_;refine ur ?_;intro Q hn he;refine pZ ⟨an [(0,.ptr gi 0 0),(3,.cd (aO x)),(4,.ptr (os.length+1) 0 0),(5,.ref (E.getD x.pair.toNat default).1 2 0 (E.getD x.pair.toNat default).2)],os++[.gone,.var (aH p)]⟩ hn ?_ (λkey=>?_);rotate_left
 ·refine nY [6,8,14] (.take 0 (.take 1 (.take 2 (.take 3 (.take 4 (.take 5 (.take 6 (.take 7 (.take 8 (.take 9 (.take 10 (.take 11 (.take 13 (.take 14 (.both 12 (.take 15 (.both 16 (.take 17 (.take 18 (.take 19 .nil))) 17 (.both 16 (.take 18 (.take 19 .nil)) 18 (.take 16 (.take 19 .nil))))) 17 (.both 12 (.take 15 (.both 16 (.take 18 (.take 19 .nil)) 18 (.take 16 (.take 19 .nil)))) 18 (.take 12 (.take 15 (.take 16 (.take 19 .nil)))))))))))))))))))) rfl NI (by decide +kernel) ?_;simp(disch:=omega)only[Ac,↓Pc,simprocAttr,p9,mO,lQ,lP,bZ,↓Lq,fg,eg,fb,eb,gC,cy,bE,qe,rL,aO,aH,cu,bC,bF];repeat'(first|with_reducible refine cK ?_ ?_|omega)
  all_goals
   refine key _ ?_;exact Xv (X2 @aO.eq_1 @aH.eq_1)
 (try clear hn;try clear he)
 try(try clear Q)
 have BZ:LO aW (GB m gi ai bi D E) D E S T (os++[.gone,.var (aH p)]):=h.app _;have fp:(os++[Ob.gone,.var (aH p)])[os.length+1]?=some (.var (aH p)):=by rw[kS];rfl
 have bG:=YE BZ x ⟨x1,x2⟩ oL;have YF:=eg [.gone,.var (aH p)];have YG:=ea [.gone,.var (aH p)];have YH:=qd [.gone,.var (aH p)];have eg1:=aL YF;have ea1:=aL YG;have ed1:=aL YH;have ep1:=aL fp;refine Xk ?_;have vN:=LW (os:=os++[Ob.gone,.var (aH p),.var (aO x)]) (id:=(D.getD (eK m x).toNat default).1) (r:=x.opt.toNat) (row:=S.getD (eK m x).toNat default) (qd _) Ix x.amt (by unfold cS;omega);have sd:=iD lz;generalize D8:eK m x=c at *;refine ur ?_;intro Q hn he;refine pZ ⟨an [(0,.ptr gi 0 0),(3,.cd (aO x)),(4,.ptr (os.length+1) 0 0),(5,.ref (E.getD x.pair.toNat default).1 2 0 (E.getD x.pair.toNat default).2)],os.set (D.getD c.toNat default).1 (.arr 2 (rowsOf aW (jn (S.getD c.toNat default) x.opt.toNat x.amt)))++[.gone,.var (aH p),.var (aO x)]⟩ hn ?_ (λkey=>?_);rotate_left
 ·refine aeN [5,10,13] (.take 0 (.take 4 (.take 5 (.four 1 (.four 2 (.four 3 (.three 6 (.take 7 (.take 8 (.take 9 (.take 10 (.take 11 (.take 12 (.take 13 (.take 14 .nil)))))))) 9 (.take 10 (.both 6 (.take 7 (.take 8 (.take 11 (.take 12 (.take 13 (.take 14 .nil)))))) 12 (.take 6 (.take 7 (.take 8 (.take 11 (.take 13 (.take 14 .nil)))))))) 12 (.take 13 (.both 6 (.take 7 (.take 8 (.take 9 (.take 10 (.take 11 (.take 14 .nil)))))) 9 (.take 6 (.take 7 (.take 8 (.take 10 (.take 11 (.take 14 .nil))))))))) 6 (.take 3 (.take 7 (.take 8 (.take 9 (.take 10 (.take 11 (.take 12 (.take 13 (.take 14 .nil))))))))) 9 (.take 10 (.three 3 (.both 6 (.take 7 (.take 8 (.take 11 (.take 12 (.take 13 (.take 14 .nil)))))) 12 (.take 6 (.take 7 (.take 8 (.take 11 (.take 13 (.take 14 .nil))))))) 6 (.take 3 (.take 7 (.take 8 (.take 11 (.take 12 (.take 13 (.take 14 .nil))))))) 12 (.take 13 (.both 3 (.take 6 (.take 7 (.take 8 (.take 11 (.take 14 .nil))))) 6 (.take 3 (.take 7 (.take 8 (.take 11 (.take 14 .nil))))))))) 12 (.take 13 (.three 3 (.both 6 (.take 7 (.take 8 (.take 9 (.take 10 (.take 11 (.take 14 .nil)))))) 9 (.take 6 (.take 7 (.take 8 (.take 10 (.take 11 (.take 14 .nil))))))) 6 (.take 3 (.take 7 (.take 8 (.take 9 (.take 10 (.take 11 (.take 14 .nil))))))) 9 (.take 10 (.both 3 (.take 6 (.take 7 (.take 8 (.take 11 (.take 14 .nil))))) 6 (.take 3 (.take 7 (.take 8 (.take 11 (.take 14 .nil)))))))))) 6 (.take 2 (.take 3 (.take 7 (.take 8 (.take 9 (.take 10 (.take 11 (.take 12 (.take 13 (.take 14 .nil)))))))))) 9 (.take 10 (.three 2 (.three 3 (.both 6 (.take 7 (.take 8 (.take 11 (.take 12 (.take 13 (.take 14 .nil)))))) 12 (.take 6 (.take 7 (.take 8 (.take 11 (.take 13 (.take 14 .nil))))))) 6 (.take 3 (.take 7 (.take 8 (.take 11 (.take 12 (.take 13 (.take 14 .nil))))))) 12 (.take 13 (.both 3 (.take 6 (.take 7 (.take 8 (.take 11 (.take 14 .nil))))) 6 (.take 3 (.take 7 (.take 8 (.take 11 (.take 14 .nil)))))))) 6 (.take 2 (.take 3 (.take 7 (.take 8 (.take 11 (.take 12 (.take 13 (.take 14 .nil)))))))) 12 (.take 13 (.both 2 (.both 3 (.take 6 (.take 7 (.take 8 (.take 11 (.take 14 .nil))))) 6 (.take 3 (.take 7 (.take 8 (.take 11 (.take 14 .nil)))))) 6 (.take 2 (.take 3 (.take 7 (.take 8 (.take 11 (.take 14 .nil)))))))))) 12 (.take 13 (.three 2 (.three 3 (.both 6 (.take 7 (.take 8 (.take 9 (.take 10 (.take 11 (.take 14 .nil)))))) 9 (.take 6 (.take 7 (.take 8 (.take 10 (.take 11 (.take 14 .nil))))))) 6 (.take 3 (.take 7 (.take 8 (.take 9 (.take 10 (.take 11 (.take 14 .nil))))))) 9 (.take 10 (.both 3 (.take 6 (.take 7 (.take 8 (.take 11 (.take 14 .nil))))) 6 (.take 3 (.take 7 (.take 8 (.take 11 (.take 14 .nil)))))))) 6 (.take 2 (.take 3 (.take 7 (.take 8 (.take 9 (.take 10 (.take 11 (.take 14 .nil)))))))) 9 (.take 10 (.both 2 (.both 3 (.take 6 (.take 7 (.take 8 (.take 11 (.take 14 .nil))))) 6 (.take 3 (.take 7 (.take 8 (.take 11 (.take 14 .nil)))))) 6 (.take 2 (.take 3 (.take 7 (.take 8 (.take 11 (.take 14 .nil))))))))))) 6 (.take 1 (.take 2 (.take 3 (.take 7 (.take 8 (.take 9 (.take 10 (.take 11 (.take 12 (.take 13 (.take 14 .nil))))))))))) 9 (.take 10 (.three 1 (.three 2 (.three 3 (.both 6 (.take 7 (.take 8 (.take 11 (.take 12 (.take 13 (.take 14 .nil)))))) 12 (.take 6 (.take 7 (.take 8 (.take 11 (.take 13 (.take 14 .nil))))))) 6 (.take 3 (.take 7 (.take 8 (.take 11 (.take 12 (.take 13 (.take 14 .nil))))))) 12 (.take 13 (.both 3 (.take 6 (.take 7 (.take 8 (.take 11 (.take 14 .nil))))) 6 (.take 3 (.take 7 (.take 8 (.take 11 (.take 14 .nil)))))))) 6 (.take 2 (.take 3 (.take 7 (.take 8 (.take 11 (.take 12 (.take 13 (.take 14 .nil)))))))) 12 (.take 13 (.both 2 (.both 3 (.take 6 (.take 7 (.take 8 (.take 11 (.take 14 .nil))))) 6 (.take 3 (.take 7 (.take 8 (.take 11 (.take 14 .nil)))))) 6 (.take 2 (.take 3 (.take 7 (.take 8 (.take 11 (.take 14 .nil))))))))) 6 (.take 1 (.take 2 (.take 3 (.take 7 (.take 8 (.take 11 (.take 12 (.take 13 (.take 14 .nil))))))))) 12 (.take 13 (.both 1 (.both 2 (.both 3 (.take 6 (.take 7 (.take 8 (.take 11 (.take 14 .nil))))) 6 (.take 3 (.take 7 (.take 8 (.take 11 (.take 14 .nil)))))) 6 (.take 2 (.take 3 (.take 7 (.take 8 (.take 11 (.take 14 .nil))))))) 6 (.take 1 (.take 2 (.take 3 (.take 7 (.take 8 (.take 11 (.take 14 .nil))))))))))) 12 (.take 13 (.three 1 (.three 2 (.three 3 (.both 6 (.take 7 (.take 8 (.take 9 (.take 10 (.take 11 (.take 14 .nil)))))) 9 (.take 6 (.take 7 (.take 8 (.take 10 (.take 11 (.take 14 .nil))))))) 6 (.take 3 (.take 7 (.take 8 (.take 9 (.take 10 (.take 11 (.take 14 .nil))))))) 9 (.take 10 (.both 3 (.take 6 (.take 7 (.take 8 (.take 11 (.take 14 .nil))))) 6 (.take 3 (.take 7 (.take 8 (.take 11 (.take 14 .nil)))))))) 6 (.take 2 (.take 3 (.take 7 (.take 8 (.take 9 (.take 10 (.take 11 (.take 14 .nil)))))))) 9 (.take 10 (.both 2 (.both 3 (.take 6 (.take 7 (.take 8 (.take 11 (.take 14 .nil))))) 6 (.take 3 (.take 7 (.take 8 (.take 11 (.take 14 .nil)))))) 6 (.take 2 (.take 3 (.take 7 (.take 8 (.take 11 (.take 14 .nil))))))))) 6 (.take 1 (.take 2 (.take 3 (.take 7 (.take 8 (.take 9 (.take 10 (.take 11 (.take 14 .nil))))))))) 9 (.take 10 (.both 1 (.both 2 (.both 3 (.take 6 (.take 7 (.take 8 (.take 11 (.take 14 .nil))))) 6 (.take 3 (.take 7 (.take 8 (.take 11 (.take 14 .nil)))))) 6 (.take 2 (.take 3 (.take 7 (.take 8 (.take 11 (.take 14 .nil))))))) 6 (.take 1 (.take 2 (.take 3 (.take 7 (.take 8 (.take 11 (.take 14 .nil))))))))))))))) rfl NI (by decide +kernel) ?_;simp(disch:=omega)only[Ac,↓Pc,simprocAttr,uy,ux,uw,uv,sU,bZ,↓Lq,eg,ea,gC,cy,bE,qd,aO];repeat'(first|with_reducible refine cK ?_ ?_|omega|(refine fF bG Iy ?_;simp(disch:=omega)only[Ac,↓Pc,simprocAttr,uy,ux,uw,uv,sU,bZ,↓Lq,eg,ea,gC,cy,bE,qd,aO,bC])|(refine fF vN Iy ?_;simp(disch:=omega)only[Ac,↓Pc,simprocAttr,sU,sd,bC]))
  all_goals
   refine key _ ?_;exact Xv @aO.eq_1
 (try clear hn;try clear he)
 try(try clear Q)
 have l8:=(h.zT (j:=c.toNat) Ix (r:=jn (S.getD c.toNat default) x.opt.toNat x.amt) (xc _ _ _)).app [.gone,.var (aH p),.var (aO x)];have Lh:os.length<=(os.set (D.getD c.toNat default).1 (.arr 2 (rowsOf aW (jn (S.getD c.toNat default) x.opt.toNat x.amt)))++[Ob.gone,Ob.var (aH p),Ob.var (aO x)]).length:=Iy;have YI:(os.set (D.getD c.toNat default).1 (.arr 2 (rowsOf aW (jn (S.getD c.toNat default) x.opt.toNat x.amt)))++[Ob.gone,Ob.var (aH p),Ob.var (aO x)])[os.length+1]?=some (.var (aH p)):=oH _ _ _ _ _;have hmS:jE m x (S,T)=(S.set c.toNat (jn (S.getD c.toNat default) x.opt.toNat x.amt),T.set x.pair.toNat (gu (nI m x).1 x.amt (nI m x).2 (T.getD x.pair.toNat default))):=by unfold jE;rw[D8]
 rw[hmS];dsimp only;have vQ:x.pair.toNat<T.length:=Ix;have Hh:nI m x=if x.side=0 then(λk:Nat=>(x.opt*dg+k).toNat,dg) else(λk:Nat=>((k:Int)*dg+x.opt).toNat,rows):=by unfold nI;rw[cu,D3,LQ]
 have Hi:c=if x.side=0 then p.fst else p.snd:=by rw[<- D8];unfold eK;rw[cu]
 have LY:=s6 hg.tb x.pair.toNat;dsimp only at LY;have nk:=BX dO hm;generalize hS':S.set c.toNat (jn (S.getD c.toNat default) x.opt.toNat x.amt)=S' at *;generalize os.set (D.getD c.toNat default).1 (.arr 2 (rowsOf aW (jn (S.getD c.toNat default) x.opt.toNat x.amt)))++[Ob.gone,.var (aH p),.var (aO x)]=tw at *;obtain⟨gg,ga,gb⟩:=zV l8;obtain⟨u1,u2⟩:=l8.rD.row p.snd.toNat Ix;obtain⟨v1,v2⟩:=l8.rD.row p.fst.toNat Ix;clear fg eg fa ea fb eb rL lz qe qd Hg rF1 BZ fp bG YF YG YH eg1 ea1 ed1 ep1 vN sd h;have w5:(D.getD p.snd.toNat default).2=dg:=by rw[<- LX];exact G5
 have YJ:(D.getD p.fst.toNat default).2=rows:=by rw[<- rF2];exact hFl
 by_cases hs:x.side=0
 ·rw[if_pos hs]at Hi Hh;rw[Hi]at o4;rw[Hh];dsimp only;((repeat'(first|refine Vb (X5 @gg @ga @gC.eq_1 @cy.eq_1 (X5 @YI @aH.eq_1 @u1 @v1 (X3 @w5 @YJ @aO.eq_1))) ?_|(refine Xi ?_ ?_<;>try intro ht)|exact Xx|fail)))
  refine aU (λz:Nat×List Ob=>(⟨an [(3,.cd (aO x)),(5,.ref (E.getD x.pair.toNat default).1 2 0 (E.getD x.pair.toNat default).2),(6,N0 dg),(53,N0 dg),(54,N0 z.1)],z.2⟩:St))
   (λz=>z.1<=dg/\LO aW (GB m gi ai bi D E) D E S' (T.set x.pair.toNat (gu (λk:Nat=>(x.opt*dg+k).toNat) x.amt z.1 (T.getD x.pair.toNat default))) z.2/\os.length<=z.2.length)
   (λz=>dg-z.1) (0,tw) ⟨aT _,by rw[gu,zU];exact l8,Lh⟩ (Xv @aO.eq_1) ?_
  rintro⟨k,ok⟩⟨hk,jR,jK⟩Ql ak ar;dsimp only at hk jR jK ⊢;obtain⟨rM,Ae⟩:=jR.rE.row x.pair.toNat Ix;rw[uE _ _ _ vQ]at rM Ae;have k8:=zW (λk:Nat=>(x.opt*dg+k).toNat) x.amt k (T.getD x.pair.toNat default);have LK:=(LY.sub Ix (λk:Nat=>(x.opt*dg+k).toNat) (a:=x.amt) Ix k).get Ix (x.opt*dg+k:Int).toNat;by_cases ba:k<dg
  ·have l9:=jR.yv (j:=x.pair.toNat) Ix (r:=jn (gu (λk:Nat=>(x.opt*dg+k).toNat) x.amt k (T.getD x.pair.toNat default)) (x.opt*dg+k:Int).toNat (-x.amt)) (by rw[uE _ _ _ vQ];exact xc _ _ _);rw[wG]at l9;obtain⟨LL,LM,LN,LP⟩:=G' (a:=x.opt) (k:=(k:Int)) (c:=(dg:Int)) (n:=(rows:Int)) ⟨o3,Ix⟩ Ix Ix Ix;generalize uL:(x.opt*dg+k:Int)=ix at *;generalize iA:gu (λk:Nat=>(x.opt*dg+k).toNat) x.amt k (T.getD x.pair.toNat default)=tk at *;have vN:=LW rM (r:=ix.toNat) Ix (-x.amt) (by unfold cS;omega);((repeat'(first|refine Va (X3 @rM @aO.eq_1 @uL) ?_|(refine Xi ?_ ?_<;>try intro ht)|exact Xx|fail))<;>try with_reducible intro K hK)
   refine fF vN Iy ?_;((try revert hK K);(refine Va X0 ?_))
   refine ak _ (k+1,_) ⟨NQ,by rw[gu,iA,uL];exact l9,by dsimp only;rw[bK];exact jK⟩ NQ ?_;exact Xv @aO.eq_1
  ·have xm:k=dg:=Ix;rw[xm]at jR;((repeat'(first|refine Va X0 ?_|(refine Xi ?_ ?_<;>try intro ht)|exact Xx|fail)))
   refine ar _ _ rfl ?_;clear ak ar Ql;repeat(refine Xu ?_)
   refine Vb X0 ?_;unfold eH;simp only[dx,dv];exact⟨.bu [],_,⟨rfl,jR,jK⟩,ed rfl jK rfl⟩
 ·rw[if_neg hs]at Hi Hh;rw[Hi]at o4;rw[Hh];dsimp only;((repeat'(first|refine Vb (X5 @gg @ga @gC.eq_1 @cy.eq_1 (X5 @YI @aH.eq_1 @u1 @v1 (X3 @w5 @YJ @aO.eq_1))) ?_|(refine Xi ?_ ?_<;>try intro ht)|exact Xx|fail)))
  refine aU (λz:Nat×List Ob=>(⟨an [(3,.cd (aO x)),(5,.ref (E.getD x.pair.toNat default).1 2 0 (E.getD x.pair.toNat default).2),(6,N0 dg),(78,N0 rows),(79,N0 z.1)],z.2⟩:St))
   (λz=>z.1<=rows/\LO aW (GB m gi ai bi D E) D E S' (T.set x.pair.toNat (gu (λk:Nat=>((k:Int)*dg+x.opt).toNat) x.amt z.1 (T.getD x.pair.toNat default))) z.2/\os.length<=z.2.length)
   (λz=>rows-z.1) (0,tw) ⟨aT _,by rw[gu,zU];exact l8,Lh⟩ (Xv @aO.eq_1) ?_
  rintro⟨k,ok⟩⟨hk,jR,jK⟩Ql ak ar;dsimp only at hk jR jK ⊢;obtain⟨rM,Ae⟩:=jR.rE.row x.pair.toNat Ix;rw[uE _ _ _ vQ]at rM Ae;have k8:=zW (λk:Nat=>((k:Int)*dg+x.opt).toNat) x.amt k (T.getD x.pair.toNat default);have LK:=(LY.sub Ix (λk:Nat=>((k:Int)*dg+x.opt).toNat) (a:=x.amt) Ix k).get Ix ((k:Int)*dg+x.opt).toNat;by_cases ba:k<rows
  ·have l9:=jR.yv (j:=x.pair.toNat) Ix (r:=jn (gu (λk:Nat=>((k:Int)*dg+x.opt).toNat) x.amt k (T.getD x.pair.toNat default)) ((k:Int)*dg+x.opt).toNat (-x.amt)) (by rw[uE _ _ _ vQ];exact xc _ _ _);rw[wG]at l9;obtain⟨LL,LM,LN,LP⟩:=G' (a:=(k:Int)) (k:=x.opt) (c:=(dg:Int)) (n:=(rows:Int)) Ix ⟨o3,Ix⟩ Ix Ix;generalize uL:((k:Int)*dg+x.opt)=ix at *;generalize iA:gu (λk:Nat=>((k:Int)*dg+x.opt).toNat) x.amt k (T.getD x.pair.toNat default)=tk at *;have vN:=LW rM (r:=ix.toNat) Ix (-x.amt) (by unfold cS;omega);((repeat'(first|refine Va (X3 @rM @aO.eq_1 @uL) ?_|(refine Xi ?_ ?_<;>try intro ht)|exact Xx|fail))<;>try with_reducible intro K hK)
   refine fF vN Iy ?_;((try revert hK K);(refine Va X0 ?_))
   refine ak _ (k+1,_) ⟨NQ,by rw[gu,iA,uL];exact l9,by dsimp only;rw[bK];exact jK⟩ NQ ?_;exact Xv @aO.eq_1
  ·have xm:k=rows:=Ix;rw[xm]at jR;((repeat'(first|refine Va X0 ?_|(refine Xi ?_ ?_<;>try intro ht)|exact Xx|fail)))
   refine ar _ _ rfl ?_;clear ak ar Ql;repeat(refine Xu ?_)
   ((skip))
   unfold eH;simp only[dx,dv];exact⟨.bu [],_,⟨rfl,jR,jK⟩,ed rfl jK rfl⟩
end T

