import Derived.Test.YtjadfapldkfbpaaGreatX31
import Derived.Test.YtjadfapldkfbpaaGreatX34
set_option linter.all false
set_option maxHeartbeats 0
set_option maxRecDepth 20000
open Nat renaming le_refl→aR,zero_le→aF
open List renaming length_append→bQ,length_singleton→rj,length_nil→k8,mem_append→cz,mem_singleton→ec,length_set→bw
open Go Go.Am Go.Proofs
namespace T
structure GM(m:ah):Prop where
 cls:m.cls.length<=24
 opt:∀ l∈m.cls,l.length<=25
 ae:m.ae.length<=4001
 pr:∀ p∈m.ae,sx m p
def acb{L:List Int}{m:ah}:∀ (j k:Nat) (l:List Mv),k<=L.length->(yA L m j k l).1.length<=l.length+j/\(yA L m j k l).2<=L.length
 |0,k,l,hk=>⟨aR _,hk⟩
 |j+1,k,l,hk=>by
  rw[yA];split
  ·have h2:=acb (m:=m) j (Bz L m k).2 (l++[(Bz L m k).1]) (akT hk);rw[bQ,rj]at h2;exact⟨G3,h2.2⟩
  ·exact⟨Kw,hk⟩
def alm{L:List Int}{m:ah}{most k:Nat}(hk:k<=L.length):(wU L m most k).1.length<=most/\(wU L m most k).2<=L.length:=by
 have hv:=kd (L:=L) (k:=k) (n:=(most:Int)+1) G3;have h:=acb (L:=L) (m:=m) (da L k (most+1)).toNat (bR L k) [] (dN hk);rw[k8]at h;exact⟨by have:=h.1;unfold wU;omega,h.2⟩
structure wS(x:Nd):Prop where
 kids:x.kids.length<=25
 cR:x.cR.length<=3
 bh:x.bh=[]
 cells:x.cells=[]
structure OV(L:List Int)(w s:Nat)(nodes:List Nd)(r:List Nd×Nat):Prop where
 k:r.2<=L.length
 lt:nodes.length<r.1.length
 le:r.1.length<=nodes.length+kv w s
 pre:∀ i,i<nodes.length->nd r.1 i=nd nodes i
 bd:∀ x∈r.1,x∈nodes\/wS x
def acd{L:List Int}{w s:Nat}(g:List Nd->Nat->List Nd×Nat)(hg:∀ n q,q<=L.length->OV L w s n (g n q)):∀ (c:Nat) (nodes:List Nd) (k:Nat) (ks:List Int),k<=L.length ->
  (nh g c nodes k ks).2.1<=L.length/\nodes.length<=(nh g c nodes k ks).1.length/\(nh g c nodes k ks).1.length<=nodes.length+c*kv w s/\(∀ i,i<nodes.length->nd (nh g c nodes k ks).1 i=nd nodes i)/\(nh g c nodes k ks).2.2.length=ks.length+c/\∀ x∈(nh g c nodes k ks).1,x∈nodes\/wS x
 |0,nodes,k,ks,hk=>by
  rw[nh];exact⟨hk,aR _,Nat.le_add_right _ _,λ_ _=>rfl,rfl,λ_ h=>.inl h⟩
 |c+1,nodes,k,ks,hk=>by
  rw[nh];have h:=hg nodes k hk;obtain⟨i1,i2,i3,i4,i5,i6⟩:=acd g hg c (g nodes k).1 (g nodes k).2 (ks++[(nodes.length:Int)]) h.k;have h1:=h.lt;have h2:=h.le;refine⟨i1,G3,?_,λi hi=>(i4 i G3).trans (h.pre i hi),by rw[i5];simp;omega,λx hx=>?_⟩
  ·have:(c+1)*kv w s=c*kv w s+kv w s:=by rw[Nat.add_mul,Nat.one_mul]
   omega
  ·rcases i6 x hx with hx|hx
   ·exact h.bd x hx
   ·exact .inr hx
def ace{m:ah}{L:List Int}(w s:Nat)(nodes:List Nd){k:Nat}(hk:k<=L.length):OV L w s nodes (zC m L nodes k):=by
 obtain⟨a1,a3⟩:=alm (L:=L) (m:=m) (most:=3) (dN hk);have:=ZM w s;refine⟨a3,by simp[zC],by simp[zC];omega,λi hi=>NA hi,λx hx=>?_⟩;unfold zC at hx;rcases cz.1 hx with hx|hx
 ·exact .inl hx
 ·rw[ec]at hx;subst hx;exact .inr ⟨aF _,a1,rfl,rfl⟩
def OW{m:ah}{L:List Int}(hm:GM m):∀ (s:Nat) (nodes:List Nd) (k:Nat) (ab:List Int),k<=L.length->OV L 25 s nodes (ku m L s nodes k ab)
 |0,nodes,k,ab,hk=>ace 25 0 nodes hk
 |s+1,nodes,k,ab,hk=>by
  rw[ku];split
  ·exact ace 25 (s+1) nodes hk
  ·rename_i hd;have hc:=ZL m L k;generalize aM:mL m L k=c at *;rw[Bool.not_eq_true]at hd;unfold FO at hd;rw[aM]at hd;simp only[Bool.or_eq_false_iff,decide_eq_false_iff_not]at hd;obtain⟨⟨⟨d1,d2⟩,d3⟩,d4⟩:=hd;have bY:c.toNat<m.cls.length:=G3;have hw:=hm.opt _ (aB (l:=m.cls) (i:=c.toNat) (d:=default) bY);obtain⟨i1,i2,i3,i4,i5,i6⟩:=acd (L:=L) (w:=25) (s:=s) (λn q=>ku m L s n q (ab++[c])) (λn q hq=>OW hm s n q (ab++[c]) hq) (m.cls.getD c.toNat default).length (nodes++[eW []]) (bR L k) [] (dN hk);generalize nh (λn q=>ku m L s n q (ab++[c])) (m.cls.getD c.toNat default).length (nodes++[eW []]) (bR L k) []=r at *;obtain⟨aln,k',ks⟩:=r;dsimp only at *;rw[bQ,rj]at i2 i3 i4;have iq:=λi=>ain (P:=aln) (x:=⟨c,ks,[],[],[]⟩) (i:=i) (j:=nodes.length) G3;refine⟨i1,by rw[bw];omega,?_,λi hi=>?_,λx hx=>?_⟩
   ·rw[bw,kv];have:(m.cls.getD c.toNat default).length*kv 25 s<=25*kv 25 s:=Nat.mul_le_mul_right _ hw;omega
   ·rw[iq,if_neg G3,i4 i G3,NA hi]
   ·rcases List.mem_or_eq_of_mem_set hx with hx|hx
    ·rcases i6 x hx with hx|hx
     ·rcases cz.1 hx with hx|hx
      ·exact .inl hx
      ·rw[ec]at hx;subst hx;exact .inr ⟨aF _,aF _,rfl,rfl⟩
     ·exact .inr hx
    ·subst hx;exact .inr ⟨by rw[k8,Nat.zero_add]at i5;show ks.length<=25;omega,aF _,rfl,rfl⟩
def alo(m:ah)(hm:GM m)(L:List Int)(k:Nat)(most:Nat)(ajt:most<=1000)(hk:k<=L.length)(hL:L.length<1000000):
  an Tryz.prog 55 [.ptr 0 0 0,.agg (ao m),aaa most] [ef L k] (.tree 4 (rowsOf bN (wU L m most k).1)) [ef L (wU L m most k).2]:=by
 unfold ef;generalize aj:wU L m most k=res;unfold wU at aj;have s7:=hm.ae;have yp:=hm.cls;have bW:=dN hk;have BA:=kd (L:=L) (k:=k) (n:=(most:Int)+1) G3;refine an.aC 72 1 [.tmp 6] Tryz.func55 ?_;((try revert hK K);(repeat'(first|refine Vb X0 ?_|(refine V2 X0 ?_ ?_<;>try with_reducible intro hb)|(refine Xi ?_ ?_<;>try intro ht)|refine VD ?_ ?_|exact Xx|fail))<;>try with_reducible intro K hK)
 refine ez [0] (iw L k (most+1) (by unfold dS;omega) hk hL) Kq ⟨rfl,trivial⟩ ⟨.eq rfl,.pure rfl,trivial⟩ ?_;generalize da L k (most+1)=n at *;generalize bR L k=k0 at *;((try revert hK K);(repeat'(first|refine Vb X0 ?_|(refine V2 X0 ?_ ?_<;>try with_reducible intro hb)|(refine Xi ?_ ?_<;>try intro ht)|refine VD ?_ ?_|exact Xx|fail))<;>try with_reducible intro K hK)
 clear hk k;obtain⟨n,rfl⟩:=Int.eq_ofNat_of_zero_le BA.1;rw[Int.toNat_natCast]at aj;refine aO (λz:Nat×Nat×List Mv=>(⟨au [(0,.ptr 0 0 0),(4,.ptr 1 0 0),(7,.ref 2 4 0 z.2.2.length),(8,aaa z.1)],[.var [.tree 1 (ints L),aaa z.2.1],.var (ao m),.arr 4 (rowsOf bN z.2.2)]⟩:St))
  (λz=>z.2.1<=L.length/\z.2.2.length+z.1<=most/\yA L m z.1 z.2.1 z.2.2=res) (λz=>z.1) (n,k0,[]) ⟨bW,PX,aj⟩ ?_ ?_
 ·refine ay.trans (ay.nil 7 4 (by simp only[Kc,simprocAttr]) Kq) ?_;exact Xv X0
 clear aj bW BA k0 n;rintro⟨n,k,l⟩⟨hk,dI,hr⟩Ql ak ar;dsimp only at hk dI hr ⊢;by_cases bE:0<n/\0<m.ae.length
 ·obtain⟨eA,x7⟩:=bE;rw[show n=(n-1)+1 by omega,yA,if_pos x7]at hr;unfold Bz dmN at hr;dsimp only at hr;repeat'(first|((fail_if_success (first|refine dE 5 ?_|refine dF 5 ?_));refine Xr X0 ?_;intro K hK)|refine Xo X0 ?_|(refine hK _ ?_;clear hK K)|(refine Xg X0 ?_ ?_<;>try intro hb)|(refine Xi ?_ ?_<;>try intro ht)|refine Xy ?_|refine Xd ?_ ?_|exact Xx|fail)
  all_goals try(exfalso;omega)
  have oW:=kd (L:=L) (k:=k) (n:=(m.ae.length:Int)) G3;have gv:=dN hk;((try revert hK K);(repeat'(first|refine Va X0 ?_|(refine V2 X0 ?_ ?_<;>try with_reducible intro hb)|(refine Xi ?_ ?_<;>try intro ht)|refine VD ?_ ?_|exact Xx|fail))<;>try with_reducible intro K hK)
  refine ez [0] (iw L k m.ae.length (by unfold dS;omega) hk hL) Kq ⟨rfl,trivial⟩ ⟨.eq rfl,.pure rfl,trivial⟩ ?_;generalize da L k m.ae.length=v1 at *;generalize bR L k=k1 at *;have mo:=kd (L:=L) (k:=k1) (n:=2) G3;have bW:=dN gv;((try revert hK K);(repeat'(first|refine Va X0 ?_|(refine V2 X0 ?_ ?_<;>try with_reducible intro hb)|(refine Xi ?_ ?_<;>try intro ht)|refine VD ?_ ?_|exact Xx|fail))<;>try with_reducible intro K hK)
  refine ez [0] (iw L k1 2 (by unfold dS;omega) gv hL) Kq ⟨rfl,trivial⟩ ⟨.eq rfl,.pure rfl,trivial⟩ ?_;generalize da L k1 2=v2 at *;generalize bR L k1=k2 at *;have Ds:=kd (L:=L) (k:=k2) (n:=41) G3;have kR:=dN bW;((try revert hK K);(repeat'(first|refine Va X0 ?_|(refine V2 X0 ?_ ?_<;>try with_reducible intro hb)|(refine Xi ?_ ?_<;>try intro ht)|refine VD ?_ ?_|exact Xx|fail))<;>try with_reducible intro K hK)
  refine ez [0] (iw L k2 41 (by unfold dS;omega) bW hL) Kq ⟨rfl,trivial⟩ ⟨.eq rfl,.pure rfl,trivial⟩ ?_;generalize da L k2 41=v3 at *;generalize bR L k2=k3 at *;have dJ:=hm.pr _ (aB (l:=m.ae) (i:=v1.toNat) (d:=default) G3);unfold sx at dJ;clear gv bW hk;generalize bL:m.ae.getD v1.toNat default=p at *;generalize aM:(if v2=0 then p.fst else p.snd)=c at *;have hc:0<=c/\c<m.cls.length:=by rw[<- aM];split<;>omega
  have eT:=aB (l:=m.cls) (i:=c.toNat) (d:=default) G3;have acf:=hm.opt _ eT;have w0:=dN kR;have l4:=iw L k3 (m.cls.getD c.toNat default).length (by unfold dS;omega) kR hL;generalize hvo:da L k3 (m.cls.getD c.toNat default).length=vo at *;generalize bR L k3=k4 at *;have hv5:=kd (L:=L) (k:=bR L k4) (n:=2) G3;have BH:=dN w0;have GC:=dN BH;have lu:=AS L k4 9 (by unfold dS;omega) G3 w0 hL;have nE:=iw L (bR L k4) 2 (by unfold dS;omega) BH hL;generalize xV L k4 9=b9 at *;generalize aow:bR L k4=k5 at *;generalize da L k5 2=v5 at *;generalize bR L k5=k6 at *;have wZ:∀ x:Mv,(l++[x]).length+(n-1)<=most:=λx=>by rw[bQ,rj];omega
  have eF:(n:Int)-1=((n-1:Nat):Int):=G3;by_cases aox:v2=1
  ·rw[if_neg G3]at aM;rw[<- aM]at eT acf l4 hc;generalize GD:(m.cls.getD p.snd.toNat default).length=nl at *;have OX:v5=0\/v5=1:=G3;((try revert hK K);(repeat'(first|refine Va (X4 @bL @GD @aQ.eq_1 @a9.eq_1) ?_|(refine V2 (X4 @bL @GD @aQ.eq_1 @a9.eq_1) ?_ ?_<;>try with_reducible intro hb)|(refine Xi ?_ ?_<;>try intro ht)|refine VD ?_ ?_|exact Xx|fail))<;>try with_reducible intro K hK)
   all_goals try(exfalso;omega)
   refine ez [0] l4 Kq ⟨rfl,trivial⟩ ⟨.eq rfl,.pure rfl,trivial⟩ ?_;((try revert hK K);(repeat'(first|refine Va X0 ?_|(refine V2 X0 ?_ ?_<;>try with_reducible intro hb)|(refine Xi ?_ ?_<;>try intro ht)|refine VD ?_ ?_|exact Xx|fail))<;>try with_reducible intro K hK)
   refine ez [0] lu Kq ⟨rfl,trivial⟩ ⟨.eq rfl,.pure rfl,trivial⟩ ?_;((try revert hK K);(repeat'(first|refine Va (X2 @eF @uA) ?_|(refine V2 (X2 @eF @uA) ?_ ?_<;>try with_reducible intro hb)|(refine Xi ?_ ?_<;>try intro ht)|refine VD ?_ ?_|exact Xx|fail))<;>try with_reducible intro K hK)
   ·rw[if_pos ht]at hr;rcases OX with rfl|rfl
    ·rw[if_pos rfl]at hr;refine ez [0] nE Kq ⟨rfl,trivial⟩ ⟨.eq rfl,.pure rfl,trivial⟩ ?_;((try revert hK K);(repeat'(first|refine Va (X2 @eF @uA) ?_|(refine V2 (X2 @eF @uA) ?_ ?_<;>try with_reducible intro hb)|(refine Xi ?_ ?_<;>try intro ht)|refine VD ?_ ?_|exact Xx|fail))<;>try with_reducible intro K hK)
     refine ak _ (n-1,k6,l++[⟨v1,v2,vo,-268435456⟩]) ⟨GC,wZ _,hr⟩ Kw ?_;exact Xs false [0,1,7] X0
    ·rw[if_neg Kq]at hr;refine ez [0] nE Kq ⟨rfl,trivial⟩ ⟨.eq rfl,.pure rfl,trivial⟩ ?_;((try revert hK K);(repeat'(first|refine Va (X2 @eF @uA) ?_|(refine V2 (X2 @eF @uA) ?_ ?_<;>try with_reducible intro hb)|(refine Xi ?_ ?_<;>try intro ht)|refine VD ?_ ?_|exact Xx|fail))<;>try with_reducible intro K hK)
     refine ak _ (n-1,k6,l++[⟨v1,v2,vo,268435456⟩]) ⟨GC,wZ _,hr⟩ Kw ?_;exact Xs false [0,1,7] X0
   ·rw[if_neg (by simp[ht])]at hr;refine ak _ (n-1,k5,l++[⟨v1,v2,vo,v3-20⟩]) ⟨BH,wZ _,hr⟩ Kw ?_;exact Xs false [0,1,6] X0
  ·rw[if_pos G3]at aM;rw[<- aM]at eT acf l4 hc;generalize GD:(m.cls.getD p.fst.toNat default).length=nl at *;have OX:v5=0\/v5=1:=G3;((try revert hK K);(repeat'(first|refine Va (X4 @bL @GD @aQ.eq_1 @a9.eq_1) ?_|(refine V2 (X4 @bL @GD @aQ.eq_1 @a9.eq_1) ?_ ?_<;>try with_reducible intro hb)|(refine Xi ?_ ?_<;>try intro ht)|refine VD ?_ ?_|exact Xx|fail))<;>try with_reducible intro K hK)
   all_goals try(exfalso;omega)
   refine ez [0] l4 Kq ⟨rfl,trivial⟩ ⟨.eq rfl,.pure rfl,trivial⟩ ?_;((try revert hK K);(repeat'(first|refine Va X0 ?_|(refine V2 X0 ?_ ?_<;>try with_reducible intro hb)|(refine Xi ?_ ?_<;>try intro ht)|refine VD ?_ ?_|exact Xx|fail))<;>try with_reducible intro K hK)
   refine ez [0] lu Kq ⟨rfl,trivial⟩ ⟨.eq rfl,.pure rfl,trivial⟩ ?_;((try revert hK K);(repeat'(first|refine Va (X2 @eF @uA) ?_|(refine V2 (X2 @eF @uA) ?_ ?_<;>try with_reducible intro hb)|(refine Xi ?_ ?_<;>try intro ht)|refine VD ?_ ?_|exact Xx|fail))<;>try with_reducible intro K hK)
   ·rw[if_pos ht]at hr;rcases OX with rfl|rfl
    ·rw[if_pos rfl]at hr;refine ez [0] nE Kq ⟨rfl,trivial⟩ ⟨.eq rfl,.pure rfl,trivial⟩ ?_;((try revert hK K);(repeat'(first|refine Va (X2 @eF @uA) ?_|(refine V2 (X2 @eF @uA) ?_ ?_<;>try with_reducible intro hb)|(refine Xi ?_ ?_<;>try intro ht)|refine VD ?_ ?_|exact Xx|fail))<;>try with_reducible intro K hK)
     refine ak _ (n-1,k6,l++[⟨v1,v2,vo,-268435456⟩]) ⟨GC,wZ _,hr⟩ Kw ?_;exact Xs false [0,1,7] X0
    ·rw[if_neg Kq]at hr;refine ez [0] nE Kq ⟨rfl,trivial⟩ ⟨.eq rfl,.pure rfl,trivial⟩ ?_;((try revert hK K);(repeat'(first|refine Va (X2 @eF @uA) ?_|(refine V2 (X2 @eF @uA) ?_ ?_<;>try with_reducible intro hb)|(refine Xi ?_ ?_<;>try intro ht)|refine VD ?_ ?_|exact Xx|fail))<;>try with_reducible intro K hK)
     refine ak _ (n-1,k6,l++[⟨v1,v2,vo,268435456⟩]) ⟨GC,wZ _,hr⟩ Kw ?_;exact Xs false [0,1,7] X0
   ·rw[if_neg (by simp[ht])]at hr;refine ak _ (n-1,k5,l++[⟨v1,v2,vo,v3-20⟩]) ⟨BH,wZ _,hr⟩ Kw ?_;exact Xs false [0,1,6] X0
 ·((try revert hK K);(repeat'(first|refine Va X0 ?_|(refine V2 X0 ?_ ?_<;>try with_reducible intro hb)|(refine Xi ?_ ?_<;>try intro ht)|refine VD ?_ ?_|exact Xx|fail))<;>try with_reducible intro K hK)
  all_goals try(exfalso;omega)
  all_goals
   have hr:(l,k)=res:=by
    cases n with
    |zero=>rw[yA]at hr;exact hr
    |succ j=>rw[yA,if_neg G3]at hr;exact hr
   refine ar _ _ rfl ?_;clear ak ar Ql;repeat(first|refine Xu ?_)
   ((try revert hK K);(repeat'(first|refine Vb X0 ?_|(refine V2 X0 ?_ ?_<;>try with_reducible intro hb)|(refine Xi ?_ ?_<;>try intro ht)|refine VD ?_ ?_|exact Xx|fail))<;>try with_reducible intro K hK)
   rw[<- hr];exact Xw true [0] X0
end T

