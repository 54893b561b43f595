import Derived.Test.YtfoopmojjjpapaaGreatX51
import Derived.Test.YtfoopmojjjpapaaGreatX41
import Derived.Test.YtfoopmojjjpapaaGreatX47
set_option linter.all false
set_option maxHeartbeats 0
set_option maxRecDepth 20000
open Bool renaming not_eq_true→tV
open List renaming getD_eq_getElem?_getD→ax,getElem?_eq_getElem→bq,mem_singleton→c8,length_cons→cX
open Int renaming mul_nonneg→re
open Nat renaming zero_le→aW
open Go Go.Am Go.Proofs
namespace T
def ad5{m:ah}{l:List Int}{k:Int}(h:yg m l k=0):VM m/\(∀ c∈l,0<=c/\c<m.cls.length)/\(0<=k/\k<=64)/\l.Nodup/\jC m l<=20000:=by
 unfold yg at h;by_cases h1:iB m=0;rotate_left
 ·rw[if_pos h1]at h;exact absurd h h1
 rw[if_neg (by rw[h1];simp)]at h;by_cases h2:yh m.cls.length l=true
 ·rw[if_pos h2]at h;cases h
 rw[if_neg h2]at h;by_cases h3:k<0\/64<k
 ·rw[if_pos h3]at h;cases h
 rw[if_neg h3]at h;by_cases h4:uo l=true
 ·rw[if_pos h4]at h;cases h
 rw[if_neg h4]at h;by_cases h5:sY m.cls l 1 1=false
 ·rw[if_pos h5]at h;cases h
 rw[Bool.not_eq_false]at h5;have h6:=Kl l 1 1 h5 IP;refine⟨jD.1 h1,λc hc=>?_,AT,Q9 (by rwa [tV]at h4),AT⟩;obtain⟨j,hj,rfl⟩:=List.getElem_of_mem hc;have:=ad6 (by rwa [tV]at h2) hj;rwa [ax,bq hj]at this
def lf(b:Bool):Nat->List Int
 |0=>[]
 |i+1=>if b=true then(i:Int)::lf b i else lf b i++[(i:Int)]
def Km(b:Bool)(c:Int):∀ n:Nat,c∈lf b n↔0<=c/\c<n
 |0=>by rw[lf];simp
 |n+1=>by
  have h:=Km b c n;rw[lf];split
  ·rw[List.mem_cons,h];omega
  ·rw[List.mem_append,h,c8];omega
def Rb(b:Bool):∀ n,(lf b n).Nodup
 |0=>List.nodup_nil
 |n+1=>by
  have h:=Rb b n;have hn:(n:Int) ∉ lf b n:=λhm=>by have:=(Km b n n).1 hm;omega
  rw[lf];split
  ·exact List.nodup_cons.2 ⟨hn,h⟩
  ·exact List.nodup_append.2 ⟨h,IM,λa ha c hc=>by rw[c8]at hc;subst hc;exact λe=>hn (e▸ha)⟩
def Kn(b:Bool):∀ n,(lf b n).length=n
 |0=>rfl
 |n+1=>by
  have h:=Kn b n;rw[lf];split
  ·simp[h]
  ·simp[h]
def wL:Nat->Int
 |0=>0
 |n+1=>4*(1+wL n)
def Re:∀ n,0<=wL n
 |0=>Int.le_refl _
 |n+1=>by have:=Re n;rw[wL];omega
def Rf{cls:List (List cP)}:∀ (l:List Int) (all row:Int),(∀ c∈l,(cls.getD c.toNat default).length<=4)->0<=row->all+row*wL l.length<=20000->sY cls l all row=true
 |[],all,row,_,_,_=>rfl
 |c::r,all,row,h,hr,hb=>by
  have hw:=h c IM;generalize vq:(cls.getD c.toNat default).length=w at *;have hg:=Re r.length;have h1:row*(w:Int)<=row*4:=Int.mul_le_mul_of_nonneg_left AT hr;have h2:0<=row*(w:Int):=re hr AT;have h3:row*(w:Int)*wL r.length<=row*4*wL r.length:=Int.mul_le_mul_of_nonneg_right h1 hg;have h5:0<=row*(w:Int)*wL r.length:=re h2 hg;rw[cX,wL,<- Int.mul_assoc,Int.mul_add,Int.mul_one]at hb;rw[sY,vq,if_neg AT];exact Rf r _ _ (λx hx=>h x (by simp[hx])) h2 AT
def ad7{l:List Int}(h:l.Nodup):uo l=false:=ad8 λi hi k hk e=>by
 rw[ax,bq hi,ax,bq (by omega:k<l.length)]at e;have:=(List.getElem_inj (h₀:=hi) (h₁:=(by omega:k<l.length)) h).1 e;omega
def ad9{m:ah}{l:List Int}{k:Int}(hm:VM m)(bR:∀ c∈l,0<=c/\c<m.cls.length)(hk:0<=k/\k<=64)(bx:l.Nodup)(h4:∀ x∈m.cls,x.length<=4)(hl:l.length<=4):yg m l k=0:=by
 unfold yg;rw[if_neg (by rw[jD.2 hm];simp),if_neg,if_neg AT,if_neg (by rw[ad7 bx];simp),if_neg]
 ·rw[Rf l 1 1 (λc hc=>by have:=bR c hc;exact h4 _ (aE AT)) IP]
  ·simp
  ·have:wL l.length<=340:=by
    obtain e|e|e|e|e:l.length=0\/l.length=1\/l.length=2\/l.length=3\/l.length=4:=AT;all_goals rw[e];decide
   omega
 ·rw[Rg λi hi=>by have:=bR _ (aE (d:=0) hi);omega];simp
def amu{n:Int}(h:(Lit.int .u8 n).wf=true):0<=n/\n<=255:=by
 simp[Lit.wf,IntKind.min,IntKind.max,IntKind.signed,IntKind.bits]at h;omega
def amv(tape:List Int)(rounds:Int)(Rh:0<=rounds/\rounds<=255)(back:Bool):Holds Tryz.prog 7 [.tree 1 (ints tape),.lit (.int .u8 rounds),.lit (.bool back)] [] (.lit (.bool true)) []:=by
 refine Holds.aN 64 0 [.tmp 6] Tryz.func7 ?_;repeat'(first|((fail_if_success (first|refine eO 3 ?_|refine eP 3 ?_));refine Xq X0 ?_;intro K hK)|refine Xo X0 ?_|refine Xc (aea _) ?_|refine Xc (Ri) ?_|(refine hK _ ?_;clear hK K)|(refine Xg X0 ?_ ?_<;>try intro hb)|(refine Xi ?_ ?_<;>try intro ht)|refine XY ?_|refine Xd ?_ ?_|exact Xx|fail)
 ·exact aU rfl rfl
 have hL:tape.length<1000000:=AT;have pw:=aeb tape 0 (aW _) hL;refine ox 2 IP _ rfl ?_;intro K hK;simp(disch:=omega)only[Ac,↓Pc,simprocAttr,List.take,List.drop];(refine Xn [] (aec tape) ?_;simp(disch:=omega)only[Ac,↓Pc,simprocAttr])
 unfold vr at pw;refine⟨rfl,(show kK Tryz.prog 33 [.ptr 0 0 0] (some 19) _ _ from ?_)⟩;refine FV [0] pw IP ⟨rfl,trivial⟩ ⟨.eq rfl,trivial⟩ ?_;rintro r os⟨m,k,hm,hk,rfl,rfl⟩;simp(disch:=omega)only[Ac,↓Pc,simprocAttr];refine hK _ ?_;clear hK K;repeat(first|refine Xu ?_)
 refine cd (aF.vt 7 1 (cells:=aq m) Od (by simp only[Kc,simprocAttr]) (by simp[aq])) ?_;refine cd (σ':=⟨ao [(1,.lit (.int .u8 rounds)),(2,.lit (.bool back)),(7,.bY (aq m))],[]⟩) (Xs false [] X0) ?_;clear pw hk k hL;have bG:=hm.vm;have hf4:=hm.sZ;((try revert hK K);(repeat'(first|refine Va X0 ?_|(refine V2 X0 ?_ ?_<;>try with_reducible intro hb)|(refine Xi ?_ ?_<;>try intro ht)|refine VD ?_ ?_|exact Xx|fail))<;>try with_reducible intro K hK)
 refine bb (λi:Nat=>(⟨ao [(1,.lit (.int .u8 rounds)),(2,.lit (.bool back)),(7,.bY (aq m)),(8,.ref 0 1 0 (lf back i).length),(9,Oi i)],[.arr 1 (ints (lf back i))]⟩:St)) (λi=>i<=m.cls.length) (λi=>m.cls.length-i) 0 (aW _) ?_ ?_
 ·refine aF.trans (aF.nil 8 1 (by simp only[Kc,simprocAttr]) IP) ?_;rw[show ints (lf back 0)=[] from rfl,show(lf back 0).length=0 from rfl];exact Xv @aq.eq_1
 rintro i hi Ql ak au;by_cases ar:i<m.cls.length
 ·have jl:=Kn back i;have wM:lf back (i+1)=if back=true then(i:Int)::lf back i else lf back i++[(i:Int)]:=rfl;generalize lf back i=lv at *;have mO:(ints lv).length=lv.length:=by simp[ints]
  have gn:[AV.lit (.int .i64 i)]::ints lv=ints ((i:Int)::lv):=rfl;have jk:1+lv.length=lv.length+1:=AT;cases back
  ·rw[if_neg IM]at wM;((try revert hK K);(repeat'(first|refine Va (X2 @mO @xU) ?_|(refine V2 (X2 @mO @xU) ?_ ?_<;>try with_reducible intro hb)|(refine Xi ?_ ?_<;>try intro ht)|refine VD ?_ ?_|exact Xx|fail))<;>try with_reducible intro K hK)
   have fY:(lv++[(i:Int)]).length=lv.length+1:=IM;exact ak _ (i+1) AT AT (by rw[wM];exact Xs false [2] (X2 @aq.eq_1 @fY))
  ·rw[if_pos rfl]at wM;((try revert hK K);(repeat'(first|refine Va (X2 @mO @gn) ?_|(refine V2 (X2 @mO @gn) ?_ ?_<;>try with_reducible intro hb)|(refine Xi ?_ ?_<;>try intro ht)|refine VD ?_ ?_|exact Xx|fail))<;>try with_reducible intro K hK)
   exact ak _ (i+1) AT AT (by rw[wM];exact Xs false [2] (X3 @aq.eq_1 @jk @cX.{0}))
 ·obtain rfl:i=m.cls.length:=AT;((try revert hK K);(repeat'(first|refine Va X0 ?_|(refine V2 X0 ?_ ?_<;>try with_reducible intro hb)|(refine Xi ?_ ?_<;>try intro ht)|refine VD ?_ ?_|exact Xx|fail))<;>try with_reducible intro K hK)
  refine au _ _ rfl ?_;clear ak au;repeat(first|refine Xu ?_)
  have oz:=bG.mb;have jl:=Kn back m.cls.length;refine cd (aF.Ko 8 0 1 (rows:=ints (lf back m.cls.length)) rfl (by rw[vc];simp only[Kc,simprocAttr]) (vd _) (xX _)) ?_;refine cd (σ':=⟨ao [(1,.lit (.int .u8 rounds)),(7,.bY (aq m)),(8,.tree 1 (ints (lf back m.cls.length)))],[]⟩) (Xs false [] @aq.eq_1) ?_;have cq:=λc=>Km back c m.cls.length;have bx:=Rb back m.cls.length;generalize lf back m.cls.length=l at *;generalize dU:rounds.tmod 3=k at *;have mX:0<=k/\k<=2:=by rw[<- dU,Int.tmod_eq_emod_of_nonneg Rh.1];omega
  have bR:∀ c∈l,0<=c/\c<m.cls.length:=λc hc=>(cq c).1 hc;have hz:=ad9 bG bR (k:=k) AT bx hm.opt AT;have p':=aed m l k oz AT (by unfold fM;omega);unfold F6 at p';rw[if_neg (by rw[hz];simp)]at p';obtain⟨_,_,_,_,hz4⟩:=ad5 hz;have F7:cg m=cu m:=by unfold cg;rw[if_pos (jD.2 bG)]
  obtain⟨n,hc,gM,wN,mo,px⟩:=Rj (rounds:=k) bG bR bx hz4;have hlen:=Bw m k l (cg m) [];rw[List.length_nil,Nat.zero_add]at hlen;rw[<- F7]at p';generalize dR m k l (cg m) []=Q at *;have hex:=aef bG (λi hi=>(cq i).2 AT) px AT hc;rw[hc,hex]at p';have hA:=aeg m oz;have hW:=aeh m (cg m) bG (zP bG);have Rk:=F8 m oz;rw[jD.2 bG]at Rk;generalize Bx m (cg m)=wv at *;generalize cg m=al at *;dsimp only at p';have Kq:IntKind.i64.wrap k=k:=wG ⟨by show(-9223372036854775808:Int)<=_;omega,by show _<=(9223372036854775807:Int);omega⟩;have pw:∀ t:TypeDesc,(some t).isSome=true:=λ_=>rfl;repeat'(first|((fail_if_success (first|refine eO 12 ?_|refine eP 12 ?_));refine Xq (X4 @dU @Kq @pw @cz.eq_1) ?_;intro K hK)|refine Xo (X4 @dU @Kq @pw @cz.eq_1) ?_|refine Xc (p') ?_|(refine hK _ ?_;clear hK K)|(refine Xg (X4 @dU @Kq @pw @cz.eq_1) ?_ ?_<;>try intro hb)|(refine Xi ?_ ?_<;>try intro ht)|refine Xy ?_|refine Xd ?_ ?_|exact Xx|fail)
  ((try revert hK K);(repeat'(first|refine Vd (X3 @pw @beq_self_eq_true.{0} @decide_true) (X4 Rk hA hW Ri) ?_|(refine V2 (X3 @pw @beq_self_eq_true.{0} @decide_true) ?_ ?_<;>try with_reducible intro hb)|(refine Xi ?_ ?_<;>try intro ht)|refine VD ?_ ?_|exact Xx|fail))<;>try with_reducible intro K hK)
  exact aU rfl rfl
end T

