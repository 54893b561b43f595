import Derived.Test.YtdipcmigdbnheaaGreatX18
import Derived.Test.YtdipcmigdbnheaaGreatX27
import Derived.Test.YtdipcmigdbnheaaGreatX13
import Derived.Test.YtdipcmigdbnheaaGreatX17
import Derived.Test.YtdipcmigdbnheaaGreatX21
set_option linter.unusedVariables false
set_option linter.unusedSimpArgs false
set_option linter.unnecessarySimpa false
set_option linter.unusedSectionVars false
set_option maxHeartbeats 64000000
set_option maxRecDepth 20000
open Nat renaming zero_le→aH
open List renaming drop_eq_nil_of_le→b6
open Go Go.Am Go.Proofs
open Nat (reduceEqDiff reduceAdd reduceLeDiff reduceMul)
open Int (reduceNeg reduceLE reduceToNat)
namespace T
theorem Kx (ρ:Nat→Nat) (s:SC):(dL s).map (aX ρ)=dL s:=rfl
theorem afi (s t:SC):ao Tryz.prog 195 [.agg (dL s),.agg (dL t)] [] (.lit (.bool (nA s t))) []:=by
  generalize aj:nA s t=res
  unfold nA at aj
  refine ao.aD (fn:=Tryz.f195) 24 0 [.tmp 4] Tryz.func195 rfl rfl rfl rfl rfl (by simp) ?_
  repeat' (first|(refine Xr @dL.eq_1 ?_;intro K hK)|(refine hK _ ?_;clear hK K)|(refine Xg @dL.eq_1 ?_ ?_<;>try intro hb)|refine Xz ?_|(refine Xe ?_;first|refine aE rfl ?_|refine Xl ?_ ?_)|fail)
  all_goals (rw[← aj];first|(rw[decide_eq_true (p:=_∨_) (by omega)];done)|(rw[decide_eq_false (p:=_∨_) (by omega)];done)|(congr 2;simp only[decide_eq_decide];omega))
theorem Ky (s:SC) (n:Nat) (c t:Int) (hn:n≤1000000) (hs:SB s n) (hc:yX c) (ht0:0≤t∧t≤1048576) :
    ao Tryz.prog 204 [.ptr 0 0 0,.lit (.int .i64 c),.lit (.int .i64 t)] [.var (dL s)] (.bM []) [.var (dL (pI s c t))]:=by
  have hb:=hs.add hc ht0
  have hm:c≠1099511627776→0≤c * t∧c * t≤1099511627776:=fun h=>Sn (hc.resolve_right h) ht0
  unfold SB at hs
  generalize aj:pI s c t=res at *
  unfold pI at aj
  refine ao.aD (fn:=Tryz.f204) 26 1 [] Tryz.func204 rfl rfl rfl rfl rfl (by simp) ?_
  repeat' (first|(refine Xr @dL.eq_1 ?_;intro K hK)|(refine hK _ ?_;clear hK K)|(refine Xi ?_ ?_<;>try intro ht)|(refine Xe ?_;first|refine aE rfl ?_|refine Xl ?_ ?_)|refine Xd ?_ ?_|exact Xx|fail)
  · rw[if_pos (by assumption)] at aj
    rw[← aj];rfl
  · rw[if_neg (by assumption)] at aj
    rw[← aj];rfl
def vI (v:Int):List Int→Int→Int
  | [],_=>-1
  | x::r,k=>if v=x then k else vI v r (k+1)
theorem Wy (v:Int):∀ (l:List Int) (k:Int),0≤k→(0≤vI v l k↔v∈l)
  | [],k,hk=>by simp[vI]
  | x::r,k,hk=>by
    rw[vI]
    split
    · rename_i h;simp[h,hk]
    · rename_i h
      rw[Wy v r (k+1) (by omega)]
      simp[h]
theorem afj (l:List Int) (v:Int) (hl:l.length<9223372036854775808):ao Tryz.prog 165 [.tree 1 (ints l),.lit (.int .i64 v)] [] (.lit (.int .i64 (vI v l 0))) []:=by
  generalize aj:vI v l 0=res
  refine ao.aD (fn:=Tryz.f165) 19 0 [.tmp 4] Tryz.func165 rfl rfl rfl rfl rfl (by simp) ?_
  repeat' (first|(refine Xr X0 ?_;intro K hK)|(refine hK _ ?_;clear hK K)|refine Xz ?_|fail)
  refine aG (fun k:Nat=>(⟨aw [(0,.tree 1 (ints l)),(1,.lit (.int .i64 v)),(7,.lit (.int .i64 l.length)),(8,.lit (.int .i64 k))],[]⟩:St)) (fun k=>k≤l.length∧vI v (l.drop k) k=res) (fun k=>l.length - k) 0 ⟨aH _,aj⟩ (Xv X0) ?_
  rintro k ⟨hk,hr⟩ Ql ak aq
  by_cases aF:k<l.length
  · have hd:=b7 l k 0 aF
    generalize aJ:l.getD k 0=x at *
    rw[hd,vI] at hr
    ((repeat' (first|refine Va @aJ ?_|(refine Xi ?_ ?_<;>try intro ht)|exact Xx|fail)))
    · rw[if_pos (by assumption)] at hr
      repeat (refine Xu ?_)
      refine Vb X0 ?_
      rw[← hr]
      exact BO rfl
    · rw[if_neg (by assumption)] at hr
      exact ak _ (k+1) ⟨by omega,hr⟩ (by omega) (Xv X0)
  · ((repeat' (first|refine Va X0 ?_|(refine Xi ?_ ?_<;>try intro ht)|exact Xx|fail)))
    rw[b6 (by omega),vI] at hr
    refine aq _ _ rfl ?_;clear ak aq Ql
    repeat (refine Xu ?_)
    refine Vb X0 ?_
    rw[← hr]
    exact BO rfl
theorem I0 (l:List Int) (v:Int) (hl:l.length<9223372036854775808):ao Tryz.prog 122 [.tree 1 (ints l),.lit (.int .i64 v)] [] (.lit (.bool (l.contains v))) []:=by
  have h:=Wy v l 0 (by omega)
  refine ao.aD (fn:=Tryz.f122) 9 0 [.tmp 4] Tryz.func122 rfl rfl rfl rfl rfl (by simp) ?_
  repeat' (first|(refine Xq X0 ?_;intro K hK)|refine Xo X0 ?_|refine Xc (afj l v hl) ?_|(refine hK _ ?_;clear hK K)|refine Xz ?_|(refine Xe ?_;first|refine aE rfl ?_|refine Xl ?_ ?_)|fail)
  rw[← List.contains_iff_mem] at h
  cases hb:l.contains v<;>rw[hb] at h
  · rw[decide_eq_false (by simpa using h)]
  · rw[decide_eq_true (by simpa using h)]
theorem afk (m:ae) (plan:List Int) (c:Ct) (hm:VM m) (hp:FP m plan) (hc:fP m c=true):ao Tryz.prog 205 [.agg (bu c),.tree 1 (ints plan)] [] (.lit (.int .i64 (xf plan c))) []:=by
  obtain ⟨q1,q2,q3,q4⟩:=ju hc
  have hlen:=uq hm q4
  have b9:=hp.len
  generalize aj:xf plan c=res
  unfold xf at aj
  generalize zi:dX plan c.aA 0=sum at *
  refine ao.aD (fn:=Tryz.f205) 33 0 [.tmp 4] Tryz.func205 rfl rfl rfl rfl rfl (by simp) ?_
  repeat' (first|(refine Xr X0 ?_;intro K hK)|(refine hK _ ?_;clear hK K)|refine Xz ?_|fail)
  refine aG (fun z:Nat × Int=>(⟨aw [(1,.tree 1 (ints plan)),(2,.ptr 0 0 0),(5,.lit (.int .i64 z.2)),(9,.tree 3 (rowsOf dF c.aA)),(10,.lit (.int .i64 c.aA.length)),(11,.lit (.int .i64 z.1))],[.var (bu c)]⟩:St))
    (fun z=>z.1≤c.aA.length∧0≤z.2∧z.2≤1000 * z.1∧dX plan (c.aA.drop z.1) z.2=sum) (fun z=>c.aA.length - z.1) (0,0) ⟨aH _,Int.le_refl _,by dsimp only;omega,zi⟩ (Xv X0) ?_
  rintro ⟨j,n⟩ ⟨hj,cy,eh,bK⟩ Ql ak aq
  dsimp only at hj cy eh bK ⊢
  by_cases cq:j<c.aA.length
  · have gT:=b7 c.aA j default cq
    have ns:=kF q4 _ (az (d:=default) cq)
    generalize lS:c.aA.getD j default=x at *
    rw[gT,dX] at bK
    obtain ⟨b1,b2,b3,b4⟩:=cV.1 ns.1
    have Kv:=ns.2
    generalize n8:plan.getD x.cls.toNat 0=px at *
    ((repeat' (first|refine Va (X2 @lS @n8) ?_|(refine Xi ?_ ?_<;>try intro ht)|exact Xx|fail)))
    · rw[if_pos (by assumption)] at bK
      exact ak _ (j+1,n+x.wt) ⟨by dsimp only;omega,by dsimp only;omega,by dsimp only;omega,bK⟩ (by dsimp only;omega) (Xs false [0] X0)
    · rw[if_neg (by assumption)] at bK
      exact ak _ (j+1,n) ⟨by dsimp only;omega,by dsimp only;omega,by dsimp only;omega,bK⟩ (by dsimp only;omega) (Xs false [0] X0)
  · ((repeat' (first|refine Va X0 ?_|(refine Xi ?_ ?_<;>try intro ht)|exact Xx|fail)))
    rw[b6 (by omega),dX] at bK
    rw[← bK] at aj
    refine aq _ _ rfl ?_;clear ak aq Ql
    repeat (refine Xu ?_)
    refine Vb X0 ?_
    all_goals (rw[← aj];exact BO rfl)
theorem afl (m:ae) (p:Pr) (x y:Int) (ca:eG m p=true) (vH:∀ l∈m.cls,l.length≤24) (hx:0≤x∧x<(m.cls.getD p.fst.toNat default).length) (hy:0≤y∧y<(m.cls.getD p.snd.toNat default).length) :
    ao Tryz.prog 185 [.agg (au m),.agg (bc p),.lit (.int .i64 x),.lit (.int .i64 y)] [] (.lit (.int .i64 (jP m p x y))) []:=by
  obtain ⟨q1,q2,q3,q4,q5⟩:=iY ca
  have uy:=vH _ (az (l:=m.cls) (i:=p.fst.toNat) (d:=default) (by omega))
  have pO:=vH _ (az (l:=m.cls) (i:=p.snd.toNat) (d:=default) (by omega))
  have Bb:=sQ (x:=x) (y:=y) (a:=(m.cls.getD p.fst.toNat default).length) (b:=(m.cls.getD p.snd.toNat default).length) hx hy (by omega) (by omega)
  unfold jP
  rw[← q5] at Bb
  generalize eF:m.cls.getD p.snd.toNat default=lb at *
  generalize uz:x * (lb.length:Int)=xm at *
  refine ao.aD (fn:=Tryz.f185) 24 0 [.tmp 8] Tryz.func185 rfl rfl rfl rfl rfl (by simp) ?_
  refine Vb (X2 @eF @uz) ?_
  exact aE rfl rfl
end T

