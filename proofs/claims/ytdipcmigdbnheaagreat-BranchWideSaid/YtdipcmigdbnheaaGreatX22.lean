import Derived.Test.YtdipcmigdbnheaaGreatX19
import Derived.Test.YtdipcmigdbnheaaGreatX14
import Derived.Test.YtdipcmigdbnheaaGreatX15
import Derived.Test.YtdipcmigdbnheaaGreatX21
set_option linter.unusedVariables false
set_option linter.unusedSimpArgs false
set_option linter.unnecessarySimpa false
set_option linter.unusedSectionVars false
set_option maxHeartbeats 64000000
set_option maxRecDepth 20000
open Nat renaming reduceBEq→zL,zero_mul→Bz,zero_le→aH
open Int renaming le_refl→c9
open List renaming drop_eq_nil_of_le→b6
open Go Go.Am Go.Proofs
open Nat (reduceEqDiff reduceAdd reduceLeDiff reduceMul)
open Int (reduceNeg reduceLE reduceToNat)
namespace T
theorem Qm (xs:List Int) (hl:xs.length<549755813888):ao Tryz.prog 90 [.tree 1 (ints xs)] [] (.tree 1 (ints xs)) []:=by
  rcases Nat.eq_zero_or_pos xs.length with h | h
  · obtain rfl:=List.eq_nil_of_length_eq_zero h
    refine ao.empty (pre:=[]) (post:=[]) (fun a cap=>?_)
    rw[List.nil_append]
    cases a with
    | none =>
      refine ao.aD (fn:=Tryz.f90) 8 0 [.tmp 2] Tryz.func90 rfl rfl rfl rfl rfl (by simp) ?_
      ((repeat' (first|refine Vb @Option.isNone_none.{0} ?_|(refine Xi ?_ ?_<;>try intro ht)|exact Xx|fail)))
      all_goals first|(refine dR [] true (by decide) trivial (by decide) (by decide) ?_;exact aO.nil)|(exfalso;simp at *;done)
    | some ad =>
      refine ao.aD (fn:=Tryz.f90) 8 0 [.tmp 2] Tryz.func90 rfl rfl rfl rfl rfl (by simp) ?_
      refine HS (by decide) ?_
      intro K hK
      simp (disch:=omega) only[Ac,↓Pc,simprocAttr]
      refine hK _ ?_
      clear hK K
      refine Wk ?_
      intro Q hn he
      ((refine HS (by decide) ?_);intro K hK;simp (disch:=omega) only[Ac,↓Pc,simprocAttr,Option.isNone_some];skip);(refine hK _ ?_;clear hK K)
      refine N7 (t:=false) (by simp only[sg,Lc,↓reduceIte,Nat.reduceEqDiff,zL]) (fun ht=>by simp at ht) (fun ht=>?_)
      refine N6 ?_
      refine hn _ ?_
      (try clear hn;try clear he;try clear Q;clear ht)
      refine dO (aQ.abm 0 1 (by (simp only[sg,sU,Rc,↓reduceIte,Nat.reduceEqDiff,zL,ev,ei,St.put];exact rfl))) ?_
      refine Vb (X3 @List.length_nil.{0} @List.append_nil.{0} @List.all_nil.{0}) ?_
      refine dR [] true (by decide) trivial (by decide) (by decide) ?_
      exact aO.cI (rows:=[]) rfl (by simp) rfl (jk (by decide)) (by simp)
  · refine ao.aD (fn:=Tryz.f90) 8 0 [.tmp 2] Tryz.func90 rfl rfl rfl rfl rfl (by simp) ?_
    ((repeat' (first|refine Vb @Ek ?_|(refine Xi ?_ ?_<;>try intro ht)|exact Xx|fail)))
    exact Xw true [] X0
theorem Kz:∀ (l:List Int) (s:List Bool) (n:Int),(∀ x∈l,0≤x)→0≤n→0≤kR l s n∧kR l s n≤n
  | [],s,n,_,hn=>by cases s<;>exact⟨hn,c9 _⟩
  | x::r,[],n,_,hn=>⟨hn,c9 _⟩
  | x::r,b::s,n,h,hn=>by
    have hx:=h x (by simp)
    obtain ⟨h1,h2⟩:=Kz r s (if b=true then min n x else n) (fun y hy=>h y (by simp[hy])) (by split<;>omega)
    rw[kR]
    refine⟨h1,Int.le_trans h2 ?_⟩
    split<;>omega
theorem afm {m:ae} {p:Pr} {left:List (List Bool)} (hm:VM m) (ca:eG m p=true) (hf:dK m left):0≤sZ m left p∧sZ m left p≤1099511627776:=by
  obtain ⟨q1,q2,q3,q4,q5⟩:=iY ca
  have h1:=hf.1
  have a1:=hf.2 p.fst.toNat (by omega)
  have a2:=hf.2 p.snd.toNat (by omega)
  unfold sZ
  rw[KA _ _ _ a2 _ 0 _ (by rw[Bz,Nat.zero_add,a1];exact_mod_cast Int.le_of_eq q5.symm),Bz,List.drop_zero]
  exact Kz _ _ _ (fun x hx=>(Ft ca x hx).1) (by omega)
theorem Gi (n:Int):ao Tryz.prog 160 [.lit (.int .i64 n)] [] (.lit (.int .i64 (min n 1099511627776))) []:=by
  refine ao.aD (fn:=Tryz.f160) 5 0 [.tmp 2] Tryz.func160 rfl rfl rfl rfl rfl (by simp) ?_
  refine Vb X0 ?_
  exact aE rfl rfl
theorem WA (n bg:Int) (hn:0≤n∧n≤1048576) (hp:fK bg=true):ao Tryz.prog 187 [.lit (.int .i64 n),.lit (.int .i64 bg)] [] (.lit (.int .i64 (xp n bg))) []:=by
  have WB:=g7 hp
  unfold fK at hp
  unfold aS at WB
  rw[decide_eq_true_eq] at hp
  generalize aj:xp n bg=res
  unfold xp at aj
  have hmul:¬(0<n∧bg=1099511627776)→0≤n * bg∧n * bg≤1099511627776:=fun h=>by
    rcases Int.lt_or_eq_of_le hn.1 with h0 | h0
    · have:n * bg≤1048576 * 1048576:=Int.mul_le_mul hn.2 (by omega) (by omega) (by omega)
      have:=Int.mul_nonneg hn.1 WB.1
      omega
    · rw[← h0];simp
  generalize yH:n * bg=np at *
  have mT:=Gi np
  refine ao.aD (fn:=Tryz.f187) 15 0 [.tmp 4] Tryz.func187 rfl rfl rfl rfl rfl (by simp) ?_
  by_cases h:0<n∧bg=1099511627776
  · rw[if_pos h] at aj
    ((repeat' (first|refine Vb X0 ?_|(refine V2 X0 ?_ ?_<;>try with_reducible intro hb)|(refine Xi ?_ ?_<;>try intro ht)|exact Xx|fail)))
    all_goals exact aE rfl (by rw[aj])
  · rw[if_neg h] at aj
    have hmul:=hmul h
    ((repeat' (first|refine Vd @yH mT ?_|(refine V2 @yH ?_ ?_<;>try with_reducible intro hb)|(refine Xi ?_ ?_<;>try intro ht)|exact Xx|fail)))
    all_goals exact aE rfl (by rw[aj])
theorem afn (o:cB) (hc:∀ c∈o.ch,aS c.2) (hl:o.ch.length≤100):ao Tryz.prog 157 [.agg (dJ o)] [] (.lit (.int .i64 (qo o))) []:=by
  refine ao.aD (fn:=Tryz.f157) 20 0 [.tmp 2] Tryz.func157 rfl rfl rfl rfl rfl (by simp) ?_
  refine Vb @dJ.eq_1 ?_
  refine aG (fun k:Nat=>(⟨aw [(3,.lit (.int .i64 (((o.ch.take k).map (·.2)).foldl cS 0))),(7,.tree 2 (rowsOf bP o.ch)),(8,.lit (.int .i64 o.ch.length)),(9,.lit (.int .i64 k))],[]⟩:St)) (fun k=>k≤o.ch.length) (fun k=>o.ch.length - k) 0 (aH _) (Xs false [] (X3 @List.take_zero.{0} @List.map_nil.{0,0} @List.foldl_nil.{0,0})) ?_
  rintro k hk Ql ak aq
  have hs:=CR ((o.ch.take k).map (·.2)) 0 (fun x hx=>by
    obtain ⟨c,kv,rfl⟩:=List.mem_map.1 hx;exact hc c (List.mem_of_mem_take kv)) (by unfold aS;decide)
  by_cases aF:k<o.ch.length
  · have aJ:=hc _ (az (d:=default) aF)
    have dV:=Jx o.ch k aF
    generalize ((o.ch.take k).map (·.2)).foldl cS 0=s at *
    generalize bS:o.ch.getD k default=x at *
    have n9:=Gi (s+x.2)
    rw[show min (s+x.2) 1099511627776=cS s x.2 from rfl] at n9
    unfold aS at hs aJ
    ((repeat' (first|refine Vc (X2 @bS @bP.eq_1) n9 ?_|(refine Xi ?_ ?_<;>try intro ht)|exact Xx|fail)))
    exact ak _ (k+1) (by omega) (by omega) (by simp only[dV];exact Xs false [] X0)
  · have kJ:((o.ch.take k).map (·.2)).foldl cS 0=qo o:=by rw[List.take_of_length_le (by omega)];rfl
    rw[kJ] at hs ⊢
    ((repeat' (first|refine Va X0 ?_|(refine Xi ?_ ?_<;>try intro ht)|exact Xx|fail)))
    refine aq _ _ rfl ?_;clear ak aq Ql
    repeat (refine Xu ?_)
    refine Vb X0 ?_
    exact aE rfl rfl
theorem WC (m:ae) (p:Pr) (x y:Int) (ca:eG m p=true) (vH:∀ l∈m.cls,l.length≤24) (hx:0≤x∧x<(m.cls.getD p.fst.toNat default).length) (hy:0≤y∧y<(m.cls.getD p.snd.toNat default).length) :
    ao Tryz.prog 185 [.agg (au m),.agg (bc p),.lit (.int .i64 x),.lit (.int .i64 y)] [] (.lit (.int .i64 (jP m p x y))) []:=by
  obtain ⟨q1,q2,q3,q4,q5⟩:=iY ca
  have uy:=vH _ (az (l:=m.cls) (i:=p.fst.toNat) (d:=default) (by omega))
  have pO:=vH _ (az (l:=m.cls) (i:=p.snd.toNat) (d:=default) (by omega))
  have Bb:=sQ (x:=x) (y:=y) (a:=(m.cls.getD p.fst.toNat default).length) (b:=(m.cls.getD p.snd.toNat default).length) hx hy (by omega) (by omega)
  unfold jP
  rw[← q5] at Bb
  generalize eF:m.cls.getD p.snd.toNat default=lb at *
  generalize uz:x * (lb.length:Int)=xm at *
  refine ao.aD (fn:=Tryz.f185) 24 0 [.tmp 8] Tryz.func185 rfl rfl rfl rfl rfl (by simp) ?_
  refine Vb (X2 @eF @uz) ?_
  exact aE rfl rfl
theorem afo (m:ae) (p:Pr) (left:List (List Bool)) (hm:VM m) (ca:eG m p=true) (hf:dK m left) :
    ao Tryz.prog 158 [.agg (au m),.agg (bc p),.tree 1 (rowsOf aK left)] [] (.lit (.int .i64 (sZ m left p))) []:=by
  obtain ⟨q1,q2,q3,q4,q5⟩:=iY ca
  have gB:=hf.1
  have bL:=hm.cls
  have ha:=hf.2 p.fst.toNat (by omega)
  have hb:=hf.2 p.snd.toNat (by omega)
  have uy:=hm.opt _ (az (l:=m.cls) (i:=p.fst.toNat) (d:=default) (by omega))
  have pO:=hm.opt _ (az (l:=m.cls) (i:=p.snd.toNat) (d:=default) (by omega))
  have rJ:=fun x y=>WC m p x y ca hm.opt
  generalize aj:sZ m left p=res
  unfold sZ at aj
  unfold jP at rJ
  generalize uA:left.getD p.fst.toNat default=ra at *
  generalize Wr:left.getD p.snd.toNat default=rb at *
  generalize m.cls.getD p.fst.toNat default=la at *
  generalize m.cls.getD p.snd.toNat default=lb at *
  refine ao.aD (fn:=Tryz.f158) 48 0 [.tmp 6] Tryz.func158 rfl rfl rfl rfl rfl (by simp) ?_
  refine Vb (X3 @uA @aK.eq_1 @bc.eq_1) ?_
  refine aG (fun z:Nat × Int=>(⟨aw [(2,.tree 1 (rowsOf aK left)),(3,.ptr 0 0 0),(4,.ptr 1 0 0),(7,.lit (.int .i64 z.2)),(16,.tree 1 (bf ra)),(17,.lit (.int .i64 ra.length)),(18,.lit (.int .i64 z.1))],[.var (au m),.var (bc p)]⟩:St))
    (fun z=>z.1≤ra.length∧xq p.aP lb.length rb z.1 (ra.drop z.1) z.2=res) (fun z=>ra.length - z.1) (0,1099511627776) ⟨aH _,aj⟩ (Xv @bc.eq_1) ?_
  rintro ⟨i,n⟩ ⟨hi,hr⟩ Ql ak aq
  dsimp only at hi hr ⊢
  by_cases ax:i<ra.length
  · have hd:=b7 ra i false ax
    generalize xr:ra.getD i false=a at *
    rw[hd,xq] at hr
    ((repeat' (first|refine Va (X4 @xr @Wr @aK.eq_1 @bc.eq_1) ?_|(refine Xi ?_ ?_<;>try intro ht)|exact Xx|fail)))
    refine aG (fun z:Nat × Int=>(⟨aw [(2,.tree 1 (rowsOf aK left)),(3,.ptr 0 0 0),(4,.ptr 1 0 0),(7,.lit (.int .i64 z.2)),(8,.lit (.int .i64 i)),(9,.lit (.bool a)),(16,.tree 1 (bf ra)),(17,.lit (.int .i64 ra.length)),(18,.lit (.int .i64 i)),(27,.tree 1 (bf rb)),(28,.lit (.int .i64 rb.length)),(29,.lit (.int .i64 z.1))],[.var (au m),.var (bc p)]⟩:St))
      (fun z=>z.1≤rb.length∧xq p.aP lb.length rb (i+1) (ra.drop (i+1)) (zl p.aP lb.length i a z.1 (rb.drop z.1) z.2)=res) (fun z=>rb.length - z.1) (0,n) ⟨aH _,hr⟩ (Xv @bc.eq_1) ?_
    rintro ⟨k,x⟩ ⟨hk,fF⟩ cR ba bd
    dsimp only at hk fF ⊢
    by_cases aF:k<rb.length
    · have jy:=b7 rb k false aF
      generalize eF:rb.getD k false=b at *
      rw[jy,zl] at fF
      have he:=rJ i k (by omega) (by omega)
      rw[show ((i:Int) * (lb.length:Int)+(k:Int)).toNat=i * lb.length+k by rw[← Int.natCast_mul,← Int.natCast_add,Int.toNat_natCast]] at he
      generalize p.aP.getD (i * lb.length+k) 0=e at *
      cases a<;>cases b
      · rw[if_neg (by simp)] at fF
        ((repeat' (first|refine Va @eF ?_|(refine Xi ?_ ?_<;>try intro ht)|exact Xx|fail)))
        all_goals exact ba _ (k+1,x) ⟨by dsimp only;omega,fF⟩ (by dsimp only;omega) (Xv X0)
      · rw[if_neg (by simp)] at fF
        ((repeat' (first|refine Va @eF ?_|(refine Xi ?_ ?_<;>try intro ht)|exact Xx|fail)))
        all_goals exact ba _ (k+1,x) ⟨by dsimp only;omega,fF⟩ (by dsimp only;omega) (Xv X0)
      · rw[if_neg (by simp)] at fF
        ((repeat' (first|refine Va @eF ?_|(refine Xi ?_ ?_<;>try intro ht)|exact Xx|fail)))
        all_goals exact ba _ (k+1,x) ⟨by dsimp only;omega,fF⟩ (by dsimp only;omega) (Xv X0)
      · rw[if_pos ⟨rfl,rfl⟩] at fF
        ((repeat' (first|refine Vc @eF he ?_|(refine Xi ?_ ?_<;>try intro ht)|exact Xx|fail)))
        all_goals exact ba _ (k+1,min x e) ⟨by dsimp only;omega,fF⟩ (by dsimp only;omega) (Xv X0)
    · ((repeat' (first|refine Va X0 ?_|(refine V2 X0 ?_ ?_<;>try with_reducible intro hb)|(refine Xi ?_ ?_<;>try intro ht)|exact Xx|fail)))
      rw[show rb.drop k=[] from b6 (by omega),zl] at fF
      refine bd _ _ rfl ?_
      clear ba bd
      repeat (refine Xu ?_)
      refine Va X0 ?_
      exact ak _ (i+1,x) ⟨by dsimp only;omega,fF⟩ (by dsimp only;omega) (Xv X0)
  · ((repeat' (first|refine Va X0 ?_|(refine Xi ?_ ?_<;>try intro ht)|exact Xx|fail)))
    rw[b6 (by omega),xq] at hr
    refine aq _ _ rfl ?_;clear ak aq Ql
    repeat (refine Xu ?_)
    refine Vb X0 ?_
    exact aE rfl (by rw[hr])
end T

