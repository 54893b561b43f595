import Derived.Test.YtdipcmigdbnheaaGreatX10
import Derived.Test.YtdipcmigdbnheaaGreatX14
import Derived.Test.YtdipcmigdbnheaaGreatX17
import Derived.Test.YtdipcmigdbnheaaGreatX23
import Derived.Test.YtdipcmigdbnheaaGreatX19
set_option linter.unusedVariables false
set_option linter.unusedSimpArgs false
set_option linter.unnecessarySimpa false
set_option linter.unusedSectionVars false
set_option maxHeartbeats 64000000
set_option maxRecDepth 20000
open Int renaming mul_le_mul→oO
open List renaming length_cons→dH,drop_eq_nil_of_le→dw,mem_of_mem_drop→tS
open Bool renaming and_eq_true→bh,false_or→lQ
open Nat renaming zero_le→aD
open Go Go.Am
open Go Go.Am Go.Proofs
open Nat (reduceEqDiff reduceAdd reduceLeDiff reduceMul)
open Int (reduceNeg reduceLE reduceToNat)
namespace T
abbrev SC:=Int × Int
def Co (s:SC) (cost times:Int):SC:=if cost=1099511627776 then (s.1+times,s.2) else (s.1,s.2+cost * times)
def z6 (m:ah) (plan:List Int):Int:=if dI m≠0 then dI m else if (!qM m plan || plan.contains (-1))=true then 17 else 0
structure FP (m:ah) (plan:List Int):Prop where
  len:plan.length=m.cls.length
  get:∀ j,j<plan.length→eP m (j:Nat) (plan.getD j 0)=true
theorem FP.pm {m:ah} {plan:List Int} (h:FP m plan):PM m plan:=⟨h.len,fun j hj=>.inr (h.get j hj)⟩
def SB (s:SC) (n:Nat):Prop:=0≤s.1∧s.1≤1048576 * n∧0≤s.2∧s.2≤1099511627776 * n
theorem SB.zero:SB (0,0) 0:=by unfold SB;decide
theorem SB.mono {s:SC} {n k:Nat} (h:SB s n) (hk:n≤k):SB s k:=by unfold SB at *;omega
def ac2 (c:Int):Prop:=0≤c∧c≤1048576∨c=1099511627776
theorem ac3 {c t:Int} (hc:0≤c∧c≤1048576) (ht:0≤t∧t≤1048576):0≤c * t∧c * t≤1099511627776 :=
  ⟨Int.mul_nonneg hc.1 ht.1,Int.le_trans (oO hc.2 ht.2 ht.1 (by omega)) (by decide)⟩
theorem SB.add {s:SC} {n:Nat} (h:SB s n) {c t:Int} (hc:ac2 c) (ht:0≤t∧t≤1048576):SB (Co s c t) (n+1):=by
  unfold SB Co at *
  split
  · dsimp only;omega
  · have:=ac3 (hc.resolve_right (by assumption)) ht
    dsimp only;omega
def r9:List Ld→Int→Int→Int
  | [],_,_=>0
  | x::r,i,o=>if x.cls=i∧x.opt=o then x.wt else r9 r i o
def qW (l:List Ld):Nat→List Int→Int
  | _,[]=>0
  | i,o::r=>r9 l i o+qW l (i+1) r
theorem US:∀ (plan:List Int) (i:Nat),qW [] i plan=0
  | [],_=>rfl
  | o::r,i=>by rw[qW,r9,US r];rfl
theorem UT (x:Ld) (l:List Ld):∀ (plan:List Int) (i:Nat),qW (x::l) i plan=qW l i plan+if (i:Int)≤x.cls∧x.cls<i+plan.length∧plan.getD (x.cls - i).toNat 0=x.opt then x.wt - r9 l x.cls x.opt else 0
  | [],i=>by rw[qW,qW,if_neg (by simp;omega)];rfl
  | o::r,i=>by
    rw[qW,qW,UT x l r (i+1),r9]
    by_cases h:x.cls=i
    · rw[if_neg (c:=((i+1:Nat):Int)≤x.cls∧_) (by omega)]
      rw[show (x.cls - i).toNat=0 by omega,List.getD_cons_zero,dH]
      by_cases ho:x.opt=o
      · rw[if_pos ⟨h,ho⟩,if_pos ⟨by omega,by omega,ho.symm⟩,h,ho];omega
      · rw[if_neg (fun h'=>ho h'.2),if_neg (fun h'=>ho h'.2.2.symm)];omega
    · rw[if_neg (c:=x.cls=i∧x.opt=o) (fun h'=>h h'.1)]
      have e:((i+1:Nat):Int)≤x.cls∧x.cls<(i+1:Nat)+r.length∧r.getD (x.cls - (i+1:Nat)).toNat 0=x.opt↔(i:Int)≤x.cls∧x.cls<i+(o::r).length∧(o::r).getD (x.cls - i).toNat 0=x.opt:=by
        rw[dH]
        by_cases bj:(i:Int)<x.cls
        · rw[show (x.cls - i).toNat=(x.cls - (i+1:Nat)).toNat+1 by omega,List.getD_cons_succ]
          constructor
          · rintro ⟨a,b,c⟩;exact⟨by omega,by omega,c⟩
          · rintro ⟨a,b,c⟩;exact⟨by omega,by omega,c⟩
        · constructor
          · rintro ⟨a,b,c⟩;omega
          · rintro ⟨a,b,c⟩;omega
      simp only[e]
      omega
theorem UU:∀ (l:List Ld) (i o:Int),(∀ y∈l,¬ (y.cls=i∧y.opt=o))→r9 l i o=0
  | [],_,_,_=>rfl
  | x::r,i,o,h=>by rw[r9,if_neg (h x (by simp)),UU r i o fun y hy=>h y (by simp[hy])]
theorem wc {m:ah}:∀ {l:List Ld} {q:Ld},dR m (some q) l=true→∀ y∈l,q.cls<y.cls∨(q.cls=y.cls∧q.opt<y.opt)
  | [],_,_,y,hy=>by simp at hy
  | x::r,q,h,y,hy=>by
    rw[dR] at h
    simp only[bh,decide_eq_true_eq] at h
    have h1:=EM.1 h.1.2
    rcases List.mem_cons.1 hy with rfl | hy
    · exact h1
    · have:=wc h.2 y hy;omega
theorem UP {m:ah} {plan:List Int} (hp:plan.length=m.cls.length):∀ {l:List Ld} {q:Option Ld} (n:Int),dR m q l=true→lK plan l n=n+qW l 0 plan
  | [],_,n,_=>by rw[lK,US];omega
  | x::r,q,n,h=>by
    have hr:dR m (some x) r=true:=by
      rw[dR.eq_def] at h
      simp only[bh] at h
      exact h.2
    have hx:=(o7 h x (by simp)).1
    obtain ⟨a,b,c,d⟩:=iy.1 hx
    rw[lK,UP hp _ hr,UT,UU r x.cls x.opt (fun y hy he=>by have:=wc hr y hy;omega)]
    rw[show (x.cls - ((0:Nat):Int)).toNat=x.cls.toNat by simp]
    by_cases e:plan.getD x.cls.toNat 0=x.opt
    · rw[if_pos e,if_pos ⟨by omega,by omega,e⟩];omega
    · rw[if_neg e,if_neg (fun h'=>e h'.2.2)];omega
def xW (m:ah):Nat→List Int→Bool
  | _,[]=>true
  | i,o::r=>eP m i o && xW m (i+1) r
theorem UW {m:ah}:∀ (plan:List Int) (i:Nat),xW m i plan=(qL m i plan && !plan.contains (-1))
  | [],_=>rfl
  | o::r,i=>by
    rw[xW,qL,UW r (i+1),List.contains_cons]
    by_cases h:o = -1
    · subst h
      have:eP m i (-1)=false:=by
        cases hb:eP m i (-1) with
        | false=>rfl
        | true=>have:=iy.1 hb;omega
      simp[this]
    · have h2:((-1:Int) == o)=false:=by simpa using fun e=>h e.symm
      rw[h2,decide_eq_false h,lQ,lQ]
      cases eP m i o<;>simp
theorem ac4 (m:ah) (plan:List Int):z6 m plan=if dI m≠0 then dI m else if plan.length≠m.cls.length then 17 else if xW m 0 plan=false then 17 else 0:=by
  unfold z6 qM
  split
  · rfl
  · by_cases h:plan.length≠m.cls.length
    · simp[h]
    · rw[if_neg h,if_neg h,UW]
      cases qL m 0 plan<;>cases plan.contains (-1)<;>rfl
def uL (v:Int):List Int→Int→Int
  | [],_=>-1
  | x::r,k=>if v=x then k else uL v r (k+1)
theorem UX (v:Int):∀ (l:List Int) (k:Int),0≤k→(0≤uL v l k↔v∈l)
  | [],k,hk=>by simp[uL]
  | x::r,k,hk=>by
    rw[uL]
    split
    · rename_i h;simp[h,hk]
    · rename_i h
      rw[UX v r (k+1) (by omega)]
      simp[h]
theorem ac5 (l:List Int) (v:Int) (hl:l.length<9223372036854775808):ao Tryz.prog 165 [.tree 1 (ints l),.lit (.int .i64 v)] [] (.lit (.int .i64 (uL v l 0))) []:=by
  generalize an:uL v l 0=res
  refine ao.aF (fn:=Tryz.f165) 19 0 [.tmp 4] Tryz.func165 rfl rfl rfl rfl rfl (by simp) ?_
  repeat' (first|(refine Xr X0 ?_;intro K hK)|(refine hK _ ?_;clear hK K)|refine Xz ?_|fail)
  refine aI (fun k:Nat=>(⟨av [(0,.tree 1 (ints l)),(1,.lit (.int .i64 v)),(7,.lit (.int .i64 l.length)),(8,.lit (.int .i64 k))],[]⟩:St)) (fun k=>k≤l.length∧uL v (l.drop k) k=res) (fun k=>l.length - k) 0 ⟨aD _,an⟩ (Xv X0) ?_
  rintro k ⟨hk,hr⟩ Ql ak aq
  by_cases aP:k<l.length
  · have hd:=dr l k 0 aP
    generalize aO:l.getD k 0=x at *
    rw[hd,uL] at hr
    ((repeat' (first|refine Va @aO ?_|(refine Xi ?_ ?_<;>try intro ht)|exact Xx|fail)))
    · rw[if_pos (by assumption)] at hr
      repeat (refine Xu ?_)
      refine Vb X0 ?_
      rw[← hr]
      exact GX rfl
    · rw[if_neg (by assumption)] at hr
      exact ak _ (k+1) ⟨by omega,hr⟩ (by omega) (Xv X0)
  · ((repeat' (first|refine Va X0 ?_|(refine Xi ?_ ?_<;>try intro ht)|exact Xx|fail)))
    rw[dw (by omega),uL] at hr
    refine aq _ _ rfl ?_;clear ak aq Ql
    repeat (refine Xu ?_)
    refine Vb X0 ?_
    rw[← hr]
    exact GX rfl
theorem ac6 (l:List Int) (v:Int) (hl:l.length<9223372036854775808):ao Tryz.prog 122 [.tree 1 (ints l),.lit (.int .i64 v)] [] (.lit (.bool (l.contains v))) []:=by
  have h:=UX v l 0 (by omega)
  refine ao.aF (fn:=Tryz.f122) 9 0 [.tmp 4] Tryz.func122 rfl rfl rfl rfl rfl (by simp) ?_
  repeat' (first|(refine Xq X0 ?_;intro K hK)|refine Xo X0 ?_|refine Xc (ac5 l v hl) ?_|(refine hK _ ?_;clear hK K)|refine Xz ?_|(refine Xe ?_;first|refine aC rfl ?_|refine Xl ?_ ?_)|fail)
  rw[← List.contains_iff_mem] at h
  cases hb:l.contains v<;>rw[hb] at h
  · rw[decide_eq_false (by simpa using h)]
  · rw[decide_eq_true (by simpa using h)]
def nE:List (List bK)→Int
  | []=>1
  | l::r=>l.length * nE r
theorem Cp:∀ (cls:List (List bK)),(∀ l∈cls,1≤l.length)→1≤nE cls
  | [],_=>Int.le_refl _
  | l::r,h=>by
    have h1:=h l (by simp)
    have h2:=Cp r fun x hx=>h x (by simp[hx])
    rw[nE]
    have:(1:Int) * 1≤l.length * nE r:=oO (by omega) h2 (by omega) (by omega)
    omega
theorem ac7 (m:ah) (hm:VM m) (o9:∀ l∈m.cls,1≤l.length) (hb:nE m.cls≤9999):ao Tryz.prog 78 [.agg (ar m)] [] (.lit (.int .i64 (nE m.cls))) []:=by
  have mc:=hm.cls
  have ahc:=Cp m.cls o9
  generalize an:nE m.cls=res at *
  refine ao.aF (fn:=Tryz.f78) 26 0 [.tmp 2] Tryz.func78 rfl rfl rfl rfl rfl (by simp) ?_
  refine Vb X0 ?_
  refine aI (fun z:Nat × Int=>(⟨av [(1,.ptr 0 0 0),(3,.lit (.int .i64 z.2)),(4,.lit (.int .i64 z.1))],[.var (ar m)]⟩:St)) (fun z=>z.1≤m.cls.length∧1≤z.2∧z.2 * nE (m.cls.drop z.1)=res) (fun z=>m.cls.length - z.1) (0,1) ⟨aD _,by decide,by rw[List.drop_zero,an];exact Int.one_mul _⟩ (Xv X0) ?_
  rintro ⟨i,n⟩ ⟨hi,eM,hr⟩ Ql ak aq
  dsimp only at hi eM hr ⊢
  have Jm:=Cp (m.cls.drop i) fun x hx=>o9 x (tS hx)
  have ahd:n≤res:=by
    rw[← hr]
    have:n * 1≤n * nE (m.cls.drop i):=Int.mul_le_mul_of_nonneg_left Jm (by omega)
    omega
  by_cases hi':i<m.cls.length
  · have qG:=hm.opt _ (az (l:=m.cls) (i:=i) (d:=default) hi')
    have xy:=o9 _ (az (l:=m.cls) (i:=i) (d:=default) hi')
    rw[dr m.cls i default hi',nE,← Int.mul_assoc] at hr
    have UY:=Cp (m.cls.drop (i+1)) fun x hx=>o9 x (tS hx)
    generalize aO:m.cls.getD i default=c at *
    have qF:n * 1≤n * (c.length:Int):=Int.mul_le_mul_of_nonneg_left (by omega) (by omega)
    have B4:n * (c.length:Int)≤10000 * 24:=oO (by omega) (by omega) (by omega) (by omega)
    generalize tj:n * (c.length:Int)=nc at *
    ((repeat' (first|refine Va (X3 @aO @bn.eq_1 @tj) ?_|(refine V2 (X3 @aO @bn.eq_1 @tj) ?_ ?_<;>try with_reducible intro hb)|(refine Xi ?_ ?_<;>try intro ht)|exact Xx|fail)))
    exact ak _ (i+1,nc) ⟨by dsimp only;omega,by dsimp only;omega,hr⟩ (by dsimp only;omega) (Xv X0)
  · rw[dw (by omega),nE,Int.mul_one] at hr
    ((repeat' (first|refine Va X0 ?_|(refine V2 X0 ?_ ?_<;>try with_reducible intro hb)|(refine Xi ?_ ?_<;>try intro ht)|exact Xx|fail)))
    all_goals
      refine aq _ _ rfl ?_;clear ak aq Ql
      repeat (refine Xu ?_)
      refine Vb X0 ?_
      exact aC rfl (by rw[← hr,Int.min_eq_left (by omega)])
theorem UZ {w:Nat}:∀ (cls:List (List bK)) (k:Nat),1≤w→cls.length≤k→(∀ l∈cls,1≤l.length∧l.length≤w)→nE cls≤(w:Int) ^ k
  | [],k,hw,_,_=>by
    rw[nE]
    have:(0:Int)<(w:Int) ^ k:=Int.pow_pos (by omega)
    omega
  | l::r,0,_,hk,_=>by simp at hk
  | l::r,k+1,hw,hk,h=>by
    have h1:=h l (by simp)
    have h2:=UZ r k hw (by simpa using hk) fun x hx=>h x (by simp[hx])
    have h3:=Cp r fun x hx=>(h x (by simp[hx])).1
    rw[nE,Int.pow_succ,Int.mul_comm ((w:Int) ^ k)]
    exact oO (by omega) h2 (by omega) (by omega)
theorem ZX (m:ah) (plan:List Int) (hb:MB m) (dz:plan.length<9223372036854775808):ao Tryz.prog 55 [.agg (ar m),.tree 1 (ints plan)] [] (.lit (.int .i64 (z6 m plan))) []:=by
  generalize an:z6 m plan=res
  rw[ac4] at an
  have qF:=hb.cls
  have hval:=wg m hb
  refine ao.aF (fn:=Tryz.f55) 32 0 [.tmp 4] Tryz.func55 rfl rfl rfl rfl rfl (by simp) ?_
  ((repeat' (first|refine Vd X0 hval ?_|(refine Xi ?_ ?_<;>try intro ht)|fail)))
  · rw[if_pos (by assumption)] at an
    exact aC rfl (by rw[an])
  · rw[if_neg (by omega),if_pos (by omega)] at an
    exact aC rfl (by rw[an])
  rw[if_neg (by omega),if_neg (by omega)] at an
  refine aI (fun i:Nat=>(⟨av [(1,.tree 1 (ints plan)),(2,.ptr 0 0 0),(6,.lit (.int .i64 i))],[.var (ar m)]⟩:St)) (fun i=>i≤plan.length∧(if xW m i (plan.drop i)=false then 17 else 0)=res) (fun i=>plan.length - i) 0 ⟨aD _,an⟩ (Xv X0) ?_
  rintro i ⟨hi,hr⟩ Ql ak aq
  by_cases hi':i<plan.length
  · have hd:=dr plan i 0 hi'
    generalize aO:plan.getD i 0=o at *
    have qT:=B8 m i o
    rw[hd,xW] at hr
    generalize eP m i o=ob at *
    ((repeat' (first|refine Vc @aO qT ?_|(refine Xi ?_ ?_<;>try intro ht)|exact Xx|fail)))
    · obtain rfl:ob=false:=by assumption
      refine Vb X0 ?_
      exact aC rfl (by rw[← hr];rfl)
    · obtain rfl:ob=true:=by assumption
      rw[Bool.true_and] at hr
      exact ak _ (i+1) ⟨by omega,hr⟩ (by omega) (Xv X0)
  · ((repeat' (first|refine Va X0 ?_|(refine Xi ?_ ?_<;>try intro ht)|exact Xx|fail)))
    rw[dw (by omega),xW] at hr
    refine aq _ _ rfl ?_;clear ak aq Ql
    repeat (refine Xu ?_)
    refine Vb X0 ?_
    exact aC rfl (by rw[← hr];rfl)
end T

