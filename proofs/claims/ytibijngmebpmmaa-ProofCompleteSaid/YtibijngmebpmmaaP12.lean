import Derived.Test.YtibijngmebpmmaaP11
set_option linter.unusedVariables false
set_option linter.unusedSimpArgs false
set_option linter.unnecessarySimpa false
open Go Go.Am Go.Proofs
open Nat (reduceEqDiff reduceAdd reduceLeDiff reduceMul)
open Int (reduceNeg reduceLE reduceToNat)
set_option maxRecDepth 20000
namespace T
def caseF:List (List Opt)→Int→List Int
  | [],_=>[]
  | l::r,n=>modI n l.length::caseF r (n / l.length)
theorem caseF_len:∀ (cls:List (List Opt)) (n:Int),(caseF cls n).length=cls.length
  | [],_=>rfl
  | l::r,n=>by rw[caseF,List.length_cons,caseF_len r,List.length_cons]
theorem caseF_get:∀ (cls:List (List Opt)) (n:Int),(∀ l∈cls,1≤l.length)→∀ j,j<cls.length→0≤(caseF cls n).getD j 0∧(caseF cls n).getD j 0<(cls.getD j default).length
  | [],_,_,j,h=>by simp at h
  | l::r,n,hs,0,_=>by
    rw[caseF,List.getD_cons_zero,List.getD_cons_zero]
    have:=hs l (by simp)
    exact modI_range _ _ (by omega)
  | l::r,n,hs,j+1,h=>by
    rw[caseF,List.getD_cons_succ,List.getD_cons_succ]
    exact caseF_get r _ (fun x hx=>hs x (by simp[hx])) j (by simpa using h)
theorem caseF_fp {m:Mdl} (hsome:∀ l∈m.cls,1≤l.length) (n:Int):FP m (caseF m.cls n):=⟨caseF_len _ _,fun j hj=>by
  rw[caseF_len] at hj
  have:=caseF_get m.cls n hsome j hj
  exact optB_iff.2 ⟨by omega,by omega,this.1,by rw[Int.toNat_natCast];exact this.2⟩⟩
set_option maxHeartbeats 4000000 in
theorem caseF_ok (m:Mdl) (hm:VM m) (hsome:∀ l∈m.cls,1≤l.length) (n:Int) (hn0:0≤n) (hn9:n≤10000):Holds Try.prog 15 [.agg (eMdl m),.lit (.int .i64 n)] [] (.tree 1 (ints (caseF m.cls n))) []:=by
  have hc24:=hm.cls
  generalize hres:caseF m.cls n=res
  refine Holds.of_body' (fn:=Try.f15) 32 0 [.tmp 4] Try.func15 rfl rfl rfl rfl rfl (by simp) ?_
  repeat' (first|((first|((first|refine rr ?_|refine rre ?_);intro K hK)|with_reducible refine gO ?_);simp (disch:=omega) only[Ac,↓Pc,simprocAttr])|(refine hK _ ?_;clear hK K)|(with_reducible refine gS (fun hb'=>?_) (fun hb'=>?_)<;>(have hb:=hb';(try simp only[DEc,simprocAttr] at hb);simp (disch:=omega) only[Ac,↓Pc,simprocAttr,hb'];clear hb'))|(refine Wc (fun ht=>?_) (fun ht=>?_)<;>(try simp only[DEc,simprocAttr] at ht))|refine Wz rfl ?_|(refine Wb ?_;intro Qb hnb hxb heb)|(refine Wk ?_;intro Q hn he)|((first|refine hn _ ?_|refine he _ _ rfl ?_);clear hn he;try clear Q)|((first|refine hnb _ ?_|refine hxb _ ?_|refine heb _ _ rfl ?_);clear hnb hxb heb;try clear Qb)|(refine hel _ _ rfl ?_;clear hnl hel;try clear Ql)|(simp only[Qc,Kc,simprocAttr])|with_reducible refine And.intro ?_ ?_|omega|with_reducible rfl)
  refine W_loopS (fun z:Nat × Int × List Int=>(⟨slots [(1,.lit (.int .i64 z.2.1)),(2,.ptr 0 0 0),(5,.ref 1 1 0 z.2.2.length),(6,.lit (.int .i64 z.1))],[.var (eMdl m),.arr 1 (ints z.2.2)]⟩:St))
    (fun z=>z.1≤m.cls.length∧(0≤z.2.1∧z.2.1≤10000)∧z.2.2.length=z.1∧z.2.2++caseF (m.cls.drop z.1) z.2.1=res) (fun z=>m.cls.length - z.1) (0,n,[]) ⟨Nat.zero_le _,⟨hn0,hn9⟩,rfl,hres⟩ ?_ ?_
  · refine Turns.trans (Turns.nil 5 1 (by simp only[Kc,simprocAttr]) (by decide)) ?_
    (refine Turns.slots _ _ rfl ?_;simp only[Tc,↓reduceIte,reduceEqDiff,Nat.reduceBEq,reduceAdd];try trivial)
  clear hn0 hn9 hres n
  rintro ⟨i,n,plan⟩ ⟨hi,⟨hn0,hn9⟩,hpl,hr⟩ Ql hnl hel
  dsimp only at hi hn0 hn9 hpl hr ⊢
  by_cases hi':i<m.cls.length
  · have hl24:=hm.opt _ (getD_mem (l:=m.cls) (i:=i) (d:=default) hi')
    have hl1:=hsome _ (getD_mem (l:=m.cls) (i:=i) (d:=default) hi')
    rw[getD_drop0 m.cls i default hi',caseF] at hr
    generalize hcc:m.cls.getD i default=c at *
    have hmod:=mod_ok n (c.length:Int) (by unfold In64;omega)
    generalize modI n (c.length:Int)=x at *
    have hq0:0≤n / (c.length:Int):=Int.ediv_nonneg hn0 (by omega)
    have hq1:n / (c.length:Int)≤n:=Int.ediv_le_self _ hn0
    generalize hqq:n / (c.length:Int)=q at *
    have hmx:max (c.length:Int) 1=c.length:=by omega
    repeat' (first|((first|((first|refine rr ?_|refine rre ?_|refine rb ?_|refine rbe ?_|refine ra ?_|refine rae ?_);intro K hK)|with_reducible refine gO ?_);simp (disch:=omega) only[Ac,↓Pc,simprocAttr,hcc,eCls,hqq,hmx,ints_app1])|(first|refine callK_pure (hmod) rfl rfl ?_|refine callQ_pure (hmod) rfl rfl ?_)|(refine hK _ ?_;clear hK K)|(with_reducible refine gS (fun hb'=>?_) (fun hb'=>?_)<;>(have hb:=hb';(try simp only[DEc,simprocAttr] at hb);simp (disch:=omega) only[Ac,↓Pc,simprocAttr,hcc,eCls,hqq,hmx,ints_app1,hb'];clear hb'))|(refine Wc (fun ht=>?_) (fun ht=>?_)<;>(try simp only[DEc,simprocAttr] at ht))|refine Wz rfl ?_|(refine Wb ?_;intro Qb hnb hxb heb)|(refine Wk ?_;intro Q hn he)|((first|refine hn _ ?_|refine he _ _ rfl ?_);clear hn he;try clear Q)|((first|refine hnb _ ?_|refine hxb _ ?_|refine heb _ _ rfl ?_);clear hnb hxb heb;try clear Qb)|(simp only[Qc,Kc,simprocAttr])|with_reducible refine And.intro ?_ ?_|omega|with_reducible rfl)
    all_goals try (exfalso;omega)
    refine hnl _ (i+1,q,plan++[x]) ⟨by dsimp only;omega,⟨hq0,by dsimp only;omega⟩,by simp;omega,by dsimp only;rw[List.append_assoc];exact hr⟩ (by dsimp only;omega) ?_
    (refine Turns.se [0,3] false (by simp only[Oc,simprocAttr]) ?_;simp only[Hr,↓reduceIte,reduceEqDiff,Nat.reduceBEq,reduceAdd];try (and_intros<;>first|exact .pure rfl|exact .eq rfl|exact .fz rfl (by simp only[Bc,Rc])))
  · rw[List.drop_eq_nil_of_le (by omega),caseF,List.append_nil] at hr
    repeat' (first|((first|((first|refine rr ?_|refine rre ?_);intro K hK)|with_reducible refine gO ?_);simp (disch:=omega) only[Ac,↓Pc,simprocAttr])|(refine hK _ ?_;clear hK K)|(with_reducible refine gS (fun hb'=>?_) (fun hb'=>?_)<;>(have hb:=hb';(try simp only[DEc,simprocAttr] at hb);simp (disch:=omega) only[Ac,↓Pc,simprocAttr,hb'];clear hb'))|(refine Wc (fun ht=>?_) (fun ht=>?_)<;>(try simp only[DEc,simprocAttr] at ht))|refine Wz rfl ?_|(refine Wb ?_;intro Qb hnb hxb heb)|(refine Wk ?_;intro Q hn he)|((first|refine hn _ ?_|refine he _ _ rfl ?_);clear hn he;try clear Q)|((first|refine hnb _ ?_|refine hxb _ ?_|refine heb _ _ rfl ?_);clear hnb hxb heb;try clear Qb)|(simp only[Qc,Kc,simprocAttr])|with_reducible refine And.intro ?_ ?_|omega|with_reducible rfl)
    refine hel _ _ rfl ?_;clear hnl hel Ql
    repeat (first|((first|refine hn _ ?_|refine he _ _ rfl ?_);clear hn he;try clear Q)|((first|refine hnb _ ?_|refine hxb _ ?_|refine heb _ _ rfl ?_);clear hnb hxb heb;try clear Qb)|(refine hel _ _ rfl ?_;clear hnl hel;try clear Ql))
    repeat' (first|((first|((first|refine rr ?_|refine rre ?_);intro K hK)|with_reducible refine gO ?_);simp (disch:=omega) only[Ac,↓Pc,simprocAttr])|(refine hK _ ?_;clear hK K)|(with_reducible refine gS (fun hb'=>?_) (fun hb'=>?_)<;>(have hb:=hb';(try simp only[DEc,simprocAttr] at hb);simp (disch:=omega) only[Ac,↓Pc,simprocAttr,hb'];clear hb'))|(refine Wc (fun ht=>?_) (fun ht=>?_)<;>(try simp only[DEc,simprocAttr] at ht))|refine Wz rfl ?_|(refine Wb ?_;intro Qb hnb hxb heb)|(refine Wk ?_;intro Q hn he)|((first|refine hn _ ?_|refine he _ _ rfl ?_);clear hn he;try clear Q)|((first|refine hnb _ ?_|refine hxb _ ?_|refine heb _ _ rfl ?_);clear hnb hxb heb;try clear Qb)|(refine hel _ _ rfl ?_;clear hnl hel;try clear Ql)|(simp only[Qc,Kc,simprocAttr])|with_reducible refine And.intro ?_ ?_|omega|with_reducible rfl)
    rw[← hr]
    (refine RetOK_se [] true (by simp only[Oc,simprocAttr]) ?_;first|exact .pure rfl|exact .eq rfl|exact .fz rfl (by simp only[Bc,Rc]))
end T

