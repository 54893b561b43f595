import Derived.Test.YtibijngmebpmmaaP11
set_option linter.unusedVariables false
set_option linter.unusedSimpArgs false
set_option linter.unnecessarySimpa false
open Go Go.Am Go.Proofs
open Nat (reduceEqDiff reduceAdd reduceLeDiff reduceMul)
open Int (reduceNeg reduceLE reduceToNat)
set_option maxRecDepth 20000
namespace T
def caseF:List (List Opt)→Int→List Int
  | [],_=>[]
  | l::r,n=>modI n l.length::caseF r (n / l.length)
theorem caseF_len:∀ (cls:List (List Opt)) (n:Int),(caseF cls n).length=cls.length
  | [],_=>rfl
  | l::r,n=>by rw[caseF,List.length_cons,caseF_len r,List.length_cons]
theorem caseF_get:∀ (cls:List (List Opt)) (n:Int),(∀ l∈cls,1≤l.length)→∀ j,j<cls.length→0≤(caseF cls n).getD j 0∧(caseF cls n).getD j 0<(cls.getD j default).length
  | [],_,_,j,h=>by simp at h
  | l::r,n,hs,0,_=>by
    rw[caseF,List.getD_cons_zero,List.getD_cons_zero]
    have:=hs l (by simp)
    exact modI_range _ _ (by omega)
  | l::r,n,hs,j+1,h=>by
    rw[caseF,List.getD_cons_succ,List.getD_cons_succ]
    exact caseF_get r _ (fun x hx=>hs x (by simp[hx])) j (by simpa using h)
theorem caseF_fp {m:Mdl} (hsome:∀ l∈m.cls,1≤l.length) (n:Int):FP m (caseF m.cls n):=⟨caseF_len _ _,fun j hj=>by
  rw[caseF_len] at hj
  have:=caseF_get m.cls n hsome j hj
  exact optB_iff.2 ⟨by omega,by omega,this.1,by rw[Int.toNat_natCast];exact this.2⟩⟩
set_option maxHeartbeats 4000000 in
theorem caseF_ok (m:Mdl) (hm:VM m) (hsome:∀ l∈m.cls,1≤l.length) (n:Int) (hn0:0≤n) (hn9:n≤10000):Holds Try.prog 15 [.agg (eMdl m),.lit (.int .i64 n)] [] (.tree 1 (ints (caseF m.cls n))) []:=by
  have hc24:=hm.cls
  generalize hres:caseF m.cls n=res
  refine Holds.of_body' (fn:=Try.f15) 32 0 [.tmp 4] Try.func15 rfl rfl rfl rfl rfl (by simp) ?_
  repeat' (first|((first|((first|refine rr ?_|refine rre ?_);intro K hK)|with_reducible refine gO ?_);simp (disch:=omega) only[Ac,↓Pc,simprocAttr])|(refine hK _ ?_;clear hK K)|(with_reducible refine gS (fun hb'=>?_) (fun hb'=>?_)<;>(have hb:=hb';(try simp only[DEc,simprocAttr] at hb);simp (disch:=omega) only[Ac,↓Pc,simprocAttr,hb'];clear hb'))|(refine Wc (fun ht=>?_) (fun ht=>?_)<;>(try simp only[DEc,simprocAttr] at ht))|refine Wz rfl ?_|(refine Wb ?_;intro Qb hnb hxb heb)|(refine Wk ?_;intro Q hn he)|((first|refine hn _ ?_|refine he _ _ rfl ?_);clear hn he;try clear Q)|((first|refine hnb _ ?_|refine hxb _ ?_|refine heb _ _ rfl ?_);clear hnb hxb heb;try clear Qb)|(refine hel _ _ rfl ?_;clear hnl hel;try clear Ql)|(simp only[Qc,Kc,simprocAttr])|with_reducible refine And.intro ?_ ?_|omega|with_reducible rfl)
  refine W_loopS (fun z:Nat × Int × List Int=>(⟨slots [(1,.lit (.int .i64 z.2.1)),(2,.ptr 0 0 0),(5,.ref 1 1 0 z.2.2.length),(6,.lit (.int .i64 z.1))],[.var (eMdl m),.arr 1 (ints z.2.2)]⟩:St))
    (fun z=>z.1≤m.cls.length∧(0≤z.2.1∧z.2.1≤10000)∧z.2.2.length=z.1∧z.2.2++caseF (m.cls.drop z.1) z.2.1=res) (fun z=>m.cls.length - z.1) (0,n,[]) ⟨Nat.zero_le _,⟨hn0,hn9⟩,rfl,hres⟩ ?_ ?_
  · refine Turns.trans (Turns.nil 5 1 (by simp only[Kc,simprocAttr]) (by decide)) ?_
    (refine Turns.slots _ _ rfl ?_;simp only[Tc,↓reduceIte,reduceEqDiff,Nat.reduceBEq,reduceAdd];try trivial)
  clear hn0 hn9 hres n
  rintro ⟨i,n,plan⟩ ⟨hi,⟨hn0,hn9⟩,hpl,hr⟩ Ql hnl hel
  dsimp only at hi hn0 hn9 hpl hr ⊢
  by_cases hi':i<m.cls.length
  · have hl24:=hm.opt _ (getD_mem (l:=m.cls) (i:=i) (d:=default) hi')
    have hl1:=hsome _ (getD_mem (l:=m.cls) (i:=i) (d:=default) hi')
    rw[getD_drop0 m.cls i default hi',caseF] at hr
    generalize hcc:m.cls.getD i default=c at *
    have hmod:=mod_ok n (c.length:Int) (by unfold In64;omega)
    generalize modI n (c.length:Int)=x at *
    have hq0:0≤n / (c.length:Int):=Int.ediv_nonneg hn0 (by omega)
    have hq1:n / (c.length:Int)≤n:=Int.ediv_le_self _ hn0
    generalize hqq:n / (c.length:Int)=q at *
    have hmx:max (c.length:Int) 1=c.length:=by omega
    repeat' (first|((first|((first|refine rr ?_|refine rre ?_|refine rb ?_|refine rbe ?_|refine ra ?_|refine rae ?_);intro K hK)|with_reducible refine gO ?_);simp (disch:=omega) only[Ac,↓Pc,simprocAttr,hcc,eCls,hqq,hmx,ints_app1])|(first|refine callK_pure (hmod) rfl rfl ?_|refine callQ_pure (hmod) rfl rfl ?_)|(refine hK _ ?_;clear hK K)|(with_reducible refine gS (fun hb'=>?_) (fun hb'=>?_)<;>(have hb:=hb';(try simp only[DEc,simprocAttr] at hb);simp (disch:=omega) only[Ac,↓Pc,simprocAttr,hcc,eCls,hqq,hmx,ints_app1,hb'];clear hb'))|(refine Wc (fun ht=>?_) (fun ht=>?_)<;>(try simp only[DEc,simprocAttr] at ht))|refine Wz rfl ?_|(refine Wb ?_;intro Qb hnb hxb heb)|(refine Wk ?_;intro Q hn he)|((first|refine hn _ ?_|refine he _ _ rfl ?_);clear hn he;try clear Q)|((first|refine hnb _ ?_|refine hxb _ ?_|refine heb _ _ rfl ?_);clear hnb hxb heb;try clear Qb)|(simp only[Qc,Kc,simprocAttr])|with_reducible refine And.intro ?_ ?_|omega|with_reducible rfl)
    all_goals try (exfalso;omega)
    refine hnl _ (i+1,q,plan++[x]) ⟨by dsimp only;omega,⟨hq0,by dsimp only;omega⟩,by simp;omega,by dsimp only;rw[List.append_assoc];exact hr⟩ (by dsimp only;omega) ?_
    (refine Turns.se [0,3] false (by simp only[Oc,simprocAttr]) ?_;simp only[Hr,↓reduceIte,reduceEqDiff,Nat.reduceBEq,reduceAdd];try (and_intros<;>first|exact .pure rfl|exact .eq rfl|exact .fz rfl (by simp only[Bc,Rc])))
  · rw[List.drop_eq_nil_of_le (by omega),caseF,List.append_nil] at hr
    repeat' (first|((first|((first|refine rr ?_|refine rre ?_);intro K hK)|with_reducible refine gO ?_);simp (disch:=omega) only[Ac,↓Pc,simprocAttr])|(refine hK _ ?_;clear hK K)|(with_reducible refine gS (fun hb'=>?_) (fun hb'=>?_)<;>(have hb:=hb';(try simp only[DEc,simprocAttr] at hb);simp (disch:=omega) only[Ac,↓Pc,simprocAttr,hb'];clear hb'))|(refine Wc (fun ht=>?_) (fun ht=>?_)<;>(try simp only[DEc,simprocAttr] at ht))|refine Wz rfl ?_|(refine Wb ?_;intro Qb hnb hxb heb)|(refine Wk ?_;intro Q hn he)|((first|refine hn _ ?_|refine he _ _ rfl ?_);clear hn he;try clear Q)|((first|refine hnb _ ?_|refine hxb _ ?_|refine heb _ _ rfl ?_);clear hnb hxb heb;try clear Qb)|(simp only[Qc,Kc,simprocAttr])|with_reducible refine And.intro ?_ ?_|omega|with_reducible rfl)
    refine hel _ _ rfl ?_;clear hnl hel Ql
    repeat (first|((first|refine hn _ ?_|refine he _ _ rfl ?_);clear hn he;try clear Q)|((first|refine hnb _ ?_|refine hxb _ ?_|refine heb _ _ rfl ?_);clear hnb hxb heb;try clear Qb)|(refine hel _ _ rfl ?_;clear hnl hel;try clear Ql))
    repeat' (first|((first|((first|refine rr ?_|refine rre ?_);intro K hK)|with_reducible refine gO ?_);simp (disch:=omega) only[Ac,↓Pc,simprocAttr])|(refine hK _ ?_;clear hK K)|(with_reducible refine gS (fun hb'=>?_) (fun hb'=>?_)<;>(have hb:=hb';(try simp only[DEc,simprocAttr] at hb);simp (disch:=omega) only[Ac,↓Pc,simprocAttr,hb'];clear hb'))|(refine Wc (fun ht=>?_) (fun ht=>?_)<;>(try simp only[DEc,simprocAttr] at ht))|refine Wz rfl ?_|(refine Wb ?_;intro Qb hnb hxb heb)|(refine Wk ?_;intro Q hn he)|((first|refine hn _ ?_|refine he _ _ rfl ?_);clear hn he;try clear Q)|((first|refine hnb _ ?_|refine hxb _ ?_|refine heb _ _ rfl ?_);clear hnb hxb heb;try clear Qb)|(refine hel _ _ rfl ?_;clear hnl hel;try clear Ql)|(simp only[Qc,Kc,simprocAttr])|with_reducible refine And.intro ?_ ?_|omega|with_reducible rfl)
    rw[← hr]
    (refine RetOK_se [] true (by simp only[Oc,simprocAttr]) ?_;first|exact .pure rfl|exact .eq rfl|exact .fz rfl (by simp only[Bc,Rc]))
set_option maxRecDepth 10000 in
set_option maxHeartbeats 16000000 in
theorem bounds_ok (tape:List Int):Holds Try.prog 3 [.tree 1 (ints tape)] [] (.lit (.bool true)) []:=by
  refine Holds.of_body' (fn:=Try.f3) 64 0 [.tmp 2] Try.func3 rfl rfl rfl rfl rfl (by simp) ?_
  repeat' (first|((first|((fail_if_success (first|refine W_at 3 ?_|refine W_atE 3 ?_));(first|refine rr ?_|refine rre ?_|refine rb ?_|refine rbe ?_|refine ra ?_|refine rae ?_);intro K hK)|with_reducible refine gO ?_);simp (disch:=omega) only[Ac,↓Pc,simprocAttr])|(first|refine callK_pure (light_ok _) rfl rfl ?_|refine callQ_pure (light_ok _) rfl rfl ?_)|(first|refine callK_pure (awake21_ok) rfl rfl ?_|refine callQ_pure (awake21_ok) rfl rfl ?_)|(refine hK _ ?_;clear hK K)|(with_reducible refine gS (fun hb'=>?_) (fun hb'=>?_)<;>(have hb:=hb';(try simp only[DEc,simprocAttr] at hb);simp (disch:=omega) only[Ac,↓Pc,simprocAttr,hb'];clear hb'))|(refine Wc (fun ht=>?_) (fun ht=>?_)<;>(try simp only[DEc,simprocAttr] at ht))|refine Wz rfl ?_|(refine Wb ?_;intro Qb hnb hxb heb)|(refine Wk ?_;intro Q hn he)|((first|refine hn _ ?_|refine he _ _ rfl ?_);clear hn he;try clear Q)|((first|refine hnb _ ?_|refine hxb _ ?_|refine heb _ _ rfl ?_);clear hnb hxb heb;try clear Qb)|(refine hel _ _ rfl ?_;clear hnl hel;try clear Ql)|(simp only[Qc,Kc,simprocAttr])|with_reducible refine And.intro ?_ ?_|omega|with_reducible rfl)
  · exact RetOK_pure' rfl rfl
  have hL:tape.length<1000000:=by omega
  repeat' (first|((first|((first|refine rr ?_|refine rre ?_);intro K hK)|with_reducible refine gO ?_);simp (disch:=omega) only[Ac,↓Pc,simprocAttr])|(refine hK _ ?_;clear hK K)|(with_reducible refine gS (fun hb'=>?_) (fun hb'=>?_)<;>(have hb:=hb';(try simp only[DEc,simprocAttr] at hb);simp (disch:=omega) only[Ac,↓Pc,simprocAttr,hb'];clear hb'))|(refine Wc (fun ht=>?_) (fun ht=>?_)<;>(try simp only[DEc,simprocAttr] at ht))|refine Wz rfl ?_|(refine Wb ?_;intro Qb hnb hxb heb)|(refine Wk ?_;intro Q hn he)|((first|refine hn _ ?_|refine he _ _ rfl ?_);clear hn he;try clear Q)|((first|refine hnb _ ?_|refine hxb _ ?_|refine heb _ _ rfl ?_);clear hnb hxb heb;try clear Qb)|(refine hel _ _ rfl ?_;clear hnl hel;try clear Ql)|(simp only[Qc,Kc,simprocAttr])|with_reducible refine And.intro ?_ ?_|omega|with_reducible rfl)
  (refine callK_sel [] (roll_ok tape) (by decide) (by (repeat' (first|exact trivial|with_reducible refine And.intro ?_ ?_|refine And.intro ?_ ?_))<;>first|rfl|(rw[ints_ren];rfl)|(rw[bools_ren];rfl)|(rw[rows_ren];rfl)|(rw[intss_ren];rfl)) (by (repeat' (first|exact trivial|refine And.intro ?_ ?_))<;>(first|exact .pure rfl|exact .eq rfl|exact .fz rfl (by simp only[Bc,Rc]))) ?_;simp (disch:=omega) only[Ac,↓Pc,simprocAttr])
  refine hK _ ?_;clear hK K
  repeat (first|((first|refine hn _ ?_|refine he _ _ rfl ?_);clear hn he;try clear Q)|((first|refine hnb _ ?_|refine hxb _ ?_|refine heb _ _ rfl ?_);clear hnb hxb heb;try clear Qb)|(refine hel _ _ rfl ?_;clear hnl hel;try clear Ql))
  refine W_turn (σ':=⟨slots [(3,.ptr 0 0 0)],[dice tape 0]⟩) (by unfold dice;(refine Turns.slots _ _ rfl ?_;simp only[Tc,↓reduceIte,reduceEqDiff,Nat.reduceBEq,reduceAdd];try trivial)) ?_
  have hmod:=model_ok tape 0 4 3 (Nat.zero_le _) hL (by decide) (by decide) (by decide)
  refine W_region_c 1 (by decide) _ rfl ?_
  intro K hK
  simp (disch:=omega) only[Ac,↓Pc,simprocAttr,List.take,List.drop]
  refine⟨rfl,(show callKR Try.prog 10 [.ptr 0 0 0,.lit (.int .i64 (4:Nat)),.lit (.int .i64 (3:Nat))] (some 18) _ _ from ?_)⟩
  refine callKR_sel [0] hmod (by decide) ⟨rfl,trivial⟩ ⟨.eq rfl,.pure rfl,.pure rfl,trivial⟩ ?_
  rintro r os ⟨m,k,hm,hk,rfl,rfl⟩
  have hvm:=hm.vm
  unfold dice
  simp (disch:=omega) only[Ac,↓Pc,simprocAttr]
  refine hK _ ?_;clear hK K
  refine W_turn (Turns.frzP 4 1 (cells:=eMdl m) (by rfl) (by simp only[Kc,simprocAttr]) (by simp[eMdl])) ?_
  refine W_turn (σ':=⟨slots [(3,.ptr 0 0 0),(4,.taddr (eMdl m))],[dice tape k]⟩) (by unfold dice;(refine Turns.se [0] false (by simp only[Oc,simprocAttr]) ?_;simp only[Hr,↓reduceIte,reduceEqDiff,Nat.reduceBEq,reduceAdd];try (and_intros<;>first|exact .pure rfl|exact .eq rfl|exact .fz rfl (by simp only[Bc,Rc])))) ?_
  have hsome3:∀ l∈m.cls,1≤l.length∧l.length≤3:=fun l hl=>hm.some l hl
  have hsome:∀ l∈m.cls,1≤l.length:=fun l hl=>(hsome3 l hl).1
  have h2:=dproof_ok m hvm (w:=3) (by decide) hsome3 tape hL 3 (by decide) (by decide) k hk
  have hgr:=growF_ok (L:=tape) hvm hsome3 3 [] k [] hk (by simp)
  generalize growF m tape 3 [] k []=gr at *
  obtain ⟨P,k2⟩:=gr
  have hln:=hgr.le
  have hseg:=hgr.seg
  rw[List.length_nil] at hseg hln
  have hsz:szB 3 3=40:=by decide
  dsimp only at h2 hln hseg
  obtain ⟨n,hck,_⟩:=hseg.chk hvm (by omega)
  have hn1:=(chk_leaf (chkV_iff hck).2.2).1
  have h3:=check_ok m P hvm.mb (hseg.pb hvm (by omega))
  rw[hck] at h3
  dsimp only at h3
  have hlaw:∀ plan,FP m plan→n≤totalL (rulesV m plan) 0:=fun plan hp=>chk_bound hck hp
  unfold dice at h2 ⊢
  refine Wk ?_;intro Q hn he
  refine join_here ⟨slots [(4,.taddr (eMdl m)),(5,.lit (.int .i64 n)),(6,.lit (.bool true))],[]⟩ hn ?_ (fun key=>?_)
  rotate_left
  · refine W_draw [0,2] (.take 0 (.take 1 (.take 2 (.take 3 (.take 4 (.take 5 (.take 6 (.take 7 (.take 8 (.take 9 .nil)))))))))) rfl (by decide) (by decide +kernel) ?_
    simp (disch:=omega) only[Ac,↓Pc,simprocAttr,planW_three,planW_both,planW_take,planW_nil,stepAt,stepD,↓Lq]
    repeat' (first|with_reducible refine And.intro ?_ ?_|omega|with_reducible rfl)
    all_goals
      (refine callK_sel [0] (h2) (by decide) (by (repeat' (first|exact trivial|with_reducible refine And.intro ?_ ?_|refine And.intro ?_ ?_))<;>first|rfl|(rw[ints_ren];rfl)|(rw[bools_ren];rfl)|(rw[rows_ren];rfl)|(rw[intss_ren];rfl)) (by (repeat' (first|exact trivial|refine And.intro ?_ ?_))<;>(first|exact .pure rfl|exact .eq rfl|exact .fz rfl (by simp only[Bc,Rc]))) ?_;simp (disch:=omega) only[Ac,↓Pc,simprocAttr,planW_three,planW_both,planW_take,planW_nil,stepAt,stepD,↓Lq])
      repeat' (first|with_reducible refine And.intro ?_ ?_|omega|with_reducible rfl)
    all_goals
      (refine callK_sel [] (h3) (by decide) (by (repeat' (first|exact trivial|with_reducible refine And.intro ?_ ?_|refine And.intro ?_ ?_))<;>first|rfl|(rw[ints_ren];rfl)|(rw[bools_ren];rfl)|(rw[rows_ren];rfl)|(rw[intss_ren];rfl)) (by (repeat' (first|exact trivial|refine And.intro ?_ ?_))<;>(first|exact .pure rfl|exact .eq rfl|exact .fz rfl (by simp only[Bc,Rc]))) ?_;simp (disch:=omega) only[Ac,↓Pc,simprocAttr,planW_three,planW_both,planW_take,planW_nil,stepAt,stepD,↓Lq])
      refine key _ ?_
      (refine Turns.se [] true (by simp only[Oc,simprocAttr]) ?_;simp only[Hr,↓reduceIte,reduceEqDiff,Nat.reduceBEq,reduceAdd];try (and_intros<;>first|exact .pure rfl|exact .eq rfl|exact .fz rfl (by simp only[Bc,Rc])))
  clear hn he
  try clear Q
  clear h2 h3 hmod hgr hck hseg
  repeat' (first|((first|((fail_if_success (first|refine W_at 8 ?_|refine W_atE 8 ?_));(first|refine rr ?_|refine rre ?_|refine rb ?_|refine rbe ?_|refine ra ?_|refine rae ?_);intro K hK)|with_reducible refine gO ?_);simp (disch:=omega) only[Ac,↓Pc,simprocAttr,Bool.not_true])|(first|refine callK_pure (awake21_ok) rfl rfl ?_|refine callQ_pure (awake21_ok) rfl rfl ?_)|(refine hK _ ?_;clear hK K)|(with_reducible refine gS (fun hb'=>?_) (fun hb'=>?_)<;>(have hb:=hb';(try simp only[DEc,simprocAttr] at hb);simp (disch:=omega) only[Ac,↓Pc,simprocAttr,Bool.not_true,hb'];clear hb'))|(refine Wc (fun ht=>?_) (fun ht=>?_)<;>(try simp only[DEc,simprocAttr] at ht))|refine Wz rfl ?_|(refine Wb ?_;intro Qb hnb hxb heb)|(refine Wk ?_;intro Q hn he)|((first|refine hn _ ?_|refine he _ _ rfl ?_);clear hn he;try clear Q)|((first|refine hnb _ ?_|refine hxb _ ?_|refine heb _ _ rfl ?_);clear hnb hxb heb;try clear Qb)|(refine hel _ _ rfl ?_;clear hnl hel;try clear Ql)|(simp only[Qc,Kc,simprocAttr])|with_reducible refine And.intro ?_ ?_|omega|with_reducible rfl)
  all_goals try (exfalso;omega)
  refine W_region_ce 1 (by decide) _ rfl ?_
  intro K hK
  simp (disch:=omega) only[Ac,↓Pc,simprocAttr,List.take,List.drop]
  refine⟨rfl,(show callKR Try.prog 13 [.agg (eMdl m)] (some 38) _ _ from ?_)⟩
  refine callKR_sel [] (cases_ok m hvm) (by decide) trivial ⟨.pure rfl,trivial⟩ ?_
  rintro r os ⟨nc,hc0,hc1,rfl,rfl⟩
  simp (disch:=omega) only[Ac,↓Pc,simprocAttr]
  repeat' (first|with_reducible refine And.intro ?_ ?_|omega|with_reducible rfl)
  refine hK _ ?_
  repeat (first|((first|refine hn _ ?_|refine he _ _ rfl ?_);clear hn he;try clear Q)|((first|refine hnb _ ?_|refine hxb _ ?_|refine heb _ _ rfl ?_);clear hnb hxb heb;try clear Qb)|(refine hel _ _ rfl ?_;clear hnl hel;try clear Ql))
  repeat' (first|((first|((first|refine rr ?_|refine rre ?_);intro K hK)|with_reducible refine gO ?_);simp (disch:=omega) only[Ac,↓Pc,simprocAttr])|(refine hK _ ?_;clear hK K)|(with_reducible refine gS (fun hb'=>?_) (fun hb'=>?_)<;>(have hb:=hb';(try simp only[DEc,simprocAttr] at hb);simp (disch:=omega) only[Ac,↓Pc,simprocAttr,hb'];clear hb'))|(refine Wc (fun ht=>?_) (fun ht=>?_)<;>(try simp only[DEc,simprocAttr] at ht))|refine Wz rfl ?_|(refine Wb ?_;intro Qb hnb hxb heb)|(refine Wk ?_;intro Q hn he)|((first|refine hn _ ?_|refine he _ _ rfl ?_);clear hn he;try clear Q)|((first|refine hnb _ ?_|refine hxb _ ?_|refine heb _ _ rfl ?_);clear hnb hxb heb;try clear Qb)|(refine hel _ _ rfl ?_;clear hnl hel;try clear Ql)|(simp only[Qc,Kc,simprocAttr])|with_reducible refine And.intro ?_ ?_|omega|with_reducible rfl)
  refine W_loopS (fun z:Int=>(⟨slots [(4,.taddr (eMdl m)),(5,.lit (.int .i64 n)),(7,.lit (.int .i64 z))],[]⟩:St)) (fun z=>-1≤z∧z≤9999) (fun z=>(z+1).toNat) (nc - 1) ⟨by omega,by omega⟩ (by (refine Turns.slots _ _ rfl ?_;simp only[Tc,↓reduceIte,reduceEqDiff,Nat.reduceBEq,reduceAdd];try trivial)) ?_
  rintro z ⟨hz0,hz1⟩ Ql hnl hel
  by_cases hgo:0≤z∧z<300
  · obtain ⟨hz2,hz3⟩:=hgo
    have h5:=caseF_ok m hvm hsome z hz2 (by omega)
    have hfp:=caseF_fp hsome z
    have hlw:=hlaw _ hfp
    have hpl:=hfp.len
    generalize caseF m.cls z=plan at *
    have h6:=refCost_ok m plan hvm.mb (by have:=hvm.cls;omega)
    rw[costT_ok hvm hfp.pm] at h6
    dsimp only at h6
    generalize totalL (rulesV m plan) 0=tot at *
    repeat' (first|((first|((first|refine rr ?_|refine rre ?_|refine rb ?_|refine rbe ?_|refine ra ?_|refine rae ?_);intro K hK)|with_reducible refine gO ?_);simp (disch:=omega) only[Ac,↓Pc,simprocAttr,bne_self_eq_false])|(first|refine callK_pure (h5) rfl rfl ?_|refine callQ_pure (h5) rfl rfl ?_)|(first|refine callK_pure (h6) rfl rfl ?_|refine callQ_pure (h6) rfl rfl ?_)|(refine hK _ ?_;clear hK K)|(with_reducible refine gS (fun hb'=>?_) (fun hb'=>?_)<;>(have hb:=hb';(try simp only[DEc,simprocAttr] at hb);simp (disch:=omega) only[Ac,↓Pc,simprocAttr,bne_self_eq_false,hb'];clear hb'))|(refine Wc (fun ht=>?_) (fun ht=>?_)<;>(try simp only[DEc,simprocAttr] at ht))|refine Wz rfl ?_|(refine Wb ?_;intro Qb hnb hxb heb)|(refine Wk ?_;intro Q hn he)|((first|refine hn _ ?_|refine he _ _ rfl ?_);clear hn he;try clear Q)|((first|refine hnb _ ?_|refine hxb _ ?_|refine heb _ _ rfl ?_);clear hnb hxb heb;try clear Qb)|(simp only[Qc,Kc,simprocAttr])|with_reducible refine And.intro ?_ ?_|omega|with_reducible rfl)
    all_goals try (exfalso;omega)
    exact hnl _ (z - 1) ⟨by omega,by omega⟩ (by omega) (by (refine Turns.slots _ _ rfl ?_;simp only[Tc,↓reduceIte,reduceEqDiff,Nat.reduceBEq,reduceAdd];try trivial))
  · repeat' (first|((first|((first|refine rr ?_|refine rre ?_);intro K hK)|with_reducible refine gO ?_);simp (disch:=omega) only[Ac,↓Pc,simprocAttr])|(refine hK _ ?_;clear hK K)|(with_reducible refine gS (fun hb'=>?_) (fun hb'=>?_)<;>(have hb:=hb';(try simp only[DEc,simprocAttr] at hb);simp (disch:=omega) only[Ac,↓Pc,simprocAttr,hb'];clear hb'))|(refine Wc (fun ht=>?_) (fun ht=>?_)<;>(try simp only[DEc,simprocAttr] at ht))|refine Wz rfl ?_|(refine Wb ?_;intro Qb hnb hxb heb)|(refine Wk ?_;intro Q hn he)|((first|refine hn _ ?_|refine he _ _ rfl ?_);clear hn he;try clear Q)|((first|refine hnb _ ?_|refine hxb _ ?_|refine heb _ _ rfl ?_);clear hnb hxb heb;try clear Qb)|(simp only[Qc,Kc,simprocAttr])|with_reducible refine And.intro ?_ ?_|omega|with_reducible rfl)
    all_goals try (exfalso;omega)
    all_goals
      refine hel _ _ rfl ?_;clear hnl hel Ql
      repeat (first|((first|refine hn _ ?_|refine he _ _ rfl ?_);clear hn he;try clear Q)|((first|refine hnb _ ?_|refine hxb _ ?_|refine heb _ _ rfl ?_);clear hnb hxb heb;try clear Qb)|(refine hel _ _ rfl ?_;clear hnl hel;try clear Ql))
      repeat' (first|((first|((first|refine rr ?_|refine rre ?_);intro K hK)|with_reducible refine gO ?_);simp (disch:=omega) only[Ac,↓Pc,simprocAttr])|(refine hK _ ?_;clear hK K)|(with_reducible refine gS (fun hb'=>?_) (fun hb'=>?_)<;>(have hb:=hb';(try simp only[DEc,simprocAttr] at hb);simp (disch:=omega) only[Ac,↓Pc,simprocAttr,hb'];clear hb'))|(refine Wc (fun ht=>?_) (fun ht=>?_)<;>(try simp only[DEc,simprocAttr] at ht))|refine Wz rfl ?_|(refine Wb ?_;intro Qb hnb hxb heb)|(refine Wk ?_;intro Q hn he)|((first|refine hn _ ?_|refine he _ _ rfl ?_);clear hn he;try clear Q)|((first|refine hnb _ ?_|refine hxb _ ?_|refine heb _ _ rfl ?_);clear hnb hxb heb;try clear Qb)|(refine hel _ _ rfl ?_;clear hnl hel;try clear Ql)|(simp only[Qc,Kc,simprocAttr])|with_reducible refine And.intro ?_ ?_|omega|with_reducible rfl)
      exact RetOK_pure' rfl rfl
end T

