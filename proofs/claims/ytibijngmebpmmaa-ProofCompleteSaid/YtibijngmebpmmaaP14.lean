import Derived.Test.YtibijngmebpmmaaP13
import Derived.Test.YtibijngmebpmmaaP12
set_option linter.unusedVariables false
set_option linter.unusedSimpArgs false
set_option linter.unnecessarySimpa false
open Go Go.Am Go.Proofs
open Nat (reduceEqDiff reduceAdd reduceLeDiff reduceMul)
open Int (reduceNeg reduceLE reduceToNat)
set_option maxRecDepth 20000
namespace T
def prN:List (List Opt)→Int
  | []=>1
  | l::r=>l.length * prN r
def caseN:List (List Opt)→List Int→Int
  | l::r,x::p=>x+l.length * caseN r p
  | _,_=>0
theorem prN_pos:∀ (cls:List (List Opt)),(∀ l∈cls,1≤l.length)→1≤prN cls
  | [],_=>Int.le_refl _
  | l::r,h=>by
    have h1:=h l (by simp)
    have h2:=prN_pos r fun x hx=>h x (by simp[hx])
    rw[prN]
    have:(1:Int) * 1≤l.length * prN r:=Int.mul_le_mul (by omega) h2 (by omega) (by omega)
    omega
theorem prN_le:∀ (cls:List (List Opt)) (k:Nat),cls.length≤k→(∀ l∈cls,1≤l.length∧l.length≤3)→prN cls≤3 ^ k
  | [],k,_,_=>by
    rw[prN]
    have:(0:Int)<3 ^ k:=Int.pow_pos (by decide)
    omega
  | l::r,0,hk,_=>by simp at hk
  | l::r,k+1,hk,h=>by
    have h1:=h l (by simp)
    have h2:=prN_le r k (by simpa using hk) fun x hx=>h x (by simp[hx])
    have h3:=prN_pos r fun x hx=>(h x (by simp[hx])).1
    rw[prN,Int.pow_succ,Int.mul_comm (3 ^ k)]
    exact Int.mul_le_mul (by omega) h2 (by omega) (by decide)
theorem caseN_ok:∀ (cls:List (List Opt)) (p:List Int),p.length=cls.length→(∀ j,j<cls.length→0≤p.getD j 0∧p.getD j 0<(cls.getD j default).length)→0≤caseN cls p∧caseN cls p<prN cls∧caseF cls (caseN cls p)=p
  | [],[],_,_=>⟨Int.le_refl _,by decide,rfl⟩
  | [],_::_,h,_=>by simp at h
  | _::_,[],h,_=>by simp at h
  | l::r,x::p,h,hg=>by
    have h0:=hg 0 (by simp)
    rw[List.getD_cons_zero,List.getD_cons_zero] at h0
    obtain ⟨i1,i2,i3⟩:=caseN_ok r p (by simpa using h) fun j hj=>by
      have:=hg (j+1) (by simpa using hj)
      rwa [List.getD_cons_succ,List.getD_cons_succ] at this
    rw[caseN,prN]
    generalize caseN r p=y at *
    have hm:0≤(l.length:Int) * y:=Int.mul_nonneg (by omega) i1
    have hm2:(l.length:Int) * y+l.length≤l.length * prN r:=by
      have:(l.length:Int) * (y+1)≤l.length * prN r:=Int.mul_le_mul_of_nonneg_left (by omega) (by omega)
      rw[Int.mul_add,Int.mul_one] at this
      exact this
    refine⟨by omega,by omega,?_⟩
    rw[caseF]
    have e1:modI (x+l.length * y) l.length=x:=by
      unfold modI
      rw[if_neg (by omega),Int.add_mul_emod_self_left,Int.emod_eq_of_lt h0.1 h0.2]
    have e2:(x+l.length * y) / (l.length:Int)=y:=by
      rw[Int.add_mul_ediv_left _ _ (by omega),Int.ediv_eq_zero_of_lt h0.1 h0.2,Int.zero_add]
    rw[e1,e2,i3]
theorem plan_case {m:Mdl} {plan:List Int} (hp:FP m plan):0≤caseN m.cls plan∧caseN m.cls plan<prN m.cls∧caseF m.cls (caseN m.cls plan)=plan :=
  caseN_ok m.cls plan hp.len fun j hj=>by
    have:=optB_iff.1 (hp.get j (by rw[hp.len];exact hj))
    rw[Int.toNat_natCast] at this
    exact⟨this.2.2.1,this.2.2.2⟩
set_option maxHeartbeats 4000000 in
theorem casesN_ok (m:Mdl) (hm:VM m) (hsome:∀ l∈m.cls,1≤l.length) (hb:prN m.cls≤9999):Holds Try.prog 13 [.agg (eMdl m)] [] (.lit (.int .i64 (prN m.cls))) []:=by
  have hc24:=hm.cls
  have hpos:=prN_pos m.cls hsome
  generalize hres:prN m.cls=res at *
  refine Holds.of_body' (fn:=Try.f13) 26 0 [.tmp 2] Try.func13 rfl rfl rfl rfl rfl (by simp) ?_
  repeat' (first|((first|((first|refine rr ?_|refine rre ?_);intro K hK)|with_reducible refine gO ?_);simp (disch:=omega) only[Ac,↓Pc,simprocAttr])|(refine hK _ ?_;clear hK K)|(with_reducible refine gS (fun hb'=>?_) (fun hb'=>?_)<;>(have hb:=hb';(try simp only[DEc,simprocAttr] at hb);simp (disch:=omega) only[Ac,↓Pc,simprocAttr,hb'];clear hb'))|(refine Wc (fun ht=>?_) (fun ht=>?_)<;>(try simp only[DEc,simprocAttr] at ht))|refine Wz rfl ?_|(refine Wb ?_;intro Qb hnb hxb heb)|(refine Wk ?_;intro Q hn he)|((first|refine hn _ ?_|refine he _ _ rfl ?_);clear hn he;try clear Q)|((first|refine hnb _ ?_|refine hxb _ ?_|refine heb _ _ rfl ?_);clear hnb hxb heb;try clear Qb)|(refine hel _ _ rfl ?_;clear hnl hel;try clear Ql)|(simp only[Qc,Kc,simprocAttr])|with_reducible refine And.intro ?_ ?_|omega|with_reducible rfl)
  refine W_loopS (fun z:Nat × Int=>(⟨slots [(1,.ptr 0 0 0),(3,.lit (.int .i64 z.2)),(4,.lit (.int .i64 z.1))],[.var (eMdl m)]⟩:St)) (fun z=>z.1≤m.cls.length∧1≤z.2∧z.2 * prN (m.cls.drop z.1)=res) (fun z=>m.cls.length - z.1) (0,1) ⟨Nat.zero_le _,by decide,by rw[List.drop_zero,hres];exact Int.one_mul _⟩ (by (refine Turns.slots _ _ rfl ?_;simp only[Tc,↓reduceIte,reduceEqDiff,Nat.reduceBEq,reduceAdd];try trivial)) ?_
  rintro ⟨i,n⟩ ⟨hi,hn1,hr⟩ Ql hnl hel
  dsimp only at hi hn1 hr ⊢
  have hrest:=prN_pos (m.cls.drop i) fun x hx=>hsome x (List.mem_of_mem_drop hx)
  have hnle:n≤res:=by
    rw[← hr]
    have:n * 1≤n * prN (m.cls.drop i):=Int.mul_le_mul_of_nonneg_left hrest (by omega)
    omega
  by_cases hi':i<m.cls.length
  · have hl24:=hm.opt _ (getD_mem (l:=m.cls) (i:=i) (d:=default) hi')
    have hl1:=hsome _ (getD_mem (l:=m.cls) (i:=i) (d:=default) hi')
    rw[getD_drop0 m.cls i default hi',prN,← Int.mul_assoc] at hr
    have hrest2:=prN_pos (m.cls.drop (i+1)) fun x hx=>hsome x (List.mem_of_mem_drop hx)
    generalize hcc:m.cls.getD i default=c at *
    have hm1:n * 1≤n * (c.length:Int):=Int.mul_le_mul_of_nonneg_left (by omega) (by omega)
    have hm2:n * (c.length:Int)≤10000 * 24:=Int.mul_le_mul (by omega) (by omega) (by omega) (by omega)
    generalize hnc:n * (c.length:Int)=nc at *
    repeat' (first|((first|((first|refine rr ?_|refine rre ?_);intro K hK)|with_reducible refine gO ?_);simp (disch:=omega) only[Ac,↓Pc,simprocAttr,hcc,eCls,hnc])|(refine hK _ ?_;clear hK K)|(with_reducible refine gS (fun hb'=>?_) (fun hb'=>?_)<;>(have hb:=hb';(try simp only[DEc,simprocAttr] at hb);simp (disch:=omega) only[Ac,↓Pc,simprocAttr,hcc,eCls,hnc,hb'];clear hb'))|(refine Wc (fun ht=>?_) (fun ht=>?_)<;>(try simp only[DEc,simprocAttr] at ht))|refine Wz rfl ?_|(refine Wb ?_;intro Qb hnb hxb heb)|(refine Wk ?_;intro Q hn he)|((first|refine hn _ ?_|refine he _ _ rfl ?_);clear hn he;try clear Q)|((first|refine hnb _ ?_|refine hxb _ ?_|refine heb _ _ rfl ?_);clear hnb hxb heb;try clear Qb)|(simp only[Qc,Kc,simprocAttr])|with_reducible refine And.intro ?_ ?_|omega|with_reducible rfl)
    all_goals try (exfalso;omega)
    exact hnl _ (i+1,nc) ⟨by dsimp only;omega,by dsimp only;omega,hr⟩ (by dsimp only;omega) (by (refine Turns.slots _ _ rfl ?_;simp only[Tc,↓reduceIte,reduceEqDiff,Nat.reduceBEq,reduceAdd];try trivial))
  · rw[List.drop_eq_nil_of_le (by omega),prN,Int.mul_one] at hr
    repeat' (first|((first|((first|refine rr ?_|refine rre ?_);intro K hK)|with_reducible refine gO ?_);simp (disch:=omega) only[Ac,↓Pc,simprocAttr])|(refine hK _ ?_;clear hK K)|(with_reducible refine gS (fun hb'=>?_) (fun hb'=>?_)<;>(have hb:=hb';(try simp only[DEc,simprocAttr] at hb);simp (disch:=omega) only[Ac,↓Pc,simprocAttr,hb'];clear hb'))|(refine Wc (fun ht=>?_) (fun ht=>?_)<;>(try simp only[DEc,simprocAttr] at ht))|refine Wz rfl ?_|(refine Wb ?_;intro Qb hnb hxb heb)|(refine Wk ?_;intro Q hn he)|((first|refine hn _ ?_|refine he _ _ rfl ?_);clear hn he;try clear Q)|((first|refine hnb _ ?_|refine hxb _ ?_|refine heb _ _ rfl ?_);clear hnb hxb heb;try clear Qb)|(simp only[Qc,Kc,simprocAttr])|with_reducible refine And.intro ?_ ?_|omega|with_reducible rfl)
    all_goals try (exfalso;omega)
    all_goals
      refine hel _ _ rfl ?_;clear hnl hel Ql
      repeat (first|((first|refine hn _ ?_|refine he _ _ rfl ?_);clear hn he;try clear Q)|((first|refine hnb _ ?_|refine hxb _ ?_|refine heb _ _ rfl ?_);clear hnb hxb heb;try clear Qb)|(refine hel _ _ rfl ?_;clear hnl hel;try clear Ql))
      repeat' (first|((first|((first|refine rr ?_|refine rre ?_);intro K hK)|with_reducible refine gO ?_);simp (disch:=omega) only[Ac,↓Pc,simprocAttr])|(refine hK _ ?_;clear hK K)|(with_reducible refine gS (fun hb'=>?_) (fun hb'=>?_)<;>(have hb:=hb';(try simp only[DEc,simprocAttr] at hb);simp (disch:=omega) only[Ac,↓Pc,simprocAttr,hb'];clear hb'))|(refine Wc (fun ht=>?_) (fun ht=>?_)<;>(try simp only[DEc,simprocAttr] at ht))|refine Wz rfl ?_|(refine Wb ?_;intro Qb hnb hxb heb)|(refine Wk ?_;intro Q hn he)|((first|refine hn _ ?_|refine he _ _ rfl ?_);clear hn he;try clear Q)|((first|refine hnb _ ?_|refine hxb _ ?_|refine heb _ _ rfl ?_);clear hnb hxb heb;try clear Qb)|(refine hel _ _ rfl ?_;clear hnl hel;try clear Ql)|(simp only[Qc,Kc,simprocAttr])|with_reducible refine And.intro ?_ ?_|omega|with_reducible rfl)
      exact RetOK_pure' rfl (by rw[← hr,Int.min_eq_left (by omega)])
theorem sz3:∀ k:Nat,k≤4→szB 3 k≤20000
  | 0,_=>by decide
  | 1,_=>by decide
  | 2,_=>by decide
  | 3,_=>by decide
  | 4,_=>by decide
  | k+5,h=>by omega
set_option maxRecDepth 10000 in
set_option maxHeartbeats 16000000 in
theorem complete_ok (tape:List Int):Holds Try.prog 4 [.tree 1 (ints tape)] [] (.lit (.bool true)) []:=by
  refine Holds.of_body' (fn:=Try.f4) 58 0 [.tmp 2] Try.func4 rfl rfl rfl rfl rfl (by simp) ?_
  repeat' (first|((first|((fail_if_success (first|refine W_at 3 ?_|refine W_atE 3 ?_));(first|refine rr ?_|refine rre ?_|refine rb ?_|refine rbe ?_|refine ra ?_|refine rae ?_);intro K hK)|with_reducible refine gO ?_);simp (disch:=omega) only[Ac,↓Pc,simprocAttr])|(first|refine callK_pure (light_ok _) rfl rfl ?_|refine callQ_pure (light_ok _) rfl rfl ?_)|(first|refine callK_pure (awake21_ok) rfl rfl ?_|refine callQ_pure (awake21_ok) rfl rfl ?_)|(refine hK _ ?_;clear hK K)|(with_reducible refine gS (fun hb'=>?_) (fun hb'=>?_)<;>(have hb:=hb';(try simp only[DEc,simprocAttr] at hb);simp (disch:=omega) only[Ac,↓Pc,simprocAttr,hb'];clear hb'))|(refine Wc (fun ht=>?_) (fun ht=>?_)<;>(try simp only[DEc,simprocAttr] at ht))|refine Wz rfl ?_|(refine Wb ?_;intro Qb hnb hxb heb)|(refine Wk ?_;intro Q hn he)|((first|refine hn _ ?_|refine he _ _ rfl ?_);clear hn he;try clear Q)|((first|refine hnb _ ?_|refine hxb _ ?_|refine heb _ _ rfl ?_);clear hnb hxb heb;try clear Qb)|(refine hel _ _ rfl ?_;clear hnl hel;try clear Ql)|(simp only[Qc,Kc,simprocAttr])|with_reducible refine And.intro ?_ ?_|omega|with_reducible rfl)
  · exact RetOK_pure' rfl rfl
  have hL:tape.length<1000000:=by omega
  have hmod:=model_ok tape 0 4 3 (Nat.zero_le _) hL (by decide) (by decide) (by decide)
  refine W_region_ce 2 (by decide) _ rfl ?_
  intro K hK
  simp (disch:=omega) only[Ac,↓Pc,simprocAttr,List.take,List.drop]
  refine callK_sel [] (roll_ok tape) (by decide) trivial ⟨.pure rfl,trivial⟩ ?_
  simp (disch:=omega) only[Ac,↓Pc,simprocAttr,List.take,List.drop,Nat.sub_self]
  refine⟨rfl,(show callKR Try.prog 10 [.ptr 0 0 0,.lit (.int .i64 (4:Nat)),.lit (.int .i64 (3:Nat))] (some 17) _ _ from ?_)⟩
  refine callKR_sel [0] hmod (by decide) ⟨rfl,trivial⟩ ⟨.eq rfl,.pure rfl,.pure rfl,trivial⟩ ?_
  rintro r os ⟨m,k,hm,hk,rfl,rfl⟩
  have hvm:=hm.vm
  unfold dice
  simp (disch:=omega) only[Ac,↓Pc,simprocAttr]
  refine hK _ ?_;clear hK K
  repeat (first|((first|refine hn _ ?_|refine he _ _ rfl ?_);clear hn he;try clear Q)|((first|refine hnb _ ?_|refine hxb _ ?_|refine heb _ _ rfl ?_);clear hnb hxb heb;try clear Qb)|(refine hel _ _ rfl ?_;clear hnl hel;try clear Ql))
  refine W_turn (Turns.frzP 3 1 (cells:=eMdl m) (by rfl) (by simp only[Kc,simprocAttr]) (by simp[eMdl])) ?_
  refine W_turn (σ':=⟨slots [(3,.taddr (eMdl m))],[]⟩) (by (refine Turns.se [] false (by simp only[Oc,simprocAttr]) ?_;simp only[Hr,↓reduceIte,reduceEqDiff,Nat.reduceBEq,reduceAdd];try (and_intros<;>first|exact .pure rfl|exact .eq rfl|exact .fz rfl (by simp only[Bc,Rc])))) ?_
  have hsome3:∀ l∈m.cls,1≤l.length∧l.length≤3:=fun l hl=>hm.some l hl
  have hsome:∀ l∈m.cls,1≤l.length:=fun l hl=>(hsome3 l hl).1
  have hszm:=sz3 m.cls.length hm.few
  have hprl:prN m.cls≤81:=prN_le m.cls 4 hm.few hsome3
  have hprp:=prN_pos m.cls hsome
  obtain ⟨n,hck,hn1,hn2,hn3⟩:=full_law hvm hsome3 hszm
  have hF:=Full_ok m hvm (w:=3) (by decide) hsome3 hszm
  have hfok:=fullF_ok hsome3 m.cls.length (Nat.le_refl _) []
  have hseg:=hfok.seg
  have hfle:=hfok.le
  rw[List.length_nil] at hseg hfle
  rw[Nat.sub_self] at hseg
  have hpb:=Seg.pb hvm (show Seg m _ _ 0 _ [] from hseg) (by omega)
  have h3:=check_ok m _ hvm.mb hpb
  rw[hck] at h3
  have h4:=casesN_ok m hvm hsome (by omega)
  have h8:=refValid_ok m hvm.mb
  rw[valid_iff.2 hvm] at h8
  dsimp only at h3
  generalize fullF m m.cls.length []=P at *
  clear hmod hck hfok hseg hfle
  have hcase:∀ plan,FP m plan→∃ k:Int,0≤k∧k<prN m.cls∧caseF m.cls k=plan:=fun plan hp=>⟨_,(plan_case hp).1,(plan_case hp).2.1,(plan_case hp).2.2⟩
  generalize hpr:prN m.cls=pr at *
  repeat' (first|((first|((first|refine rr ?_|refine rre ?_|refine rb ?_|refine rbe ?_|refine ra ?_|refine rae ?_);intro K hK)|with_reducible refine gO ?_);simp (disch:=omega) only[Ac,↓Pc,simprocAttr])|(first|refine callK_pure (h4) rfl rfl ?_|refine callQ_pure (h4) rfl rfl ?_)|(refine hK _ ?_;clear hK K)|(with_reducible refine gS (fun hb'=>?_) (fun hb'=>?_)<;>(have hb:=hb';(try simp only[DEc,simprocAttr] at hb);simp (disch:=omega) only[Ac,↓Pc,simprocAttr,hb'];clear hb'))|(refine Wc (fun ht=>?_) (fun ht=>?_)<;>(try simp only[DEc,simprocAttr] at ht))|refine Wz rfl ?_|(refine Wb ?_;intro Qb hnb hxb heb)|(refine Wk ?_;intro Q hn he)|((first|refine hn _ ?_|refine he _ _ rfl ?_);clear hn he;try clear Q)|((first|refine hnb _ ?_|refine hxb _ ?_|refine heb _ _ rfl ?_);clear hnb hxb heb;try clear Qb)|(refine hel _ _ rfl ?_;clear hnl hel;try clear Ql)|(simp only[Qc,Kc,simprocAttr])|with_reducible refine And.intro ?_ ?_|omega|with_reducible rfl)
  refine W_loopS (fun z:Int × Int=>(⟨slots [(3,.taddr (eMdl m)),(4,.lit (.int .i64 z.2)),(5,.lit (.int .i64 z.1))],[]⟩:St)) (fun z=>(-1≤z.1∧z.1≤pr - 1)∧z.2≤1099511627776∧n≤z.2∧∀ k,z.1<k→k<pr→z.2≤totalL (rulesV m (caseF m.cls k)) 0) (fun z=>(z.1+1).toNat) (pr - 1,1099511627776) ⟨⟨by dsimp only;omega,Int.le_refl _⟩,Int.le_refl _,hn1,fun k h1 h2=>by dsimp only at h1;omega⟩ (by (refine Turns.slots _ _ rfl ?_;simp only[Tc,↓reduceIte,reduceEqDiff,Nat.reduceBEq,reduceAdd];try trivial)) ?_
  rintro ⟨z,v⟩ ⟨⟨hz0,hz1⟩,hv1,hv2,hv3⟩ Ql hnl hel
  dsimp only at hz0 hz1 hv1 hv2 hv3 ⊢
  by_cases hgo:0≤z
  · have h5:=caseF_ok m hvm hsome z hgo (by omega)
    have hfp:=caseF_fp hsome z
    have hlw:=hn2 _ hfp
    have hpl:=hfp.len
    have hstep:∀ k,z - 1<k→k<pr→min v (totalL (rulesV m (caseF m.cls z)) 0)≤totalL (rulesV m (caseF m.cls k)) 0:=fun k h1 h2=>by
      by_cases e:k=z
      · subst e;exact Int.min_le_right ..
      · have:=hv3 k (by omega) h2
        exact Int.le_trans (Int.min_le_left ..) this
    have h6:=refCost_ok m (caseF m.cls z) hvm.mb (by have:=hvm.cls;omega)
    rw[costT_ok hvm hfp.pm] at h6
    generalize totalL (rulesV m (caseF m.cls z)) 0=tot at *
    generalize caseF m.cls z=plan at *
    dsimp only at h6
    repeat' (first|((first|((first|refine rr ?_|refine rre ?_|refine rb ?_|refine rbe ?_|refine ra ?_|refine rae ?_);intro K hK)|with_reducible refine gO ?_);simp (disch:=omega) only[Ac,↓Pc,simprocAttr])|(first|refine callK_pure (h5) rfl rfl ?_|refine callQ_pure (h5) rfl rfl ?_)|(first|refine callK_pure (h6) rfl rfl ?_|refine callQ_pure (h6) rfl rfl ?_)|(refine hK _ ?_;clear hK K)|(with_reducible refine gS (fun hb'=>?_) (fun hb'=>?_)<;>(have hb:=hb';(try simp only[DEc,simprocAttr] at hb);simp (disch:=omega) only[Ac,↓Pc,simprocAttr,hb'];clear hb'))|(refine Wc (fun ht=>?_) (fun ht=>?_)<;>(try simp only[DEc,simprocAttr] at ht))|refine Wz rfl ?_|(refine Wb ?_;intro Qb hnb hxb heb)|(refine Wk ?_;intro Q hn he)|((first|refine hn _ ?_|refine he _ _ rfl ?_);clear hn he;try clear Q)|((first|refine hnb _ ?_|refine hxb _ ?_|refine heb _ _ rfl ?_);clear hnb hxb heb;try clear Qb)|(simp only[Qc,Kc,simprocAttr])|with_reducible refine And.intro ?_ ?_|omega|with_reducible rfl)
    all_goals try (exfalso;omega)
    exact hnl _ (z - 1,min v tot) ⟨⟨by dsimp only;omega,by dsimp only;omega⟩,by dsimp only;omega,by dsimp only;omega,hstep⟩ (by dsimp only;omega) (by (refine Turns.slots _ _ rfl ?_;simp only[Tc,↓reduceIte,reduceEqDiff,Nat.reduceBEq,reduceAdd];try trivial))
  · obtain rfl:z = -1:=by omega
    have hnv:n=v:=by
      have:=hn3 v hv1 fun plan hp=>by
        obtain ⟨k,k1,k2,rfl⟩:=hcase plan hp
        exact hv3 k (by omega) k2
      omega
    subst hnv
    repeat' (first|((first|((first|refine rr ?_|refine rre ?_);intro K hK)|with_reducible refine gO ?_);simp (disch:=omega) only[Ac,↓Pc,simprocAttr])|(refine hK _ ?_;clear hK K)|(with_reducible refine gS (fun hb'=>?_) (fun hb'=>?_)<;>(have hb:=hb';(try simp only[DEc,simprocAttr] at hb);simp (disch:=omega) only[Ac,↓Pc,simprocAttr,hb'];clear hb'))|(refine Wc (fun ht=>?_) (fun ht=>?_)<;>(try simp only[DEc,simprocAttr] at ht))|refine Wz rfl ?_|(refine Wb ?_;intro Qb hnb hxb heb)|(refine Wk ?_;intro Q hn he)|((first|refine hn _ ?_|refine he _ _ rfl ?_);clear hn he;try clear Q)|((first|refine hnb _ ?_|refine hxb _ ?_|refine heb _ _ rfl ?_);clear hnb hxb heb;try clear Qb)|(simp only[Qc,Kc,simprocAttr])|with_reducible refine And.intro ?_ ?_|omega|with_reducible rfl)
    all_goals try (exfalso;omega)
    refine hel _ _ rfl ?_;clear hnl hel Ql
    repeat (first|((first|refine hn _ ?_|refine he _ _ rfl ?_);clear hn he;try clear Q)|((first|refine hnb _ ?_|refine hxb _ ?_|refine heb _ _ rfl ?_);clear hnb hxb heb;try clear Qb)|(refine hel _ _ rfl ?_;clear hnl hel;try clear Ql))
    repeat' (first|((first|((first|refine rr ?_|refine rre ?_|refine rb ?_|refine rbe ?_|refine ra ?_|refine rae ?_);intro K hK)|with_reducible refine gO ?_);simp (disch:=omega) only[Ac,↓Pc,simprocAttr,beq_self_eq_true])|(first|refine callK_pure (hF) rfl rfl ?_|refine callQ_pure (hF) rfl rfl ?_)|(first|refine callK_pure (h3) rfl rfl ?_|refine callQ_pure (h3) rfl rfl ?_)|(first|refine callK_pure (awake21_ok) rfl rfl ?_|refine callQ_pure (awake21_ok) rfl rfl ?_)|(first|refine callK_pure (h8) rfl rfl ?_|refine callQ_pure (h8) rfl rfl ?_)|(refine hK _ ?_;clear hK K)|(with_reducible refine gS (fun hb'=>?_) (fun hb'=>?_)<;>(have hb:=hb';(try simp only[DEc,simprocAttr] at hb);simp (disch:=omega) only[Ac,↓Pc,simprocAttr,beq_self_eq_true,hb'];clear hb'))|(refine Wc (fun ht=>?_) (fun ht=>?_)<;>(try simp only[DEc,simprocAttr] at ht))|refine Wz rfl ?_|(refine Wb ?_;intro Qb hnb hxb heb)|(refine Wk ?_;intro Q hn he)|((first|refine hn _ ?_|refine he _ _ rfl ?_);clear hn he;try clear Q)|((first|refine hnb _ ?_|refine hxb _ ?_|refine heb _ _ rfl ?_);clear hnb hxb heb;try clear Qb)|(refine hel _ _ rfl ?_;clear hnl hel;try clear Ql)|(simp only[Qc,Kc,simprocAttr])|with_reducible refine And.intro ?_ ?_|omega|with_reducible rfl)
    all_goals try (exfalso;omega)
    exact RetOK_pure' rfl rfl
end T

