import Derived.Test.YtafhoboejkcmiaaX50
import Derived.Test.YtafhoboejkcmiaaX46
import Derived.Test.YtafhoboejkcmiaaX13
import Derived.Test.YtafhoboejkcmiaaX51
import Derived.Test.YtafhoboejkcmiaaX52
set_option linter.unusedVariables false
set_option linter.unusedSimpArgs false
set_option linter.unnecessarySimpa false
set_option linter.unusedSectionVars false
set_option maxHeartbeats 64000000
set_option maxRecDepth 20000
open Go Go.Am Go.Proofs
open Nat (reduceEqDiff reduceAdd reduceLeDiff reduceMul)
open Int (reduceNeg reduceLE reduceToNat)
namespace T
theorem wf_u8c {n:Int} (h:(Lit.int .u8 n).wf=true):0≤n∧n<256:=by
  simp[Lit.wf,IntKind.min,IntKind.max,IntKind.signed,IntKind.bits] at h
  omega
theorem bldR_len {m:Mdl}:∀ (k:Nat) (s:BS),PM m s.plan→s.best.length=m.cls.length→missV s.best≤missV s.plan→(bldR m k s).length=m.cls.length
  | 0,s,_,h,_=>h
  | k+1,s,hp,h,hb=>by
    rw[bldR]
    split
    · exact h
    · rename_i hc
      obtain ⟨g1,_,_⟩:=step_pm (m:=m) hp (by omega)
      obtain ⟨g4,g5⟩:=step_best2 (m:=m) hb
      refine bldR_len k _ g1 ?_ g5
      rw[g4]
      split
      · exact g1.len
      · exact h
theorem buildV_len (m:Mdl) (n:Nat):(buildV m n).length=m.cls.length:=bldR_len n _ (satV_pm m) (satV_pm m).len (Int.le_refl _)
theorem missV_cons (x:Int) (r:List Int):missV (x::r)=missV r+if x<0 then 1 else 0:=by
  unfold missV
  rw[List.countP_cons]
  by_cases h:x<0
  · rw[if_pos h,if_pos (decide_eq_true h)];rfl
  · rw[if_neg h,if_neg (by simpa using h)];rfl
theorem u8min:IntKind.u8.min=0:=rfl
theorem u8max:IntKind.u8.max=255:=rfl
theorem more_law26 (tape:List Int) (a b:Int) (ha:0≤a∧a<256) (hb:0≤b∧b<256):Holds Try.prog 7 [.tree 1 (ints tape),.lit (.int .u8 a),.lit (.int .u8 b)] [] (.lit (.bool true)) []:=by
  refine Holds.of_body' (fn:=Try.f7) 138 0 [.tmp 6] Try.func7 rfl rfl rfl rfl rfl (by simp) ?_
  repeat' (first|((fail_if_success (first|refine W_at 3 ?_|refine W_atE 3 ?_));refine Xq X0 ?_;intro K hK)|refine Xo X0 ?_|refine Xc (light_ok _) ?_|refine Xc (awake26_ok) ?_|(refine hK _ ?_;clear hK K)|(refine Xg X0 ?_ ?_<;>try intro hb)|(refine Xi ?_ ?_<;>try intro ht)|refine XY ?_|refine Xd ?_ ?_|exact Xx|fail)
  · exact RetOK_pure' rfl rfl
  have hL:tape.length<1000000:=by omega
  have hmod:=model_ok tape 0 5 3 (Nat.zero_le _) hL (by decide) (by decide) (by decide)
  refine W_region_ce 2 (by decide) _ rfl ?_
  intro K hK
  simp (disch:=omega) only[Ac,↓Pc,simprocAttr,List.take,List.drop]
  (refine Xn [] (roll_ok tape) ?_;simp (disch:=omega) only[Ac,↓Pc,simprocAttr])
  unfold dice at hmod
  refine⟨rfl,(show callKR Try.prog 19 [.ptr 0 0 0,.lit (.int .i64 (5:Nat)),.lit (.int .i64 (3:Nat))] (some 26) _ _ from ?_)⟩
  refine callKR_sel [0] hmod (by decide) ⟨rfl,trivial⟩ ⟨.eq rfl,.pure rfl,.pure rfl,trivial⟩ ?_
  rintro r os ⟨m,k,hm,hk,rfl,rfl⟩
  simp (disch:=omega) only[Ac,↓Pc,simprocAttr]
  refine hK _ ?_;clear hK K
  repeat (first|refine Xu ?_)
  refine W_turn (Turns.frzP 7 1 (cells:=eMdl m) (by rfl) (by simp only[Kc,simprocAttr]) (by simp[eMdl])) ?_
  refine W_turn (σ':=⟨slots [(1,.lit (.int .u8 a)),(2,.lit (.int .u8 b)),(7,.taddr (eMdl m))],[]⟩) (Xs false [] X0) ?_
  clear hmod hk k hL
  have hv:=hm.vm
  have hv0:=valid_iff.2 hv
  have hmn:0≤min a b∧min a b<256:=by omega
  have hmx:0≤max a b∧max a b<256:=by omega
  generalize hmn':min a b=mn at *
  generalize hmx':max a b=mx at *
  have r1:mn.tmod 12=mn % 12:=Int.tmod_eq_emod_of_nonneg hmn.1
  have r2:mx.tmod 24=mx % 24:=Int.tmod_eq_emod_of_nonneg hmx.1
  obtain ⟨f,hf⟩ :∃f:Nat,mn % 12=f:=⟨(mn % 12).toNat,by omega⟩
  obtain ⟨g,hg⟩ :∃g:Nat,mx % 24=g:=⟨(mx % 24).toNat,by omega⟩
  repeat' (first|((fail_if_success (first|refine W_at 5 ?_|refine W_atE 5 ?_));refine Xr (X5 @u8min @u8max @hmn' @hmx' (X4 @r1 @r2 @hf @hg)) ?_;intro K hK)|refine Xo (X5 @u8min @u8max @hmn' @hmx' (X4 @r1 @r2 @hf @hg)) ?_|(refine hK _ ?_;clear hK K)|(refine Xg (X5 @u8min @u8max @hmn' @hmx' (X4 @r1 @r2 @hf @hg)) ?_ ?_<;>try intro hb)|(refine Xi ?_ ?_<;>try intro ht)|refine XY ?_|refine Xd ?_ ?_|exact Xx|fail)
  all_goals try (exfalso;omega)
  by_cases hfg:(g:Int)<f
  · ((try revert hK K);(repeat' (first|refine Vd (X4 @u8min @u8max @r2 @hg) awake26_ok ?_|(refine V2 (X4 @u8min @u8max @r2 @hg) ?_ ?_<;>try with_reducible intro hb)|(refine Xi ?_ ?_<;>try intro ht)|refine VD ?_ ?_|exact Xx|fail))<;>try with_reducible intro K hK)
    all_goals try (exfalso;omega)
    exact RetOK_pure' rfl rfl
  have h1:=Build_ok m hv.mb f
  have h2:=Build_ok m hv.mb g
  have h3:=Saturate_ok m hv.mb
  unfold buildT at h1 h2
  unfold satT at h3
  rw[if_neg (by omega),if_neg (by omega),Int.toNat_natCast] at h1 h2
  rw[if_neg (by omega)] at h3
  obtain ⟨l1,l2,l3⟩:=more_law m (a:=f) (b:=g) (by omega)
  have e1:=buildV_len m f
  have e2:=buildV_len m g
  have e3:=(satV_pm m).len
  have hc24:=hv.cls
  have h4:=same_ok (buildV m g) (satV m) (by omega)
  generalize buildV m f=p at *
  generalize buildV m g=q at *
  generalize satV m=s at *
  dsimp only at h1 h2 h3
  have cv1:∀ f:Nat,(f:Int)<256→IntKind.i64.wrap (f:Int)=f:=fun f hf=>wrap_in (by show -9223372036854775808≤_∧_≤(9223372036854775807:Int);omega)
  have wf:=cv1 f (by omega)
  have wg:=cv1 g (by omega)
  ((try revert hK K);(repeat' (first|refine Vd (X5 @u8min @u8max @r2 @hg (X4 @wf @wg @Option.isSome_some.{0} @bne_self_eq_false.{0})) (X3 h1 h2 h3) ?_|(refine V2 (X5 @u8min @u8max @r2 @hg (X4 @wf @wg @Option.isSome_some.{0} @bne_self_eq_false.{0})) ?_ ?_<;>try with_reducible intro hb)|(refine Xi ?_ ?_<;>try intro ht)|refine VD ?_ ?_|exact Xx|fail))<;>try with_reducible intro K hK)
  all_goals try (exfalso;omega)
  refine W_loopS (fun z:Nat × Int × Int × Int=>(⟨slots [(10,.tree 1 (ints p)),(12,.tree 1 (ints q)),(14,.tree 1 (ints s)),(16,.lit (.int .i64 z.2.1)),(17,.lit (.int .i64 z.2.2.1)),(18,.lit (.int .i64 z.2.2.2)),(19,.lit (.int .i64 z.1))],[]⟩:St))
    (fun z=>z.1≤p.length∧(0≤z.2.1∧z.2.1≤z.1)∧(0≤z.2.2.1∧z.2.2.1≤z.1)∧(0≤z.2.2.2∧z.2.2.2≤z.1)∧z.2.1+missV (p.drop z.1)=missV p∧z.2.2.1+missV (q.drop z.1)=missV q∧z.2.2.2+missV (s.drop z.1)=missV s) (fun z=>p.length - z.1) (0,0,0,0)
    ⟨Nat.zero_le _,⟨Int.le_refl _,Int.le_refl _⟩,⟨Int.le_refl _,Int.le_refl _⟩,⟨Int.le_refl _,Int.le_refl _⟩,Int.zero_add _,Int.zero_add _,Int.zero_add _⟩ (Xv X0) ?_
  rintro ⟨i,x,y,z⟩ ⟨hi,hx,hy,hz,hp,hq,hs⟩ Ql hnl hel
  dsimp only at hi hx hy hz hp hq hs ⊢
  by_cases hi':i<p.length
  · rw[getD_drop0 p i 0 hi',missV_cons] at hp
    rw[getD_drop0 q i 0 (by omega),missV_cons] at hq
    rw[getD_drop0 s i 0 (by omega),missV_cons] at hs
    generalize hpi:p.getD i 0=pi at *
    generalize hqi:q.getD i 0=qi at *
    generalize hsi:s.getD i 0=si at *
    ((try revert hK K);(repeat' (first|refine Va (X3 @hpi @hqi @hsi) ?_|(refine V2 (X3 @hpi @hqi @hsi) ?_ ?_<;>try with_reducible intro hb)|(refine Xi ?_ ?_<;>try intro ht)|refine VD ?_ ?_|exact Xx|fail))<;>try with_reducible intro K hK)
    all_goals try (exfalso;omega)
    all_goals
      first|rw[if_pos (by assumption)] at hp|rw[if_neg (by omega)] at hp
      first|rw[if_pos (by assumption)] at hq|rw[if_neg (by omega)] at hq
      first|rw[if_pos (by assumption)] at hs|rw[if_neg (by omega)] at hs
      refine hnl _ (i+1,_,_,_) ⟨by dsimp only;omega,?_,?_,?_,?_,?_,?_⟩ (by dsimp only;omega) (Xv X0)
      all_goals (dsimp only;omega)
  · rw[List.drop_eq_nil_of_le (by omega)] at hp hq hs
    have hm0:missV []=0:=rfl
    rw[hm0,Int.add_zero] at hp hq hs
    ((try revert hK K);(repeat' (first|refine Va X0 ?_|(refine V2 X0 ?_ ?_<;>try with_reducible intro hb)|(refine Xi ?_ ?_<;>try intro ht)|refine VD ?_ ?_|exact Xx|fail))<;>try with_reducible intro K hK)
    refine hel _ _ rfl ?_;clear hnl hel Ql
    repeat (first|refine Xu ?_)
    by_cases hz0:missV s=0
    · have hqs:=l3 hz0
      rw[hqs,decide_eq_true rfl] at h4
      subst hqs
      ((try revert hK K);(repeat' (first|refine Vd X0 (X2 h4 awake26_ok) ?_|(refine V2 X0 ?_ ?_<;>try with_reducible intro hb)|(refine Xi ?_ ?_<;>try intro ht)|refine VD ?_ ?_|exact Xx|fail))<;>try with_reducible intro K hK)
      all_goals try (exfalso;omega)
      all_goals exact RetOK_pure' rfl rfl
    · have:=h4
      ((try revert hK K);(repeat' (first|refine Vd X0 awake26_ok ?_|(refine V2 X0 ?_ ?_<;>try with_reducible intro hb)|(refine Xi ?_ ?_<;>try intro ht)|refine VD ?_ ?_|exact Xx|fail))<;>try with_reducible intro K hK)
      all_goals try (exfalso;omega)
      all_goals exact RetOK_pure' rfl rfl
end T

