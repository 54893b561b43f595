import Derived.Test.YtdipcmigdbnheaaGreatX36
set_option linter.all false
set_option maxHeartbeats 0
set_option maxRecDepth 20000
open Bool renaming false_and→jR,true_and→eQ
open Nat renaming zero_le→aI,add_sub_cancel→Du,sub_self→hJ
open And renaming intro→eR
open Go Go.Am Go.Proofs
namespace T
structure CB(c:sV):Prop where
 jq:c.rules.length<9223372036854775808
 LW:c.qI.length<9223372036854775808
 row:∀ p∈c.qI,p.length<9223372036854775808
 qJ:PB c.nodes
def agp{m:aj}{l:List Int}(h:pf m l):cd l (-1)=l:=O2 λhx=>by have:=(h.2 _ hx).1;omega
def L1(m:aj)(hm:MB m)(c:sV)(hc:CB c)(hck:VM m->pf m c.rules->ao Tryz.prog 40 [.agg (aq (bN m c.rules)),.agg (aT c.nodes)] [] (.bJ [aaC (jx (bN m c.rules) c.nodes).1,.lit (.bool (jx (bN m c.rules) c.nodes).2)]) []):ao Tryz.prog 34 [.agg (aq m),.agg (mS c)] [] (.lit (.bool (wy m c))) []:=by
 have h1:=tV m hm;have cD:=hc.jq;have cu:=hc.LW;have ky:=hc.row;have bX:=hc.qJ;clear hc;obtain⟨R,P,S⟩:=c;generalize ak:wy m ⟨R,P,S⟩=res;unfold wy at ak;unfold mS;dsimp only at cD cu ky bX hck ak ⊢;by_cases hv:df m=0;rotate_left
 ·rw[decide_eq_false (λe=>hv e.1),jR]at ak;subst ak;generalize df m=e at *;refine ao.aD 128 0 [.tmp 4] Tryz.func34 ?_;((try revert hK K);(repeat'(first|refine Vd X0 h1 ?_|(refine V2 X0 ?_ ?_<;>try with_reducible intro hb)|(refine Xi ?_ ?_<;>try intro ht)|refine VD ?_ ?_|exact Xx|fail))<;>try with_reducible intro K hK)
  all_goals try(exfalso;omega)
  all_goals exact aE rfl rfl
 by_cases hlen:S.length=R.length;rotate_left
 ·rw[decide_eq_false (λe=>hlen e.2),jR]at ak;subst ak;rw[hv]at h1;refine ao.aD 128 0 [.tmp 4] Tryz.func34 ?_;((try revert hK K);(repeat'(first|refine Vd (X2 @bne_self_eq_false.{0} @ou) h1 ?_|(refine V2 (X2 @bne_self_eq_false.{0} @ou) ?_ ?_<;>try with_reducible intro hb)|(refine Xi ?_ ?_<;>try intro ht)|refine VD ?_ ?_|exact Xx|fail))<;>try with_reducible intro K hK)
  all_goals try(exfalso;omega)
  all_goals exact aE rfl rfl
 rw[decide_eq_true ⟨hv,hlen⟩,eQ]at ak;rw[hv]at h1;have bT:=eK.1 hv;refine ao.aD 128 0 [.tmp 4] Tryz.func34 ?_;((try revert hK K);(repeat'(first|refine Vc (X2 @bne_self_eq_false.{0} @ou) h1 ?_|(refine V2 (X2 @bne_self_eq_false.{0} @ou) ?_ ?_<;>try with_reducible intro hb)|(refine Xi ?_ ?_<;>try intro ht)|refine VD ?_ ?_|exact Xx|fail))<;>try with_reducible intro K hK)
 all_goals try(exfalso;omega)
 refine bY (aF.mR 2 0 (cells:=aq m) aau (by simp only[Kc,simprocAttr]) (by simp[aq])) ?_;refine bY (aF.mR 3 1 (cells:=mS ⟨R,P,S⟩) aau (by simp only[Kc,simprocAttr]) (by simp[mS])) ?_;unfold mS;dsimp only;generalize hF:my (nt m.rules R) R.length 0=fb at *;refine aM (λi:Nat=>(⟨aw [(2,.cq (aq m)),(3,.cq [.tree 1 (ints R),.tree 5 (rowsOf aG P),.tree 1 (ij S)]),(32,.tree 1 (ints R)),(33,aaC R.length),(34,aaC i)],[]⟩:St))
  (λi=>i<=R.length/\my (nt m.rules R) (R.length-i) i=fb) (λi=>R.length-i) 0 ⟨aI _,hF⟩ (Xs false [] @lI) ?_
 rintro i⟨hi,hf⟩Ql an ar;by_cases hi':i<R.length
 ·rw[show R.length-i=(R.length-(i+1))+1 by omega,my]at hf;by_cases ha:nt m.rules R i=true
  ·rw[ha,eQ]at hf;unfold nt at ha;rw[decide_eq_true_eq]at ha;obtain⟨a1,a2,a3⟩:=ha;cases i with
   |zero =>
    generalize aS:R.getD 0 0=n at *;((try revert hK K);(repeat'(first|refine Va @aS ?_|(refine V2 @aS ?_ ?_<;>try with_reducible intro hb)|(refine Xi ?_ ?_<;>try intro ht)|refine VD ?_ ?_|exact Xx|fail))<;>try with_reducible intro K hK)
    all_goals try(exfalso;omega)
    all_goals exact an _ 1 ⟨GC,hf⟩ GC (Xv X0)
   |succ j =>
    have qF:((j+1:Nat):Int)-1=(j:Nat):=GC;rw[Du]at a3;generalize aS:R.getD (j+1) 0=n at *;generalize gw:R.getD j 0=y at *;((try revert hK K);(repeat'(first|refine Va (X3 @aS @gw @qF) ?_|(refine V2 (X3 @aS @gw @qF) ?_ ?_<;>try with_reducible intro hb)|(refine Xi ?_ ?_<;>try intro ht)|refine VD ?_ ?_|exact Xx|fail))<;>try with_reducible intro K hK)
    all_goals try(exfalso;omega)
    all_goals exact an _ (j+1+1) ⟨GC,hf⟩ GC (Xv X0)
  ·rw[show nt m.rules R i=false by simpa using ha,jR]at hf;subst hf;rw[jR]at ak;subst ak;unfold nt at ha;rw[decide_eq_true_eq]at ha;cases i with
   |zero =>
    generalize aS:R.getD 0 0=n at *;((try revert hK K);(repeat'(first|refine Va @aS ?_|(refine V2 @aS ?_ ?_<;>try with_reducible intro hb)|(refine Xi ?_ ?_<;>try intro ht)|refine VD ?_ ?_|exact Xx|fail))<;>try with_reducible intro K hK)
    all_goals try(exfalso;omega)
    all_goals
     repeat(first|refine Xu ?_|(refine bd _ _ rfl ?_;clear ba bd;try clear cJ)|(refine eV _ _ rfl ?_;clear fQ eV;try clear lB)|(refine nx _ _ rfl ?_;clear zO nx;try clear Bg))
     ((try revert hK K);(repeat'(first|refine Vb X0 ?_|(refine V2 X0 ?_ ?_<;>try with_reducible intro hb)|(refine Xi ?_ ?_<;>try intro ht)|refine VD ?_ ?_|exact Xx|fail))<;>try with_reducible intro K hK)
     exact aE rfl rfl
   |succ j =>
    have qF:((j+1:Nat):Int)-1=(j:Nat):=GC;rw[Du]at ha;generalize aS:R.getD (j+1) 0=n at *;generalize gw:R.getD j 0=y at *;((try revert hK K);(repeat'(first|refine Va (X3 @aS @gw @qF) ?_|(refine V2 (X3 @aS @gw @qF) ?_ ?_<;>try with_reducible intro hb)|(refine Xi ?_ ?_<;>try intro ht)|refine VD ?_ ?_|exact Xx|fail))<;>try with_reducible intro K hK)
    all_goals try(exfalso;omega)
    all_goals
     repeat(first|refine Xu ?_|(refine bd _ _ rfl ?_;clear ba bd;try clear cJ)|(refine eV _ _ rfl ?_;clear fQ eV;try clear lB)|(refine nx _ _ rfl ?_;clear zO nx;try clear Bg))
     ((try revert hK K);(repeat'(first|refine Vb X0 ?_|(refine V2 X0 ?_ ?_<;>try with_reducible intro hb)|(refine Xi ?_ ?_<;>try intro ht)|refine VD ?_ ?_|exact Xx|fail))<;>try with_reducible intro K hK)
     exact aE rfl rfl
 ·obtain rfl:i=R.length:=GC;rw[hJ]at hf;subst hf;rw[my,eQ]at ak;have oI:=UR bT (hF.trans rfl);have bm:=Me m bT R oI;have mT:=Mf m bT R;have oz:VM (bN m R):=xQ bT R;have ek:=hck bT oI;unfold EJ at ak;dsimp only at ak;generalize hq:jx (bN m R) P=q at *;obtain⟨bn,ok⟩:=q;generalize bN m R=r at *;generalize il m.rules R=kb at *;repeat'(first|((fail_if_success (first|refine eT 10 ?_|refine eU 10 ?_));refine Xr X0 ?_;intro K hK)|refine Xo X0 ?_|(refine hK _ ?_;clear hK K)|(refine Xg X0 ?_ ?_<;>try intro hb)|(refine Xi ?_ ?_<;>try intro ht)|refine Xy ?_|refine Xd ?_ ?_|exact Xx|fail)
  refine ar _ _ rfl ?_;clear an ar Ql;repeat(first|refine Xu ?_)
  repeat'(first|((fail_if_success (first|refine eT 10 ?_|refine eU 10 ?_));refine Xr X0 ?_;intro K hK)|refine Xo X0 ?_|(refine hK _ ?_;clear hK K)|(refine Xg X0 ?_ ?_<;>try intro hb)|(refine Xi ?_ ?_<;>try intro ht)|refine Xy ?_|refine Xd ?_ ?_|exact Xx|fail)
  refine kv [0,2,3,4] (.take 0 (.take 1 (.take 2 (.take 3 (.take 4 (.take 5 (.take 6 (.take 7 (.take 8 (.take 9 (.take 10 .nil))))))))))) rfl Px (by decide +kernel) ?_;simp(disch:=omega)only[Ac,↓Pc,simprocAttr,Pw,↓Lq,aq];repeat'(first|with_reducible refine eR ?_ ?_|omega|with_reducible rfl)
  refine bZ bm rfl rfl ?_;simp(disch:=omega)only[Ac,↓Pc,simprocAttr,Pw,↓Lq,aq];repeat'(first|with_reducible refine eR ?_ ?_|omega|with_reducible rfl)
  refine bZ mT rfl rfl ?_;simp(disch:=omega)only[Ac,↓Pc,simprocAttr,Pw,↓Lq,aq];repeat'(first|with_reducible refine eR ?_ ?_|omega|with_reducible rfl)
  repeat(first|refine Xu ?_)
  clear bm mT;by_cases pj:(bn,ok)=(1099511627776,true);rotate_left
  ·rw[decide_eq_false pj,jR]at ak;subst ak;have Mb:ok=true->bn≠1099511627776:=λe e'=>pj (by rw[e,e']);cases ok with
   |false =>
    ((try revert hK K);(repeat'(first|refine Vd X0 ek ?_|(refine V2 X0 ?_ ?_<;>try with_reducible intro hb)|(refine Xi ?_ ?_<;>try intro ht)|refine VD ?_ ?_|exact Xx|fail))<;>try with_reducible intro K hK)
    all_goals try(exfalso;omega)
    all_goals exact aE rfl rfl
   |true =>
    have agt:=Mb rfl;((try revert hK K);(repeat'(first|refine Vd X0 ek ?_|(refine V2 X0 ?_ ?_<;>try with_reducible intro hb)|(refine Xi ?_ ?_<;>try intro ht)|refine VD ?_ ?_|exact Xx|fail))<;>try with_reducible intro K hK)
    all_goals try(exfalso;omega)
    all_goals exact aE rfl rfl
  rw[decide_eq_true pj,eQ]at ak;obtain⟨rfl,rfl⟩:bn=1099511627776/\ok=true:=⟨congrArg Prod.fst pj,congrArg Prod.snd pj⟩;((try revert hK K);(repeat'(first|refine Vc @bne_self_eq_false.{0} ek ?_|(refine V2 @bne_self_eq_false.{0} ?_ ?_<;>try with_reducible intro hb)|(refine Xi ?_ ?_<;>try intro ht)|refine VD ?_ ?_|exact Xx|fail))<;>try with_reducible intro K hK)
  all_goals try(exfalso;omega)
  clear ek pj;clear hi' hi oz hq;refine aM (λi:Nat=>(⟨aw [(2,.cq (aq m)),(3,.cq [.tree 1 (ints R),.tree 5 (rowsOf aG P),.tree 1 (ij S)]),(7,.tree 1 (ints R)),(85,.tree 1 (ints R)),(86,aaC R.length),(87,aaC i)],[]⟩:St))
   (λi=>i<=R.length/\my (AM m ⟨R,P,S⟩) (R.length-i) i=res) (λi=>R.length-i) 0 ⟨aI _,ak⟩ (Xs false [] X0) ?_
  clear ak;rintro i⟨hi,hf⟩Ql an ar;by_cases hi':i<R.length
  ·rw[show R.length-i=(R.length-(i+1))+1 by omega,my]at hf;have bq:=ky _ (ay (d:=(default:List Int)) (show i<S.length by omega));have EK:(S.getD i []).length<9223372036854775808:=bq;have fi:=aiV m (S.getD i []) bT.mb EK;have ve:=oI.cd (R.getD i 0);have hw:=LV R (R.getD i 0) oI.1;have bm:=Me m bT _ ve;have mT:=Mf m bT (cd R (R.getD i 0));have oz:VM (bN m (cd R (R.getD i 0))):=xQ bT _;have kR:=U4 (bN m (cd R (R.getD i 0))) (S.getD i []) oz.mb EK;unfold AM at hf;dsimp only at hf;rw[show S.getD i default=S.getD i [] from rfl]at hf;generalize aS:R.getD i 0=n at *;generalize gw:S.getD i []=pl at *;generalize pg m pl=ce at *;generalize hq:ph (bN m (cd R n)) pl=q at *;obtain⟨bA,rs,er⟩:=q;clear hq oz bq;generalize bN m (cd R n)=r2 at *;generalize il m.rules (cd R n)=kb2 at *;generalize cd R n=lw at *;dsimp only at hf kR;repeat'(first|((fail_if_success (first|refine eT 17 ?_|refine eU 17 ?_));refine Xr @aS ?_;intro K hK)|refine Xo @aS ?_|(refine hK _ ?_;clear hK K)|(refine Xg @aS ?_ ?_<;>try intro hb)|(refine Xi ?_ ?_<;>try intro ht)|refine Xy ?_|refine Xd ?_ ?_|exact Xx|fail)
   refine kv [0,2,5,6] (.take 0 (.take 1 (.take 2 (.take 3 (.take 4 (.take 5 (.take 6 (.take 7 .nil)))))))) rfl Px (by decide +kernel) ?_;simp(disch:=omega)only[Ac,↓Pc,simprocAttr,Pw,↓Lq,aq,gw,ou];repeat'(first|with_reducible refine eR ?_ ?_|omega|with_reducible rfl)
   refine bZ fi rfl rfl ?_;simp(disch:=omega)only[Ac,↓Pc,simprocAttr,Pw,↓Lq,aq];repeat'(first|with_reducible refine eR ?_ ?_|omega|with_reducible rfl)
   repeat(first|refine Xu ?_)
   clear fi;by_cases EL:ce=0;rotate_left
   ·rw[decide_eq_false (λe=>EL e.1),jR]at hf;subst hf;((try revert hK K);(repeat'(first|refine Va X0 ?_|(refine V2 X0 ?_ ?_<;>try with_reducible intro hb)|(refine Xi ?_ ?_<;>try intro ht)|refine VD ?_ ?_|exact Xx|fail))<;>try with_reducible intro K hK)
    all_goals try(exfalso;omega)
    all_goals
     repeat(first|refine Xu ?_|(refine bd _ _ rfl ?_;clear ba bd;try clear cJ)|(refine eV _ _ rfl ?_;clear fQ eV;try clear lB)|(refine nx _ _ rfl ?_;clear zO nx;try clear Bg))
     ((try revert hK K);(repeat'(first|refine Vb X0 ?_|(refine V2 X0 ?_ ?_<;>try with_reducible intro hb)|(refine Xi ?_ ?_<;>try intro ht)|refine VD ?_ ?_|exact Xx|fail))<;>try with_reducible intro K hK)
     exact aE rfl rfl
   subst EL;repeat'(first|((fail_if_success (first|refine eT 19 ?_|refine eU 19 ?_));refine Xr @bne_self_eq_false.{0} ?_;intro K hK)|refine Xo @bne_self_eq_false.{0} ?_|(refine hK _ ?_;clear hK K)|(refine Xg @bne_self_eq_false.{0} ?_ ?_<;>try intro hb)|(refine Xi ?_ ?_<;>try intro ht)|refine Xy ?_|refine Xd ?_ ?_|exact Xx|fail)
   all_goals try(exfalso;omega)
   refine kv [0,3,4,5,6] (.take 0 (.take 1 (.take 2 (.take 3 (.take 4 (.take 5 (.take 6 (.take 7 (.take 8 (.take 9 (.take 10 (.take 11 (.take 12 .nil))))))))))))) rfl Px (by decide +kernel) ?_;simp(disch:=omega)only[Ac,↓Pc,simprocAttr,Pw,↓Lq,aq];repeat'(first|with_reducible refine eR ?_ ?_|omega|with_reducible rfl)
   refine bZ hw rfl rfl ?_;simp(disch:=omega)only[Ac,↓Pc,simprocAttr,Pw,↓Lq,aq];repeat'(first|with_reducible refine eR ?_ ?_|omega|with_reducible rfl)
   refine bZ bm rfl rfl ?_;simp(disch:=omega)only[Ac,↓Pc,simprocAttr,Pw,↓Lq,aq];repeat'(first|with_reducible refine eR ?_ ?_|omega|with_reducible rfl)
   refine bZ mT rfl rfl ?_;simp(disch:=omega)only[Ac,↓Pc,simprocAttr,Pw,↓Lq,aq];repeat'(first|with_reducible refine eR ?_ ?_|omega|with_reducible rfl)
   repeat(first|refine Xu ?_)
   clear hw bm mT;refine bY (aF.mR 14 0 (cells:=aq r2) aau (by simp only[Kc,simprocAttr]) (by simp[aq])) ?_;repeat'(first|((fail_if_success (first|refine eT 20 ?_|refine eU 20 ?_));refine Xr X0 ?_;intro K hK)|refine Xo X0 ?_|(refine hK _ ?_;clear hK K)|(refine Xg X0 ?_ ?_<;>try intro hb)|(refine Xi ?_ ?_<;>try intro ht)|refine Xy ?_|refine Xd ?_ ?_|exact Xx|fail)
   refine kv [0,2,5,6] (.take 0 (.take 1 (.take 2 (.take 3 (.take 4 (.take 5 (.take 6 (.take 7 (.take 8 (.take 9 (.take 10 (.take 11 (.take 12 (.take 13 .nil)))))))))))))) rfl Px (by decide +kernel) ?_;simp(disch:=omega)only[Ac,↓Pc,simprocAttr,Pw,↓Lq,aq,gw,ou];repeat'(first|with_reducible refine eR ?_ ?_|omega|with_reducible rfl)
   refine bZ kR rfl rfl ?_;simp(disch:=omega)only[Ac,↓Pc,simprocAttr,Pw,↓Lq,aq];repeat'(first|with_reducible refine eR ?_ ?_|omega|with_reducible rfl)
   repeat(first|refine Xu ?_)
   clear kR;by_cases ax:er=0/\bA<1099511627776
   ·rw[decide_eq_true ⟨rfl,ax⟩,eQ]at hf;obtain⟨rfl,ax⟩:=ax;((try revert hK K);(repeat'(first|refine Va @bne_self_eq_false.{0} ?_|(refine V2 @bne_self_eq_false.{0} ?_ ?_<;>try with_reducible intro hb)|(refine Xi ?_ ?_<;>try intro ht)|refine VD ?_ ?_|exact Xx|fail))<;>try with_reducible intro K hK)
    all_goals try(exfalso;omega)
    all_goals exact an _ (i+1) ⟨GC,hf⟩ GC (Xs false [] X0)
   ·rw[decide_eq_false (λe=>ax e.2),jR]at hf;subst hf;by_cases her:er=0
    ·subst her;((try revert hK K);(repeat'(first|refine Va @bne_self_eq_false.{0} ?_|(refine V2 @bne_self_eq_false.{0} ?_ ?_<;>try with_reducible intro hb)|(refine Xi ?_ ?_<;>try intro ht)|refine VD ?_ ?_|exact Xx|fail))<;>try with_reducible intro K hK)
     all_goals try(exfalso;omega)
     all_goals
      repeat(first|refine Xu ?_|(refine bd _ _ rfl ?_;clear ba bd;try clear cJ)|(refine eV _ _ rfl ?_;clear fQ eV;try clear lB)|(refine nx _ _ rfl ?_;clear zO nx;try clear Bg))
      ((try revert hK K);(repeat'(first|refine Vb X0 ?_|(refine V2 X0 ?_ ?_<;>try with_reducible intro hb)|(refine Xi ?_ ?_<;>try intro ht)|refine VD ?_ ?_|exact Xx|fail))<;>try with_reducible intro K hK)
      exact aE rfl rfl
    ·((try revert hK K);(repeat'(first|refine Va X0 ?_|(refine V2 X0 ?_ ?_<;>try with_reducible intro hb)|(refine Xi ?_ ?_<;>try intro ht)|refine VD ?_ ?_|exact Xx|fail))<;>try with_reducible intro K hK)
     all_goals try(exfalso;omega)
     all_goals
      repeat(first|refine Xu ?_|(refine bd _ _ rfl ?_;clear ba bd;try clear cJ)|(refine eV _ _ rfl ?_;clear fQ eV;try clear lB)|(refine nx _ _ rfl ?_;clear zO nx;try clear Bg))
      ((try revert hK K);(repeat'(first|refine Vb X0 ?_|(refine V2 X0 ?_ ?_<;>try with_reducible intro hb)|(refine Xi ?_ ?_<;>try intro ht)|refine VD ?_ ?_|exact Xx|fail))<;>try with_reducible intro K hK)
      exact aE rfl rfl
  ·obtain rfl:i=R.length:=GC;rw[hJ,my]at hf;subst hf;((try revert hK K);(repeat'(first|refine Va X0 ?_|(refine V2 X0 ?_ ?_<;>try with_reducible intro hb)|(refine Xi ?_ ?_<;>try intro ht)|refine VD ?_ ?_|exact Xx|fail))<;>try with_reducible intro K hK)
   refine ar _ _ rfl ?_;clear an ar Ql;repeat(first|refine Xu ?_)
   ((try revert hK K);(repeat'(first|refine Vb X0 ?_|(refine V2 X0 ?_ ?_<;>try with_reducible intro hb)|(refine Xi ?_ ?_<;>try intro ht)|refine VD ?_ ?_|exact Xx|fail))<;>try with_reducible intro K hK)
   exact aE rfl rfl
end T

