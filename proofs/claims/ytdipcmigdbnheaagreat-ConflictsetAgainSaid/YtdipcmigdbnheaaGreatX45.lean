import Derived.Test.YtdipcmigdbnheaaGreatX44
set_option linter.all false
set_option maxHeartbeats 0
set_option maxRecDepth 20000
open Bool renaming false_and→lY,true_and→iq
open Nat renaming zero_le→aQ,add_sub_cancel→EF,sub_self→lV
open And renaming intro→gB
open Go Go.Am Go.Proofs
namespace T
structure CB(c:tB):Prop where
 iS:c.rules.length<9223372036854775808
 Y0:c.tC.length<9223372036854775808
 row:∀ p∈c.tC,p.length<9223372036854775808
 wF:PB c.nodes
def Nu(m:aj)(hm:MB m)(c:tB)(hc:CB c)(Nz:VM m->pZ m c.rules->an Tryz.prog 40 [.agg (av (bA m c.rules)),.agg (cA c.nodes)] [] (.bO [aa3 (lL (bA m c.rules) c.nodes).1,.lit (.bool (lL (bA m c.rules) c.nodes).2)]) []):an Tryz.prog 34 [.agg (av m),.agg (qZ c)] [] (.lit (.bool (yg m c))) []:=by
 have h1:=p5 m hm;have cD:=hc.iS;have cE:=hc.Y0;have mL:=hc.row;have cu:=hc.wF;clear hc;obtain⟨R,P,S⟩:=c;generalize ao:yg m ⟨R,P,S⟩=res;unfold yg at ao;unfold qZ;dsimp only at cD cE mL cu Nz ao ⊢;by_cases hv:eJ m=0;rotate_left
 ·rw[decide_eq_false (λe=>hv e.1),lY]at ao;subst ao;generalize eJ m=e at *;refine an.aF 128 0 [.tmp 4] Tryz.func34 ?_;((try revert hK K);(repeat'(first|refine Vd X0 h1 ?_|(refine V2 X0 ?_ ?_<;>try with_reducible intro hb)|(refine Xi ?_ ?_<;>try intro ht)|refine VD ?_ ?_|exact Xx|fail))<;>try with_reducible intro K hK)
  all_goals try(exfalso;omega)
  all_goals exact aO rfl rfl
 by_cases hlen:S.length=R.length;rotate_left
 ·rw[decide_eq_false (λe=>hlen e.2),lY]at ao;subst ao;rw[hv]at h1;refine an.aF 128 0 [.tmp 4] Tryz.func34 ?_;((try revert hK K);(repeat'(first|refine Vd (X2 @bne_self_eq_false.{0} @pN) h1 ?_|(refine V2 (X2 @bne_self_eq_false.{0} @pN) ?_ ?_<;>try with_reducible intro hb)|(refine Xi ?_ ?_<;>try intro ht)|refine VD ?_ ?_|exact Xx|fail))<;>try with_reducible intro K hK)
  all_goals try(exfalso;omega)
  all_goals exact aO rfl rfl
 rw[decide_eq_true ⟨hv,hlen⟩,iq]at ao;rw[hv]at h1;have dH:=fc.1 hv;refine an.aF 128 0 [.tmp 4] Tryz.func34 ?_;((try revert hK K);(repeat'(first|refine Vc (X2 @bne_self_eq_false.{0} @pN) h1 ?_|(refine V2 (X2 @bne_self_eq_false.{0} @pN) ?_ ?_<;>try with_reducible intro hb)|(refine Xi ?_ ?_<;>try intro ht)|refine VD ?_ ?_|exact Xx|fail))<;>try with_reducible intro K hK)
 all_goals try(exfalso;omega)
 refine bP (aB.oo 2 0 (cells:=av m) aa2 (by simp only[Kc,simprocAttr]) (by simp[av])) ?_;refine bP (aB.oo 3 1 (cells:=qZ ⟨R,P,S⟩) aa2 (by simp only[Kc,simprocAttr]) (by simp[qZ])) ?_;unfold qZ;dsimp only;generalize hF:nH (ov m.rules R) R.length 0=fb at *;refine aW (λi:Nat=>(⟨ax [(2,.cq (av m)),(3,.cq [.tree 1 (ints R),.tree 5 (rowsOf cN P),.tree 1 (fF S)]),(32,.tree 1 (ints R)),(33,aa3 R.length),(34,aa3 i)],[]⟩:St))
  (λi=>i<=R.length/\nH (ov m.rules R) (R.length-i) i=fb) (λi=>R.length-i) 0 ⟨aQ _,hF⟩ (Xs false [] @ni) ?_
 rintro i⟨hi,hf⟩Ql aq au;by_cases hi':i<R.length
 ·rw[show R.length-i=(R.length-(i+1))+1 by omega,nH]at hf;by_cases ha:ov m.rules R i=true
  ·rw[ha,iq]at hf;unfold ov at ha;rw[decide_eq_true_eq]at ha;obtain⟨a1,a2,a3⟩:=ha;cases i with
   |zero =>
    generalize bG:R.getD 0 0=n at *;((try revert hK K);(repeat'(first|refine Va @bG ?_|(refine V2 @bG ?_ ?_<;>try with_reducible intro hb)|(refine Xi ?_ ?_<;>try intro ht)|refine VD ?_ ?_|exact Xx|fail))<;>try with_reducible intro K hK)
    all_goals try(exfalso;omega)
    all_goals exact aq _ 1 ⟨I6,hf⟩ I6 (Xv X0)
   |succ j =>
    have wA:((j+1:Nat):Int)-1=(j:Nat):=I6;rw[EF]at a3;generalize bG:R.getD (j+1) 0=n at *;generalize mc:R.getD j 0=y at *;((try revert hK K);(repeat'(first|refine Va (X3 @bG @mc @wA) ?_|(refine V2 (X3 @bG @mc @wA) ?_ ?_<;>try with_reducible intro hb)|(refine Xi ?_ ?_<;>try intro ht)|refine VD ?_ ?_|exact Xx|fail))<;>try with_reducible intro K hK)
    all_goals try(exfalso;omega)
    all_goals exact aq _ (j+1+1) ⟨I6,hf⟩ I6 (Xv X0)
  ·rw[show ov m.rules R i=false by simpa using ha,lY]at hf;subst hf;rw[lY]at ao;subst ao;unfold ov at ha;rw[decide_eq_true_eq]at ha;cases i with
   |zero =>
    generalize bG:R.getD 0 0=n at *;((try revert hK K);(repeat'(first|refine Va @bG ?_|(refine V2 @bG ?_ ?_<;>try with_reducible intro hb)|(refine Xi ?_ ?_<;>try intro ht)|refine VD ?_ ?_|exact Xx|fail))<;>try with_reducible intro K hK)
    all_goals try(exfalso;omega)
    all_goals
     repeat(first|refine Xu ?_|(refine bQ _ _ rfl ?_;clear bX bQ;try clear eR)|(refine eK _ _ rfl ?_;clear gw eK;try clear lM)|(refine kP _ _ rfl ?_;clear uU kP;try clear wG))
     ((try revert hK K);(repeat'(first|refine Vb X0 ?_|(refine V2 X0 ?_ ?_<;>try with_reducible intro hb)|(refine Xi ?_ ?_<;>try intro ht)|refine VD ?_ ?_|exact Xx|fail))<;>try with_reducible intro K hK)
     exact aO rfl rfl
   |succ j =>
    have wA:((j+1:Nat):Int)-1=(j:Nat):=I6;rw[EF]at ha;generalize bG:R.getD (j+1) 0=n at *;generalize mc:R.getD j 0=y at *;((try revert hK K);(repeat'(first|refine Va (X3 @bG @mc @wA) ?_|(refine V2 (X3 @bG @mc @wA) ?_ ?_<;>try with_reducible intro hb)|(refine Xi ?_ ?_<;>try intro ht)|refine VD ?_ ?_|exact Xx|fail))<;>try with_reducible intro K hK)
    all_goals try(exfalso;omega)
    all_goals
     repeat(first|refine Xu ?_|(refine bQ _ _ rfl ?_;clear bX bQ;try clear eR)|(refine eK _ _ rfl ?_;clear gw eK;try clear lM)|(refine kP _ _ rfl ?_;clear uU kP;try clear wG))
     ((try revert hK K);(repeat'(first|refine Vb X0 ?_|(refine V2 X0 ?_ ?_<;>try with_reducible intro hb)|(refine Xi ?_ ?_<;>try intro ht)|refine VD ?_ ?_|exact Xx|fail))<;>try with_reducible intro K hK)
     exact aO rfl rfl
 ·obtain rfl:i=R.length:=I6;rw[lV]at hf;subst hf;rw[nH,iq]at ao;have ou:=Y1 dH (hF.trans rfl);have bI:=Gr m dH R ou;have p6:=Gs m dH R;have oW:VM (bA m R):=wE dH R;have eC:=Nz dH ou;unfold CY at ao;dsimp only at ao;generalize hq:lL (bA m R) P=q at *;obtain⟨bn,ok⟩:=q;generalize bA m R=r at *;generalize gv m.rules R=kb at *;repeat'(first|((fail_if_success (first|refine eG 10 ?_|refine eH 10 ?_));refine Xr X0 ?_;intro K hK)|refine Xo X0 ?_|(refine hK _ ?_;clear hK K)|(refine Xg X0 ?_ ?_<;>try intro hb)|(refine Xi ?_ ?_<;>try intro ht)|refine Xy ?_|refine Xd ?_ ?_|exact Xx|fail)
  refine au _ _ rfl ?_;clear aq au Ql;repeat(first|refine Xu ?_)
  repeat'(first|((fail_if_success (first|refine eG 10 ?_|refine eH 10 ?_));refine Xr X0 ?_;intro K hK)|refine Xo X0 ?_|(refine hK _ ?_;clear hK K)|(refine Xg X0 ?_ ?_<;>try intro hb)|(refine Xi ?_ ?_<;>try intro ht)|refine Xy ?_|refine Xd ?_ ?_|exact Xx|fail)
  refine lg [0,2,3,4] (.take 0 (.take 1 (.take 2 (.take 3 (.take 4 (.take 5 (.take 6 (.take 7 (.take 8 (.take 9 (.take 10 .nil))))))))))) rfl aab (by decide +kernel) ?_;simp(disch:=omega)only[Ac,↓Pc,simprocAttr,Pw,↓Lq,av];repeat'(first|with_reducible refine gB ?_ ?_|omega|with_reducible rfl)
  refine bF bI rfl rfl ?_;simp(disch:=omega)only[Ac,↓Pc,simprocAttr,Pw,↓Lq,av];repeat'(first|with_reducible refine gB ?_ ?_|omega|with_reducible rfl)
  refine bF p6 rfl rfl ?_;simp(disch:=omega)only[Ac,↓Pc,simprocAttr,Pw,↓Lq,av];repeat'(first|with_reducible refine gB ?_ ?_|omega|with_reducible rfl)
  repeat(first|refine Xu ?_)
  clear bI p6;by_cases sw:(bn,ok)=(1099511627776,true);rotate_left
  ·rw[decide_eq_false sw,lY]at ao;subst ao;have Y2:ok=true->bn≠1099511627776:=λe e'=>sw (by rw[e,e']);cases ok with
   |false =>
    ((try revert hK K);(repeat'(first|refine Vd X0 eC ?_|(refine V2 X0 ?_ ?_<;>try with_reducible intro hb)|(refine Xi ?_ ?_<;>try intro ht)|refine VD ?_ ?_|exact Xx|fail))<;>try with_reducible intro K hK)
    all_goals try(exfalso;omega)
    all_goals exact aO rfl rfl
   |true =>
    have aeN:=Y2 rfl;((try revert hK K);(repeat'(first|refine Vd X0 eC ?_|(refine V2 X0 ?_ ?_<;>try with_reducible intro hb)|(refine Xi ?_ ?_<;>try intro ht)|refine VD ?_ ?_|exact Xx|fail))<;>try with_reducible intro K hK)
    all_goals try(exfalso;omega)
    all_goals exact aO rfl rfl
  rw[decide_eq_true sw,iq]at ao;obtain⟨rfl,rfl⟩:bn=1099511627776/\ok=true:=⟨congrArg Prod.fst sw,congrArg Prod.snd sw⟩;((try revert hK K);(repeat'(first|refine Vc @bne_self_eq_false.{0} eC ?_|(refine V2 @bne_self_eq_false.{0} ?_ ?_<;>try with_reducible intro hb)|(refine Xi ?_ ?_<;>try intro ht)|refine VD ?_ ?_|exact Xx|fail))<;>try with_reducible intro K hK)
  all_goals try(exfalso;omega)
  clear eC sw;clear hi' hi oW hq;refine aW (λi:Nat=>(⟨ax [(2,.cq (av m)),(3,.cq [.tree 1 (ints R),.tree 5 (rowsOf cN P),.tree 1 (fF S)]),(7,.tree 1 (ints R)),(85,.tree 1 (ints R)),(86,aa3 R.length),(87,aa3 i)],[]⟩:St))
   (λi=>i<=R.length/\nH (CZ m ⟨R,P,S⟩) (R.length-i) i=res) (λi=>R.length-i) 0 ⟨aQ _,ao⟩ (Xs false [] X0) ?_
  clear ao;rintro i⟨hi,hf⟩Ql aq au;by_cases hi':i<R.length
  ·rw[show R.length-i=(R.length-(i+1))+1 by omega,nH]at hf;have aZ:=mL _ (aC (d:=(default:List Int)) (show i<S.length by omega));have NA:(S.getD i []).length<9223372036854775808:=aZ;have gK:=Y3 m (S.getD i []) dH.mb NA;have wH:=ou.cY (R.getD i 0);have hw:=Gt R (R.getD i 0) ou.1;have bI:=Gr m dH _ wH;have p6:=Gs m dH (cY R (R.getD i 0));have oW:VM (bA m (cY R (R.getD i 0))):=wE dH _;have nm:=NC (bA m (cY R (R.getD i 0))) (S.getD i []) oW.mb NA;unfold CZ at hf;dsimp only at hf;rw[show S.getD i default=S.getD i [] from rfl]at hf;generalize bG:R.getD i 0=n at *;generalize mc:S.getD i []=pl at *;generalize wI m pl=ce at *;generalize hq:sx (bA m (cY R n)) pl=q at *;obtain⟨aU,rs,er⟩:=q;clear hq oW aZ;generalize bA m (cY R n)=r2 at *;generalize gv m.rules (cY R n)=kb2 at *;generalize cY R n=lw at *;dsimp only at hf nm;repeat'(first|((fail_if_success (first|refine eG 17 ?_|refine eH 17 ?_));refine Xr @bG ?_;intro K hK)|refine Xo @bG ?_|(refine hK _ ?_;clear hK K)|(refine Xg @bG ?_ ?_<;>try intro hb)|(refine Xi ?_ ?_<;>try intro ht)|refine Xy ?_|refine Xd ?_ ?_|exact Xx|fail)
   refine lg [0,2,5,6] (.take 0 (.take 1 (.take 2 (.take 3 (.take 4 (.take 5 (.take 6 (.take 7 .nil)))))))) rfl aab (by decide +kernel) ?_;simp(disch:=omega)only[Ac,↓Pc,simprocAttr,Pw,↓Lq,av,mc,pN];repeat'(first|with_reducible refine gB ?_ ?_|omega|with_reducible rfl)
   refine bF gK rfl rfl ?_;simp(disch:=omega)only[Ac,↓Pc,simprocAttr,Pw,↓Lq,av];repeat'(first|with_reducible refine gB ?_ ?_|omega|with_reducible rfl)
   repeat(first|refine Xu ?_)
   clear gK;by_cases ND:ce=0;rotate_left
   ·rw[decide_eq_false (λe=>ND e.1),lY]at hf;subst hf;((try revert hK K);(repeat'(first|refine Va X0 ?_|(refine V2 X0 ?_ ?_<;>try with_reducible intro hb)|(refine Xi ?_ ?_<;>try intro ht)|refine VD ?_ ?_|exact Xx|fail))<;>try with_reducible intro K hK)
    all_goals try(exfalso;omega)
    all_goals
     repeat(first|refine Xu ?_|(refine bQ _ _ rfl ?_;clear bX bQ;try clear eR)|(refine eK _ _ rfl ?_;clear gw eK;try clear lM)|(refine kP _ _ rfl ?_;clear uU kP;try clear wG))
     ((try revert hK K);(repeat'(first|refine Vb X0 ?_|(refine V2 X0 ?_ ?_<;>try with_reducible intro hb)|(refine Xi ?_ ?_<;>try intro ht)|refine VD ?_ ?_|exact Xx|fail))<;>try with_reducible intro K hK)
     exact aO rfl rfl
   subst ND;repeat'(first|((fail_if_success (first|refine eG 19 ?_|refine eH 19 ?_));refine Xr @bne_self_eq_false.{0} ?_;intro K hK)|refine Xo @bne_self_eq_false.{0} ?_|(refine hK _ ?_;clear hK K)|(refine Xg @bne_self_eq_false.{0} ?_ ?_<;>try intro hb)|(refine Xi ?_ ?_<;>try intro ht)|refine Xy ?_|refine Xd ?_ ?_|exact Xx|fail)
   all_goals try(exfalso;omega)
   refine lg [0,3,4,5,6] (.take 0 (.take 1 (.take 2 (.take 3 (.take 4 (.take 5 (.take 6 (.take 7 (.take 8 (.take 9 (.take 10 (.take 11 (.take 12 .nil))))))))))))) rfl aab (by decide +kernel) ?_;simp(disch:=omega)only[Ac,↓Pc,simprocAttr,Pw,↓Lq,av];repeat'(first|with_reducible refine gB ?_ ?_|omega|with_reducible rfl)
   refine bF hw rfl rfl ?_;simp(disch:=omega)only[Ac,↓Pc,simprocAttr,Pw,↓Lq,av];repeat'(first|with_reducible refine gB ?_ ?_|omega|with_reducible rfl)
   refine bF bI rfl rfl ?_;simp(disch:=omega)only[Ac,↓Pc,simprocAttr,Pw,↓Lq,av];repeat'(first|with_reducible refine gB ?_ ?_|omega|with_reducible rfl)
   refine bF p6 rfl rfl ?_;simp(disch:=omega)only[Ac,↓Pc,simprocAttr,Pw,↓Lq,av];repeat'(first|with_reducible refine gB ?_ ?_|omega|with_reducible rfl)
   repeat(first|refine Xu ?_)
   clear hw bI p6;refine bP (aB.oo 14 0 (cells:=av r2) aa2 (by simp only[Kc,simprocAttr]) (by simp[av])) ?_;repeat'(first|((fail_if_success (first|refine eG 20 ?_|refine eH 20 ?_));refine Xr X0 ?_;intro K hK)|refine Xo X0 ?_|(refine hK _ ?_;clear hK K)|(refine Xg X0 ?_ ?_<;>try intro hb)|(refine Xi ?_ ?_<;>try intro ht)|refine Xy ?_|refine Xd ?_ ?_|exact Xx|fail)
   refine lg [0,2,5,6] (.take 0 (.take 1 (.take 2 (.take 3 (.take 4 (.take 5 (.take 6 (.take 7 (.take 8 (.take 9 (.take 10 (.take 11 (.take 12 (.take 13 .nil)))))))))))))) rfl aab (by decide +kernel) ?_;simp(disch:=omega)only[Ac,↓Pc,simprocAttr,Pw,↓Lq,av,mc,pN];repeat'(first|with_reducible refine gB ?_ ?_|omega|with_reducible rfl)
   refine bF nm rfl rfl ?_;simp(disch:=omega)only[Ac,↓Pc,simprocAttr,Pw,↓Lq,av];repeat'(first|with_reducible refine gB ?_ ?_|omega|with_reducible rfl)
   repeat(first|refine Xu ?_)
   clear nm;by_cases aR:er=0/\aU<1099511627776
   ·rw[decide_eq_true ⟨rfl,aR⟩,iq]at hf;obtain⟨rfl,aR⟩:=aR;((try revert hK K);(repeat'(first|refine Va @bne_self_eq_false.{0} ?_|(refine V2 @bne_self_eq_false.{0} ?_ ?_<;>try with_reducible intro hb)|(refine Xi ?_ ?_<;>try intro ht)|refine VD ?_ ?_|exact Xx|fail))<;>try with_reducible intro K hK)
    all_goals try(exfalso;omega)
    all_goals exact aq _ (i+1) ⟨I6,hf⟩ I6 (Xs false [] X0)
   ·rw[decide_eq_false (λe=>aR e.2),lY]at hf;subst hf;by_cases Y4:er=0
    ·subst Y4;((try revert hK K);(repeat'(first|refine Va @bne_self_eq_false.{0} ?_|(refine V2 @bne_self_eq_false.{0} ?_ ?_<;>try with_reducible intro hb)|(refine Xi ?_ ?_<;>try intro ht)|refine VD ?_ ?_|exact Xx|fail))<;>try with_reducible intro K hK)
     all_goals try(exfalso;omega)
     all_goals
      repeat(first|refine Xu ?_|(refine bQ _ _ rfl ?_;clear bX bQ;try clear eR)|(refine eK _ _ rfl ?_;clear gw eK;try clear lM)|(refine kP _ _ rfl ?_;clear uU kP;try clear wG))
      ((try revert hK K);(repeat'(first|refine Vb X0 ?_|(refine V2 X0 ?_ ?_<;>try with_reducible intro hb)|(refine Xi ?_ ?_<;>try intro ht)|refine VD ?_ ?_|exact Xx|fail))<;>try with_reducible intro K hK)
      exact aO rfl rfl
    ·((try revert hK K);(repeat'(first|refine Va X0 ?_|(refine V2 X0 ?_ ?_<;>try with_reducible intro hb)|(refine Xi ?_ ?_<;>try intro ht)|refine VD ?_ ?_|exact Xx|fail))<;>try with_reducible intro K hK)
     all_goals try(exfalso;omega)
     all_goals
      repeat(first|refine Xu ?_|(refine bQ _ _ rfl ?_;clear bX bQ;try clear eR)|(refine eK _ _ rfl ?_;clear gw eK;try clear lM)|(refine kP _ _ rfl ?_;clear uU kP;try clear wG))
      ((try revert hK K);(repeat'(first|refine Vb X0 ?_|(refine V2 X0 ?_ ?_<;>try with_reducible intro hb)|(refine Xi ?_ ?_<;>try intro ht)|refine VD ?_ ?_|exact Xx|fail))<;>try with_reducible intro K hK)
      exact aO rfl rfl
  ·obtain rfl:i=R.length:=I6;rw[lV,nH]at hf;subst hf;((try revert hK K);(repeat'(first|refine Va X0 ?_|(refine V2 X0 ?_ ?_<;>try with_reducible intro hb)|(refine Xi ?_ ?_<;>try intro ht)|refine VD ?_ ?_|exact Xx|fail))<;>try with_reducible intro K hK)
   refine au _ _ rfl ?_;clear aq au Ql;repeat(first|refine Xu ?_)
   ((try revert hK K);(repeat'(first|refine Vb X0 ?_|(refine V2 X0 ?_ ?_<;>try with_reducible intro hb)|(refine Xi ?_ ?_<;>try intro ht)|refine VD ?_ ?_|exact Xx|fail))<;>try with_reducible intro K hK)
   exact aO rfl rfl
end T

