import Derived.Test.YtdipcmigdbnheaaGreatX25
import Derived.Test.YtdipcmigdbnheaaGreatX31
set_option linter.unusedVariables false
set_option linter.unusedSimpArgs false
set_option linter.unnecessarySimpa false
set_option linter.unusedSectionVars false
set_option maxHeartbeats 64000000
set_option maxRecDepth 20000
open Nat renaming zero_le→aH,not_lt_zero→qH,min_eq_left→rS
open List renaming length_map→eD,map_append→eT,take→pZ,drop→mZ,append_assoc→dj,length_append→bU,length_set→bF,mem_append→dh,length_take→eX,take_of_length_le→dN
open Bool renaming not_false→kl,not_true→hU
open Go Go.Am Go.Proofs
open Nat (reduceEqDiff reduceAdd reduceLeDiff reduceMul)
open Int (reduceNeg reduceLE reduceToNat)
namespace T
theorem Zn (xs:List Nm) (q:Nm):rowsOf br xs++[[AV.lit (.int .i64 q.1),.lit (.bool q.2)]]=rowsOf br (xs++[q]):=by simp[rowsOf,br]
theorem aiu {m:ae} (hm:VM m) (o6:m.av=[]) {gi ai bi:Nat} {D E:List (Nat × Nat)} {S T:List (List Nm)} {os:List Ob} (h:LO br (GB m gi ai bi D E) D E S T os) (hg:LG m lp (S,T)) {left:List (List Bool)} (hf:dK m left) :
    il Tryz.prog 135 [.ptr gi 0 0,.tree 1 (rowsOf aK left)] os fun r ob=>r=.lit (.int .i64 (nr m left (S,T)))∧os.length≤ob.length:=by
  obtain ⟨fg,fa,fb⟩:=JB h
  have eg:=bz fg
  have ea:=bz fa
  have eb:=bz fb
  have hD:=h.rD.len
  have hE:=h.rE.len
  have l0:S.length=m.cls.length:=hg.s
  have IY:T.length=m.ah.length:=hg.t
  have J1:=hm.cls
  have Db:=hm.ah
  have Gu:=hm.av
  have gB:=hf.1
  rw[ac2]
  refine il.aD (fn:=Tryz.f135) 80 os.length [.tmp 4] Tryz.func135 rfl rfl rfl rfl rfl (by simp) ?_
  ((try revert hK K);(repeat' (first|refine Vb (X3 @fg @fa @gC.eq_1) ?_|(refine V2 (X3 @fg @fa @gC.eq_1) ?_ ?_<;>try with_reducible intro hb)|(refine Xi ?_ ?_<;>try intro ht)|refine VD ?_ ?_|exact Xx|fail))<;>try with_reducible intro K hK)
  all_goals try (exfalso;omega)
  have zb:D.length=m.cls.length:=by omega
  refine aG (fun z:Nat × List Ob × Nat × List Nm=>(⟨aw [(0,.ptr gi 0 0),(1,.tree 1 (rowsOf aK left)),(5,.ref z.2.2.1 2 0 z.2.2.2.length),(17,.lit (.int .i64 m.cls.length)),(18,.lit (.int .i64 z.1))],z.2.1⟩:St))
    (fun z=>z.1≤m.cls.length∧gu os z.2.1∧z.2.1[z.2.2.1]?=some (.arr 2 (rowsOf br z.2.2.2))∧os.length≤z.2.2.1∧z.2.2.2=(PC left S z.1).map w8)
    (fun z=>m.cls.length - z.1) (0,os++[.arr 2 []],os.length,[]) ⟨aH _,(gu.refl _).app _,hC _ _ _,Nat.le_refl _,rfl⟩ ?_ ?_
  · refine aQ.trans (aQ.nil 5 2 (by simp only[Kc,simprocAttr]) (by decide)) ?_
    exact Xv @zb
  rintro ⟨i,ob,ti,ps⟩ ⟨hi,bT,eJ,jC,fS⟩ Ql ak aq
  dsimp only at hi bT eJ jC fS ⊢
  have b9:ps.length=i:=by rw[fS,eD,AK]
  by_cases ax:i<m.cls.length
  · have lQ:=aes hm (h.fV bT) hg hf i ax
    have dV:(PC left S (i+1)).map w8=ps++[rz (jf (S.getD i default) (left.getD i default))]:=by
      rw[show PC left S (i+1)=PC left S i++[cY (S.getD i default) (left.getD i default) (0,false)] from yR _ i,eT,← fS,RJ];rfl
    have Br:=Wi (jf (S.getD i default) (left.getD i default)) (by have:=Jl (S.getD i default) (left.getD i default);have:=hg.sl i ax;have:=hm.opt _ (az (d:=default) ax);dsimp only at *;omega)
    generalize jf (S.getD i default) (left.getD i default)=LL at *
    generalize rz LL=q at *
    repeat' (first|((fail_if_success (first|refine iV 5 ?_|refine iW 5 ?_));refine Xr X0 ?_;intro K hK)|refine Xo X0 ?_|(refine hK _ ?_;clear hK K)|(refine Xg X0 ?_ ?_<;>try intro hb)|(refine Xi ?_ ?_<;>try intro ht)|refine Xy ?_|refine Xd ?_ ?_|exact Xx|fail)
    refine wI 4 (by decide) _ rfl ?_
    intro K hK
    simp (disch:=omega) only[Ac,↓Pc,simprocAttr,pZ,mZ]
    refine⟨rfl,(show pB Tryz.prog 178 [.ptr gi 0 0,.lit (.int .i64 i),.tree 1 (rowsOf aK left)] (some 25) _ _ from ?_)⟩
    refine FL lQ ?_
    rintro r DU ⟨bG,id,rfl,cT⟩
    refine⟨bG.len,?_⟩
    have zC:=bG _ _ eJ
    have LM:=bz zC
    have LN:=ke zC
    have eM:=(bT.trans bG).len
    simp (disch:=omega) only[Ac,↓Pc,simprocAttr,mZ]
    refine oz [] Br (by simp) trivial ⟨aO.fz cT (by rw[eP]) (by simp),trivial⟩ rfl (by simp) ?_
    simp (disch:=omega) only[Ac,↓Pc,simprocAttr,zC,LM,LN,br,Zn,gQ,dj,bU,bF]
    repeat' (first|with_reducible refine And.intro ?_ ?_|omega|with_reducible rfl)
    refine hK _ ?_;clear hK K
    repeat (first|refine Xu ?_)
    ((try revert hK K);(repeat' (first|refine Va X0 ?_|(refine V2 X0 ?_ ?_<;>try with_reducible intro hb)|(refine Xi ?_ ?_<;>try intro ht)|refine VD ?_ ?_|exact Xx|fail))<;>try with_reducible intro K hK)
    refine ak _ (i+1,DU.set ti .gone++[.arr 2 [br q],.arr 2 (rowsOf br (ps++[q]))],DU.length+1,ps++[q]) ⟨by dsimp only;omega,((bT.trans bG).set jC).app _,yW _ _ _ _ _,by dsimp only;omega,dV.symm⟩ (by dsimp only;omega) ?_
    exact Xv @br.eq_1
  have F2:i=m.cls.length:=by omega
  rw[F2] at fS
  have kg:=bT _ _ fg
  have kb:=bT _ _ fb
  have aiv:E.length=m.ah.length:=by omega
  ((try revert hK K);(repeat' (first|refine Va X0 ?_|(refine V2 X0 ?_ ?_<;>try with_reducible intro hb)|(refine Xi ?_ ?_<;>try intro ht)|refine VD ?_ ?_|exact Xx|fail))<;>try with_reducible intro K hK)
  refine aq _ _ rfl ?_;clear ak aq Ql
  repeat (first|refine Xu ?_)
  ((try revert hK K);(repeat' (first|refine Va (X3 @kg @kb @gC.eq_1) ?_|(refine V2 (X3 @kg @kb @gC.eq_1) ?_ ?_<;>try with_reducible intro hb)|(refine Xi ?_ ?_<;>try intro ht)|refine VD ?_ ?_|exact Xx|fail))<;>try with_reducible intro K hK)
  refine aG (fun z:Nat × List Ob × Nat × List Nm=>(⟨aw [(0,.ptr gi 0 0),(1,.tree 1 (rowsOf aK left)),(5,.ref z.2.2.1 2 0 z.2.2.2.length),(34,.lit (.int .i64 m.ah.length)),(35,.lit (.int .i64 z.1))],z.2.1⟩:St))
    (fun z=>z.1≤m.ah.length∧gu os z.2.1∧z.2.1[z.2.2.1]?=some (.arr 2 (rowsOf br z.2.2.2))∧os.length≤z.2.2.1∧z.2.2.2=(PC left S m.cls.length++PP m left T z.1).map w8)
    (fun z=>m.ah.length - z.1) (0,ob,ti,ps) ⟨aH _,bT,eJ,jC,by rw[fS];simp[PP]⟩ (Xv @aiv) ?_
  clear bT eJ jC fS b9 F2 kg kb hi ax ti ps
  rintro ⟨i,ob,ti,ps⟩ ⟨hi,bT,eJ,jC,fS⟩ Ql ak aq
  dsimp only at hi bT eJ jC fS ⊢
  have b9:ps.length=m.cls.length+i:=by rw[fS,eD,bU,AK,CN]
  by_cases ax:i<m.ah.length
  · have lQ:=aeu hm (h.fV bT) hg hf i ax
    have dV:(PC left S m.cls.length++PP m left T (i+1)).map w8=ps++[rz (jf (T.getD i default) (gN m left i))]:=by
      rw[show PP m left T (i+1)=PP m left T i++[cY (T.getD i default) (gN m left i) (0,false)] from yR _ i,← dj,eT,← fS,RJ];rfl
    have Br:=Wi (jf (T.getD i default) (gN m left i)) (by have:=Jl (T.getD i default) (gN m left i);have:=hg.tl i ax;have:=Dd (fY hm.pr _ (az (d:=default) ax)) hm;dsimp only at *;omega)
    generalize jf (T.getD i default) (gN m left i)=LL at *
    generalize rz LL=q at *
    repeat' (first|((fail_if_success (first|refine iV 10 ?_|refine iW 10 ?_));refine Xr X0 ?_;intro K hK)|refine Xo X0 ?_|(refine hK _ ?_;clear hK K)|(refine Xg X0 ?_ ?_<;>try intro hb)|(refine Xi ?_ ?_<;>try intro ht)|refine Xy ?_|refine Xd ?_ ?_|exact Xx|fail)
    refine wI 4 (by decide) _ rfl ?_
    intro K hK
    simp (disch:=omega) only[Ac,↓Pc,simprocAttr,pZ,mZ]
    refine⟨rfl,(show pB Tryz.prog 179 [.ptr gi 0 0,.lit (.int .i64 i),.tree 1 (rowsOf aK left)] (some 42) _ _ from ?_)⟩
    refine FL lQ ?_
    rintro r DU ⟨bG,id,rfl,cT⟩
    refine⟨bG.len,?_⟩
    have zC:=bG _ _ eJ
    have LM:=bz zC
    have LN:=ke zC
    have eM:=(bT.trans bG).len
    simp (disch:=omega) only[Ac,↓Pc,simprocAttr,mZ]
    refine oz [] Br (by simp) trivial ⟨aO.fz cT (by rw[eP]) (by simp),trivial⟩ rfl (by simp) ?_
    simp (disch:=omega) only[Ac,↓Pc,simprocAttr,zC,LM,LN,br,Zn,gQ,dj,bU,bF]
    repeat' (first|with_reducible refine And.intro ?_ ?_|omega|with_reducible rfl)
    refine hK _ ?_;clear hK K
    repeat (first|refine Xu ?_)
    ((try revert hK K);(repeat' (first|refine Va X0 ?_|(refine V2 X0 ?_ ?_<;>try with_reducible intro hb)|(refine Xi ?_ ?_<;>try intro ht)|refine VD ?_ ?_|exact Xx|fail))<;>try with_reducible intro K hK)
    refine ak _ (i+1,DU.set ti .gone++[.arr 2 [br q],.arr 2 (rowsOf br (ps++[q]))],DU.length+1,ps++[q]) ⟨by dsimp only;omega,((bT.trans bG).set jC).app _,yW _ _ _ _ _,by dsimp only;omega,dV.symm⟩ (by dsimp only;omega) ?_
    exact Xv @br.eq_1
  have F5:i=m.ah.length:=by omega
  rw[F5] at fS
  have kg:=bT _ _ fg
  ((try revert hK K);(repeat' (first|refine Va X0 ?_|(refine V2 X0 ?_ ?_<;>try with_reducible intro hb)|(refine Xi ?_ ?_<;>try intro ht)|refine VD ?_ ?_|exact Xx|fail))<;>try with_reducible intro K hK)
  refine aq _ _ rfl ?_;clear ak aq Ql
  repeat (first|refine Xu ?_)
  ((try revert hK K);(repeat' (first|refine Va (X2 @kg @gC.eq_1) ?_|(refine V2 (X2 @kg @gC.eq_1) ?_ ?_<;>try with_reducible intro hb)|(refine Xi ?_ ?_<;>try intro ht)|refine VD ?_ ?_|exact Xx|fail))<;>try with_reducible intro K hK)
  refine aG (fun z:Nat × List Ob × Nat × List Nm=>(⟨aw [(1,.tree 1 (rowsOf aK left)),(5,.ref z.2.2.1 2 0 z.2.2.2.length),(51,.tree 4 (rowsOf bu m.av)),(52,.lit (.int .i64 m.av.length)),(53,.lit (.int .i64 z.1))],z.2.1⟩:St))
    (fun z=>z.1≤m.av.length∧gu os z.2.1∧z.2.1[z.2.2.1]?=some (.arr 2 (rowsOf br z.2.2.2))∧os.length≤z.2.2.1∧z.2.2.2=(PC left S m.cls.length++PP m left T m.ah.length++PK m left z.1).map w8)
    (fun z=>m.av.length - z.1) (0,ob,ti,ps) ⟨aH _,bT,eJ,jC,by rw[fS];simp[PK]⟩ (Xv X0) ?_
  clear bT eJ jC fS b9 F5 kg hi ax ti ps
  rintro ⟨i,ob,ti,ps⟩ ⟨hi,bT,eJ,jC,fS⟩ Ql ak aq
  dsimp only at hi bT eJ jC fS ⊢
  have b9:ps.length=m.cls.length+m.ah.length+i:=by rw[fS,eD,bU,bU,AK,CN,Fv]
  by_cases ax:i<m.av.length
  · exact absurd ax (by rw[o6];exact qH _)
  have Ko:i=m.av.length:=by omega
  rw[Ko] at fS b9
  rw[show PC left S m.cls.length++PP m left T m.ah.length++PK m left m.av.length=vx m left (S,T) from rfl] at fS
  have VY:(vx m left (S,T)).length=m.cls.length+m.ah.length+m.av.length:=by unfold vx;rw[bU,bU,AK,CN,Fv]
  have Zo:∀ p∈vx m left (S,T),-lp≤p.1∧p.1≤lp:=fun p hp=>by
    unfold vx at hp
    rw[dh,dh] at hp
    rcases hp with (hp | hp) | hp
    · exact Ji (by unfold lp;decide) hg.sb _ p hp
    · exact Jj (by unfold lp;decide) hg.tb _ p hp
    · have:=Jk hm _ p hp;unfold lp;omega
  generalize vx m left (S,T)=P at *
  ((try revert hK K);(repeat' (first|refine Va X0 ?_|(refine V2 X0 ?_ ?_<;>try with_reducible intro hb)|(refine Xi ?_ ?_<;>try intro ht)|refine VD ?_ ?_|exact Xx|fail))<;>try with_reducible intro K hK)
  refine aq _ _ rfl ?_;clear ak aq Ql
  repeat (first|refine Xu ?_)
  ((try revert hK K);(repeat' (first|refine Va @eJ ?_|(refine V2 @eJ ?_ ?_<;>try with_reducible intro hb)|(refine Xi ?_ ?_<;>try intro ht)|refine VD ?_ ?_|exact Xx|fail))<;>try with_reducible intro K hK)
  all_goals try (exfalso;omega)
  refine aG (fun z:Nat × List Ob=>(⟨aw [(10,.lit (.int .i64 (bI (P.take z.1) (0,false)).1)),(65,.ref ti 2 0 ps.length),(66,.lit (.int .i64 ps.length)),(67,.lit (.int .i64 z.1))],z.2⟩:St))
    (fun z=>z.1≤P.length∧gu os z.2∧z.2[ti]?=some (.arr 2 (rowsOf br ps))∧(bI (P.take z.1) (0,false)).2=false)
    (fun z=>P.length - z.1) (0,ob) ⟨aH _,bT,eJ,rfl⟩ (Xv (X3 @List.take_zero.{0} @bI.eq_1 @List.foldl_nil.{0,0})) ?_
  clear bT eJ
  rintro ⟨j,ob⟩ ⟨hj,bT,eJ,GY⟩ Ql ak aq
  dsimp only at hj bT eJ GY ⊢
  have eM:=bT.len
  have ajx:ps.length=P.length:=by rw[fS,eD]
  by_cases cq:j<P.length
  · have mN:=eU cq
    have nf:=AI (P.take j) (P.getD j default) (0,false)
    rw[← mN,GY,Bool.false_or] at nf
    have yw:ps.getD j default=w8 (P.getD j default):=by rw[fS,kH _ _ _ cq]
    have jx:=w7 (P.take j) (0,false) (fun p hp=>Zo p (List.mem_of_mem_take hp))
    rw[eX,rS hj] at jx
    have E9:=Zo _ (az (d:=default) cq)
    have aiw:=az (l:=P) (d:=default) cq
    unfold lp at jx E9
    dsimp only at jx
    generalize (bI (P.take j) (0,false)).1=s at *
    generalize P.getD j default=q at *
    obtain ⟨v,b⟩:=q
    unfold w8 at yw
    dsimp only at yw nf E9
    have qw:=bz eJ
    cases b
    · have vF:(bI P (0,false)).2=true:=(RL P 0).2 ⟨_,aiw,rfl⟩
      ((try revert hK K);(repeat' (first|refine Va (X5 @eJ @qw @yw @br.eq_1 (X2 @gQ @kl)) ?_|(refine V2 (X5 @eJ @qw @yw @br.eq_1 (X2 @gQ @kl)) ?_ ?_<;>try with_reducible intro hb)|(refine Xi ?_ ?_<;>try intro ht)|refine VD ?_ ?_|exact Xx|fail))<;>try with_reducible intro K hK)
      all_goals try (exfalso;omega)
      repeat (first|refine Xu ?_|(refine bd _ _ rfl ?_;clear ba bd;try clear cR)|(refine eI _ _ rfl ?_;clear eS eI;try clear mh)|(refine uw _ _ rfl ?_;clear KV uw;try clear Xp))
      ((try revert hK K);(repeat' (first|refine Vb X0 ?_|(refine V2 X0 ?_ ?_<;>try with_reducible intro hb)|(refine Xi ?_ ?_<;>try intro ht)|refine VD ?_ ?_|exact Xx|fail))<;>try with_reducible intro K hK)
      unfold iU
      simp only[fi,ew]
      simp (disch:=omega) only[Ac,↓Pc,simprocAttr]
      rw[if_pos vF]
      exact⟨_,_,⟨rfl,by rw[bU];omega⟩,fW rfl (by rw[bU];omega) rfl⟩
    · ((try revert hK K);(repeat' (first|refine Va (X5 @eJ @qw @yw @br.eq_1 (X2 @gQ @hU)) ?_|(refine V2 (X5 @eJ @qw @yw @br.eq_1 (X2 @gQ @hU)) ?_ ?_<;>try with_reducible intro hb)|(refine Xi ?_ ?_<;>try intro ht)|refine VD ?_ ?_|exact Xx|fail))<;>try with_reducible intro K hK)
      all_goals try (exfalso;omega)
      refine ak _ (j+1,_) ⟨by dsimp only;omega,bT.app [.var (br (v,false))],qw _,by rw[nf];rfl⟩ (by dsimp only;omega) ?_
      simp only[nf]
      exact Xv @br.eq_1
  · rw[dN (by omega)] at GY
    have aix:¬ (bI P (0,false)).2=true:=by rw[GY];simp
    ((try revert hK K);(repeat' (first|refine Va (dN (show P.length≤j by omega)) ?_|(refine V2 (dN (show P.length≤j by omega)) ?_ ?_<;>try with_reducible intro hb)|(refine Xi ?_ ?_<;>try intro ht)|refine VD ?_ ?_|exact Xx|fail))<;>try with_reducible intro K hK)
    refine aq _ _ rfl ?_;clear ak aq Ql
    repeat (first|refine Xu ?_)
    ((try revert hK K);(repeat' (first|refine Vb X0 ?_|(refine V2 X0 ?_ ?_<;>try with_reducible intro hb)|(refine Xi ?_ ?_<;>try intro ht)|refine VD ?_ ?_|exact Xx|fail))<;>try with_reducible intro K hK)
    unfold iU
    simp only[fi,ew]
    simp (disch:=omega) only[Ac,↓Pc,simprocAttr]
    rw[if_neg aix]
    exact⟨_,ob,⟨rfl,eM⟩,fW rfl eM rfl⟩
theorem LG.aiy {m:ae} {B C:Int} {g:Lg} (h:LG m B g) (hc:B≤C):LG m C g:=⟨h.s,h.t,h.sl,h.tl,fun r hr=>(h.sb r hr).mono hc,fun r hr=>(h.tb r hr).mono hc⟩
theorem aiz (m:ae) (left:List (List Bool)) (l:List Mv) (hl0:l=[]) (o6:m.av=[]) (hm:VM m) (hf:dK m left) (hl:l.length<9223372036854775808):ao Tryz.prog 77 [.agg (au m),.tree 1 (rowsOf aK left),.tree 4 (rowsOf fZ l)] [] (.bM [.lit (.int .i64 (iw m left l).1),.lit (.int .i64 (iw m left l).2)]) []:=by
  generalize aj:iw m left l=res
  unfold iw at aj
  refine ao.aD (fn:=Tryz.f77) 33 0 [.tmp 6,.tmp 7] Tryz.func77 rfl rfl rfl rfl rfl (by simp) ?_
  have hlen:¬ 2000<l.length:=by rw[hl0];decide
  rw[if_neg hlen] at aj
  repeat' (first|((fail_if_success (first|refine iV 3 ?_|refine iW 3 ?_));refine Xr X0 ?_;intro K hK)|refine Xo X0 ?_|(refine hK _ ?_;clear hK K)|(refine Xg X0 ?_ ?_<;>try intro hb)|(refine Xi ?_ ?_<;>try intro ht)|refine XY ?_|refine Xd ?_ ?_|exact Xx|fail)
  all_goals try (exfalso;omega)
  refine wI 1 (by decide) _ rfl ?_
  intro K hK
  simp (disch:=omega) only[Ac,↓Pc,simprocAttr,pZ,mZ]
  refine⟨rfl,(show pB Tryz.prog 132 [.agg (au m)] (some 15) _ _ from ?_)⟩
  refine FL (aen hm [.var (au m)]) ?_
  rintro r os ⟨gi,ai,bi,D,E,rfl,iI,bT⟩
  refine⟨bT.len,?_⟩
  have f0:=bT 0 _ rfl
  simp (disch:=omega) only[Ac,↓Pc,simprocAttr,mZ]
  refine hK _ ?_;clear hK K
  repeat (first|refine Xu ?_)
  ((try revert hK K);(repeat' (first|refine Va X0 ?_|(refine V2 X0 ?_ ?_<;>try with_reducible intro hb)|(refine Xi ?_ ?_<;>try intro ht)|refine VD ?_ ?_|exact Xx|fail))<;>try with_reducible intro K hK)
  refine aG (fun z:Nat × List Ob=>(⟨aw [(1,.tree 1 (rowsOf aK left)),(8,.ptr gi 0 0),(16,.tree 4 (rowsOf fZ l)),(17,.lit (.int .i64 l.length)),(18,.lit (.int .i64 z.1))],z.2⟩:St))
    (fun z=>z.1≤l.length∧LO br (GB m gi ai bi D E) D E (je m (l.take z.1) (S0 m,T0 m)).1 (je m (l.take z.1) (S0 m,T0 m)).2 z.2∧∀ x∈l.take z.1,lk m x=true)
    (fun z=>l.length - z.1) (0,os) ⟨aH _,iI,by simp⟩ (Xv X0) ?_
  clear iI bT f0
  rintro ⟨i,ob⟩ ⟨hi,iI,fJ⟩ Ql ak aq
  dsimp only at hi iI fJ ⊢
  have kh:=(Fu hm (l.take i) fJ)
  rw[eX,rS hi] at kh
  by_cases ax:i<l.length
  · exact absurd ax (by rw[hl0];exact qH _)
  · rw[dN (by omega)] at iI kh fJ
    rw[if_neg (by rw[Bool.not_eq_false];exact List.all_eq_true.2 fJ)] at aj
    generalize je m l (S0 m,T0 m)=g at *
    obtain ⟨g1,g2⟩:=g
    dsimp only at iI
    have hval:=aiu hm o6 iI (kh.aiy (by unfold lp;omega)) hf
    ((try revert hK K);(repeat' (first|refine Va X0 ?_|(refine V2 X0 ?_ ?_<;>try with_reducible intro hb)|(refine Xi ?_ ?_<;>try intro ht)|refine VD ?_ ?_|exact Xx|fail))<;>try with_reducible intro K hK)
    refine aq _ _ rfl ?_;clear ak aq Ql
    repeat (first|refine Xu ?_)
    repeat' (first|((fail_if_success (first|refine iV 11 ?_|refine iW 11 ?_));refine Xr X0 ?_;intro K hK)|refine Xo X0 ?_|(refine hK _ ?_;clear hK K)|(refine Xg X0 ?_ ?_<;>try intro hb)|(refine Xi ?_ ?_<;>try intro ht)|refine Xy ?_|refine Xd ?_ ?_|exact Xx|fail)
    refine wI 2 (by decide) _ rfl ?_
    intro K hK
    simp (disch:=omega) only[Ac,↓Pc,simprocAttr,pZ,mZ]
    refine⟨rfl,(show pB Tryz.prog 135 [.ptr gi 0 0,.tree 1 (rowsOf aK left)] (some 32) _ _ from ?_)⟩
    refine FL hval ?_
    rintro r ob3 ⟨rfl,wC⟩
    refine⟨wC,?_⟩
    simp (disch:=omega) only[Ac,↓Pc,simprocAttr,mZ]
    refine hK _ ?_;clear hK K
    repeat (first|refine Xu ?_)
    subst aj
    ((try revert hK K);(repeat' (first|refine Vb X0 ?_|(refine V2 X0 ?_ ?_<;>try with_reducible intro hb)|(refine Xi ?_ ?_<;>try intro ht)|refine VD ?_ ?_|exact Xx|fail))<;>try with_reducible intro K hK)
    exact aE rfl rfl
theorem aiA (m:ae) (P:List Nd) (h0:∀ x∈P,x.cX=[]∧x.b5=[]) (o6:m.av=[]) (hP:PB P) (hm:VM m) (b:Int) (s:cW) (hs:vh m P s) :
    ao Tryz.prog 75 [.agg [.lit (.int .i64 s.1),.tree 1 (rowsOf aK s.2.1)],.ptr 1 0 0,.ptr 0 0 0,.ptr 2 0 0] [.var (au m),.var (aM P),.var [.lit (.int .i64 b)]] (.lit (.bool (gr m P b s).2)) [.var (au m),.var (aM P),.var [.lit (.int .i64 (gr m P b s).1)]]:=by
  obtain ⟨i,left,ab⟩:=s
  have hi:i<P.length:=hs.1
  have hf:dK m left:=hs.2.1
  have yK:=hP.Ay
  have bC:P.getD i default=nd P i:=rfl
  have cd:=az (l:=P) (i:=i) (d:=default) hi
  have b2:=hP.cX _ cd
  generalize aj:gr m P b (i,left,ab)=res
  unfold gr at aj
  rw[bC] at b2
  dsimp only at aj
  obtain ⟨rI,nR⟩:=h0 _ cd
  rw[bC] at rI nR
  have xC:=aiz m left (nd P i).cX rI o6 hm hf b2
  generalize iw m left (nd P i).cX=lt at *
  generalize bS:nd P i=x at *
  obtain ⟨c,kids,cX,b5,cells⟩:=x
  obtain ⟨v,e⟩:=lt
  dsimp only at *
  refine ao.aD (fn:=Tryz.f75) 41 3 [.tmp 5] Tryz.func75 rfl rfl rfl rfl rfl (by simp) ?_
  by_cases hc:c = -1
  rotate_left
  · rw[if_pos hc] at aj
    ((try revert hK K);(repeat' (first|refine Vb (X3 @aM.eq_1 @bC @aL.eq_1) ?_|(refine V2 (X3 @aM.eq_1 @bC @aL.eq_1) ?_ ?_<;>try with_reducible intro hb)|(refine Xi ?_ ?_<;>try intro ht)|refine VD ?_ ?_|exact Xx|fail))<;>try with_reducible intro K hK)
    all_goals try (exfalso;omega)
    subst aj
    exact Xw false [0,1,2] @aM.eq_1
  rw[if_neg (by omega)] at aj
  have hg:¬ 0<b5.length:=by rw[nR];decide
  rw[if_neg hg] at aj
  ((try revert hK K);(repeat' (first|refine Vd (X3 @aM.eq_1 @bC @aL.eq_1) xC ?_|(refine V2 (X3 @aM.eq_1 @bC @aL.eq_1) ?_ ?_<;>try with_reducible intro hb)|(refine Xi ?_ ?_<;>try intro ht)|refine VD ?_ ?_|exact Xx|fail))<;>try with_reducible intro K hK)
  all_goals try (exfalso;omega)
  subst aj
  exact Xw false [0,1,2] @aM.eq_1
theorem ait (m:ae) (P:List Nd) (h0:∀ x∈P,x.cX=[]∧x.b5=[]) (o6:m.av=[]) (hm:MB m) (hP:PB P):ao Tryz.prog 40 [.agg (au m),.agg (aM P)] [] (.bM [.lit (.int .i64 (kD m P).1),.lit (.bool (kD m P).2)]) []:=by
  have hw:=acp m P hm hP (fun _=>.var (au m)) (fun _=>.var (aM P)) (fun b:Int=>.var [.lit (.int .i64 b)]) [.ptr 1 0 0,.ptr 0 0 0,.ptr 2 0 0] 75 (gr m P) (Inv:=fun _ _=>True)
    ⟨fun ρ h0 h1 h2 a=>⟨rfl,rfl,rfl⟩,fun ρ h0 h1 h2 v hv=>by
      simp only[List.mem_cons,List.not_mem_nil,or_false] at hv
      rcases hv with rfl | rfl | rfl<;>simp only[aX,h0,h1,h2],fun _ _ _ _ _=>trivial,fun cu a s _ hs _=>aiA m P h0 o6 hP cu a s hs⟩ 1099511627776 (fun _ _=>trivial)
  generalize aj:kD m P=res
  unfold kD at aj
  generalize pD m P (gr m P) 1099511627776=r at *
  obtain ⟨b,ok⟩:=r
  dsimp only at hw aj
  refine ao.aD (fn:=Tryz.f40) 15 0 [.tmp 4,.tmp 5] Tryz.func40 rfl rfl rfl rfl rfl (by simp) ?_
  ((try revert hK K);(repeat' (first|refine Vb @aM.eq_1 ?_|(refine V2 @aM.eq_1 ?_ ?_<;>try with_reducible intro hb)|(refine Xi ?_ ?_<;>try intro ht)|refine VD ?_ ?_|exact Xx|fail))<;>try with_reducible intro K hK)
  refine mu hw (by simp) ?_
  cases ok
  · rw[if_neg (by simp)] at aj
    ((try revert hK K);(repeat' (first|refine Vb @kl ?_|(refine V2 @kl ?_ ?_<;>try with_reducible intro hb)|(refine Xi ?_ ?_<;>try intro ht)|refine VD ?_ ?_|exact Xx|fail))<;>try with_reducible intro K hK)
    subst aj
    exact aE rfl rfl
  · rw[if_pos rfl] at aj
    ((try revert hK K);(repeat' (first|refine Vb @hU ?_|(refine V2 @hU ?_ ?_<;>try with_reducible intro hb)|(refine Xi ?_ ?_<;>try intro ht)|refine VD ?_ ?_|exact Xx|fail))<;>try with_reducible intro K hK)
    subst aj
    exact aE rfl rfl
end T

