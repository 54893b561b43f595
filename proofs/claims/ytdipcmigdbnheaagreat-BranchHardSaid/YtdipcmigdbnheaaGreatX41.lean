import Derived.Test.YtdipcmigdbnheaaGreatX28
import Derived.Test.YtdipcmigdbnheaaGreatX40
import Derived.Test.YtdipcmigdbnheaaGreatX20
import Derived.Test.YtdipcmigdbnheaaGreatX16
set_option linter.unusedVariables false
set_option linter.unusedSimpArgs false
set_option linter.unnecessarySimpa false
set_option linter.unusedSectionVars false
set_option maxHeartbeats 64000000
set_option maxRecDepth 20000
open List renaming getElem?_eq_some_iff→aS,mem_append→cy,length_append→bJ,getElem?_append_left→cj,getD_eq_getElem?_getD→ay,cons_append→dG,nil_append→dK,set_append_left→Gs,filter_append→GF,getElem?_set_ne→bu,replicate→bq,append_nil→jc,length_set→bm,length_map→dU,getElem?_map→bN,map_cons→cR,mem_map→b7,mem_filter→yy,length→nL,map_congr_left→lP,range→aT,take→lR,drop→ly,getElem?_set_self→GC,eq_nil_of_length_eq_zero→p7,getElem?_eq_getElem→bI,ext_getElem?→ju,getElem?_eq_none→du,filter_cons→Gt,drop_eq_nil_of_le→dw,map_nil→jJ
open Nat renaming zero_le→aD,le_refl→aH,lt_succ_self→oP,lt_irrefl→wK
open Bool renaming and_eq_true→bh
open Go Go.Am Go.Proofs
open Nat (reduceEqDiff reduceAdd reduceLeDiff reduceMul)
open Int (reduceNeg reduceLE reduceToNat)
open Go Go.Am
namespace T
theorem afJ (xs:List Ct) (rest:List (List AV)) (g:FuncId) (bk:List AV) (p:Ct→Bool) (os:List Ob) (b:Nat) (hb:os[b]?=some (.arr 4 (rowsOf aU xs++rest))) (hw:∀ row∈rest,row.length=4) (hl:xs.length<1000000)
    (tK:iO bk=true) (hg:∀ x∈xs,ao Tryz.prog g ([.agg (aU x)]++bk) [] (.lit (.bool (p x))) []) :
    fF Tryz.prog 49 [.ref b 4 0 xs.length,.fn g bk] os (fun r ob=>r=.ref b 4 0 (xs.filter fun x=>!p x).length∧my b os ob∧∃ uY,ob[b]?=some (.arr 4 (rowsOf aU (xs.filter fun x=>!p x)++uY))∧∀ row∈uY,row.length=4):=by
  have e7:=TL xs g bk [] p (by omega) hg
  have pH:=(aS.1 hb).1
  have Kn:∀ row∈rowsOf aU xs++rest,row.length=4:=fun row hr=>by
    rcases cy.1 hr with h | h
    · exact fZ _ row h
    · exact hw row h
  have lS:∀ e:Nat→AV,bV ⟨e,os⟩ (·∈([]:List Nat)) (.tree 4 (rowsOf aU xs)) (.ref b 4 0 xs.length):=fun e =>
    gW.cd (.inr ⟨b,rest,by rw[b5],aD _,pH,hb,Kn⟩) (fun i _ _=>by simp) (l9 _)
  refine fF.aF (fn:=Tryz.f49) 42 os.length [.tmp 4] Tryz.func49 rfl rfl rfl rfl rfl (by simp) ?_
  ((refine Va X0 ?_)<;>try with_reducible intro K hK)
  refine nR [] e7 (by decide) trivial ⟨aN.snap _ _ rfl (lS _),.pure (by simpa [gT] using tK),trivial⟩ rfl (by simp) ?_
  simp (disch:=omega) only[Ac,↓Pc,simprocAttr]
  by_cases yj:fy p 0 xs = -1
  · have eW:=Ko p xs 0 yj
    rw[yj]
    ((try revert hK K);(repeat' (first|refine Va X0 ?_|(refine Xi ?_ ?_<;>try intro ht)|exact Xx|fail)))
    unfold gH
    simp only[ei,ee]
    simp (disch:=omega) only[Ac,↓Pc,simprocAttr]
    exact⟨_,_,⟨by rw[eW],my.refl _ _,rest,by rw[eW];exact hb,hw⟩,gR rfl (aH _) rfl⟩
  · obtain ⟨i0,h1,h2,h3⟩:=Kp p xs 0 yj
    rw[Nat.zero_add] at h1
    rw[h1]
    clear e7 lS
    ((try revert hK K);(repeat' (first|refine Va X0 ?_|(refine Xi ?_ ?_<;>try intro ht)|exact Xx|fail)))
    refine aI (fun z:Nat × Nat × List Ct × List Ob=>(⟨av [(0,.ref b 4 0 xs.length),(1,.fn g bk),(5,.lit (.int .i64 z.2.1)),(6,.lit (.int .i64 z.1))],z.2.2.2⟩:St))
      (fun z=>z.1≤xs.length∧z.2.1<z.1∧z.2.2.1.length=xs.length∧(xs.take z.1).filter (fun x=>!p x)=z.2.2.1.take z.2.1∧(∀ k,z.1≤k→z.2.2.1.getD k default=xs.getD k default)∧my b os z.2.2.2∧z.2.2.2[b]?=some (.arr 4 (rowsOf aU z.2.2.1++rest)))
      (fun z=>xs.length - z.1) (i0+1,i0,xs,os) ⟨h2,oP _,rfl,h3,fun _ _=>rfl,my.refl _ _,hb⟩ (Xv X0) ?_
    rintro ⟨j,i,Y,ob⟩ ⟨hj,xX,hY,k8,rT,jP,aZ⟩ Ql ak aq
    dsimp only at hj xX hY k8 rT jP aZ ⊢
    have gI:(rowsOf aU Y++rest).length=xs.length+rest.length:=by rw[bJ,b5,hY]
    have ik:=a7 aZ
    have fL:=fun l y=>fj aZ l (y:=y)
    by_cases dZ:j<xs.length
    · have uI:=az (l:=xs) (d:=default) dZ
      have hx:=hg _ uI
      have a6:(rowsOf aU Y++rest)[j]?=some (aU (xs.getD j default)):=by
        rw[cj (by rw[b5];omega),zn _ _ (by omega),rT j (aH _)]
      have Kq:(rowsOf aU Y++rest).getD j []=aU (xs.getD j default):=by rw[ay,a6];rfl
      have Kr:(rowsOf aU Y++rest)[i]?=some (aU (Y.getD i default)):=by
        rw[cj (by rw[b5];omega),zn _ _ (by omega)]
      generalize Y.getD i default=y0 at *
      have cS:=eu dZ
      generalize bA:xs.getD j default=x at *
      simp only[dG,dK,aU] at hx
      have iS:(rowsOf aU Y++rest).set i [.lit (.int .i64 x.cB),.tree 3 (rowsOf gG x.aK),.lit (.int .i64 x.most),.lit (.int .i64 x.bE)]=rowsOf aU (Y.set i x)++rest:=by
        rw[Gs _ _ (by rw[b5];omega),← D5];rfl
      generalize pO:rowsOf aU Y++rest=R at *
      repeat' (first|((fail_if_success (first|refine im 8 ?_|refine iq 8 ?_));refine Xr (X5 @aZ @gI @a6 @Kq (X2 @aU.eq_1 @cZ)) ?_;intro K hK)|(refine hK _ ?_;clear hK K)|(refine Xi ?_ ?_<;>try intro ht)|refine Xy ?_|refine Xd ?_ ?_|exact Xx|fail)
      ((refine Va @cZ ?_)<;>try with_reducible intro K hK)
      refine ic [] hx (by decide) trivial ⟨.pure rfl,fD.Ks tK⟩ ?_
      simp (disch:=omega) only[Ac,↓Pc,simprocAttr,cZ]
      have uw:=(aS.1 aZ).1
      cases sh:p x
      · ((try revert hK K);(repeat' (first|refine Va (X5 @aZ @ik @fL @gI (X5 @Kr @aU.eq_1 @iS @sh (X2 @cZ @Bool.not_false))) ?_|(refine Xi ?_ ?_<;>try intro ht)|exact Xx|fail)))
        all_goals try (exfalso;simp_all;done)
        all_goals
          exact ak _ (j+1,i+1,Y.set i x,ob.set b (.arr 4 (rowsOf aU (Y.set i x)++rest))++[.var (aU x)]) ⟨by dsimp only;omega,by dsimp only;omega,by simpa using hY,by
            dsimp only
            rw[cS,GF,k8,WL (by omega)]
            simp[sh],fun k hk=>by
            dsimp only at hk ⊢
            rw[ay,bu (by omega),← ay]
            exact rT k (by omega),jP.step _ _,a7 (jk aZ) _⟩ (by dsimp only;omega) (Xv @aU.eq_1)
      · ((try revert hK K);(repeat' (first|refine Va (X5 @aZ @ik @fL @gI (X3 @sh @cZ @Bool.not_true)) ?_|(refine Xi ?_ ?_<;>try intro ht)|exact Xx|fail)))
        all_goals try (exfalso;simp_all;done)
        all_goals
          exact ak _ (j+1,i,Y,ob++[.var (aU x)]) ⟨by dsimp only;omega,by dsimp only;omega,hY,by
            dsimp only
            rw[cS,GF,k8]
            simp[sh],fun k hk=>rT k (by dsimp only at hk;omega),jP.app _,by dsimp only;rw[pO];exact a7 aZ _⟩ (by dsimp only;omega) (Xv @aU.eq_1)
    · obtain rfl:j=xs.length:=by omega
      rw[List.take_length] at k8
      ((repeat' (first|refine Va (X2 @aZ @gI) ?_|(refine Xi ?_ ?_<;>try intro ht)|exact Xx|fail)))
      refine aq _ _ rfl ?_;clear ak aq Ql
      repeat (refine Xu ?_)
      have k7:=fun y=>jk (y:=y) aZ
      have Kt:∀ row∈(rowsOf aU Y++rest).drop (i+(xs.length - i)),row.length=4:=fun row hr=>by
        rcases cy.1 (List.mem_of_mem_drop hr) with h | h
        · exact fZ _ row h
        · exact hw row h
      refine Va (X5 @aZ @gI @k7 @Option.map_none.{0,0} @Option.map_some.{0,0}) ?_
      unfold gH
      simp only[ei,ee]
      simp (disch:=omega) only[Ac,↓Pc,simprocAttr]
      have fi:(xs.filter fun x=>!p x).length=i:=by rw[k8,List.length_take];omega
      refine⟨_,_,⟨by rw[fi],by have:=jP.step (.arr 4 ((rowsOf aU Y++rest).take i++bq (xs.length - i) [.lit (.int .i64 0),.lit (.slice none 0 0),.lit (.int .i64 0),.lit (.int .i64 0)]++(rowsOf aU Y++rest).drop (i+(xs.length - i)))) [];rwa [jc] at this,bq (xs.length - i) [.lit (.int .i64 0),.lit (.slice none 0 0),.lit (.int .i64 0),.lit (.int .i64 0)]++(rowsOf aU Y++rest).drop (i+(xs.length - i)),?_,fun row hr=>?_⟩,gR rfl (by rw[bm];exact jP.1) rfl⟩
      · rw[k7,← List.append_assoc,k8]
        congr 4
        unfold rowsOf
        rw[List.map_take,List.take_append_of_le_length (by rw[dU];omega)]
      · rcases cy.1 hr with h | h
        · rw[List.eq_of_mem_replicate h];rfl
        · exact Kt row h
def jZ (n:Int):Bool:=decide (n=1099511627776)
def pt (n:Int):Int:=if n=1099511627776 then 1099511627776 else 0
def iA (o:bK):bK:={ o with ch:=o.ch.filter fun c=>jZ c.2 }
def kA (p:Pr):Pr:={ p with ax:=p.ax.map pt }
def bG (m:ah):ah:=⟨m.cls.map fun l=>l.map iA,m.ae.map kA,m.au.filter fun c=>jZ c.bE,m.rules⟩
theorem Ku (m:ah) (j:Nat):((bG m).cls.getD j default).length=(m.cls.getD j default).length:=by
  unfold bG
  dsimp only
  rw[ay,bN,ay]
  cases m.cls[j]? with
  | none=>rfl
  | some l=>simp
theorem Ar (m:ah):(bG m).cls.length=m.cls.length:=by unfold bG;simp
theorem afK (m:ah) (c o:Int):eP (bG m) c o=eP m c o:=by unfold eP;rw[Ar,Ku]
theorem WN (m:ah):∀ (l:List Ld) (q:Option Ld),dR (bG m) q l=dR m q l
  | [],q=>by cases q<;>rfl
  | x::r,q=>by
    rw[dR.eq_def,dR.eq_def m]
    dsimp only
    rw[afK,WN m r]
theorem WO {m:ah}:∀ (l:List Pr) (q:Option Pr),eI m q l=true→eI (bG m) (q.map kA) (l.map kA)=true
  | [],q,_=>by cases q<;>rfl
  | p::r,q,h=>by
    rw[eI.eq_def] at h
    simp only[bh] at h
    obtain ⟨⟨a,b⟩,c⟩:=h
    rw[cR,eI.eq_def]
    simp only[bh]
    refine⟨⟨?_,?_⟩,WO r (some p) c⟩
    · unfold fJ at *
      simp only[bh,decide_eq_true_eq] at a ⊢
      rw[Ar,show (kA p).fst=p.fst from rfl,show (kA p).snd=p.snd from rfl,Ku,Ku]
      obtain ⟨⟨a1,a2⟩,a3⟩:=a
      refine⟨⟨a1,a2.1,a2.2.1,a2.2.2.1,by show ((p.ax.map pt).length:Int)=_;rw[dU];exact a2.2.2.2⟩,?_⟩
      have:(kA p).ax.any nt=false:=List.any_eq_false.2 fun x hx=>by
        obtain ⟨y,hy,rfl⟩:=b7.1 hx
        unfold pt
        split<;>decide
      rw[this];rfl
    · cases q with
      | none=>rfl
      | some q=>exact b
theorem Bm {m:ah} (h:VM m):VM (bG m):=by
  refine⟨by rw[Ar];exact h.cls,fun l hl=>?_,by show (m.ae.map kA).length≤4000;rw[dU];exact h.ae,Nat.le_trans (List.length_filter_le _ _) h.au,h.nx,fun l hl o ho=>?_,WO m.ae none h.pr,fun c hc=>?_⟩
  · obtain ⟨l',il,rfl⟩:=b7.1 hl
    rw[dU];exact h.opt _ il
  · obtain ⟨l',il,rfl⟩:=b7.1 hl
    obtain ⟨o',cf,rfl⟩:=b7.1 ho
    exact IA _ (h.nu _ il _ cf)
  · have jA:=h.ct c (yy.1 hc).1
    unfold gV at *
    rw[WN];exact jA
def Zf (n:Int):Prop:=n=0∨1099511627776≤n
theorem F2 {f:Nat→Int}:∀ (n:Nat),(∀ i,i<n→Zf (f i))→Zf (bz f n)
  | 0,_=>.inl rfl
  | n+1,h=>by
    have h1:=F2 n fun i hi=>h i (by omega)
    have h2:=h n (oP n)
    unfold Zf at *
    rw[bz];omega
theorem afL (o:bK):Zf (od (iA o)):=by
  have h:∀ (l:List Int) (a:Int),(∀ x∈l,x=1099511627776)→(a=0∨a=1099511627776)→(l.foldl dQ a=0∨l.foldl dQ a=1099511627776):=by
    intro l
    induction l with
    | nil=>intro a _ h;exact h
    | cons x l ih =>
      intro a h1 h2
      refine ih _ (fun y hy=>h1 y (by simp[hy])) (.inr ?_)
      rw[h1 x (by simp)]
      unfold dQ;omega
  have:=h ((iA o).ch.map (·.2)) 0 (fun x hx=>by
    obtain ⟨c,hc,rfl⟩:=b7.1 hx
    have:=(yy.1 hc).2
    unfold jZ at this
    simpa using this) (.inl rfl)
  unfold od Zf
  omega
theorem afM {m:ah} (hm:VM m) {plan:List Int} (hp:FP (bG m) plan):lF (bG m) plan=0∨lF (bG m) plan=1099511627776:=by
  unfold lF
  rw[Jh (Bm hm) hp]
  have h1:Zf (bz (pU (bG m) plan) (bG m).cls.length):=F2 _ fun i hi=>by
    unfold pU
    have hg:=iy.1 (hp.get i (by rw[hp.len];exact hi))
    rw[Int.toNat_natCast] at hg
    have hc:(bG m).cls.getD i default=(m.cls.getD i default).map iA:=iu _ _ _ (by rw[Ar] at hi;exact hi)
    rw[hc] at hg ⊢
    rw[dU] at hg
    rw[iu _ _ _ (by omega)]
    exact afL _
  have h2:Zf (bz (fun i=>oA (bG m) plan ((bG m).ae.getD i default)) (bG m).ae.length):=F2 _ fun i hi=>by
    have hc:(bG m).ae.getD i default=kA (m.ae.getD i default):=iu _ _ _ (by simpa [bG] using hi)
    rw[hc]
    unfold oA nB
    generalize (_:Int).toNat=k
    show Zf (((m.ae.getD i default).ax.map pt).getD k 0)
    rw[ay,bN]
    cases (m.ae.getD i default).ax[k]? with
    | none=>exact .inl rfl
    | some x=>show Zf (pt x);unfold pt Zf;split<;>omega
  have h3:Zf (bz (fun i=>kx plan ((bG m).au.getD i default)) (bG m).au.length):=F2 _ fun i hi=>by
    have hc:=(yy.1 (az (d:=default) hi)).2
    unfold jZ at hc
    rw[decide_eq_true_eq] at hc
    unfold kx kP
    rw[show ((bG m).au.getD i default).bE=1099511627776 from hc]
    split
    · exact .inl rfl
    · right;omega
  unfold Zf at *
  omega
theorem aag {m:ah} (hm:VM m):(gu (bG m) (bG m).cls.length []).2=0∨(gu (bG m) (bG m).cls.length []).2=1099511627776 :=
  J2 (fun z=>z.2=0∨z.2=1099511627776) (.inr rfl) _ [] (J3 _) (by simp) fun q hq _=>afM hm hq.1
theorem WQ:∀ (l k:List (List bK)) (n:Int),l.map nL=k.map nL→pj l n=pj k n
  | [],[],n,_=>rfl
  | [],b::k,n,h=>by simp at h
  | a::l,[],n,h=>by simp at h
  | a::l,b::k,n,h=>by
    simp only[cR,List.cons.injEq] at h
    rw[pj,pj,h.1]
    split
    · rfl
    · exact WQ l k _ h.2
theorem aae {m:ah} (hm:VM m):nr (bG m)=nr m:=by
  unfold nr
  rw[if_pos (iJ.2 hm),if_pos (iJ.2 (Bm hm))]
  refine WQ _ _ _ ?_
  show (m.cls.map fun l=>l.map iA).map nL=_
  rw[List.map_map]
  exact lP fun l _=>by simp
theorem WR (x:Int × Int):ao Tryz.prog 48 [.agg (aG x)] [] (.lit (.bool (!jZ x.2))) []:=by
  unfold jZ
  refine ao.aF (fn:=Tryz.f48) 6 0 [.tmp 2] Tryz.func48 rfl rfl rfl rfl rfl (by simp) ?_
  refine Vb @aG.eq_1 ?_
  exact aC rfl rfl
theorem afN (x:Ct):ao Tryz.prog 50 [.agg (aU x)] [] (.lit (.bool (!jZ x.bE))) []:=by
  unfold jZ
  refine ao.aF (fn:=Tryz.f50) 6 0 [.tmp 2] Tryz.func50 rfl rfl rfl rfl rfl (by simp) ?_
  refine Vb @aU.eq_1 ?_
  exact aC rfl rfl
theorem afO (g:FuncId) (hg:∀ x:Int × Int,ao Tryz.prog g [.agg (aG x)] [] (.lit (.bool (!jZ x.2))) []):ao Tryz.prog 47 [.tree 2 [],.fn g []] [] (.tree 2 []) []:=by
  have e7:=WS [] g [] [] (fun x=>!jZ x.2) (by decide) (fun x hx=>by cases hx)
  rw[show fy (fun x:Int × Int=>!jZ x.2) 0 [] = -1 from rfl,show rowsOf aG []=[] from rfl] at e7
  refine ao.aF (fn:=Tryz.f47) 42 0 [.tmp 4] Tryz.func47 rfl rfl rfl rfl rfl (by simp) ?_
  ((repeat' (first|refine Vd X0 e7 ?_|(refine Xi ?_ ?_<;>try intro ht)|exact Xx|fail)))
  exact aC rfl rfl
theorem NQ (m:ah) (hm:MB m) (hv:dI m≠0):ao Tryz.prog 15 [.agg (ar m)] [] (.bL [.agg zM,.lit (.int .i64 (dI m))]) []:=by
  have h1:=vI m hm
  generalize dI m=e at *
  unfold zM
  refine ao.aF (fn:=Tryz.f15) 73 0 [.cell 2 29,.tmp 3] Tryz.func15 rfl rfl rfl rfl rfl (by simp) ?_
  ((repeat' (first|refine Vd X0 h1 ?_|(refine Xi ?_ ?_<;>try intro ht)|exact Xx|fail)))
  all_goals
    simp (disch:=omega) only[Ac,↓Pc,simprocAttr,rowOf]
    exact aC rfl rfl
theorem afP (o:bK):iB (iA o)=iB o:=rfl
theorem afQ (A:Nat→List AV) (C:Nat→AV) {n k:Nat} (hk:k<n) (v:AV):((aT n).map fun q=>A q++[C q]).set k (A k++[v])=(aT n).map fun q=>A q++[if q=k then v else C q]:=by
  rw[afR]
  refine lP fun q _=>?_
  by_cases e:q=k
  · subst e;rw[if_pos rfl,if_pos rfl]
  · rw[if_neg e,if_neg e]
theorem WT {L:List bK} {q:Nat} (hq:q<L.length):(L.map iA).getD q default=iA (L.getD q default):=iu _ _ _ hq
theorem afS {L:List bK} {os:List Ob} {l r ac hi:Nat} {C:Nat→AV} (Ad:ac<r)
    (h:cg 6 (fun q=>uZ (if q<L.length then (iA (L.getD q default)).ch else (L.getD q default).ch)) os ac l hi L.length (fun q=>iB (L.getD q default)) C):u3 (L.map iA) os l r (.ref ac 6 0 L.length):=by
  refine⟨ac,hi,C,by rw[dU],Ad,?_⟩
  rw[dU]
  refine h.As (fun q hq=>?_) (fun _ _=>rfl) (fun q hq os l r v hv=>?_)
  · rw[WT hq,afP]
  · rw[WT hq]
    rw[if_pos hq] at hv
    exact hv
theorem HU (m:ah) (hm:VM m):ao Tryz.prog 15 [.agg (ar m)] [] (.bL [.agg (ar (bG m)),.lit (.int .i64 0)]) []:=by
  have h1:=vI m hm.mb
  rw[iJ.2 hm] at h1
  have WU:=afT m hm
  have mc:=hm.cls
  have xU:=hm.ae
  have ht4:=hm.au
  refine ao.aF (fn:=Tryz.f15) 73 0 [.cell 2 29,.tmp 3] Tryz.func15 rfl rfl rfl rfl rfl (by simp) ?_
  repeat' (first|((fail_if_success (first|refine im 4 ?_|refine iq 4 ?_));refine Xq X0 ?_;intro K hK)|refine Xo X0 ?_|refine Xc (h1) ?_|(refine hK _ ?_;clear hK K)|(refine Xi ?_ ?_<;>try intro ht)|refine Xy ?_|exact Xx|fail)
  refine cA (aA.vN 1 0 (cells:=ar m) (by rfl) (by simp only[Kc,simprocAttr]) (by simp[ar])) ?_
  refine cA (σ':=⟨av [(1,.db (ar m)),(2,.ptr 0 0 0),(3,.lit (.int .i64 0))],[.var zM]⟩) (Xs false [1] @zM.eq_1) ?_
  refine sV 1 (by decide) _ rfl ?_
  intro K hK
  simp (disch:=omega) only[Ac,↓Pc,simprocAttr,lR,ly,ar]
  refine⟨rfl,(show nm Tryz.prog 46 [.agg (ar m)] (some 20) _ _ from ?_)⟩
  refine xN WU ?_
  rintro r os ⟨f0,a,b,d,rfl,w5,C,l2,h2,C2,hC,hP,ahN,hd,Vj⟩
  refine⟨Nat.succ_le_of_lt (aS.1 f0).1,?_⟩
  have ahO:=(aS.1 f0).1
  have Ke:=hC.len
  have afV:=hP.len
  have ahP:=(aS.1 hd).1
  simp (disch:=omega) only[Ac,↓Pc,simprocAttr,cZ]
  refine hK _ ?_;clear hK K
  repeat (refine Xu ?_)
  have gq:(os++[Ob.var [.ref a 1 0 m.cls.length,.ref b 4 0 m.ae.length,.ref d 4 0 m.au.length,.lit (.int .i64 m.rules)]])[os.length]?=some (.var [.ref a 1 0 m.cls.length,.ref b 4 0 m.ae.length,.ref d 4 0 m.au.length,.lit (.int .i64 m.rules)]):=jO _ _ _
  have F3:=cg.same (fun c=>tL _) hC (eJ.app (by have:=hC.at_;omega) [Ob.var [.ref a 1 0 m.cls.length,.ref b 4 0 m.ae.length,.ref d 4 0 m.au.length,.lit (.int .i64 m.rules)]] _) (cj Ke)
  have Kv:=cg.same (fun c=>u4 _) hP (eJ.app (by have:=hP.at_;omega) [Ob.var [.ref a 1 0 m.cls.length,.ref b 4 0 m.ae.length,.ref d 4 0 m.au.length,.lit (.int .i64 m.rules)]] _) (cj afV)
  have f1:=a7 f0 [Ob.var [.ref a 1 0 m.cls.length,.ref b 4 0 m.ae.length,.ref d 4 0 m.au.length,.lit (.int .i64 m.rules)]]
  have gd:=a7 hd [Ob.var [.ref a 1 0 m.cls.length,.ref b 4 0 m.ae.length,.ref d 4 0 m.au.length,.lit (.int .i64 m.rules)]]
  have hql:os.length+1≤(os++[Ob.var [.ref a 1 0 m.cls.length,.ref b 4 0 m.ae.length,.ref d 4 0 m.au.length,.lit (.int .i64 m.rules)]]).length:=by simp
  clear hC hP f0 hd WU
  have WV:=F3.at_
  have F4:=Kv.at_
  have F5:=Kv.q8
  generalize os++[Ob.var [.ref a 1 0 m.cls.length,.ref b 4 0 m.ae.length,.ref d 4 0 m.au.length,.lit (.int .i64 m.rules)]]=o1 at *
  generalize os.length=q at *
  have ka:=F3.arr
  refine cA (σ':=⟨av [(2,.ptr 0 0 0),(5,.ptr q 0 0)],o1⟩) (Xv X0) ?_
  refine Va (X2 @gq @ka) ?_
  refine aI (fun z:Nat × List Ob=>(⟨av [(2,.ptr 0 0 0),(5,.ptr q 0 0),(22,.ref a 1 0 m.cls.length),(23,.lit (.int .i64 m.cls.length)),(24,.lit (.int .i64 z.1))],z.2⟩:St))
    (fun z=>z.1≤m.cls.length∧eJ w5 (q+1) o1 z.2∧z.2[0]?=some (.var zM)∧q+1≤z.2.length∧cg 1 (fun c=>u3 (if c<z.1 then (m.cls.getD c default).map iA else m.cls.getD c default)) z.2 a 1 w5 m.cls.length (fun _=>[]) C)
    (fun z=>m.cls.length - z.1) (0,o1) ⟨aD _,fun _ _ _=>rfl,f1,hql,F3⟩ (Xv X0) ?_
  rintro ⟨i,ob⟩ ⟨hi,gU,k0,dx,F6⟩ Ql ak aq
  dsimp only at hi gU k0 dx F6 ⊢
  by_cases hi':i<m.cls.length
  · have fY:=az (d:=default) hi'
    have qG:=hm.opt _ fY
    have CP:=fun o ho=>WW hm fY (o:=o) ho
    obtain ⟨l,r,hl,hr,hO,zd⟩:=F6.at (fun c=>tL _) hi'
    have Kw:u3 (m.cls.getD i default) ob l r (C i):=by
      have:=hO
      rw[if_neg (wK i)] at this
      exact this
    clear hO
    obtain ⟨ac,hi3,CC,WX,Ad,hR⟩:=Kw
    have ahQ:=hR.len
    have ahR:=hR.at_
    have ahS:=hR.q8
    have yk:=F6.arr
    have tM:((aT m.cls.length).map fun c=>([]:List AV)++[C c])[i]?=some [AV.ref ac 6 0 (m.cls.getD i default).length]:=by
      rw[tN _ hi',WX];rfl
    have gI:=yl (fun c=>([]:List AV)++[C c]) m.cls.length
    have hr6:=hR.arr
    generalize zi:(aT m.cls.length).map (fun c=>([]:List AV)++[C c])=R1 at yk tM gI
    generalize hLL:m.cls.getD i default=L at *
    ((repeat' (first|refine Va (X4 @yk @tM @gI @hr6) ?_|(refine Xi ?_ ?_<;>try intro ht)|exact Xx|fail)))
    refine aI (fun z:Nat × List Ob=>(⟨av [(2,.ptr 0 0 0),(5,.ptr q 0 0),(22,.ref a 1 0 m.cls.length),(23,.lit (.int .i64 m.cls.length)),(24,.lit (.int .i64 i)),(7,.ref ac 6 0 L.length),(28,.ref ac 6 0 L.length),(29,.lit (.int .i64 L.length)),(30,.lit (.int .i64 z.1))],z.2⟩:St))
      (fun z=>z.1≤L.length∧ob.length≤z.2.length∧(∀ j,j<ob.length→(j<l∨r≤j)→z.2[j]?=ob[j]?)∧∃ CC,cg 6 (fun q=>uZ (if q<z.1 then (iA (L.getD q default)).ch else (L.getD q default).ch)) z.2 ac l hi3 L.length (fun q=>iB (L.getD q default)) CC)
      (fun z=>L.length - z.1) (0,ob) ⟨aD _,aH _,fun _ _ _=>rfl,CC,hR⟩ (Xv X0) ?_
    rintro ⟨k,ot⟩ ⟨hk,hlen,dE,CD,hS⟩ cP a5 a8
    dsimp only at hk hlen dE hS ⊢
    by_cases aP:k<L.length
    · have eh:=az (l:=L) (d:=default) aP
      have ca:=CP _ eh
      obtain ⟨l',r',il,rj,hH,af0⟩:=hS.at (fun q=>F7 _) aP
      have hH2:gW 2 ot l' r' (CD k) (rowsOf aG (L.getD k default).ch):=by
        have:=hH
        unfold uZ at this
        rw[if_neg (wK k)] at this
        exact this
      clear hH
      have fL:=hS.len
      have ahT:=hS.at_
      have F8:=hS.arr
      have u5:((aT L.length).map fun q=>iB (L.getD q default)++[CD q])[k]?=some (iB (L.getD k default)++[CD k]):=tN _ aP
      have F9:=yl (fun q=>iB (L.getD q default)++[CD q]) L.length
      have hRs:=fun v=>afQ (fun q=>iB (L.getD q default)) CD aP v
      have lg:∀ (v:AV) (o2:List Ob),gW 2 o2 l' r' v (rowsOf aG (iA (L.getD k default)).ch)→(∀ j,j<ot.length→(j<l'∨r'≤j)→o2[j]?=ot[j]?)→ot.length≤o2.length→∀ st,
          aA 0 st ⟨av [(2,.ptr 0 0 0),(5,.ptr q 0 0),(22,.ref a 1 0 m.cls.length),(23,.lit (.int .i64 m.cls.length)),(24,.lit (.int .i64 i)),(7,.ref ac 6 0 L.length),(28,.ref ac 6 0 L.length),(29,.lit (.int .i64 L.length)),(30,.lit (.int .i64 (k+1:Nat)))],o2.set ac (.arr 6 (((aT L.length).map fun q=>iB (L.getD q default)++[CD q]).set k (iB (L.getD k default)++[v])))⟩→cP .normal st:=by
        intro v o2 hv ym mJ st cS
        rw[hRs] at cS
        refine a5 st (k+1,o2.set ac (.arr 6 ((aT L.length).map fun q=>iB (L.getD q default)++[if q=k then v else CD q]))) ⟨aP,by dsimp only;rw[bm];omega,fun j h1 h2=>?_,fun q=>if q=k then v else CD q,?_⟩ (by dsimp only;omega) cS
        · dsimp only
          rw[bu (by omega),ym j (by omega) (by omega)]
          exact dE j h1 h2
        · refine af0 _ v _ ?_ ?_ (fun j h1 h2 h3=>?_) (fun j h1 h2 os l r w hw=>?_)
          · exact GC (by omega)
          · show uZ _ _ _ _ _
            rw[if_pos (oP k)]
            exact gW.same hv (eJ.set (.inr (by omega)) _)
          · rw[bu (by omega)]
            exact ym j (by omega) h3
          · show uZ _ _ _ _ _
            by_cases e:j<k
            · rw[if_pos e] at hw
              rw[if_pos (by omega)];exact hw
            · rw[if_neg e] at hw
              rw[if_neg (by omega)];exact hw
      generalize jV:L.getD k default=o at *
      have Kx:iB o=[.lit (.int .i64 o.wk),.lit (.int .i64 o.day),.lit (.int .i64 o.st),.lit (.int .i64 o.len),.lit (.int .i64 o.room)]:=rfl
      rw[Kx] at u5
      generalize pO:(aT L.length).map (fun q=>iB (L.getD q default)++[CD q])=R6 at *
      rcases hH2 with ⟨hv,hx⟩ | ⟨bc,rest,hv,oB,qI,Ag,zy⟩
      · have eB:=afO 48 WR
        rw[hv,hx] at u5
        simp only[dG,dK] at u5
        have CV:o.ch=[]:=by
          have:=congrArg nL hx
          rw[b5] at this
          exact p7 this
        ((repeat' (first|refine Vc (X3 @F8 @u5 @F9) eB ?_|(refine Xi ?_ ?_<;>try intro ht)|exact Xx|fail)))
        exact lg (.tree 2 []) ot (.inl ⟨by unfold iA;rw[CV];rfl,by unfold iA;rw[CV];rfl⟩) (fun _ _ _=>rfl) (aH _) _ (by rw[Kx];exact Xv X0)
      · have eB:=af3 o.ch rest 48 [] (fun c=>!jZ c.2) ot bc Ag (fun row hr=>zy row (by simp[hr])) (by omega) rfl (fun x _=>WR x)
        have Ky:(o.ch.filter fun x=>!(fun c:Int × Int=>!jZ c.2) x)=(iA o).ch:=by
          unfold iA
          dsimp only
          congr 1
          funext x
          exact Bool.not_not _
        rw[Ky] at eB
        rw[hv,b5] at u5
        simp only[dG,dK] at u5
        repeat' (first|((fail_if_success (first|refine im 11 ?_|refine iq 11 ?_));refine Xr (X3 @F8 @u5 @F9) ?_;intro K hK)|(refine hK _ ?_;clear hK K)|(refine Xi ?_ ?_<;>try intro ht)|refine Xy ?_|exact Xx|fail)
        refine sV 7 (by decide) _ rfl ?_
        intro K hK
        simp (disch:=omega) only[Ac,↓Pc,simprocAttr,lR,ly,F8,u5,F9]
        refine⟨⟨by omega,by omega⟩,rfl,(show nm Tryz.prog 47 [.ref bc 2 0 o.ch.length,.fn 48 []] (some 40) _ _ from ?_)⟩
        refine xN eB ?_
        rintro r1 o2 ⟨rfl,u6,uY,aZ,rB⟩
        refine⟨u6.1,?_⟩
        have af4:o2[ac]?=some (.arr 6 R6):=(u6.2 ac (by omega) fL).trans F8
        simp (disch:=omega) only[Ac,↓Pc,simprocAttr,af4,u5,F9]
        refine⟨⟨by omega,by omega⟩,hK _ ?_⟩
        clear hK K
        repeat (refine Xu ?_)
        refine Va X0 ?_
        exact lg (.ref bc 2 0 (iA o).ch.length) o2 (.inr ⟨bc,uY,by rw[b5],oB,qI,aZ,fun row hr=>by
          rcases cy.1 hr with h | h
          · exact fZ _ row h
          · exact rB row h⟩) (fun j h1 h2=>u6.2 j (by omega) h1) u6.1 _ (by rw[Kx];exact Xv X0)
    · obtain rfl:k=L.length:=by omega
      ((repeat' (first|refine Va X0 ?_|(refine Xi ?_ ?_<;>try intro ht)|exact Xx|fail)))
      refine a8 _ _ rfl ?_
      clear a5 a8
      repeat (refine Xu ?_)
      refine Va X0 ?_
      have eM:=(zd (fun c=>u3 (if c<i+1 then (m.cls.getD c default).map iA else m.cls.getD c default)) (C i) ot (by
          rw[dE a (by omega) (by omega),yk,← zi]
          congr 2
          refine lP fun j _=>?_
          by_cases e:j=i
          · rw[if_pos e,e]
          · rw[if_neg e]) (by
          rw[if_pos (oP i),hLL,WX]
          exact afS Ad hS) (fun j h1 h2 h3=>dE j (by omega) h3) (fun j h1 h2 os l r w hw=>by
          by_cases e:j<i
          · rw[if_pos e] at hw
            rw[if_pos (by omega)];exact hw
          · rw[if_neg e] at hw
            rw[if_neg (by omega)];exact hw)).As (C':=C) (Pd':=fun c=>u3 (if c<i+1 then (m.cls.getD c default).map iA else m.cls.getD c default)) (A':=fun _=>[]) (fun _ _=>rfl) (fun j _=>by
          by_cases e:j=i
          · rw[if_pos e,e]
          · rw[if_neg e]) (fun _ _ _ _ _ _ h=>h)
      exact ak _ (i+1,ot) ⟨by dsimp only;omega,fun j h1 h2=>(dE j (by omega) (by omega)).trans (gU j h1 h2),(dE 0 (by omega) (by omega)).trans k0,by dsimp only;omega,eM⟩ (by dsimp only;omega) (Xv X0)
  obtain rfl:i=m.cls.length:=by omega
  ((repeat' (first|refine Va X0 ?_|(refine Xi ?_ ?_<;>try intro ht)|exact Xx|fail)))
  refine aq _ _ rfl ?_;clear ak aq Ql
  repeat (refine Xu ?_)
  clear F3 ka
  have WY:=(gU q (by omega) (by omega)).trans gq
  have gd1:=(gU d (by omega) (by omega)).trans gd
  have WZ:=cg.same (fun c=>u4 _) Kv (gU.mono (by omega) (by omega)) (gU b (by omega) (by omega))
  have n8:=WZ.arr
  have ahU:=yl (fun i=>jb (m.ae.getD i default)++[C2 i]) m.ae.length
  refine Va (X2 @WY @n8) ?_
  refine aI (fun z:Nat × List Ob=>(⟨av [(2,.ptr 0 0 0),(5,.ptr q 0 0),(46,.ref b 4 0 m.ae.length),(47,.lit (.int .i64 m.ae.length)),(48,.lit (.int .i64 z.1))],z.2⟩:St))
    (fun z=>z.1≤m.ae.length∧eJ 0 l2 ob z.2∧eJ h2 (q+1) ob z.2∧q+1≤z.2.length∧cg 4 (fun c=>tO (if c<z.1 then (kA (m.ae.getD c default)).ax else (m.ae.getD c default).ax)) z.2 b l2 h2 m.ae.length (fun c=>jb (m.ae.getD c default)) C2)
    (fun z=>m.ae.length - z.1) (0,ob) ⟨aD _,fun _ _ _=>rfl,fun _ _ _=>rfl,dx,WZ⟩ (Xv X0) ?_
  rintro ⟨i,ot⟩ ⟨hi,jL,iD,hlen,CW⟩ Ql ak aq
  dsimp only at hi jL iD hlen CW ⊢
  by_cases hi':i<m.ae.length
  · have tD:=az (l:=m.ae) (d:=default) hi'
    have dz:=Kz hm tD
    obtain ⟨l,r,hl,hr,hO,zd⟩:=CW.at (fun c=>u4 _) hi'
    have Kw:gW 1 ot l r (C2 i) (ints (m.ae.getD i default).ax):=by
      have:=hO
      unfold tO at this
      rw[if_neg (wK i)] at this
      exact this
    clear hO
    have yk:=CW.arr
    have af6:=CW.len
    have tM:((aT m.ae.length).map fun c=>jb (m.ae.getD c default)++[C2 c])[i]?=some (jb (m.ae.getD i default)++[C2 i]):=tN _ hi'
    have gI:=yl (fun c=>jb (m.ae.getD c default)++[C2 c]) m.ae.length
    have lg:∀ o2:List Ob,gW 1 o2 l r (C2 i) (ints (kA (m.ae.getD i default)).ax)→(∀ j,j<ot.length→(j<l∨r≤j)→o2[j]?=ot[j]?)→ot.length≤o2.length→∀ st,
        aA 0 st ⟨av [(2,.ptr 0 0 0),(5,.ptr q 0 0),(46,.ref b 4 0 m.ae.length),(47,.lit (.int .i64 m.ae.length)),(48,.lit (.int .i64 (i+1:Nat)))],o2⟩→Ql .normal st:=by
      intro o2 hv ym mJ st cS
      have eM:=(zd (fun c=>tO (if c<i+1 then (kA (m.ae.getD c default)).ax else (m.ae.getD c default).ax)) (C2 i) o2 (by
          rw[ym b af6 (by omega),yk]
          congr 2
          refine lP fun j _=>?_
          by_cases e:j=i
          · rw[if_pos e,e]
          · rw[if_neg e]) (by
          show tO _ _ _ _ _
          rw[if_pos (oP i)]
          exact hv) (fun j h1 h2 h3=>ym j (by omega) h3) (fun j h1 h2 os l r w hw=>by
          show tO _ _ _ _ _
          by_cases e:j<i
          · rw[if_pos e] at hw
            rw[if_pos (by omega)];exact hw
          · rw[if_neg e] at hw
            rw[if_neg (by omega)];exact hw)).As (C':=C2) (Pd':=fun c=>tO (if c<i+1 then (kA (m.ae.getD c default)).ax else (m.ae.getD c default).ax)) (A':=fun c=>jb (m.ae.getD c default)) (fun _ _=>rfl) (fun j _=>by
          by_cases e:j=i
          · rw[if_pos e,e]
          · rw[if_neg e]) (fun _ _ _ _ _ _ h=>h)
      exact ak st (i+1,o2) ⟨hi',fun j h1 h2=>(ym j (by omega) (by omega)).trans (jL j h1 h2),fun j h1 h2=>(ym j (by omega) (by omega)).trans (iD j h1 h2),by dsimp only;omega,eM⟩ (by dsimp only;omega) cS
    clear zd
    generalize bT:m.ae.getD i default=p at *
    have Fk:jb p=[.lit (.int .i64 p.fst),.lit (.int .i64 p.snd),.lit (.int .i64 p.cB)]:=rfl
    rw[Fk] at tM
    simp only[dG,dK] at tM
    generalize pO:(aT m.ae.length).map (fun c=>jb (m.ae.getD c default)++[C2 c])=R2 at *
    rcases Kw with ⟨hv,hx⟩ | ⟨tb,rest,hv,oB,qI,Ag,zy⟩
    · have ht0:p.ax=[]:=by
        have:=congrArg nL hx
        rw[m8] at this
        exact p7 this
      rw[hv] at tM
      rw[ht0] at tM
      ((repeat' (first|refine Va (X4 @yk @tM @gI @cZ) ?_|(refine Xi ?_ ?_<;>try intro ht)|exact Xx|fail)))
      refine aI (fun z:Unit=>(⟨av [(2,.ptr 0 0 0),(5,.ptr q 0 0),(46,.ref b 4 0 m.ae.length),(47,.lit (.int .i64 m.ae.length)),(48,.lit (.int .i64 i)),(54,.lit (.int .i64 0)),(55,.lit (.int .i64 0))],ot++[.var [.lit (.int .i64 p.fst),.lit (.int .i64 p.snd),.lit (.int .i64 p.cB),.tree 1 (ints [])]]⟩:St)) (fun _=>True) (fun _=>0) () trivial (Xv X0) ?_
      rintro ⟨⟩ _ cP a5 a8
      ((repeat' (first|refine Va X0 ?_|(refine Xi ?_ ?_<;>try intro ht)|exact Xx|fail)))
      refine a8 _ _ rfl ?_
      clear a5 a8
      repeat (refine Xu ?_)
      refine Va X0 ?_
      refine lg (ot++[.var [.lit (.int .i64 p.fst),.lit (.int .i64 p.snd),.lit (.int .i64 p.cB),.tree 1 (ints [])]]) (.inl ⟨?_,?_⟩) (fun j h1 _=>cj h1) (by simp) _ (Xv X0)
      · rw[hv,ht0];unfold kA;rw[ht0];rfl
      · unfold kA;rw[ht0];rfl
    · rw[m8] at hv
      rw[hv] at tM
      have wi:=(aS.1 Ag).1
      have W0:=a7 Ag
      ((repeat' (first|refine Va (X5 @yk @tM @gI @cZ @W0) ?_|(refine Xi ?_ ?_<;>try intro ht)|exact Xx|fail)))
      have qf:(ot++[Ob.var [.lit (.int .i64 p.fst),.lit (.int .i64 p.snd),.lit (.int .i64 p.cB),.ref tb 1 0 p.ax.length]])[ot.length]?=some (.var [.lit (.int .i64 p.fst),.lit (.int .i64 p.snd),.lit (.int .i64 p.cB),.ref tb 1 0 p.ax.length]):=jO _ _ _
      refine aI (fun z:Nat × List Int × List Ob=>(⟨av [(2,.ptr 0 0 0),(5,.ptr q 0 0),(46,.ref b 4 0 m.ae.length),(47,.lit (.int .i64 m.ae.length)),(48,.lit (.int .i64 i)),(10,.ptr ot.length 0 0),(53,.ref tb 1 0 p.ax.length),(54,.lit (.int .i64 p.ax.length)),(55,.lit (.int .i64 z.1))],z.2.2⟩:St))
        (fun z=>z.1≤p.ax.length∧z.2.1.length=p.ax.length∧(∀ j,j<p.ax.length→z.2.1.getD j 0=if j<z.1 then pt (p.ax.getD j 0) else p.ax.getD j 0)∧my tb (ot++[Ob.var [.lit (.int .i64 p.fst),.lit (.int .i64 p.snd),.lit (.int .i64 p.cB),.ref tb 1 0 p.ax.length]]) z.2.2∧z.2.2[tb]?=some (.arr 1 (ints z.2.1++rest)))
        (fun z=>p.ax.length - z.1) (0,p.ax,ot++[Ob.var [.lit (.int .i64 p.fst),.lit (.int .i64 p.snd),.lit (.int .i64 p.cB),.ref tb 1 0 p.ax.length]]) ⟨aD _,rfl,fun _ _=>by simp,my.refl _ _,W0 _⟩ (Xv X0) ?_
      rintro ⟨k,X,ox⟩ ⟨hk,hX,eN,jP,aZ⟩ cP a5 a8
      dsimp only at hk hX eN jP aZ ⊢
      have A3:ox[ot.length]?=some (.var [.lit (.int .i64 p.fst),.lit (.int .i64 p.snd),.lit (.int .i64 p.cB),.ref tb 1 0 p.ax.length]):=(jP.2 _ (by omega) (by simp)).trans qf
      by_cases aP:k<p.ax.length
      · have a6:(ints X++rest)[k]?=some [.lit (.int .i64 (p.ax.getD k 0))]:=by
          have h5:=eN k aP
          rw[if_neg (wK k)] at h5
          rw[cj (by rw[m8];omega),← h5]
          unfold ints
          rw[bN,ay,bI (by omega)];rfl
        have cK:(ints X++rest).length=p.ax.length+rest.length:=by rw[bJ,m8,hX]
        have iS:(ints X++rest).set k [.lit (.int .i64 0)]=ints (X.set k 0)++rest:=by
          rw[Gs _ _ (by rw[m8];omega)]
          unfold ints
          rw[← List.map_set]
        generalize bA:p.ax.getD k 0=x at *
        have xP:∀ j,j<p.ax.length→j≠k→X.getD j 0=if j<k+1 then pt (p.ax.getD j 0) else p.ax.getD j 0:=fun j h1 h2=>by
          rw[eN j h1]
          by_cases e:j<k
          · rw[if_pos e,if_pos (by omega)]
          · rw[if_neg e,if_neg (by omega)]
        by_cases hF:x=1099511627776
        · ((repeat' (first|refine Va (X4 @A3 @aZ @a6 @cK) ?_|(refine Xi ?_ ?_<;>try intro ht)|exact Xx|fail)))
          all_goals try (exfalso;simp_all;done)
          all_goals
            refine a5 _ (k+1,X,ox) ⟨aP,hX,fun j hj=>?_,jP,aZ⟩ (by dsimp only;omega) (Xv X0)
            by_cases e:j=k
            · subst e
              have:=eN j hj
              dsimp only
              rw[this,bA,if_neg (wK _),if_pos (oP _),hF];rfl
            · exact xP j hj e
        · ((repeat' (first|refine Va (X5 @A3 @aZ @a6 @cK @iS) ?_|(refine Xi ?_ ?_<;>try intro ht)|exact Xx|fail)))
          all_goals try (exfalso;simp_all;done)
          all_goals
            refine a5 _ (k+1,X.set k 0,ox.set tb (.arr 1 (ints (X.set k 0)++rest))) ⟨aP,by dsimp only;rw[bm];exact hX,fun j hj=>?_,by have:=jP.step (.arr 1 (ints (X.set k 0)++rest)) [];rwa [jc] at this,jk aZ⟩ (by dsimp only;omega) (Xv X0)
            dsimp only
            by_cases e:j=k
            · subst e
              rw[ay,GC (by omega),bA,if_pos (oP _)]
              unfold pt;rw[if_neg hF];rfl
            · rw[ay,bu (Ne.symm e),← ay]
              exact xP j hj e
      · obtain rfl:k=p.ax.length:=by omega
        ((repeat' (first|refine Va X0 ?_|(refine Xi ?_ ?_<;>try intro ht)|exact Xx|fail)))
        refine a8 _ _ rfl ?_
        clear a5 a8
        repeat (refine Xu ?_)
        refine Va X0 ?_
        have KA:X=p.ax.map pt:=by
          apply ju
          intro j
          by_cases e:j<p.ax.length
          · have:=eN j e
            rw[if_pos e,ay,ay,bI (by omega),bI e] at this
            rw[bN,bI (by omega),bI e]
            simpa using this
          · rw[du (by omega),du (by simpa using e)]
        refine lg ox ?_ (fun j h1 h2=>(jP.2 j (by omega) (by simp;omega)).trans (cj h1)) (by have:=jP.1;simp at this;omega) _ (Xv X0)
        refine .inr ⟨tb,rest,?_,oB,qI,?_,fun row uv=>?_⟩
        · rw[hv,m8];unfold kA;simp
        · rw[aZ,KA];rfl
        · rcases cy.1 uv with h | h
          · exact qq _ row h
          · exact zy row (by simp[h])
  obtain rfl:i=m.ae.length:=by omega
  ((repeat' (first|refine Va X0 ?_|(refine Xi ?_ ?_<;>try intro ht)|exact Xx|fail)))
  refine aq _ _ rfl ?_;clear ak aq Ql
  repeat (refine Xu ?_)
  have W1:=(iD q (by omega) (by omega)).trans WY
  have gd2:=(iD d (by omega) (by omega)).trans gd1
  have k2:=(jL 0 (by omega) (by omega)).trans k0
  have W2:=cg.same (fun c=>tL _) F6 (jL.mono (by omega) (by omega)) (jL a (by omega) (by omega))
  have W3:=afJ m.au [] 50 [] (fun c=>!jZ c.bE) ot d (by rw[jc];exact gd2) (fun row hr=>by cases hr) (by omega) rfl (fun x _=>afN x)
  have Ky:(m.au.filter fun x=>!(fun c:Ct=>!jZ c.bE) x)=(bG m).au:=by
    unfold bG
    dsimp only
    congr 1
    funext x
    exact Bool.not_not _
  rw[Ky] at W3
  refine Xy ?_
  refine sV 2 (by decide) _ rfl ?_
  intro K hK
  simp (disch:=omega) only[Ac,↓Pc,simprocAttr,lR,ly,W1]
  refine⟨rfl,(show nm Tryz.prog 49 [.ref d 4 0 m.au.length,.fn 50 []] (some 70) _ _ from ?_)⟩
  refine xN W3 ?_
  rintro r1 o2 ⟨rfl,u6,uY,aZ,rB⟩
  refine⟨u6.1,?_⟩
  have W4:o2[q]?=_:=(u6.2 q (by omega) (by omega)).trans W1
  have k3:o2[0]?=_:=(u6.2 0 (by omega) (by omega)).trans k2
  have W5:=fun y=>jk (y:=y) W4
  simp (disch:=omega) only[Ac,↓Pc,simprocAttr,W4,W5]
  refine hK _ ?_
  clear hK K
  repeat (refine Xu ?_)
  have we:=(aS.1 aZ).1
  have k4:∀ Y,(o2.set q Y)[0]?=some (.var zM):=fun Y=>(bu (by omega)).trans k3
  have hS:∀ (Y Z:Ob) (lo hi:Nat),1≤lo→hi≤d→eJ lo hi ot ((o2.set q Y).set 0 Z):=fun Y Z lo hi h1 h2 j j1 j2=>by
    rw[bu (by omega),bu (by omega)]
    exact u6.2 j (by omega) (by omega)
  have hfC:∀ Y Z,Au (bG m).cls ((o2.set q Y).set 0 Z) a 1 w5 (bG m).cls.length C:=fun Y Z=>by
    unfold Au
    rw[Ar]
    refine cg.As (cg.same (fun c=>tL _) W2 (hS Y Z _ _ (aH _) (by omega)) (hS Y Z a (a+1) (by have:=W2.q8;omega) (by omega) a (aH _) (oP _))) (fun _ _=>rfl) (fun _ _=>rfl) (fun c hc os l r v hv=>?_)
    rw[if_pos hc] at hv
    have e:(bG m).cls.getD c default=(m.cls.getD c default).map iA:=iu _ _ _ hc
    rw[e];exact hv
  have hfP:∀ Y Z,CX (bG m).ae ((o2.set q Y).set 0 Z) b l2 h2 (bG m).ae.length C2:=fun Y Z=>by
    unfold CX
    rw[show (bG m).ae.length=m.ae.length by simp[bG]]
    refine cg.As (cg.same (fun c=>u4 _) CW (hS Y Z _ _ (by omega) (by omega)) (hS Y Z b (b+1) (by omega) (by omega) b (aH _) (oP _))) (fun c hc=>?_) (fun _ _=>rfl) (fun c hc os l r v hv=>?_)
    · have e:(bG m).ae.getD c default=kA (m.ae.getD c default):=iu _ _ _ hc
      rw[e];rfl
    · have oU:tO _ os l r v:=hv
      rw[if_pos hc] at oU
      have e:(bG m).ae.getD c default=kA (m.ae.getD c default):=iu _ _ _ hc
      rw[e];exact oU
  have hfD:∀ Y Z,gW 4 ((o2.set q Y).set 0 Z) d (d+1) (.ref d 4 0 (bG m).au.length) (rowsOf aU (bG m).au):=fun Y Z =>
    .inr ⟨d,uY,by rw[b5],aH _,oP _,by rw[bu (by omega),bu (by omega)];exact aZ,fun row hr=>by
      rcases cy.1 hr with h | h
      · exact fZ _ row h
      · exact rB row h⟩
  have sQ:(bG m).ae.length=m.ae.length:=by simp[bG]
  have k5:=fun Y Z=>jk (y:=Z) (k4 Y)
  refine Vb (X3 @W5 @k4 @zM.eq_1) ?_
  simp (disch:=omega) only[Ac,↓Pc,simprocAttr,rowOf,k5]
  refine eA [] true (by decide) trivial (by decide) (by decide) (aN.oS (aN.agg _ _ rfl (fD.spec (R:=aN _ _ _ _) (cs:=ar (bG m)) (ds:=[.ref a 1 0 m.cls.length,.ref b 4 0 m.ae.length,.ref d 4 0 (bG m).au.length,.lit (.int .i64 m.rules)]) ⟨.snap _ _ rfl ?_,.snap _ _ rfl ?_,.snap _ _ rfl ?_,.pure rfl,trivial⟩).2) (.pure rfl))
  · rw[← Ar m];exact aga (hfC _ _) (fun i _ _=>hU (by simp))
  · rw[← sQ];exact agb (hfP _ _) (fun i _ _=>hU (by simp))
  · exact gW.cd (hfD _ _) (fun i _ _=>hU (by simp)) (l9 _)
theorem aab (m:ah) (hm:MB m) (hv:dI m≠0):ao Tryz.prog 16 [.agg (ar m)] [] (.bL [.agg zM,.lit (.int .i64 (dI m))]) []:=by
  have h1:=wg m hm
  generalize dI m=e at *
  unfold zM
  refine ao.aF (fn:=Tryz.f16) 157 0 [.cell 2 29,.tmp 3] Tryz.func16 rfl rfl rfl rfl rfl (by simp) ?_
  ((repeat' (first|refine Vd X0 h1 ?_|(refine Xi ?_ ?_<;>try intro ht)|exact Xx|fail)))
  all_goals
    simp (disch:=omega) only[Ac,↓Pc,simprocAttr,rowOf]
    exact aC rfl rfl
theorem aac (m:ah) (hm:VM m):ao Tryz.prog 16 [.agg (ar m)] [] (.bL [.agg (ar (bG m)),.lit (.int .i64 0)]) []:=by
  have hval:=wg m hm.mb
  rw[iJ.2 hm] at hval
  have xT:=hm.cls
  have dz:=hm.ae
  have ahV:=hm.au
  unfold bG
  generalize fY:(m.cls.map fun l=>l.map iA)=agc at *
  generalize tD:(m.ae.map kA)=agd at *
  generalize vn:(m.au.filter fun c=>jZ c.bE)=age at *
  refine ao.aF (fn:=Tryz.f16) 157 0 [.cell 2 29,.tmp 3] Tryz.func16 rfl rfl rfl rfl rfl (by simp) ?_
  ((repeat' (first|refine Vd X0 hval ?_|(refine Xi ?_ ?_<;>try intro ht)|exact Xx|fail)))
  refine aI (fun z:Nat × List (List bK)=>(⟨av [(1,.ptr 0 0 0),(2,.ptr 1 0 0),(5,.ptr 2 0 0),(6,.lit (.int .i64 z.1))],ej m z.2 [] []⟩:St))
    (fun z=>z.1≤m.cls.length∧z.2.length=z.1∧z.2++(m.cls.drop z.1).map (fun l=>l.map iA)=agc) (fun z=>m.cls.length - z.1) (0,[]) ⟨aD _,rfl,fY⟩ (by
      refine aA.trans (aA.ma 2 0 1 rfl rfl (by decide)) ?_
      refine aA.trans (aA.ma 2 1 4 rfl rfl (by decide)) ?_
      refine aA.trans (aA.ma 2 2 4 rfl rfl (by decide)) ?_
      unfold ej
      exact Xv X0) ?_
  rintro ⟨i,cls⟩ ⟨hi,ca,eV⟩ Ql ak aq
  dsimp only at hi ca eV ⊢
  unfold ej
  by_cases hi':i<m.cls.length
  · have hd:=dr m.cls i default hi'
    have nF:=az (d:=(default:List bK)) hi'
    have qG:=hm.opt _ nF
    generalize fA:m.cls.getD i default=l at *
    rw[hd,cR] at eV
    generalize xC:l.map iA=agf at *
    ((repeat' (first|refine Va @fA ?_|(refine Xi ?_ ?_<;>try intro ht)|exact Xx|fail)))
    refine aI (fun z:Nat × List bK=>(⟨av [(1,.ptr 0 0 0),(2,.ptr 1 0 0),(5,.ptr 2 0 0),(6,.lit (.int .i64 i)),(7,.ref 6 6 0 z.2.length),(8,.lit (.int .i64 z.1))],ej m cls [] []++[.arr 6 (rowsOf bX z.2)]⟩:St))
      (fun z=>z.1≤l.length∧z.2.length=z.1∧z.2++(l.drop z.1).map iA=agf) (fun z=>l.length - z.1) (0,[]) ⟨aD _,rfl,xC⟩ (by
        refine aA.trans (aA.nil 7 6 (by simp only[Kc,simprocAttr]) (by decide)) ?_
        unfold ej
        exact Xv X0) ?_
    rintro ⟨k,ol⟩ ⟨iT,jh,CY⟩ cP a5 a8
    dsimp only at iT jh CY ⊢
    unfold ej
    simp only[dG,dK]
    by_cases aP:k<l.length
    · have we:=dr l k default aP
      have eh:=az (d:=(default:bK)) aP
      obtain ⟨n5,HC⟩:=agh hm nF eh
      generalize jV:l.getD k default=o at *
      rw[we,cR] at CY
      generalize yd:iA o=ko at *
      generalize gJ:(o.ch.filter fun c=>jZ c.2)=agi
      ((repeat' (first|refine Va (X2 @fA @jV) ?_|(refine Xi ?_ ?_<;>try intro ht)|exact Xx|fail)))
      refine aI (fun z:Nat × List (Int × Int)=>(⟨av [(1,.ptr 0 0 0),(2,.ptr 1 0 0),(5,.ptr 2 0 0),(6,.lit (.int .i64 i)),(7,.ref 6 6 0 ol.length),(8,.lit (.int .i64 k)),(9,.ptr 7 0 0),(10,.tree 2 (rowsOf aG o.ch)),(11,.lit (.int .i64 z.1))],
          ej m cls [] []++[.arr 6 (rowsOf bX ol),.var [.lit (.int .i64 o.wk),.lit (.int .i64 o.day),.lit (.int .i64 o.st),.lit (.int .i64 o.len),.lit (.int .i64 o.room),.ref 8 2 0 z.2.length],.arr 2 (rowsOf aG z.2)]⟩:St))
        (fun z=>z.1≤o.ch.length∧z.2.length≤z.1∧z.2++((o.ch.drop z.1).filter fun c=>jZ c.2)=agi) (fun z=>o.ch.length - z.1) (0,[]) ⟨aD _,aH _,gJ⟩ (by
          refine aA.trans (aA.ma 7 5 2 rfl rfl (by decide)) ?_
          unfold ej
          exact Xv X0) ?_
      rintro ⟨j,ch⟩ ⟨hj,x9,wz⟩ lH fl eX
      dsimp only at hj x9 wz ⊢
      unfold ej
      simp only[dG,dK]
      by_cases dZ:j<o.ch.length
      · have uJ:=dr o.ch j default dZ
        generalize aO:o.ch.getD j default=c at *
        rw[uJ,Gt] at wz
        generalize oa:jZ c.2=kb at *
        unfold jZ at oa
        cases kb
        · have dL:=of_decide_eq_false oa
          ((repeat' (first|refine Va @aO ?_|(refine Xi ?_ ?_<;>try intro ht)|exact Xx|fail)))
          rw[if_neg (by simp)] at wz
          refine fl _ (j+1,ch) ⟨by dsimp only;omega,by dsimp only;omega,wz⟩ (by dsimp only;omega) ?_
          unfold ej
          exact Xv X0
        · have heq:=of_decide_eq_true oa
          ((repeat' (first|refine Va @aO ?_|(refine Xi ?_ ?_<;>try intro ht)|exact Xx|fail)))
          rw[if_pos rfl] at wz
          refine fl _ (j+1,ch++[c]) ⟨by dsimp only;omega,by simp;omega,by rw[← wz];simp⟩ (by dsimp only;omega) ?_
          have e:=l8 (enc:=aG) ch c
          simp only[aG] at e
          rw[e]
          unfold ej
          simp only[dG,dK]
          exact Xs false [0,1,2,3,4,5,6,7,10] X0
      · ((repeat' (first|refine Va X0 ?_|(refine Xi ?_ ?_<;>try intro ht)|exact Xx|fail)))
        rw[dw (by omega),List.filter_nil,jc] at wz
        refine eX _ _ rfl ?_
        clear fl eX lH
        repeat (refine Xu ?_)
        refine cA (σ':=⟨av [(1,.ptr 0 0 0),(2,.ptr 1 0 0),(5,.ptr 2 0 0),(6,.lit (.int .i64 i)),(7,.ref 6 6 0 ol.length),(8,.lit (.int .i64 k)),(9,.ptr 7 0 0)],
          ej m cls [] []++[.arr 6 (rowsOf bX ol),.var [.lit (.int .i64 o.wk),.lit (.int .i64 o.day),.lit (.int .i64 o.st),.lit (.int .i64 o.len),.lit (.int .i64 o.room),.ref 8 2 0 ch.length],.arr 2 (rowsOf aG ch)]⟩) (by unfold ej;exact Xv X0) ?_
        unfold ej
        simp only[dG,dK]
        refine cA (aA.vF 8 7 5 2 rfl rfl (by rw[b5];rfl) (fZ _) (l9 _)) ?_
        refine Va X0 ?_
        have W6:iA o=⟨o.wk,o.day,o.st,o.len,o.room,ch⟩:=by rw[iA,gJ,wz]
        refine a5 _ (k+1,ol++[ko]) ⟨by dsimp only;omega,by simp;omega,by rw[← CY];simp⟩ (by dsimp only;omega) ?_
        have e:=l8 (enc:=bX) ol ko
        rw[← yd,W6] at e
        simp only[bX] at e
        rw[e,← yd,W6]
        unfold ej
        simp only[dG,dK]
        exact Xs false [0,1,2,3,4,5,10] X0
    · ((repeat' (first|refine Va @fA ?_|(refine Xi ?_ ?_<;>try intro ht)|exact Xx|fail)))
      rw[dw (by omega),jJ,jc] at CY
      refine a8 _ _ rfl ?_
      clear a5 a8 cP
      repeat (refine Xu ?_)
      refine cA (σ':=⟨av [(1,.ptr 0 0 0),(2,.ptr 1 0 0),(5,.ptr 2 0 0),(6,.lit (.int .i64 i)),(7,.tree 6 (rowsOf bX ol))],ej m cls [] []⟩) (by unfold ej;exact Xs true [0,1,2,3,4,5] X0) ?_
      unfold ej
      refine Va X0 ?_
      refine ak _ (i+1,cls++[ol]) ⟨by dsimp only;omega,by simp;omega,by rw[← eV,← CY];simp⟩ (by dsimp only;omega) ?_
      have e:=l8 (enc:=bn) cls ol
      simp only[bn] at e
      rw[e]
      unfold ej
      exact Xs false [0,1,2,7,4,5] X0
  · ((repeat' (first|refine Va X0 ?_|(refine Xi ?_ ?_<;>try intro ht)|exact Xx|fail)))
    rw[dw (by omega),jJ,jc] at eV
    refine aq _ _ rfl ?_;clear ak aq Ql
    repeat (refine Xu ?_)
    refine cA (σ':=⟨av [(1,.ptr 0 0 0),(2,.ptr 1 0 0),(5,.ptr 2 0 0)],ej m cls [] []⟩) (by unfold ej;exact Xv X0) ?_
    unfold ej
    refine Va X0 ?_
    refine aI (fun z:Nat × List Pr=>(⟨av [(1,.ptr 0 0 0),(2,.ptr 1 0 0),(5,.ptr 2 0 0),(12,.lit (.int .i64 z.1))],ej m cls z.2 []⟩:St))
      (fun z=>z.1≤m.ae.length∧z.2.length=z.1∧z.2++(m.ae.drop z.1).map kA=agd) (fun z=>m.ae.length - z.1) (0,[]) ⟨aD _,rfl,tD⟩ (by unfold ej;exact Xv X0) ?_
    clear hi hi'
    rintro ⟨i,ae⟩ ⟨hi,bT,fN⟩ Ql ak aq
    dsimp only at hi bT fN ⊢
    unfold ej
    by_cases hi':i<m.ae.length
    · have hd:=dr m.ae i default hi'
      have wi:=Kz hm (az (d:=(default:Pr)) hi')
      generalize aO:m.ae.getD i default=c at *
      rw[hd,cR] at fN
      ((repeat' (first|refine Va @aO ?_|(refine Xi ?_ ?_<;>try intro ht)|exact Xx|fail)))
      refine aI (fun z:Nat × List Int=>(⟨av [(1,.ptr 0 0 0),(2,.ptr 1 0 0),(5,.ptr 2 0 0),(12,.lit (.int .i64 i)),(13,.ptr 6 0 0),(14,.ref 7 1 0 c.ax.length),(15,.lit (.int .i64 z.1))],ej m cls ae []++[.var (aV c),.arr 1 (ints z.2)]⟩:St))
        (fun z=>z.1≤c.ax.length∧z.2.length=c.ax.length∧∀ j,j<c.ax.length→z.2.getD j 0=if j<z.1 then pt (c.ax.getD j 0) else 0) (fun z=>c.ax.length - z.1) (0,bq c.ax.length 0)
        ⟨aD _,List.length_replicate,fun j hj=>by rw[if_neg (Nat.not_lt_zero _),ay,List.getElem?_replicate,if_pos hj];rfl⟩ (by unfold ej;exact Xv @aV.eq_1) ?_
      rintro ⟨k,X⟩ ⟨hk,hX,eN⟩ cP a5 a8
      dsimp only at hk hX eN ⊢
      unfold ej
      simp only[dG,dK]
      by_cases aP:k<c.ax.length
      · have xP:∀ j,j<c.ax.length→j≠k→X.getD j 0=if j<k+1 then pt (c.ax.getD j 0) else 0:=fun j h1 h2=>by
          rw[eN j h1]
          by_cases e:j<k
          · rw[if_pos e,if_pos (by omega)]
          · rw[if_neg e,if_neg (by omega)]
        have W7:=eN k aP
        rw[if_neg (wK k)] at W7
        generalize bA:c.ax.getD k 0=x at *
        by_cases hF:x=1099511627776
        · ((repeat' (first|refine Va (X2 @bA @aV.eq_1) ?_|(refine Xi ?_ ?_<;>try intro ht)|exact Xx|fail)))
          all_goals
            refine a5 _ (k+1,X.set k 1099511627776) ⟨aP,by dsimp only;rw[bm];exact hX,fun j hj=>?_⟩ (by dsimp only;omega) (by unfold ej;exact Xv @aV.eq_1)
            dsimp only
            by_cases e:j=k
            · subst e
              rw[ay,GC (by omega),bA,if_pos (oP _),hF];rfl
            · rw[ay,bu (Ne.symm e),← ay]
              exact xP j hj e
        · ((repeat' (first|refine Va (X2 @bA @aV.eq_1) ?_|(refine Xi ?_ ?_<;>try intro ht)|exact Xx|fail)))
          all_goals
            refine a5 _ (k+1,X) ⟨aP,hX,fun j hj=>?_⟩ (by dsimp only;omega) (by unfold ej;exact Xv @aV.eq_1)
            dsimp only
            by_cases e:j=k
            · subst e
              rw[W7,bA,if_pos (oP _)]
              unfold pt;rw[if_neg hF]
            · exact xP j hj e
      · obtain rfl:k=c.ax.length:=by omega
        ((repeat' (first|refine Va @aV.eq_1 ?_|(refine Xi ?_ ?_<;>try intro ht)|exact Xx|fail)))
        refine a8 _ _ rfl ?_
        clear a5 a8
        repeat (refine Xu ?_)
        have KA:X=c.ax.map pt:=by
          apply ju
          intro j
          by_cases e:j<c.ax.length
          · have:=eN j e
            rw[if_pos e,ay,ay,bI (by omega),bI e] at this
            rw[bN,bI (by omega),bI e]
            simpa using this
          · rw[du (by omega),du (by simpa using e)]
        refine cA (aA.ach 14 7 1 (rows:=ints X) rfl (by rw[m8,hX];simp only[Kc,simprocAttr]) (qq _) (sL _)) ?_
        refine Va @aV.eq_1 ?_
        have uh:kA c=⟨c.fst,c.snd,c.cB,X⟩:=by rw[KA];rfl
        refine ak _ (i+1,ae++[kA c]) ⟨by dsimp only;omega,by simp;omega,by rw[← fN];simp⟩ (by dsimp only;omega) ?_
        have e:=l8 (enc:=aV) ae (kA c)
        rw[uh] at e
        simp only[aV] at e
        rw[e,uh]
        unfold ej
        exact Xs false [0,1,2,3,9,5] X0
    · ((repeat' (first|refine Va X0 ?_|(refine Xi ?_ ?_<;>try intro ht)|exact Xx|fail)))
      rw[dw (by omega),jJ,jc] at fN
      refine aq _ _ rfl ?_;clear ak aq Ql
      repeat (refine Xu ?_)
      refine cA (σ':=⟨av [(1,.ptr 0 0 0),(2,.ptr 1 0 0),(5,.ptr 2 0 0)],ej m cls ae []⟩) (by unfold ej;exact Xv X0) ?_
      unfold ej
      refine Va X0 ?_
      refine aI (fun z:Nat × List Ct=>(⟨av [(1,.ptr 0 0 0),(2,.ptr 1 0 0),(5,.ptr 2 0 0),(16,.lit (.int .i64 z.1))],ej m cls ae z.2⟩:St))
        (fun z=>z.1≤m.au.length∧z.2.length≤z.1∧z.2++((m.au.drop z.1).filter fun p=>jZ p.bE)=age) (fun z=>m.au.length - z.1) (0,[]) ⟨aD _,aH _,vn⟩ (by unfold ej;exact Xv X0) ?_
      clear hi hi'
      rintro ⟨i,au⟩ ⟨hi,agj,pg⟩ Ql ak aq
      dsimp only at hi agj pg ⊢
      unfold ej
      by_cases hi':i<m.au.length
      · have hd:=dr m.au i default hi'
        generalize aO:m.au.getD i default=c at *
        rw[hd,Gt] at pg
        generalize oa:jZ c.bE=kb at *
        unfold jZ at oa
        cases kb
        · have dL:=of_decide_eq_false oa
          ((repeat' (first|refine Va @aO ?_|(refine Xi ?_ ?_<;>try intro ht)|exact Xx|fail)))
          rw[if_neg (by simp)] at pg
          refine ak _ (i+1,au) ⟨by dsimp only;omega,by dsimp only;omega,pg⟩ (by dsimp only;omega) ?_
          unfold ej
          exact Xv X0
        · have heq:=of_decide_eq_true oa
          ((repeat' (first|refine Va @aO ?_|(refine Xi ?_ ?_<;>try intro ht)|exact Xx|fail)))
          rw[if_pos rfl] at pg
          refine ak _ (i+1,au++[c]) ⟨by dsimp only;omega,by simp;omega,by rw[← pg];simp⟩ (by dsimp only;omega) ?_
          have e:=l8 (enc:=aU) au c
          simp only[aU] at e
          rw[e]
          unfold ej
          exact Xs false [0,1,2,3,4,7] X0
      · ((repeat' (first|refine Va X0 ?_|(refine Xi ?_ ?_<;>try intro ht)|exact Xx|fail)))
        rw[dw (by omega),List.filter_nil,jc] at pg
        refine aq _ _ rfl ?_;clear ak aq Ql
        repeat (refine Xu ?_)
        refine cA (σ':=⟨av [(2,.ptr 1 0 0),(5,.ptr 2 0 0)],ej m cls ae au⟩) (by unfold ej;exact Xv X0) ?_
        unfold ej
        refine cA (aA.vF 3 2 0 1 rfl rfl (by rw[b5];rfl) (fZ _) (l9 _)) ?_
        refine cA (aA.vF 4 2 1 4 rfl rfl (by rw[b5];rfl) (fZ _) (l9 _)) ?_
        refine cA (aA.vF 5 2 2 4 rfl rfl (by rw[b5];rfl) (fZ _) (l9 _)) ?_
        refine Vb X0 ?_
        simp (disch:=omega) only[Ac,↓Pc,simprocAttr,rowOf]
        rw[← eV,← fN,← pg]
        exact aC rfl rfl
end T

