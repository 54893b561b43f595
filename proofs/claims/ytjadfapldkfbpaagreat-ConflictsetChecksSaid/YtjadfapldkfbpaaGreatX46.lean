import Derived.Test.YtjadfapldkfbpaaGreatX36
set_option linter.all false
set_option maxHeartbeats 0
set_option maxRecDepth 20000
open List renaming range→aZ,cons_append→dP,nil_append→dZ,getElem?_eq_some_iff→aY,mem_append→cz,getElem?_append_left→dg,getD_eq_getElem?_getD→aG,filter_append→BY,append_nil→ic,replicate→bG
open Nat renaming add_zero→iY,zero_le→aF,le_refl→aR,reduceEqDiff→B0,reduceBEq→nq
open Go Go.Am Go.Proofs
namespace T
def ph(m:ah):List Int:=(aZ m.rules.toNat).map λ(i:Nat)=>(i:Int)
def df(l:List Int)(n:Int):List Int:=l.filter λx=>!(x==n)
def jn(R:Int)(l:List Int):List Bool:=(aZ R.toNat).map λ(i:Nat)=>l.contains (i:Int)
def cj(m:ah)(l:List Int):ah:=m5 m (jn m.rules l)
def Ba(r:ah):Prop:=(dY (db r)).cO=1099511627776\/wL r (dY (db r)).plan<1099511627776
instance (r:ah):Decidable (Ba r):=by unfold Ba;infer_instance
def tryD(r:ah):DS:=if Ba r then dY (db r) else dY r
def kW(r:ah):Int:=if(dY (db r)).whole=false then 61 else if Ba r then 0 else if(dY r).whole=false then 61 else 0
def ng(m:ah)(l:List Int):Prop:=l.length<=1000/\∀ x∈l,0<=x/\x<m.rules
def CU(R:Int)(l:List Int):(jn R l).length=R.toNat:=by unfold jn;simp
def ng.df{m:ah}{l:List Int}(h:ng m l)(n:Int):ng m (df l n):=⟨Nat.le_trans (List.length_filter_le _ _) h.1,λx hx=>h.2 x (List.mem_filter.1 hx).1⟩
def Ni{m:ah}(hm:VM m):ng m (ph m):=by
 have:=hm.iI;refine⟨by unfold ph;simp;omega,λx hx=>?_⟩;unfold ph at hx;obtain⟨i,hi,rfl⟩:=List.mem_map.1 hx;have:=List.mem_range.1 hi;omega
def jB(n:Int):List AV:=[aaa n]
instance:Row jB 1:=⟨λ_=>rfl,λ_=>xT rfl⟩
def Y9(l:List Int)(g:FuncId)(a6:List AV)(aa:List Ob)(p:Int->Bool)(hl:l.length<9223372036854775808)(hg:∀ x∈l,an Tryz.prog g ([aaa x]++a6) aa (.lit (.bool (p x))) aa):
  an Tryz.prog 100 [.tree 1 (ints l),.fn g a6] aa (aaa (dH p 0 l)) aa:=by
 generalize aj:dH p 0 l=res;refine an.aC 19 aa.length [.tmp 4] Tryz.func100 ?_;refine Vb @iY ?_;refine aO (λk:Nat=>(⟨au [(0,.tree 1 (ints l)),(1,.fn g a6),(7,aaa l.length),(8,aaa k)],aa⟩:St)) (λk=>k<=l.length/\dH p k (l.drop k)=res) (λk=>l.length-k) 0 ⟨aF _,aj⟩ (Xv X0) ?_;rintro k⟨hk,hr⟩Ql ak ar;by_cases aL:k<l.length
 ·have hx:=hg _ (aB (d:=0) aL);have hd:=cN l k 0 aL;generalize aS:l.getD k 0=x at *;rw[hd,dH]at hr;simp only[dP,dZ]at hx;((repeat'(first|refine Vb (X2 @iY @aS) ?_|(refine Xi ?_ ?_<;>try intro ht)|exact Xx|fail))<;>try with_reducible intro K hK)
  refine il hx (aR _) ?_;((try revert hK K);(repeat'(first|refine Vb @iY ?_|(refine Xi ?_ ?_<;>try intro ht)|fail)))
  ·rw[if_pos (by assumption)]at hr;rw[<- hr];exact ey rfl (aR _) rfl
  ·rw[if_neg (by simp_all)]at hr;exact ak _ (k+1) ⟨G3,hr⟩ G3 (Xv X0)
 ·((repeat'(first|refine Vb @iY ?_|(refine Xi ?_ ?_<;>try intro ht)|exact Xx|fail)))
  rw[List.drop_eq_nil_of_le G3,dH]at hr;rw[<- hr];exact ey rfl (aR _) rfl
def ahs(xs:List Int)(rest:List (List AV))(g:FuncId)(a6:List AV)(p:Int->Bool)(os:List Ob)(b:Nat)(hb:os[b]?=some (.arr 1 (rowsOf jB xs++rest)))(hw:∀ row∈rest,row.length=1)(hl:xs.length<1000000)(q6:jl a6=true)(hg:∀ x∈xs,an Tryz.prog g ([aaa x]++a6) [] (.lit (.bool (p x))) []):
  fG Tryz.prog 52 [.ref b 1 0 xs.length,.fn g a6] os (λr ob=>r=.ref b 1 0 (xs.filter λx=>!p x).length/\lZ b os ob/\∃ sc,ob[b]?=some (.arr 1 (rowsOf jB (xs.filter λx=>!p x)++sc))/\∀ row∈sc,row.length=1):=by
 have eM:=Y9 xs g a6 [] p G3 hg;have qu:=(aY.1 hb).1;have Gv:∀ row∈rowsOf jB xs++rest,row.length=1:=λrow hr=>by
  rcases cz.1 hr with h|h
  ·exact fQ _ row h
  ·exact hw row h
 have mj:∀ e:Nat->AV,cG ⟨e,os⟩ (·∈([]:List Nat)) (.tree 1 (rowsOf jB xs)) (.ref b 1 0 xs.length):=λe =>
  iM.cp (.inr ⟨b,rest,by rw[bX],aF _,qu,hb,Gv⟩) (λi _ _=>G9) (jX _)
 refine fG.aC 42 os.length [.tmp 4] Tryz.func52 ?_;((refine Va X0 ?_)<;>try with_reducible intro K hK)
 refine pI [] eM Kq trivial ⟨aI.snap _ _ rfl (mj _),.pure (by simpa [gQ] using q6),trivial⟩ rfl G9 ?_;simp(disch:=omega)only[Ac,↓Pc,simprocAttr];by_cases vI:dH p 0 xs = -1
 ·have fK:=JU p xs 0 vI;rw[vI];((try revert hK K);(repeat'(first|refine Va X0 ?_|(refine Xi ?_ ?_<;>try intro ht)|exact Xx|fail)))
  unfold gR;simp only[eQ,eG];simp(disch:=omega)only[Ac,↓Pc,simprocAttr];exact⟨_,_,⟨by rw[fK],lZ.refl _ _,rest,by rw[fK];exact hb,hw⟩,ey rfl (aR _) rfl⟩
 ·obtain⟨i0,h1,h2,h3⟩:=JV p xs 0 vI;rw[Nat.zero_add]at h1;rw[h1];clear eM mj;((try revert hK K);(repeat'(first|refine Va X0 ?_|(refine Xi ?_ ?_<;>try intro ht)|exact Xx|fail)))
  refine aO (λz:Nat×Nat×List Int×List Ob=>(⟨au [(0,.ref b 1 0 xs.length),(1,.fn g a6),(5,aaa z.2.1),(6,aaa z.1)],z.2.2.2⟩:St))
   (λz=>z.1<=xs.length/\z.2.1<z.1/\z.2.2.1.length=xs.length/\(xs.take z.1).filter (λx=>!p x)=z.2.2.1.take z.2.1/\(∀ k,z.1<=k->z.2.2.1.getD k default=xs.getD k default)/\lZ b os z.2.2.2/\z.2.2.2[b]?=some (.arr 1 (rowsOf jB z.2.2.1++rest)))
   (λz=>xs.length-z.1) (i0+1,i0,xs,os) ⟨h2,Nat.lt_succ_self _,rfl,h3,λ_ _=>rfl,lZ.refl _ _,hb⟩ (Xv X0) ?_
  rintro⟨j,i,Y,ob⟩⟨hj,yx,hY,jW,oF,jC,a8⟩Ql ak ar;dsimp only at hj yx hY jW oF jC a8 ⊢;have gD:(rowsOf jB Y++rest).length=xs.length+rest.length:=by rw[List.length_append,bX,hY]
  have gJ:=bf a8;have fA:=λl y=>gz a8 l (y:=y);by_cases dx:j<xs.length
  ·have sq:=aB (l:=xs) (d:=default) dx;have hx:=hg _ sq;have bj:(rowsOf jB Y++rest)[j]?=some (jB (xs.getD j default)):=by
    rw[dg (by rw[bX];omega),xS _ _ G3,oF j (aR _)]
   have Gw:(rowsOf jB Y++rest).getD j []=jB (xs.getD j default):=by rw[aG,bj];rfl
   have Gx:(rowsOf jB Y++rest)[i]?=some (jB (Y.getD i default)):=by
    rw[dg (by rw[bX];omega),xS _ _ G3]
   generalize Y.getD i default=y0 at *;have cq:=eJ dx;generalize aS:xs.getD j default=x at *;simp only[dP,dZ,jB]at hx;have iq:(rowsOf jB Y++rest).set i [aaa x]=rowsOf jB (Y.set i x)++rest:=by
    rw[List.set_append_left _ _ (by rw[bX];omega),<- Cv];rfl
   generalize qN:rowsOf jB Y++rest=R at *;repeat'(first|((fail_if_success (first|refine dE 8 ?_|refine dF 8 ?_));refine Xr (X5 @a8 @gD @bj @Gw (X2 @jB.eq_1 @cD)) ?_;intro K hK)|(refine hK _ ?_;clear hK K)|(refine Xi ?_ ?_<;>try intro ht)|refine Xy ?_|refine Xd ?_ ?_|exact Xx|fail)
   ((refine Va @cD ?_)<;>try with_reducible intro K hK)
   refine ez [] hx Kq trivial ⟨.pure rfl,eY.JW q6⟩ ?_;simp(disch:=omega)only[Ac,↓Pc,simprocAttr,cD];have w7:=(aY.1 a8).1;cases lP:p x
   ·((try revert hK K);(repeat'(first|refine Va (X5 @a8 @gJ @fA @gD (X5 @Gx @jB.eq_1 @iq @lP (X2 @cD @Bool.not_false))) ?_|(refine Xi ?_ ?_<;>try intro ht)|exact Xx|fail)))
    all_goals try(exfalso;simp_all;done)
    all_goals
     exact ak _ (j+1,i+1,Y.set i x,ob.set b (.arr 1 (rowsOf jB (Y.set i x)++rest))) ⟨Kw,Kw,by simpa using hY,by
      dsimp only;rw[cq,BY,jW,OS G3];simp[lP],λk hk=>by
      dsimp only at hk ⊢;rw[aG,List.getElem?_set_ne G3,<- aG];exact oF k G3,(by have:=jC.step (.arr 1 (rowsOf jB (Y.set i x)++rest)) [];rwa [ic]at this),j3 a8⟩ Kw (Xv @jB.eq_1)
   ·((try revert hK K);(repeat'(first|refine Va (X5 @a8 @gJ @fA @gD (X3 @lP @cD @Bool.not_true)) ?_|(refine Xi ?_ ?_<;>try intro ht)|exact Xx|fail)))
    all_goals try(exfalso;simp_all;done)
    all_goals
     exact ak _ (j+1,i,Y,ob) ⟨Kw,Kw,hY,by
      dsimp only;rw[cq,BY,jW];simp[lP],λk hk=>oF k (by dsimp only at hk;omega),jC,by dsimp only;rw[qN];exact a8⟩ Kw (Xv @jB.eq_1)
  ·obtain rfl:j=xs.length:=G3;rw[List.take_length]at jW;((repeat'(first|refine Va (X2 @a8 @gD) ?_|(refine Xi ?_ ?_<;>try intro ht)|exact Xx|fail)))
   refine ar _ _ rfl ?_;clear ak ar Ql;repeat(refine Xu ?_)
   have lH:=λy=>j3 (y:=y) a8;have Gy:∀ row∈(rowsOf jB Y++rest).drop (i+(xs.length-i)),row.length=1:=λrow hr=>by
    rcases cz.1 (List.mem_of_mem_drop hr) with h|h
    ·exact fQ _ row h
    ·exact hw row h
   refine Va (X5 @a8 @gD @lH @Option.map_none.{0,0} @Option.map_some.{0,0}) ?_;unfold gR;simp only[eQ,eG];simp(disch:=omega)only[Ac,↓Pc,simprocAttr];rw[show ints (bG (xs.length-i) 0)=bG (xs.length-i) [AV.lit (.int .i64 0)] by simp[ints]];have iU:(xs.filter λx=>!p x).length=i:=by rw[jW,List.length_take];omega
   refine⟨_,_,⟨by rw[iU],by have:=jC.step (.arr 1 ((rowsOf jB Y++rest).take i++bG (xs.length-i) [aaa 0]++(rowsOf jB Y++rest).drop (i+(xs.length-i)))) [];rwa [ic]at this,bG (xs.length-i) [aaa 0]++(rowsOf jB Y++rest).drop (i+(xs.length-i)),?_,λrow hr=>?_⟩,ey rfl (by rw[List.length_set];exact jC.1) rfl⟩
   ·rw[lH,<- List.append_assoc,jW];congr 4;unfold rowsOf;rw[List.map_take,List.take_append_of_le_length (by rw[List.length_map];omega)]
   ·rcases cz.1 hr with h|h
    ·rw[List.eq_of_mem_replicate h];rfl
    ·exact Gy row h
def ahr(xs:List Int)(h:0<xs.length)(hl:xs.length<549755813888):an Tryz.prog 53 [.tree 1 (ints xs)] [] (.ref 0 1 0 xs.length) [.arr 1 (ints xs)]:=by
 refine an.aC 8 0 [.tmp 2] Tryz.func53 ?_;((repeat'(first|refine Vb @D4 ?_|(refine Xi ?_ ?_<;>try intro ht)|exact Xx|fail)))
 exact Xw false [1] X0
def ahq:an Tryz.prog 53 [.tree 1 []] [] (.tree 1 []) []:=by
 refine an.empty (pre:=[]) (post:=[]) (λa cap=>?_);rw[dZ];cases a with
 |none =>
  refine an.aC 8 0 [.tmp 2] Tryz.func53 ?_;((repeat'(first|refine Vb @Option.isNone_none.{0} ?_|(refine Xi ?_ ?_<;>try intro ht)|exact Xx|fail)))
  all_goals first|(refine dr [] true Kq trivial Kq Kq ?_;exact aI.nil)|(exfalso;simp at *;done)
 |some ad =>
  refine an.aC 8 0 [.tmp 2] Tryz.func53 ?_;refine xO Kq ?_;intro K hK;simp(disch:=omega)only[Ac,↓Pc,simprocAttr];refine hK _ ?_;clear hK K;refine Wk ?_;intro Q hn he;((refine xO Kq ?_);intro K hK;simp(disch:=omega)only[Ac,↓Pc,simprocAttr,Option.isNone_some];skip);(refine hK _ ?_;clear hK K)
  refine Ek (t:=false) (by simp only[n8,Lc,↓reduceIte,B0,nq]) (λht=>by simp at ht) (λht=>?_);refine Ej ?_;refine hn _ ?_;(try clear hn;try clear he;try clear Q;clear ht)
  refine bD (ay.H4 0 1 (by(simp only[n8,rT,Rc,↓reduceIte,B0,nq,ev,fc,St.put];exact rfl))) ?_;refine Vb (X3 @List.length_nil.{0} @ic.{0} @List.all_nil.{0}) ?_;refine dr [] true Kq trivial Kq Kq ?_;exact aI.cp (rows:=[]) rfl G9 rfl (iD Kq) G9
def KnS(m:ah)(p0:List Int)(t0:Int):Prop:=(p0=[]/\t0=1099511627776)\/(FP m p0/\wL m p0=t0/\t0<1099511627776)
def KnS.top{m:ah}{p:List Int}{t:Int}(h:KnS m p t):t<=1099511627776:=by
 rcases h with⟨_,h⟩|⟨_,_,h⟩<;>omega
variable {m:ah} {left:List (List Bool)} {p:List Int}
def CZ(r:ah):Int:=if kW r=0 then(tryD r).cO else 0
def Be(m:ah):List Int->List Int->List Int×Int
 |[],l=>(l,0)
 |n::ns,l=>if kW (cj m (df l n))≠0 then([],kW (cj m (df l n))) else Be m ns (if CZ (cj m (df l n))=1099511627776 then df l n else l)
def lM(m:ah):List Int×Int :=
 if kW (cj m (ph m))≠0 then([],kW (cj m (ph m))) else if CZ (cj m (ph m))<1099511627776 then([],60) else Be m (ph m) (ph m)
def zB(m:ah):List Int×Int:=if ek m≠0 then([],ek m) else lM m
def adk(m:ah)(l:List Int):Bool:=decide ((ZO (cj m l) (cj m l).cls.length []).2<1099511627776)
def ahy{l:List Int}{n:Int}(h:n ∉ l):df l n=l:=List.filter_eq_self.2 λx hx=>by
 simp only[Bool.not_eq_true',beq_eq_false_iff_ne,ne_eq];exact λe=>h (e▸hx)
def PA(a b:Int):Prop:=(a=0\/a=1099511627776)/\(a=1099511627776->b=1099511627776)
def PA.min{a b x y:Int}(h:PA a b)(hx:x=0\/x=1099511627776)(oX:x=1099511627776->1099511627776<=y):PA (min a x) (min b y):=by
 obtain⟨h1,h2⟩:=h;refine⟨G3,λe=>?_⟩;have:=h2 G3;have:=oX G3;omega
end T

