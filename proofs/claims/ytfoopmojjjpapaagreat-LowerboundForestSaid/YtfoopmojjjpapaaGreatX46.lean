import Derived.Test.YtfoopmojjjpapaaGreatX29
set_option linter.all false
set_option maxHeartbeats 0
set_option maxRecDepth 20000
open List renaming getD_eq_getElem?_getD→az,getElem?_set→bU,length_set→bH,take_zero→mK,append_nil→np,take_length→y0,mem_map→b6,getElem?_set_ne→fN
open Go Go.Am
namespace T
abbrev kl:=List (Int×Int)
def mJ(up:kl)(j:Nat):Int×Int:=up.getD j default
def I9(n:Nat):kl:=List.replicate n (-1,0)
def adr(up:kl):Nat->Nat->kl
 |0,_=>[]
 |f+1,k=>if 0<=(mJ up k).1 then mJ up k::adr up f (mJ up k).1.toNat else []
def anc(up:kl)(k:Nat):kl:=adr up (k+1) k
def am1(P:List Nd)(c:Int)(l:kl):Bool:=l.any λa=>(nd P a.1.toNat).cls==c
def I'(n i:Nat)(kids:List Int)(up:kl):Nat->Option kl
 |0=>some up
 |o+1=>(I' n i kids up o).bind λu=>if pL n i (kids.getD o 0)=true/\(mJ u (kids.getD o 0).toNat).1<0 then some (u.set (kids.getD o 0).toNat ((i:Int),(o:Int))) else none
def OD(m:aj)(P:List Nd)(i:Nat)(up:kl):Option kl :=
 if 0<i/\(mJ up i).1<0 then none
 else if oN m (nd P i)=false then none
 else if(nd P i).cls = -1 then some up
 else if am1 P (nd P i).cls (anc up i)=true then none
 else I' P.length i (nd P i).kids up (nd P i).kids.length
def adt(m:aj)(P:List Nd):Nat->Option kl
 |0=>some (I9 P.length)
 |i+1=>(adt m P i).bind (OD m P i)
def am2(m:aj)(P:List Nd):Option kl:=if 1<=P.length/\P.length<=20000 then adt m P P.length else none
structure UI(P:List Nd)(i o:Nat)(up:kl):Prop where
 len:up.length=P.length
 low:∀ j,j<P.length->mJ up j=(-1,0)\/∃ p q:Nat,mJ up j=((p:Int),(q:Int))/\p<j/\q<(nd P p).kids.length/\(p<i\/p=i/\q<o)
 set:∀ p q,(p<i\/p=i/\q<o)->p<P.length->q<(nd P p).kids.length->∃ j,j<P.length/\p<j/\(nd P p).kids.getD q 0=(j:Int)/\mJ up j=((p:Int),(q:Int))
 qP:∀ j:Nat,j<P.length->((iZ (P.take i)++(nd P i).kids.take o).count (j:Int)=if 0<=(mJ up j).1 then 1 else 0)
def adu(n j:Nat)(h:j<n):mJ (I9 n) j=(-1,0):=by
 unfold mJ I9;rw[az,List.getElem?_replicate_of_lt h];rfl
def UI.zero(P:List Nd):UI P 0 0 (I9 P.length) where
 len:=List.length_replicate
 low j hj:=.inl (adu _ _ hj)
 set p q h:=CZ
 qP j hj:=by rw[adu _ _ hj];simp[iZ]
def Ja{up:kl}{k j:Nat}{x:Int×Int}(hk:k<up.length):mJ (up.set k x) j=if k=j then x else mJ up j:=by
 unfold mJ;rw[az,bU];by_cases e:k=j
 ·subst e;rw[if_pos rfl,if_pos hk,if_pos rfl];rfl
 ·rw[if_neg e,if_neg e,az]
def UI.HC{P:List Nd}{i o:Nat}{up:kl}(h:UI P i o up)(hi:i<P.length)(ho:o<(nd P i).kids.length)(hk:pL P.length i ((nd P i).kids.getD o 0)=true)(hu:(mJ up ((nd P i).kids.getD o 0).toNat).1<0):
  UI P i (o+1) (up.set ((nd P i).kids.getD o 0).toNat ((i:Int),(o:Int))):=by
 unfold pL at hk;rw[decide_eq_true_eq]at hk;have hZ:(nd P i).kids.take (o+1)=(nd P i).kids.take o++[(nd P i).kids.getD o 0]:=eQ ho;generalize iN:(nd P i).kids.getD o 0=k at *;obtain⟨kn,rfl⟩:∃kn:Nat,k=kn:=⟨k.toNat,CZ⟩;rw[Int.toNat_natCast]at hu ⊢;have dY:kn<up.length:=by rw[h.len];omega
 refine⟨by rw[bH];exact h.len,λj hj=>?_,λp q xG hp hq=>?_,λj hj=>?_⟩
 ·rw[Ja dY];by_cases e:kn=j
  ·subst e;rw[if_pos rfl];exact .inr ⟨i,o,rfl,CZ,ho,.inr ⟨rfl,CZ⟩⟩
  ·rw[if_neg e];rcases h.low j hj with h1|⟨p,q,h1,h2,h3,h4⟩
   ·exact .inl h1
   ·exact .inr ⟨p,q,h1,h2,h3,CZ⟩
 ·by_cases e:p=i/\q=o
  ·obtain⟨rfl,rfl⟩:=e;exact⟨kn,CZ,CZ,iN,by rw[Ja dY,if_pos rfl]⟩
  ·obtain⟨j,h1,h2,h3,h4⟩:=h.set p q CZ hp hq;refine⟨j,h1,h2,h3,?_⟩;rw[Ja dY,if_neg ?_,h4];rintro rfl;rw[h4]at hu;dsimp only at hu;omega
 ·rw[hZ,<- List.append_assoc,List.count_append,h.qP j hj,Ja dY];by_cases e:kn=j
  ·subst e;rw[if_neg CZ,if_pos rfl,if_pos Ji];simp
  ·have hb:((kn:Int)==(j:Int))=false:=by rw[beq_eq_false_iff_ne];omega
   rw[if_neg e,List.count_singleton,hb];rfl
def am3{P:List Nd}{i:Nat}(hi:i<P.length):P.take (i+1)=P.take i++[nd P i]:=eQ hi
def UI.next{P:List Nd}{i:Nat}{up:kl}(h:UI P i (nd P i).kids.length up)(hi:i<P.length):UI P (i+1) 0 up where
 len:=h.len
 low j hj:=by
  rcases h.low j hj with h1|⟨p,q,h1,h2,h3,h4⟩
  ·exact .inl h1
  ·exact .inr ⟨p,q,h1,h2,h3,CZ⟩
 set p q xG hp hq:=h.set p q (by
  by_cases e:p=i
  ·subst e;exact .inr ⟨rfl,hq⟩
  ·omega) hp hq
 qP j hj:=by
  rw[mK,np,am3 hi,abi,<- h.qP j hj,y0]
def UI.kids{P:List Nd}{i:Nat}(hi:i<P.length){up:kl}(h:UI P i 0 up):∀ o u,o<=(nd P i).kids.length->I' P.length i (nd P i).kids up o=some u->UI P i o u:=by
 intro o
 induction o with
 |zero=>intro u _ hu;cases hu;exact h
 |succ o ih =>
  intro u ho hu;unfold I' at hu;obtain⟨v,hv,hu⟩:=Option.bind_eq_some_iff.1 hu;by_cases hc:pL P.length i ((nd P i).kids.getD o 0)=true/\(mJ v ((nd P i).kids.getD o 0).toNat).1<0
  ·rw[if_pos hc]at hu;cases hu;exact(ih v CZ hv).HC hi CZ hc.1 hc.2
  ·rw[if_neg hc]at hu;cases hu
def am4{m:aj}{x:Nd}(h:oN m x=true)(hc:x.cls = -1):x.kids.length=0:=by
 unfold oN at h;rw[if_pos hc,decide_eq_true_eq]at h;exact h.1
def UI.node{m:aj}{P:List Nd}{i:Nat}(hi:i<P.length){up u:kl}(h:UI P i 0 up)(hu:OD m P i up=some u):UI P (i+1) 0 u:=by
 unfold OD at hu;split at hu
 ·cases hu
 split at hu
 ·cases hu
 rename_i h1 h2;rw[Bool.not_eq_false]at h2;split at hu
 ·rename_i h3;cases hu;have:=am4 h2 h3;refine UI.next ?_ hi;rw[this];exact h
 split at hu
 ·cases hu
 exact(UI.kids hi h _ _ (Nat.le_refl _) hu).next hi
def UI.lt{P:List Nd}{i o:Nat}{up:kl}(h:UI P i o up){k:Nat}(hk:k<P.length)(h0:0<=(mJ up k).1):(mJ up k).1.toNat<k:=by
 rcases h.low k hk with h1|⟨p,q,h1,h2,h3,h4⟩
 ·rw[h1]at h0;exact absurd h0 Fs
 ·rw[h1];simpa using h2
def UI.full{P:List Nd}{up:kl}(h:UI P P.length 0 up)(j:Nat)(hj:j<P.length):(iZ P).count (j:Int)=if 0<=(mJ up j).1 then 1 else 0:=by
 have:=h.qP j hj;rwa [mK,np,y0]at this
def am5(P:List Nd)(l:kl)(x:List (List Bool)):List (List Bool):=l.foldl (λacc a=>mB acc (nd P a.1.toNat).cls.toNat a.2.toNat) x
def am6(m:aj)(P:List Nd)(up:kl)(k:Nat):List (List Bool):=am5 P (anc up k) (dR m)
def am7(m:aj)(x:Nd)(left:List (List Bool)):Option Int :=
 if x.cls≠-1 then some 1099511627776
 else if 0<x.bj.length then(if oM m x left=true then some 1099511627776 else none)
 else if(gH m left x.dW).2=0 then some (gH m left x.dW).1 else none
def adv:List (Option Int)->Int->Option Int
 |[],b=>some b
 |none::_,_=>none
 |some v::l,b=>adv l (min b v)
def am8(m:aj)(P:List Nd)(up:kl)(i:Nat):Option Int:=adv ((List.range i).map λk=>am7 m (nd P k) (am6 m P up k)) 1099511627776
def jL(m:aj)(P:List Nd):Int×Bool :=
 match am2 m P with
 |none=>(0,false)
 |some up=>match am8 m P up P.length with
  |none=>(0,false)
  |some b=>(b,true)
def dH.setRow{B:List (Nat×Ob)}{D:List (Nat×Nat)}{S:List (List Bool)}{os:List Ob}(h:dH B D S os){j:Nat}(hj:j<S.length){r:List Bool}(hr:r.length=(S.getD j default).length):
  dH B D (S.set j r) (os.set (D.getD j default).1 (.arr 1 (br r))):=by
 have nY:j<D.length:=by rw[h.len];exact hj
 have bT:=List.nodup_append.1 h.nd;have hDj:D.getD j default=D[j]:=by simp[nY]
 have cD:(D.getD j default).1∈D.map (·.1):=by rw[hDj];exact b6.2 ⟨_,List.getElem_mem nY,rfl⟩
 refine⟨λb hb=>?_,by rw[bH];exact h.len,λk hk=>?_,h.nd⟩
 ·rw[fN ?_]
  ·exact h.base b hb
  ·intro e;exact bT.2.2 _ (b6.2 ⟨b,hb,rfl⟩) _ cD e.symm
 ·obtain⟨h1,h2⟩:=h.row k hk;by_cases e:k=j
  ·subst e;have ba:=(List.getElem?_eq_some_iff.1 h1).1;have hg:(S.set k r).getD k default=r:=by rw[az,bU,if_pos rfl,if_pos hj];rfl
   rw[bU,if_pos rfl,if_pos ba,hg];exact⟨rfl,hr.trans h2⟩
  ·have hg:(S.set j r).getD k default=S.getD k default:=by rw[az,fN (Ne.symm e),<- az]
   rw[hg,fN ?_]
   ·exact⟨h1,h2⟩
   ·intro e2;have Hs:D.getD k default=D[k]:=by simp[hk]
    rw[hDj,Hs]at e2;have hp:=List.pairwise_iff_getElem.1 bT.2.1;rcases Nat.lt_or_gt_of_ne e with hl|hl
    ·exact hp k j (by simpa using hk) (by simpa using nY) hl (by simpa using e2.symm)
    ·exact hp j k (by simpa using nY) (by simpa using hk) hl (by simpa using e2)
end T

