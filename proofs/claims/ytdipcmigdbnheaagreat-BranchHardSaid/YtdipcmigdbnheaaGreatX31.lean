import Derived.Test.YtdipcmigdbnheaaGreatX29
import Derived.Test.YtdipcmigdbnheaaGreatX30
import Derived.Test.YtdipcmigdbnheaaGreatX19
set_option linter.unusedVariables false
set_option linter.unusedSimpArgs false
set_option linter.unnecessarySimpa false
set_option linter.unusedSectionVars false
set_option maxHeartbeats 64000000
set_option maxRecDepth 20000
open List renaming length_cons→dH,getD_eq_getElem?_getD→ay,map_cons→cR,length_map→dU,range'→mz,drop_eq_nil_of_le→dw,mem_map→b7,range'_succ→vc,drop_zero→wF,getD_cons_zero→gP,getD_cons_succ→eS,getElem?_eq_none→du,mem_cons→bZ
open Nat renaming add_mul→e9,one_mul→sq,zero_mul→Az,zero_add→eR,lt_or_ge→eK,zero_le→aD
open Int renaming toNat_natCast→eT,le_refl→eo,zero_add→wJ,toNat_of_nonneg→sx,mul_le_mul→oO,mul_nonneg→pC
open Option renaming map_some→ed,some→da
open Bool renaming false_eq_true→jv
open Go Go.Am
open Go Go.Am Go.Proofs
open Nat (reduceEqDiff reduceAdd reduceLeDiff reduceMul)
open Int (reduceNeg reduceLE reduceToNat)
namespace T
def ku:List Int→List Bool→Int→Int
  | x::r,b::s,n=>ku r s (if b=true then min n x else n)
  | _,_,n=>n
def xS (ax:List Int) (w i:Nat) (a:Bool):Nat→List Bool→Int→Int
  | _,[],n=>n
  | k,b::r,n=>xS ax w i a (k+1) r (if a=true∧b=true then min n (ax.getD (i * w+k) 0) else n)
def wa (ax:List Int) (w:Nat) (rb:List Bool):Nat→List Bool→Int→Int
  | _,[],n=>n
  | i,a::r,n=>wa ax w rb (i+1) r (xS ax w i a 0 rb n)
def r8 (m:ah) (left:List (List Bool)) (p:Pr):Int:=wa p.ax (m.cls.getD p.snd.toNat default).length (left.getD p.snd.toNat default) 0 (left.getD p.fst.toNat default) 1099511627776
def ow:List Bool→Int→Int
  | [],n=>n
  | b::r,n=>ow r (if b=true then n+1 else n)
def kv (c:Int) (row:List Bool):List Ld→Int × Int→Int × Int
  | [],z=>z
  | x::r,z=>kv c row r (if x.cls=c∧row.getD x.opt.toNat false=true then (z.1 - 1,if z.2<0∨x.wt<z.2 then x.wt else z.2) else z)
def oz (l:List Ld) (c:Int) (row:List Bool):Int:=if 0<(kv c row l (ow row 0,-1)).1∨(kv c row l (ow row 0,-1)).2<0 then 0 else (kv c row l (ow row 0,-1)).2
def qR (l:List Ld) (left:List (List Bool)):Option Int→List Ld→Int→Int
  | _,[],n=>n
  | q,x::r,n=>qR l left (some x.cls) r (if q=some x.cls then n else n+oz l x.cls (left.getD x.cls.toNat default))
def zY (n bE:Int):Int:=if 0<n∧bE=1099511627776 then 1099511627776 else min (n * bE) 1099511627776
def qS (left:List (List Bool)) (c:Ct):Int:=zY (max (qR c.aK left none c.aK (-c.most)) 0) c.bE
def tu (left:List (List Bool)):Nat→List (List bK)→Int→Option Int
  | _,[],n=>some n
  | i,c::r,n=>if ku (fP c) (left.getD i default) 1099511627776=1099511627776 then none else tu left (i+1) r (n+ku (fP c) (left.getD i default) 1099511627776)
def uF (m:ah) (left:List (List Bool)):List Pr→Int→Option Int
  | [],n=>some n
  | p::r,n=>if r8 m left p=1099511627776 then none else uF m left r (n+r8 m left p)
def uG (left:List (List Bool)):List Ct→Int→Option Int
  | [],n=>some n
  | c::r,n=>if qS left c=1099511627776 then none else uG left r (n+qS left c)
def Cf:Option Int→Int
  | none=>1099511627776
  | some n=>min n 1099511627776
def zZ (m:ah) (left:List (List Bool)):Option Int→Option Int
  | none=>none
  | some n=>uG left m.au n
def Cg (m:ah) (left:List (List Bool)):Option Int→Option Int
  | none=>none
  | some n=>uF m left m.ae n
def eO (m:ah) (left:List (List Bool)):Int:=Cf (zZ m left (Cg m left (tu left 0 m.cls 0)))
def tv (q:Int × Bool):Int:=if q.2=true then q.1 else 1099511627776
theorem I5:∀ (l:List Int) (s:List Bool) (b:Int × Bool),(∀ x∈l,bP x)→(b.2=true→b.1<1099511627776) →
    tv (c9 (dm l) s b)=ku l s (tv b)∧((c9 (dm l) s b).2=true→(c9 (dm l) s b).1<1099511627776)
  | [],s,b,_,hb=>⟨by cases s<;>rfl,hb⟩
  | x::r,[],b,_,hb=>⟨rfl,hb⟩
  | x::r,is::s,b,h,hb=>by
    have hx:=h x (by simp)
    unfold bP at hx
    rw[show dm (x::r)=fI x::dm r from rfl,c9,ku]
    have key:tv (if is=true∧(fI x).2=false∧(b.2=false∨(fI x).1<b.1) then ((fI x).1,true) else b)=(if is=true then min (tv b) x else tv b):=by
      obtain ⟨b1,b2⟩:=b
      unfold fI tv
      dsimp only at hb ⊢
      cases is<;>cases b2<;>simp at hb ⊢<;>(repeat' split)<;>simp_all<;>omega
    have:=I5 r s (if is=true∧(fI x).2=false∧(b.2=false∨(fI x).1<b.1) then ((fI x).1,true) else b) (fun y hy=>h y (by simp[hy])) (by
      split
      · rename_i hc
        intro _
        have:=hc.2.1
        unfold fI at this ⊢
        simp at this;exact this
      · exact hb)
    rw[key] at this
    exact this
theorem Ug:∀ (l:List Int) (s t:List Bool) (n:Int),s.length≤l.length→ku l (s++t) n=ku (l.drop s.length) t (ku l s n)
  | l,[],t,n,_=>by cases l<;>rfl
  | [],b::s,t,n,h=>by simp at h
  | x::r,b::s,t,n,h=>by
    rw[List.cons_append,ku,ku,dH,List.drop_succ_cons]
    exact Ug r s t _ (by simpa using h)
theorem Uh (ax:List Int) (w i:Nat) (a:Bool):∀ (r:List Bool) (k:Nat) (n:Int),i * w+k+r.length≤ax.length→xS ax w i a k r n=ku (ax.drop (i * w+k)) (r.map (a && ·)) n
  | [],k,n,_=>by cases (ax.drop (i * w+k))<;>rfl
  | b::r,k,n,h=>by
    have bj:i * w+k<ax.length:=by simp at h;omega
    have hd:ax.drop (i * w+k)=ax.getD (i * w+k) 0::ax.drop (i * w+(k+1)):=by
      rw[List.drop_eq_getElem_cons bj,ay,List.getElem?_eq_getElem bj];rfl
    rw[xS,hd,cR,ku,Uh ax w i a r (k+1) _ (by simp at h;omega)]
    congr 1
    cases a<;>cases b<;>simp
theorem I6 (ax:List Int) (w:Nat) (rb:List Bool) (hw:rb.length=w):∀ (r:List Bool) (i:Nat) (n:Int),i * w+r.length * w≤ax.length→wa ax w rb i r n=ku (ax.drop (i * w)) (oZ r rb) n
  | [],i,n,_=>by show n=ku _ [] n;cases (ax.drop (i * w))<;>rfl
  | a::r,i,n,h=>by
    have h2:i * w+(r.length+1) * w≤ax.length:=h
    rw[e9,sq] at h2
    rw[wa,Uh ax w i a rb 0 n (by omega),I6 ax w rb hw r (i+1) _ (by rw[e9];omega)]
    show _=ku _ (rb.map (a && ·)++oZ r rb) n
    rw[Ug _ _ _ _ (by rw[dU,List.length_drop];omega),List.drop_drop,dU,hw,e9,sq]
    simp only[Nat.add_zero]
def iR:List (Int × Bool)→Int→Option Int
  | [],n=>some n
  | p::r,n=>if p.2=false then none else iR r (n+p.1)
theorem Ff:∀ (l:List (Int × Bool)) (n:Int),iR l n=if (bH l (n,false)).2=true then none else some (bH l (n,false)).1
  | [],n=>rfl
  | p::r,n=>by
    rw[iR]
    obtain ⟨a,b⟩:=p
    cases b
    · show none=if (bH r (n+a,true)).2=true then none else _
      rw[BN,if_pos rfl]
    · exact Ff r (n+a)
theorem Ui {m:ah} (hm:VM m) (left:List (List Bool)):∀ (k i:Nat) (n:Int),i+k=m.cls.length→tu left i (m.cls.drop i) n=iR ((mz i k).map fun j=>c9 ((S0 m).getD j default) (left.getD j default) (0,false)) n
  | 0,i,n,h=>by rw[dw (by omega)];rfl
  | k+1,i,n,h=>by
    have hi:i<m.cls.length:=by omega
    have hs:(S0 m).getD i default=dm (fP (m.cls.getD i default)):=by rw[S0,iu _ _ _ hi]
    have h2:=I5 (fP (m.cls.getD i default)) (left.getD i default) (0,false) (fun x hx=>by
      obtain ⟨o,ho,rfl⟩:=b7.1 hx
      exact EB (hm.nu _ (az hi) o ho)) (by simp)
    rw[show tv (0,false)=1099511627776 from rfl] at h2
    rw[dr m.cls i default hi,tu,vc,cR,iR,Ui hm left k (i+1) _ (by omega),hs,← h2.1]
    generalize c9 (dm (fP (m.cls.getD i default))) (left.getD i default) (0,false)=q at *
    obtain ⟨a,b⟩:=q
    unfold tv at *
    cases b<;>simp at h2 ⊢
    intro e;omega
theorem Uj {m:ah} (hm:VM m) {left:List (List Bool)} (hf:dN m left):∀ (k i:Nat) (n:Int),i+k=m.ae.length→uF m left (m.ae.drop i) n=iR ((mz i k).map fun j=>c9 ((T0 m).getD j default) (gL m left j) (0,false)) n
  | 0,i,n,h=>by rw[dw (by omega)];rfl
  | k+1,i,n,h=>by
    have hi:i<m.ae.length:=by omega
    have hs:(T0 m).getD i default=dm (m.ae.getD i default).ax:=by rw[T0,iu _ _ _ hi]
    have dJ:=jn hm.pr _ (az (d:=default) hi)
    obtain ⟨_,p1,p2,p3,p4⟩:=mj dJ
    have f1:=hf.2 (m.ae.getD i default).fst.toNat (by rw[hf.1];omega)
    have f2:=hf.2 (m.ae.getD i default).snd.toNat (by rw[hf.1];omega)
    have h2:=I5 (m.ae.getD i default).ax (gL m left i) (0,false) (EH dJ) (by simp)
    rw[show tv (0,false)=1099511627776 from rfl] at h2
    have h3:r8 m left (m.ae.getD i default)=ku (m.ae.getD i default).ax (gL m left i) 1099511627776:=by
      unfold r8 gL
      rw[I6 _ _ _ f2 _ 0 _ (by rw[Az,eR,f1];have:=p4;exact_mod_cast Int.le_of_eq this.symm),Az,wF]
    rw[dr m.ae i default hi,uF,vc,cR,iR,Uj hm hf k (i+1) _ (by omega),hs,h3,← h2.1]
    generalize c9 (dm (m.ae.getD i default).ax) (gL m left i) (0,false)=q at *
    obtain ⟨a,b⟩:=q
    unfold tv at *
    cases b<;>simp at h2 ⊢
    intro e;omega
theorem I7 (l:List Ld) (c:Int):∀ (row:List Bool) (o:Nat) (b:Int),ew l c o row b=b∨∃ i,row.getD i false=true∧ew l c o row b=fQ l c (o+i:Nat) 0
  | [],_,_=>.inl rfl
  | is::r,o,b=>by
    rw[ew]
    split
    · rename_i hc
      rcases I7 l c r (o+1) (fQ l c o 0) with h | ⟨i,h1,h2⟩
      · exact .inr ⟨0,by simpa using hc.1,by rw[h];rfl⟩
      · exact .inr ⟨i+1,by simpa using h1,by rw[h2,show o+1+i=o+(i+1) by omega]⟩
    · rcases I7 l c r (o+1) b with h | ⟨i,h1,h2⟩
      · exact .inl h
      · exact .inr ⟨i+1,by simpa using h1,by rw[h2,show o+1+i=o+(i+1) by omega]⟩
theorem Uk {l:List Ld} (h:∀ x∈l,1≤x.wt∧x.wt≤1000) (c:Int):∀ (row:List Bool) (o:Nat) (b:Int) (i:Nat),row.getD i false=true→0≤ew l c o row b
  | [],_,b,i,hi=>by simp at hi
  | is::r,o,b,0,hi=>by
    rw[gP] at hi
    have hw:=xI h c o 0 (by omega)
    rw[ew]
    split
    · exact (z3 h c r (o+1) _ hw.1).1
    · rename_i hc
      have hb:0≤b:=by
        rcases Int.lt_or_le b 0 with h2 | h2
        · exact absurd ⟨hi,.inl h2⟩ hc
        · exact h2
      exact (z3 h c r (o+1) b hb).1
  | is::r,o,b,i+1,hi=>by
    rw[eS] at hi
    rw[ew]
    exact Uk h c r (o+1) _ i hi
theorem Ul {f:Nat→Int}:∀ {n:Nat},(∀ i<n,0≤f i)→(0≤bz f n∧(0<bz f n↔∃ i,i<n∧0<f i))
  | 0,_=>by simp[bz]
  | n+1,h=>by
    obtain ⟨h1,h2⟩:=Ul (n:=n) fun i hi=>h i (by omega)
    have h3:=h n (by omega)
    rw[bz]
    refine⟨by omega,fun h4=>?_,?_⟩
    · by_cases h5:0<bz f n
      · obtain ⟨i,hi,hf⟩:=h2.1 h5;exact⟨i,by omega,hf⟩
      · exact⟨n,by omega,by omega⟩
    · rintro ⟨i,hi,hf⟩
      by_cases e:i=n
      · subst e;omega
      · have:=h2.2 ⟨i,by omega,hf⟩;omega
theorem Um (f g:Nat→Int):∀ n,bz f n - bz g n=bz (fun i=>f i - g i) n
  | 0=>rfl
  | n+1=>by rw[bz,bz,bz,← Um f g n];omega
theorem Un:∀ (row:List Bool) (n:Int),ow row n=n+bz (fun o=>if row.getD o false=true then 1 else 0) row.length
  | [],n=>by simp[ow,bz]
  | b::r,n=>by
    rw[ow,Un r,dH,xJ]
    simp only[gP,eS]
    split<;>omega
theorem I8 {m:ah} {q:Option Ld} {x:Ld} {r:List Ld} (h:dR m q (x::r)=true):dR m (some x) r=true:=by
  cases q<;>rw[dR] at h<;>simp only[Bool.and_eq_true] at h<;>exact h.2
open Classical in
theorem Uo {m:ah} (c:Int) (row:List Bool):∀ {l:List Ld} {q:Option Ld},dR m q l=true→∀ z:Int × Int,
    (kv c row l z).1=z.1 - bz (fun o=>if row.getD o false=true∧∃ x∈l,x.cls=c∧x.opt=(o:Int) then 1 else 0) row.length
  | [],_,_,z=>by
    rw[jo (g:=fun _=>0) _ fun i _=>by simp]
    have:∀ n,bz (fun _=>0) n=0:=fun n=>by induction n with | zero=>rfl | succ n ih=>rw[bz,ih];rfl
    rw[this,kv];omega
  | x::r,q,h,z=>by
    have hr:=I8 h
    have hx:=(iy.1 (o7 h x (by simp)).1).2.2.1
    rw[kv,Uo c row hr]
    by_cases hc:x.cls=c∧row.getD x.opt.toNat false=true
    · rw[if_pos hc]
      have hk:x.opt.toNat<row.length:=by
        rcases eK x.opt.toNat row.length with h' | h'
        · exact h'
        · rw[ay,du h'] at hc;simp at hc
      rw[jo (f:=fun o=>if row.getD o false=true∧∃ y∈x::r,y.cls=c∧y.opt=(o:Int) then 1 else 0) (g:=fun o=>if o=x.opt.toNat then (if row.getD o false=true∧∃ y∈r,y.cls=c∧y.opt=(o:Int) then 1 else 0)+1 else (if row.getD o false=true∧∃ y∈r,y.cls=c∧y.opt=(o:Int) then 1 else 0)) _ fun o _=>by
        by_cases e:o=x.opt.toNat
        · subst e
          rw[if_pos ⟨hc.2,x,by simp,hc.1,by omega⟩,if_pos rfl,if_neg (by rintro ⟨_,y,hy,h1,h2⟩;have:=wc hr y hy;omega)];rfl
        · rw[if_neg e]
          congr 1
          rw[eq_iff_iff]
          refine and_congr_right fun _=>⟨?_,fun ⟨y,hy,h1⟩=>⟨y,by simp[hy],h1⟩⟩
          rintro ⟨y,hy,h1,h2⟩
          rcases bZ.1 hy with rfl | hy
          · omega
          · exact⟨y,hy,h1,h2⟩,zL,if_pos hk]
      dsimp only;omega
    · rw[if_neg hc]
      rw[jo (f:=fun o=>if row.getD o false=true∧∃ y∈x::r,y.cls=c∧y.opt=(o:Int) then 1 else 0) (g:=fun o=>if row.getD o false=true∧∃ y∈r,y.cls=c∧y.opt=(o:Int) then 1 else 0) _ fun o _=>by
        congr 1
        rw[eq_iff_iff]
        refine and_congr_right fun Fg=>⟨?_,fun ⟨y,hy,h1⟩=>⟨y,by simp[hy],h1⟩⟩
        rintro ⟨y,hy,h1,h2⟩
        rcases bZ.1 hy with rfl | hy
        · exact absurd ⟨h1,by rw[h2,eT];exact Fg⟩ hc
        · exact⟨y,hy,h1,h2⟩]
theorem Uq (c:Int) (row:List Bool):∀ {l:List Ld},(∀ x∈l,1≤x.wt)→∀ z:Int × Int,
    (∀ x∈l,x.cls=c∧row.getD x.opt.toNat false=true→0≤(kv c row l z).2∧(kv c row l z).2≤x.wt)∧(0≤z.2→0≤(kv c row l z).2∧(kv c row l z).2≤z.2) ∧
      ((kv c row l z).2=z.2∨∃ x∈l,(x.cls=c∧row.getD x.opt.toNat false=true)∧(kv c row l z).2=x.wt)
  | [],_,z=>⟨by simp,fun h=>⟨h,eo _⟩,.inl rfl⟩
  | x::r,h,z=>by
    obtain ⟨h1,h2,h3⟩:=Uq c row (l:=r) (fun y hy=>h y (by simp[hy])) (if x.cls=c∧row.getD x.opt.toNat false=true then (z.1 - 1,if z.2<0∨x.wt<z.2 then x.wt else z.2) else z)
    have hx:=h x (by simp)
    rw[kv]
    generalize kv c row r _=w at *
    by_cases hc:x.cls=c∧row.getD x.opt.toNat false=true
    · rw[if_pos hc] at h2 h3
      dsimp only at h2 h3
      refine⟨fun y hy xf=>?_,fun hz=>?_,?_⟩
      · rcases bZ.1 hy with rfl | hy
        · split at h2<;>omega
        · exact h1 y hy xf
      · split at h2<;>omega
      · rcases h3 with h3 | ⟨y,hy,h3⟩
        · split at h3
          · exact .inr ⟨x,by simp,hc,h3⟩
          · exact .inl h3
        · exact .inr ⟨y,by simp[hy],h3⟩
    · rw[if_neg hc] at h2 h3
      refine⟨fun y hy xf=>?_,h2,?_⟩
      · rcases bZ.1 hy with rfl | hy
        · exact absurd xf hc
        · exact h1 y hy xf
      · rcases h3 with h3 | ⟨y,hy,h3⟩
        · exact .inl h3
        · exact .inr ⟨y,by simp[hy],h3⟩
theorem I9 {m:ah}:∀ {l:List Ld} {q:Option Ld},dR m q l=true→∀ x∈l,∀ w,fQ l x.cls x.opt w=x.wt
  | [],_,_,x,hx,w=>by simp at hx
  | y::r,q,h,x,hx,w=>by
    have hr:=I8 h
    rw[fQ]
    rcases bZ.1 hx with rfl | hx
    · rw[if_pos ⟨rfl,rfl⟩]
      exact Fh r _ _ _ fun z hz he=>by have:=wc hr z hz;omega
    · exact I9 hr x hx _
open Classical in
theorem acu {m:ah} {l:List Ld} {q:Option Ld} (hl:dR m q l=true) (c:Int) (row:List Bool):oz l c row=mP l c row:=by
  have hw:∀ x∈l,1≤x.wt∧x.wt≤1000:=fun x hx=>(o7 hl x hx).2
  have h1:=Uo c row hl (ow row 0,-1)
  obtain ⟨h2,_,h3⟩:=Uq c row (fun x hx=>(hw x hx).1) (ow row 0,-1)
  unfold oz
  generalize kv c row l (ow row 0,-1)=z at *
  rw[Un,wJ,Um] at h1
  obtain ⟨h4,h5⟩:=Ul (f:=fun i=>(if row.getD i false=true then (1:Int) else 0) - if row.getD i false=true∧∃ x∈l,x.cls=c∧x.opt=(i:Int) then 1 else 0) (n:=row.length) fun i _=>by
    (repeat' split)<;>simp_all
  rw[← h1] at h4 h5
  have hlen:∀ i,row.getD i false=true→i<row.length:=fun i h'=>by
    rcases eK i row.length with h6 | h6
    · exact h6
    · rw[ay,du h6] at h';simp at h'
  have qT:∀ x∈l,0≤x.opt:=fun x hx=>(iy.1 (o7 hl x hx).1).2.2.1
  by_cases hex :∃o,row.getD o false=true∧¬∃x∈l,x.cls=c∧x.opt=(o:Int)
  · obtain ⟨o,ho,lW⟩:=hex
    rw[if_pos (.inl (h5.2 ⟨o,hlen o ho,by rw[if_pos ho,if_neg (by rintro ⟨_,h'⟩;exact lW h')];decide⟩))]
    have h6:=Fi hw c row 0 (-1) o ho
    rw[eR,Fh l c o 0 fun y hy he=>lW ⟨y,hy,he⟩] at h6
    unfold mP;omega
  have fq:∀ o,row.getD o false=true→∃ x∈l,x.cls=c∧x.opt=(o:Int):=fun o ho=>Classical.byContradiction fun h'=>hex ⟨o,ho,h'⟩
  have hz:¬ 0<z.1:=fun h'=>by
    obtain ⟨i,hi,h6⟩:=h5.1 h'
    by_cases hr:row.getD i false=true
    · rw[if_pos hr,if_pos ⟨hr,fq i hr⟩] at h6;omega
    · rw[if_neg hr,if_neg (fun h7=>hr h7.1)] at h6;omega
  by_cases uH :∃o,row.getD o false=true
  · obtain ⟨o,ho⟩:=uH
    obtain ⟨x,hx,rM,tw⟩:=fq o ho
    obtain ⟨g1,g2⟩:=h2 x hx ⟨rM,by rw[tw,eT];exact ho⟩
    rw[if_neg (by omega)]
    have g3:=Uk hw c row 0 (-1) o ho
    unfold mP
    rw[Int.max_eq_left g3]
    refine Int.le_antisymm ?_ ?_
    · rcases I7 l c row 0 (-1) with e | ⟨i,hi,e⟩
      · omega
      · obtain ⟨y,hy,oV,Ur⟩:=fq i hi
        rw[e,eR,← Ur,← oV,I9 hl y hy]
        exact (h2 y hy ⟨oV,by rw[Ur,eT];exact hi⟩).2
    · rcases h3 with e | ⟨y,hy,⟨oV,I'⟩,e⟩
      · dsimp only at e;omega
      · have h6:=Fi hw c row 0 (-1) _ I'
        rw[eR,sx (qT y hy),← oV,I9 hl y hy] at h6
        rw[← oV];omega
  · have e:z.2 = -1:=by
      rcases h3 with e | ⟨y,hy,⟨oV,I'⟩,e⟩
      · exact e
      · exact absurd ⟨_,I'⟩ uH
    rw[if_pos (.inr (by omega)),mP,Ja l c row 0 (-1) fun i=>by
      cases h':row.getD i false with
      | false=>rfl
      | true=>exact absurd ⟨i,h'⟩ uH]
    rfl
open Classical in
theorem Us {m:ah} (L:List Ld) (left:List (List Bool)) {N:Nat} (hN:m.cls.length≤N):∀ {r:List Ld} {q:Option Ld},dR m q r=true→∀ n:Int,
    qR L left (q.map (·.cls)) r n=n+bz (fun j=>if (∃ x∈r,x.cls=(j:Int))∧q.map (·.cls)≠some (j:Int) then oz L j (left.getD j default) else 0) N
  | [],_,_,n=>by
    rw[jo (g:=fun _=>0) _ fun i _=>by simp]
    have:∀ n,bz (fun _=>0) n=0:=fun n=>by induction n with | zero=>rfl | succ n ih=>rw[bz,ih];rfl
    rw[this,qR];omega
  | x::r,q,h,n=>by
    have hr:=I8 h
    obtain ⟨hx0,hx1,_⟩:=iy.1 (o7 h x (by simp)).1
    have h0:=Us L left hN hr
    simp only[ed] at h0
    rw[qR,h0]
    by_cases hq:q.map (·.cls)=some x.cls
    · rw[if_pos hq,hq]
      congr 1
      refine jo _ fun j _=>?_
      congr 1
      rw[eq_iff_iff]
      simp only[ne_eq,da.injEq]
      refine and_congr_left fun hj=>⟨fun ⟨y,hy,e⟩=>⟨y,by simp[hy],e⟩,?_⟩
      rintro ⟨y,hy,e⟩
      rcases bZ.1 hy with rfl | hy
      · exact absurd e hj
      · exact⟨y,hy,e⟩
    · rw[if_neg hq,jo (f:=fun j=>if (∃ y∈x::r,y.cls=(j:Int))∧q.map (·.cls)≠some (j:Int) then oz L j (left.getD j default) else 0)
        (g:=fun j=>if j=x.cls.toNat then (if (∃ y∈r,y.cls=(j:Int))∧some x.cls≠some (j:Int) then oz L j (left.getD j default) else 0)+oz L x.cls (left.getD x.cls.toNat default) else (if (∃ y∈r,y.cls=(j:Int))∧some x.cls≠some (j:Int) then oz L j (left.getD j default) else 0)) _ fun j _=>by
        have Fj:((x.cls.toNat:Nat):Int)=x.cls:=sx hx0
        by_cases e:j=x.cls.toNat
        · subst e
          rw[if_pos ⟨⟨x,by simp,Fj.symm⟩,by rw[Fj];exact hq⟩,if_pos rfl,if_neg (by rw[Fj];simp),Fj];omega
        · rw[if_neg e]
          congr 1
          rw[eq_iff_iff]
          constructor
          · rintro ⟨⟨y,hy,Jb⟩,_⟩
            rcases bZ.1 hy with rfl | hy
            · omega
            · exact⟨⟨y,hy,Jb⟩,by simp only[ne_eq,da.injEq];omega⟩
          · rintro ⟨⟨y,hy,Jb⟩,_⟩
            refine⟨⟨y,by simp[hy],Jb⟩,fun Ut=>?_⟩
            cases q with
            | none=>simp at Ut
            | some q =>
              have h6:=wc h y (by simp[hy])
              have h7:=wc h x (by simp)
              have h8:=wc hr y hy
              simp only[ed,da.injEq] at Ut hq
              omega,zL,if_pos (by omega)]
      omega
theorem acv {m:ah} (hm:VM m) {left:List (List Bool)} (hf:dN m left) {c:Ct} (hc:gV m c=true) :
    qS left c=lk left c∧(qS left c=1099511627776↔(decide (c.bE=1099511627776) && decide (0<lk left c))=true):=by
  obtain ⟨_,q2,q3,q4⟩:=nw hc
  have hw:∀ x∈c.aK,1≤x.wt∧x.wt≤1000:=fun x hx=>(o7 q4 x hx).2
  have hs:qR c.aK left none c.aK (-c.most) = -c.most+jR c.aK 0 left 0:=by
    have:=Us (m:=m) c.aK left (Nat.le_refl _) (q:=none) q4 (-c.most)
    rw[Option.map_none] at this
    rw[this,zN,wJ,hf.1]
    congr 1
    refine jo _ fun j _=>?_
    rw[eR]
    split
    · exact acu q4 _ _
    · rename_i hn
      rw[O7 fun x hx e=>hn ⟨⟨x,hx,e⟩,by simp⟩]
  have hr:=Ix hw left
  have xT:=hm.cls
  rw[hf.1] at hr
  unfold qS lk
  rw[hs]
  generalize jR c.aK 0 left 0=s at *
  unfold zY kP
  unfold iM at q3
  rw[decide_eq_true_eq] at q3
  by_cases h0:s≤c.most
  · rw[Int.max_eq_right (by omega),if_neg (by omega),if_pos h0]
    simp<;>omega
  rw[Int.max_eq_left (by omega),if_neg h0,show -c.most+s=s - c.most by omega]
  rcases q3 with q3 | q3
  · rw[if_neg (by omega)]
    have h1:(s - c.most) * c.bE≤24000 * 1048576:=oO (by omega) (by omega) (by omega) (by omega)
    refine⟨rfl,?_⟩
    rw[decide_eq_false (by omega:¬ c.bE=1099511627776),Bool.false_and]
    constructor
    · intro h;omega
    · intro h;simp at h
  · rw[q3,if_pos ⟨by omega,rfl⟩,show min ((s - c.most) * 1099511627776) 1099511627776=(1099511627776:Int) by omega]
    simp
theorem Uu {m:ah} (hm:VM m) {left:List (List Bool)} (hf:dN m left):∀ (k i:Nat) (n:Int),i+k=m.au.length→uG left (m.au.drop i) n=iR ((mz i k).map fun j=>pT m left j) n
  | 0,i,n,h=>by rw[dw (by omega)];rfl
  | k+1,i,n,h=>by
    have hi:i<m.au.length:=by omega
    obtain ⟨h1,h2⟩:=acv hm hf (hm.ct _ (az (d:=default) hi))
    rw[dr m.au i default hi,uG,vc,cR,iR,Uu hm hf k (i+1) _ (by omega)]
    unfold pT
    dsimp only
    rw[h1] at h2 ⊢
    by_cases h3:lk left (m.au.getD i default)=1099511627776
    · rw[if_pos h3,h2.1 h3];rfl
    · rw[if_neg h3]
      cases hb:(decide ((m.au.getD i default).bE=1099511627776) && decide (0<lk left (m.au.getD i default))) with
      | true=>exact absurd (h2.2 hb) h3
      | false=>rfl
theorem I1 {m:ah} (hm:VM m) {left:List (List Bool)} (hf:dN m left):eO m left=mR m left (S0 m,T0 m):=by
  have h1:=Ui hm left m.cls.length 0 0 (by omega)
  have h2:=fun n=>Uj hm hf m.ae.length 0 n (by omega)
  have h3:=fun n=>Uu hm hf m.au.length 0 n (by omega)
  simp only[wF,← List.range_eq_range'] at h1 h2 h3
  unfold eO mR
  rw[h1]
  show Cf (zZ m left (Cg m left (iR (PC left (S0 m) m.cls.length) 0)))=_
  have h2':∀ n,uF m left m.ae n=iR (PP m left (T0 m) m.ae.length) n:=h2
  have h3':∀ n,uG left m.au n=iR (PK m left m.au.length) n:=h3
  rw[Ff]
  generalize bH (PC left (S0 m) m.cls.length) (0,false)=z
  obtain ⟨a,b⟩:=z
  cases b
  · simp only[Cg,h2',Ff,jv,if_false]
    generalize bH (PP m left (T0 m) m.ae.length) (a,false)=z
    obtain ⟨a2,b2⟩:=z
    cases b2
    · simp only[zZ,h3',Ff,jv,if_false]
      generalize bH (PK m left m.au.length) (a2,false)=z
      obtain ⟨a3,b3⟩:=z
      cases b3<;>simp[Cf]
    · simp only[if_true,zZ,Cf,BN]
  · simp only[if_true,Cg,zZ,Cf]
    have:∀ l n,(bH l (n,true))=((bH l (n,true)).1,true):=fun l n=>Prod.ext rfl (BN l n)
    rw[this,this (PK m left m.au.length)]
    rfl
theorem Jc:∀ (l:List Int) (s:List Bool) (n:Int),(∀ x∈l,0≤x)→0≤n→0≤ku l s n∧ku l s n≤n
  | [],s,n,_,hn=>by cases s<;>exact⟨hn,eo _⟩
  | x::r,[],n,_,hn=>⟨hn,eo _⟩
  | x::r,b::s,n,h,hn=>by
    have hx:=h x (by simp)
    obtain ⟨h1,h2⟩:=Jc r s (if b=true then min n x else n) (fun y hy=>h y (by simp[hy])) (by split<;>omega)
    rw[ku]
    refine⟨h1,Int.le_trans h2 ?_⟩
    split<;>omega
theorem acy {m:ah} {p:Pr} {left:List (List Bool)} (hm:VM m) (dJ:fJ m p=true) (hf:dN m left):0≤r8 m left p∧r8 m left p≤1099511627776:=by
  obtain ⟨q1,q2,q3,q4,q5⟩:=mj dJ
  have h1:=hf.1
  have a1:=hf.2 p.fst.toNat (by omega)
  have a2:=hf.2 p.snd.toNat (by omega)
  unfold r8
  rw[I6 _ _ _ a2 _ 0 _ (by rw[Az,eR,a1];exact_mod_cast Int.le_of_eq q5.symm),Az,wF]
  exact Jc _ _ _ (fun x hx=>(EH dJ x hx).1) (by omega)
theorem Jd (n:Int):ao Tryz.prog 160 [.lit (.int .i64 n)] [] (.lit (.int .i64 (min n 1099511627776))) []:=by
  refine ao.aF (fn:=Tryz.f160) 5 0 [.tmp 2] Tryz.func160 rfl rfl rfl rfl rfl (by simp) ?_
  refine Vb X0 ?_
  exact aC rfl rfl
theorem acz (n bE:Int) (hn:0≤n∧n≤1048576) (hp:iM bE=true):ao Tryz.prog 187 [.lit (.int .i64 n),.lit (.int .i64 bE)] [] (.lit (.int .i64 (zY n bE))) []:=by
  have Fk:=mg hp
  unfold iM at hp
  unfold bP at Fk
  rw[decide_eq_true_eq] at hp
  generalize an:zY n bE=res
  unfold zY at an
  have hmul:¬(0<n∧bE=1099511627776)→0≤n * bE∧n * bE≤1099511627776:=fun h=>by
    rcases Int.lt_or_eq_of_le hn.1 with h0 | h0
    · have:n * bE≤1048576 * 1048576:=oO hn.2 (by omega) (by omega) (by omega)
      have:=pC hn.1 Fk.1
      omega
    · rw[← h0];simp
  generalize Uv:n * bE=np at *
  have pd:=Jd np
  refine ao.aF (fn:=Tryz.f187) 15 0 [.tmp 4] Tryz.func187 rfl rfl rfl rfl rfl (by simp) ?_
  by_cases h:0<n∧bE=1099511627776
  · rw[if_pos h] at an
    ((repeat' (first|refine Vb X0 ?_|(refine V2 X0 ?_ ?_<;>try with_reducible intro hb)|(refine Xi ?_ ?_<;>try intro ht)|exact Xx|fail)))
    all_goals exact aC rfl (by rw[an])
  · rw[if_neg h] at an
    have hmul:=hmul h
    ((repeat' (first|refine Vd @Uv pd ?_|(refine V2 @Uv ?_ ?_<;>try with_reducible intro hb)|(refine Xi ?_ ?_<;>try intro ht)|exact Xx|fail)))
    all_goals exact aC rfl (by rw[an])
theorem acA (o:bK) (hc:∀ c∈o.ch,bP c.2) (hl:o.ch.length≤100):ao Tryz.prog 157 [.agg (bX o)] [] (.lit (.int .i64 (od o))) []:=by
  refine ao.aF (fn:=Tryz.f157) 20 0 [.tmp 2] Tryz.func157 rfl rfl rfl rfl rfl (by simp) ?_
  refine Vb @bX.eq_1 ?_
  refine aI (fun k:Nat=>(⟨av [(3,.lit (.int .i64 (((o.ch.take k).map (·.2)).foldl dQ 0))),(7,.tree 2 (rowsOf aG o.ch)),(8,.lit (.int .i64 o.ch.length)),(9,.lit (.int .i64 k))],[]⟩:St)) (fun k=>k≤o.ch.length) (fun k=>o.ch.length - k) 0 (aD _) (Xs false [] (X3 @List.take_zero.{0} @List.map_nil.{0,0} @List.foldl_nil.{0,0})) ?_
  rintro k hk Ql ak aq
  have hs:=BI ((o.ch.take k).map (·.2)) 0 (fun x hx=>by
    obtain ⟨c,jA,rfl⟩:=b7.1 hx;exact hc c (List.mem_of_mem_take jA)) (by unfold bP;decide)
  by_cases aP:k<o.ch.length
  · have aO:=hc _ (az (d:=default) aP)
    have dP:=Ie o.ch k aP
    generalize ((o.ch.take k).map (·.2)).foldl dQ 0=s at *
    generalize bA:o.ch.getD k default=x at *
    have qU:=Jd (s+x.2)
    rw[show min (s+x.2) 1099511627776=dQ s x.2 from rfl] at qU
    unfold bP at hs aO
    ((repeat' (first|refine Vc (X2 @bA @aG.eq_1) qU ?_|(refine Xi ?_ ?_<;>try intro ht)|exact Xx|fail)))
    exact ak _ (k+1) (by omega) (by omega) (by simp only[dP];exact Xs false [] X0)
  · have lg:((o.ch.take k).map (·.2)).foldl dQ 0=od o:=by rw[List.take_of_length_le (by omega)];rfl
    rw[lg] at hs ⊢
    ((repeat' (first|refine Va X0 ?_|(refine Xi ?_ ?_<;>try intro ht)|exact Xx|fail)))
    refine aq _ _ rfl ?_;clear ak aq Ql
    repeat (refine Xu ?_)
    refine Vb X0 ?_
    exact aC rfl rfl
theorem acB (m:ah) (p:Pr) (x y:Int) (dJ:fJ m p=true) (xT:∀ l∈m.cls,l.length≤24) (hx:0≤x∧x<(m.cls.getD p.fst.toNat default).length) (hy:0≤y∧y<(m.cls.getD p.snd.toNat default).length) :
    ao Tryz.prog 185 [.agg (ar m),.agg (aV p),.lit (.int .i64 x),.lit (.int .i64 y)] [] (.lit (.int .i64 (nB m p x y))) []:=by
  obtain ⟨q1,q2,q3,q4,q5⟩:=mj dJ
  have z4:=xT _ (az (l:=m.cls) (i:=p.fst.toNat) (d:=default) (by omega))
  have tx:=xT _ (az (l:=m.cls) (i:=p.snd.toNat) (d:=default) (by omega))
  have Je:=uC (x:=x) (y:=y) (a:=(m.cls.getD p.fst.toNat default).length) (b:=(m.cls.getD p.snd.toNat default).length) hx hy (by omega) (by omega)
  unfold nB
  rw[← q5] at Je
  generalize gF:m.cls.getD p.snd.toNat default=lb at *
  generalize uI:x * (lb.length:Int)=xm at *
  refine ao.aF (fn:=Tryz.f185) 24 0 [.tmp 8] Tryz.func185 rfl rfl rfl rfl rfl (by simp) ?_
  refine Vb (X2 @gF @uI) ?_
  exact aC rfl rfl
theorem acC (m:ah) (p:Pr) (left:List (List Bool)) (hm:VM m) (dJ:fJ m p=true) (hf:dN m left) :
    ao Tryz.prog 158 [.agg (ar m),.agg (aV p),.tree 1 (rowsOf aE left)] [] (.lit (.int .i64 (r8 m left p))) []:=by
  obtain ⟨q1,q2,q3,q4,q5⟩:=mj dJ
  have eW:=hf.1
  have ca:=hm.cls
  have ha:=hf.2 p.fst.toNat (by omega)
  have hb:=hf.2 p.snd.toNat (by omega)
  have z4:=hm.opt _ (az (l:=m.cls) (i:=p.fst.toNat) (d:=default) (by omega))
  have tx:=hm.opt _ (az (l:=m.cls) (i:=p.snd.toNat) (d:=default) (by omega))
  have Ch:=fun x y=>acB m p x y dJ hm.opt
  generalize an:r8 m left p=res
  unfold r8 at an
  unfold nB at Ch
  generalize hra:left.getD p.fst.toNat default=ra at *
  generalize qV:left.getD p.snd.toNat default=rb at *
  generalize m.cls.getD p.fst.toNat default=la at *
  generalize m.cls.getD p.snd.toNat default=lb at *
  refine ao.aF (fn:=Tryz.f158) 48 0 [.tmp 6] Tryz.func158 rfl rfl rfl rfl rfl (by simp) ?_
  refine Vb (X3 @hra @aE.eq_1 @aV.eq_1) ?_
  refine aI (fun z:Nat × Int=>(⟨av [(2,.tree 1 (rowsOf aE left)),(3,.ptr 0 0 0),(4,.ptr 1 0 0),(7,.lit (.int .i64 z.2)),(16,.tree 1 (bg ra)),(17,.lit (.int .i64 ra.length)),(18,.lit (.int .i64 z.1))],[.var (ar m),.var (aV p)]⟩:St))
    (fun z=>z.1≤ra.length∧wa p.ax lb.length rb z.1 (ra.drop z.1) z.2=res) (fun z=>ra.length - z.1) (0,1099511627776) ⟨aD _,an⟩ (Xv @aV.eq_1) ?_
  rintro ⟨i,n⟩ ⟨hi,hr⟩ Ql ak aq
  dsimp only at hi hr ⊢
  by_cases hi':i<ra.length
  · have hd:=dr ra i false hi'
    generalize z5:ra.getD i false=a at *
    rw[hd,wa] at hr
    ((repeat' (first|refine Va (X4 @z5 @qV @aE.eq_1 @aV.eq_1) ?_|(refine Xi ?_ ?_<;>try intro ht)|exact Xx|fail)))
    refine aI (fun z:Nat × Int=>(⟨av [(2,.tree 1 (rowsOf aE left)),(3,.ptr 0 0 0),(4,.ptr 1 0 0),(7,.lit (.int .i64 z.2)),(8,.lit (.int .i64 i)),(9,.lit (.bool a)),(16,.tree 1 (bg ra)),(17,.lit (.int .i64 ra.length)),(18,.lit (.int .i64 i)),(27,.tree 1 (bg rb)),(28,.lit (.int .i64 rb.length)),(29,.lit (.int .i64 z.1))],[.var (ar m),.var (aV p)]⟩:St))
      (fun z=>z.1≤rb.length∧wa p.ax lb.length rb (i+1) (ra.drop (i+1)) (xS p.ax lb.length i a z.1 (rb.drop z.1) z.2)=res) (fun z=>rb.length - z.1) (0,n) ⟨aD _,hr⟩ (Xv @aV.eq_1) ?_
    rintro ⟨k,x⟩ ⟨hk,gD⟩ cP a5 a8
    dsimp only at hk gD ⊢
    by_cases aP:k<rb.length
    · have we:=dr rb k false aP
      generalize gF:rb.getD k false=b at *
      rw[we,xS] at gD
      have he:=Ch i k (by omega) (by omega)
      rw[show ((i:Int) * (lb.length:Int)+(k:Int)).toNat=i * lb.length+k by rw[← Int.natCast_mul,← Int.natCast_add,eT]] at he
      generalize p.ax.getD (i * lb.length+k) 0=e at *
      cases a<;>cases b
      · rw[if_neg (by simp)] at gD
        ((repeat' (first|refine Va @gF ?_|(refine Xi ?_ ?_<;>try intro ht)|exact Xx|fail)))
        all_goals exact a5 _ (k+1,x) ⟨by dsimp only;omega,gD⟩ (by dsimp only;omega) (Xv X0)
      · rw[if_neg (by simp)] at gD
        ((repeat' (first|refine Va @gF ?_|(refine Xi ?_ ?_<;>try intro ht)|exact Xx|fail)))
        all_goals exact a5 _ (k+1,x) ⟨by dsimp only;omega,gD⟩ (by dsimp only;omega) (Xv X0)
      · rw[if_neg (by simp)] at gD
        ((repeat' (first|refine Va @gF ?_|(refine Xi ?_ ?_<;>try intro ht)|exact Xx|fail)))
        all_goals exact a5 _ (k+1,x) ⟨by dsimp only;omega,gD⟩ (by dsimp only;omega) (Xv X0)
      · rw[if_pos ⟨rfl,rfl⟩] at gD
        ((repeat' (first|refine Vc @gF he ?_|(refine Xi ?_ ?_<;>try intro ht)|exact Xx|fail)))
        all_goals exact a5 _ (k+1,min x e) ⟨by dsimp only;omega,gD⟩ (by dsimp only;omega) (Xv X0)
    · ((repeat' (first|refine Va X0 ?_|(refine V2 X0 ?_ ?_<;>try with_reducible intro hb)|(refine Xi ?_ ?_<;>try intro ht)|exact Xx|fail)))
      rw[show rb.drop k=[] from dw (by omega),xS] at gD
      refine a8 _ _ rfl ?_
      clear a5 a8
      repeat (refine Xu ?_)
      refine Va X0 ?_
      exact ak _ (i+1,x) ⟨by dsimp only;omega,gD⟩ (by dsimp only;omega) (Xv X0)
  · ((repeat' (first|refine Va X0 ?_|(refine Xi ?_ ?_<;>try intro ht)|exact Xx|fail)))
    rw[dw (by omega),wa] at hr
    refine aq _ _ rfl ?_;clear ak aq Ql
    repeat (refine Xu ?_)
    refine Vb X0 ?_
    exact aC rfl (by rw[hr])
theorem acE {l:List Ld} (hw:∀ x∈l,1≤x.wt∧x.wt≤1000) (c:Int) (row:List Bool):0≤oz l c row∧oz l c row≤1000:=by
  have h:∀ (l:List Ld) (z:Int × Int),(∀ x∈l,1≤x.wt∧x.wt≤1000)→z.2≤1000→(kv c row l z).2≤1000:=by
    intro l
    induction l with
    | nil=>intro z _ h;exact h
    | cons x r ih =>
      intro z h1 h2
      rw[kv]
      refine ih _ (fun y hy=>h1 y (by simp[hy])) ?_
      have:=h1 x (by simp)
      split
      · dsimp only;split<;>omega
      · exact h2
  have:=h l (ow row 0,-1) hw (by dsimp only;omega)
  unfold oz
  split<;>omega
theorem acF (c:Ct) (k:Int) (row:List Bool) (Br:row.length≤24) (ur:∀ x∈c.aK,x.cls=k→0≤x.opt∧x.opt<row.length) (hl:c.aK.length≤576) :
    ao Tryz.prog 186 [.agg (aU c),.lit (.int .i64 k),.tree 1 (bg row)] [] (.lit (.int .i64 (oz c.aK k row))) []:=by
  generalize an:oz c.aK k row=res
  unfold oz at an
  refine ao.aF (fn:=Tryz.f186) 61 0 [.tmp 6] Tryz.func186 rfl rfl rfl rfl rfl (by simp) ?_
  refine Vb @aU.eq_1 ?_
  generalize hM:ow row 0=M at *
  refine aI (fun z:Nat × Int=>(⟨av [(1,.lit (.int .i64 k)),(2,.tree 1 (bg row)),(3,.ptr 0 0 0),(7,.lit (.int .i64 z.2)),(8,.lit (.int .i64 (-1))),(13,.tree 1 (bg row)),(14,.lit (.int .i64 row.length)),(15,.lit (.int .i64 z.1))],[.var (aU c)]⟩:St))
    (fun z=>z.1≤row.length∧0≤z.2∧z.2≤z.1∧ow (row.drop z.1) z.2=M) (fun z=>row.length - z.1) (0,0) ⟨aD _,eo _,eo _,hM⟩ (Xv @aU.eq_1) ?_
  rintro ⟨i,n⟩ ⟨hi,cV,eM,hr⟩ Ql ak aq
  dsimp only at hi cV eM hr ⊢
  by_cases hi':i<row.length
  · have hd:=dr row i false hi'
    generalize z5:row.getD i false=a at *
    rw[hd,ow] at hr
    cases a
    · rw[if_neg (by simp)] at hr
      ((repeat' (first|refine Va @z5 ?_|(refine Xi ?_ ?_<;>try intro ht)|exact Xx|fail)))
      all_goals exact ak _ (i+1,n) ⟨by dsimp only;omega,cV,by dsimp only;omega,hr⟩ (by dsimp only;omega) (Xv X0)
    · rw[if_pos rfl] at hr
      ((repeat' (first|refine Va @z5 ?_|(refine Xi ?_ ?_<;>try intro ht)|exact Xx|fail)))
      all_goals exact ak _ (i+1,n+1) ⟨by dsimp only;omega,by dsimp only;omega,by dsimp only;omega,hr⟩ (by dsimp only;omega) (Xv X0)
  rw[dw (by omega),ow] at hr
  subst hr
  ((repeat' (first|refine Va X0 ?_|(refine Xi ?_ ?_<;>try intro ht)|exact Xx|fail)))
  refine aq _ _ rfl ?_;clear ak aq Ql
  repeat (refine Xu ?_)
  refine Va @aU.eq_1 ?_
  generalize hZ:kv k row c.aK (n,-1)=Z at *
  refine aI (fun z:Nat × Int × Int=>(⟨av [(1,.lit (.int .i64 k)),(2,.tree 1 (bg row)),(7,.lit (.int .i64 z.2.1)),(8,.lit (.int .i64 z.2.2)),(24,.tree 3 (rowsOf gG c.aK)),(25,.lit (.int .i64 c.aK.length)),(26,.lit (.int .i64 z.1))],[]⟩:St))
    (fun z=>z.1≤c.aK.length∧-(z.1:Int)≤z.2.1∧z.2.1≤24∧kv k row (c.aK.drop z.1) z.2=Z) (fun z=>c.aK.length - z.1) (0,n,-1) ⟨aD _,by dsimp only;omega,by dsimp only;omega,hZ⟩ (Xs false [] X0) ?_
  rintro ⟨j,y,w⟩ ⟨hj,hy0,Jf,hr⟩ Ql ak aq
  dsimp only at hj hy0 Jf hr ⊢
  by_cases dZ:j<c.aK.length
  · have hd:=dr c.aK j default dZ
    have hm:=ur _ (az (d:=default) dZ)
    generalize bA:c.aK.getD j default=x at *
    rw[hd,kv] at hr
    by_cases hc:x.cls=k
    · have hm:=hm hc
      generalize gF:row.getD x.opt.toNat false=b at *
      cases b
      · rw[if_neg (by simp)] at hr
        ((repeat' (first|refine Va (X3 @bA @gG.eq_1 @gF) ?_|(refine V2 (X3 @bA @gG.eq_1 @gF) ?_ ?_<;>try with_reducible intro hb)|(refine Xi ?_ ?_<;>try intro ht)|exact Xx|fail)))
        all_goals exact ak _ (j+1,y,w) ⟨by dsimp only;omega,by dsimp only;omega,Jf,hr⟩ (by dsimp only;omega) (Xs false [] X0)
      · rw[if_pos ⟨hc,rfl⟩] at hr
        by_cases hw:w<0∨x.wt<w
        · rw[if_pos hw] at hr
          ((repeat' (first|refine Va (X3 @bA @gG.eq_1 @gF) ?_|(refine V2 (X3 @bA @gG.eq_1 @gF) ?_ ?_<;>try with_reducible intro hb)|(refine Xi ?_ ?_<;>try intro ht)|exact Xx|fail)))
          all_goals exact ak _ (j+1,y - 1,x.wt) ⟨by dsimp only;omega,by dsimp only;omega,by dsimp only;omega,hr⟩ (by dsimp only;omega) (Xs false [] X0)
        · rw[if_neg hw] at hr
          ((repeat' (first|refine Va (X3 @bA @gG.eq_1 @gF) ?_|(refine V2 (X3 @bA @gG.eq_1 @gF) ?_ ?_<;>try with_reducible intro hb)|(refine Xi ?_ ?_<;>try intro ht)|exact Xx|fail)))
          all_goals exact ak _ (j+1,y - 1,w) ⟨by dsimp only;omega,by dsimp only;omega,by dsimp only;omega,hr⟩ (by dsimp only;omega) (Xs false [] X0)
    · rw[if_neg (fun h=>hc h.1)] at hr
      ((repeat' (first|refine Va (X2 @bA @gG.eq_1) ?_|(refine V2 (X2 @bA @gG.eq_1) ?_ ?_<;>try with_reducible intro hb)|(refine Xi ?_ ?_<;>try intro ht)|exact Xx|fail)))
      all_goals exact ak _ (j+1,y,w) ⟨by dsimp only;omega,by dsimp only;omega,Jf,hr⟩ (by dsimp only;omega) (Xs false [] X0)
  rw[dw (by omega),kv] at hr
  rw[← hr] at an
  dsimp only at an
  by_cases he:0<y∨w<0
  · rw[if_pos he] at an
    ((repeat' (first|refine Va X0 ?_|(refine V2 X0 ?_ ?_<;>try with_reducible intro hb)|(refine Xi ?_ ?_<;>try intro ht)|exact Xx|fail)))
    refine aq _ _ rfl ?_;clear ak aq Ql
    repeat (refine Xu ?_)
    ((repeat' (first|refine Vb X0 ?_|(refine V2 X0 ?_ ?_<;>try with_reducible intro hb)|(refine Xi ?_ ?_<;>try intro ht)|exact Xx|fail)))
    all_goals exact aC rfl (by rw[an])
  · rw[if_neg he] at an
    ((repeat' (first|refine Va X0 ?_|(refine V2 X0 ?_ ?_<;>try with_reducible intro hb)|(refine Xi ?_ ?_<;>try intro ht)|exact Xx|fail)))
    refine aq _ _ rfl ?_;clear ak aq Ql
    repeat (refine Xu ?_)
    ((repeat' (first|refine Vb X0 ?_|(refine V2 X0 ?_ ?_<;>try with_reducible intro hb)|(refine Xi ?_ ?_<;>try intro ht)|exact Xx|fail)))
    all_goals exact aC rfl (by rw[an])
theorem acH (m:ah) (c:Ct) (left:List (List Bool)) (hm:VM m) (hc:gV m c=true) (hf:dN m left) :
    ao Tryz.prog 159 [.agg (aU c),.tree 1 (rowsOf aE left)] [] (.lit (.int .i64 (qS left c))) []:=by
  obtain ⟨q1,q2,q3,q4⟩:=nw hc
  have hl:=BO hm q4
  have cp:=o7 q4
  have eW:=hf.1
  have ca:=hm.cls
  have hw:∀ x∈c.aK,1≤x.wt∧x.wt≤1000:=fun x hx=>(cp x hx).2
  have jU:=fun k row=>acE hw k row
  generalize an:qS left c=res
  unfold qS at an
  generalize hG:qR c.aK left none c.aK (-c.most)=G at *
  refine ao.aF (fn:=Tryz.f159) 50 0 [.tmp 4] Tryz.func159 rfl rfl rfl rfl rfl (by simp) ?_
  refine Vb @aU.eq_1 ?_
  refine aI (fun z:Nat × Int=>(⟨av [(1,.tree 1 (rowsOf aE left)),(2,.ptr 0 0 0),(5,.lit (.int .i64 z.2)),(12,.tree 3 (rowsOf gG c.aK)),(13,.lit (.int .i64 c.aK.length)),(14,.lit (.int .i64 z.1))],[.var (aU c)]⟩:St))
    (fun z=>z.1≤c.aK.length∧-1048576≤z.2∧z.2≤1000 * (z.1:Int)∧qR c.aK left ((kQ c.aK z.1).map (·.cls)) (c.aK.drop z.1) z.2=G) (fun z=>c.aK.length - z.1) (0,-c.most) ⟨aD _,by dsimp only;omega,by dsimp only;omega,hG⟩ (Xv @aU.eq_1) ?_
  rintro ⟨i,n⟩ ⟨hi,cV,eM,hr⟩ Ql ak aq
  dsimp only at hi cV eM hr ⊢
  by_cases hi':i<c.aK.length
  · have hd:=dr c.aK i default hi'
    have hx:=cp _ (az (d:=default) hi')
    have Ci:=iy.1 hx.1
    have Jg:(kQ c.aK (i+1)).map (·.cls)=some (c.aK.getD i default).cls:=by rw[td];rfl
    have H8:0<i→(kQ c.aK i).map (·.cls)=some (c.aK.getD (i - 1) default).cls:=fun h=>by unfold kQ;rw[if_neg (by omega)];rfl
    have xE:i=0→(kQ c.aK i).map (·.cls)=none:=fun h=>by unfold kQ;rw[if_pos h];rfl
    rw[hd,qR] at hr
    have cK:=hf.2 (c.aK.getD i default).cls.toNat (by omega)
    have Br:=hm.opt _ (az (l:=m.cls) (i:=(c.aK.getD i default).cls.toNat) (d:=default) (by omega))
    have bj:=acF c (c.aK.getD i default).cls (left.getD (c.aK.getD i default).cls.toNat default) (by omega) (fun y hy e=>by
      have:=iy.1 (cp y hy).1
      rw[e] at this
      omega) hl
    have xC:=jU (c.aK.getD i default).cls (left.getD (c.aK.getD i default).cls.toNat default)
    have e7:0<i→((i:Int) - 1).toNat=i - 1:=fun h=>by omega
    generalize bT:(kQ c.aK i).map (·.cls)=pq at *
    generalize bA:c.aK.getD i default=x at *
    generalize pe:c.aK.getD (i - 1) default=y at *
    generalize a6:left.getD x.cls.toNat default=row at *
    generalize oz c.aK x.cls row=g at *
    rcases Nat.eq_zero_or_pos i with h0 | h0
    · rw[xE h0,if_neg (by simp)] at hr
      subst h0
      ((repeat' (first|refine Vc (X5 @bA @gG.eq_1 @a6 @aE.eq_1 @aU.eq_1) bj ?_|(refine Xi ?_ ?_<;>try intro ht)|exact Xx|fail)))
      all_goals exact ak _ (0+1,n+g) ⟨by dsimp only;omega,by dsimp only;omega,by dsimp only;omega,by dsimp only;rw[Jg];exact hr⟩ (by dsimp only;omega) (Xs false [0] @aU.eq_1)
    · rw[H8 h0] at hr
      have e7:=e7 h0
      by_cases he:y.cls=x.cls
      · rw[if_pos (by rw[he])] at hr
        ((repeat' (first|refine Vc (X5 @bA @pe @e7 @gG.eq_1 (X3 @a6 @aE.eq_1 @aU.eq_1)) bj ?_|(refine V2 (X5 @bA @pe @e7 @gG.eq_1 (X3 @a6 @aE.eq_1 @aU.eq_1)) ?_ ?_<;>try with_reducible intro hb)|(refine Xi ?_ ?_<;>try intro ht)|exact Xx|fail)))
        all_goals exact ak _ (i+1,n) ⟨by dsimp only;omega,cV,by dsimp only;omega,by dsimp only;rw[Jg];exact hr⟩ (by dsimp only;omega) (Xs false [0] @aU.eq_1)
      · rw[if_neg (fun e=>he (by injection e))] at hr
        ((repeat' (first|refine Vc (X5 @bA @pe @e7 @gG.eq_1 (X3 @a6 @aE.eq_1 @aU.eq_1)) bj ?_|(refine V2 (X5 @bA @pe @e7 @gG.eq_1 (X3 @a6 @aE.eq_1 @aU.eq_1)) ?_ ?_<;>try with_reducible intro hb)|(refine Xi ?_ ?_<;>try intro ht)|exact Xx|fail)))
        all_goals exact ak _ (i+1,n+g) ⟨by dsimp only;omega,by dsimp only;omega,by dsimp only;omega,by dsimp only;rw[Jg];exact hr⟩ (by dsimp only;omega) (Xs false [0] @aU.eq_1)
  · rw[dw (by omega),qR] at hr
    subst hr
    have vn:=acz (max n 0) c.bE (by omega) q3
    rw[an] at vn
    ((repeat' (first|refine Va X0 ?_|(refine V2 X0 ?_ ?_<;>try with_reducible intro hb)|(refine Xi ?_ ?_<;>try intro ht)|exact Xx|fail)))
    refine aq _ _ rfl ?_;clear ak aq Ql
    repeat (refine Xu ?_)
    refine Vd @aU.eq_1 vn ?_
    all_goals exact aC rfl rfl
theorem acI (left:List (List Bool)) {c:Ct} (hp:iM c.bE=true):0≤qS left c∧qS left c≤1099511627776:=by
  have:=mg hp
  unfold bP at this
  unfold qS zY
  have h:0≤max (qR c.aK left none c.aK (-c.most)) 0:=by omega
  generalize max (qR c.aK left none c.aK (-c.most)) 0=n at *
  have:=pC h this.1
  split<;>omega
theorem aai (m:ah) (left:List (List Bool)) (hm:VM m) (hf:dN m left):ao Tryz.prog 104 [.agg (ar m),.tree 1 (rowsOf aE left)] [] (.lit (.int .i64 (eO m left))) []:=by
  have eW:=hf.1
  have mc:=hm.cls
  have xU:=hm.ae
  have A5:=hm.au
  generalize an:eO m left=res
  unfold eO at an
  generalize hA:tu left 0 m.cls 0=A at *
  refine ao.aF (fn:=Tryz.f104) 85 0 [.tmp 4] Tryz.func104 rfl rfl rfl rfl rfl (by simp) ?_
  refine Vb X0 ?_
  refine aI (fun z:Nat × Int=>(⟨av [(1,.tree 1 (rowsOf aE left)),(2,.ptr 0 0 0),(5,.lit (.int .i64 z.2)),(18,.tree 1 (rowsOf bn m.cls)),(19,.lit (.int .i64 m.cls.length)),(20,.lit (.int .i64 z.1))],[.var (ar m)]⟩:St))
    (fun z=>z.1≤m.cls.length∧0≤z.2∧z.2≤1099511627776 * (z.1:Int)∧tu left z.1 (m.cls.drop z.1) z.2=A) (fun z=>m.cls.length - z.1) (0,0) ⟨aD _,eo _,by dsimp only;omega,hA⟩ (Xv X0) ?_
  rintro ⟨i,n⟩ ⟨hi,cV,eM,hr⟩ Ql ak aq
  dsimp only at hi cV eM hr ⊢
  by_cases hi':i<m.cls.length
  · have hd:=dr m.cls i default hi'
    have hc:=hm.opt _ (az (d:=default) hi')
    have gJ:=hm.nu _ (az (d:=default) hi')
    have cK:=hf.2 i (by omega)
    have acJ:=hm.nx
    generalize aO:m.cls.getD i default=c at *
    generalize a6:left.getD i default=row at *
    rw[hd,tu,a6] at hr
    have hmr:=Jc (fP c) row 1099511627776 (fun x hx=>by
      obtain ⟨o,ho,rfl⟩:=b7.1 hx
      exact (EB (gJ o ho)).1) (by omega)
    generalize hX:ku (fP c) row 1099511627776=X at *
    ((repeat' (first|refine Va (X2 @aO @bn.eq_1) ?_|(refine Xi ?_ ?_<;>try intro ht)|exact Xx|fail)))
    refine aI (fun z:Nat × Int=>(⟨av [(1,.tree 1 (rowsOf aE left)),(2,.ptr 0 0 0),(5,.lit (.int .i64 n)),(6,.lit (.int .i64 i)),(8,.lit (.int .i64 z.2)),(18,.tree 1 (rowsOf bn m.cls)),(19,.lit (.int .i64 m.cls.length)),(20,.lit (.int .i64 i)),(25,.tree 6 (rowsOf bX c)),(26,.lit (.int .i64 c.length)),(27,.lit (.int .i64 z.1))],[.var (ar m)]⟩:St))
      (fun z=>z.1≤c.length∧ku (fP (c.drop z.1)) (row.drop z.1) z.2=X) (fun z=>c.length - z.1) (0,1099511627776) ⟨aD _,hX⟩ (Xv X0) ?_
    rintro ⟨k,x⟩ ⟨hk,gD⟩ cP a5 a8
    dsimp only at hk gD ⊢
    by_cases aP:k<c.length
    · have we:=dr c k default aP
      have uJ:=dr row k false (by omega)
      have ho:=az (l:=c) (d:=default) aP
      have how:=acA (c.getD k default) (EA (gJ _ ho)) (by have:=EL acJ.1 (gJ _ ho);omega)
      generalize jV:c.getD k default=o at *
      generalize gF:row.getD k false=b at *
      rw[we,uJ,show fP (o::c.drop (k+1))=od o::fP (c.drop (k+1)) from rfl,ku] at gD
      cases b
      · rw[if_neg (by simp)] at gD
        ((repeat' (first|refine Va (X4 @jV @a6 @gF @aE.eq_1) ?_|(refine Xi ?_ ?_<;>try intro ht)|exact Xx|fail)))
        all_goals exact a5 _ (k+1,x) ⟨by dsimp only;omega,gD⟩ (by dsimp only;omega) (Xs false [0] X0)
      · rw[if_pos rfl] at gD
        ((repeat' (first|refine Vc (X4 @jV @a6 @gF @aE.eq_1) how ?_|(refine Xi ?_ ?_<;>try intro ht)|exact Xx|fail)))
        all_goals exact a5 _ (k+1,min x (od o)) ⟨by dsimp only;omega,gD⟩ (by dsimp only;omega) (Xs false [0] X0)
    · rw[show c.drop k=[] from dw (by omega)] at gD
      have hxX:x=X:=by rw[← gD];cases row.drop k<;>rfl
      clear gD
      subst hxX
      by_cases hF:x=1099511627776
      · rw[if_pos hF] at hr
        ((repeat' (first|refine Va X0 ?_|(refine Xi ?_ ?_<;>try intro ht)|exact Xx|fail)))
        refine a8 _ _ rfl ?_
        clear a5 a8
        repeat (refine Xu ?_)
        ((repeat' (first|refine Va X0 ?_|(refine Xi ?_ ?_<;>try intro ht)|exact Xx|fail)))
        all_goals
          repeat (refine Xu ?_)
          rw[← hr] at an
          refine Vb X0 ?_
          exact aC rfl (by rw[← an];rfl)
      · rw[if_neg hF] at hr
        ((repeat' (first|refine Va X0 ?_|(refine Xi ?_ ?_<;>try intro ht)|exact Xx|fail)))
        refine a8 _ _ rfl ?_
        clear a5 a8
        repeat (refine Xu ?_)
        ((repeat' (first|refine Va X0 ?_|(refine Xi ?_ ?_<;>try intro ht)|exact Xx|fail)))
        all_goals exact ak _ (i+1,n+x) ⟨by dsimp only;omega,by dsimp only;omega,by dsimp only;omega,hr⟩ (by dsimp only;omega) (Xv X0)
  rw[show m.cls.drop i=[] from dw (by omega),tu] at hr
  subst hr
  have nV:n≤1099511627776 * 24:=by omega
  clear eM
  rw[Cg] at an
  generalize hB:uF m left m.ae n=B at *
  ((repeat' (first|refine Va X0 ?_|(refine Xi ?_ ?_<;>try intro ht)|exact Xx|fail)))
  refine aq _ _ rfl ?_;clear ak aq Ql
  repeat (refine Xu ?_)
  refine Va X0 ?_
  refine aI (fun z:Nat × Int=>(⟨av [(1,.tree 1 (rowsOf aE left)),(2,.ptr 0 0 0),(5,.lit (.int .i64 z.2)),(51,.tree 4 (rowsOf aV m.ae)),(52,.lit (.int .i64 m.ae.length)),(53,.lit (.int .i64 z.1))],[.var (ar m)]⟩:St))
    (fun z=>z.1≤m.ae.length∧0≤z.2∧z.2≤1099511627776 * 24+1099511627776 * (z.1:Int)∧uF m left (m.ae.drop z.1) z.2=B) (fun z=>m.ae.length - z.1) (0,n) ⟨aD _,cV,by dsimp only;omega,hB⟩ (Xv X0) ?_
  (try clear cV;clear hi nV hB i)
  rintro ⟨i,n⟩ ⟨hi,cV,eM,hr⟩ Ql ak aq
  dsimp only at hi cV eM hr ⊢
  by_cases hi':i<m.ae.length
  · have hd:=dr m.ae i default hi'
    have dJ:=jn hm.pr _ (az (d:=default) hi')
    have Cj:=acC m _ left hm dJ hf
    have jm:=acy hm dJ hf
    generalize bT:m.ae.getD i default=p at *
    rw[hd,uF] at hr
    generalize r8 m left p=x at *
    by_cases hF:x=1099511627776
    · rw[if_pos hF] at hr
      ((repeat' (first|refine Vc (X2 @bT @aV.eq_1) Cj ?_|(refine Xi ?_ ?_<;>try intro ht)|exact Xx|fail)))
      all_goals
        repeat (refine Xu ?_)
        rw[← hr] at an
        refine Vb X0 ?_
        exact aC rfl (by rw[← an];rfl)
    · rw[if_neg hF] at hr
      ((repeat' (first|refine Vc (X2 @bT @aV.eq_1) Cj ?_|(refine Xi ?_ ?_<;>try intro ht)|exact Xx|fail)))
      all_goals exact ak _ (i+1,n+x) ⟨by dsimp only;omega,by dsimp only;omega,by dsimp only;omega,hr⟩ (by dsimp only;omega) (Xs false [0] X0)
  rw[show m.ae.drop i=[] from dw (by omega),uF] at hr
  subst hr
  have nV:n≤1099511627776 * 5000:=by omega
  clear eM
  rw[zZ] at an
  generalize hB:uG left m.au n=B at *
  ((repeat' (first|refine Va X0 ?_|(refine Xi ?_ ?_<;>try intro ht)|exact Xx|fail)))
  refine aq _ _ rfl ?_;clear ak aq Ql
  repeat (refine Xu ?_)
  refine Va X0 ?_
  refine aI (fun z:Nat × Int=>(⟨av [(1,.tree 1 (rowsOf aE left)),(2,.ptr 0 0 0),(5,.lit (.int .i64 z.2)),(68,.tree 4 (rowsOf aU m.au)),(69,.lit (.int .i64 m.au.length)),(70,.lit (.int .i64 z.1))],[.var (ar m)]⟩:St))
    (fun z=>z.1≤m.au.length∧0≤z.2∧z.2≤1099511627776 * 5000+1099511627776 * (z.1:Int)∧uG left (m.au.drop z.1) z.2=B) (fun z=>m.au.length - z.1) (0,n) ⟨aD _,cV,by dsimp only;omega,hB⟩ (Xv X0) ?_
  (try clear cV;clear hi nV hB i)
  rintro ⟨i,n⟩ ⟨hi,cV,eM,hr⟩ Ql ak aq
  dsimp only at hi cV eM hr ⊢
  by_cases hi':i<m.au.length
  · have hd:=dr m.au i default hi'
    have Fl:=hm.ct _ (az (d:=default) hi')
    have Cj:=acH m _ left hm Fl hf
    have jm:=acI left (nw Fl).2.2.1
    generalize bT:m.au.getD i default=p at *
    rw[hd,uG] at hr
    generalize qS left p=x at *
    by_cases hF:x=1099511627776
    · rw[if_pos hF] at hr
      ((repeat' (first|refine Vc (X2 @bT @aU.eq_1) Cj ?_|(refine Xi ?_ ?_<;>try intro ht)|exact Xx|fail)))
      all_goals
        repeat (refine Xu ?_)
        rw[← hr] at an
        refine Vb X0 ?_
        exact aC rfl (by rw[← an];rfl)
    · rw[if_neg hF] at hr
      ((repeat' (first|refine Vc (X2 @bT @aU.eq_1) Cj ?_|(refine Xi ?_ ?_<;>try intro ht)|exact Xx|fail)))
      all_goals exact ak _ (i+1,n+x) ⟨by dsimp only;omega,by dsimp only;omega,by dsimp only;omega,hr⟩ (by dsimp only;omega) (Xs false [0] X0)
  rw[show m.au.drop i=[] from dw (by omega),uG] at hr
  rw[← hr] at an
  have pd:=Jd n
  rw[show min n 1099511627776=res from an] at pd
  ((repeat' (first|refine Va X0 ?_|(refine Xi ?_ ?_<;>try intro ht)|exact Xx|fail)))
  refine aq _ _ rfl ?_;clear ak aq Ql
  repeat (refine Xu ?_)
  refine Vd X0 pd ?_
  exact aC rfl rfl
end T

