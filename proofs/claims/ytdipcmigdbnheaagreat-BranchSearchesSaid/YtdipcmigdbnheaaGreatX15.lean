import Derived.Test.YtdipcmigdbnheaaGreatX14
set_option linter.unusedVariables false
set_option linter.unusedSimpArgs false
set_option linter.unnecessarySimpa false
set_option linter.unusedSectionVars false
set_option maxHeartbeats 64000000
set_option maxRecDepth 20000
open List renaming getD_eq_getElem?_getD→ay,getElem?_set→bO,getElem?_set_ne→cz,getD_cons_zero→fT,getD_cons_succ→ep,range→bn,length_cons→dI,map_cons→du,length_map→eD,range'→lU,drop_eq_nil_of_le→b6,range'_succ→uJ
open Option renaming getD_some→gw
open Int renaming mul_le_mul_of_nonneg_right→D3,add_mul→Hf,one_mul→Hi,toNat_natCast→dg,toNat_of_nonneg→mr,le_refl→c9,lt_or_le→Hh,eq_ofNat_of_zero_le→zM,zero_add→tq
open Bool renaming and_eq_true→a7
open Nat renaming add_zero→gU,mul_comm→rX,div_eq_of_lt→LY,mul_add_mod→LZ,mod_eq_of_lt→D4,zero_add→eK,add_mul→fC,one_mul→tg,zero_mul→Bz
open Go Go.Am
namespace T
theorem WE (r:List Nm) (i q:Nat) (a:Int) (hi:i<r.length):(nt r i a).getD q default=if i=q then ((r.getD q default).1+a,(r.getD q default).2) else r.getD q default:=by
  unfold nt
  by_cases h:i=q
  · subst h
    rw[if_pos rfl]
    simp only[ay,bO,hi,if_true,gw]
  · rw[if_neg h]
    simp only[ay,cz h]
theorem WG (r:List Nm) {i q:Nat} (a:Int) (h:i≠q):(nt r i a).getD q default=r.getD q default:=by
  unfold nt
  simp only[ay,cz h]
theorem Gj {f:Nat→Nat} {a:Int} {t:List Nm} {q:Nat}:∀ k:Nat,(∀ j,j<k→f j≠q)→(j9 f a k t).getD q default=t.getD q default
  | 0,_=>rfl
  | k+1,h=>by rw[j9,WG _ _ (h k (by omega)),Gj k fun j hj=>h j (by omega)]
theorem KB {f:Nat→Nat} {a:Int} {t:List Nm} {q j0:Nat} (h0:f j0=q) (hq:q<t.length):∀ k:Nat,j0<k→(∀ j,j<k→j≠j0→f j≠q)→(j9 f a k t).getD q default=((t.getD q default).1 - a,(t.getD q default).2)
  | 0,hk,_=>by omega
  | k+1,hk,h=>by
    rw[j9]
    by_cases e:j0=k
    · subst e
      rw[h0,WE _ _ _ _ (by rw[CL];exact hq),if_pos rfl,Gj j0 fun j hj=>h j (by omega) (by omega)]
      congr 1
    · rw[WG _ _ (h k (by omega) (by omega)),KB h0 hq k (by omega) fun j hj=>h j (by omega)]
theorem Gk {a b n j k:Int} (hj:0≤j∧j<n) (hk:0≤k∧k<n) (h:a * n+j=b * n+k):a=b∧j=k:=by
  rcases Int.lt_trichotomy a b with hl | hl | hl
  · have:(a+1) * n≤b * n:=D3 (by omega) (by omega)
    rw[Hf,Hi] at this
    omega
  · subst hl;omega
  · have:(b+1) * n≤a * n:=D3 (by omega) (by omega)
    rw[Hf,Hi] at this
    omega
def lv (plan:List Int) (g:Lg) (i:Nat):Nm:=(g.1.getD i default).getD (plan.getD i 0).toNat default
def uB (m:ae) (plan:List Int) (p:Pr):Nat:=(plan.getD p.fst.toNat 0 * (m.cls.getD p.snd.toNat default).length+plan.getD p.snd.toNat 0).toNat
def lx (m:ae) (plan:List Int) (g:Lg) (i:Nat):Nm:=(g.2.getD i default).getD (uB m plan (m.ah.getD i default)) default
theorem WH {α:Type} [Inhabited α] (l:List α) (i j:Nat) (x:α) (hi:i<l.length):(l.set i x).getD j default=if i=j then x else l.getD j default:=by
  by_cases h:i=j
  · subst h;rw[if_pos rfl];simp only[ay,bO,hi,if_true,gw]
  · rw[if_neg h];simp only[ay,cz h]
structure Gl (m:ae) (x:Mv):Prop where
  p:0≤x.pair∧x.pair<m.ah.length
  s:x.side=0∨x.side=1
  c:0≤kL m x∧kL m x<m.cls.length
  o:0≤x.opt∧x.opt<(m.cls.getD (kL m x).toNat default).length
theorem afp {m:ae} {x:Mv} (h:lk m x=true):Gl m x:=by
  unfold lk at h
  rw[a7,decide_eq_true_eq,cV] at h
  exact⟨by omega,by omega,by omega,by omega⟩
theorem pQ {m:ae} {plan:List Int} (hp:FP m plan) {j:Nat} (hj:j<m.cls.length):0≤plan.getD j 0∧plan.getD j 0<(m.cls.getD j default).length:=by
  have h:=cV.1 (hp.get j (by rw[hp.len];exact hj))
  rw[dg] at h
  exact h.2.2
abbrev Dv (m:ae) (plan:List Int) (x:Mv):Prop:=plan.getD (kL m x).toNat 0=x.opt
theorem afq {m:ae} {plan:List Int} (hp:FP m plan) {B:Int} {g:Lg} (h:LG m B g) {x:Mv} (hx:Gl m x) (i:Nat) :
    lv plan (ln m x g) i=if i=(kL m x).toNat then (if Dv m plan x then ((lv plan g i).1+x.gM,(lv plan g i).2) else lv plan g i) else lv plan g i:=by
  obtain ⟨hxp,cl,sF,uC⟩:=hx
  have h1:=h.s
  have h2:=h.sl (kL m x).toNat (by omega)
  have h3:=pQ hp (j:=(kL m x).toNat) (by omega)
  unfold lv ln Dv
  dsimp only
  rw[WH _ _ _ _ (by omega)]
  by_cases e:i=(kL m x).toNat
  · subst e
    rw[if_pos rfl,if_pos rfl,WE _ _ _ _ (by omega)]
    by_cases e2:plan.getD (kL m x).toNat 0=x.opt
    · rw[if_pos e2,if_pos (by rw[e2])]
    · rw[if_neg e2,if_neg (by omega)]
  · rw[if_neg (Ne.symm e),if_neg e]
theorem afs {m:ae} (hm:VM m) {plan:List Int} (hp:FP m plan) {B:Int} {g:Lg} (h:LG m B g) {x:Mv} (hx:Gl m x) (i:Nat) :
    lx m plan (ln m x g) i=if i=x.pair.toNat then (if Dv m plan x then ((lx m plan g i).1 - x.gM,(lx m plan g i).2) else lx m plan g i) else lx m plan g i:=by
  obtain ⟨hxp,cl,sF,uC⟩:=hx
  have h1:=h.t
  have h2:=h.tl x.pair.toNat (by omega)
  unfold lx ln
  dsimp only
  rw[WH _ _ _ _ (by omega)]
  by_cases e:i=x.pair.toNat
  rotate_left
  · rw[if_neg (Ne.symm e),if_neg e]
  subst e
  rw[if_pos rfl,if_pos rfl]
  have ca:=fY hm.pr _ (az (l:=m.ah) (i:=x.pair.toNat) (d:=default) (by omega))
  unfold Dv
  unfold kL at *
  unfold qn uB
  generalize m.ah.getD x.pair.toNat default=p at *
  obtain ⟨q1,q2,q3,q4,q5⟩:=iY ca
  have ha:=pQ hp (j:=p.fst.toNat) (by omega)
  have hb:=pQ hp (j:=p.snd.toNat) (by omega)
  have o7:=hm.opt _ (az (l:=m.cls) (i:=p.fst.toNat) (d:=default) (by omega))
  have kZ:=hm.opt _ (az (l:=m.cls) (i:=p.snd.toNat) (d:=default) (by omega))
  generalize g.2.getD x.pair.toNat default=t at *
  generalize xr:plan.getD p.fst.toNat 0=a at *
  generalize eF:plan.getD p.snd.toNat 0=b at *
  generalize wM:(m.cls.getD p.fst.toNat default).length=na at *
  generalize aft:(m.cls.getD p.snd.toNat default).length=nb at *
  have iF:=sQ (x:=a) (y:=b) (a:=na) (b:=nb) ha hb (by omega) (by omega)
  rcases cl with hs | hs
  · rw[if_pos hs] at sF uC
    rw[if_pos hs,if_pos hs,xr]
    rw[wM] at uC
    dsimp only
    have Dc:=sQ (x:=x.opt) (y:=b) (a:=na) (b:=nb) uC hb (by omega) (by omega)
    by_cases e2:a=x.opt
    · rw[if_pos e2]
      refine KB (j0:=b.toNat) ?_ (by omega) nb (by omega) fun j hj b8 he=>?_
      · rw[e2,mr hb.1]
      · have:=Gk (a:=x.opt) (b:=a) (n:=nb) (j:=j) (k:=b) (by omega) (by omega) (by omega)
        omega
    · rw[if_neg e2]
      refine Gj nb fun j hj he=>?_
      have:=Gk (a:=x.opt) (b:=a) (n:=nb) (j:=j) (k:=b) (by omega) (by omega) (by omega)
      omega
  · rw[if_neg (by omega)] at sF uC
    have pL:¬ x.side=0:=by omega
    rw[if_neg pL,if_neg pL,eF]
    rw[aft] at uC
    dsimp only
    by_cases e2:b=x.opt
    · rw[if_pos e2]
      refine KB (j0:=a.toNat) ?_ (by omega) na (by omega) fun j hj b8 he=>?_
      · rw[e2,mr ha.1]
      · have tJ:=sQ (x:=(j:Int)) (y:=x.opt) (a:=na) (b:=nb) (by omega) uC (by omega) (by omega)
        have:=Gk (a:=(j:Int)) (b:=a) (n:=nb) (j:=x.opt) (k:=b) (by omega) (by omega) (by omega)
        omega
    · rw[if_neg e2]
      refine Gj na fun j hj he=>?_
      have tJ:=sQ (x:=(j:Int)) (y:=x.opt) (a:=na) (b:=nb) (by omega) uC (by omega) (by omega)
      have:=Gk (a:=(j:Int)) (b:=a) (n:=nb) (j:=x.opt) (k:=b) (by omega) (by omega) (by omega)
      omega
def vJ (m:ae) (plan:List Int) (g:Lg):Int:=bw (fun i=>(lv plan g i).1) m.cls.length+bw (fun i=>(lx m plan g i).1) m.ah.length
theorem afu {m:ae} (hm:VM m) {plan:List Int} (hp:FP m plan) {B:Int} {g:Lg} (h:LG m B g) {x:Mv} (hx:Gl m x) :
    vJ m plan (ln m x g)=vJ m plan g∧(∀ i,(lv plan (ln m x g) i).2=(lv plan g i).2)∧∀ i,(lx m plan (ln m x g) i).2=(lx m plan g i).2:=by
  have hS:=afq hp h hx
  have hT:=afs hm hp h hx
  refine⟨?_,fun i=>?_,fun i=>?_⟩
  · unfold vJ
    by_cases hh:Dv m plan x
    · rw[jz (g:=fun i=>if i=(kL m x).toNat then (lv plan g i).1+x.gM else (lv plan g i).1) m.cls.length fun i _=>by
        rw[hS,if_pos hh];split<;>rfl,jz (g:=fun i=>if i=x.pair.toNat then (lx m plan g i).1+-x.gM else (lx m plan g i).1) m.ah.length fun i _=>by
        rw[hT,if_pos hh];split<;>rfl,AM,AM,if_pos (by have:=hx.c;omega),if_pos (by have:=hx.p;omega)]
      omega
    · rw[jz (g:=fun i=>(lv plan g i).1) m.cls.length fun i _=>by rw[hS,if_neg hh];simp,jz (g:=fun i=>(lx m plan g i).1) m.ah.length fun i _=>by rw[hT,if_neg hh];simp]
  · rw[hS];split<;>(try split)<;>rfl
  · rw[hT];split<;>(try split)<;>rfl
theorem WI {m:ae} (hm:VM m) {plan:List Int} (hp:FP m plan):∀ (l:List Mv) (B:Int) (g:Lg),0≤B→LG m B g→(∀ x∈l,lk m x=true) →
    vJ m plan (je m l g)=vJ m plan g∧(∀ i,(lv plan (je m l g) i).2=(lv plan g i).2)∧∀ i,(lx m plan (je m l g) i).2=(lx m plan g i).2
  | [],B,g,_,_,_=>⟨rfl,fun _=>rfl,fun _=>rfl⟩
  | x::r,B,g,hB,h,hx=>by
    have h1:=afu hm hp h (afp (hx x (by simp)))
    have h2:=WI hm hp r _ (ln m x g) (by omega) (RE hm hB h (hx x (by simp))) (fun y hy=>hx y (by simp[hy]))
    exact⟨h2.1.trans h1.1,fun i=>(h2.2.1 i).trans (h1.2.1 i),fun i=>(h2.2.2 i).trans (h1.2.2 i)⟩
theorem Gm:∀ (l:List Nm) (s:List Bool) (b:Int × Bool),b.2=true→(cY l s b).2=true∧(cY l s b).1≤b.1
  | [],s,b,h=>by cases s<;>exact⟨h,c9 _⟩
  | p::r,[],b,h=>⟨h,c9 _⟩
  | p::r,is::s,b,h=>by
    rw[cY]
    split
    · rename_i hc
      have h2:=Gm r s (p.1,true) rfl
      have h3:p.1<b.1:=by
        rcases hc.2.2 with h4 | h4
        · rw[h] at h4;cases h4
        · exact h4
      exact⟨h2.1,by have:=h2.2;dsimp only at this;omega⟩
    · exact Gm r s b h
theorem KC:∀ (l:List Nm) (s:List Bool) (b:Int × Bool) (i:Nat),i<l.length→s.getD i false=true→(l.getD i default).2=false→(cY l s b).2=true∧(cY l s b).1≤(l.getD i default).1
  | [],s,b,i,h,_,_=>by simp at h
  | p::r,[],b,i,_,h,_=>by simp at h
  | p::r,is::s,b,0,_,h1,h2=>by
    rw[fT] at h1 h2 ⊢
    rw[cY]
    split
    · exact Gm r s (p.1,true) rfl
    · rename_i hc
      have hb:b.2=true∧b.1≤p.1:=by
        cases xl:b.2 with
        | false=>exact absurd ⟨h1,h2,.inl xl⟩ hc
        | true=>exact⟨rfl,by rcases Hh p.1 b.1 with h | h;exact absurd ⟨h1,h2,.inr h⟩ hc;exact h⟩
      have:=Gm r s b hb.1
      exact⟨this.1,by omega⟩
  | p::r,is::s,b,i+1,h,h1,h2=>by
    rw[ep] at h1 h2 ⊢
    rw[cY]
    exact KC r s _ i (by simpa using h) h1 h2
theorem WJ:∀ (l:List Nm) (s:List Bool) (b:Int × Bool),(∀ i,s.getD i false=false)→cY l s b=b
  | [],s,b,_=>by cases s<;>rfl
  | p::r,[],b,_=>rfl
  | p::r,is::s,b,h=>by
    have h0:=h 0
    rw[fT] at h0
    rw[cY,if_neg (by rw[h0];simp)]
    exact WJ r s b fun i=>by have:=h (i+1);rwa [ep] at this
theorem KD:∀ (l:List Nm) (s:List Bool) (b:Int × Bool) (i:Nat),i<l.length→(∀ j,s.getD j false=decide (j=i))→b.2=false →
    cY l s b=if (l.getD i default).2=false then ((l.getD i default).1,true) else b
  | [],s,b,i,h,_,_=>by simp at h
  | p::r,[],b,i,_,h,_=>by have:=h i;simp at this
  | p::r,is::s,b,0,_,h,hb=>by
    have h0:=h 0
    rw[fT,decide_eq_true rfl] at h0
    rw[fT,cY,WJ r s _ fun i=>by have:=h (i+1);rw[ep] at this;rw[this];simp]
    by_cases hp:p.2=false
    · rw[if_pos ⟨h0,hp,.inl hb⟩,if_pos hp]
    · rw[if_neg (fun hc=>hp hc.2.1),if_neg hp]
  | p::r,is::s,b,i+1,hi,h,hb=>by
    have h0:=h 0
    rw[fT,decide_eq_false (by omega)] at h0
    rw[ep,cY,if_neg (by rw[h0];simp)]
    exact KD r s b i (by simpa using hi) (fun j=>by have:=h (j+1);rw[ep] at this;rw[this];simp) hb
theorem Gn (f:Nat→Int × Bool) (z:Int × Bool):∀ n,(bI ((bn n).map f) z).1=z.1+bw (fun i=>(f i).1) n
  | 0=>by simp[bI,bw]
  | n+1=>by rw[yR,AI,bw];dsimp only;rw[Gn f z n];omega
theorem zm (f:Nat→Int × Bool) (z:Int × Bool):∀ n,(bI ((bn n).map f) z).2=true↔(z.2=true∨∃ i,i<n∧(f i).2=false)
  | 0=>by simp[bI]
  | n+1=>by
    rw[yR,AI]
    dsimp only
    rw[Bool.or_eq_true,zm f z n,Bool.not_eq_true']
    constructor
    · rintro ((h | ⟨i,hi,h⟩) | h)
      · exact .inl h
      · exact .inr ⟨i,by omega,h⟩
      · exact .inr ⟨n,by omega,h⟩
    · rintro (h | ⟨i,hi,h⟩)
      · exact .inl (.inl h)
      · by_cases e:i=n
        · subst e;exact .inr h
        · exact .inl (.inr ⟨i,by omega,h⟩)
def uD (left:List (List Bool)) (g:Lg) (i:Nat):Int × Bool:=cY (g.1.getD i default) (left.getD i default) (0,false)
def uE (m:ae) (left:List (List Bool)) (g:Lg) (i:Nat):Int × Bool:=cY (g.2.getD i default) (gN m left i) (0,false)
def qz (m:ae) (left:List (List Bool)) (i:Nat):Int × Bool:=(lO left (m.av.getD i default),!(decide ((m.av.getD i default).bg=1099511627776) && decide (0<lO left (m.av.getD i default))))
def Dw (m:ae) (left:List (List Bool)) (g:Lg):Int:=bw (fun i=>(uD left g i).1) m.cls.length+bw (fun i=>(uE m left g i).1) m.ah.length+bw (fun i=>(qz m left i).1) m.av.length
def KE (m:ae) (left:List (List Bool)) (g:Lg):Prop:=(∃ i,i<m.cls.length∧(uD left g i).2=false)∨(∃ i,i<m.ah.length∧(uE m left g i).2=false)∨∃ i,i<m.av.length∧(qz m left i).2=false
theorem afv {m:ae} {left:List (List Bool)} {g:Lg} (h:KE m left g):nr m left g=1099511627776:=by
  unfold nr
  rw[if_pos]
  show (bI ((bn m.av.length).map (qz m left)) (bI ((bn m.ah.length).map (uE m left g)) (bI ((bn m.cls.length).map (uD left g)) (0,false)))).2=true
  rw[zm,zm,zm]
  rcases h with h | h | h
  · exact .inl (.inl (.inr h))
  · exact .inl (.inr h)
  · exact .inr h
theorem WK {m:ae} {left:List (List Bool)} {g:Lg} (h:¬ KE m left g):nr m left g=min (Dw m left g) 1099511627776:=by
  have h1:¬ (bI ((bn m.av.length).map (qz m left)) (bI ((bn m.ah.length).map (uE m left g)) (bI ((bn m.cls.length).map (uD left g)) (0,false)))).2=true:=by
    rw[zm,zm,zm]
    rintro (((h2 | h2) | h2) | h2)
    · cases h2
    · exact h (.inl h2)
    · exact h (.inr (.inl h2))
    · exact h (.inr (.inr h2))
  have h2:(bI ((bn m.av.length).map (qz m left)) (bI ((bn m.ah.length).map (uE m left g)) (bI ((bn m.cls.length).map (uD left g)) (0,false)))).1=Dw m left g:=by
    rw[Gn,Gn,Gn]
    unfold Dw
    dsimp only
    omega
  show (if (bI ((bn m.av.length).map (qz m left)) (bI ((bn m.ah.length).map (uE m left g)) (bI ((bn m.cls.length).map (uD left g)) (0,false)))).2=true then (1099511627776:Int) else min (bI ((bn m.av.length).map (qz m left)) (bI ((bn m.ah.length).map (uE m left g)) (bI ((bn m.cls.length).map (uD left g)) (0,false)))).1 1099511627776)=_
  rw[if_neg h1,h2]
theorem afw (m:ae) (left:List (List Bool)) (g:Lg):nr m left g≤1099511627776:=by
  unfold nr;split<;>omega
theorem Gp:∀ (l:List Ld) (c o w:Int),(∀ y∈l,¬ (y.cls=c∧y.opt=o))→gd l c o w=w
  | [],_,_,_,_=>rfl
  | x::r,c,o,w,h=>by rw[gd,if_neg (h x (by simp)),Gp r c o w fun y hy=>h y (by simp[hy])]
theorem WL {m:ae}:∀ {l:List Ld} {q:Option Ld} (c o:Int),eo m q l=true→gd l c o 0=sP l c o
  | [],_,_,_,_=>rfl
  | x::r,q,c,o,h=>by
    have hr:eo m (some x) r=true:=by
      cases q<;>rw[eo] at h<;>simp only[a7] at h<;>exact h.2
    rw[gd,sP]
    by_cases e:x.cls=c∧x.opt=o
    · rw[if_pos e,if_pos e]
      exact Gp r c o _ fun y hy he=>by have:=xg hr y hy;omega
    · rw[if_neg e,if_neg e];exact WL c o hr
theorem WN (l:List Ld):∀ (plan:List Int) (i:Nat),rB l i plan=bw (fun j=>sP l (i+j:Nat) (plan.getD j 0)) plan.length
  | [],i=>rfl
  | o::r,i=>by
    rw[rB,WN l r (i+1),dI,yS]
    simp only[fT,ep,gU]
    rw[jz (g:=fun j=>sP l (i+(j+1):Nat) (r.getD j 0)) r.length fun j _=>by rw[show i+1+j=i+(j+1) by omega]]
theorem Bg {l:List Ld} (h:∀ x∈l,1≤x.wt∧x.wt≤1000) (c:Int):∀ (row:List Bool) (o:Nat) (b:Int),0≤b→0≤eB l c o row b∧eB l c o row b≤b
  | [],_,b,hb=>⟨hb,c9 _⟩
  | is::r,o,b,hb=>by
    rw[eB]
    have hw:=yT h c o 0 (by omega)
    split
    · rename_i hc
      have:=Bg h c r (o+1) (gd l c o 0) hw.1
      omega
    · exact Bg h c r (o+1) b hb
theorem Gq {l:List Ld} (h:∀ x∈l,1≤x.wt∧x.wt≤1000) (c:Int):∀ (row:List Bool) (o:Nat) (b:Int) (i:Nat),row.getD i false=true→eB l c o row b≤gd l c (o+i:Nat) 0
  | [],_,b,i,hi=>by simp at hi
  | is::r,o,b,0,hi=>by
    rw[fT] at hi
    have hw:=yT h c o 0 (by omega)
    rw[eB]
    simp only[gU]
    split
    · exact (Bg h c r (o+1) _ hw.1).2
    · rename_i hc
      have hb:0≤b∧b≤gd l c o 0:=by
        constructor
        · rcases Hh b 0 with h2 | h2
          · exact absurd ⟨hi,.inl h2⟩ hc
          · exact h2
        · rcases Hh (gd l c o 0) b with h2 | h2
          · exact absurd ⟨hi,.inr h2⟩ hc
          · exact h2
      have:=Bg h c r (o+1) b hb.1
      omega
  | is::r,o,b,i+1,hi=>by
    rw[ep] at hi
    rw[eB,show o+(i+1)=o+1+i by omega]
    exact Gq h c r (o+1) _ i hi
theorem KF (l:List Ld) (c:Int):∀ (row:List Bool) (o:Nat) (b:Int),(∀ i,row.getD i false=false)→eB l c o row b=b
  | [],_,_,_=>rfl
  | is::r,o,b,h=>by
    have h0:=h 0
    rw[fT] at h0
    rw[eB,if_neg (by rw[h0];simp)]
    exact KF l c r (o+1) b fun i=>by have:=h (i+1);rwa [ep] at this
theorem WO (l:List Ld) (c:Int):∀ (row:List Bool) (o:Nat) (i:Nat),(∀ j,row.getD j false=decide (j=i))→eB l c o row (-1)=gd l c (o+i:Nat) 0
  | [],_,i,h=>by have:=h i;simp at this
  | is::r,o,0,h=>by
    have h0:=h 0
    rw[fT,decide_eq_true rfl] at h0
    rw[eB,if_pos ⟨h0,.inl (by decide)⟩,gU]
    exact KF l c r (o+1) _ fun j=>by have:=h (j+1);rw[ep] at this;rw[this];simp
  | is::r,o,i+1,h=>by
    have h0:=h 0
    rw[fT,decide_eq_false (by omega)] at h0
    rw[eB,if_neg (by rw[h0];simp),show o+(i+1)=o+1+i by omega]
    exact WO l c r (o+1) i fun j=>by have:=h (j+1);rw[ep] at this;rw[this];simp
theorem Gr {f:Nat→Int}:∀ (n:Nat),(∀ i<n,0≤f i)→0≤bw f n∧∀ i<n,f i≤bw f n
  | 0,_=>⟨c9 _,fun i h=>by omega⟩
  | n+1,h=>by
    have h1:=Gr n fun i hi=>h i (by omega)
    have h2:=h n (by omega)
    rw[bw]
    refine⟨by omega,fun i hi=>?_⟩
    by_cases e:i=n
    · subst e;omega
    · have:=h1.2 i (by omega);omega
theorem Dx {f g:Nat→Int}:∀ (n:Nat),(∀ i<n,f i≤g i)→bw f n≤bw g n
  | 0,_=>c9 _
  | n+1,h=>by
    have:=Dx n fun i hi=>h i (by omega)
    have:=h n (by omega)
    rw[bw,bw];omega
theorem afx {m:ae} {plan:List Int} (hm:VM m) (hp:FP m plan) {i:Nat} (hi:i<m.cls.length):aS (pF m plan i):=by
  have h:=pQ hp hi
  have hl:=az (l:=m.cls) (i:=i) (d:=default) hi
  exact CC (hm.mf _ hl _ (az (l:=m.cls.getD i default) (i:=(plan.getD i 0).toNat) (d:=default) (by omega)))
theorem WQ {m:ae} {plan:List Int} (hp:FP m plan) {i:Nat} (hi:i<m.cls.length):lv plan (S0 m,T0 m) i=fR (pF m plan i):=by
  have h:=pQ hp hi
  unfold lv S0
  dsimp only
  rw[kH _ _ _ hi]
  unfold dt gb
  rw[List.map_map,kH _ _ _ (by omega)]
  rfl
theorem WR {m:ae} {plan:List Int} (hm:VM m) (hp:FP m plan) {p:Pr} (ca:eG m p=true):uB m plan p<p.aP.length:=by
  obtain ⟨q1,q2,q3,q4,q5⟩:=iY ca
  have ha:=pQ hp (j:=p.fst.toNat) (by omega)
  have hb:=pQ hp (j:=p.snd.toNat) (by omega)
  have o7:=hm.opt _ (az (l:=m.cls) (i:=p.fst.toNat) (d:=default) (by omega))
  have kZ:=hm.opt _ (az (l:=m.cls) (i:=p.snd.toNat) (d:=default) (by omega))
  have iF:=sQ ha hb (by omega) (by omega)
  unfold uB
  omega
theorem WS {m:ae} {plan:List Int} (hm:VM m) (hp:FP m plan) {i:Nat} (hi:i<m.ah.length):lx m plan (S0 m,T0 m) i=fR (mg m plan (m.ah.getD i default)):=by
  have ca:=fY hm.pr _ (az (l:=m.ah) (i:=i) (d:=default) hi)
  have iF:=WR hm hp ca
  unfold lx T0
  dsimp only
  rw[kH _ _ _ hi]
  unfold dt
  rw[kH _ _ _ iF]
  unfold mg jP uB
  rfl
theorem afy {m:ae} {left:List (List Bool)} (hm:VM m) (hf:dK m left) {i:Nat} (hi:i<m.ah.length) {x y:Int}
    (hx:0≤x∧x<(m.cls.getD (m.ah.getD i default).fst.toNat default).length) (hy:0≤y∧y<(m.cls.getD (m.ah.getD i default).snd.toNat default).length) :
    (gN m left i).getD (x * (m.cls.getD (m.ah.getD i default).snd.toNat default).length+y).toNat false=((left.getD (m.ah.getD i default).fst.toNat default).getD x.toNat false && (left.getD (m.ah.getD i default).snd.toNat default).getD y.toNat false):=by
  have ca:=fY hm.pr _ (az (l:=m.ah) (i:=i) (d:=default) hi)
  unfold gN
  generalize m.ah.getD i default=p at *
  obtain ⟨q1,q2,q3,q4,q5⟩:=iY ca
  have o7:=hm.opt _ (az (l:=m.cls) (i:=p.fst.toNat) (d:=default) (by omega))
  have kZ:=hm.opt _ (az (l:=m.cls) (i:=p.snd.toNat) (d:=default) (by omega))
  have iF:=sQ hx hy (by omega) (by omega)
  have f1:=hf.2 p.fst.toNat (by have:=hf.1;omega)
  have f2:=hf.2 p.snd.toNat (by have:=hf.1;omega)
  rw[← f1] at hx iF
  rw[← f2] at hy iF ⊢
  generalize left.getD p.fst.toNat default=a at *
  generalize left.getD p.snd.toNat default=b at *
  obtain ⟨x,rfl⟩:=zM hx.1
  obtain ⟨y,rfl⟩:=zM hy.1
  have e:((x:Int) * b.length+y).toNat=x * b.length+y:=by
    rw[show ((x:Int) * b.length+y)=((x * b.length+y:Nat):Int) by simp,dg]
  have e2:x * b.length+y<a.length * b.length:=by
    have:=iF.2.2
    rw[show ((x:Int) * b.length+y)=((x * b.length+y:Nat):Int) by simp,show (a.length:Int) * b.length=((a.length * b.length:Nat):Int) by simp] at this
    omega
  have ET:y<b.length:=by omega
  rw[e,Fw _ _ _ e2,dg,dg,rX x,Nat.mul_add_div (by omega),LY ET,LZ,D4 ET,gU]
theorem WT {m:ae} {plan:List Int} (hp:FP m plan) {c:Ct} (hc:fP m c=true):dX plan c.aA 0=bw (fun j=>gd c.aA (j:Nat) (plan.getD j 0) 0) m.cls.length:=by
  obtain ⟨_,_,_,q4⟩:=ju hc
  rw[Ss hp.len 0 q4,WN,tq,hp.len]
  exact jz _ fun j _=>by rw[eK,WL _ _ q4]
def wQ (m:ae) (left:List (List Bool)) (plan:List Int):Prop:=∀ i,i<m.cls.length→(left.getD i default).getD (plan.getD i 0).toNat false=true
def Ax (m:ae) (left:List (List Bool)) (plan:List Int):Prop:=∀ i,i<m.cls.length→∀ j,(left.getD i default).getD j false=decide (j=(plan.getD i 0).toNat)
theorem Ax.QD {m:ae} {left:List (List Bool)} {plan:List Int} (h:Ax m left plan):wQ m left plan:=fun i hi=>by rw[h i hi,decide_eq_true rfl]
theorem least_le {m:ae} {plan:List Int} {left:List (List Bool)} (hm:VM m) (hp:FP m plan) (hf:dK m left) (dE:wQ m left plan) {c:Ct} (hc:fP m c=true):lO left c≤j7 plan c:=by
  obtain ⟨_,_,q3,q4⟩:=ju hc
  have hw:∀ x∈c.aA,1≤x.wt∧x.wt≤1000:=fun x hx=>(kF q4 x hx).2
  refine RS (g7 q3).1 ?_
  rw[AN,WT hp hc,tq,hf.1]
  refine Dx _ fun j hj=>?_
  have hg:=pQ hp hj
  have h1:=Gq hw (j:Nat) (left.getD j []) 0 (-1) (plan.getD j 0).toNat (dE j hj)
  have h2:=yT hw (j:Nat) (plan.getD j 0) 0 (by omega)
  rw[eK,mr hg.1] at h1
  unfold ny
  rw[eK]
  omega
theorem afz {m:ae} {plan:List Int} {left:List (List Bool)} (hm:VM m) (hp:FP m plan) (hf:dK m left) (dE:Ax m left plan) {c:Ct} (hc:fP m c=true):lO left c=j7 plan c:=by
  obtain ⟨_,_,q3,q4⟩:=ju hc
  have hw:∀ x∈c.aA,1≤x.wt∧x.wt≤1000:=fun x hx=>(kF q4 x hx).2
  unfold lO j7
  congr 1
  rw[AN,WT hp hc,tq,hf.1]
  refine jz _ fun j hj=>?_
  have hg:=pQ hp hj
  have h1:=WO c.aA (j:Nat) (left.getD j []) 0 (plan.getD j 0).toNat (dE j hj)
  have h2:=yT hw (j:Nat) (plan.getD j 0) 0 (by omega)
  rw[eK,mr hg.1] at h1
  unfold ny
  rw[eK,h1]
  omega
theorem afA {m:ae} {plan:List Int} {c:Ct} (hc:fP m c=true):aS (j7 plan c):=wR (g7 (ju hc).2.2.1)
theorem WU {most s:Int} (h:0<iZ most 1099511627776 s):iZ most 1099511627776 s=1099511627776:=by
  unfold iZ at *
  split at h
  · omega
  · rename_i h2;rw[if_neg h2];omega
theorem afB {m:ae} {plan:List Int} {p:Pr} (h:eG m p=true):aS (mg m plan p):=vo h _ _
structure afC (m:ae) (plan:List Int) (left:List (List Bool)) (g:Lg):Prop where
  aU:gY (gZ m plan) 0=min (bw (pF m plan) m.cls.length+bw (fun i=>mg m plan (m.ah.getD i default)) m.ah.length+bw (fun i=>j7 plan (m.av.getD i default)) m.av.length) 1099511627776
  ps:vJ m plan g=bw (pF m plan) m.cls.length+bw (fun i=>mg m plan (m.ah.getD i default)) m.ah.length
  sf:∀ i,i<m.cls.length→(lv plan g i).2=decide (1099511627776≤pF m plan i)
  tf:∀ i,i<m.ah.length→(lx m plan g i).2=decide (1099511627776≤mg m plan (m.ah.getD i default))
  sl:∀ i,i<m.cls.length→(plan.getD i 0).toNat<(g.1.getD i default).length
  tl:∀ i,i<m.ah.length→uB m plan (m.ah.getD i default)<(g.2.getD i default).length
  a:0≤bw (pF m plan) m.cls.length∧∀ i<m.cls.length,pF m plan i≤bw (pF m plan) m.cls.length
  b:0≤bw (fun i=>mg m plan (m.ah.getD i default)) m.ah.length∧∀ i<m.ah.length,mg m plan (m.ah.getD i default)≤bw (fun i=>mg m plan (m.ah.getD i default)) m.ah.length
  c:0≤bw (fun i=>j7 plan (m.av.getD i default)) m.av.length∧∀ i<m.av.length,j7 plan (m.av.getD i default)≤bw (fun i=>j7 plan (m.av.getD i default)) m.av.length
theorem parts {m:ae} {plan:List Int} (hm:VM m) (hp:FP m plan) (left:List (List Bool)) (l:List Mv) (hl:∀ x∈l,lk m x=true):afC m plan left (je m l (S0 m,T0 m)):=by
  have fS:=WI hm hp l _ _ (by decide) (RG hm) hl
  have kh:=Fu hm l hl
  refine⟨IJ hm hp,?_,fun i hi=>?_,fun i hi=>?_,fun i hi=>?_,fun i hi=>?_,Gr _ fun i hi=>(afx hm hp hi).1,Gr _ fun i hi=>(afB (fY hm.pr _ (az hi))).1,Gr _ fun i hi=>(afA (hm.ct _ (az hi))).1⟩
  · rw[fS.1]
    unfold vJ
    rw[jz m.cls.length fun i hi=>by rw[WQ hp hi],jz m.ah.length fun i hi=>by rw[WS hm hp hi]]
    rfl
  · rw[fS.2.1,WQ hp hi];rfl
  · rw[fS.2.2,WS hm hp hi];rfl
  · have:=pQ hp hi
    rw[kh.sl i hi];omega
  · rw[kh.tl i hi];exact WR hm hp (fY hm.pr _ (az hi))
theorem afD {m:ae} {plan:List Int} {left:List (List Bool)} (hm:VM m) (hp:FP m plan) (hf:dK m left) (dE:wQ m left plan) {i:Nat} (hi:i<m.ah.length):(gN m left i).getD (uB m plan (m.ah.getD i default)) false=true:=by
  have ca:=fY hm.pr _ (az (l:=m.ah) (i:=i) (d:=default) hi)
  obtain ⟨q1,q2,q3,q4,q5⟩:=iY ca
  unfold uB
  rw[afy hm hf hi (pQ hp (by omega)) (pQ hp (by omega)),dE _ (by omega),dE _ (by omega)]
  rfl
theorem afE {m:ae} {plan:List Int} {left:List (List Bool)} (hm:VM m) (hp:FP m plan) (hf:dK m left) (mD:Ax m left plan) {i:Nat} (hi:i<m.ah.length) (j:Nat):(gN m left i).getD j false=decide (j=uB m plan (m.ah.getD i default)):=by
  have ca:=fY hm.pr _ (az (l:=m.ah) (i:=i) (d:=default) hi)
  obtain ⟨q1,q2,q3,q4,q5⟩:=iY ca
  have g1:=pQ hp (j:=(m.ah.getD i default).fst.toNat) (by omega)
  have g2:=pQ hp (j:=(m.ah.getD i default).snd.toNat) (by omega)
  have o1:=mD (m.ah.getD i default).fst.toNat (by omega)
  have o2:=mD (m.ah.getD i default).snd.toNat (by omega)
  have f1:=hf.2 (m.ah.getD i default).fst.toNat (by have:=hf.1;omega)
  have f2:=hf.2 (m.ah.getD i default).snd.toNat (by have:=hf.1;omega)
  unfold gN uB
  generalize m.ah.getD i default=p at *
  rw[← f1] at g1
  rw[← f2] at g2 ⊢
  generalize left.getD p.fst.toNat default=a at *
  generalize left.getD p.snd.toNat default=b at *
  generalize plan.getD p.fst.toNat 0=x at *
  generalize plan.getD p.snd.toNat 0=y at *
  obtain ⟨x,rfl⟩:=zM g1.1
  obtain ⟨y,rfl⟩:=zM g2.1
  simp only[dg] at o1 o2
  have hx:x<a.length:=by omega
  have hy:y<b.length:=by omega
  have e:((x:Int) * b.length+y).toNat=x * b.length+y:=by
    rw[show ((x:Int) * b.length+y)=((x * b.length+y:Nat):Int) by simp,dg]
  rw[e]
  by_cases hj:j<a.length * b.length
  · rw[Fw _ _ _ hj,o1,o2,← Bool.decide_and]
    have WV:=Nat.div_add_mod j b.length
    have uX:=Nat.mod_lt j (show 0<b.length by omega)
    refine decide_eq_decide.2 ⟨fun ⟨h1,h2⟩=>?_,fun h=>?_⟩
    · rw[h1,h2,rX] at WV;exact WV.symm
    · rw[h,rX x,Nat.mul_add_div (by omega),LY hy,LZ,D4 hy]
      exact⟨rfl,rfl⟩
  · rw[ay,List.getElem?_eq_none (by rw[CO];omega),Option.getD_none,decide_eq_false]
    intro h
    have h3:(x+1) * b.length≤a.length * b.length:=Nat.mul_le_mul_right _ hx
    rw[fC,tg] at h3
    omega
theorem QF {m:ae} {plan:List Int} (hm:VM m) (hp:FP m plan) (left:List (List Bool)) (hf:dK m left) (dE:wQ m left plan) (l:List Mv) (hl:∀ x∈l,lk m x=true) :
    nr m left (je m l (S0 m,T0 m))≤gY (gZ m plan) 0:=by
  have P:=parts hm hp left l hl
  generalize je m l (S0 m,T0 m)=g at *
  rw[P.aU]
  have ha:=P.a
  have hb:=P.b
  have hc:=P.c
  have fS:=P.ps
  have IC:=afw m left g
  by_cases hF:1099511627776≤bw (pF m plan) m.cls.length+bw (fun i=>mg m plan (m.ah.getD i default)) m.ah.length+bw (fun i=>j7 plan (m.av.getD i default)) m.av.length
  · omega
  have e1:∀ i,i<m.cls.length→(uD left g i).2=true∧(uD left g i).1≤(lv plan g i).1:=fun i hi=>by
    have:=ha.2 i hi
    exact KC _ _ _ _ (P.sl i hi) (dE i hi) (by show (lv plan g i).2=false;rw[P.sf i hi,decide_eq_false (by omega)])
  have e2:∀ i,i<m.ah.length→(uE m left g i).2=true∧(uE m left g i).1≤(lx m plan g i).1:=fun i hi=>by
    have:=hb.2 i hi
    exact KC _ _ _ _ (P.tl i hi) (afD hm hp hf dE hi) (by show (lx m plan g i).2=false;rw[P.tf i hi,decide_eq_false (by omega)])
  have e3:∀ i,i<m.av.length→(qz m left i).2=true∧(qz m left i).1≤j7 plan (m.av.getD i default):=fun i hi=>by
    have h1:=hc.2 i hi
    have o6:=hm.ct _ (az (l:=m.av) (i:=i) (d:=default) hi)
    have h2:=least_le hm hp hf dE o6
    refine⟨?_,h2⟩
    unfold qz
    dsimp only
    cases hz:(decide ((m.av.getD i default).bg=1099511627776) && decide (0<lO left (m.av.getD i default))) with
    | false=>rfl
    | true =>
      exfalso
      rw[a7,decide_eq_true_eq,decide_eq_true_eq] at hz
      have h3:j7 plan (m.av.getD i default)=1099511627776:=by
        unfold j7 at h2 ⊢
        rw[hz.1] at h2 ⊢
        exact WU (by omega)
      omega
  rw[WK]
  · have s1:=Dx m.cls.length fun i hi=>(e1 i hi).2
    have s2:=Dx m.ah.length fun i hi=>(e2 i hi).2
    have s3:=Dx m.av.length fun i hi=>(e3 i hi).2
    unfold Dw
    unfold vJ at fS
    omega
  · rintro (⟨i,hi,h⟩ | ⟨i,hi,h⟩ | ⟨i,hi,h⟩)
    · rw[(e1 i hi).1] at h;cases h
    · rw[(e2 i hi).1] at h;cases h
    · rw[(e3 i hi).1] at h;cases h
theorem aca {m:ae} {plan:List Int} (hm:VM m) (hp:FP m plan) (left:List (List Bool)) (hf:dK m left) (mD:Ax m left plan) (l:List Mv) (hl:∀ x∈l,lk m x=true) :
    nr m left (je m l (S0 m,T0 m))=gY (gZ m plan) 0:=by
  have P:=parts hm hp left l hl
  generalize je m l (S0 m,T0 m)=g at *
  rw[P.aU]
  have ha:=P.a
  have hb:=P.b
  have hc:=P.c
  have fS:=P.ps
  have e1:∀ i,i<m.cls.length→uD left g i=if (lv plan g i).2=false then ((lv plan g i).1,true) else (0,false):=fun i hi =>
    KD _ _ _ _ (P.sl i hi) (mD i hi) rfl
  have e2:∀ i,i<m.ah.length→uE m left g i=if (lx m plan g i).2=false then ((lx m plan g i).1,true) else (0,false):=fun i hi =>
    KD _ _ _ _ (P.tl i hi) (afE hm hp hf mD hi) rfl
  have e3:∀ i,i<m.av.length→lO left (m.av.getD i default)=j7 plan (m.av.getD i default):=fun i hi =>
    afz hm hp hf mD (hm.ct _ (az hi))
  by_cases hN:KE m left g
  · rw[afv hN]
    rcases hN with ⟨i,hi,h⟩ | ⟨i,hi,h⟩ | ⟨i,hi,h⟩
    · rw[e1 i hi,P.sf i hi] at h
      have:=ha.2 i hi
      by_cases hx:1099511627776≤pF m plan i
      · omega
      · rw[decide_eq_false hx,if_pos rfl] at h;cases h
    · rw[e2 i hi,P.tf i hi] at h
      have:=hb.2 i hi
      by_cases hx:1099511627776≤mg m plan (m.ah.getD i default)
      · omega
      · rw[decide_eq_false hx,if_pos rfl] at h;cases h
    · have h1:=hc.2 i hi
      unfold qz at h
      dsimp only at h
      rw[e3 i hi,Bool.not_eq_false',a7,decide_eq_true_eq,decide_eq_true_eq] at h
      have h3:j7 plan (m.av.getD i default)=1099511627776:=by
        obtain ⟨h4,h5⟩:=h
        unfold j7 at h5 ⊢
        rw[h4] at h5 ⊢
        exact WU h5
      omega
  · rw[WK hN]
    congr 1
    rw[← fS]
    unfold Dw vJ
    congr 1
    · congr 1
      · refine jz _ fun i hi=>?_
        rw[e1 i hi]
        split
        · rfl
        · rename_i h
          exact absurd (.inl ⟨i,hi,by rw[e1 i hi,if_neg h]⟩) hN
      · refine jz _ fun i hi=>?_
        rw[e2 i hi]
        split
        · rfl
        · rename_i h
          exact absurd (.inr (.inl ⟨i,hi,by rw[e2 i hi,if_neg h]⟩)) hN
    · exact jz _ fun i hi=>e3 i hi
def kR:List Int→List Bool→Int→Int
  | x::r,b::s,n=>kR r s (if b=true then min n x else n)
  | _,_,n=>n
def zl (aP:List Int) (w i:Nat) (a:Bool):Nat→List Bool→Int→Int
  | _,[],n=>n
  | k,b::r,n=>zl aP w i a (k+1) r (if a=true∧b=true then min n (aP.getD (i * w+k) 0) else n)
def xq (aP:List Int) (w:Nat) (rb:List Bool):Nat→List Bool→Int→Int
  | _,[],n=>n
  | i,a::r,n=>xq aP w rb (i+1) r (zl aP w i a 0 rb n)
def sZ (m:ae) (left:List (List Bool)) (p:Pr):Int:=xq p.aP (m.cls.getD p.snd.toNat default).length (left.getD p.snd.toNat default) 0 (left.getD p.fst.toNat default) 1099511627776
def o8:List Bool→Int→Int
  | [],n=>n
  | b::r,n=>o8 r (if b=true then n+1 else n)
def kS (c:Int) (row:List Bool):List Ld→Int × Int→Int × Int
  | [],z=>z
  | x::r,z=>kS c row r (if x.cls=c∧row.getD x.opt.toNat false=true then (z.1 - 1,if z.2<0∨x.wt<z.2 then x.wt else z.2) else z)
def o9 (l:List Ld) (c:Int) (row:List Bool):Int:=if 0<(kS c row l (o8 row 0,-1)).1∨(kS c row l (o8 row 0,-1)).2<0 then 0 else (kS c row l (o8 row 0,-1)).2
def rK (l:List Ld) (left:List (List Bool)):Option Int→List Ld→Int→Int
  | _,[],n=>n
  | q,x::r,n=>rK l left (some x.cls) r (if q=some x.cls then n else n+o9 l x.cls (left.getD x.cls.toNat default))
def xp (n bg:Int):Int:=if 0<n∧bg=1099511627776 then 1099511627776 else min (n * bg) 1099511627776
def rL (left:List (List Bool)) (c:Ct):Int:=xp (max (rK c.aA left none c.aA (-c.most)) 0) c.bg
def tY (left:List (List Bool)):Nat→List (List cB)→Int→Option Int
  | _,[],n=>some n
  | i,c::r,n=>if kR (gb c) (left.getD i default) 1099511627776=1099511627776 then none else tY left (i+1) r (n+kR (gb c) (left.getD i default) 1099511627776)
def vK (m:ae) (left:List (List Bool)):List Pr→Int→Option Int
  | [],n=>some n
  | p::r,n=>if sZ m left p=1099511627776 then none else vK m left r (n+sZ m left p)
def vL (left:List (List Bool)):List Ct→Int→Option Int
  | [],n=>some n
  | c::r,n=>if rL left c=1099511627776 then none else vL left r (n+rL left c)
def Dy:Option Int→Int
  | none=>1099511627776
  | some n=>min n 1099511627776
def Bh (m:ae) (left:List (List Bool)):Option Int→Option Int
  | none=>none
  | some n=>vL left m.av n
def Dz (m:ae) (left:List (List Bool)):Option Int→Option Int
  | none=>none
  | some n=>vK m left m.ah n
def ey (m:ae) (left:List (List Bool)):Int:=Dy (Bh m left (Dz m left (tY left 0 m.cls 0)))
def uF (q:Int × Bool):Int:=if q.2=true then q.1 else 1099511627776
theorem KG:∀ (l:List Int) (s:List Bool) (b:Int × Bool),(∀ x∈l,aS x)→(b.2=true→b.1<1099511627776) →
    uF (cY (dt l) s b)=kR l s (uF b)∧((cY (dt l) s b).2=true→(cY (dt l) s b).1<1099511627776)
  | [],s,b,_,hb=>⟨by cases s<;>rfl,hb⟩
  | x::r,[],b,_,hb=>⟨rfl,hb⟩
  | x::r,is::s,b,h,hb=>by
    have hx:=h x (by simp)
    unfold aS at hx
    rw[show dt (x::r)=fR x::dt r from rfl,cY,kR]
    have key:uF (if is=true∧(fR x).2=false∧(b.2=false∨(fR x).1<b.1) then ((fR x).1,true) else b)=(if is=true then min (uF b) x else uF b):=by
      obtain ⟨b1,b2⟩:=b
      unfold fR uF
      dsimp only at hb ⊢
      cases is<;>cases b2<;>simp at hb ⊢<;>(repeat' split)<;>simp_all<;>omega
    have:=KG r s (if is=true∧(fR x).2=false∧(b.2=false∨(fR x).1<b.1) then ((fR x).1,true) else b) (fun y hy=>h y (by simp[hy])) (by
      split
      · rename_i hc
        intro _
        have:=hc.2.1
        unfold fR at this ⊢
        simp at this;exact this
      · exact hb)
    rw[key] at this
    exact this
theorem WW:∀ (l:List Int) (s t:List Bool) (n:Int),s.length≤l.length→kR l (s++t) n=kR (l.drop s.length) t (kR l s n)
  | l,[],t,n,_=>by cases l<;>rfl
  | [],b::s,t,n,h=>by simp at h
  | x::r,b::s,t,n,h=>by
    rw[List.cons_append,kR,kR,dI,List.drop_succ_cons]
    exact WW r s t _ (by simpa using h)
theorem WX (aP:List Int) (w i:Nat) (a:Bool):∀ (r:List Bool) (k:Nat) (n:Int),i * w+k+r.length≤aP.length→zl aP w i a k r n=kR (aP.drop (i * w+k)) (r.map (a && ·)) n
  | [],k,n,_=>by cases (aP.drop (i * w+k))<;>rfl
  | b::r,k,n,h=>by
    have aT:i * w+k<aP.length:=by simp at h;omega
    have hd:aP.drop (i * w+k)=aP.getD (i * w+k) 0::aP.drop (i * w+(k+1)):=by
      rw[List.drop_eq_getElem_cons aT,ay,List.getElem?_eq_getElem aT];rfl
    rw[zl,hd,du,kR,WX aP w i a r (k+1) _ (by simp at h;omega)]
    congr 1
    cases a<;>cases b<;>simp
theorem KA (aP:List Int) (w:Nat) (rb:List Bool) (hw:rb.length=w):∀ (r:List Bool) (i:Nat) (n:Int),i * w+r.length * w≤aP.length→xq aP w rb i r n=kR (aP.drop (i * w)) (pJ r rb) n
  | [],i,n,_=>by show n=kR _ [] n;cases (aP.drop (i * w))<;>rfl
  | a::r,i,n,h=>by
    have h2:i * w+(r.length+1) * w≤aP.length:=h
    rw[fC,tg] at h2
    rw[xq,WX aP w i a rb 0 n (by omega),KA aP w rb hw r (i+1) _ (by rw[fC];omega)]
    show _=kR _ (rb.map (a && ·)++pJ r rb) n
    rw[WW _ _ _ _ (by rw[eD,List.length_drop];omega),List.drop_drop,eD,hw,fC,tg]
    simp only[gU]
def iT:List (Int × Bool)→Int→Option Int
  | [],n=>some n
  | p::r,n=>if p.2=false then none else iT r (n+p.1)
theorem Gs:∀ (l:List (Int × Bool)) (n:Int),iT l n=if (bI l (n,false)).2=true then none else some (bI l (n,false)).1
  | [],n=>rfl
  | p::r,n=>by
    rw[iT]
    obtain ⟨a,b⟩:=p
    cases b
    · show none=if (bI r (n+a,true)).2=true then none else _
      rw[CP,if_pos rfl]
    · exact Gs r (n+a)
theorem WY {m:ae} (hm:VM m) (left:List (List Bool)):∀ (k i:Nat) (n:Int),i+k=m.cls.length→tY left i (m.cls.drop i) n=iT ((lU i k).map fun j=>cY ((S0 m).getD j default) (left.getD j default) (0,false)) n
  | 0,i,n,h=>by rw[b6 (by omega)];rfl
  | k+1,i,n,h=>by
    have hi:i<m.cls.length:=by omega
    have hs:(S0 m).getD i default=dt (gb (m.cls.getD i default)):=by rw[S0,kH _ _ _ hi]
    have h2:=KG (gb (m.cls.getD i default)) (left.getD i default) (0,false) (fun x hx=>by
      obtain ⟨o,ho,rfl⟩:=List.mem_map.1 hx
      exact CC (hm.mf _ (az hi) o ho)) (by simp)
    rw[show uF (0,false)=1099511627776 from rfl] at h2
    rw[b7 m.cls i default hi,tY,uJ,du,iT,WY hm left k (i+1) _ (by omega),hs,← h2.1]
    generalize cY (dt (gb (m.cls.getD i default))) (left.getD i default) (0,false)=q at *
    obtain ⟨a,b⟩:=q
    unfold uF at *
    cases b<;>simp at h2 ⊢
    intro e;omega
theorem WZ {m:ae} (hm:VM m) {left:List (List Bool)} (hf:dK m left):∀ (k i:Nat) (n:Int),i+k=m.ah.length→vK m left (m.ah.drop i) n=iT ((lU i k).map fun j=>cY ((T0 m).getD j default) (gN m left j) (0,false)) n
  | 0,i,n,h=>by rw[b6 (by omega)];rfl
  | k+1,i,n,h=>by
    have hi:i<m.ah.length:=by omega
    have hs:(T0 m).getD i default=dt (m.ah.getD i default).aP:=by rw[T0,kH _ _ _ hi]
    have ca:=fY hm.pr _ (az (d:=default) hi)
    obtain ⟨_,p1,p2,p3,p4⟩:=iY ca
    have f1:=hf.2 (m.ah.getD i default).fst.toNat (by rw[hf.1];omega)
    have f2:=hf.2 (m.ah.getD i default).snd.toNat (by rw[hf.1];omega)
    have h2:=KG (m.ah.getD i default).aP (gN m left i) (0,false) (Ft ca) (by simp)
    rw[show uF (0,false)=1099511627776 from rfl] at h2
    have h3:sZ m left (m.ah.getD i default)=kR (m.ah.getD i default).aP (gN m left i) 1099511627776:=by
      unfold sZ gN
      rw[KA _ _ _ f2 _ 0 _ (by rw[Bz,eK,f1];have:=p4;exact_mod_cast Int.le_of_eq this.symm),Bz,List.drop_zero]
    rw[b7 m.ah i default hi,vK,uJ,du,iT,WZ hm hf k (i+1) _ (by omega),hs,h3,← h2.1]
    generalize cY (dt (m.ah.getD i default).aP) (gN m left i) (0,false)=q at *
    obtain ⟨a,b⟩:=q
    unfold uF at *
    cases b<;>simp at h2 ⊢
    intro e;omega
end T

