import Derived.Test.YtdipcmigdbnheaaGreatX15
import Derived.Test.YtdipcmigdbnheaaGreatX24
import Derived.Test.YtdipcmigdbnheaaGreatX14
set_option linter.unusedVariables false
set_option linter.unusedSimpArgs false
set_option linter.unnecessarySimpa false
set_option linter.unusedSectionVars false
set_option maxHeartbeats 64000000
set_option maxRecDepth 20000
open List renaming getD_cons_zero→gP,getD_cons_succ→eS,length_cons→dH,replicate→bq,getD_eq_getElem?_getD→ay,getElem?_set→bS,getElem?_set_ne→bu,range→aT
open Int renaming add_zero→K6,toNat_natCast→eT,zero_add→wJ,mul_le_mul_of_nonneg_right→Da,add_mul→Gw,one_mul→Gv,toNat_of_nonneg→sx,le_refl→eo,lt_or_le→Gu,eq_ofNat_of_zero_le→yE
open Nat renaming add_zero→g7,zero_add→eR,mul_comm→rh,div_eq_of_lt→KP,mul_add_mod→KQ,mod_eq_of_lt→Db
open Option renaming getD_some→kW
open Bool renaming and_eq_true→bh
open Go Go.Am
namespace T
structure Sat (R:Int) (out:List Int) (v:Int):Prop where
  ok:iX R out
  v0:0≤v
  eq:min (jG out) 1099511627776=min v 1099511627776
theorem Uw:∀ (l:List Int) (i:Nat) (x:Int),i<l.length→jG (l.set i x)=jG l - l.getD i 0+x
  | [],i,x,h=>by simp at h
  | y::r,0,x,_=>by simp only[List.set_cons_zero,jG,gP];omega
  | y::r,i+1,x,h=>by
    have:=Uw r i x (by simpa using h)
    simp only[List.set_cons_succ,jG,eS];omega
theorem Sat.add {R:Int} {out:List Int} {v r d:Int} (h:Sat R out v) (hr:0≤r∧r<R) (hd:bP d):Sat R (eZ out r d) (v+d):=by
  have hlen:=h.ok.1
  have hi:r.toNat<out.length:=by omega
  have hs:=It h.ok.2 _ (az (d:=(0:Int)) hi)
  have iS:=Uw out r.toNat (dQ (out.getD r.toNat 0) d) hi
  have hg:=h.ok.get r.toNat
  have he:=h.eq
  have hv:=h.v0
  unfold bP at hg
  have we:=hd
  unfold bP at we
  refine⟨h.ok.add hd,by omega,?_⟩
  unfold eZ
  rw[iS]
  unfold dQ
  omega
theorem Sat.le {R:Int} {out:List Int} {v w:Int} (h:Sat R out v) (hw:0≤w) (e:min v 1099511627776=min w 1099511627776):Sat R out w:=⟨h.ok,hw,h.eq.trans e⟩
theorem Ux {R:Int}:∀ (l:List (Int × Int)) (out:List Int) (v n:Int),(∀ c∈l,iL R c.1=true∧iM c.2=true)→0≤v→bP n→Sat R out (v+n)→Sat R (te l out) (v+(l.map (·.2)).foldl dQ n)
  | [],out,v,n,_,_,_,h=>h
  | c::r,out,v,n,hc,hv,cV,h=>by
    rw[te]
    have h1:=hc c (by simp)
    have hr:=h1.1
    rw[iL,decide_eq_true_eq] at hr
    have hp:=mg h1.2
    have h2:=h.add hr hp
    refine Ux r _ v (dQ n c.2) (fun x hx=>hc x (by simp[hx])) hv (zD cV hp) (h2.le ?_ ?_)
    · have:=zD cV hp;unfold bP at this;omega
    · unfold bP at hp cV;unfold dQ;omega
theorem Uy {m:ah} (hm:VM m):∀ (plan:List Int) (i:Nat) (out:List Int) (v:Int),(∀ j,j<plan.length→eP m ((i+j:Nat):Int) (plan.getD j 0)=true) →
    Sat m.rules out v→Sat m.rules (s8 m i plan out) (v+bz (fun j=>od ((m.cls.getD (i+j) default).getD (plan.getD j 0).toNat default)) plan.length)
  | [],i,out,v,_,h=>by show Sat m.rules out (v+0);rw[K6];exact h
  | o::r,i,out,v,hg,h=>by
    rw[s8]
    have h0:=hg 0 (by simp)
    rw[gP,g7] at h0
    obtain ⟨b1,b2,b3,b4⟩:=iy.1 h0
    rw[eT] at b4
    rw[if_neg (by omega)]
    have hl:=az (l:=m.cls) (i:=i) (d:=default) (by omega)
    have ho:=az (l:=m.cls.getD i default) (i:=o.toNat) (d:=default) (by omega)
    have gJ:=hm.nu _ hl _ ho
    have h1:=Ux _ out v 0 (zC gJ) h.v0 (by unfold bP;decide) (by rw[K6];exact h)
    have h2:=Uy hm r (i+1) _ _ (fun j hj=>by
      have:=hg (j+1) (by simpa using hj)
      rwa [eS,show i+(j+1)=i+1+j by omega] at this) h1
    rw[dH,xJ]
    simp only[gP,eS,g7]
    rw[← Int.add_assoc]
    rw[jo (g:=fun j=>od ((m.cls.getD (i+(j+1)) default).getD (r.getD j 0).toNat default)) r.length fun j _=>by rw[show i+1+j=i+(j+1) by omega]] at h2
    exact h2
def oA (m:ah) (plan:List Int) (p:Pr):Int:=nB m p (plan.getD p.fst.toNat 0) (plan.getD p.snd.toNat 0)
theorem Uz {m:ah} {plan:List Int} (hp:FP m plan):∀ (l:List Pr) (out:List Int) (v:Int),(∀ p∈l,fJ m p=true)→Sat m.rules out v →
    Sat m.rules (s9 m plan l out) (v+bz (fun i=>oA m plan (l.getD i default)) l.length)
  | [],out,v,_,h=>by show Sat m.rules out (v+0);rw[K6];exact h
  | p::r,out,v,hg,h=>by
    rw[s9]
    have dJ:=hg p (by simp)
    obtain ⟨q1,q2,q3,q4,q5⟩:=mj dJ
    have dz:=hp.len
    have g1:=hp.get p.fst.toNat (by omega)
    have g2:=hp.get p.snd.toNat (by omega)
    have a1:=iy.1 g1
    have a2:=iy.1 g2
    rw[if_pos ⟨a1.2.2.1,a2.2.2.1⟩]
    have h2:=Uz hp r _ _ (fun x hx=>hg x (by simp[hx])) (h.add q1 (EN dJ (plan.getD p.fst.toNat 0) (plan.getD p.snd.toNat 0)))
    rw[dH,xJ]
    simp only[gP,eS]
    rw[← Int.add_assoc]
    exact h2
def kx (plan:List Int) (c:Ct):Int:=kP c.most c.bE (lK plan c.aK 0)
theorem UA {m:ah} {plan:List Int}:∀ (l:List Ct) (out:List Int) (v:Int),(∀ c∈l,gV m c=true)→Sat m.rules out v →
    Sat m.rules (ta plan l out) (v+bz (fun i=>kx plan (l.getD i default)) l.length)
  | [],out,v,_,h=>by show Sat m.rules out (v+0);rw[K6];exact h
  | c::r,out,v,hg,h=>by
    rw[ta]
    obtain ⟨q1,q2,q3,q4⟩:=nw (hg c (by simp))
    have h2:=UA (plan:=plan) r _ _ (fun x hx=>hg x (by simp[hx])) (h.add q1 (EO (most:=c.most) (sum:=lK plan c.aK 0) (mg q3)))
    rw[dH,xJ]
    simp only[gP,eS]
    rw[← Int.add_assoc]
    exact h2
def pU (m:ah) (plan:List Int) (j:Nat):Int:=od ((m.cls.getD j default).getD (plan.getD j 0).toNat default)
theorem Jh {m:ah} {plan:List Int} (hv:VM m) (hp:FP m plan):ny (nq m plan) 0 =
    min (bz (pU m plan) m.cls.length+bz (fun i=>oA m plan (m.ae.getD i default)) m.ae.length+bz (fun i=>kx plan (m.au.getD i default)) m.au.length) 1099511627776:=by
  have h0:Sat m.rules (bq m.rules.toNat 0) 0:=by
    refine⟨iX.rep hv.nx.1,by decide,?_⟩
    have:∀ k,jG (bq k 0)=0:=by
      intro k
      induction k with
      | zero=>rfl
      | succ k ih=>rw[List.replicate_succ,jG,ih];rfl
    rw[this]
  have h1:=Uy hv plan 0 _ _ (fun j hj=>by rw[eR];exact hp.get j hj) h0
  have h2:=Uz hp m.ae _ _ (jn hv.pr) h1
  have h3:=UA (plan:=plan) m.au _ _ hv.ct h2
  have Bn:=O4 (O3 hv plan).2 (n:=0) (by unfold bP;decide)
  have he:=h3.eq
  change min (jG (nq m plan)) _=_ at he
  rw[Bn,wJ,he,wJ,hp.len]
  simp only[eR]
  rfl
theorem UB (r:List Nm) (i q:Nat) (a:Int) (hi:i<r.length):(mQ r i a).getD q default=if i=q then ((r.getD q default).1+a,(r.getD q default).2) else r.getD q default:=by
  unfold mQ
  by_cases h:i=q
  · subst h
    rw[if_pos rfl]
    simp only[ay,bS,hi,if_true,kW]
  · rw[if_neg h]
    simp only[ay,bu h]
theorem UC (r:List Nm) {i q:Nat} (a:Int) (h:i≠q):(mQ r i a).getD q default=r.getD q default:=by
  unfold mQ
  simp only[ay,bu h]
theorem Fm {f:Nat→Nat} {a:Int} {t:List Nm} {q:Nat}:∀ k:Nat,(∀ j,j<k→f j≠q)→(jS f a k t).getD q default=t.getD q default
  | 0,_=>rfl
  | k+1,h=>by rw[jS,UC _ _ (h k (by omega)),Fm k fun j hj=>h j (by omega)]
theorem Ji {f:Nat→Nat} {a:Int} {t:List Nm} {q j0:Nat} (h0:f j0=q) (hq:q<t.length):∀ k:Nat,j0<k→(∀ j,j<k→j≠j0→f j≠q)→(jS f a k t).getD q default=((t.getD q default).1 - a,(t.getD q default).2)
  | 0,hk,_=>by omega
  | k+1,hk,h=>by
    rw[jS]
    by_cases e:j0=k
    · subst e
      rw[h0,UB _ _ _ _ (by rw[BJ];exact hq),if_pos rfl,Fm j0 fun j hj=>h j (by omega) (by omega)]
      congr 1
    · rw[UC _ _ (h k (by omega) (by omega)),Ji h0 hq k (by omega) fun j hj=>h j (by omega)]
theorem Fo {a b n j k:Int} (hj:0≤j∧j<n) (hk:0≤k∧k<n) (h:a * n+j=b * n+k):a=b∧j=k:=by
  rcases Int.lt_trichotomy a b with hl | hl | hl
  · have:(a+1) * n≤b * n:=Da (by omega) (by omega)
    rw[Gw,Gv] at this
    omega
  · subst hl;omega
  · have:(b+1) * n≤a * n:=Da (by omega) (by omega)
    rw[Gw,Gv] at this
    omega
def kR (plan:List Int) (g:Lg) (i:Nat):Nm:=(g.1.getD i default).getD (plan.getD i 0).toNat default
def tz (m:ah) (plan:List Int) (p:Pr):Nat:=(plan.getD p.fst.toNat 0 * (m.cls.getD p.snd.toNat default).length+plan.getD p.snd.toNat 0).toNat
def kS (m:ah) (plan:List Int) (g:Lg) (i:Nat):Nm:=(g.2.getD i default).getD (tz m plan (m.ae.getD i default)) default
theorem UD {α:Type} [Inhabited α] (l:List α) (i j:Nat) (x:α) (hi:i<l.length):(l.set i x).getD j default=if i=j then x else l.getD j default:=by
  by_cases h:i=j
  · subst h;rw[if_pos rfl];simp only[ay,bS,hi,if_true,kW]
  · rw[if_neg h];simp only[ay,bu h]
structure Fp (m:ah) (x:Mv):Prop where
  p:0≤x.pair∧x.pair<m.ae.length
  s:x.side=0∨x.side=1
  c:0≤kq m x∧kq m x<m.cls.length
  o:0≤x.opt∧x.opt<(m.cls.getD (kq m x).toNat default).length
theorem acM {m:ah} {x:Mv} (h:kK m x=true):Fp m x:=by
  unfold kK at h
  rw[bh,decide_eq_true_eq,iy] at h
  exact⟨by omega,by omega,by omega,by omega⟩
theorem pf {m:ah} {plan:List Int} (hp:FP m plan) {j:Nat} (hj:j<m.cls.length):0≤plan.getD j 0∧plan.getD j 0<(m.cls.getD j default).length:=by
  have h:=iy.1 (hp.get j (by rw[hp.len];exact hj))
  rw[eT] at h
  exact h.2.2
abbrev Ck (m:ah) (plan:List Int) (x:Mv):Prop:=plan.getD (kq m x).toNat 0=x.opt
theorem acN {m:ah} {plan:List Int} (hp:FP m plan) {B:Int} {g:Lg} (h:LG m B g) {x:Mv} (hx:Fp m x) (i:Nat) :
    kR plan (kL m x g) i=if i=(kq m x).toNat then (if Ck m plan x then ((kR plan g i).1+x.gK,(kR plan g i).2) else kR plan g i) else kR plan g i:=by
  obtain ⟨hxp,cF,rM,tw⟩:=hx
  have h1:=h.s
  have h2:=h.sl (kq m x).toNat (by omega)
  have h3:=pf hp (j:=(kq m x).toNat) (by omega)
  unfold kR kL Ck
  dsimp only
  rw[UD _ _ _ _ (by omega)]
  by_cases e:i=(kq m x).toNat
  · subst e
    rw[if_pos rfl,if_pos rfl,UB _ _ _ _ (by omega)]
    by_cases e2:plan.getD (kq m x).toNat 0=x.opt
    · rw[if_pos e2,if_pos (by rw[e2])]
    · rw[if_neg e2,if_neg (by omega)]
  · rw[if_neg (Ne.symm e),if_neg e]
theorem acP {m:ah} (hm:VM m) {plan:List Int} (hp:FP m plan) {B:Int} {g:Lg} (h:LG m B g) {x:Mv} (hx:Fp m x) (i:Nat) :
    kS m plan (kL m x g) i=if i=x.pair.toNat then (if Ck m plan x then ((kS m plan g i).1 - x.gK,(kS m plan g i).2) else kS m plan g i) else kS m plan g i:=by
  obtain ⟨hxp,cF,rM,tw⟩:=hx
  have h1:=h.t
  have h2:=h.tl x.pair.toNat (by omega)
  unfold kS kL
  dsimp only
  rw[UD _ _ _ _ (by omega)]
  by_cases e:i=x.pair.toNat
  rotate_left
  · rw[if_neg (Ne.symm e),if_neg e]
  subst e
  rw[if_pos rfl,if_pos rfl]
  have dJ:=jn hm.pr _ (az (l:=m.ae) (i:=x.pair.toNat) (d:=default) (by omega))
  unfold Ck
  unfold kq at *
  unfold pQ tz
  generalize m.ae.getD x.pair.toNat default=p at *
  obtain ⟨q1,q2,q3,q4,q5⟩:=mj dJ
  have ha:=pf hp (j:=p.fst.toNat) (by omega)
  have hb:=pf hp (j:=p.snd.toNat) (by omega)
  have xy:=hm.opt _ (az (l:=m.cls) (i:=p.fst.toNat) (d:=default) (by omega))
  have mJ:=hm.opt _ (az (l:=m.cls) (i:=p.snd.toNat) (d:=default) (by omega))
  generalize g.2.getD x.pair.toNat default=t at *
  generalize z5:plan.getD p.fst.toNat 0=a at *
  generalize gF:plan.getD p.snd.toNat 0=b at *
  generalize vK:(m.cls.getD p.fst.toNat default).length=na at *
  generalize acQ:(m.cls.getD p.snd.toNat default).length=nb at *
  have e7:=uC (x:=a) (y:=b) (a:=na) (b:=nb) ha hb (by omega) (by omega)
  rcases cF with hs | hs
  · rw[if_pos hs] at rM tw
    rw[if_pos hs,if_pos hs,z5]
    rw[vK] at tw
    dsimp only
    have Ci:=uC (x:=x.opt) (y:=b) (a:=na) (b:=nb) tw hb (by omega) (by omega)
    by_cases e2:a=x.opt
    · rw[if_pos e2]
      refine Ji (j0:=b.toNat) ?_ (by omega) nb (by omega) fun j hj dL he=>?_
      · rw[e2,sx hb.1]
      · have:=Fo (a:=x.opt) (b:=a) (n:=nb) (j:=j) (k:=b) (by omega) (by omega) (by omega)
        omega
    · rw[if_neg e2]
      refine Fm nb fun j hj he=>?_
      have:=Fo (a:=x.opt) (b:=a) (n:=nb) (j:=j) (k:=b) (by omega) (by omega) (by omega)
      omega
  · rw[if_neg (by omega)] at rM tw
    have uD:¬ x.side=0:=by omega
    rw[if_neg uD,if_neg uD,gF]
    rw[acQ] at tw
    dsimp only
    by_cases e2:b=x.opt
    · rw[if_pos e2]
      refine Ji (j0:=a.toNat) ?_ (by omega) na (by omega) fun j hj dL he=>?_
      · rw[e2,sx ha.1]
      · have Bb:=uC (x:=(j:Int)) (y:=x.opt) (a:=na) (b:=nb) (by omega) tw (by omega) (by omega)
        have:=Fo (a:=(j:Int)) (b:=a) (n:=nb) (j:=x.opt) (k:=b) (by omega) (by omega) (by omega)
        omega
    · rw[if_neg e2]
      refine Fm na fun j hj he=>?_
      have Bb:=uC (x:=(j:Int)) (y:=x.opt) (a:=na) (b:=nb) (by omega) tw (by omega) (by omega)
      have:=Fo (a:=(j:Int)) (b:=a) (n:=nb) (j:=x.opt) (k:=b) (by omega) (by omega) (by omega)
      omega
def uK (m:ah) (plan:List Int) (g:Lg):Int:=bz (fun i=>(kR plan g i).1) m.cls.length+bz (fun i=>(kS m plan g i).1) m.ae.length
theorem acR {m:ah} (hm:VM m) {plan:List Int} (hp:FP m plan) {B:Int} {g:Lg} (h:LG m B g) {x:Mv} (hx:Fp m x) :
    uK m plan (kL m x g)=uK m plan g∧(∀ i,(kR plan (kL m x g) i).2=(kR plan g i).2)∧∀ i,(kS m plan (kL m x g) i).2=(kS m plan g i).2:=by
  have hS:=acN hp h hx
  have hT:=acP hm hp h hx
  refine⟨?_,fun i=>?_,fun i=>?_⟩
  · unfold uK
    by_cases hh:Ck m plan x
    · rw[jo (g:=fun i=>if i=(kq m x).toNat then (kR plan g i).1+x.gK else (kR plan g i).1) m.cls.length fun i _=>by
        rw[hS,if_pos hh];split<;>rfl,jo (g:=fun i=>if i=x.pair.toNat then (kS m plan g i).1+-x.gK else (kS m plan g i).1) m.ae.length fun i _=>by
        rw[hT,if_pos hh];split<;>rfl,zL,zL,if_pos (by have:=hx.c;omega),if_pos (by have:=hx.p;omega)]
      omega
    · rw[jo (g:=fun i=>(kR plan g i).1) m.cls.length fun i _=>by rw[hS,if_neg hh];simp,jo (g:=fun i=>(kS m plan g i).1) m.ae.length fun i _=>by rw[hT,if_neg hh];simp]
  · rw[hS];split<;>(try split)<;>rfl
  · rw[hT];split<;>(try split)<;>rfl
theorem UE {m:ah} (hm:VM m) {plan:List Int} (hp:FP m plan):∀ (l:List Mv) (B:Int) (g:Lg),0≤B→LG m B g→(∀ x∈l,kK m x=true) →
    uK m plan (iW m l g)=uK m plan g∧(∀ i,(kR plan (iW m l g) i).2=(kR plan g i).2)∧∀ i,(kS m plan (iW m l g) i).2=(kS m plan g i).2
  | [],B,g,_,_,_=>⟨rfl,fun _=>rfl,fun _=>rfl⟩
  | x::r,B,g,hB,h,hx=>by
    have h1:=acR hm hp h (acM (hx x (by simp)))
    have h2:=UE hm hp r _ (kL m x g) (by omega) (OK hm hB h (hx x (by simp))) (fun y hy=>hx y (by simp[hy]))
    exact⟨h2.1.trans h1.1,fun i=>(h2.2.1 i).trans (h1.2.1 i),fun i=>(h2.2.2 i).trans (h1.2.2 i)⟩
theorem Fq:∀ (l:List Nm) (s:List Bool) (b:Int × Bool),b.2=true→(c9 l s b).2=true∧(c9 l s b).1≤b.1
  | [],s,b,h=>by cases s<;>exact⟨h,eo _⟩
  | p::r,[],b,h=>⟨h,eo _⟩
  | p::r,is::s,b,h=>by
    rw[c9]
    split
    · rename_i hc
      have h2:=Fq r s (p.1,true) rfl
      have h3:p.1<b.1:=by
        rcases hc.2.2 with h4 | h4
        · rw[h] at h4;cases h4
        · exact h4
      exact⟨h2.1,by have:=h2.2;dsimp only at this;omega⟩
    · exact Fq r s b h
theorem Jj:∀ (l:List Nm) (s:List Bool) (b:Int × Bool) (i:Nat),i<l.length→s.getD i false=true→(l.getD i default).2=false→(c9 l s b).2=true∧(c9 l s b).1≤(l.getD i default).1
  | [],s,b,i,h,_,_=>by simp at h
  | p::r,[],b,i,_,h,_=>by simp at h
  | p::r,is::s,b,0,_,h1,h2=>by
    rw[gP] at h1 h2 ⊢
    rw[c9]
    split
    · exact Fq r s (p.1,true) rfl
    · rename_i hc
      have hb:b.2=true∧b.1≤p.1:=by
        cases qI:b.2 with
        | false=>exact absurd ⟨h1,h2,.inl qI⟩ hc
        | true=>exact⟨rfl,by rcases Gu p.1 b.1 with h | h;exact absurd ⟨h1,h2,.inr h⟩ hc;exact h⟩
      have:=Fq r s b hb.1
      exact⟨this.1,by omega⟩
  | p::r,is::s,b,i+1,h,h1,h2=>by
    rw[eS] at h1 h2 ⊢
    rw[c9]
    exact Jj r s _ i (by simpa using h) h1 h2
theorem UF:∀ (l:List Nm) (s:List Bool) (b:Int × Bool),(∀ i,s.getD i false=false)→c9 l s b=b
  | [],s,b,_=>by cases s<;>rfl
  | p::r,[],b,_=>rfl
  | p::r,is::s,b,h=>by
    have h0:=h 0
    rw[gP] at h0
    rw[c9,if_neg (by rw[h0];simp)]
    exact UF r s b fun i=>by have:=h (i+1);rwa [eS] at this
theorem Jk:∀ (l:List Nm) (s:List Bool) (b:Int × Bool) (i:Nat),i<l.length→(∀ j,s.getD j false=decide (j=i))→b.2=false →
    c9 l s b=if (l.getD i default).2=false then ((l.getD i default).1,true) else b
  | [],s,b,i,h,_,_=>by simp at h
  | p::r,[],b,i,_,h,_=>by have:=h i;simp at this
  | p::r,is::s,b,0,_,h,hb=>by
    have h0:=h 0
    rw[gP,decide_eq_true rfl] at h0
    rw[gP,c9,UF r s _ fun i=>by have:=h (i+1);rw[eS] at this;rw[this];simp]
    by_cases hp:p.2=false
    · rw[if_pos ⟨h0,hp,.inl hb⟩,if_pos hp]
    · rw[if_neg (fun hc=>hp hc.2.1),if_neg hp]
  | p::r,is::s,b,i+1,hi,h,hb=>by
    have h0:=h 0
    rw[gP,decide_eq_false (by omega)] at h0
    rw[eS,c9,if_neg (by rw[h0];simp)]
    exact Jk r s b i (by simpa using hi) (fun j=>by have:=h (j+1);rw[eS] at this;rw[this];simp) hb
theorem Fs (f:Nat→Int × Bool) (z:Int × Bool):∀ n,(bH ((aT n).map f) z).1=z.1+bz (fun i=>(f i).1) n
  | 0=>by simp[bH,bz]
  | n+1=>by rw[xH,zI,bz];dsimp only;rw[Fs f z n];omega
theorem xV (f:Nat→Int × Bool) (z:Int × Bool):∀ n,(bH ((aT n).map f) z).2=true↔(z.2=true∨∃ i,i<n∧(f i).2=false)
  | 0=>by simp[bH]
  | n+1=>by
    rw[xH,zI]
    dsimp only
    rw[Bool.or_eq_true,xV f z n,Bool.not_eq_true']
    constructor
    · rintro ((h | ⟨i,hi,h⟩) | h)
      · exact .inl h
      · exact .inr ⟨i,by omega,h⟩
      · exact .inr ⟨n,by omega,h⟩
    · rintro (h | ⟨i,hi,h⟩)
      · exact .inl (.inl h)
      · by_cases e:i=n
        · subst e;exact .inr h
        · exact .inl (.inr ⟨i,by omega,h⟩)
def tA (left:List (List Bool)) (g:Lg) (i:Nat):Int × Bool:=c9 (g.1.getD i default) (left.getD i default) (0,false)
def tB (m:ah) (left:List (List Bool)) (g:Lg) (i:Nat):Int × Bool:=c9 (g.2.getD i default) (gL m left i) (0,false)
def pT (m:ah) (left:List (List Bool)) (i:Nat):Int × Bool:=(lk left (m.au.getD i default),!(decide ((m.au.getD i default).bE=1099511627776) && decide (0<lk left (m.au.getD i default))))
def Cl (m:ah) (left:List (List Bool)) (g:Lg):Int:=bz (fun i=>(tA left g i).1) m.cls.length+bz (fun i=>(tB m left g i).1) m.ae.length+bz (fun i=>(pT m left i).1) m.au.length
def Jl (m:ah) (left:List (List Bool)) (g:Lg):Prop:=(∃ i,i<m.cls.length∧(tA left g i).2=false)∨(∃ i,i<m.ae.length∧(tB m left g i).2=false)∨∃ i,i<m.au.length∧(pT m left i).2=false
theorem acS {m:ah} {left:List (List Bool)} {g:Lg} (h:Jl m left g):mR m left g=1099511627776:=by
  unfold mR
  rw[if_pos]
  show (bH ((aT m.au.length).map (pT m left)) (bH ((aT m.ae.length).map (tB m left g)) (bH ((aT m.cls.length).map (tA left g)) (0,false)))).2=true
  rw[xV,xV,xV]
  rcases h with h | h | h
  · exact .inl (.inl (.inr h))
  · exact .inl (.inr h)
  · exact .inr h
theorem UG {m:ah} {left:List (List Bool)} {g:Lg} (h:¬ Jl m left g):mR m left g=min (Cl m left g) 1099511627776:=by
  have h1:¬ (bH ((aT m.au.length).map (pT m left)) (bH ((aT m.ae.length).map (tB m left g)) (bH ((aT m.cls.length).map (tA left g)) (0,false)))).2=true:=by
    rw[xV,xV,xV]
    rintro (((h2 | h2) | h2) | h2)
    · cases h2
    · exact h (.inl h2)
    · exact h (.inr (.inl h2))
    · exact h (.inr (.inr h2))
  have h2:(bH ((aT m.au.length).map (pT m left)) (bH ((aT m.ae.length).map (tB m left g)) (bH ((aT m.cls.length).map (tA left g)) (0,false)))).1=Cl m left g:=by
    rw[Fs,Fs,Fs]
    unfold Cl
    dsimp only
    omega
  show (if (bH ((aT m.au.length).map (pT m left)) (bH ((aT m.ae.length).map (tB m left g)) (bH ((aT m.cls.length).map (tA left g)) (0,false)))).2=true then (1099511627776:Int) else min (bH ((aT m.au.length).map (pT m left)) (bH ((aT m.ae.length).map (tB m left g)) (bH ((aT m.cls.length).map (tA left g)) (0,false)))).1 1099511627776)=_
  rw[if_neg h1,h2]
theorem acT (m:ah) (left:List (List Bool)) (g:Lg):mR m left g≤1099511627776:=by
  unfold mR;split<;>omega
theorem Fh:∀ (l:List Ld) (c o w:Int),(∀ y∈l,¬ (y.cls=c∧y.opt=o))→fQ l c o w=w
  | [],_,_,_,_=>rfl
  | x::r,c,o,w,h=>by rw[fQ,if_neg (h x (by simp)),Fh r c o w fun y hy=>h y (by simp[hy])]
theorem UH {m:ah}:∀ {l:List Ld} {q:Option Ld} (c o:Int),dR m q l=true→fQ l c o 0=r9 l c o
  | [],_,_,_,_=>rfl
  | x::r,q,c,o,h=>by
    have hr:dR m (some x) r=true:=by
      cases q<;>rw[dR] at h<;>simp only[bh] at h<;>exact h.2
    rw[fQ,r9]
    by_cases e:x.cls=c∧x.opt=o
    · rw[if_pos e,if_pos e]
      exact Fh r c o _ fun y hy he=>by have:=wc hr y hy;omega
    · rw[if_neg e,if_neg e];exact UH c o hr
theorem UJ (l:List Ld):∀ (plan:List Int) (i:Nat),qW l i plan=bz (fun j=>r9 l (i+j:Nat) (plan.getD j 0)) plan.length
  | [],i=>rfl
  | o::r,i=>by
    rw[qW,UJ l r (i+1),dH,xJ]
    simp only[gP,eS,g7]
    rw[jo (g:=fun j=>r9 l (i+(j+1):Nat) (r.getD j 0)) r.length fun j _=>by rw[show i+1+j=i+(j+1) by omega]]
theorem z3 {l:List Ld} (h:∀ x∈l,1≤x.wt∧x.wt≤1000) (c:Int):∀ (row:List Bool) (o:Nat) (b:Int),0≤b→0≤ew l c o row b∧ew l c o row b≤b
  | [],_,b,hb=>⟨hb,eo _⟩
  | is::r,o,b,hb=>by
    rw[ew]
    have hw:=xI h c o 0 (by omega)
    split
    · rename_i hc
      have:=z3 h c r (o+1) (fQ l c o 0) hw.1
      omega
    · exact z3 h c r (o+1) b hb
theorem Fi {l:List Ld} (h:∀ x∈l,1≤x.wt∧x.wt≤1000) (c:Int):∀ (row:List Bool) (o:Nat) (b:Int) (i:Nat),row.getD i false=true→ew l c o row b≤fQ l c (o+i:Nat) 0
  | [],_,b,i,hi=>by simp at hi
  | is::r,o,b,0,hi=>by
    rw[gP] at hi
    have hw:=xI h c o 0 (by omega)
    rw[ew]
    simp only[g7]
    split
    · exact (z3 h c r (o+1) _ hw.1).2
    · rename_i hc
      have hb:0≤b∧b≤fQ l c o 0:=by
        constructor
        · rcases Gu b 0 with h2 | h2
          · exact absurd ⟨hi,.inl h2⟩ hc
          · exact h2
        · rcases Gu (fQ l c o 0) b with h2 | h2
          · exact absurd ⟨hi,.inr h2⟩ hc
          · exact h2
      have:=z3 h c r (o+1) b hb.1
      omega
  | is::r,o,b,i+1,hi=>by
    rw[eS] at hi
    rw[ew,show o+(i+1)=o+1+i by omega]
    exact Fi h c r (o+1) _ i hi
theorem Ja (l:List Ld) (c:Int):∀ (row:List Bool) (o:Nat) (b:Int),(∀ i,row.getD i false=false)→ew l c o row b=b
  | [],_,_,_=>rfl
  | is::r,o,b,h=>by
    have h0:=h 0
    rw[gP] at h0
    rw[ew,if_neg (by rw[h0];simp)]
    exact Ja l c r (o+1) b fun i=>by have:=h (i+1);rwa [eS] at this
theorem UK (l:List Ld) (c:Int):∀ (row:List Bool) (o:Nat) (i:Nat),(∀ j,row.getD j false=decide (j=i))→ew l c o row (-1)=fQ l c (o+i:Nat) 0
  | [],_,i,h=>by have:=h i;simp at this
  | is::r,o,0,h=>by
    have h0:=h 0
    rw[gP,decide_eq_true rfl] at h0
    rw[ew,if_pos ⟨h0,.inl (by decide)⟩,g7]
    exact Ja l c r (o+1) _ fun j=>by have:=h (j+1);rw[eS] at this;rw[this];simp
  | is::r,o,i+1,h=>by
    have h0:=h 0
    rw[gP,decide_eq_false (by omega)] at h0
    rw[ew,if_neg (by rw[h0];simp),show o+(i+1)=o+1+i by omega]
    exact UK l c r (o+1) i fun j=>by have:=h (j+1);rw[eS] at this;rw[this];simp
theorem Ft {f:Nat→Int}:∀ (n:Nat),(∀ i<n,0≤f i)→0≤bz f n∧∀ i<n,f i≤bz f n
  | 0,_=>⟨eo _,fun i h=>by omega⟩
  | n+1,h=>by
    have h1:=Ft n fun i hi=>h i (by omega)
    have h2:=h n (by omega)
    rw[bz]
    refine⟨by omega,fun i hi=>?_⟩
    by_cases e:i=n
    · subst e;omega
    · have:=h1.2 i (by omega);omega
theorem Cm {f g:Nat→Int}:∀ (n:Nat),(∀ i<n,f i≤g i)→bz f n≤bz g n
  | 0,_=>eo _
  | n+1,h=>by
    have:=Cm n fun i hi=>h i (by omega)
    have:=h n (by omega)
    rw[bz,bz];omega
theorem acU {m:ah} {plan:List Int} (hm:VM m) (hp:FP m plan) {i:Nat} (hi:i<m.cls.length):bP (pU m plan i):=by
  have h:=pf hp hi
  have hl:=az (l:=m.cls) (i:=i) (d:=default) hi
  exact EB (hm.nu _ hl _ (az (l:=m.cls.getD i default) (i:=(plan.getD i 0).toNat) (d:=default) (by omega)))
theorem UL {m:ah} {plan:List Int} (hp:FP m plan) {i:Nat} (hi:i<m.cls.length):kR plan (S0 m,T0 m) i=fI (pU m plan i):=by
  have h:=pf hp hi
  unfold kR S0
  dsimp only
  rw[iu _ _ _ hi]
  unfold dm fP
  rw[List.map_map,iu _ _ _ (by omega)]
  rfl
theorem UM {m:ah} {plan:List Int} (hm:VM m) (hp:FP m plan) {p:Pr} (dJ:fJ m p=true):tz m plan p<p.ax.length:=by
  obtain ⟨q1,q2,q3,q4,q5⟩:=mj dJ
  have ha:=pf hp (j:=p.fst.toNat) (by omega)
  have hb:=pf hp (j:=p.snd.toNat) (by omega)
  have xy:=hm.opt _ (az (l:=m.cls) (i:=p.fst.toNat) (d:=default) (by omega))
  have mJ:=hm.opt _ (az (l:=m.cls) (i:=p.snd.toNat) (d:=default) (by omega))
  have e7:=uC ha hb (by omega) (by omega)
  unfold tz
  omega
theorem UN {m:ah} {plan:List Int} (hm:VM m) (hp:FP m plan) {i:Nat} (hi:i<m.ae.length):kS m plan (S0 m,T0 m) i=fI (oA m plan (m.ae.getD i default)):=by
  have dJ:=jn hm.pr _ (az (l:=m.ae) (i:=i) (d:=default) hi)
  have e7:=UM hm hp dJ
  unfold kS T0
  dsimp only
  rw[iu _ _ _ hi]
  unfold dm
  rw[iu _ _ _ e7]
  unfold oA nB tz
  rfl
theorem acV {m:ah} {left:List (List Bool)} (hm:VM m) (hf:dN m left) {i:Nat} (hi:i<m.ae.length) {x y:Int}
    (hx:0≤x∧x<(m.cls.getD (m.ae.getD i default).fst.toNat default).length) (hy:0≤y∧y<(m.cls.getD (m.ae.getD i default).snd.toNat default).length) :
    (gL m left i).getD (x * (m.cls.getD (m.ae.getD i default).snd.toNat default).length+y).toNat false=((left.getD (m.ae.getD i default).fst.toNat default).getD x.toNat false && (left.getD (m.ae.getD i default).snd.toNat default).getD y.toNat false):=by
  have dJ:=jn hm.pr _ (az (l:=m.ae) (i:=i) (d:=default) hi)
  unfold gL
  generalize m.ae.getD i default=p at *
  obtain ⟨q1,q2,q3,q4,q5⟩:=mj dJ
  have xy:=hm.opt _ (az (l:=m.cls) (i:=p.fst.toNat) (d:=default) (by omega))
  have mJ:=hm.opt _ (az (l:=m.cls) (i:=p.snd.toNat) (d:=default) (by omega))
  have e7:=uC hx hy (by omega) (by omega)
  have f1:=hf.2 p.fst.toNat (by have:=hf.1;omega)
  have f2:=hf.2 p.snd.toNat (by have:=hf.1;omega)
  rw[← f1] at hx e7
  rw[← f2] at hy e7 ⊢
  generalize left.getD p.fst.toNat default=a at *
  generalize left.getD p.snd.toNat default=b at *
  obtain ⟨x,rfl⟩:=yE hx.1
  obtain ⟨y,rfl⟩:=yE hy.1
  have e:((x:Int) * b.length+y).toNat=x * b.length+y:=by
    rw[show ((x:Int) * b.length+y)=((x * b.length+y:Nat):Int) by simp,eT]
  have e2:x * b.length+y<a.length * b.length:=by
    have:=e7.2.2
    rw[show ((x:Int) * b.length+y)=((x * b.length+y:Nat):Int) by simp,show (a.length:Int) * b.length=((a.length * b.length:Nat):Int) by simp] at this
    omega
  have D4:y<b.length:=by omega
  rw[e,EK _ _ _ e2,eT,eT,rh x,Nat.mul_add_div (by omega),KP D4,KQ,Db D4,g7]
theorem UO {m:ah} {plan:List Int} (hp:FP m plan) {c:Ct} (hc:gV m c=true):lK plan c.aK 0=bz (fun j=>fQ c.aK (j:Nat) (plan.getD j 0) 0) m.cls.length:=by
  obtain ⟨_,_,_,q4⟩:=nw hc
  rw[UP hp.len 0 q4,UJ,wJ,hp.len]
  exact jo _ fun j _=>by rw[eR,UH _ _ q4]
def Cd (m:ah) (left:List (List Bool)) (plan:List Int):Prop:=∀ i,i<m.cls.length→(left.getD i default).getD (plan.getD i 0).toNat false=true
def zX (m:ah) (left:List (List Bool)) (plan:List Int):Prop:=∀ i,i<m.cls.length→∀ j,(left.getD i default).getD j false=decide (j=(plan.getD i 0).toNat)
theorem zX.T2 {m:ah} {left:List (List Bool)} {plan:List Int} (h:zX m left plan):Cd m left plan:=fun i hi=>by rw[h i hi,decide_eq_true rfl]
theorem least_le {m:ah} {plan:List Int} {left:List (List Bool)} (hm:VM m) (hp:FP m plan) (hf:dN m left) (gp:Cd m left plan) {c:Ct} (hc:gV m c=true):lk left c≤kx plan c:=by
  obtain ⟨_,_,q3,q4⟩:=nw hc
  have hw:∀ x∈c.aK,1≤x.wt∧x.wt≤1000:=fun x hx=>(o7 q4 x hx).2
  refine aa' (mg q3).1 ?_
  rw[zN,UO hp hc,wJ,hf.1]
  refine Cm _ fun j hj=>?_
  have hg:=pf hp hj
  have h1:=Fi hw (j:Nat) (left.getD j []) 0 (-1) (plan.getD j 0).toNat (gp j hj)
  have h2:=xI hw (j:Nat) (plan.getD j 0) 0 (by omega)
  rw[eR,sx hg.1] at h1
  unfold mP
  rw[eR]
  omega
theorem acW {m:ah} {plan:List Int} {left:List (List Bool)} (hm:VM m) (hp:FP m plan) (hf:dN m left) (gp:zX m left plan) {c:Ct} (hc:gV m c=true):lk left c=kx plan c:=by
  obtain ⟨_,_,q3,q4⟩:=nw hc
  have hw:∀ x∈c.aK,1≤x.wt∧x.wt≤1000:=fun x hx=>(o7 q4 x hx).2
  unfold lk kx
  congr 1
  rw[zN,UO hp hc,wJ,hf.1]
  refine jo _ fun j hj=>?_
  have hg:=pf hp hj
  have h1:=UK c.aK (j:Nat) (left.getD j []) 0 (plan.getD j 0).toNat (gp j hj)
  have h2:=xI hw (j:Nat) (plan.getD j 0) 0 (by omega)
  rw[eR,sx hg.1] at h1
  unfold mP
  rw[eR,h1]
  omega
theorem acX {m:ah} {plan:List Int} {c:Ct} (hc:gV m c=true):bP (kx plan c):=EO (mg (nw hc).2.2.1)
theorem UQ {most s:Int} (h:0<kP most 1099511627776 s):kP most 1099511627776 s=1099511627776:=by
  unfold kP at *
  split at h
  · omega
  · rename_i h2;rw[if_neg h2];omega
theorem acY {m:ah} {plan:List Int} {p:Pr} (h:fJ m p=true):bP (oA m plan p):=EN h _ _
structure acZ (m:ah) (plan:List Int) (left:List (List Bool)) (g:Lg):Prop where
  bO:ny (nq m plan) 0=min (bz (pU m plan) m.cls.length+bz (fun i=>oA m plan (m.ae.getD i default)) m.ae.length+bz (fun i=>kx plan (m.au.getD i default)) m.au.length) 1099511627776
  ps:uK m plan g=bz (pU m plan) m.cls.length+bz (fun i=>oA m plan (m.ae.getD i default)) m.ae.length
  sf:∀ i,i<m.cls.length→(kR plan g i).2=decide (1099511627776≤pU m plan i)
  tf:∀ i,i<m.ae.length→(kS m plan g i).2=decide (1099511627776≤oA m plan (m.ae.getD i default))
  sl:∀ i,i<m.cls.length→(plan.getD i 0).toNat<(g.1.getD i default).length
  tl:∀ i,i<m.ae.length→tz m plan (m.ae.getD i default)<(g.2.getD i default).length
  a:0≤bz (pU m plan) m.cls.length∧∀ i<m.cls.length,pU m plan i≤bz (pU m plan) m.cls.length
  b:0≤bz (fun i=>oA m plan (m.ae.getD i default)) m.ae.length∧∀ i<m.ae.length,oA m plan (m.ae.getD i default)≤bz (fun i=>oA m plan (m.ae.getD i default)) m.ae.length
  c:0≤bz (fun i=>kx plan (m.au.getD i default)) m.au.length∧∀ i<m.au.length,kx plan (m.au.getD i default)≤bz (fun i=>kx plan (m.au.getD i default)) m.au.length
theorem parts {m:ah} {plan:List Int} (hm:VM m) (hp:FP m plan) (left:List (List Bool)) (l:List Mv) (hl:∀ x∈l,kK m x=true):acZ m plan left (iW m l (S0 m,T0 m)):=by
  have fH:=UE hm hp l _ _ (by decide) (ON hm) hl
  have jU:=EI hm l hl
  refine⟨Jh hm hp,?_,fun i hi=>?_,fun i hi=>?_,fun i hi=>?_,fun i hi=>?_,Ft _ fun i hi=>(acU hm hp hi).1,Ft _ fun i hi=>(acY (jn hm.pr _ (az hi))).1,Ft _ fun i hi=>(acX (hm.ct _ (az hi))).1⟩
  · rw[fH.1]
    unfold uK
    rw[jo m.cls.length fun i hi=>by rw[UL hp hi],jo m.ae.length fun i hi=>by rw[UN hm hp hi]]
    rfl
  · rw[fH.2.1,UL hp hi];rfl
  · rw[fH.2.2,UN hm hp hi];rfl
  · have:=pf hp hi
    rw[jU.sl i hi];omega
  · rw[jU.tl i hi];exact UM hm hp (jn hm.pr _ (az hi))
theorem ac0 {m:ah} {plan:List Int} {left:List (List Bool)} (hm:VM m) (hp:FP m plan) (hf:dN m left) (gp:Cd m left plan) {i:Nat} (hi:i<m.ae.length):(gL m left i).getD (tz m plan (m.ae.getD i default)) false=true:=by
  have dJ:=jn hm.pr _ (az (l:=m.ae) (i:=i) (d:=default) hi)
  obtain ⟨q1,q2,q3,q4,q5⟩:=mj dJ
  unfold tz
  rw[acV hm hf hi (pf hp (by omega)) (pf hp (by omega)),gp _ (by omega),gp _ (by omega)]
  rfl
theorem ac1 {m:ah} {plan:List Int} {left:List (List Bool)} (hm:VM m) (hp:FP m plan) (hf:dN m left) (l7:zX m left plan) {i:Nat} (hi:i<m.ae.length) (j:Nat):(gL m left i).getD j false=decide (j=tz m plan (m.ae.getD i default)):=by
  have dJ:=jn hm.pr _ (az (l:=m.ae) (i:=i) (d:=default) hi)
  obtain ⟨q1,q2,q3,q4,q5⟩:=mj dJ
  have g1:=pf hp (j:=(m.ae.getD i default).fst.toNat) (by omega)
  have g2:=pf hp (j:=(m.ae.getD i default).snd.toNat) (by omega)
  have o1:=l7 (m.ae.getD i default).fst.toNat (by omega)
  have o2:=l7 (m.ae.getD i default).snd.toNat (by omega)
  have f1:=hf.2 (m.ae.getD i default).fst.toNat (by have:=hf.1;omega)
  have f2:=hf.2 (m.ae.getD i default).snd.toNat (by have:=hf.1;omega)
  unfold gL tz
  generalize m.ae.getD i default=p at *
  rw[← f1] at g1
  rw[← f2] at g2 ⊢
  generalize left.getD p.fst.toNat default=a at *
  generalize left.getD p.snd.toNat default=b at *
  generalize plan.getD p.fst.toNat 0=x at *
  generalize plan.getD p.snd.toNat 0=y at *
  obtain ⟨x,rfl⟩:=yE g1.1
  obtain ⟨y,rfl⟩:=yE g2.1
  simp only[eT] at o1 o2
  have hx:x<a.length:=by omega
  have hy:y<b.length:=by omega
  have e:((x:Int) * b.length+y).toNat=x * b.length+y:=by
    rw[show ((x:Int) * b.length+y)=((x * b.length+y:Nat):Int) by simp,eT]
  rw[e]
  by_cases hj:j<a.length * b.length
  · rw[EK _ _ _ hj,o1,o2,← Bool.decide_and]
    have UR:=Nat.div_add_mod j b.length
    have Dy:=Nat.mod_lt j (show 0<b.length by omega)
    refine decide_eq_decide.2 ⟨fun ⟨h1,h2⟩=>?_,fun h=>?_⟩
    · rw[h1,h2,rh] at UR;exact UR.symm
    · rw[h,rh x,Nat.mul_add_div (by omega),KP hy,KQ,Db hy]
      exact⟨rfl,rfl⟩
  · rw[ay,List.getElem?_eq_none (by rw[BM];omega),Option.getD_none,decide_eq_false]
    intro h
    have h3:(x+1) * b.length≤a.length * b.length:=Nat.mul_le_mul_right _ hx
    rw[Nat.add_mul,Nat.one_mul] at h3
    omega
theorem acn {m:ah} {plan:List Int} (hm:VM m) (hp:FP m plan) (left:List (List Bool)) (hf:dN m left) (gp:Cd m left plan) (l:List Mv) (hl:∀ x∈l,kK m x=true) :
    mR m left (iW m l (S0 m,T0 m))≤ny (nq m plan) 0:=by
  have P:=parts hm hp left l hl
  generalize iW m l (S0 m,T0 m)=g at *
  rw[P.bO]
  have ha:=P.a
  have hb:=P.b
  have hc:=P.c
  have fH:=P.ps
  have ahb:=acT m left g
  by_cases hF:1099511627776≤bz (pU m plan) m.cls.length+bz (fun i=>oA m plan (m.ae.getD i default)) m.ae.length+bz (fun i=>kx plan (m.au.getD i default)) m.au.length
  · omega
  have e1:∀ i,i<m.cls.length→(tA left g i).2=true∧(tA left g i).1≤(kR plan g i).1:=fun i hi=>by
    have:=ha.2 i hi
    exact Jj _ _ _ _ (P.sl i hi) (gp i hi) (by show (kR plan g i).2=false;rw[P.sf i hi,decide_eq_false (by omega)])
  have e2:∀ i,i<m.ae.length→(tB m left g i).2=true∧(tB m left g i).1≤(kS m plan g i).1:=fun i hi=>by
    have:=hb.2 i hi
    exact Jj _ _ _ _ (P.tl i hi) (ac0 hm hp hf gp hi) (by show (kS m plan g i).2=false;rw[P.tf i hi,decide_eq_false (by omega)])
  have e3:∀ i,i<m.au.length→(pT m left i).2=true∧(pT m left i).1≤kx plan (m.au.getD i default):=fun i hi=>by
    have h1:=hc.2 i hi
    have sc:=hm.ct _ (az (l:=m.au) (i:=i) (d:=default) hi)
    have h2:=least_le hm hp hf gp sc
    refine⟨?_,h2⟩
    unfold pT
    dsimp only
    cases hz:(decide ((m.au.getD i default).bE=1099511627776) && decide (0<lk left (m.au.getD i default))) with
    | false=>rfl
    | true =>
      exfalso
      rw[bh,decide_eq_true_eq,decide_eq_true_eq] at hz
      have h3:kx plan (m.au.getD i default)=1099511627776:=by
        unfold kx at h2 ⊢
        rw[hz.1] at h2 ⊢
        exact UQ (by omega)
      omega
  rw[UG]
  · have s1:=Cm m.cls.length fun i hi=>(e1 i hi).2
    have s2:=Cm m.ae.length fun i hi=>(e2 i hi).2
    have s3:=Cm m.au.length fun i hi=>(e3 i hi).2
    unfold Cl
    unfold uK at fH
    omega
  · rintro (⟨i,hi,h⟩ | ⟨i,hi,h⟩ | ⟨i,hi,h⟩)
    · rw[(e1 i hi).1] at h;cases h
    · rw[(e2 i hi).1] at h;cases h
    · rw[(e3 i hi).1] at h;cases h
theorem aco {m:ah} {plan:List Int} (hm:VM m) (hp:FP m plan) (left:List (List Bool)) (hf:dN m left) (l7:zX m left plan) (l:List Mv) (hl:∀ x∈l,kK m x=true) :
    mR m left (iW m l (S0 m,T0 m))=ny (nq m plan) 0:=by
  have P:=parts hm hp left l hl
  generalize iW m l (S0 m,T0 m)=g at *
  rw[P.bO]
  have ha:=P.a
  have hb:=P.b
  have hc:=P.c
  have fH:=P.ps
  have e1:∀ i,i<m.cls.length→tA left g i=if (kR plan g i).2=false then ((kR plan g i).1,true) else (0,false):=fun i hi =>
    Jk _ _ _ _ (P.sl i hi) (l7 i hi) rfl
  have e2:∀ i,i<m.ae.length→tB m left g i=if (kS m plan g i).2=false then ((kS m plan g i).1,true) else (0,false):=fun i hi =>
    Jk _ _ _ _ (P.tl i hi) (ac1 hm hp hf l7 hi) rfl
  have e3:∀ i,i<m.au.length→lk left (m.au.getD i default)=kx plan (m.au.getD i default):=fun i hi =>
    acW hm hp hf l7 (hm.ct _ (az hi))
  by_cases hN:Jl m left g
  · rw[acS hN]
    rcases hN with ⟨i,hi,h⟩ | ⟨i,hi,h⟩ | ⟨i,hi,h⟩
    · rw[e1 i hi,P.sf i hi] at h
      have:=ha.2 i hi
      by_cases hx:1099511627776≤pU m plan i
      · omega
      · rw[decide_eq_false hx,if_pos rfl] at h;cases h
    · rw[e2 i hi,P.tf i hi] at h
      have:=hb.2 i hi
      by_cases hx:1099511627776≤oA m plan (m.ae.getD i default)
      · omega
      · rw[decide_eq_false hx,if_pos rfl] at h;cases h
    · have h1:=hc.2 i hi
      unfold pT at h
      dsimp only at h
      rw[e3 i hi,Bool.not_eq_false',bh,decide_eq_true_eq,decide_eq_true_eq] at h
      have h3:kx plan (m.au.getD i default)=1099511627776:=by
        obtain ⟨h4,h5⟩:=h
        unfold kx at h5 ⊢
        rw[h4] at h5 ⊢
        exact UQ h5
      omega
  · rw[UG hN]
    congr 1
    rw[← fH]
    unfold Cl uK
    congr 1
    · congr 1
      · refine jo _ fun i hi=>?_
        rw[e1 i hi]
        split
        · rfl
        · rename_i h
          exact absurd (.inl ⟨i,hi,by rw[e1 i hi,if_neg h]⟩) hN
      · refine jo _ fun i hi=>?_
        rw[e2 i hi]
        split
        · rfl
        · rename_i h
          exact absurd (.inr (.inl ⟨i,hi,by rw[e2 i hi,if_neg h]⟩)) hN
    · exact jo _ fun i hi=>e3 i hi
end T

