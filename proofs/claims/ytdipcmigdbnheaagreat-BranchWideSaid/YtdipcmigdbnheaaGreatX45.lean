import Derived.Test.YtdipcmigdbnheaaGreatX27
import Derived.Test.YtdipcmigdbnheaaGreatX13
import Derived.Test.YtdipcmigdbnheaaGreatX14
set_option linter.unusedVariables false
set_option linter.unusedSimpArgs false
set_option linter.unnecessarySimpa false
set_option linter.unusedSectionVars false
set_option maxHeartbeats 64000000
set_option maxRecDepth 20000
open List renaming replicate→aW,mem_map→bV,map_map→xR,length_set→bF,mem_cons_of_mem→D8,mem_range→og,nodup_iff_pairwise_ne→L7,getD_eq_getElem?_getD→ay
open Int renaming toNat_natCast→dg
open Option renaming getD_some→gw
open Go Go.Am
namespace T
structure It where
  cls:Int
  opt:Int
  bx:Int
  deriving Inhabited
def cF (a b:It):Bool:=decide (nB [jg a.opt b.opt,jg b.bx a.bx,jg a.cls b.cls]<0)
theorem DF {a b:It}:cF a b=true↔a.opt<b.opt∨(a.opt=b.opt∧(b.bx<a.bx∨(a.bx=b.bx∧a.cls<b.cls))):=by
  unfold cF
  rw[decide_eq_true_eq]
  unfold nB nB nB nB jg
  repeat' split
  all_goals omega
theorem agO:Ord cF:=⟨fun a b h=>by
  rw[DF] at h
  cases hh:cF b a
  · rfl
  · rw[DF] at hh;omega,fun a b c h1 h2=>by
  cases hh:cF c a
  · rfl
  · rw[DF] at hh
    have n1:¬ cF b a=true:=by rw[h1];simp
    have n2:¬ cF c b=true:=by rw[h2];simp
    rw[DF] at n1 n2
    omega⟩
def Gw (many best:Nat→Int) (nb:List Int) (done:List Bool):Nat→Nat→Int × Int × Int→Int × Int × Int
  | 0,_,s=>s
  | f+1,c,s=>Gw many best nb done f (c+1) (if done.getD c false=true then s else if s.1<0∨many c<s.2.1∨(many c=s.2.1∧nb.getD c 0 > nb.getD s.1.toNat 0) then ((c:Int),many c,best c) else s)
def xz (m:ae) (nb:List Int) (plan:List Int) (done:List Bool):Int × Int × Int:=Gw (wW m plan) (kK m plan) nb done m.cls.length 0 (-1,0,-1)
def Bl (m:ae) (nb:List Int):Nat→List Int→List Bool→List Int
  | 0,plan,_=>plan
  | r+1,plan,done=>Bl m nb r (plan.set (xz m nb plan done).1.toNat (xz m nb plan done).2.2) (done.set (xz m nb plan done).1.toNat true)
def rf (m:ae):List Int:=Bl m (sN m) m.cls.length (vw m) (aW m.cls.length false)
def kT (m:ae) (plan:List Int) (x:It):It:=⟨x.cls,wW m plan x.cls.toNat,x.bx⟩
def pe (m:ae) (plan:List Int) (w:List It):It × List It:=A3 cF (kM cF ((w.map (kT m plan)).length / 2) (w.map (kT m plan)) (w.map (kT m plan)).length)
def xy (m:ae):Nat→List Int→List It→List Int
  | 0,plan,_=>plan
  | r+1,plan,w=>xy m r (plan.set (pe m plan w).1.cls.toNat (kK m plan (pe m plan w).1.cls.toNat)) (pe m plan w).2
def w0 (nb:List Int):List It:=(List.range nb.length).map fun c:Nat=>(⟨(c:Int),0,nb.getD c 0⟩:It)
def Pk (many best:Nat→Int) (nb:List Int) (done:List Bool) (n:Nat) (s:Int × Int × Int):Prop :=
  (s.1 = -1∧∀ c,c<n→done.getD c false=true)∨(0≤s.1∧s.1<n∧done.getD s.1.toNat false=false∧s.2.1=many s.1.toNat∧s.2.2=best s.1.toNat ∧
    ∀ c:Nat,c<n→done.getD c false=false→(c:Int)≠s.1→s.2.1<many c∨(s.2.1=many c∧(nb.getD c 0<nb.getD s.1.toNat 0∨(nb.getD s.1.toNat 0=nb.getD c 0∧s.1<c))))
theorem Yp {many best:Nat→Int} {nb:List Int} {done:List Bool}:∀ (f c:Nat) (s:Int × Int × Int),Pk many best nb done c s→Pk many best nb done (c+f) (Gw many best nb done f c s)
  | 0,c,s,h=>h
  | f+1,c,s,h=>by
    rw[Gw,show c+(f+1)=c+1+f by omega]
    refine Yp f (c+1) _ ?_
    cases hd:done.getD c false with
    | true =>
      rw[if_pos rfl]
      rcases h with ⟨h1,h2⟩ | ⟨h1,h2,h3,h4,h5,h6⟩
      · refine .inl ⟨h1,fun k hk=>?_⟩
        by_cases qy:k=c
        · rw[qy];exact hd
        · exact h2 k (by omega)
      · refine .inr ⟨h1,by omega,h3,h4,h5,fun k hk jv b8=>?_⟩
        by_cases qy:k=c
        · rw[qy,hd] at jv;simp at jv
        · exact h6 k (by omega) jv b8
    | false =>
      rw[if_neg (by simp)]
      split
      · rename_i hc
        refine .inr ⟨by dsimp only;omega,by dsimp only;omega,by rw[dg];exact hd,by rw[dg],by rw[dg],fun k hk jv b8=>?_⟩
        dsimp only at b8 ⊢
        rw[dg]
        rcases h with ⟨h1,h2⟩ | ⟨h1,h2,h3,h4,h5,h6⟩
        · have:=h2 k (by omega)
          rw[this] at jv;simp at jv
        · by_cases oL:(k:Int)=s.1
          · have:s.1.toNat=k:=by omega
            rw[this] at hc h4
            omega
          · have:=h6 k (by omega) jv oL
            omega
      · rename_i hc
        rcases h with ⟨h1,h2⟩ | ⟨h1,h2,h3,h4,h5,h6⟩
        · exact absurd (.inl (by omega)) hc
        · refine .inr ⟨h1,by omega,h3,h4,h5,fun k hk jv b8=>?_⟩
          by_cases qy:k=c
          · subst qy;omega
          · exact h6 k (by omega) jv b8
structure WD (nb:List Int) (n:Nat) (done:List Bool) (w:List It):Prop where
  len:done.length=n
  bx:∀ x∈w,0≤x.cls∧x.cls<n∧x.bx=nb.getD x.cls.toNat 0
  nd:(w.map (·.cls)).Nodup
  mem:∀ c,c<n→(done.getD c false=false↔∃ x∈w,x.cls=c)
theorem La {m:ae} {nb plan:List Int} {done:List Bool} {w:List It} (h:WD nb m.cls.length done w) (hw:0<w.length) :
    (pe m plan w).1.cls=(xz m nb plan done).1∧kK m plan (pe m plan w).1.cls.toNat=(xz m nb plan done).2.2∧WD nb m.cls.length (done.set (xz m nb plan done).1.toNat true) (pe m plan w).2∧(pe m plan w).2.length+1=w.length ∧
    (0≤(pe m plan w).1.cls∧(pe m plan w).1.cls<m.cls.length):=by
  have hp:=Yp (many:=wW m plan) (best:=kK m plan) (nb:=nb) (done:=done) m.cls.length 0 (-1,0,-1) (.inl ⟨rfl,fun c hc=>by omega⟩)
  rw[Nat.zero_add] at hp
  change Pk _ _ _ _ _ (xz m nb plan done) at hp
  obtain ⟨o7,kZ⟩:=adF agO (l:=w.map (kT m plan)) (by simpa using hw)
  change (∀ y∈w.map (kT m plan),cF y (pe m plan w).1=false) at o7
  change ((pe m plan w).1::(pe m plan w).2).Perm _ at kZ
  generalize xz m nb plan done=s at *
  generalize pe m plan w=q at *
  obtain ⟨x,rest⟩:=q
  dsimp only at o7 kZ ⊢
  have hx:x∈w.map (kT m plan):=kZ.mem_iff.1 List.mem_cons_self
  obtain ⟨x0,hx0,rfl⟩:=bV.1 hx
  have xu:=h.bx x0 hx0
  have Lf:=(h.mem x0.cls.toNat (by omega)).2 ⟨x0,hx0,by omega⟩
  rcases hp with ⟨h1,h2⟩ | ⟨h1,h2,h3,h4,h5,h6⟩
  · rw[h2 _ (by omega)] at Lf;simp at Lf
  · have pE:x0.cls=s.1:=by
      obtain ⟨y,hy,k8⟩:=(h.mem s.1.toNat (by omega)).1 h3
      have hyn:=h.bx y hy
      have aT:=o7 (kT m plan y) (bV.2 ⟨y,hy,rfl⟩)
      by_cases he:x0.cls=s.1
      · exact he
      · have h7:=h6 x0.cls.toNat (by omega) Lf (by omega)
        have:cF (kT m plan y) (kT m plan x0)=true:=by
          rw[DF]
          show wW m plan y.cls.toNat<wW m plan x0.cls.toNat∨(wW m plan y.cls.toNat=wW m plan x0.cls.toNat∧(x0.bx<y.bx∨(y.bx=x0.bx∧y.cls<x0.cls)))
          have e1:y.cls.toNat=s.1.toNat:=by omega
          rw[hyn.2.2,xu.2.2,e1]
          omega
        rw[this] at aT;simp at aT
    have Lh:(x0.cls::rest.map (·.cls)).Perm (w.map (·.cls)):=by
      have:=kZ.map (·.cls)
      rw[List.map_cons,xR] at this
      exact this
    have bC:=Lh.nodup_iff.2 h.nd
    rw[List.nodup_cons] at bC
    refine⟨pE,by show kK m plan x0.cls.toNat=_;rw[pE,h5],⟨by rw[bF];exact h.len,fun y hy=>?_,bC.2,fun c hc=>?_⟩,?_,xu.1,xu.2.1⟩
    · have:y∈w.map (kT m plan):=kZ.mem_iff.1 (D8 _ hy)
      obtain ⟨y0,KM,rfl⟩:=bV.1 this
      exact h.bx y0 KM
    · have hlen:=h.len
      rw[ug _ _ _ _ _ (by omega)]
      by_cases eZ:s.1.toNat=c
      · rw[if_pos eZ]
        refine⟨fun e=>by simp at e,fun ⟨y,hy,k8⟩=>?_⟩
        refine absurd (bV.2 ⟨y,hy,?_⟩) bC.1
        rw[k8,pE];omega
      · rw[if_neg eZ,h.mem c hc]
        constructor
        · rintro ⟨y,hy,k8⟩
          have:y.cls∈x0.cls::rest.map (·.cls):=Lh.mem_iff.2 (bV.2 ⟨y,hy,rfl⟩)
          rcases List.mem_cons.1 this with h8 | h8
          · omega
          · obtain ⟨z,hz,im⟩:=bV.1 h8
            exact⟨z,hz,by rw[im];exact k8⟩
        · rintro ⟨y,hy,k8⟩
          have:y.cls∈w.map (·.cls):=Lh.mem_iff.1 (D8 _ (bV.2 ⟨y,hy,rfl⟩))
          obtain ⟨z,hz,im⟩:=bV.1 this
          exact⟨z,hz,by rw[im];exact k8⟩
    · have:=kZ.length_eq
      simpa using this
theorem Yq {m:ae} {nb:List Int}:∀ (r:Nat) (plan:List Int) (done:List Bool) (w:List It),WD nb m.cls.length done w→w.length=r→xy m r plan w=Bl m nb r plan done
  | 0,_,_,_,_,_=>rfl
  | r+1,plan,done,w,h,hw=>by
    obtain ⟨h1,h2,h3,h4,h5⟩:=La (plan:=plan) h (by omega)
    rw[xy,Bl,h2,h1]
    exact Yq r _ _ _ h3 (by omega)
theorem K5 {n:Nat} {nb:List Int} (hn:nb.length=n):WD nb n (aW n false) (w0 nb):=by
  refine⟨by simp,fun x hx=>?_,?_,fun c hc=>?_⟩
  · obtain ⟨c,hc,rfl⟩:=bV.1 hx
    rw[og] at hc
    exact⟨by dsimp only;omega,by dsimp only;omega,by dsimp only;rw[dg]⟩
  · unfold w0
    rw[xR,L7,List.pairwise_map]
    exact (L7.1 List.nodup_range).imp fun jZ e=>jZ (by have e':=e;simp only[Function.comp] at e';omega)
  · rw[ay,List.getElem?_replicate,if_pos hc,gw]
    exact⟨fun _=>⟨⟨c,0,nb.getD c 0⟩,bV.2 ⟨c,og.2 (by omega),rfl⟩,rfl⟩,fun _=>rfl⟩
theorem zq (m:ae):(sN m).length=m.cls.length:=by unfold sN;simp
theorem K7 (nb:List Int):(w0 nb).length=nb.length:=by unfold w0;simp
theorem Yd (m:ae):xy m m.cls.length (vw m) (w0 (sN m))=rf m:=by
  unfold rf
  exact Yq _ _ _ _ (K5 (zq m)) (by rw[K7,zq])
theorem Yr {m:ae} {nb:List Int}:∀ (r:Nat) (plan:List Int) (done:List Bool) (w:List It),WD nb m.cls.length done w→w.length=r→PM m plan→PM m (Bl m nb r plan done)
  | 0,_,_,_,_,_,h=>h
  | r+1,plan,done,w,h,hw,hp=>by
    obtain ⟨h1,h2,h3,h4,h5⟩:=La (plan:=plan) h (by omega)
    rw[Bl]
    refine Yr r _ _ _ h3 (by omega) ?_
    rw[← h2,← h1]
    exact Je hp (by omega)
theorem Qo (m:ae):PM m (rf m):=Yr _ _ _ _ (K5 (zq m)) (by rw[K7,zq]) (Rv m)
theorem Gx (f:Nat→Int):∀ (n k:Nat) (l b:Int),(ql f n k l b=b∧∀ j,k≤j→j<k+n→l≤f j)∨∃ j,k≤j∧j<k+n∧ql f n k l b=j∧f j<l
  | 0,k,l,b=>.inl ⟨rfl,fun j h1 h2=>by omega⟩
  | n+1,k,l,b=>by
    rw[ql]
    by_cases h:f k<l
    · rw[if_pos h]
      rcases Gx f n (k+1) (f k) k with ⟨h1,h2⟩ | ⟨j,h1,h2,h3,h4⟩
      · exact .inr ⟨k,Nat.le_refl _,by omega,h1,h⟩
      · exact .inr ⟨j,by omega,by omega,h3,by omega⟩
    · rw[if_neg h]
      rcases Gx f n (k+1) l b with ⟨h1,h2⟩ | ⟨j,h1,h2,h3,h4⟩
      · refine .inl ⟨h1,fun j h3 h4=>?_⟩
        by_cases hj:j=k
        · subst hj;omega
        · exact h2 j (by omega) (by omega)
      · exact .inr ⟨j,by omega,by omega,h3,h4⟩
theorem agQ {m:ae} {plan:List Int} {c:Nat} (h:kK m plan c = -1):∀ k:Nat,k<(m.cls.getD c default).length→1099511627776≤rq m (plan.set c (k:Int)):=fun k hk=>by
  rcases Gx (ry m plan c) (m.cls.getD c default).length 0 1099511627776 (-1) with ⟨h1,h2⟩ | ⟨j,h1,h2,h3,h4⟩
  · exact h2 k (Nat.zero_le _) (by omega)
  · change kK m plan c=_ at h3;omega
theorem agR {m:ae} {plan:List Int} {c:Nat} (h:kK m plan c≠-1):rq m (plan.set c (kK m plan c))<1099511627776:=by
  rcases Gx (ry m plan c) (m.cls.getD c default).length 0 1099511627776 (-1) with ⟨h1,h2⟩ | ⟨j,h1,h2,h3,h4⟩
  · exact absurd h1 h
  · change kK m plan c=_ at h3
    rw[h3];exact h4
structure Li (m:ae) (plan:List Int) (done:List Bool):Prop where
  pm:PM m plan
  low:rq m plan<1099511627776
  wait:∀ c,c<m.cls.length→done.getD c false=false→plan.getD c 0 = -1
  not:∀ c,c<m.cls.length→done.getD c false=true→plan.getD c 0 = -1→∀ k:Nat,k<(m.cls.getD c default).length→1099511627776≤rq m (plan.set c (k:Int))
theorem Up.agS {p q:List Int} (h:Up p q) (c:Nat) (o:Int):Up (p.set c o) (q.set c o):=by
  refine⟨by rw[bF,bF];exact h.1,fun j=>?_⟩
  rw[ui,ui,h.1]
  split
  · exact .inl rfl
  · exact h.2 j
theorem Yk {plan:List Int} {c:Nat} {x:Int} (hc:c<plan.length) (h:plan.getD c 0=x):plan.set c x=plan:=by
  rw[ay,List.getElem?_eq_getElem hc,gw] at h
  rw[← h];exact List.set_getElem_self hc
theorem Li.step {m:ae} (hm:VM m) {plan:List Int} {done:List Bool} (h:Li m plan done) (hd:done.length=m.cls.length) {c:Nat} (hc:c<m.cls.length) (hw:done.getD c false=false):Li m (plan.set c (kK m plan c)) (done.set c true):=by
  have hl:=h.pm.len
  have nU:=h.wait c hc hw
  by_cases hx:kK m plan c = -1
  · rw[hx,Yk (by omega) nU]
    refine⟨h.pm,h.low,fun d zt jy=>?_,fun d zt jy gT=>?_⟩
    · rw[ug _ _ _ _ _ (by omega)] at jy
      by_cases e:c=d
      · rw[if_pos e] at jy;simp at jy
      · rw[if_neg e] at jy;exact h.wait d zt jy
    · rw[ug _ _ _ _ _ (by omega)] at jy
      by_cases e:c=d
      · subst e;exact agQ hx
      · rw[if_neg e] at jy;exact h.not d zt jy gT
  · refine⟨Je h.pm hc,agR hx,fun d zt jy=>?_,fun d zt jy gT k hk=>?_⟩
    · rw[ug _ _ _ _ _ (by omega)] at jy ⊢
      by_cases e:c=d
      · rw[if_pos e] at jy;simp at jy
      · rw[if_neg e] at jy ⊢;exact h.wait d zt jy
    · rw[ug _ _ _ _ _ (by omega)] at jy gT
      by_cases e:c=d
      · rw[if_pos e] at gT;exact absurd gT hx
      · rw[if_neg e] at jy gT
        have:=h.not d zt jy gT k hk
        have hu:Up (plan.set d (k:Int)) ((plan.set c (kK m plan c)).set d (k:Int)):=(Up.set (kK m plan c) nU).agS d k
        have:=ac5 hm hu
        unfold rq at *
        omega
structure BdS where
  plan:List Int
  best:List Int
  aside:List Bool
  u:Int→Int→Int
end T

