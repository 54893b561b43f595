import Derived.Test.YtafhoboejkcmiaaGreatX24
import Derived.Test.YtafhoboejkcmiaaGreatX22
set_option linter.unusedVariables false
set_option linter.unusedSimpArgs false
set_option linter.unnecessarySimpa false
set_option linter.unusedSectionVars false
set_option maxHeartbeats 64000000
set_option maxRecDepth 20000
open Go Go.Am
namespace T
structure It where
  cls:Int
  opt:Int
  near:Int
  deriving Inhabited
def ltI (a b:It):Bool:=decide (orL [cmp3 a.opt b.opt,cmp3 b.near a.near,cmp3 a.cls b.cls]<0)
theorem ltI_iff {a b:It}:ltI a b=true↔a.opt<b.opt∨(a.opt=b.opt∧(b.near<a.near∨(a.near=b.near∧a.cls<b.cls))):=by
  unfold ltI
  rw[decide_eq_true_eq]
  unfold orL orL orL orL cmp3
  repeat' split
  all_goals omega
theorem ordI:Ord ltI:=⟨fun a b h=>by
  rw[ltI_iff] at h
  cases hh:ltI b a
  · rfl
  · rw[ltI_iff] at hh;omega,fun a b c h1 h2=>by
  cases hh:ltI c a
  · rfl
  · rw[ltI_iff] at hh
    have n1:¬ ltI b a=true:=by rw[h1];simp
    have n2:¬ ltI c b=true:=by rw[h2];simp
    rw[ltI_iff] at n1 n2
    omega⟩
def pickR (many best:Nat→Int) (nb:List Int) (done:List Bool):Nat→Nat→Int × Int × Int→Int × Int × Int
  | 0,_,s=>s
  | f+1,c,s=>pickR many best nb done f (c+1) (if done.getD c false=true then s else if s.1<0∨many c<s.2.1∨(many c=s.2.1∧nb.getD c 0 > nb.getD s.1.toNat 0) then ((c:Int),many c,best c) else s)
def pickM (m:Mdl) (nb:List Int) (plan:List Int) (done:List Bool):Int × Int × Int:=pickR (cntM m plan) (plcM m plan) nb done m.cls.length 0 (-1,0,-1)
def satR (m:Mdl) (nb:List Int):Nat→List Int→List Bool→List Int
  | 0,plan,_=>plan
  | r+1,plan,done=>satR m nb r (plan.set (pickM m nb plan done).1.toNat (pickM m nb plan done).2.2) (done.set (pickM m nb plan done).1.toNat true)
def satV (m:Mdl):List Int:=satR m (nbV m) m.cls.length (noneV m) (List.replicate m.cls.length false)
def setO (m:Mdl) (plan:List Int) (x:It):It:=⟨x.cls,cntM m plan x.cls.toNat,x.near⟩
def rndP (m:Mdl) (plan:List Int) (w:List It):It × List It:=popL ltI (initL ltI ((w.map (setO m plan)).length / 2) (w.map (setO m plan)) (w.map (setO m plan)).length)
def satP (m:Mdl):Nat→List Int→List It→List Int
  | 0,plan,_=>plan
  | r+1,plan,w=>satP m r (plan.set (rndP m plan w).1.cls.toNat (plcM m plan (rndP m plan w).1.cls.toNat)) (rndP m plan w).2
def w0 (nb:List Int):List It:=(List.range nb.length).map fun c:Nat=>(⟨(c:Int),0,nb.getD c 0⟩:It)
def Pk (many best:Nat→Int) (nb:List Int) (done:List Bool) (n:Nat) (s:Int × Int × Int):Prop :=
  (s.1 = -1∧∀ c,c<n→done.getD c false=true)∨(0≤s.1∧s.1<n∧done.getD s.1.toNat false=false∧s.2.1=many s.1.toNat∧s.2.2=best s.1.toNat ∧
    ∀ c:Nat,c<n→done.getD c false=false→(c:Int)≠s.1→s.2.1<many c∨(s.2.1=many c∧(nb.getD c 0<nb.getD s.1.toNat 0∨(nb.getD s.1.toNat 0=nb.getD c 0∧s.1<c))))
theorem pickR_pk {many best:Nat→Int} {nb:List Int} {done:List Bool}:∀ (f c:Nat) (s:Int × Int × Int),Pk many best nb done c s→Pk many best nb done (c+f) (pickR many best nb done f c s)
  | 0,c,s,h=>h
  | f+1,c,s,h=>by
    rw[pickR,show c+(f+1)=c+1+f by omega]
    refine pickR_pk f (c+1) _ ?_
    cases hd:done.getD c false with
    | true =>
      rw[if_pos rfl]
      rcases h with ⟨h1,h2⟩ | ⟨h1,h2,h3,h4,h5,h6⟩
      · refine .inl ⟨h1,fun k hk=>?_⟩
        by_cases hkc:k=c
        · rw[hkc];exact hd
        · exact h2 k (by omega)
      · refine .inr ⟨h1,by omega,h3,h4,h5,fun k hk hkd hne=>?_⟩
        by_cases hkc:k=c
        · rw[hkc,hd] at hkd;simp at hkd
        · exact h6 k (by omega) hkd hne
    | false =>
      rw[if_neg (by simp)]
      split
      · rename_i hc
        refine .inr ⟨by dsimp only;omega,by dsimp only;omega,by rw[Int.toNat_natCast];exact hd,by rw[Int.toNat_natCast],by rw[Int.toNat_natCast],fun k hk hkd hne=>?_⟩
        dsimp only at hne ⊢
        rw[Int.toNat_natCast]
        rcases h with ⟨h1,h2⟩ | ⟨h1,h2,h3,h4,h5,h6⟩
        · have:=h2 k (by omega)
          rw[this] at hkd;simp at hkd
        · by_cases hks:(k:Int)=s.1
          · have:s.1.toNat=k:=by omega
            rw[this] at hc h4
            omega
          · have:=h6 k (by omega) hkd hks
            omega
      · rename_i hc
        rcases h with ⟨h1,h2⟩ | ⟨h1,h2,h3,h4,h5,h6⟩
        · exact absurd (.inl (by omega)) hc
        · refine .inr ⟨h1,by omega,h3,h4,h5,fun k hk hkd hne=>?_⟩
          by_cases hkc:k=c
          · subst hkc;omega
          · exact h6 k (by omega) hkd hne
structure WD (nb:List Int) (n:Nat) (done:List Bool) (w:List It):Prop where
  len:done.length=n
  near:∀ x∈w,0≤x.cls∧x.cls<n∧x.near=nb.getD x.cls.toNat 0
  nd:(w.map (·.cls)).Nodup
  mem:∀ c,c<n→(done.getD c false=false↔∃ x∈w,x.cls=c)
theorem rnd_pick {m:Mdl} {nb plan:List Int} {done:List Bool} {w:List It} (h:WD nb m.cls.length done w) (hw:0<w.length) :
    (rndP m plan w).1.cls=(pickM m nb plan done).1∧plcM m plan (rndP m plan w).1.cls.toNat=(pickM m nb plan done).2.2∧WD nb m.cls.length (done.set (pickM m nb plan done).1.toNat true) (rndP m plan w).2∧(rndP m plan w).2.length+1=w.length ∧
    (0≤(rndP m plan w).1.cls∧(rndP m plan w).1.cls<m.cls.length):=by
  have hp:=pickR_pk (many:=cntM m plan) (best:=plcM m plan) (nb:=nb) (done:=done) m.cls.length 0 (-1,0,-1) (.inl ⟨rfl,fun c hc=>by omega⟩)
  rw[Nat.zero_add] at hp
  change Pk _ _ _ _ _ (pickM m nb plan done) at hp
  obtain ⟨hl1,hl2⟩:=pop_least ordI (l:=w.map (setO m plan)) (by simpa using hw)
  change (∀ y∈w.map (setO m plan),ltI y (rndP m plan w).1=false) at hl1
  change ((rndP m plan w).1::(rndP m plan w).2).Perm _ at hl2
  generalize pickM m nb plan done=s at *
  generalize rndP m plan w=q at *
  obtain ⟨x,rest⟩:=q
  dsimp only at hl1 hl2 ⊢
  have hx:x∈w.map (setO m plan):=hl2.mem_iff.1 List.mem_cons_self
  obtain ⟨x0,hx0,rfl⟩:=List.mem_map.1 hx
  have hxn:=h.near x0 hx0
  have hxd:=(h.mem x0.cls.toNat (by omega)).2 ⟨x0,hx0,by omega⟩
  rcases hp with ⟨h1,h2⟩ | ⟨h1,h2,h3,h4,h5,h6⟩
  · rw[h2 _ (by omega)] at hxd;simp at hxd
  · have hcls:x0.cls=s.1:=by
      obtain ⟨y,hy,hyc⟩:=(h.mem s.1.toNat (by omega)).1 h3
      have hyn:=h.near y hy
      have hlt:=hl1 (setO m plan y) (List.mem_map.2 ⟨y,hy,rfl⟩)
      by_cases he:x0.cls=s.1
      · exact he
      · have h7:=h6 x0.cls.toNat (by omega) hxd (by omega)
        have:ltI (setO m plan y) (setO m plan x0)=true:=by
          rw[ltI_iff]
          show cntM m plan y.cls.toNat<cntM m plan x0.cls.toNat∨(cntM m plan y.cls.toNat=cntM m plan x0.cls.toNat∧(x0.near<y.near∨(y.near=x0.near∧y.cls<x0.cls)))
          have e1:y.cls.toNat=s.1.toNat:=by omega
          rw[hyn.2.2,hxn.2.2,e1]
          omega
        rw[this] at hlt;simp at hlt
    have hperm:(x0.cls::rest.map (·.cls)).Perm (w.map (·.cls)):=by
      have:=hl2.map (·.cls)
      rw[List.map_cons,List.map_map] at this
      exact this
    have hnd:=hperm.nodup_iff.2 h.nd
    rw[List.nodup_cons] at hnd
    refine⟨hcls,by show plcM m plan x0.cls.toNat=_;rw[hcls,h5],⟨by rw[List.length_set];exact h.len,fun y hy=>?_,hnd.2,fun c hc=>?_⟩,?_,hxn.1,hxn.2.1⟩
    · have:y∈w.map (setO m plan):=hl2.mem_iff.1 (List.mem_cons_of_mem _ hy)
      obtain ⟨y0,hy0,rfl⟩:=List.mem_map.1 this
      exact h.near y0 hy0
    · have hlen:=h.len
      rw[getD_set' _ _ _ _ _ (by omega)]
      by_cases hcs:s.1.toNat=c
      · rw[if_pos hcs]
        refine⟨fun e=>by simp at e,fun ⟨y,hy,hyc⟩=>?_⟩
        refine absurd (List.mem_map.2 ⟨y,hy,?_⟩) hnd.1
        rw[hyc,hcls];omega
      · rw[if_neg hcs,h.mem c hc]
        constructor
        · rintro ⟨y,hy,hyc⟩
          have:y.cls∈x0.cls::rest.map (·.cls):=hperm.mem_iff.2 (List.mem_map.2 ⟨y,hy,rfl⟩)
          rcases List.mem_cons.1 this with h8 | h8
          · omega
          · obtain ⟨z,hz,hzc⟩:=List.mem_map.1 h8
            exact⟨z,hz,by rw[hzc];exact hyc⟩
        · rintro ⟨y,hy,hyc⟩
          have:y.cls∈w.map (·.cls):=hperm.mem_iff.1 (List.mem_cons_of_mem _ (List.mem_map.2 ⟨y,hy,rfl⟩))
          obtain ⟨z,hz,hzc⟩:=List.mem_map.1 this
          exact⟨z,hz,by rw[hzc];exact hyc⟩
    · have:=hl2.length_eq
      simpa using this
theorem sat_eq {m:Mdl} {nb:List Int}:∀ (r:Nat) (plan:List Int) (done:List Bool) (w:List It),WD nb m.cls.length done w→w.length=r→satP m r plan w=satR m nb r plan done
  | 0,_,_,_,_,_=>rfl
  | r+1,plan,done,w,h,hw=>by
    obtain ⟨h1,h2,h3,h4,h5⟩:=rnd_pick (plan:=plan) h (by omega)
    rw[satP,satR,h2,h1]
    exact sat_eq r _ _ _ h3 (by omega)
theorem wd0 {n:Nat} {nb:List Int} (hn:nb.length=n):WD nb n (List.replicate n false) (w0 nb):=by
  refine⟨by simp,fun x hx=>?_,?_,fun c hc=>?_⟩
  · obtain ⟨c,hc,rfl⟩:=List.mem_map.1 hx
    rw[List.mem_range] at hc
    exact⟨by dsimp only;omega,by dsimp only;omega,by dsimp only;rw[Int.toNat_natCast]⟩
  · unfold w0
    rw[List.map_map,List.nodup_iff_pairwise_ne,List.pairwise_map]
    exact (List.nodup_iff_pairwise_ne.1 List.nodup_range).imp fun hxy e=>hxy (by have e':=e;simp only[Function.comp] at e';omega)
  · rw[List.getD_eq_getElem?_getD,List.getElem?_replicate,if_pos hc,Option.getD_some]
    exact⟨fun _=>⟨⟨c,0,nb.getD c 0⟩,List.mem_map.2 ⟨c,List.mem_range.2 (by omega),rfl⟩,rfl⟩,fun _=>rfl⟩
theorem nbV_len (m:Mdl):(nbV m).length=m.cls.length:=by unfold nbV;simp
theorem w0_len (nb:List Int):(w0 nb).length=nb.length:=by unfold w0;simp
theorem sat_law (m:Mdl):satP m m.cls.length (noneV m) (w0 (nbV m))=satV m:=by
  unfold satV
  exact sat_eq _ _ _ _ (wd0 (nbV_len m)) (by rw[w0_len,nbV_len])
theorem satR_pm {m:Mdl} {nb:List Int}:∀ (r:Nat) (plan:List Int) (done:List Bool) (w:List It),WD nb m.cls.length done w→w.length=r→PM m plan→PM m (satR m nb r plan done)
  | 0,_,_,_,_,_,h=>h
  | r+1,plan,done,w,h,hw,hp=>by
    obtain ⟨h1,h2,h3,h4,h5⟩:=rnd_pick (plan:=plan) h (by omega)
    rw[satR]
    refine satR_pm r _ _ _ h3 (by omega) ?_
    rw[← h2,← h1]
    exact plcM_pm hp (by omega)
theorem satV_pm (m:Mdl):PM m (satV m):=satR_pm _ _ _ _ (wd0 (nbV_len m)) (by rw[w0_len,nbV_len]) (noneV_pm m)
def freeB (o:Opt):Bool:=!o.ch.any fun c=>decide (c.2=1099511627776)
def ejPrs (m:Mdl) (cl:Int):List Pr→List Int→List Int
  | [],nx=>nx
  | p::r,nx=>ejPrs m cl r (if (p.fst≠cl∧p.snd≠cl)∨nx.getD (p.fst+p.snd - cl).toNat 0<0 then nx else if entryV m p (nx.getD p.fst.toNat 0) (nx.getD p.snd.toNat 0)=1099511627776 then nx.set (p.fst+p.snd - cl).toNat (-1) else nx)
def exPr (m:Mdl) (a x b y:Int):Bool:=m.prs.any fun p=>decide (p.fst=a∧p.snd=b∧entryV m p x y=1099511627776)
def exclB (m:Mdl) (a x b y:Int):Bool:=if b<a then exPr m b y a x else exPr m a x b y
def ejRef (m:Mdl) (cl o:Int):Nat→Nat→List Int→List Int
  | 0,_,nx=>nx
  | f+1,c,nx=>ejRef m cl o f (c+1) (if (c:Int)≠cl∧0≤nx.getD c 0∧exclB m cl o c (nx.getD c 0)=true then nx.set c (-1) else nx)
def agn (m:Mdl) (l:List Pr) (cl o:Int) (nx:List Int) (c:Nat):Prop :=
  (c:Int)≠cl∧0≤nx.getD c 0∧∃ p∈l,(p.fst=cl∧p.snd=c∧entryV m p o (nx.getD c 0)=1099511627776)∨(p.fst=c∧p.snd=cl∧entryV m p (nx.getD c 0) o=1099511627776)
theorem ejPrs_get {m:Mdl} {cl o:Int} (hcl:0≤cl∧cl<m.cls.length):∀ (l:List Pr) (nx:List Int),(∀ p∈l,pairB m p=true)→nx.length=m.cls.length→nx.getD cl.toNat 0=o →
    (ejPrs m cl l nx).length=m.cls.length∧∀ c,c<m.cls.length→((agn m l cl o nx c→(ejPrs m cl l nx).getD c 0 = -1)∧(¬ agn m l cl o nx c→(ejPrs m cl l nx).getD c 0=nx.getD c 0))
  | [],nx,_,hl,_=>⟨hl,fun c hc=>⟨fun ⟨_,_,p,hp,_⟩=>(by cases hp),fun _=>rfl⟩⟩
  | p::r,nx,hp,hl,ho=>by
    rw[ejPrs]
    obtain ⟨q1,q2,q3,q4,q5⟩:=pairB_iff (hp p (by simp))
    have hpr:∀ x∈r,pairB m x=true:=fun x hx=>hp x (by simp[hx])
    by_cases h1:(p.fst≠cl∧p.snd≠cl)∨nx.getD (p.fst+p.snd - cl).toNat 0<0
    · rw[if_pos h1]
      obtain ⟨i1,i2⟩:=ejPrs_get hcl r nx hpr hl ho
      refine⟨i1,fun c hc=>?_⟩
      have e:agn m (p::r) cl o nx c↔agn m r cl o nx c:=by
        unfold agn
        constructor
        · rintro ⟨a,b,x,hx,h⟩
          refine⟨a,b,?_⟩
          rcases List.mem_cons.1 hx with rfl | hx
          · exfalso
            rcases h with ⟨h2,h3,h4⟩ | ⟨h2,h3,h4⟩
            · rw[show (x.fst+x.snd - cl).toNat=c by omega] at h1;omega
            · rw[show (x.fst+x.snd - cl).toNat=c by omega] at h1;omega
          · exact⟨x,hx,h⟩
        · rintro ⟨a,b,x,hx,h⟩;exact⟨a,b,x,by simp[hx],h⟩
      rw[e];exact i2 c hc
    · rw[if_neg h1]
      obtain ⟨c2,hc2⟩ :∃c2,(p.fst+p.snd - cl).toNat=c2:=⟨_,rfl⟩
      rw[hc2] at h1 ⊢
      have hside:(p.fst=cl∧p.snd=c2)∨(p.fst=c2∧p.snd=cl):=by omega
      have hc2l:c2<nx.length:=by omega
      have hne:cl.toNat≠c2:=by omega
      have hent:entryV m p (nx.getD p.fst.toNat 0) (nx.getD p.snd.toNat 0)=1099511627776↔((p.fst=cl∧p.snd=c2∧entryV m p o (nx.getD c2 0)=1099511627776)∨(p.fst=c2∧p.snd=cl∧entryV m p (nx.getD c2 0) o=1099511627776)):=by
        rcases hside with ⟨h2,h3⟩ | ⟨h2,h3⟩
        · have e1:p.snd.toNat=c2:=by omega
          rw[h2,ho,e1]
          constructor
          · exact fun h=>.inl ⟨rfl,h3,h⟩
          · rintro (⟨_,_,h⟩ | ⟨h,_,_⟩)
            · exact h
            · omega
        · have e1:p.fst.toNat=c2:=by omega
          rw[h3,ho,e1]
          constructor
          · exact fun h=>.inr ⟨h2,rfl,h⟩
          · rintro (⟨_,h,_⟩ | ⟨_,_,h⟩)
            · omega
            · exact h
      by_cases h2:entryV m p (nx.getD p.fst.toNat 0) (nx.getD p.snd.toNat 0)=1099511627776
      · rw[if_pos h2]
        obtain ⟨i1,i2⟩:=ejPrs_get (o:=o) hcl r (nx.set c2 (-1)) hpr (by rw[List.length_set];exact hl) (by rw[getD_set' _ _ _ _ _ hc2l,if_neg (Ne.symm hne)];exact ho)
        refine⟨i1,fun c hc=>?_⟩
        by_cases hcc:c=c2
        · subst hcc
          have hb:agn m (p::r) cl o nx c:=⟨by omega,by omega,p,by simp,hent.1 h2⟩
          have hn:¬ agn m r cl o (nx.set c (-1)) c:=by
            rintro ⟨_,h,_⟩
            rw[getD_set' _ _ _ _ _ hc2l,if_pos rfl] at h
            omega
          exact⟨fun _=>by rw[(i2 c hc).2 hn,getD_set' _ _ _ _ _ hc2l,if_pos rfl],fun h=>absurd hb h⟩
        · have hg:(nx.set c2 (-1)).getD c 0=nx.getD c 0:=by rw[getD_set' _ _ _ _ _ hc2l,if_neg (Ne.symm hcc)]
          have e:agn m (p::r) cl o nx c↔agn m r cl o (nx.set c2 (-1)) c:=by
            unfold agn
            rw[hg]
            constructor
            · rintro ⟨a,b,x,hx,h⟩
              refine⟨a,b,?_⟩
              rcases List.mem_cons.1 hx with rfl | hx
              · exfalso;omega
              · exact⟨x,hx,h⟩
            · rintro ⟨a,b,x,hx,h⟩;exact⟨a,b,x,by simp[hx],h⟩
          rw[e,← hg];exact i2 c hc
      · rw[if_neg h2]
        obtain ⟨i1,i2⟩:=ejPrs_get (o:=o) hcl r nx hpr hl ho
        refine⟨i1,fun c hc=>?_⟩
        have e:agn m (p::r) cl o nx c↔agn m r cl o nx c:=by
          unfold agn
          constructor
          · rintro ⟨a,b,x,hx,h⟩
            refine⟨a,b,?_⟩
            rcases List.mem_cons.1 hx with rfl | hx
            · exfalso
              have hcc:c=c2:=by omega
              subst hcc
              exact h2 (hent.2 h)
            · exact⟨x,hx,h⟩
          · rintro ⟨a,b,x,hx,h⟩;exact⟨a,b,x,by simp[hx],h⟩
        rw[e];exact i2 c hc
theorem exclB_iff {m:Mdl} {cl o y:Int} {c:Nat} (hne:(c:Int)≠cl) (hp:∀ p∈m.prs,pairB m p=true):exclB m cl o c y=true↔∃ p∈m.prs,(p.fst=cl∧p.snd=c∧entryV m p o y=1099511627776)∨(p.fst=c∧p.snd=cl∧entryV m p y o=1099511627776):=by
  unfold exclB exPr
  by_cases h:(c:Int)<cl
  · rw[if_pos h,List.any_eq_true]
    constructor
    · rintro ⟨p,hp1,h1⟩
      rw[decide_eq_true_eq] at h1
      exact⟨p,hp1,.inr h1⟩
    · rintro ⟨p,hp1,h1 | h1⟩
      · obtain ⟨q1,q2,q3,q4,q5⟩:=pairB_iff (hp p hp1)
        omega
      · exact⟨p,hp1,by rw[decide_eq_true_eq];exact h1⟩
  · rw[if_neg h,List.any_eq_true]
    constructor
    · rintro ⟨p,hp1,h1⟩
      rw[decide_eq_true_eq] at h1
      exact⟨p,hp1,.inl h1⟩
    · rintro ⟨p,hp1,h1 | h1⟩
      · exact⟨p,hp1,by rw[decide_eq_true_eq];exact h1⟩
      · obtain ⟨q1,q2,q3,q4,q5⟩:=pairB_iff (hp p hp1)
        omega
theorem ejRef_get {m:Mdl} {cl o:Int}:∀ (f k:Nat) (nx:List Int),k+f≤nx.length →
    (ejRef m cl o f k nx).length=nx.length∧∀ c,(ejRef m cl o f k nx).getD c 0=if k≤c∧c<k+f∧(c:Int)≠cl∧0≤nx.getD c 0∧exclB m cl o c (nx.getD c 0)=true then -1 else nx.getD c 0
  | 0,k,nx,_=>⟨rfl,fun c=>by rw[if_neg (by omega)];rfl⟩
  | f+1,k,nx,hk=>by
    rw[ejRef]
    by_cases h:(k:Int)≠cl∧0≤nx.getD k 0∧exclB m cl o k (nx.getD k 0)=true
    · rw[if_pos h]
      obtain ⟨i1,i2⟩:=ejRef_get (cl:=cl) (o:=o) (m:=m) f (k+1) (nx.set k (-1)) (by rw[List.length_set];omega)
      refine⟨by rw[i1,List.length_set],fun c=>?_⟩
      rw[i2 c,getD_set' _ _ _ _ _ (by omega)]
      by_cases hkc:k=c
      · subst hkc
        rw[if_neg (by omega),if_pos rfl,if_pos ⟨Nat.le_refl _,by omega,h⟩]
      · rw[if_neg (c:=k=c) hkc]
        by_cases h2:k+1≤c∧c<k+1+f∧(c:Int)≠cl∧0≤nx.getD c 0∧exclB m cl o c (nx.getD c 0)=true
        · rw[if_pos h2,if_pos ⟨by omega,by omega,h2.2.2⟩]
        · rw[if_neg h2,if_neg (fun h3=>h2 ⟨by omega,by omega,h3.2.2⟩)]
    · rw[if_neg h]
      obtain ⟨i1,i2⟩:=ejRef_get (cl:=cl) (o:=o) (m:=m) f (k+1) nx (by omega)
      refine⟨i1,fun c=>?_⟩
      rw[i2 c]
      by_cases hkc:k=c
      · subst hkc
        rw[if_neg (by omega),if_neg (fun h3=>h h3.2.2)]
      · by_cases h2:k+1≤c∧c<k+1+f∧(c:Int)≠cl∧0≤nx.getD c 0∧exclB m cl o c (nx.getD c 0)=true
        · rw[if_pos h2,if_pos ⟨by omega,by omega,h2.2.2⟩]
        · rw[if_neg h2,if_neg (fun h3=>h2 ⟨by omega,by omega,h3.2.2⟩)]
theorem ej_eq {m:Mdl} (hm:VM m) {cl o:Int} (hcl:0≤cl∧cl<m.cls.length) {nx:List Int} (hl:nx.length=m.cls.length) (ho:nx.getD cl.toNat 0=o):ejPrs m cl m.prs nx=ejRef m cl o m.cls.length 0 nx:=by
  have hp:=prsL_mem hm.pr
  obtain ⟨a1,a2⟩:=ejPrs_get hcl m.prs nx hp hl ho
  obtain ⟨b1,b2⟩:=ejRef_get (cl:=cl) (o:=o) (m:=m) m.cls.length 0 nx (by omega)
  apply List.ext_getElem
  · rw[a1,b1,hl]
  · intro c h1 h2
    have hc:c<m.cls.length:=by omega
    have e1:=a2 c hc
    have e2:=b2 c
    rw[List.getD_eq_getElem?_getD,List.getElem?_eq_getElem h2,Option.getD_some] at e2
    rw[List.getD_eq_getElem?_getD (l:=ejPrs m cl m.prs nx),List.getElem?_eq_getElem h1,Option.getD_some] at e1
    rw[e2]
    by_cases hc1:(c:Int)≠cl
    · by_cases h:0≤nx.getD c 0∧exclB m cl o c (nx.getD c 0)=true
      · rw[if_pos ⟨Nat.zero_le _,by omega,hc1,h⟩]
        exact e1.1 ⟨hc1,h.1,(exclB_iff hc1 hp).1 h.2⟩
      · rw[if_neg (fun h3=>h h3.2.2.2)]
        exact e1.2 (fun ⟨_,h3,h4⟩=>h ⟨h3,(exclB_iff hc1 hp).2 h4⟩)
    · rw[if_neg (fun h3=>hc1 h3.2.2.1)]
      exact e1.2 (fun ⟨h3,_⟩=>hc1 h3)
def heavP (nx:List Int) (cl:Int):List Ld→Int→Int→Int
  | [],b,_=>b
  | l::r,b,w=>if (l.cls≠cl∧nx.getD l.cls.toNat 0=l.opt)∧w≤l.wt then heavP nx cl r l.cls l.wt else heavP nx cl r b w
def wtA (ls:List Ld) (nx:List Int) (c:Int):Int:=wtV ls c (nx.getD c.toNat 0)
def heavR (ls:List Ld) (nx:List Int) (cl:Int):Nat→Nat→Int→Int
  | 0,_,o=>o
  | f+1,c,o=>heavR ls nx cl f (c+1) (if ((c:Int)≠cl∧0<wtA ls nx c)∧(o<0∨wtA ls nx o≤wtA ls nx c) then (c:Int) else o)
def Hv (ls:List Ld) (nx:List Int) (cl:Int) (k b:Int):Prop :=
  (b = -1∧∀ c:Int,0≤c→c<k→c≠cl→wtA ls nx c≤0)∨(0≤b∧b<k∧b≠cl∧0<wtA ls nx b∧∀ c:Int,0≤c→c<k→c≠cl→0<wtA ls nx c→wtA ls nx c<wtA ls nx b∨(wtA ls nx c=wtA ls nx b∧c≤b))
theorem hv_uniq {ls:List Ld} {nx:List Int} {cl k a b:Int} (ha:Hv ls nx cl k a) (hb:Hv ls nx cl k b):a=b:=by
  rcases ha with ⟨h1,h2⟩ | ⟨h1,h2,h3,h4,h5⟩
  · rcases hb with ⟨g1,g2⟩ | ⟨g1,g2,g3,g4,g5⟩
    · omega
    · have:=h2 b g1 g2 g3;omega
  · rcases hb with ⟨g1,g2⟩ | ⟨g1,g2,g3,g4,g5⟩
    · have:=g2 a h1 h2 h3;omega
    · have:=h5 b g1 g2 g3 g4
      have:=g5 a h1 h2 h3 h4
      omega
theorem heavR_hv {ls:List Ld} {nx:List Int} {cl:Int}:∀ (f c:Nat) (o:Int),Hv ls nx cl c o→Hv ls nx cl (c+f:Nat) (heavR ls nx cl f c o)
  | 0,c,o,h=>h
  | f+1,c,o,h=>by
    rw[heavR,show c+(f+1)=c+1+f by omega]
    refine heavR_hv f (c+1) _ ?_
    by_cases h1:((c:Int)≠cl∧0<wtA ls nx c)∧(o<0∨wtA ls nx o≤wtA ls nx c)
    · rw[if_pos h1]
      refine .inr ⟨by omega,by omega,h1.1.1,h1.1.2,fun d h0 hd hne hw=>?_⟩
      by_cases hdc:d=c
      · subst hdc;exact .inr ⟨rfl,Int.le_refl _⟩
      · rcases h with ⟨g1,g2⟩ | ⟨g1,g2,g3,g4,g5⟩
        · have:=g2 d h0 (by omega) hne;omega
        · have:=g5 d h0 (by omega) hne hw;omega
    · rw[if_neg h1]
      rcases h with ⟨g1,g2⟩ | ⟨g1,g2,g3,g4,g5⟩
      · refine .inl ⟨g1,fun d h0 hd hne=>?_⟩
        by_cases hdc:d=c
        · subst hdc;omega
        · exact g2 d h0 (by omega) hne
      · refine .inr ⟨g1,by omega,g3,g4,fun d h0 hd hne hw=>?_⟩
        by_cases hdc:d=c
        · subst hdc;omega
        · exact g5 d h0 (by omega) hne hw
theorem heavP_hv {m:Mdl} {nx:List Int} {cl:Int} (hn:nx.length=m.cls.length):∀ (l:List Ld) (ls:List Ld) (q:Option Ld) (b w:Int),ldL m q l=true →
    (∀ y,q=some y→0≤y.cls) →
    (∀ c:Int,0≤c→c<m.cls.length→c≠cl→wtV l c (nx.getD c.toNat 0) > 0→wtA ls nx c=wtV l c (nx.getD c.toNat 0)∧b<c) →
    ((b = -1∧w=0)∨(0≤b∧b<m.cls.length∧b≠cl∧0<w∧wtA ls nx b=w)) →
    (∀ c:Int,0≤c→c<m.cls.length→c≠cl→0<wtA ls nx c→wtV l c (nx.getD c.toNat 0) > 0∨(0≤b∧(wtA ls nx c<w∨(wtA ls nx c=w∧c≤b)))) →
    Hv ls nx cl m.cls.length (heavP nx cl l b w)
  | [],ls,q,b,w,_,_,h1,h2,h3=>by
    rw[heavP]
    rcases h2 with ⟨g1,g2⟩ | ⟨g1,g2,g3,g4,g5⟩
    · refine .inl ⟨g1,fun c h0 hc hne=>?_⟩
      by_cases hw:0<wtA ls nx c
      · rcases h3 c h0 hc hne hw with h | h
        · simp[wtV] at h
        · omega
      · omega
    · refine .inr ⟨g1,g2,g3,by omega,fun c h0 hc hne hw=>?_⟩
      rcases h3 c h0 hc hne hw with h | h
      · simp[wtV] at h
      · omega
  | l::r,ls,q,b,w,hl,hq,h1,h2,h3=>by
    have hr:ldL m (some l) r=true:=by
      rw[ldL.eq_def] at hl
      simp only[Bool.and_eq_true] at hl
      exact hl.2
    have hx:=ldL_mem hl l (by simp)
    have ho:=optB_iff.1 hx.1
    have hwt:=hx.2
    have hgt:=ldL_gt hr
    have hrl:∀ c o:Int,wtV r c o > 0→l.cls<c∨(l.cls=c∧l.opt<o):=fun c o hc=>by
      by_cases h :∃y∈r,y.cls=c∧y.opt=o
      · obtain ⟨y,hy,e1,e2⟩:=h
        have:=hgt y hy
        omega
      · rw[wtV_none r c o (fun y hy e=>h ⟨y,hy,e⟩)] at hc;omega
    rw[heavP]
    by_cases hm1:l.cls≠cl∧nx.getD l.cls.toNat 0=l.opt
    · have hwl:wtV (l::r) l.cls (nx.getD l.cls.toNat 0)=l.wt:=by rw[wtV,if_pos ⟨rfl,hm1.2.symm⟩]
      obtain ⟨k1,k2⟩:=h1 l.cls ho.1 ho.2.1 hm1.1 (by omega)
      rw[hwl] at k1
      have hnext:∀ c:Int,wtV r c (nx.getD c.toNat 0) > 0→l.cls<c:=fun c hc=>by
        rcases hrl c _ hc with h | ⟨h,h'⟩
        · exact h
        · rw[← h,hm1.2] at h';omega
      have hwr:∀ c:Int,c≠l.cls→wtV (l::r) c (nx.getD c.toNat 0)=wtV r c (nx.getD c.toNat 0):=fun c hc=>by rw[wtV,if_neg (fun e=>hc e.1.symm)]
      have hr1:∀ (b':Int),b'≤l.cls→∀ c:Int,0≤c→c<m.cls.length→c≠cl→wtV r c (nx.getD c.toNat 0) > 0→wtA ls nx c=wtV r c (nx.getD c.toNat 0)∧b'<c:=fun b' hb' c h0 hc hne hw=>by
        have hlt:=hnext c hw
        have:=h1 c h0 hc hne (by rw[hwr c (by omega)];exact hw)
        rw[hwr c (by omega)] at this
        exact⟨this.1,by omega⟩
      by_cases hw1:w≤l.wt
      · rw[if_pos ⟨hm1,hw1⟩]
        refine heavP_hv hn r ls (some l) l.cls l.wt hr (fun y hy=>by cases hy;exact ho.1) (hr1 _ (Int.le_refl _)) (.inr ⟨ho.1,ho.2.1,hm1.1,by omega,k1⟩) (fun c h0 hc hne hw=>?_)
        by_cases hcl:c=l.cls
        · subst hcl;exact .inr ⟨h0,.inr ⟨k1,Int.le_refl _⟩⟩
        · rcases h3 c h0 hc hne hw with h | h
          · rw[hwr c hcl] at h;exact .inl h
          · exact .inr ⟨ho.1,by omega⟩
      · rw[if_neg (fun e=>hw1 e.2)]
        have hb0:0≤b∧b<m.cls.length:=by
          rcases h2 with ⟨g1,g2⟩ | ⟨g1,g2,g3,g4,g5⟩<;>omega
        refine heavP_hv hn r ls (some l) b w hr (fun y hy=>by cases hy;exact ho.1) (hr1 _ (by omega)) h2 (fun c h0 hc hne hw=>?_)
        by_cases hcl:c=l.cls
        · subst hcl;exact .inr ⟨hb0.1,.inl (by omega)⟩
        · rcases h3 c h0 hc hne hw with h | h
          · rw[hwr c hcl] at h;exact .inl h
          · exact .inr h
    · rw[if_neg (fun e=>hm1 e.1)]
      have hwr:∀ c:Int,c≠cl→wtV (l::r) c (nx.getD c.toNat 0)=wtV r c (nx.getD c.toNat 0):=fun c hc=>by
        rw[wtV,if_neg (fun e=>hm1 ⟨by rw[e.1];exact hc,by rw[e.1];exact e.2.symm⟩)]
      refine heavP_hv hn r ls (some l) b w hr (fun y hy=>by cases hy;exact ho.1) (fun c h0 hc hne hw=>?_) h2 (fun c h0 hc hne hw=>?_)
      · have:=h1 c h0 hc hne (by rw[hwr c hne];exact hw)
        rw[hwr c hne] at this;exact this
      · rw[← hwr c hne];exact h3 c h0 hc hne hw
theorem heav_eq {m:Mdl} {nx:List Int} {cl:Int} (hn:nx.length=m.cls.length) {c:Ct} (hc:ctB m c=true):heavP nx cl c.loads (-1) 0=heavR c.loads nx cl m.cls.length 0 (-1):=by
  have hl:=(ctB_iff hc).2.2.2
  have h1:=heavP_hv (cl:=cl) hn c.loads c.loads none (-1) 0 hl (fun y hy=>by cases hy) (fun k h0 hk hne hw=>⟨rfl,by omega⟩) (.inl ⟨rfl,rfl⟩) (fun k h0 hk hne hw=>.inl hw)
  have h2:=heavR_hv (ls:=c.loads) (nx:=nx) (cl:=cl) m.cls.length 0 (-1) (.inl ⟨rfl,fun k h0 hk=>by omega⟩)
  rw[Nat.zero_add] at h2
  exact hv_uniq h1 h2
def nnL (l:List Int):Nat:=l.countP fun x=>decide (0≤x)
def ejOne (n:Nat) (c:Ct) (cl:Int):Nat→List Int→Option (List Int)
  | 0,nx=>some nx
  | f+1,nx=>if hardB c=true∧0<excN nx c then (if heavR c.loads nx cl n 0 (-1)<0 then none else ejOne n c cl f (nx.set (heavR c.loads nx cl n 0 (-1)).toNat (-1))) else some nx
def ejCts (n:Nat) (cl:Int):List Ct→List Int→Option (List Int)
  | [],nx=>some nx
  | c::r,nx=>(ejOne n c cl (nnL nx+1) nx).bind (ejCts n cl r)
def goneL:Nat→List Int→List Int→List Int
  | _,[],_=>[]
  | i,o::r,nx=>if 0≤o∧nx.getD i 0<0 then (i:Int)::goneL (i+1) r nx else goneL (i+1) r nx
def ejV (m:Mdl) (plan:List Int) (cl o:Int):Option (List Int × List Int) :=
  if freeB ((m.cls.getD cl.toNat default).getD o.toNat default)=true then (ejCts m.cls.length cl m.cts (ejRef m cl o m.cls.length 0 (plan.set cl.toNat o))).map fun nx=>(nx,goneL 0 plan nx) else none
def ejT (m:Mdl) (plan:List Int) (cl o:Int):List Int × List Int × Int :=
  if validV m≠0 then ([],[],validV m) else if plannedV m plan=false then ([],[],17) else if optB m cl o=false then ([],[],3) else
    match ejV m plan cl o with
    | none=>([],[],60)
    | some r=>(r.1,r.2,0)
theorem nnL_set:∀ (l:List Int) (i:Nat),i<l.length→0≤l.getD i 0→nnL (l.set i (-1))+1=nnL l
  | [],i,h,_=>by simp at h
  | x::r,0,_,h=>by
    rw[List.getD_cons_zero] at h
    unfold nnL
    rw[List.set_cons_zero,List.countP_cons_of_neg (by decide),List.countP_cons_of_pos (by rw[decide_eq_true_eq];exact h)]
  | x::r,i+1,h,h2=>by
    have:=nnL_set r i (by simpa using h) (by simpa using h2)
    unfold nnL at this ⊢
    rw[List.set_cons_succ,List.countP_cons,List.countP_cons]
    omega
theorem wtA_nn {m:Mdl} {c:Ct} (hc:ctB m c=true) {nx:List Int} {g:Int} (h:0<wtA c.loads nx g):0≤g∧g<m.cls.length∧optB m g (nx.getD g.toNat 0)=true:=by
  unfold wtA at h
  by_cases h1 :∃y∈c.loads,y.cls=g∧y.opt=nx.getD g.toNat 0
  · obtain ⟨y,hy,e1,e2⟩:=h1
    have:=(ldL_mem (ctB_iff hc).2.2.2 y hy).1
    rw[e1,e2] at this
    have h2:=optB_iff.1 this
    exact⟨h2.1,h2.2.1,this⟩
  · rw[wtV_none _ _ _ (fun y hy e=>h1 ⟨y,hy,e⟩)] at h;omega
theorem heav_nn {m:Mdl} {c:Ct} (hc:ctB m c=true) {nx:List Int} {cl:Int} (h:¬ heavR c.loads nx cl m.cls.length 0 (-1)<0) :
    0≤heavR c.loads nx cl m.cls.length 0 (-1)∧heavR c.loads nx cl m.cls.length 0 (-1)<m.cls.length∧heavR c.loads nx cl m.cls.length 0 (-1)≠cl∧0≤nx.getD (heavR c.loads nx cl m.cls.length 0 (-1)).toNat 0:=by
  have h2:=heavR_hv (ls:=c.loads) (nx:=nx) (cl:=cl) m.cls.length 0 (-1) (.inl ⟨rfl,fun k h0 hk=>by omega⟩)
  rw[Nat.zero_add] at h2
  generalize heavR c.loads nx cl m.cls.length 0 (-1)=g at *
  rcases h2 with ⟨g1,g2⟩ | ⟨g1,g2,g3,g4,g5⟩
  · omega
  · have:=(optB_iff.1 (wtA_nn hc g4).2.2).2.2.1
    exact⟨g1,g2,g3,this⟩
theorem ejOne_step {m:Mdl} {c:Ct} (hc:ctB m c=true) {cl:Int} {nx:List Int} (hl:nx.length=m.cls.length):ejOne m.cls.length c cl (nnL nx+1) nx =
    if hardB c=true∧0<excN nx c then (if heavR c.loads nx cl m.cls.length 0 (-1)<0 then none else
      ejOne m.cls.length c cl (nnL (nx.set (heavR c.loads nx cl m.cls.length 0 (-1)).toNat (-1))+1) (nx.set (heavR c.loads nx cl m.cls.length 0 (-1)).toNat (-1))) else some nx:=by
  rw[ejOne]
  by_cases h1:hardB c=true∧0<excN nx c
  · rw[if_pos h1,if_pos h1]
    by_cases h2:heavR c.loads nx cl m.cls.length 0 (-1)<0
    · rw[if_pos h2,if_pos h2]
    · rw[if_neg h2,if_neg h2]
      have hg:=heav_nn hc h2
      have hs:=nnL_set nx (heavR c.loads nx cl m.cls.length 0 (-1)).toNat (by omega) hg.2.2.2
      rw[hs]
  · rw[if_neg h1,if_neg h1]
theorem ejOne_len {n:Nat} {c:Ct} {cl:Int}:∀ (f:Nat) (nx r:List Int),ejOne n c cl f nx=some r→r.length=nx.length
  | 0,nx,r,h=>by cases h;rfl
  | f+1,nx,r,h=>by
    rw[ejOne] at h
    split at h
    · split at h
      · cases h
      · have:=ejOne_len f _ _ h;rw[this,List.length_set]
    · cases h;rfl
def bump (out:List Int) (i:Int):List Int:=out.set i.toNat (out.getD i.toNat 0+1)
def brOwn (m:Mdl):Nat→List Int→List Int→List Int
  | _,[],out=>out
  | i,o::r,out=>brOwn m (i+1) r (if 0≤o∧freeB ((m.cls.getD i default).getD o.toNat default)=false then bump out i else out)
def brPrs (m:Mdl) (plan:List Int):List Pr→List Int→List Int
  | [],out=>out
  | p::r,out=>brPrs m plan r (if (0≤plan.getD p.fst.toNat 0∧0≤plan.getD p.snd.toNat 0)∧entryV m p (plan.getD p.fst.toNat 0) (plan.getD p.snd.toNat 0)=1099511627776 then bump (bump out p.fst) p.snd else out)
def brLd (plan:List Int):List Ld→List Int→List Int
  | [],out=>out
  | l::r,out=>brLd plan r (if plan.getD l.cls.toNat 0=l.opt then bump out l.cls else out)
def brWt (ls:List Ld) (plan:List Int):Nat→Nat→List Int→List Int
  | 0,_,out=>out
  | f+1,c,out=>brWt ls plan f (c+1) (if 0<wtA ls plan c then bump out c else out)
def brCts (plan:List Int):List Ct→List Int→List Int
  | [],out=>out
  | c::r,out=>brCts plan r (if hardB c=false∨excN plan c=0 then out else brLd plan c.loads out)
def brCtR (plan:List Int):List Ct→List Int→List Int
  | [],out=>out
  | c::r,out=>brCtR plan r (if hardB c=false∨excN plan c=0 then out else brWt c.loads plan plan.length 0 out)
def breaksV (m:Mdl) (plan:List Int):List Int:=brCts plan m.cts (brPrs m plan m.prs (brOwn m 0 plan (List.replicate plan.length 0)))
def breaksT (m:Mdl) (plan:List Int):List Int × Int:=if validV m≠0 then ([],validV m) else if plannedV m plan=false then ([],17) else (breaksV m plan,0)
theorem bump_len (out:List Int) (i:Int):(bump out i).length=out.length:=by unfold bump;simp
theorem bump_get {out:List Int} {i:Int} (hi:0≤i∧i<out.length) (k:Nat):(bump out i).getD k 0=out.getD k 0+if i=k then 1 else 0:=by
  unfold bump
  rw[getD_set' _ _ _ _ _ (by omega)]
  by_cases h:i.toNat=k
  · rw[if_pos h,if_pos (by omega),h]
  · rw[if_neg h,if_neg (by omega),Int.add_zero]
theorem brLd_get {m:Mdl} {plan:List Int}:∀ (l:List Ld) (q:Option Ld) (out:List Int),ldL m q l=true→out.length=m.cls.length →
    (brLd plan l out).length=m.cls.length∧∀ k,k<m.cls.length→(brLd plan l out).getD k 0=out.getD k 0+if 0<wtV l (k:Nat) (plan.getD k 0) then 1 else 0
  | [],q,out,_,hl=>⟨hl,fun k hk=>by rw[wtV,if_neg (by omega),Int.add_zero];rfl⟩
  | l::r,q,out,h,hl=>by
    have hr:ldL m (some l) r=true:=by
      rw[ldL.eq_def] at h
      simp only[Bool.and_eq_true] at h
      exact h.2
    have hx:=ldL_mem h l (by simp)
    have ho:=optB_iff.1 hx.1
    have hgt:=ldL_gt hr
    rw[brLd]
    by_cases h1:plan.getD l.cls.toNat 0=l.opt
    · rw[if_pos h1]
      obtain ⟨i1,i2⟩:=brLd_get r (some l) (bump out l.cls) hr (by rw[bump_len];exact hl)
      refine⟨i1,fun k hk=>?_⟩
      rw[i2 k hk,bump_get (by omega)]
      by_cases hk2:l.cls=k
      · have e:plan.getD k 0=l.opt:=by rw[← h1,hk2,Int.toNat_natCast]
        have e2:wtV (l::r) (k:Nat) (plan.getD k 0)=l.wt:=by rw[wtV,if_pos ⟨hk2,e.symm⟩]
        have e3:=wtV_none r (k:Nat) (plan.getD k 0) (fun y hy he=>by have:=hgt y hy;omega)
        rw[if_pos hk2,e2,e3,if_neg (by omega),if_pos (by omega)];omega
      · have e2:wtV (l::r) (k:Nat) (plan.getD k 0)=wtV r (k:Nat) (plan.getD k 0):=by rw[wtV,if_neg (fun e=>hk2 e.1)]
        rw[if_neg hk2,e2];omega
    · rw[if_neg h1]
      obtain ⟨i1,i2⟩:=brLd_get r (some l) out hr hl
      refine⟨i1,fun k hk=>?_⟩
      have e2:wtV (l::r) (k:Nat) (plan.getD k 0)=wtV r (k:Nat) (plan.getD k 0):=by rw[wtV,if_neg (fun e=>h1 (by rw[e.1,Int.toNat_natCast];exact e.2.symm))]
      rw[i2 k hk,e2]
theorem brWt_get {ls:List Ld} {plan:List Int}:∀ (f c:Nat) (out:List Int),c+f≤out.length →
    (brWt ls plan f c out).length=out.length∧∀ k,(brWt ls plan f c out).getD k 0=out.getD k 0+if c≤k∧k<c+f∧0<wtA ls plan k then 1 else 0
  | 0,c,out,_=>⟨rfl,fun k=>by rw[if_neg (by omega),Int.add_zero];rfl⟩
  | f+1,c,out,h=>by
    rw[brWt]
    by_cases h1:0<wtA ls plan c
    · rw[if_pos h1]
      obtain ⟨i1,i2⟩:=brWt_get (ls:=ls) (plan:=plan) f (c+1) (bump out c) (by rw[bump_len];omega)
      refine⟨by rw[i1,bump_len],fun k=>?_⟩
      rw[i2 k,bump_get (by omega)]
      by_cases hk:c=k
      · subst hk
        rw[if_pos rfl,if_neg (by omega),if_pos ⟨Nat.le_refl _,by omega,h1⟩];omega
      · rw[if_neg (by omega)]
        by_cases h2:c+1≤k∧k<c+1+f∧0<wtA ls plan k
        · rw[if_pos h2,if_pos ⟨by omega,by omega,h2.2.2⟩];omega
        · rw[if_neg h2,if_neg (fun h3=>h2 ⟨by omega,by omega,h3.2.2⟩)];omega
    · rw[if_neg h1]
      obtain ⟨i1,i2⟩:=brWt_get (ls:=ls) (plan:=plan) f (c+1) out (by omega)
      refine⟨i1,fun k=>?_⟩
      rw[i2 k]
      by_cases hk:c=k
      · subst hk
        rw[if_neg (by omega),if_neg (fun h3=>h1 h3.2.2)]
      · by_cases h2:c+1≤k∧k<c+1+f∧0<wtA ls plan k
        · rw[if_pos h2,if_pos ⟨by omega,by omega,h2.2.2⟩]
        · rw[if_neg h2,if_neg (fun h3=>h2 ⟨by omega,by omega,h3.2.2⟩)]
theorem br_one {m:Mdl} {plan out:List Int} {c:Ct} (hc:ctB m c=true) (hp:plan.length=m.cls.length) (ho:out.length=m.cls.length):brLd plan c.loads out=brWt c.loads plan plan.length 0 out:=by
  obtain ⟨a1,a2⟩:=brLd_get (plan:=plan) c.loads none out (ctB_iff hc).2.2.2 ho
  obtain ⟨b1,b2⟩:=brWt_get (ls:=c.loads) (plan:=plan) plan.length 0 out (by omega)
  apply List.ext_getElem
  · omega
  · intro k h1 h2
    have e1:=a2 k (by omega)
    have e2:=b2 k
    rw[List.getD_eq_getElem?_getD,List.getElem?_eq_getElem h1,Option.getD_some] at e1
    rw[List.getD_eq_getElem?_getD,List.getElem?_eq_getElem h2,Option.getD_some] at e2
    rw[e1,e2]
    unfold wtA
    rw[Int.toNat_natCast]
    by_cases h3:0<wtV c.loads k (plan.getD k 0)
    · rw[if_pos h3,if_pos ⟨Nat.zero_le _,by omega,h3⟩]
    · rw[if_neg h3,if_neg (fun e=>h3 e.2.2)]
theorem brLd_len (plan:List Int):∀ (l:List Ld) (out:List Int),(brLd plan l out).length=out.length
  | [],_=>rfl
  | l::r,out=>by rw[brLd,brLd_len plan r];split<;>simp[bump_len]
theorem brCts_eq {m:Mdl} {plan:List Int} (hp:plan.length=m.cls.length):∀ (l:List Ct) (out:List Int),(∀ c∈l,ctB m c=true)→out.length=m.cls.length→brCts plan l out=brCtR plan l out
  | [],_,_,_=>rfl
  | c::r,out,h,ho=>by
    rw[brCts,brCtR]
    by_cases h1:hardB c=false∨excN plan c=0
    · rw[if_pos h1,if_pos h1];exact brCts_eq hp r _ (fun x hx=>h x (by simp[hx])) ho
    · rw[if_neg h1,if_neg h1,← br_one (h c (by simp)) hp ho]
      exact brCts_eq hp r _ (fun x hx=>h x (by simp[hx])) (by rw[brLd_len];exact ho)
theorem plcV_spec (f:Nat→Int):∀ (n k:Nat) (l b:Int),(plcV f n k l b=b∧∀ j,k≤j→j<k+n→l≤f j)∨∃ j,k≤j∧j<k+n∧plcV f n k l b=j∧f j<l
  | 0,k,l,b=>.inl ⟨rfl,fun j h1 h2=>by omega⟩
  | n+1,k,l,b=>by
    rw[plcV]
    by_cases h:f k<l
    · rw[if_pos h]
      rcases plcV_spec f n (k+1) (f k) k with ⟨h1,h2⟩ | ⟨j,h1,h2,h3,h4⟩
      · exact .inr ⟨k,Nat.le_refl _,by omega,h1,h⟩
      · exact .inr ⟨j,by omega,by omega,h3,by omega⟩
    · rw[if_neg h]
      rcases plcV_spec f n (k+1) l b with ⟨h1,h2⟩ | ⟨j,h1,h2,h3,h4⟩
      · refine .inl ⟨h1,fun j h3 h4=>?_⟩
        by_cases hj:j=k
        · subst hj;omega
        · exact h2 j (by omega) (by omega)
      · exact .inr ⟨j,by omega,by omega,h3,h4⟩
theorem plcM_none {m:Mdl} {plan:List Int} {c:Nat} (h:plcM m plan c = -1):∀ k:Nat,k<(m.cls.getD c default).length→1099511627776≤costP m (plan.set c (k:Int)):=fun k hk=>by
  rcases plcV_spec (chgF m plan c) (m.cls.getD c default).length 0 1099511627776 (-1) with ⟨h1,h2⟩ | ⟨j,h1,h2,h3,h4⟩
  · exact h2 k (Nat.zero_le _) (by omega)
  · change plcM m plan c=_ at h3;omega
theorem plcM_some {m:Mdl} {plan:List Int} {c:Nat} (h:plcM m plan c≠-1):costP m (plan.set c (plcM m plan c))<1099511627776:=by
  rcases plcV_spec (chgF m plan c) (m.cls.getD c default).length 0 1099511627776 (-1) with ⟨h1,h2⟩ | ⟨j,h1,h2,h3,h4⟩
  · exact absurd h1 h
  · change plcM m plan c=_ at h3
    rw[h3];exact h4
structure SatI (m:Mdl) (plan:List Int) (done:List Bool):Prop where
  pm:PM m plan
  low:costP m plan<1099511627776
  wait:∀ c,c<m.cls.length→done.getD c false=false→plan.getD c 0 = -1
  not:∀ c,c<m.cls.length→done.getD c false=true→plan.getD c 0 = -1→∀ k:Nat,k<(m.cls.getD c default).length→1099511627776≤costP m (plan.set c (k:Int))
theorem Up.set2 {p q:List Int} (h:Up p q) (c:Nat) (o:Int):Up (p.set c o) (q.set c o):=by
  refine⟨by rw[List.length_set,List.length_set];exact h.1,fun j=>?_⟩
  rw[getD_setI,getD_setI,h.1]
  split
  · exact .inl rfl
  · exact h.2 j
theorem set_selfW {plan:List Int} {c:Nat} {x:Int} (hc:c<plan.length) (h:plan.getD c 0=x):plan.set c x=plan:=by
  rw[List.getD_eq_getElem?_getD,List.getElem?_eq_getElem hc,Option.getD_some] at h
  rw[← h];exact List.set_getElem_self hc
theorem SatI.step {m:Mdl} (hm:VM m) {plan:List Int} {done:List Bool} (h:SatI m plan done) (hd:done.length=m.cls.length) {c:Nat} (hc:c<m.cls.length) (hw:done.getD c false=false):SatI m (plan.set c (plcM m plan c)) (done.set c true):=by
  have hl:=h.pm.len
  have hpc:=h.wait c hc hw
  by_cases hx:plcM m plan c = -1
  · rw[hx,set_selfW (by omega) hpc]
    refine⟨h.pm,h.low,fun d hd1 hd2=>?_,fun d hd1 hd2 hd3=>?_⟩
    · rw[getD_set' _ _ _ _ _ (by omega)] at hd2
      by_cases e:c=d
      · rw[if_pos e] at hd2;simp at hd2
      · rw[if_neg e] at hd2;exact h.wait d hd1 hd2
    · rw[getD_set' _ _ _ _ _ (by omega)] at hd2
      by_cases e:c=d
      · subst e;exact plcM_none hx
      · rw[if_neg e] at hd2;exact h.not d hd1 hd2 hd3
  · refine⟨plcM_pm h.pm hc,plcM_some hx,fun d hd1 hd2=>?_,fun d hd1 hd2 hd3 k hk=>?_⟩
    · rw[getD_set' _ _ _ _ _ (by omega)] at hd2 ⊢
      by_cases e:c=d
      · rw[if_pos e] at hd2;simp at hd2
      · rw[if_neg e] at hd2 ⊢;exact h.wait d hd1 hd2
    · rw[getD_set' _ _ _ _ _ (by omega)] at hd2 hd3
      by_cases e:c=d
      · rw[if_pos e] at hd3;exact absurd hd3 hx
      · rw[if_neg e] at hd2 hd3
        have:=h.not d hd1 hd2 hd3 k hk
        have hu:Up (plan.set d (k:Int)) ((plan.set c (plcM m plan c)).set d (k:Int)):=(Up.set (plcM m plan c) hpc).set2 d k
        have:=totalL_le hm hu
        unfold costP at *
        omega
def missV (plan:List Int):Int:=plan.countP fun x=>decide (x<0)
def nextC:List Int→List Bool→Nat→Int
  | [],_,_=>-1
  | o::r,aside,i=>if o<0∧aside.getD i false=false then (i:Int) else nextC r aside (i+1)
def bldPick (m:Mdl) (plan:List Int) (u:Int→Int→Int) (cl:Int):Nat→Nat→Int × Int × Int→Int × Int × Int
  | 0,_,s=>s
  | f+1,o,s=>bldPick m plan u cl f (o+1) (match ejV m plan cl o with
    | none=>s
    | some r=>if s.1<0∨(r.2.length:Int)+u cl o<s.2.1∨((r.2.length:Int)+u cl o=s.2.1∧costP m r.1<s.2.2) then ((o:Int),(r.2.length:Int)+u cl o,costP m r.1) else s)
def bldOut (m:Mdl):List Int→List Int→List Int
  | [],nx=>nx
  | g::r,nx=>bldOut m r (nx.set g.toNat (plcM m nx g.toNat))
def incU (u:Int→Int→Int) (c o:Int):Int→Int→Int:=fun a b=>if a=c∧b=o then u a b+1 else u a b
structure BS where
  plan:List Int
  best:List Int
  aside:List Bool
  u:Int→Int→Int
def bldStep (m:Mdl) (s:BS):BS :=
  if (bldPick m s.plan s.u (nextC s.plan s.aside 0) (m.cls.getD (nextC s.plan s.aside 0).toNat default).length 0 (-1,0,0)).1<0 then { s with aside:=s.aside.set (nextC s.plan s.aside 0).toNat true } else
    let o:=(bldPick m s.plan s.u (nextC s.plan s.aside 0) (m.cls.getD (nextC s.plan s.aside 0).toNat default).length 0 (-1,0,0)).1
    let r:=(ejV m s.plan (nextC s.plan s.aside 0) o).getD ([],[])
    let p:=bldOut m r.2 r.1
    ⟨p,if missV p<missV s.best then p else s.best,s.aside,incU s.u (nextC s.plan s.aside 0) o⟩
def bldR (m:Mdl):Nat→BS→List Int
  | 0,s=>s.best
  | n+1,s=>if nextC s.plan s.aside 0<0 then s.best else bldR m n (bldStep m s)
def bld0 (m:Mdl):BS:=⟨satV m,satV m,List.replicate m.cls.length false,fun _ _=>0⟩
def buildV (m:Mdl) (n:Nat):List Int:=bldR m n (bld0 m)
def buildT (m:Mdl) (n:Int):List Int × Int:=if validV m≠0 then ([],validV m) else if n<0∨65536<n then ([],3) else (buildV m n.toNat,0)
end T

