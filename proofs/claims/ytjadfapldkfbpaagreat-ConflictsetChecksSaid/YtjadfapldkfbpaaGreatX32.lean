import Derived.Test.YtjadfapldkfbpaaGreatX31
set_option linter.all false
set_option maxHeartbeats 0
set_option maxRecDepth 20000
open List renaming getD_eq_getElem?_getD→aG,length_append→bQ,replicate_succ→He,length_map→eO,getElem?_eq_getElem→bT
open Go Go.Am
namespace T
structure Dn(m:ah)(left:List (List Bool))(p:List Int):Prop where
 fit:fD m left
 bp:BP m p
 one:∀ j,j<p.length->left.getD j default=nS (m.cls.getD j default).length (p.getD j 0).toNat
 all:∀ j,p.length<=j->j<m.cls.length->left.getD j default=List.replicate (m.cls.getD j default).length true
variable {m:ah} {left:List (List Bool)} {p:List Int}
def Dn.root(hm:VM m):Dn m (fM m) []:=by
 refine⟨C7 hm,⟨Nat.zero_le _,λj hj=>(by cases hj)⟩,λj hj=>(by cases hj),λj _ hj=>?_⟩;unfold fM mK;rw[if_pos (iu.2 hm),kU _ _ _ hj]
def Nv{left:List (List Bool)}{c j:Nat}(x:List Bool)(h:c≠j):(left.set c x).getD j default=left.getD j default:=by
 rw[aG,List.getElem?_set_ne h,<- aG]
def Dn.next(h:Dn m left p)(hc:p.length<m.cls.length){k:Nat}(hk:k<(m.cls.getD p.length default).length):Dn m (cf left p.length k) (p++[(k:Int)]):=by
 refine⟨FN h.fit (Jf _ _ _),h.bp.snoc hc hk,λj hj=>?_,λj h1 h2=>?_⟩
 ·unfold cf;rw[bQ]at hj;by_cases e:j<p.length
  ·rw[Nv _ G3,Nw e];exact h.one j e
  ·obtain rfl:j=p.length:=by simp at hj;omega
   rw[vr _ _ _ (by rw[h.fit.1];exact hc),Nx,h.fit.2 _ (by rw[h.fit.1];exact hc)];rfl
 ·unfold cf;rw[bQ]at h1;rw[Nv _ (by simp at h1;omega)];exact h.all j G3 h2
def Dn.single(h:Dn m left p)(hc:p.length<left.length)(h1:(left.getD p.length default).length=1):Dn m left (p++[0]):=by
 have iR:p.length<m.cls.length:=by rw[<- h.fit.1];exact hc
 have hl:=h.fit.2 _ hc;refine⟨h.fit,h.bp.snoc (k:=0) iR G3,λj hj=>?_,λj h2 h3=>h.all j (by rw[bQ]at h2;omega) h3⟩;rw[bQ]at hj;by_cases e:j<p.length
 ·rw[Nw e];exact h.one j e
 ·obtain rfl:j=p.length:=by simp at hj;omega
  rw[Nx,h.all _ (Nat.le_refl _) iR,<- hl,h1];rfl
def Dn.skip:∀ (k:Nat) (p:List Int),left.length-p.length=k->Dn m left p->∃ r:List Int,Dn m left (p++r)/\(p++r).length=cH left p.length/\∀ a,C8 m (m.cls.length-p.length) p a=C8 m (m.cls.length-(p++r).length) (p++r) a
  |k,p,hk,h=>by
    by_cases hc:p.length<left.length/\(left.getD p.length default).length=1
    · have h1:=h.single hc.1 hc.2
      obtain⟨r,a1,a2,a3⟩:=Dn.skip (k-1) (p++[0]) (by rw[bQ];simp;omega) h1;have e:p++[0]++r=p++(0::r):=G9;rw[e]at a1 a2 a3;refine⟨0::r,a1,?_,λa=>?_⟩
      · rw[Ny hc,a2];simp
      · rw[<- a3 a]
        have hl:=h.fit.2 _ hc.1;have bx:p.length<m.cls.length:=by rw[<- h.fit.1];exact hc.1
        rw[show m.cls.length-p.length=(m.cls.length-(p++[0]).length)+1 by simp;omega,C8,<- hl,hc.2];rfl
    · exact⟨[],by simpa using h,by rw[Nz hc];simp,λa=>G9⟩
 termination_by k p _ _=>left.length-p.length
decreasing_by simp;omega
def ZI:∀ (w o:Nat) (i:Int),o<w->uo (nS w o) i=i+o
 |0,o,i,h=>G3
 |w+1,0,i,h=>by
  unfold nS;rw[He,List.set_cons_zero,uo,if_pos rfl];simp
 |w+1,o+1,i,h=>by
  have:=ZI w o (i+1) G3;unfold nS at *;rw[He,List.set_cons_succ,uo,if_neg G9,this];omega
def Dn.aih(h:Dn m left p)(hl:p.length=m.cls.length):kr left=p:=by
 unfold kr;apply List.ext_getElem
 ·rw[eO,h.fit.1,hl]
 ·intro i h1 h2;rw[List.getElem_map];have a1:=h.one i h2;have a2:=h.bp.get i h2;have e1:left[i]'(by rw[eO]at h1;exact h1)=left.getD i default:=by
   rw[aG,bT (by rw[eO]at h1;exact h1)];rfl
  have e2:p[i]=p.getD i 0:=by rw[aG,bT h2];rfl
  rw[e1,e2,a1,ZI _ _ _ G3];omega
def Dn.aij(h:Dn m left p)(hl:p.length=m.cls.length):Jg m left p:=λi hi j=>by
 have:=h.bp.get i G3;rw[h.one i G3,aik G3]
def Dn.exact(hm:VM m)(h:Dn m left p)(hl:p.length=m.cls.length):iA m left=wL m p:=by
 rw[ZJ hm h.fit];exact ail hm (h.bp.fp hl) left h.fit (h.aij hl) [] (λ_ h=>by cases h)
structure DL(m:ah)(left:List (List Bool))(p:List Int)(s r:DS):Prop where
 cO:r.cO<=s.cO
 bl:r.fe<=s.fe
 bt:r.cO<s.cO->r.fe<=r.cO
 wh:r.whole=true->s.whole=true/\(r.plan,r.cO)=C8 m (m.cls.length-p.length) p (s.plan,s.cO)/\min s.fe r.cO<=r.fe
 room:(r.nodes.length:Int)+r.room=s.nodes.length+s.room+1
 rm0:0<=s.room->0<=r.room
 lt:s.nodes.length<r.nodes.length
 pre:∀ i,i<s.nodes.length->nd r.nodes i=nd s.nodes i
 tr:∀ ab:List Int,(∀ x∈ab,0<=x/\x<p.length)->∃ v,Tr m r.nodes s.nodes.length r.nodes.length left ab v/\r.fe=uq v s.fe
def DL.leaf(hm:VM m)(h:fD m left){s r:DS}(hn:r.nodes=s.nodes++[eW []])(hr:r.room=s.room)(hb:r.fe=min s.fe (iA m left))(ht:r.cO<=s.cO)(jC:r.cO<s.cO->r.cO=iA m left)(hw:r.whole=true->s.whole=true/\(r.plan,r.cO)=C8 m (m.cls.length-p.length) p (s.plan,s.cO)/\r.cO<=iA m left):DL m left p s r:=by
 refine⟨ht,G3,λh=>by have:=jC h;omega,λh=>?_,by rw[hn,hr];simp;omega,λh=>G3,by rw[hn];simp,λi hi=>by rw[hn];exact NA hi,λab wT=>⟨[Bj m left],?_,?_⟩⟩
 ·obtain⟨a,b,c⟩:=hw h;exact⟨a,b,G3⟩
 ·rw[hn,bQ];exact .leaf _ _ _ ZK (λh=>by have:=wT _ h;omega)
 ·rw[hb];unfold uq Bj;rw[ZJ hm h];rfl
def I5(m:ah):Nat->Nat
 |0=>1
 |d+1=>(m.cls.getD (m.cls.length-(d+1)) default).length*I5 m d
variable {m:ah} {left:List (List Bool)} {p:List Int}
def C6:DS:=⟨[],19999,20000,true,[],1099511627776,1099511627776⟩
def dY(m:ah):DS:=si m (m.cls.length+1) 0 (fM m) C6
end T

