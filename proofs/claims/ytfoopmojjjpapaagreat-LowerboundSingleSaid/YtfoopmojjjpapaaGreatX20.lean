import Derived.Shelf.SlSortCmp.WholeK
import Derived.Test.YtfoopmojjjpapaaGreatX16
import Derived.Test.YtfoopmojjjpapaaGreatX18
import Derived.Test.YtfoopmojjjpapaaGreatX14
set_option linter.all false
set_option maxHeartbeats 0
set_option maxRecDepth 20000
open List renaming getD_eq_getElem?_getD→az
open Bool renaming not_eq_true→Cg
open Go Go.Am Go.Proofs
namespace T
def amC:Go.Shelf.Ren:=⟨fun|6=>73|15=>106|14=>105|28=>142|29=>143|20=>134|21=>135|22=>136|23=>137|24=>138|25=>139|26=>140|27=>141|46=>151|47=>152|48=>153|49=>154|50=>155|57=>157|n=>n,fun|22=>38|24=>94|25=>140|3=>3|39=>174|0=>0|53=>207|55=>209|4=>4|46=>201|45=>200|50=>58|5=>5|9=>9|66=>222|70=>226|76=>229|77=>230|n=>n,λn=>n⟩
def ac1:SlLaysF0.n6 Tryz.prog amC:={
mixed:=by kernel_rfl,
 f6:=⟨Tryz.f73.name,GS,Tryz.func73.trans (congrArg some (by kernel_rfl))⟩,
 f14:=⟨Tryz.f105.name,GS,Tryz.func105.trans (congrArg some (by kernel_rfl))⟩,
 f15:=Tryz.func106.trans (congrArg some (by kernel_rfl)),
 f20:=⟨Tryz.f134.name,GS,Tryz.func134.trans (congrArg some (by kernel_rfl))⟩,
 f21:=⟨Tryz.f135.name,GS,Tryz.func135.trans (congrArg some (by kernel_rfl))⟩,
 f22:=⟨Tryz.f136.name,GS,Tryz.func136.trans (congrArg some (by kernel_rfl))⟩,
 f23:=⟨Tryz.f137.name,GS,Tryz.func137.trans (congrArg some (by kernel_rfl))⟩,
 f24:=⟨Tryz.f138.name,GS,Tryz.func138.trans (congrArg some (by kernel_rfl))⟩,
 f25:=⟨Tryz.f139.name,GS,Tryz.func139.trans (congrArg some (by kernel_rfl))⟩,
 f26:=⟨Tryz.f140.name,GS,Tryz.func140.trans (congrArg some (by kernel_rfl))⟩,
 f27:=⟨Tryz.f141.name,GS,Tryz.func141.trans (congrArg some (by kernel_rfl))⟩,
 f28:=Tryz.func142.trans (congrArg some (by kernel_rfl)),
 f29:=Tryz.func143.trans (congrArg some (by kernel_rfl)),
 f46:=⟨Tryz.f151.name,GS,Tryz.func151.trans (congrArg some (by kernel_rfl))⟩,
 f47:=Tryz.func152.trans (congrArg some (by kernel_rfl)),
 f48:=Tryz.func153.trans (congrArg some (by kernel_rfl)),
 f49:=⟨Tryz.f154.name,GS,Tryz.func154.trans (congrArg some (by kernel_rfl))⟩,
 f50:=⟨Tryz.f155.name,GS,Tryz.func155.trans (congrArg some (by kernel_rfl))⟩,
 f57:=⟨Tryz.f157.name,GS,Tryz.func157.trans (congrArg some (by kernel_rfl))⟩,
 t0:=Tryz.underlying0,
 a0:=Tryz.isAgg0,
 z0:=Tryz.sizeOf0,
 v0:=Tryz.zeroValue0,
 t3:=Tryz.underlying3,
 a3:=Tryz.isAgg3,
 z3:=Tryz.sizeOf3,
 v3:=Tryz.zeroValue3,
 t4:=Tryz.underlying4,
 a4:=Tryz.isAgg4,
 z4:=Tryz.sizeOf4,
 v4:=Tryz.zeroValue4,
 t5:=Tryz.underlying5,
 a5:=Tryz.isAgg5,
 z5:=Tryz.sizeOf5,
 v5:=Tryz.zeroValue5,
 t9:=Tryz.underlying9,
 a9:=Tryz.isAgg9,
 z9:=Tryz.sizeOf9,
 v9:=Tryz.zeroValue9,
 t22:=Tryz.underlying38,
 a22:=Tryz.isAgg38,
 z22:=Tryz.sizeOf38,
 v22:=Tryz.zeroValue38,
 t25:=Tryz.underlying140,
 a25:=Tryz.isAgg140,
 z25:=Tryz.sizeOf140,
 v25:=Tryz.zeroValue140,
 t39:=Tryz.underlying174,
 a39:=Tryz.isAgg174,
 z39:=Tryz.sizeOf174,
 v39:=Tryz.zeroValue174,
 t45:=Tryz.underlying200,
 a45:=Tryz.isAgg200,
 z45:=Tryz.sizeOf200,
 v45:=Tryz.zeroValue200,
 t46:=Tryz.underlying201,
 a46:=Tryz.isAgg201,
 z46:=Tryz.sizeOf201,
 v46:=Tryz.zeroValue201,
 t50:=Tryz.underlying58,
 a50:=Tryz.isAgg58,
 z50:=Tryz.sizeOf58,
 v50:=Tryz.zeroValue58,
 t53:=Tryz.underlying207,
 a53:=Tryz.isAgg207,
 z53:=Tryz.sizeOf207,
 v53:=Tryz.zeroValue207,
 t55:=Tryz.underlying209,
 a55:=Tryz.isAgg209,
 z55:=Tryz.sizeOf209,
 v55:=Tryz.zeroValue209,
 t66:=Tryz.underlying222,
 a66:=Tryz.isAgg222,
 z66:=Tryz.sizeOf222,
 v66:=Tryz.zeroValue222,
 t70:=Tryz.underlying226,
 a70:=Tryz.isAgg226,
 z70:=Tryz.sizeOf226,
 v70:=Tryz.zeroValue226,
 t76:=Tryz.underlying229,
 a76:=Tryz.isAgg229,
 z76:=Tryz.sizeOf229,
 v76:=Tryz.zeroValue229,
 t77:=Tryz.underlying230,
 a77:=Tryz.isAgg230,
 z77:=Tryz.sizeOf230,
 v77:=Tryz.zeroValue230 }
def uS(a b:Mv):Int:=rN [kQ a.pair b.pair,kQ a.side b.side,kQ a.opt b.opt]
def amD(a b:Mv):Holds Tryz.prog 74 [.agg (aU a),.agg (aU b)] [] (Qf (uS a b)) []:=by
 unfold uS;have h1:=Fu a.pair b.pair;have h2:=Fu a.side b.side;have h3:=Fu a.opt b.opt;generalize kQ a.pair b.pair=c1 at *;generalize kQ a.side b.side=c2 at *;generalize kQ a.opt b.opt=c3 at *;have h4:=Nu [c1,c2,c3] GM;refine Holds.aM 22 0 [.tmp 4] Tryz.func74 ?_;((try revert hK K);(repeat'(first|refine Vd @aU.eq_1 (X3 h1 h2 h3) ?_|(refine V2 @aU.eq_1 ?_ ?_<;>try with_reducible intro hb)|(refine Xi ?_ ?_<;>try intro ht)|refine VD ?_ ?_|exact Xx|fail))<;>try with_reducible intro K hK)
 refine xW [] h4 GS trivial ⟨aZ.cO (rows:=ints [c1,c2,c3]) rfl (vh _) rfl GM (x8 _),trivial⟩ rfl GM ?_;((try revert hK K);(repeat'(first|refine Vb X0 ?_|(refine V2 X0 ?_ ?_<;>try with_reducible intro hb)|(refine Xi ?_ ?_<;>try intro ht)|refine VD ?_ ?_|exact Xx|fail))<;>try with_reducible intro K hK)
 exact aO rfl rfl
def ac2(w:World)(Z:Nat->Prop)(blk:gB)(os:List Ob)(l:List Value):aw os w Z blk (.agg (l.map .lit)) (.agg l.toArray) :=
 .agg _ _ GM λj x hj=>by
  simp only[List.getElem?_map,Option.map_eq_some_iff]at hj;obtain⟨v,hv,rfl⟩:=hj;have:l.toArray.getD j Go.undef=v:=by simp[Array.getD_eq_getD_getElem?,hv]
  rw[this];exact .lit _
def grown{P:Program}{f:FuncId}{args:List AV}{res:Value}(h:Am.Holds P f args [] (.lit res) [])(argv:Array Value)(W:World)(aP:argv.size=args.length)(ha:∀ j x,args[j]?=some x->aw [] W (λ_=>False) (λ_=>none) x (argv.getD j Go.undef)):
  Calls P f argv W (λe w'=>e=.returned res/\∃ q gN,w'=Sort.grow (W.drewN q) gN):=by
 refine(h.2 ⟨W,argv,λ_=>False,λ_=>none⟩ aP ⟨λk=>?_,λi o hi=>by simp at hi,λi j b o c o' c' ⟨x,hx,_⟩=>by simp at hx,λb _ h=>h,λb h=>h.elim,λg=>.undef _⟩).mono ?_
 ·show aw [] W _ _ (args.getD k .undef) _;rcases hk:args[k]? with _|x
  ·rw[az,hk];exact .undef _
  ·rw[az,hk];exact ha k x hk
 rintro e w'⟨cv,aA,rfl,rfl,h3,h4,h5⟩;have h6:=h4.ao 0;have h7:aA.tmps.getD 0 Go.undef=cv:=by rw[h3];rfl
 rw[h7]at h6;have:cv=res:=aw.cF h6;subst this;refine⟨rfl,aA.w.drawn-W.drawn,aA.w.heap.extract W.heap.size,?_⟩;have hh:aA.w.heap=W.heap++aA.w.heap.extract W.heap.size:=by
  apply Array.ext_getElem?;intro k;rw[Array.getElem?_append];split
  ·rename_i hk;exact h5.ek k hk (λ⟨i,o,c,⟨x,hx,_⟩,_⟩=>by simp at hx)
  ·rename_i hk;have:=h5.size;simp only[Array.getElem?_extract];by_cases bz:k<aA.w.heap.size
   ·rw[if_pos (by simp at *;omega)];congr 1;simp at *;omega
   ·rw[if_neg (by simp at *;omega)];simp at *;omega
 have e1:=h5.lF;have e2:=h5.tape;have e3:=h5.output;have e4:=h5.drawn;cases hw:aA.w with
 |mk hp tp dr os ou =>
  rw[hw]at hh e1 e2 e3 e4;simp only at hh e1 e2 e3 e4;have e5:dr=W.drawn+(dr-W.drawn):=GK;show _=World.mk _ _ _ _ _;rw[World.mk.injEq];exact⟨hh,e2,e5,e1,e3⟩
instance:Inhabited Mv:=⟨⟨0,0,0,0⟩⟩
def rX(x y:Mv):Go.Proofs.ltOf uS x y=true↔x.pair<y.pair\/(x.pair=y.pair/\(x.side<y.side\/(x.side=y.side/\x.opt<y.opt))):=by
 unfold Go.Proofs.ltOf uS;rw[decide_eq_true_eq];unfold kQ;simp only[rN];repeat' split
 all_goals first|omega|skip
 all_goals simp_all
 all_goals omega
def amE:Sort.SWO (Go.Proofs.ltOf uS) where
 irrefl x:=by
  rw[<- Cg,rX];omega
 trans x y z:=by rw[rX,rX,rX];omega
 ntrans x y z:=by rw[<- Cg,<- Cg,<- Cg,rX,rX,rX];omega
def pZ(x:Mv):List Value:=[.int .i64 x.pair,.int .i64 x.side,.int .i64 x.opt,.int .i64 x.amt]
def ac3(x:Mv):aU x=(pZ x).map .lit:=rfl
def amF(blk off size:Nat)(w:World):Go.Proofs.CmpLays Tryz.prog 74 #[] pZ 4 uS blk off size w:=by
 intro m os dk _ x y;rw[Array.append_empty];refine grown (amD x y) #[.agg (pZ x).toArray,.agg (pZ y).toArray] _ rfl λj v hj=>?_;rcases j with _|_|j
 ·cases hj;exact ac2 _ _ _ _ (pZ x)
 ·cases hj;exact ac2 _ _ _ _ (pZ y)
 ·cases hj
end T

