import Derived.Test.YtdipcmigdbnheaaGreatX10
import Derived.Test.YtdipcmigdbnheaaGreatX16
import Derived.Test.YtdipcmigdbnheaaGreatX09
import Derived.Test.YtdipcmigdbnheaaGreatProg
import Derived.KernelRfl
set_option linter.unusedVariables false
set_option linter.unusedSimpArgs false
set_option linter.unnecessarySimpa false
set_option linter.unusedSectionVars false
set_option maxHeartbeats 64000000
set_option maxRecDepth 20000
open Int renaming natCast_add→uN,cast_ofNat_Int→Ea,mul_nonneg→pt,mul_le_mul→oo
open List renaming length_append→bU,length_cons→dI,length_nil→pj,drop_eq_nil_of_le→b6,cons_append→fB,nil_append→fU
open Nat renaming zero_add→eK,zero_le→aH,le_refl→aV,add_zero→gU
open Bool renaming eq_iff_iff→mq,and_eq_true→a7,or_eq_true→jE,not_eq_true'→jh,false_eq_true→iJ
open Go Go.Am Go.Proofs
open Nat (reduceEqDiff reduceAdd reduceLeDiff reduceMul)
open Int (reduceNeg reduceLE reduceToNat)
namespace T
theorem S5:ty Tryz.prog 2 = { kind:=5,size:=1,bytes:=8,elem:=0,len:=0,zero:=some [.int .i64 0],aN:=[] }:=by kernel_rfl
theorem S6:ty Tryz.prog 3 = { kind:=5,size:=1,bytes:=8,elem:=0,len:=0,zero:=some [.int .i64 0],aN:=[] }:=by kernel_rfl
theorem S7:ty Tryz.prog 4 = { kind:=6,size:=1,bytes:=1,elem:=0,len:=0,zero:=some [.bool false],aN:=[] }:=by kernel_rfl
theorem S8:ty Tryz.prog 5 = { kind:=5,size:=1,bytes:=1,elem:=0,len:=0,zero:=some [.int .u8 0],aN:=[] }:=by kernel_rfl
theorem S9:ty Tryz.prog 6 = { kind:=5,size:=1,bytes:=1,elem:=0,len:=0,zero:=some [.int .u8 0],aN:=[] }:=by kernel_rfl
theorem S':ty Tryz.prog 7 = { kind:=3,size:=4,bytes:=24,elem:=0,len:=0,zero:=some [.int .i64 0,.int .i64 0,.bool false,.int .u8 0],aN:=[(0,2,1),(1,3,1),(2,4,1),(3,6,1)] }:=by kernel_rfl
theorem Ta:ty Tryz.prog 8 = { kind:=3,size:=4,bytes:=24,elem:=0,len:=0,zero:=some [.int .i64 0,.int .i64 0,.bool false,.int .u8 0],aN:=[(0,2,1),(1,3,1),(2,4,1),(3,6,1)] }:=by kernel_rfl
theorem Tb:ty Tryz.prog 9 = { kind:=4,size:=1,bytes:=16,elem:=0,len:=0,zero:=some [.string ⟨#[]⟩],aN:=[] }:=by kernel_rfl
theorem Td:ty Tryz.prog 10 = { kind:=4,size:=1,bytes:=16,elem:=0,len:=0,zero:=some [.string ⟨#[]⟩],aN:=[] }:=by kernel_rfl
theorem Te:ty Tryz.prog 11 = { kind:=4,size:=1,bytes:=16,elem:=0,len:=0,zero:=some [.string ⟨#[]⟩],aN:=[] }:=by kernel_rfl
theorem Tf:ty Tryz.prog 12 = { kind:=5,size:=1,bytes:=8,elem:=0,len:=0,zero:=some [.int .u64 0],aN:=[] }:=by kernel_rfl
theorem Tg:ty Tryz.prog 13 = { kind:=3,size:=2,bytes:=24,elem:=0,len:=0,zero:=some [.string ⟨#[]⟩,.int .u64 0],aN:=[(0,9,1),(1,12,1)] }:=by kernel_rfl
theorem Th:ty Tryz.prog 14 = { kind:=3,size:=2,bytes:=24,elem:=0,len:=0,zero:=some [.string ⟨#[]⟩,.int .u64 0],aN:=[(0,9,1),(1,12,1)] }:=by kernel_rfl
theorem Ti:ty Tryz.prog 15 = { kind:=7,size:=1,bytes:=8,elem:=278,len:=0,zero:=some [.pointer none],aN:=[] }:=by kernel_rfl
theorem Tj:ty Tryz.prog 16 = { kind:=7,size:=1,bytes:=8,elem:=281,len:=0,zero:=some [.pointer none],aN:=[] }:=by kernel_rfl
theorem Tk:ty Tryz.prog 17 = { kind:=7,size:=1,bytes:=8,elem:=289,len:=0,zero:=some [.pointer none],aN:=[] }:=by kernel_rfl
theorem Tl:ty Tryz.prog 18 = { kind:=3,size:=1,bytes:=8,elem:=0,len:=0,zero:=some [.pointer none],aN:=[(0,17,1)] }:=by kernel_rfl
theorem Tm:ty Tryz.prog 19 = { kind:=3,size:=1,bytes:=8,elem:=0,len:=0,zero:=some [.pointer none],aN:=[(0,17,1)] }:=by kernel_rfl
theorem Tn:ty Tryz.prog 21 = { kind:=5,size:=1,bytes:=4,elem:=0,len:=0,zero:=some [.int .i32 0],aN:=[] }:=by kernel_rfl
theorem To:ty Tryz.prog 22 = { kind:=1,size:=1,bytes:=24,elem:=3,len:=0,zero:=some [.slice none 0 0],aN:=[] }:=by kernel_rfl
theorem Tp:ty Tryz.prog 25 = { kind:=1,size:=1,bytes:=24,elem:=82,len:=0,zero:=some [.slice none 0 0],aN:=[] }:=by kernel_rfl
theorem Tq:ty Tryz.prog 26 = { kind:=1,size:=1,bytes:=24,elem:=84,len:=0,zero:=some [.slice none 0 0],aN:=[] }:=by kernel_rfl
theorem Ts:ty Tryz.prog 27 = { kind:=1,size:=1,bytes:=24,elem:=98,len:=0,zero:=some [.slice none 0 0],aN:=[] }:=by kernel_rfl
theorem Tt:ty Tryz.prog 28 = { kind:=3,size:=4,bytes:=80,elem:=0,len:=0,zero:=some [.slice none 0 0,.slice none 0 0,.slice none 0 0,.int .i64 0],aN:=[(0,25,1),(1,26,1),(2,27,1),(3,3,1)] }:=by kernel_rfl
theorem Tu:ty Tryz.prog 29 = { kind:=3,size:=4,bytes:=80,elem:=0,len:=0,zero:=some [.slice none 0 0,.slice none 0 0,.slice none 0 0,.int .i64 0],aN:=[(0,25,1),(1,26,1),(2,27,1),(3,3,1)] }:=by kernel_rfl
theorem Tv:ty Tryz.prog 31 = { kind:=7,size:=1,bytes:=8,elem:=90,len:=0,zero:=some [.pointer none],aN:=[] }:=by kernel_rfl
theorem Tw:ty Tryz.prog 33 = { kind:=5,size:=1,bytes:=8,elem:=0,len:=0,zero:=some [.int .i64 0],aN:=[] }:=by kernel_rfl
theorem Tx:ty Tryz.prog 37 = { kind:=1,size:=1,bytes:=24,elem:=68,len:=0,zero:=some [.slice none 0 0],aN:=[] }:=by kernel_rfl
theorem Tz:ty Tryz.prog 38 = { kind:=3,size:=1,bytes:=24,elem:=0,len:=0,zero:=some [.slice none 0 0],aN:=[(0,37,1)] }:=by kernel_rfl
theorem TA:ty Tryz.prog 39 = { kind:=3,size:=1,bytes:=24,elem:=0,len:=0,zero:=some [.slice none 0 0],aN:=[(0,37,1)] }:=by kernel_rfl
theorem TB:ty Tryz.prog 40 = { kind:=3,size:=4,bytes:=64,elem:=0,len:=0,zero:=some [.slice none 0 0,.int .i64 0,.int .i64 0,.slice none 0 0],aN:=[(0,22,1),(1,3,1),(2,3,1),(3,39,1)] }:=by kernel_rfl
theorem TC:ty Tryz.prog 41 = { kind:=3,size:=4,bytes:=64,elem:=0,len:=0,zero:=some [.slice none 0 0,.int .i64 0,.int .i64 0,.slice none 0 0],aN:=[(0,22,1),(1,3,1),(2,3,1),(3,39,1)] }:=by kernel_rfl
theorem TD:ty Tryz.prog 57 = { kind:=1,size:=1,bytes:=24,elem:=22,len:=0,zero:=some [.slice none 0 0],aN:=[] }:=by kernel_rfl
theorem TE:ty Tryz.prog 58 = { kind:=3,size:=3,bytes:=72,elem:=0,len:=0,zero:=some [.slice none 0 0,.slice none 0 0,.slice none 0 0],aN:=[(0,22,1),(1,39,1),(2,57,1)] }:=by kernel_rfl
theorem TF:ty Tryz.prog 59 = { kind:=3,size:=3,bytes:=72,elem:=0,len:=0,zero:=some [.slice none 0 0,.slice none 0 0,.slice none 0 0],aN:=[(0,22,1),(1,39,1),(2,57,1)] }:=by kernel_rfl
theorem TG:ty Tryz.prog 65 = { kind:=1,size:=1,bytes:=24,elem:=184,len:=0,zero:=some [.slice none 0 0],aN:=[] }:=by kernel_rfl
theorem TH:ty Tryz.prog 66 = { kind:=1,size:=1,bytes:=24,elem:=175,len:=0,zero:=some [.slice none 0 0],aN:=[] }:=by kernel_rfl
theorem TI:ty Tryz.prog 67 = { kind:=3,size:=5,bytes:=104,elem:=0,len:=0,zero:=some [.int .i64 0,.slice none 0 0,.slice none 0 0,.slice none 0 0,.slice none 0 0],aN:=[(0,3,1),(1,22,1),(2,65,1),(3,22,1),(4,66,1)] }:=by kernel_rfl
theorem TJ:ty Tryz.prog 68 = { kind:=3,size:=5,bytes:=104,elem:=0,len:=0,zero:=some [.int .i64 0,.slice none 0 0,.slice none 0 0,.slice none 0 0,.slice none 0 0],aN:=[(0,3,1),(1,22,1),(2,65,1),(3,22,1),(4,66,1)] }:=by kernel_rfl
theorem TK:ty Tryz.prog 70 = { kind:=1,size:=1,bytes:=24,elem:=59,len:=0,zero:=some [.slice none 0 0],aN:=[] }:=by kernel_rfl
theorem TL:ty Tryz.prog 73 = { kind:=1,size:=1,bytes:=24,elem:=4,len:=0,zero:=some [.slice none 0 0],aN:=[] }:=by kernel_rfl
theorem TM:ty Tryz.prog 75 = { kind:=3,size:=4,bytes:=32,elem:=0,len:=0,zero:=some [.int .i64 0,.int .i64 0,.int .i64 0,.int .i64 0],aN:=[(0,3,1),(1,3,1),(2,3,1),(3,3,1)] }:=by kernel_rfl
theorem TN:ty Tryz.prog 76 = { kind:=3,size:=4,bytes:=32,elem:=0,len:=0,zero:=some [.int .i64 0,.int .i64 0,.int .i64 0,.int .i64 0],aN:=[(0,3,1),(1,3,1),(2,3,1),(3,3,1)] }:=by kernel_rfl
theorem TO:ty Tryz.prog 77 = { kind:=3,size:=5,bytes:=40,elem:=0,len:=0,zero:=some [.int .i64 0,.int .i64 0,.int .i64 0,.int .i64 0,.int .i64 0],aN:=[(0,76,4),(4,3,1)] }:=by kernel_rfl
theorem TP:ty Tryz.prog 78 = { kind:=3,size:=5,bytes:=40,elem:=0,len:=0,zero:=some [.int .i64 0,.int .i64 0,.int .i64 0,.int .i64 0,.int .i64 0],aN:=[(0,76,4),(4,3,1)] }:=by kernel_rfl
theorem TQ:ty Tryz.prog 79 = { kind:=1,size:=1,bytes:=24,elem:=93,len:=0,zero:=some [.slice none 0 0],aN:=[] }:=by kernel_rfl
theorem TR:ty Tryz.prog 80 = { kind:=3,size:=6,bytes:=64,elem:=0,len:=0,zero:=some [.int .i64 0,.int .i64 0,.int .i64 0,.int .i64 0,.int .i64 0,.slice none 0 0],aN:=[(0,78,5),(5,79,1)] }:=by kernel_rfl
theorem TS:ty Tryz.prog 81 = { kind:=3,size:=6,bytes:=64,elem:=0,len:=0,zero:=some [.int .i64 0,.int .i64 0,.int .i64 0,.int .i64 0,.int .i64 0,.slice none 0 0],aN:=[(0,78,5),(5,79,1)] }:=by kernel_rfl
theorem TT:ty Tryz.prog 82 = { kind:=1,size:=1,bytes:=24,elem:=81,len:=0,zero:=some [.slice none 0 0],aN:=[] }:=by kernel_rfl
theorem TU:ty Tryz.prog 83 = { kind:=3,size:=4,bytes:=48,elem:=0,len:=0,zero:=some [.int .i64 0,.int .i64 0,.int .i64 0,.slice none 0 0],aN:=[(0,3,1),(1,3,1),(2,3,1),(3,22,1)] }:=by kernel_rfl
theorem TV:ty Tryz.prog 84 = { kind:=3,size:=4,bytes:=48,elem:=0,len:=0,zero:=some [.int .i64 0,.int .i64 0,.int .i64 0,.slice none 0 0],aN:=[(0,3,1),(1,3,1),(2,3,1),(3,22,1)] }:=by kernel_rfl
theorem TW:ty Tryz.prog 89 = { kind:=3,size:=2,bytes:=32,elem:=0,len:=0,zero:=some [.slice none 0 0,.int .i64 0],aN:=[(0,22,1),(1,3,1)] }:=by kernel_rfl
theorem TX:ty Tryz.prog 90 = { kind:=3,size:=2,bytes:=32,elem:=0,len:=0,zero:=some [.slice none 0 0,.int .i64 0],aN:=[(0,22,1),(1,3,1)] }:=by kernel_rfl
theorem TY:ty Tryz.prog 92 = { kind:=3,size:=2,bytes:=16,elem:=0,len:=0,zero:=some [.int .i64 0,.int .i64 0],aN:=[(0,3,1),(1,3,1)] }:=by kernel_rfl
theorem TZ:ty Tryz.prog 93 = { kind:=3,size:=2,bytes:=16,elem:=0,len:=0,zero:=some [.int .i64 0,.int .i64 0],aN:=[(0,3,1),(1,3,1)] }:=by kernel_rfl
theorem T1:ty Tryz.prog 96 = { kind:=1,size:=1,bytes:=24,elem:=102,len:=0,zero:=some [.slice none 0 0],aN:=[] }:=by kernel_rfl
theorem T2:ty Tryz.prog 97 = { kind:=3,size:=4,bytes:=48,elem:=0,len:=0,zero:=some [.int .i64 0,.slice none 0 0,.int .i64 0,.int .i64 0],aN:=[(0,3,1),(1,96,1),(2,3,1),(3,3,1)] }:=by kernel_rfl
theorem T3:ty Tryz.prog 98 = { kind:=3,size:=4,bytes:=48,elem:=0,len:=0,zero:=some [.int .i64 0,.slice none 0 0,.int .i64 0,.int .i64 0],aN:=[(0,3,1),(1,96,1),(2,3,1),(3,3,1)] }:=by kernel_rfl
theorem T4:ty Tryz.prog 101 = { kind:=3,size:=3,bytes:=24,elem:=0,len:=0,zero:=some [.int .i64 0,.int .i64 0,.int .i64 0],aN:=[(0,3,1),(1,3,1),(2,3,1)] }:=by kernel_rfl
theorem T5:ty Tryz.prog 102 = { kind:=3,size:=3,bytes:=24,elem:=0,len:=0,zero:=some [.int .i64 0,.int .i64 0,.int .i64 0],aN:=[(0,3,1),(1,3,1),(2,3,1)] }:=by kernel_rfl
theorem T6:ty Tryz.prog 115 = { kind:=1,size:=1,bytes:=24,elem:=3,len:=0,zero:=some [.slice none 0 0],aN:=[] }:=by kernel_rfl
theorem T7:ty Tryz.prog 123 = { kind:=7,size:=1,bytes:=8,elem:=39,len:=0,zero:=some [.pointer none],aN:=[] }:=by kernel_rfl
theorem T8:ty Tryz.prog 125 = { kind:=1,size:=1,bytes:=24,elem:=73,len:=0,zero:=some [.slice none 0 0],aN:=[] }:=by kernel_rfl
theorem T9:ty Tryz.prog 126 = { kind:=3,size:=2,bytes:=32,elem:=0,len:=0,zero:=some [.int .i64 0,.slice none 0 0],aN:=[(0,3,1),(1,125,1)] }:=by kernel_rfl
theorem T':ty Tryz.prog 127 = { kind:=3,size:=2,bytes:=32,elem:=0,len:=0,zero:=some [.int .i64 0,.slice none 0 0],aN:=[(0,3,1),(1,125,1)] }:=by kernel_rfl
theorem Ua:ty Tryz.prog 144 = { kind:=1,size:=1,bytes:=24,elem:=194,len:=0,zero:=some [.slice none 0 0],aN:=[] }:=by kernel_rfl
theorem Ub:ty Tryz.prog 170 = { kind:=3,size:=3,bytes:=56,elem:=0,len:=0,zero:=some [.int .i64 0,.slice none 0 0,.slice none 0 0],aN:=[(0,127,2),(2,22,1)] }:=by kernel_rfl
theorem Uc:ty Tryz.prog 171 = { kind:=3,size:=3,bytes:=56,elem:=0,len:=0,zero:=some [.int .i64 0,.slice none 0 0,.slice none 0 0],aN:=[(0,127,2),(2,22,1)] }:=by kernel_rfl
theorem Ud:ty Tryz.prog 172 = { kind:=1,size:=1,bytes:=24,elem:=171,len:=0,zero:=some [.slice none 0 0],aN:=[] }:=by kernel_rfl
theorem Ue:ty Tryz.prog 175 = { kind:=1,size:=1,bytes:=24,elem:=180,len:=0,zero:=some [.slice none 0 0],aN:=[] }:=by kernel_rfl
theorem Uf:ty Tryz.prog 179 = { kind:=3,size:=2,bytes:=16,elem:=0,len:=0,zero:=some [.int .i64 0,.int .i64 0],aN:=[(0,3,1),(1,3,1)] }:=by kernel_rfl
theorem Ug:ty Tryz.prog 180 = { kind:=3,size:=2,bytes:=16,elem:=0,len:=0,zero:=some [.int .i64 0,.int .i64 0],aN:=[(0,3,1),(1,3,1)] }:=by kernel_rfl
theorem Uh:ty Tryz.prog 181 = { kind:=7,size:=1,bytes:=8,elem:=227,len:=0,zero:=some [.pointer none],aN:=[] }:=by kernel_rfl
theorem Ui:ty Tryz.prog 183 = { kind:=3,size:=4,bytes:=32,elem:=0,len:=0,zero:=some [.int .i64 0,.int .i64 0,.int .i64 0,.int .i64 0],aN:=[(0,3,1),(1,3,1),(2,3,1),(3,3,1)] }:=by kernel_rfl
theorem Uj:ty Tryz.prog 184 = { kind:=3,size:=4,bytes:=32,elem:=0,len:=0,zero:=some [.int .i64 0,.int .i64 0,.int .i64 0,.int .i64 0],aN:=[(0,3,1),(1,3,1),(2,3,1),(3,3,1)] }:=by kernel_rfl
theorem Uk:ty Tryz.prog 193 = { kind:=3,size:=2,bytes:=16,elem:=0,len:=0,zero:=some [.int .i64 0,.int .i64 0],aN:=[(0,3,1),(1,3,1)] }:=by kernel_rfl
theorem Ul:ty Tryz.prog 194 = { kind:=3,size:=2,bytes:=16,elem:=0,len:=0,zero:=some [.int .i64 0,.int .i64 0],aN:=[(0,3,1),(1,3,1)] }:=by kernel_rfl
theorem Um:ty Tryz.prog 198 = { kind:=1,size:=1,bytes:=24,elem:=199,len:=0,zero:=some [.slice none 0 0],aN:=[] }:=by kernel_rfl
theorem Un:ty Tryz.prog 199 = { kind:=1,size:=1,bytes:=24,elem:=203,len:=0,zero:=some [.slice none 0 0],aN:=[] }:=by kernel_rfl
theorem Uo:ty Tryz.prog 202 = { kind:=3,size:=2,bytes:=16,elem:=0,len:=0,zero:=some [.bool false,.int .i64 0],aN:=[(0,4,1),(1,3,1)] }:=by kernel_rfl
theorem Uq:ty Tryz.prog 203 = { kind:=3,size:=2,bytes:=16,elem:=0,len:=0,zero:=some [.bool false,.int .i64 0],aN:=[(0,4,1),(1,3,1)] }:=by kernel_rfl
theorem Ur:ty Tryz.prog 217 = { kind:=7,size:=1,bytes:=8,elem:=219,len:=0,zero:=some [.pointer none],aN:=[] }:=by kernel_rfl
theorem Us:ty Tryz.prog 218 = { kind:=3,size:=1,bytes:=24,elem:=0,len:=0,zero:=some [.slice none 0 0],aN:=[(0,22,1)] }:=by kernel_rfl
theorem Ut:ty Tryz.prog 219 = { kind:=3,size:=1,bytes:=24,elem:=0,len:=0,zero:=some [.slice none 0 0],aN:=[(0,22,1)] }:=by kernel_rfl
theorem Uu:ty Tryz.prog 225 = { kind:=1,size:=1,bytes:=24,elem:=228,len:=0,zero:=some [.slice none 0 0],aN:=[] }:=by kernel_rfl
theorem Uv:ty Tryz.prog 226 = { kind:=3,size:=6,bytes:=128,elem:=0,len:=0,zero:=some [.slice none 0 0,.slice none 0 0,.slice none 0 0,.int .i64 0,.slice none 0 0,.slice none 0 0],aN:=[(0,29,4),(4,225,1),(5,225,1)] }:=by kernel_rfl
theorem Uw:ty Tryz.prog 227 = { kind:=3,size:=6,bytes:=128,elem:=0,len:=0,zero:=some [.slice none 0 0,.slice none 0 0,.slice none 0 0,.int .i64 0,.slice none 0 0,.slice none 0 0],aN:=[(0,29,4),(4,225,1),(5,225,1)] }:=by kernel_rfl
theorem Ux:ty Tryz.prog 228 = { kind:=1,size:=1,bytes:=24,elem:=230,len:=0,zero:=some [.slice none 0 0],aN:=[] }:=by kernel_rfl
theorem Uy:ty Tryz.prog 229 = { kind:=3,size:=2,bytes:=16,elem:=0,len:=0,zero:=some [.int .i64 0,.bool false],aN:=[(0,3,1),(1,4,1)] }:=by kernel_rfl
theorem Uz:ty Tryz.prog 230 = { kind:=3,size:=2,bytes:=16,elem:=0,len:=0,zero:=some [.int .i64 0,.bool false],aN:=[(0,3,1),(1,4,1)] }:=by kernel_rfl
theorem UA:ty Tryz.prog 238 = { kind:=5,size:=1,bytes:=8,elem:=0,len:=0,zero:=some [.int .u64 0],aN:=[] }:=by kernel_rfl
theorem UB:ty Tryz.prog 242 = { kind:=1,size:=1,bytes:=24,elem:=245,len:=0,zero:=some [.slice none 0 0],aN:=[] }:=by kernel_rfl
theorem UC:ty Tryz.prog 243 = { kind:=1,size:=1,bytes:=24,elem:=245,len:=0,zero:=some [.slice none 0 0],aN:=[] }:=by kernel_rfl
theorem UD:ty Tryz.prog 244 = { kind:=3,size:=3,bytes:=24,elem:=0,len:=0,zero:=some [.int .i64 0,.int .i64 0,.int .i64 0],aN:=[(0,3,1),(1,3,1),(2,3,1)] }:=by kernel_rfl
theorem UE:ty Tryz.prog 245 = { kind:=3,size:=3,bytes:=24,elem:=0,len:=0,zero:=some [.int .i64 0,.int .i64 0,.int .i64 0],aN:=[(0,3,1),(1,3,1),(2,3,1)] }:=by kernel_rfl
theorem UF:ty Tryz.prog 248 = { kind:=7,size:=1,bytes:=8,elem:=243,len:=0,zero:=some [.pointer none],aN:=[] }:=by kernel_rfl
theorem UG:ty Tryz.prog 251 = { kind:=2,size:=2,bytes:=16,elem:=3,len:=2,zero:=some [.int .i64 0,.int .i64 0],aN:=[] }:=by kernel_rfl
theorem UH:ty Tryz.prog 252 = { kind:=2,size:=2,bytes:=16,elem:=3,len:=2,zero:=some [.int .i64 0,.int .i64 0],aN:=[] }:=by kernel_rfl
theorem UJ:ty Tryz.prog 256 = { kind:=7,size:=1,bytes:=8,elem:=230,len:=0,zero:=some [.pointer none],aN:=[] }:=by kernel_rfl
theorem UK:ty Tryz.prog 257 = { kind:=8,size:=1,bytes:=8,elem:=258,len:=0,zero:=some [.map none],aN:=[] }:=by kernel_rfl
theorem UL:ty Tryz.prog 258 = { kind:=8,size:=1,bytes:=8,elem:=3,len:=0,zero:=some [.map none],aN:=[] }:=by kernel_rfl
theorem UM:ty Tryz.prog 259 = { kind:=5,size:=1,bytes:=4,elem:=0,len:=0,zero:=some [.int .u32 0],aN:=[] }:=by kernel_rfl
theorem UN:ty Tryz.prog 262 = { kind:=5,size:=1,bytes:=8,elem:=0,len:=0,zero:=some [.int .u64 0],aN:=[] }:=by kernel_rfl
theorem UO:ty Tryz.prog 265 = { kind:=1,size:=1,bytes:=24,elem:=266,len:=0,zero:=some [.slice none 0 0],aN:=[] }:=by kernel_rfl
theorem UP:ty Tryz.prog 266 = { kind:=8,size:=1,bytes:=8,elem:=4,len:=0,zero:=some [.map none],aN:=[] }:=by kernel_rfl
theorem UQ:ty Tryz.prog 275 = { kind:=7,size:=1,bytes:=8,elem:=252,len:=0,zero:=some [.pointer none],aN:=[] }:=by kernel_rfl
theorem UR:ty Tryz.prog 277 = { kind:=3,size:=4,bytes:=40,elem:=0,len:=0,zero:=some [.pointer none,.pointer none,.pointer none,.string ⟨#[]⟩],aN:=[(0,17,1),(1,17,1),(2,17,1),(3,9,1)] }:=by kernel_rfl
theorem US:ty Tryz.prog 278 = { kind:=3,size:=4,bytes:=40,elem:=0,len:=0,zero:=some [.pointer none,.pointer none,.pointer none,.string ⟨#[]⟩],aN:=[(0,17,1),(1,17,1),(2,17,1),(3,9,1)] }:=by kernel_rfl
theorem UT:ty Tryz.prog 279 = { kind:=2,size:=0,bytes:=0,elem:=16,len:=0,zero:=some [],aN:=[] }:=by kernel_rfl
theorem UU:ty Tryz.prog 280 = { kind:=3,size:=0,bytes:=0,elem:=0,len:=0,zero:=some [],aN:=[(0,279,0)] }:=by kernel_rfl
theorem UW:ty Tryz.prog 281 = { kind:=3,size:=0,bytes:=0,elem:=0,len:=0,zero:=some [],aN:=[(0,279,0)] }:=by kernel_rfl
theorem UX:ty Tryz.prog 282 = { kind:=5,size:=1,bytes:=1,elem:=0,len:=0,zero:=some [.int .u8 0],aN:=[] }:=by kernel_rfl
theorem UY:ty Tryz.prog 283 = { kind:=5,size:=1,bytes:=1,elem:=0,len:=0,zero:=some [.int .u8 0],aN:=[] }:=by kernel_rfl
theorem UZ:ty Tryz.prog 285 = { kind:=7,size:=1,bytes:=8,elem:=5,len:=0,zero:=some [.pointer none],aN:=[] }:=by kernel_rfl
theorem U0:ty Tryz.prog 286 = { kind:=5,size:=1,bytes:=4,elem:=0,len:=0,zero:=some [.int .i32 0],aN:=[] }:=by kernel_rfl
theorem U1:ty Tryz.prog 287 = { kind:=5,size:=1,bytes:=4,elem:=0,len:=0,zero:=some [.int .i32 0],aN:=[] }:=by kernel_rfl
theorem U2:ty Tryz.prog 288 = { kind:=3,size:=11,bytes:=48,elem:=0,len:=0,zero:=some [.int .u64 0,.int .u64 0,.int .u32 0,.int .u8 0,.int .u8 0,.int .u8 0,.int .u8 0,.nilFunc,.pointer none,.int .i32 0,.int .i32 0],aN:=[(0,12,1),(1,12,1),(2,259,1),(3,282,1),(4,5,1),(5,5,1),(6,283,1),(7,284,1),(8,285,1),(9,286,1),(10,287,1)] }:=by kernel_rfl
theorem U3:ty Tryz.prog 289 = { kind:=3,size:=11,bytes:=48,elem:=0,len:=0,zero:=some [.int .u64 0,.int .u64 0,.int .u32 0,.int .u8 0,.int .u8 0,.int .u8 0,.int .u8 0,.nilFunc,.pointer none,.int .i32 0,.int .i32 0],aN:=[(0,12,1),(1,12,1),(2,259,1),(3,282,1),(4,5,1),(5,5,1),(6,283,1),(7,284,1),(8,285,1),(9,286,1),(10,287,1)] }:=by kernel_rfl
theorem U4:Tryz.prog.underlying 2=some (.int .i64):=by kernel_rfl
theorem U5:Tryz.prog.underlying 3=some (.int .i64):=by kernel_rfl
theorem U6:Tryz.prog.underlying 5=some (.int .u8):=by kernel_rfl
theorem U7:Tryz.prog.underlying 6=some (.int .u8):=by kernel_rfl
theorem U8:Tryz.prog.underlying 12=some (.int .u64):=by kernel_rfl
theorem U9:Tryz.prog.underlying 21=some (.int .i32):=by kernel_rfl
theorem U':Tryz.prog.underlying 33=some (.int .i64):=by kernel_rfl
theorem Ve:Tryz.prog.underlying 238=some (.int .u64):=by kernel_rfl
theorem Vf:Tryz.prog.underlying 259=some (.int .u32):=by kernel_rfl
theorem Vg:Tryz.prog.underlying 262=some (.int .u64):=by kernel_rfl
theorem Vh:Tryz.prog.underlying 282=some (.int .u8):=by kernel_rfl
theorem Vi:Tryz.prog.underlying 283=some (.int .u8):=by kernel_rfl
theorem Vj:Tryz.prog.underlying 286=some (.int .i32):=by kernel_rfl
theorem Vk:Tryz.prog.underlying 287=some (.int .i32):=by kernel_rfl
theorem Vl:zeroV Tryz.prog 258=some (.map none):=by kernel_rfl
theorem Vm:zR Tryz.prog 257=0:=by kernel_rfl
theorem Vn:ko Tryz.prog 257 0:=ko.int (kt:=3) (et:=258) (by kernel_rfl) (by kernel_rfl)
theorem Vo:zeroV Tryz.prog 3=some (.int .i64 0):=by kernel_rfl
theorem Vp:zR Tryz.prog 258=0:=by kernel_rfl
theorem Vq:ko Tryz.prog 258 0:=ko.int (kt:=3) (et:=3) (by kernel_rfl) (by kernel_rfl)
theorem Vr:zeroV Tryz.prog 4=some (.bool false):=by kernel_rfl
theorem Vs:zR Tryz.prog 266=0:=by kernel_rfl
theorem Vt:ko Tryz.prog 266 0:=ko.int (kt:=3) (et:=4) (by kernel_rfl) (by kernel_rfl)
theorem Vu:uQ Tryz.prog 9=false:=by kernel_rfl
theorem Vv:uQ Tryz.prog 245=false:=by kernel_rfl
theorem Vw:uQ Tryz.prog 248=false:=by kernel_rfl
theorem Vx : v7 Tryz.prog 248 "Len" = some (224, some 243) := by kernel_rfl
theorem Vy : v7 Tryz.prog 248 "Less" = some (225, some 243) := by kernel_rfl
theorem Vz : v7 Tryz.prog 248 "Pop" = some (227, none) := by kernel_rfl
theorem VA : v7 Tryz.prog 248 "Swap" = some (226, some 243) := by kernel_rfl
theorem sU:type_of% S5∧type_of% S6∧type_of% S7∧type_of% S8∧type_of% S9∧type_of% S'∧type_of% Ta∧type_of% Tb∧type_of% Td∧type_of% Te∧type_of% Tf∧type_of% Tg∧type_of% Th∧type_of% Ti∧type_of% Tj∧type_of% Tk∧type_of% Tl∧type_of% Tm∧type_of% Tn∧type_of% To∧type_of% Tp∧type_of% Tq∧type_of% Ts∧type_of% Tt∧type_of% Tu∧type_of% Tv∧type_of% Tw∧type_of% Tx∧type_of% Tz∧type_of% TA∧type_of% TB∧type_of% TC∧type_of% TD∧type_of% TE∧type_of% TF∧type_of% TG∧type_of% TH∧type_of% TI∧type_of% TJ∧type_of% TK∧type_of% TL∧type_of% TM∧type_of% TN∧type_of% TO∧type_of% TP∧type_of% TQ∧type_of% TR∧type_of% TS∧type_of% TT∧type_of% TU∧type_of% TV∧type_of% TW∧type_of% TX∧type_of% TY∧type_of% TZ∧type_of% T1∧type_of% T2∧type_of% T3∧type_of% T4∧type_of% T5∧type_of% T6∧type_of% T7∧type_of% T8∧type_of% T9∧type_of% T'∧type_of% Ua∧type_of% Ub∧type_of% Uc∧type_of% Ud∧type_of% Ue∧type_of% Uf∧type_of% Ug∧type_of% Uh∧type_of% Ui∧type_of% Uj∧type_of% Uk∧type_of% Ul∧type_of% Um∧type_of% Un∧type_of% Uo∧type_of% Uq∧type_of% Ur∧type_of% Us∧type_of% Ut∧type_of% Uu∧type_of% Uv∧type_of% Uw∧type_of% Ux∧type_of% Uy∧type_of% Uz∧type_of% UA∧type_of% UB∧type_of% UC∧type_of% UD∧type_of% UE∧type_of% UF∧type_of% UG∧type_of% UH∧type_of% UJ∧type_of% UK∧type_of% UL∧type_of% UM∧type_of% UN∧type_of% UO∧type_of% UP∧type_of% UQ∧type_of% UR∧type_of% US∧type_of% UT∧type_of% UU∧type_of% UW∧type_of% UX∧type_of% UY∧type_of% UZ∧type_of% U0∧type_of% U1∧type_of% U2∧type_of% U3∧type_of% U4∧type_of% U5∧type_of% U6∧type_of% U7∧type_of% U8∧type_of% U9∧type_of% U'∧type_of% Ve∧type_of% Vf∧type_of% Vg∧type_of% Vh∧type_of% Vi∧type_of% Vj∧type_of% Vk∧type_of% Vl∧type_of% Vm∧type_of% Vn∧type_of% Vo∧type_of% Vp∧type_of% Vq∧type_of% Vr∧type_of% Vs∧type_of% Vt∧type_of% Vu∧type_of% Vv∧type_of% Vw∧type_of% Vx∧type_of% Vy∧type_of% Vz∧type_of% VA :=
  ⟨S5,S6,S7,S8,S9,S',Ta,Tb,Td,Te,Tf,Tg,Th,Ti,Tj,Tk,Tl,Tm,Tn,To,Tp,Tq,Ts,Tt,Tu,Tv,Tw,Tx,Tz,TA,TB,TC,TD,TE,TF,TG,TH,TI,TJ,TK,TL,TM,TN,TO,TP,TQ,TR,TS,TT,TU,TV,TW,TX,TY,TZ,T1,T2,T3,T4,T5,T6,T7,T8,T9,T',Ua,Ub,Uc,Ud,Ue,Uf,Ug,Uh,Ui,Uj,Uk,Ul,Um,Un,Uo,Uq,Ur,Us,Ut,Uu,Uv,Uw,Ux,Uy,Uz,UA,UB,UC,UD,UE,UF,UG,UH,UJ,UK,UL,UM,UN,UO,UP,UQ,UR,US,UT,UU,UW,UX,UY,UZ,U0,U1,U2,U3,U4,U5,U6,U7,U8,U9,U',Ve,Vf,Vg,Vh,Vi,Vj,Vk,Vl,Vm,Vn,Vo,Vp,Vq,Vr,Vs,Vt,Vu,Vv,Vw,Vx,Vy,Vz,VA⟩
theorem Ac:type_of% @sU∧type_of% @Bc∧type_of% @Sc∧type_of% @Rc :=
  ⟨@sU,@Bc,@Sc,@Rc⟩
theorem Kc:type_of% @sg∧type_of% @Lc∧type_of% @sU∧type_of% @Rc :=
  ⟨@sg,@Lc,@sU,@Rc⟩
theorem Oc:type_of% @ox.eq_1∧type_of% @ox.eq_2∧type_of% @or_true∧type_of% @false_or∧type_of% @Bc∧type_of% @Sc∧type_of% @Rc :=
  ⟨@ox.eq_1,@ox.eq_2,@or_true,@false_or,@Bc,@Sc,@Rc⟩
theorem Hr:type_of% @qR.eq_1∧type_of% @qR.eq_2∧type_of% @Bc∧type_of% @Rc∧type_of% @sg∧type_of% @Lc∧type_of% @sU∧type_of% @and_true∧type_of% @uN∧type_of% @Ea :=
  ⟨@qR.eq_1,@qR.eq_2,@Bc,@Rc,@sg,@Lc,@sU,@and_true,@uN,@Ea⟩
theorem Tc:type_of% @Has.eq_1∧type_of% @Has.eq_2∧type_of% @bU.{0}∧type_of% @dI.{0}∧type_of% @pj.{0}∧type_of% @eK∧type_of% @sg∧type_of% @Lc∧type_of% @sU∧type_of% @Rc∧type_of% @and_true∧type_of% @uN∧type_of% @Ea :=
  ⟨@Has.eq_1,@Has.eq_2,@bU.{0},@dI.{0},@pj.{0},@eK,@sg,@Lc,@sU,@Rc,@and_true,@uN,@Ea⟩
theorem Qc:type_of% @z5.eq_1∧type_of% @z5.eq_2∧type_of% @fi.eq_1∧type_of% @fi.eq_2∧type_of% @fi.eq_3∧type_of% @ew.eq_1∧type_of% @SJ∧type_of% @SK∧type_of% @pj.{0}∧type_of% @sg∧type_of% @Lc∧type_of% @sU∧type_of% @Rc :=
  ⟨@z5.eq_1,@z5.eq_2,@fi.eq_1,@fi.eq_2,@fi.eq_3,@ew.eq_1,@SJ,@SK,@pj.{0},@sg,@Lc,@sU,@Rc⟩
inductive Sq (P:Program) (N n0:Nat) (y:Code) (Q:Exit→St→Prop):Exit→St→Prop
  | n (s:St) (h:W P N n0 y Q s):Sq P N n0 y Q .normal s
  | e (e:Exit) (s:St) (hi:sR e=false) (h:Q e s):Sq P N n0 y Q e s
inductive Bq (id:Nat) (Q:Exit→St→Prop):Exit→St→Prop
  | n (s:St) (h:Q .normal s):Bq id Q .normal s
  | x (s:St) (h:Q .normal s):Bq id Q (.exit id) s
  | e (e:Exit) (s:St) (hi:CX id e=false) (h:Q e s):Bq id Q e s
section
variable {P:Program} {N n0:Nat} {σ:St} {Q:Exit→St→Prop}
theorem Xk {x y:Code} (h:W P N n0 x (Sq P N n0 y Q) σ):W P N n0 (.seq x y) Q σ:=Wk fun _ h1 h2=>N5 h fun _ _ h=>by
  cases h with
  | n _ h=>exact h1 _ h
  | e _ _ hi h=>exact h2 _ _ hi h
theorem Xb {id:Nat} {c:Code} (h:W P N n0 c (Bq id Q) σ):W P N n0 (.block id c) Q σ:=Wb fun _ h1 h2 h3=>N5 h fun _ _ h=>by
  cases h with
  | n _ h=>exact h1 _ h
  | x _ h=>exact h2 _ h
  | e _ _ hi h=>exact h3 _ _ hi h
theorem hn {y:Code} (s:St) (h:W P N n0 y Q s):Sq P N n0 y Q .normal s:=.n s h
theorem he {y:Code} (e:Exit) (s:St) (hi:sR e=false) (h:Q e s):Sq P N n0 y Q e s:=.e e s hi h
theorem py {id:Nat} (s:St) (h:Q .normal s):Bq id Q .normal s:=.n s h
theorem VB {x y:Code} (h:∀ Q':Exit→St→Prop,(∀ s,W P N n0 y Q s→Q' .normal s)→(∀ e s,sR e=false→Q e s→Q' e s)→W P N n0 x Q' σ):W P N n0 x (Sq P N n0 y Q) σ:=h _ .n .e
theorem VC {x y z:Code} (h:∀ Q':Exit→St→Prop,(∀ s,W P N n0 y Q s→Q' .normal s)→(∀ e s,sR e=false→Q e s→Q' e s)→W P N n0 x (Sq P N n0 z Q') σ):W P N n0 x (Sq P N n0 z (Sq P N n0 y Q)) σ:=h _ .n .e
theorem aci {x y z:Code} {id:Nat} (h:∀ Q':Exit→St→Prop,(∀ s,W P N n0 y Q s→Q' .normal s)→(∀ e s,sR e=false→Q e s→Q' e s)→W P N n0 x (Sq P N n0 z (Bq id Q')) σ):W P N n0 x (Sq P N n0 z (Bq id (Sq P N n0 y Q))) σ:=h _ .n .e
end
theorem X0:True:=trivial
theorem X2 {a b:Prop} (x:a) (y:b):a∧b:=⟨x,y⟩
theorem X3 {a b c:Prop} (x:a) (y:b) (z:c):a∧b∧c:=⟨x,y,z⟩
theorem X4 {a b c d:Prop} (x:a) (y:b) (z:c) (u:d):a∧b∧c∧d:=⟨x,y,z,u⟩
theorem X5 {a b c d e:Prop} (x:a) (y:b) (z:c) (u:d) (v:e):a∧b∧c∧d∧e:=⟨x,y,z,u,v⟩
theorem Xr {p q e:Prop} (x:e) (h:q) (k:e→q→p:=by first|(intro hx hq;(first|refine rr ?_|refine uv ?_);intro K hK;simp (disch:=omega) only[Ac,↓Pc,simprocAttr,hx];revert hK;revert K;exact hq)|fail):p:=k x h
theorem Xq {p q e:Prop} (x:e) (h:q) (k:e→q→p:=by first|(intro hx hq;(first|refine rr ?_|refine uv ?_|refine rb ?_|refine CY ?_|refine ra ?_|refine CZ ?_);intro K hK;simp (disch:=omega) only[Ac,↓Pc,simprocAttr,hx];revert hK;revert K;exact hq)|fail):p:=k x h
theorem Xo {p q e:Prop} (x:e) (h:q) (k:e→q→p:=by first|(intro hx hq;with_reducible refine gO ?_;simp (disch:=omega) only[Ac,↓Pc,simprocAttr,hx];exact hq)|fail):p:=k x h
theorem Xc {p q t:Prop} (c:t) (h:q) (k:t→q→p:=by first|(intro hc hq;(first|refine bY hc rfl rfl ?_|refine bZ hc rfl rfl ?_);exact hq)|fail):p:=k c h
theorem Xg {p q r e:Prop} (x:e) (h:q) (h2:r) (k:e→q→r→p∧True:=by first|(intro hx hq hr;refine And.intro ?_ ?_;(with_reducible refine gS (fun da=>?_) (fun da=>?_));(focus (have hb:=da;(try simp only[zT,simprocAttr] at hb);all_goals (simp (disch:=omega) only[Ac,↓Pc,simprocAttr,hx,da]);all_goals (clear da;revert hb;exact hq)));(focus (have hb:=da;(try simp only[zT,simprocAttr] at hb);all_goals (simp (disch:=omega) only[Ac,↓Pc,simprocAttr,hx,da]);all_goals (clear da;revert hb;exact hr)));((try have _:True:=hq);(try have _:True:=hr);trivial))|fail):p:=(k x h h2).1
theorem Xi {p q r:Prop} (h:q) (h2:r) (k:q→r→p∧True:=by first|(intro hq hr;refine And.intro ?_ ?_;refine Wc ?_ ?_;(focus (intro ht;(try simp only[zT,simprocAttr] at ht);all_goals (revert ht;exact hq)));(focus (intro ht;(try simp only[zT,simprocAttr] at ht);all_goals (revert ht;exact hr)));((try have _:True:=hq);(try have _:True:=hr);trivial))|fail):p:=(k h h2).1
theorem Xz {p q:Prop} (h:q) (k:q→p:=by first|(intro hq;(first|refine Wz rfl ?_|refine Xk ?_|refine Xb ?_|refine Sq.n _ ?_|refine Sq.e _ _ rfl ?_|refine Bq.n _ ?_|refine Bq.x _ ?_|refine Bq.e _ _ rfl ?_|refine hn _ ?_|refine he _ _ rfl ?_);(repeat (first|refine Wz rfl ?_|refine Xk ?_|refine Xb ?_|refine Sq.n _ ?_|refine Sq.e _ _ rfl ?_|refine Bq.n _ ?_|refine Bq.x _ ?_|refine Bq.e _ _ rfl ?_|refine hn _ ?_|refine he _ _ rfl ?_));exact hq)|fail):p:=k h
theorem Xh {p q:Prop} (h:q) (k:q→p:=by first|(intro hq;(first|refine aq _ _ rfl ?_|refine bd _ _ rfl ?_|refine eI _ _ rfl ?_|refine uw _ _ rfl ?_);exact hq)|fail):p:=k h
theorem Xu {p q:Prop} (h:q) (k:q→p:=by first|(intro hq;(first|refine Sq.n _ ?_|refine Sq.e _ _ rfl ?_|refine Bq.n _ ?_|refine Bq.x _ ?_|refine Bq.e _ _ rfl ?_|refine hn _ ?_|refine he _ _ rfl ?_|refine aq _ _ rfl ?_|refine bd _ _ rfl ?_|refine eI _ _ rfl ?_|refine uw _ _ rfl ?_);exact hq)|fail):p:=k h
theorem Xe {p q:Prop} (h:q) (k:q→p:=by first|(intro hq;simp only[Qc,Kc,simprocAttr];exact hq)|fail):p:=k h
theorem Xy {p q:Prop} (h:q) (k:q→p:=by first|(intro hq;refine Xz ?_;exact hq)|(intro hq;refine Xe ?_;exact hq)|fail):p:=k h
theorem XY {p q:Prop} (h:q) (k:q→p:=by first|(intro hq;refine Xz ?_;exact hq)|(intro hq;refine Xh ?_;exact hq)|(intro hq;refine Xe ?_;exact hq)|fail):p:=k h
theorem Xx {p:Prop} (h:p:=by first|omega|with_reducible rfl|exact trivial|fail):p:=h
theorem Xl {n0:Nat} {e:Nat→AV} {os:List Ob} {v res:AV} {bh:List Ob} (ho:os=bh) (h:v=res) (hl:n0≤bh.length:=by (simp only[List.length_cons,List.length_nil];omega)):nK n0 ⟨e,os⟩ v res bh:=fW ho hl h
theorem Xd {p q r:Prop} (h:q) (h2:r) (k:q→r→p:=by first|(intro hq hr;with_reducible refine And.intro ?_ ?_;exact hq;exact hr)|fail):p:=k h h2
theorem Xv {n0:Nat} {σ S:St} {e:Prop} (x:e) (k:e→aQ n0 σ S:=by first|(intro hx;refine aQ.aw _ _ rfl ?_;simp only[Tc,↓reduceIte,reduceEqDiff,Nat.reduceBEq,reduceAdd,hx];(try trivial);done)|fail):aQ n0 σ S:=k x
theorem Xs {n0:Nat} {σ:St} {l:List (Nat × AV)} {co:List Ob} {e:Prop} (snap:Bool) (an:List Nat) (x:e) (h1:e→ox (a9 σ.aa.length an) σ.aa an co:=by (intro hx;simp only[Oc,simprocAttr,hx])) (h2:e→qR (aO σ (kept an co) (a9 σ.aa.length an) snap) σ.env l:=by (intro hx;simp only[Hr,↓reduceIte,reduceEqDiff,Nat.reduceBEq,reduceAdd,hx];(try (and_intros<;>first|exact .pure rfl|exact .eq rfl|exact .fz rfl (by simp only[Bc,Rc]))))) (bC:an.Nodup:=by decide) (hn:n0≤an.length:=by decide) (cT:∀ i,i<n0→an.getD i 0=i:=by decide):aQ n0 σ ⟨aw l,co⟩:=aQ.se an snap (h1 x) (h2 x) bC hn cT
theorem Xw {n0:Nat} {σ:St} {v res:AV} {bh:List Ob} {e:Prop} (snap:Bool) (an:List Nat) (x:e) (h1:e→ox (a9 σ.aa.length an) σ.aa an bh:=by (intro hx;simp only[Oc,simprocAttr,hx])) (h2:aO σ (kept an bh) (a9 σ.aa.length an) snap res v:=by first|exact .pure rfl|exact .eq rfl|exact .fz rfl (by simp only[Bc,Rc])) (bC:an.Nodup:=by decide) (hn:n0≤an.length:=by decide) (cT:∀ i,i<n0→an.getD i 0=i:=by decide):nK n0 σ v res bh:=JJ an snap (h1 x) h2 bC hn cT
theorem Xn (an:List Nat) {P:Program} {σ:St} {f:FuncId} {args cU:List AV} {bN:List Ob} {dst:Option Tmp} {K:St→Prop} {res:AV} {cA:List Ob} (h:ao P f cU bN res cA)
    (hK:K (({ σ with aa:=dQ σ.aa an (cA.map (bD (a9 σ.aa.length an))) }:St).put dst (aX (a9 σ.aa.length an) res)))
    (bC:an.Nodup:=by decide) (ho:uR (a9 σ.aa.length an) σ.aa an bN:=by ((repeat' (first|exact trivial|with_reducible refine And.intro ?_ ?_|refine And.intro ?_ ?_))<;>first|rfl|(rw[wg];rfl)|(rw[xY];rfl)|(rw[Ai];rfl)|(rw[Eg];rfl))) (ha:iK (aO σ (·∈an) (a9 σ.aa.length an) false) cU args:=by ((repeat' (first|exact trivial|refine And.intro ?_ ?_))<;>(first|exact .pure rfl|exact .eq rfl|exact .fz rfl (by simp only[Bc,Rc])))):p7 P f args dst K σ:=ig an h bC ho ha hK
theorem Xf (an:List Nat) {P:Program} {σ:St} {f:FuncId} {args cU:List AV} {bN:List Ob} {dst:Option Tmp} {K:St→Prop} {res:AV} {cA:List Ob} (h:ao P f cU bN res cA)
    (hK:K (({ σ with aa:=dQ σ.aa an (cA.map (bD (a9 σ.aa.length an))) }:St).put dst (aX (a9 σ.aa.length an) res)))
    (bC:an.Nodup:=by decide) (ho:uR (a9 σ.aa.length an) σ.aa an bN:=by ((repeat' (first|exact trivial|with_reducible refine And.intro ?_ ?_|refine And.intro ?_ ?_))<;>first|rfl|(rw[wg];rfl)|(rw[xY];rfl)|(rw[Ai];rfl)|(rw[Eg];rfl))) (ha:iK (aO σ (·∈an) (a9 σ.aa.length an) true) cU args:=by ((repeat' (first|exact trivial|refine And.intro ?_ ?_))<;>(first|exact .pure rfl|exact .eq rfl|exact .fz rfl (by simp only[Bc,Rc])))) (eE:flat res=true:=by rfl) (xU:∀ o∈cA,uS o:=by simp[uS]):p7 P f args dst K σ:=oz an h bC ho ha eE xU hK
theorem Pw:type_of% @NL∧type_of% @zV∧type_of% @wc∧type_of% @we∧type_of% @cL.eq_1∧type_of% @dS.eq_1:=⟨@NL,@zV,@wc,@we,@cL.eq_1,@dS.eq_1⟩
theorem Va {p q e:Prop} (x:e) (h:q) (k:e→q→p:=by first|(intro hx hq;(try with_reducible intro K hK);(first|((first|refine rr ?_|refine uv ?_);intro K hK;simp (disch:=omega) only[Ac,↓Pc,simprocAttr,hx];show _)|(with_reducible refine gO ?_;simp (disch:=omega) only[Ac,↓Pc,simprocAttr,hx];show _)|(refine hK _ ?_;clear hK K)|refine Wz rfl ?_|refine Xk ?_|refine Xb ?_|refine Sq.n _ ?_|refine Sq.e _ _ rfl ?_|refine Bq.n _ ?_|refine Bq.x _ ?_|refine Bq.e _ _ rfl ?_|refine hn _ ?_|refine he _ _ rfl ?_|(simp only[Qc,Kc,simprocAttr];show _)|(with_reducible refine And.intro ?_ ?_;(focus (clear hq;first|omega|with_reducible rfl|exact trivial))));(repeat (first|((first|refine rr ?_|refine uv ?_);intro K hK;simp (disch:=omega) only[Ac,↓Pc,simprocAttr,hx];show _)|(with_reducible refine gO ?_;simp (disch:=omega) only[Ac,↓Pc,simprocAttr,hx];show _)|(refine hK _ ?_;clear hK K)|refine Wz rfl ?_|refine Xk ?_|refine Xb ?_|refine Sq.n _ ?_|refine Sq.e _ _ rfl ?_|refine Bq.n _ ?_|refine Bq.x _ ?_|refine Bq.e _ _ rfl ?_|refine hn _ ?_|refine he _ _ rfl ?_|(simp only[Qc,Kc,simprocAttr];show _)|(with_reducible refine And.intro ?_ ?_;(focus (clear hq;first|omega|with_reducible rfl|exact trivial)))));(try revert hK);(try revert K);exact hq)|fail):p:=k x h
theorem Vb {p q e:Prop} (x:e) (h:q) (k:e→q→p:=by first|(intro hx hq;(try with_reducible intro K hK);(first|((first|refine rr ?_|refine uv ?_);intro K hK;simp (disch:=omega) only[Ac,↓Pc,simprocAttr,hx];show _)|(with_reducible refine gO ?_;simp (disch:=omega) only[Ac,↓Pc,simprocAttr,hx];show _)|(refine hK _ ?_;clear hK K)|refine Wz rfl ?_|refine Xk ?_|refine Xb ?_|refine Sq.n _ ?_|refine Sq.e _ _ rfl ?_|refine Bq.n _ ?_|refine Bq.x _ ?_|refine Bq.e _ _ rfl ?_|refine hn _ ?_|refine he _ _ rfl ?_|refine aq _ _ rfl ?_|refine bd _ _ rfl ?_|refine eI _ _ rfl ?_|refine uw _ _ rfl ?_|(simp only[Qc,Kc,simprocAttr];show _)|(with_reducible refine And.intro ?_ ?_;(focus (clear hq;first|omega|with_reducible rfl|exact trivial))));(repeat (first|((first|refine rr ?_|refine uv ?_);intro K hK;simp (disch:=omega) only[Ac,↓Pc,simprocAttr,hx];show _)|(with_reducible refine gO ?_;simp (disch:=omega) only[Ac,↓Pc,simprocAttr,hx];show _)|(refine hK _ ?_;clear hK K)|refine Wz rfl ?_|refine Xk ?_|refine Xb ?_|refine Sq.n _ ?_|refine Sq.e _ _ rfl ?_|refine Bq.n _ ?_|refine Bq.x _ ?_|refine Bq.e _ _ rfl ?_|refine hn _ ?_|refine he _ _ rfl ?_|refine aq _ _ rfl ?_|refine bd _ _ rfl ?_|refine eI _ _ rfl ?_|refine uw _ _ rfl ?_|(simp only[Qc,Kc,simprocAttr];show _)|(with_reducible refine And.intro ?_ ?_;(focus (clear hq;first|omega|with_reducible rfl|exact trivial)))));(try revert hK);(try revert K);exact hq)|fail):p:=k x h
theorem Vc {p q e t:Prop} (x:e) (c:t) (h:q) (k:e→t→q→p:=by first|(intro hx hc hq;(try with_reducible intro K hK);(first|((first|refine rr ?_|refine uv ?_|refine rb ?_|refine CY ?_|refine ra ?_|refine CZ ?_);intro K hK;simp (disch:=omega) only[Ac,↓Pc,simprocAttr,hx];show _)|(with_reducible refine gO ?_;simp (disch:=omega) only[Ac,↓Pc,simprocAttr,hx];show _)|(refine hK _ ?_;clear hK K)|refine Wz rfl ?_|refine Xk ?_|refine Xb ?_|refine Sq.n _ ?_|refine Sq.e _ _ rfl ?_|refine Bq.n _ ?_|refine Bq.x _ ?_|refine Bq.e _ _ rfl ?_|refine hn _ ?_|refine he _ _ rfl ?_|(simp only[Qc,Kc,simprocAttr];show _)|(with_reducible refine And.intro ?_ ?_;(focus (clear hq;first|omega|with_reducible rfl|exact trivial)))|refine bY hc rfl rfl ?_|refine bY hc.1 rfl rfl ?_|refine bY hc.2 rfl rfl ?_|refine bY hc.2.1 rfl rfl ?_|refine bY hc.2.2 rfl rfl ?_|refine bY hc.2.2.1 rfl rfl ?_|refine bY hc.2.2.2 rfl rfl ?_|refine bY hc.2.2.2.1 rfl rfl ?_|refine bY hc.2.2.2.2 rfl rfl ?_|refine bY hc.2.2.2.2.1 rfl rfl ?_|refine bY hc.2.2.2.2.2 rfl rfl ?_|refine bY hc.2.2.2.2.2.1 rfl rfl ?_|refine bY hc.2.2.2.2.2.2 rfl rfl ?_|refine bY hc.2.2.2.2.2.2.1 rfl rfl ?_|refine bY hc.2.2.2.2.2.2.2 rfl rfl ?_|refine bY hc.2.2.2.2.2.2.2.1 rfl rfl ?_|refine bY hc.2.2.2.2.2.2.2.2 rfl rfl ?_|refine bZ hc rfl rfl ?_|refine bZ hc.1 rfl rfl ?_|refine bZ hc.2 rfl rfl ?_|refine bZ hc.2.1 rfl rfl ?_|refine bZ hc.2.2 rfl rfl ?_|refine bZ hc.2.2.1 rfl rfl ?_|refine bZ hc.2.2.2 rfl rfl ?_|refine bZ hc.2.2.2.1 rfl rfl ?_|refine bZ hc.2.2.2.2 rfl rfl ?_|refine bZ hc.2.2.2.2.1 rfl rfl ?_|refine bZ hc.2.2.2.2.2 rfl rfl ?_|refine bZ hc.2.2.2.2.2.1 rfl rfl ?_|refine bZ hc.2.2.2.2.2.2 rfl rfl ?_|refine bZ hc.2.2.2.2.2.2.1 rfl rfl ?_|refine bZ hc.2.2.2.2.2.2.2 rfl rfl ?_|refine bZ hc.2.2.2.2.2.2.2.1 rfl rfl ?_|refine bZ hc.2.2.2.2.2.2.2.2 rfl rfl ?_);(repeat (first|((first|refine rr ?_|refine uv ?_|refine rb ?_|refine CY ?_|refine ra ?_|refine CZ ?_);intro K hK;simp (disch:=omega) only[Ac,↓Pc,simprocAttr,hx];show _)|(with_reducible refine gO ?_;simp (disch:=omega) only[Ac,↓Pc,simprocAttr,hx];show _)|(refine hK _ ?_;clear hK K)|refine Wz rfl ?_|refine Xk ?_|refine Xb ?_|refine Sq.n _ ?_|refine Sq.e _ _ rfl ?_|refine Bq.n _ ?_|refine Bq.x _ ?_|refine Bq.e _ _ rfl ?_|refine hn _ ?_|refine he _ _ rfl ?_|(simp only[Qc,Kc,simprocAttr];show _)|(with_reducible refine And.intro ?_ ?_;(focus (clear hq;first|omega|with_reducible rfl|exact trivial)))|refine bY hc rfl rfl ?_|refine bY hc.1 rfl rfl ?_|refine bY hc.2 rfl rfl ?_|refine bY hc.2.1 rfl rfl ?_|refine bY hc.2.2 rfl rfl ?_|refine bY hc.2.2.1 rfl rfl ?_|refine bY hc.2.2.2 rfl rfl ?_|refine bY hc.2.2.2.1 rfl rfl ?_|refine bY hc.2.2.2.2 rfl rfl ?_|refine bY hc.2.2.2.2.1 rfl rfl ?_|refine bY hc.2.2.2.2.2 rfl rfl ?_|refine bY hc.2.2.2.2.2.1 rfl rfl ?_|refine bY hc.2.2.2.2.2.2 rfl rfl ?_|refine bY hc.2.2.2.2.2.2.1 rfl rfl ?_|refine bY hc.2.2.2.2.2.2.2 rfl rfl ?_|refine bY hc.2.2.2.2.2.2.2.1 rfl rfl ?_|refine bY hc.2.2.2.2.2.2.2.2 rfl rfl ?_|refine bZ hc rfl rfl ?_|refine bZ hc.1 rfl rfl ?_|refine bZ hc.2 rfl rfl ?_|refine bZ hc.2.1 rfl rfl ?_|refine bZ hc.2.2 rfl rfl ?_|refine bZ hc.2.2.1 rfl rfl ?_|refine bZ hc.2.2.2 rfl rfl ?_|refine bZ hc.2.2.2.1 rfl rfl ?_|refine bZ hc.2.2.2.2 rfl rfl ?_|refine bZ hc.2.2.2.2.1 rfl rfl ?_|refine bZ hc.2.2.2.2.2 rfl rfl ?_|refine bZ hc.2.2.2.2.2.1 rfl rfl ?_|refine bZ hc.2.2.2.2.2.2 rfl rfl ?_|refine bZ hc.2.2.2.2.2.2.1 rfl rfl ?_|refine bZ hc.2.2.2.2.2.2.2 rfl rfl ?_|refine bZ hc.2.2.2.2.2.2.2.1 rfl rfl ?_|refine bZ hc.2.2.2.2.2.2.2.2 rfl rfl ?_));(try revert hK);(try revert K);exact hq)|fail):p:=k x c h
theorem Vd {p q e t:Prop} (x:e) (c:t) (h:q) (k:e→t→q→p:=by first|(intro hx hc hq;(try with_reducible intro K hK);(first|((first|refine rr ?_|refine uv ?_|refine rb ?_|refine CY ?_|refine ra ?_|refine CZ ?_);intro K hK;simp (disch:=omega) only[Ac,↓Pc,simprocAttr,hx];show _)|(with_reducible refine gO ?_;simp (disch:=omega) only[Ac,↓Pc,simprocAttr,hx];show _)|(refine hK _ ?_;clear hK K)|refine Wz rfl ?_|refine Xk ?_|refine Xb ?_|refine Sq.n _ ?_|refine Sq.e _ _ rfl ?_|refine Bq.n _ ?_|refine Bq.x _ ?_|refine Bq.e _ _ rfl ?_|refine hn _ ?_|refine he _ _ rfl ?_|refine aq _ _ rfl ?_|refine bd _ _ rfl ?_|refine eI _ _ rfl ?_|refine uw _ _ rfl ?_|(simp only[Qc,Kc,simprocAttr];show _)|(with_reducible refine And.intro ?_ ?_;(focus (clear hq;first|omega|with_reducible rfl|exact trivial)))|refine bY hc rfl rfl ?_|refine bY hc.1 rfl rfl ?_|refine bY hc.2 rfl rfl ?_|refine bY hc.2.1 rfl rfl ?_|refine bY hc.2.2 rfl rfl ?_|refine bY hc.2.2.1 rfl rfl ?_|refine bY hc.2.2.2 rfl rfl ?_|refine bY hc.2.2.2.1 rfl rfl ?_|refine bY hc.2.2.2.2 rfl rfl ?_|refine bY hc.2.2.2.2.1 rfl rfl ?_|refine bY hc.2.2.2.2.2 rfl rfl ?_|refine bY hc.2.2.2.2.2.1 rfl rfl ?_|refine bY hc.2.2.2.2.2.2 rfl rfl ?_|refine bY hc.2.2.2.2.2.2.1 rfl rfl ?_|refine bY hc.2.2.2.2.2.2.2 rfl rfl ?_|refine bY hc.2.2.2.2.2.2.2.1 rfl rfl ?_|refine bY hc.2.2.2.2.2.2.2.2 rfl rfl ?_|refine bZ hc rfl rfl ?_|refine bZ hc.1 rfl rfl ?_|refine bZ hc.2 rfl rfl ?_|refine bZ hc.2.1 rfl rfl ?_|refine bZ hc.2.2 rfl rfl ?_|refine bZ hc.2.2.1 rfl rfl ?_|refine bZ hc.2.2.2 rfl rfl ?_|refine bZ hc.2.2.2.1 rfl rfl ?_|refine bZ hc.2.2.2.2 rfl rfl ?_|refine bZ hc.2.2.2.2.1 rfl rfl ?_|refine bZ hc.2.2.2.2.2 rfl rfl ?_|refine bZ hc.2.2.2.2.2.1 rfl rfl ?_|refine bZ hc.2.2.2.2.2.2 rfl rfl ?_|refine bZ hc.2.2.2.2.2.2.1 rfl rfl ?_|refine bZ hc.2.2.2.2.2.2.2 rfl rfl ?_|refine bZ hc.2.2.2.2.2.2.2.1 rfl rfl ?_|refine bZ hc.2.2.2.2.2.2.2.2 rfl rfl ?_);(repeat (first|((first|refine rr ?_|refine uv ?_|refine rb ?_|refine CY ?_|refine ra ?_|refine CZ ?_);intro K hK;simp (disch:=omega) only[Ac,↓Pc,simprocAttr,hx];show _)|(with_reducible refine gO ?_;simp (disch:=omega) only[Ac,↓Pc,simprocAttr,hx];show _)|(refine hK _ ?_;clear hK K)|refine Wz rfl ?_|refine Xk ?_|refine Xb ?_|refine Sq.n _ ?_|refine Sq.e _ _ rfl ?_|refine Bq.n _ ?_|refine Bq.x _ ?_|refine Bq.e _ _ rfl ?_|refine hn _ ?_|refine he _ _ rfl ?_|refine aq _ _ rfl ?_|refine bd _ _ rfl ?_|refine eI _ _ rfl ?_|refine uw _ _ rfl ?_|(simp only[Qc,Kc,simprocAttr];show _)|(with_reducible refine And.intro ?_ ?_;(focus (clear hq;first|omega|with_reducible rfl|exact trivial)))|refine bY hc rfl rfl ?_|refine bY hc.1 rfl rfl ?_|refine bY hc.2 rfl rfl ?_|refine bY hc.2.1 rfl rfl ?_|refine bY hc.2.2 rfl rfl ?_|refine bY hc.2.2.1 rfl rfl ?_|refine bY hc.2.2.2 rfl rfl ?_|refine bY hc.2.2.2.1 rfl rfl ?_|refine bY hc.2.2.2.2 rfl rfl ?_|refine bY hc.2.2.2.2.1 rfl rfl ?_|refine bY hc.2.2.2.2.2 rfl rfl ?_|refine bY hc.2.2.2.2.2.1 rfl rfl ?_|refine bY hc.2.2.2.2.2.2 rfl rfl ?_|refine bY hc.2.2.2.2.2.2.1 rfl rfl ?_|refine bY hc.2.2.2.2.2.2.2 rfl rfl ?_|refine bY hc.2.2.2.2.2.2.2.1 rfl rfl ?_|refine bY hc.2.2.2.2.2.2.2.2 rfl rfl ?_|refine bZ hc rfl rfl ?_|refine bZ hc.1 rfl rfl ?_|refine bZ hc.2 rfl rfl ?_|refine bZ hc.2.1 rfl rfl ?_|refine bZ hc.2.2 rfl rfl ?_|refine bZ hc.2.2.1 rfl rfl ?_|refine bZ hc.2.2.2 rfl rfl ?_|refine bZ hc.2.2.2.1 rfl rfl ?_|refine bZ hc.2.2.2.2 rfl rfl ?_|refine bZ hc.2.2.2.2.1 rfl rfl ?_|refine bZ hc.2.2.2.2.2 rfl rfl ?_|refine bZ hc.2.2.2.2.2.1 rfl rfl ?_|refine bZ hc.2.2.2.2.2.2 rfl rfl ?_|refine bZ hc.2.2.2.2.2.2.1 rfl rfl ?_|refine bZ hc.2.2.2.2.2.2.2 rfl rfl ?_|refine bZ hc.2.2.2.2.2.2.2.1 rfl rfl ?_|refine bZ hc.2.2.2.2.2.2.2.2 rfl rfl ?_));(try revert hK);(try revert K);exact hq)|fail):p:=k x c h
theorem V2 {p q r e:Prop} (x:e) (h:q) (h2:r) (k:e→q→r→p∧True:=by first|(intro hx hq hr;refine And.intro ?_ ?_;(try with_reducible intro K hK);(with_reducible refine gS (fun da=>?_) (fun da=>?_));(focus (have hb:=da;(try simp only[zT,simprocAttr] at hb);all_goals (simp (disch:=omega) only[Ac,↓Pc,simprocAttr,hx,da]);all_goals (clear da;(try revert hK);(try revert K);revert hb;exact hq)));(focus (have hb:=da;(try simp only[zT,simprocAttr] at hb);all_goals (simp (disch:=omega) only[Ac,↓Pc,simprocAttr,hx,da]);all_goals (clear da;(try revert hK);(try revert K);revert hb;exact hr)));((try have _:True:=hq);(try have _:True:=hr);trivial))|fail):p:=(k x h h2).1
theorem VD {p q r:Prop} (h:q) (h2:r) (k:q→r→p:=by first|(intro hq hr;(try with_reducible intro K hK);with_reducible refine And.intro ?_ ?_;(focus ((try clear hK K);(try revert hK);(try revert K);exact hq));(focus ((try clear hK K);(try revert hK);(try revert K);exact hr)))|fail):p:=k h h2
end T
namespace T
theorem IB (n m:Int) (hm:fH m):ao Tryz.prog 23 [.lit (.int .i64 n),.lit (.int .i64 m)] [] (.lit (.int .i64 (tQ n m))) []:=by
  unfold fH at hm
  refine ao.aD (fn:=Tryz.f23) 16 0 [.tmp 4] Tryz.func23 rfl rfl rfl rfl rfl (by simp) ?_
  repeat' (first|(refine Xr X0 ?_;intro K hK)|(refine hK _ ?_;clear hK K)|(refine Xi ?_ ?_<;>try intro ht)|refine Xz ?_|(refine Xe ?_;first|refine aE rfl ?_|refine Xl ?_ ?_)|refine Xd ?_ ?_|exact Xx|fail)
  · rw[tQ,if_pos ht]
  · have:=JD n m (by omega);omega
  · rw[tQ,if_neg (by omega),(JD n m (by omega)).1 ht]
  · rw[tQ,if_neg (by omega),(JD n m (by omega)).2.1 ht]
theorem P5 (xs:List Int):ao Tryz.prog 11 [.tree 1 (ints xs)] [] (.lit (.bool (decide (xs.length≤400)))) []:=by
  refine ao.aD (fn:=Tryz.f11) 6 0 [.tmp 2] Tryz.func11 rfl rfl rfl rfl rfl (by simp) ?_
  repeat' (first|(refine Xr X0 ?_;intro K hK)|(refine hK _ ?_;clear hK K)|refine Xz ?_|(refine Xe ?_;first|refine aE rfl ?_|refine Xl ?_ ?_)|fail)
  · congr 3;simp;omega
theorem jB (L:List Int) (k:Nat) (n:Int) (hn:fH n) (hk:k≤L.length) (hL:L.length<1000000):ao Tryz.prog 63 [.ptr 0 0 0,.lit (.int .i64 n)] [.var [.tree 1 (ints L),.lit (.int .i64 k)]] (.lit (.int .i64 (eH L k n)))
    [.var [.tree 1 (ints L),.lit (.int .i64 (cN L k))]]:=by
  refine ao.aD (fn:=Tryz.f63) 35 1 [.tmp 4] Tryz.func63 rfl rfl rfl rfl rfl (by simp) ?_
  repeat' (first|(refine Xq X0 ?_;intro K hK)|refine Xo X0 ?_|refine Xc (IB _ _ hn) ?_|(refine hK _ ?_;clear hK K)|(refine Xi ?_ ?_<;>try intro ht)|refine Xz ?_|(refine Xe ?_;first|refine aE rfl ?_|refine Xl ?_ ?_)|refine Xd ?_ ?_|exact Xx|fail)
  · rw[cN,if_pos (by omega)]
  · rw[eH,if_pos (by omega)]
  · rw[cN,if_neg (by omega),uN];rfl
  · rw[eH,if_neg (by omega),show ((k:Int)+1 - 1).toNat=k by omega]
theorem C6 (L:List Int) (k:Nat) (n:Int) (hn:fH n) (cy:0<n) (hk:k≤L.length) (hL:L.length<1000000):ao Tryz.prog 42 [.ptr 0 0 0,.lit (.int .i64 n)] [.var [.tree 1 (ints L),.lit (.int .i64 k)]] (.lit (.bool (AZ L k n)))
    [.var [.tree 1 (ints L),.lit (.int .i64 (cN L k))]]:=by
  refine ao.aD (fn:=Tryz.f42) 11 1 [.tmp 4] Tryz.func42 rfl rfl rfl rfl rfl (by simp) ?_
  repeat' (first|(refine Xr X0 ?_;intro K hK)|(refine hK _ ?_;clear hK K)|fail)
  refine mu (jB L k n hn hk hL) (by simp) ?_
  unfold fH at hn
  repeat' (first|refine Xo X0 ?_|(refine hK _ ?_;clear hK K)|refine Xz ?_|(refine Xe ?_;first|refine aE rfl ?_|refine Xl ?_ ?_)|refine Xd ?_ ?_|exact Xx|fail)
  · rfl
theorem JW (L:List Int) (k:Nat) (hk:k≤L.length) (hL:L.length<1000000):ao Tryz.prog 64 [.ptr 0 0 0] [.var [.tree 1 (ints L),.lit (.int .i64 k)]] (.lit (.int .i64 (oU L k)))
    [.var [.tree 1 (ints L),.lit (.int .i64 (uj L k))]]:=by
  have h6:=mQ (L:=L) (k:=k) (n:=6) (by omega)
  have h20:=mQ (L:=L) (k:=cN L k) (n:=20) (by omega)
  refine ao.aD (fn:=Tryz.f64) 14 1 [.tmp 2] Tryz.func64 rfl rfl rfl rfl rfl (by simp) ?_
  repeat' (first|(refine Xr X0 ?_;intro K hK)|(refine hK _ ?_;clear hK K)|refine Xz ?_|fail)
  refine mu (jB L k 6 (by unfold fH;omega) hk hL) (by simp) ?_
  have c1:eH L k 6≤3→uj L k=cN L k:=fun h=>by rw[uj,if_pos h]
  have c2:eH L k 6<3→oU L k=0:=fun h=>by rw[oU,if_pos h]
  have c3:eH L k 6=3→oU L k=1099511627776:=fun h=>by rw[oU,if_neg (by omega),if_pos h]
  have c4:¬ eH L k 6≤3→uj L k=cN L (cN L k):=fun h=>by rw[uj,if_neg h]
  have c5:¬ eH L k 6≤3→oU L k=1+eH L (cN L k) 20:=fun h=>by rw[oU,if_neg (by omega),if_neg (by omega)]
  repeat' (first|(refine Xr X0 ?_;intro K hK)|(refine hK _ ?_;clear hK K)|(refine Xi ?_ ?_<;>try intro ht)|refine Xz ?_|(refine Xe ?_;first|refine aE rfl ?_|refine Xl ?_ ?_)|exact Xx|fail)
  iterate 3
    · rw[c1 (by omega)]
    · rw[c2 (by omega)]
  · rw[c1 (by omega)]
  · rw[c3 (by omega)]
  · refine mu (jB L (cN L k) 20 (by unfold fH;omega) (gP hk) hL) (by simp) ?_
    repeat' (first|refine Xo X0 ?_|(refine hK _ ?_;clear hK K)|refine Xz ?_|(refine Xe ?_;first|refine aE rfl ?_|refine Xl ?_ ?_)|refine Xd ?_ ?_|exact Xx|fail)
    · rw[c4 (by omega)]
    · rw[c5 (by omega)]
theorem P6 (L:List Int):ao Tryz.prog 14 [.tree 1 (ints L)] [] (.ptr 0 0 0) [.var [.tree 1 (ints L),.lit (.int .i64 (0:Nat))]]:=by
  refine ao.aD (fn:=Tryz.f14) 6 0 [.tmp 2] Tryz.func14 rfl rfl rfl rfl rfl (by simp) ?_
  refine Vb X0 ?_
  rw[show (0:Int)=((0:Nat):Int) from rfl]
  exact fW rfl (by simp) rfl
theorem adZ (a b:List Int) (hl:a.length<9223372036854775808):ao Tryz.prog 21 [.tree 1 (ints a),.tree 1 (ints b)] [] (.lit (.bool (decide (a=b)))) []:=by
  refine ao.aD (fn:=Tryz.f21) 26 0 [.tmp 4] Tryz.func21 rfl rfl rfl rfl rfl (by simp) ?_
  repeat' (first|(refine Xr X0 ?_;intro K hK)|(refine hK _ ?_;clear hK K)|(refine Xi ?_ ?_<;>try intro ht)|refine Xz ?_|(refine Xe ?_;first|refine aE rfl ?_|refine Xl ?_ ?_)|fail)
  · congr 2;simp;intro h;subst h;exact absurd rfl ht
  · refine aG (fun k:Nat=>(⟨aw [(0,.tree 1 (ints a)),(1,.tree 1 (ints b)),(5,.lit (.int .i64 k))],[]⟩:St)) (fun k=>k≤a.length∧(a=b↔a.drop k=b.drop k)) (fun k=>a.length - k) 0 ⟨aH _,by simp⟩ (Xv X0) ?_
    intro k ⟨hk,hc⟩ Ql ak aq
    repeat' (first|(refine Xr X0 ?_;intro K hK)|(refine hK _ ?_;clear hK K)|(refine Xi ?_ ?_<;>try intro ht)|refine Xz ?_|refine Xh ?_|(refine Xe ?_;first|refine aE rfl ?_|refine Xl ?_ ?_)|refine Xd ?_ ?_|exact Xx|fail)
    · congr 2;simp only[decide_eq_false_iff_not,eq_comm (a:=false)]
      rw[hc,b7 _ _ 0 (by omega),b7 b _ 0 (by omega)]
      simp only[List.cons.injEq]
      exact fun h=>ht h.1
    · refine ak _ (k+1) ⟨by omega,?_⟩ (by omega) (Xv X0)
      rw[hc,b7 _ _ 0 (by omega),b7 b _ 0 (by omega),ht]
      simp
    · congr 2
      rw[show a=b by rw[hc,b6 (by omega),b6 (by omega)]]
      simp
theorem JX (a b:Int) (ha:aS a) (hb:aS b):ao Tryz.prog 168 [.lit (.int .i64 a),.lit (.int .i64 b)] [] (.lit (.int .i64 (cS a b))) []:=by
  unfold aS at *
  refine ao.aD (fn:=Tryz.f168) 9 0 [.tmp 4] Tryz.func168 rfl rfl rfl rfl rfl (by simp) ?_
  repeat' (first|(refine Xr X0 ?_;intro K hK)|(refine hK _ ?_;clear hK K)|refine Xz ?_|(refine Xe ?_;first|refine aE rfl ?_|refine Xl ?_ ?_)|refine Xd ?_ ?_|exact Xx|fail)
  · rfl
theorem C7 (a b:Int) (ha:aS a) (hb:aS b):ao Tryz.prog 100 [.lit (.int .i64 a),.lit (.int .i64 b)] [] (.lit (.int .i64 (cS a b))) []:=by
  unfold aS at *
  refine ao.aD (fn:=Tryz.f100) 9 0 [.tmp 4] Tryz.func100 rfl rfl rfl rfl rfl (by simp) ?_
  repeat' (first|(refine Xr X0 ?_;intro K hK)|(refine hK _ ?_;clear hK K)|refine Xz ?_|(refine Xe ?_;first|refine aE rfl ?_|refine Xl ?_ ?_)|refine Xd ?_ ?_|exact Xx|fail)
  · rfl
theorem JT (n:Int):ao Tryz.prog 140 [.lit (.int .i64 n)] [] (.lit (.bool (fK n))) []:=by
  refine ao.aD (fn:=Tryz.f140) 13 0 [.tmp 2] Tryz.func140 rfl rfl rfl rfl rfl (by simp) ?_
  repeat' (first|(refine Xr X0 ?_;intro K hK)|(refine hK _ ?_;clear hK K)|(refine Xg X0 ?_ ?_<;>try intro hb)|refine Xz ?_|(refine Xe ?_;first|refine aE rfl ?_|refine Xl ?_ ?_)|fail)
  all_goals (refine congrArg (fun b=>AV.lit (Value.bool b)) ?_;rw[mq];simp only[fK,decide_eq_true_eq,beq_iff_eq,bne_iff_ne,a7,jE,jh,decide_eq_false_iff_not,iJ,reduceCtorEq,iff_true,iff_false,true_iff,false_iff,eq_self];omega)
theorem JY (n:Int):ao Tryz.prog 60 [.lit (.int .i64 n)] [] (.lit (.bool (fK n))) []:=by
  refine ao.aD (fn:=Tryz.f60) 13 0 [.tmp 2] Tryz.func60 rfl rfl rfl rfl rfl (by simp) ?_
  repeat' (first|(refine Xr X0 ?_;intro K hK)|(refine hK _ ?_;clear hK K)|(refine Xg X0 ?_ ?_<;>try intro hb)|refine Xz ?_|(refine Xe ?_;first|refine aE rfl ?_|refine Xl ?_ ?_)|fail)
  all_goals (refine congrArg (fun b=>AV.lit (Value.bool b)) ?_;rw[mq];simp only[fK,decide_eq_true_eq,beq_iff_eq,bne_iff_ne,a7,jE,jh,decide_eq_false_iff_not,iJ,reduceCtorEq,iff_true,iff_false,true_iff,false_iff,eq_self];omega)
theorem JS (m:ae) (n:Int):ao Tryz.prog 139 [.agg (au m),.lit (.int .i64 n)] [] (.lit (.bool (iP m.rules n))) []:=by
  refine ao.aD (fn:=Tryz.f139) 13 0 [.tmp 4] Tryz.func139 rfl rfl rfl rfl rfl (by simp) ?_
  repeat' (first|(refine Xr @au.eq_1 ?_;intro K hK)|(refine hK _ ?_;clear hK K)|(refine Xg @au.eq_1 ?_ ?_<;>try intro hb)|refine Xz ?_|(refine Xe ?_;first|refine aE rfl ?_|refine Xl ?_ ?_)|fail)
  all_goals (refine congrArg (fun b=>AV.lit (Value.bool b)) ?_;rw[mq];simp only[iP,decide_eq_true_eq,beq_iff_eq,bne_iff_ne,a7,jE,jh,decide_eq_false_iff_not,iJ,reduceCtorEq,iff_true,iff_false,true_iff,false_iff,eq_self];omega)
theorem JZ (m:ae) (n:Int):ao Tryz.prog 59 [.agg (au m),.lit (.int .i64 n)] [] (.lit (.bool (iP m.rules n))) []:=by
  refine ao.aD (fn:=Tryz.f59) 13 0 [.tmp 4] Tryz.func59 rfl rfl rfl rfl rfl (by simp) ?_
  repeat' (first|(refine Xr @au.eq_1 ?_;intro K hK)|(refine hK _ ?_;clear hK K)|(refine Xg @au.eq_1 ?_ ?_<;>try intro hb)|refine Xz ?_|(refine Xe ?_;first|refine aE rfl ?_|refine Xl ?_ ?_)|fail)
  all_goals (refine congrArg (fun b=>AV.lit (Value.bool b)) ?_;rw[mq];simp only[iP,decide_eq_true_eq,beq_iff_eq,bne_iff_ne,a7,jE,jh,decide_eq_false_iff_not,iJ,reduceCtorEq,iff_true,iff_false,true_iff,false_iff,eq_self];omega)
theorem ad0 (n:Int):ao Tryz.prog 183 [.lit (.int .i64 n)] [] (.lit (.bool false)) []:=by
  refine ao.aD (fn:=Tryz.f183) 6 0 [.tmp 2] Tryz.func183 rfl rfl rfl rfl rfl (by simp) ?_
  repeat' (first|(refine Xr @bne_self_eq_false.{0} ?_;intro K hK)|(refine hK _ ?_;clear hK K)|refine Xz ?_|(refine Xe ?_;first|refine aE rfl ?_|refine Xl ?_ ?_)|exact Xx|fail)
theorem C3 (a b:Int):ao Tryz.prog 144 [.lit (.int .i64 a),.lit (.int .i64 b)] [] (.lit (.int .i64 (jg a b))) []:=by
  refine ao.aD (fn:=Tryz.f144) 20 0 [.tmp 4] Tryz.func144 rfl rfl rfl rfl rfl (by simp) ?_
  repeat' (first|(refine Xq X0 ?_;intro K hK)|refine Xo X0 ?_|refine Xc (ad0 _) ?_|(refine hK _ ?_;clear hK K)|(refine Xi ?_ ?_<;>try intro ht)|refine Xz ?_|(refine Xe ?_;first|refine aE rfl ?_|refine Xl ?_ ?_)|exact Xx|fail)
  all_goals (unfold jg;congr 2;(repeat' split)<;>omega)
theorem JU (l:List Int) (hl:l.length<1000000):ao Tryz.prog 143 [.tree 1 (ints l)] [] (.lit (.int .i64 (nB l))) []:=by
  generalize aj:nB l=res
  refine ao.aD (fn:=Tryz.f143) 18 0 [.tmp 2] Tryz.func143 rfl rfl rfl rfl rfl (by simp) ?_
  repeat' (first|(refine Xr X0 ?_;intro K hK)|(refine hK _ ?_;clear hK K)|refine Xz ?_|fail)
  refine aG (fun k:Nat=>(⟨aw [(3,.lit (.int .i64 0)),(6,.tree 1 (ints l)),(7,.lit (.int .i64 l.length)),(8,.lit (.int .i64 k))],[]⟩:St)) (fun k=>k≤l.length∧nB (l.drop k)=res) (fun k=>l.length - k) 0 ⟨aH _,aj⟩ (Xv X0) ?_
  rintro k ⟨hk,hr⟩ Ql ak aq
  repeat' (first|(refine Xr X0 ?_;intro K hK)|(refine hK _ ?_;clear hK K)|(refine Xi ?_ ?_<;>try intro ht)|refine Xz ?_|refine Xh ?_|(refine Xe ?_;first|refine aE rfl ?_|refine Xl ?_ ?_)|refine Xd ?_ ?_|exact Xx|fail)
  · rw[b7 _ _ 0 (by omega),nB,if_pos (by assumption)] at hr
    rw[hr]
  · rw[b7 _ _ 0 (by omega),nB,if_neg (by omega)] at hr
    exact ak _ (k+1) ⟨by omega,hr⟩ (by omega) (Xv X0)
  · rw[b6 (by omega),nB] at hr
    rw[hr]
theorem S3 (m:ae) (c o:Int):ao Tryz.prog 145 [.agg (au m),.lit (.int .i64 c),.lit (.int .i64 o)] [] (.lit (.bool (ez m c o))) []:=by
  refine ao.aD (fn:=Tryz.f145) 30 0 [.tmp 6] Tryz.func145 rfl rfl rfl rfl rfl (by simp) ?_
  repeat' (first|(refine Xr (X4 @au.eq_1 @eP @jL @bA.eq_1) ?_;intro K hK)|(refine hK _ ?_;clear hK K)|(refine Xg (X4 @au.eq_1 @eP @jL @bA.eq_1) ?_ ?_<;>try intro hb)|refine Xz ?_|(refine Xe ?_;first|refine aE rfl ?_|refine Xl ?_ ?_)|refine Xd ?_ ?_|exact Xx|fail)
  all_goals (refine congrArg (fun b=>AV.lit (Value.bool b)) ?_;rw[mq];simp only[ez,decide_eq_true_eq,beq_iff_eq,bne_iff_ne,a7,jE,jh,decide_eq_false_iff_not,iJ,reduceCtorEq,iff_true,iff_false,true_iff,false_iff,eq_self];omega)
theorem C8 (m:ae) (c o:Int):ao Tryz.prog 101 [.agg (au m),.lit (.int .i64 c),.lit (.int .i64 o)] [] (.lit (.bool (ez m c o))) []:=by
  refine ao.aD (fn:=Tryz.f101) 30 0 [.tmp 6] Tryz.func101 rfl rfl rfl rfl rfl (by simp) ?_
  repeat' (first|(refine Xr (X4 @au.eq_1 @eP @jL @bA.eq_1) ?_;intro K hK)|(refine hK _ ?_;clear hK K)|(refine Xg (X4 @au.eq_1 @eP @jL @bA.eq_1) ?_ ?_<;>try intro hb)|refine Xz ?_|(refine Xe ?_;first|refine aE rfl ?_|refine Xl ?_ ?_)|refine Xd ?_ ?_|exact Xx|fail)
  all_goals (refine congrArg (fun b=>AV.lit (Value.bool b)) ?_;rw[mq];simp only[ez,decide_eq_true_eq,beq_iff_eq,bne_iff_ne,a7,jE,jh,decide_eq_false_iff_not,iJ,reduceCtorEq,iff_true,iff_false,true_iff,false_iff,eq_self];omega)
theorem ad1 (c:Ct) (n:Int) (h1:0≤c.most) (h2:n≤1048576) (h3:0≤n) (h4:aS c.bg):ao Tryz.prog 167 [.agg (bu c),.lit (.int .i64 n)] [] (.lit (.int .i64 (iZ c.most c.bg n))) []:=by
  unfold aS at h4
  have hm:c.most<n→0≤(n - c.most) * c.bg∧(n - c.most) * c.bg≤1048576 * 1099511627776:=fun h=>⟨pt (by omega) h4.1,oo (by omega) h4.2 h4.1 (by omega)⟩
  refine ao.aD (fn:=Tryz.f167) 17 0 [.tmp 4] Tryz.func167 rfl rfl rfl rfl rfl (by simp) ?_
  repeat' (first|(refine Xr @bu.eq_1 ?_;intro K hK)|(refine hK _ ?_;clear hK K)|(refine Xi ?_ ?_<;>try intro ht)|refine Xz ?_|(refine Xe ?_;first|refine aE rfl ?_|refine Xl ?_ ?_)|refine Xd ?_ ?_|exact Xx|fail)
  · rw[iZ,if_pos ht]
  · rw[iZ,if_neg (by omega)]
theorem VE (n c:Int) (h2:n≤1048576) (h4:aS c):ao Tryz.prog 153 [.lit (.int .i64 n),.lit (.int .i64 c)] [] (.lit (.int .i64 (rp n c))) []:=by
  unfold aS at h4
  have hm:0<n→0≤n * c∧n * c≤1048576 * 1099511627776:=fun h=>⟨pt (by omega) h4.1,oo (by omega) h4.2 h4.1 (by omega)⟩
  refine ao.aD (fn:=Tryz.f153) 13 0 [.tmp 4] Tryz.func153 rfl rfl rfl rfl rfl (by simp) ?_
  repeat' (first|(refine Xr X0 ?_;intro K hK)|(refine hK _ ?_;clear hK K)|(refine Xi ?_ ?_<;>try intro ht)|refine Xz ?_|(refine Xe ?_;first|refine aE rfl ?_|refine Xl ?_ ?_)|refine Xd ?_ ?_|exact Xx|fail)
  · rw[rp,if_pos ht]
  · rw[rp,if_neg (by omega),if_pos (by omega)]
  · rw[rp,if_neg (by omega),if_neg (by omega)]
theorem J0 (l:List Int) (r c:Int) (hr:0≤r∧r<l.length) (hc:aS c) (hl:aS (l.getD r.toNat 0)):ao Tryz.prog 166 [.ptr 0 0 0,.lit (.int .i64 r),.lit (.int .i64 c)] [.var [.ref 1 1 0 l.length],.arr 1 (ints l)] (.bM [])
    [.var [.ref 1 1 0 l.length],.arr 1 (ints (l.set r.toNat (cS (l.getD r.toNat 0) c)))]:=by
  refine ao.aD (fn:=Tryz.f166) 21 2 [] Tryz.func166 rfl rfl rfl rfl rfl (by simp) ?_
  (try (refine Ak [13] rfl (by decide) (by decide +kernel) ?_);intro K hK;simp (disch:=omega) only[Ac,↓Pc,simprocAttr])
  repeat' (first|refine Xo X0 ?_|refine Xc (JX _ _ hl hc) ?_|(refine hK _ ?_;clear hK K)|(refine Xe ?_;first|refine aE rfl ?_|refine Xl ?_ ?_)|refine Xd ?_ ?_|exact Xx|fail)
end T
namespace T
def kf {α:Type} (p:α→Bool):Nat→List α→Int
  | _,[]=>-1
  | k,x::r=>if p x=true then (k:Int) else kf p (k+1) r
theorem C9 {α:Type} (p:α→Bool):∀ (l:List α) (k:Nat),decide (0≤kf p k l)=l.any p
  | [],k=>rfl
  | x::r,k=>by
    rw[kf,List.any_cons]
    split
    · rename_i h;rw[h];simp
    · rename_i h;rw[C9 p r (k+1)];simp_all
theorem ad2 (l:List (List cB)) (g:FuncId) (bJ:List AV) (aa:List Ob) (p:(List cB)→Bool) (hl:l.length<9223372036854775808) (hg:∀ x∈l,ao Tryz.prog g ([.tree 6 (rowsOf dJ x)]++bJ) aa (.lit (.bool (p x))) aa) :
    ao Tryz.prog 181 [.tree 1 (rowsOf bA l),.fn g bJ] aa (.lit (.int .i64 (kf p 0 l))) aa:=by
  generalize aj:kf p 0 l=res
  refine ao.aD (fn:=Tryz.f181) 19 aa.length [.tmp 4] Tryz.func181 rfl rfl rfl rfl rfl (by simp) ?_
  refine Vb (X3 @eP @jL @bA.eq_1) ?_
  refine aG (fun k:Nat=>(⟨aw [(0,.tree 1 (rowsOf bA l)),(1,.fn g bJ),(7,.lit (.int .i64 l.length)),(8,.lit (.int .i64 k))],aa⟩:St)) (fun k=>k≤l.length∧kf p k (l.drop k)=res) (fun k=>l.length - k) 0 ⟨aH _,aj⟩ (Xv X0) ?_
  rintro k ⟨hk,hr⟩ Ql ak aq
  by_cases aF:k<l.length
  · have hx:=hg _ (az (d:=default) aF)
    have hd:=b7 l k default aF
    generalize bS:l.getD k default=x at *
    rw[hd,kf] at hr
    simp only[fB,fU,bA] at hx
    ((repeat' (first|refine Vb (X4 @eP @jL @bA.eq_1 @bS) ?_|(refine Xi ?_ ?_<;>try intro ht)|exact Xx|fail))<;>try with_reducible intro K hK)
    refine mu hx (aV _) ?_
    ((try revert hK K);(repeat' (first|refine Vb (X3 @eP @jL @bA.eq_1) ?_|(refine Xi ?_ ?_<;>try intro ht)|fail)))
    · rw[if_pos (by assumption)] at hr
      rw[← hr]
      exact fW rfl (aV _) rfl
    · rw[if_neg (by simp_all)] at hr
      exact ak _ (k+1) ⟨by omega,hr⟩ (by omega) (Xv X0)
  · ((repeat' (first|refine Vb (X3 @eP @jL @bA.eq_1) ?_|(refine Xi ?_ ?_<;>try intro ht)|exact Xx|fail)))
    rw[b6 (by omega),kf] at hr
    rw[← hr]
    exact fW rfl (aV _) rfl
theorem adP (l:List (List cB)) (g:FuncId) (bJ:List AV) (aa:List Ob) (p:(List cB)→Bool) (hl:l.length<9223372036854775808) (hg:∀ x∈l,ao Tryz.prog g ([.tree 6 (rowsOf dJ x)]++bJ) aa (.lit (.bool (p x))) aa) :
    ao Tryz.prog 137 [.tree 1 (rowsOf bA l),.fn g bJ] aa (.lit (.bool (l.any p))) aa:=by
  rw[← C9 p l 0]
  refine ao.aD (fn:=Tryz.f137) 9 aa.length [.tmp 4] Tryz.func137 rfl rfl rfl rfl rfl (by simp) ?_
  ((refine Vb (X3 @eP @jL @bA.eq_1) ?_)<;>try with_reducible intro K hK)
  refine mu (ad2 l g bJ aa p hl hg) (aV _) ?_
  ((try revert hK K);(refine Vb (X3 @eP @jL @bA.eq_1) ?_))
  exact fW rfl (aV _) rfl
theorem ad3 (l:List cB) (g:FuncId) (bJ:List AV) (aa:List Ob) (p:cB→Bool) (hl:l.length<9223372036854775808) (hg:∀ x∈l,ao Tryz.prog g ([.agg (dJ x)]++bJ) aa (.lit (.bool (p x))) aa) :
    ao Tryz.prog 138 [.tree 6 (rowsOf dJ l),.fn g bJ] aa (.lit (.int .i64 (kf p 0 l))) aa:=by
  generalize aj:kf p 0 l=res
  refine ao.aD (fn:=Tryz.f138) 19 aa.length [.tmp 4] Tryz.func138 rfl rfl rfl rfl rfl (by simp) ?_
  refine Vb (X3 @eP @jL @dJ.eq_1) ?_
  refine aG (fun k:Nat=>(⟨aw [(0,.tree 6 (rowsOf dJ l)),(1,.fn g bJ),(7,.lit (.int .i64 l.length)),(8,.lit (.int .i64 k))],aa⟩:St)) (fun k=>k≤l.length∧kf p k (l.drop k)=res) (fun k=>l.length - k) 0 ⟨aH _,aj⟩ (Xv X0) ?_
  rintro k ⟨hk,hr⟩ Ql ak aq
  by_cases aF:k<l.length
  · have hx:=hg _ (az (d:=default) aF)
    have hd:=b7 l k default aF
    generalize bS:l.getD k default=x at *
    rw[hd,kf] at hr
    simp only[fB,fU,dJ] at hx
    ((repeat' (first|refine Vb (X4 @eP @jL @dJ.eq_1 @bS) ?_|(refine Xi ?_ ?_<;>try intro ht)|exact Xx|fail))<;>try with_reducible intro K hK)
    refine mu hx (aV _) ?_
    ((try revert hK K);(repeat' (first|refine Vb (X3 @eP @jL @dJ.eq_1) ?_|(refine Xi ?_ ?_<;>try intro ht)|fail)))
    · rw[if_pos (by assumption)] at hr
      rw[← hr]
      exact fW rfl (aV _) rfl
    · rw[if_neg (by simp_all)] at hr
      exact ak _ (k+1) ⟨by omega,hr⟩ (by omega) (Xv X0)
  · ((repeat' (first|refine Vb (X3 @eP @jL @dJ.eq_1) ?_|(refine Xi ?_ ?_<;>try intro ht)|exact Xx|fail)))
    rw[b6 (by omega),kf] at hr
    rw[← hr]
    exact fW rfl (aV _) rfl
theorem adX (l:List cB) (g:FuncId) (bJ:List AV) (aa:List Ob) (p:cB→Bool) (hl:l.length<9223372036854775808) (hg:∀ x∈l,ao Tryz.prog g ([.agg (dJ x)]++bJ) aa (.lit (.bool (p x))) aa) :
    ao Tryz.prog 81 [.tree 6 (rowsOf dJ l),.fn g bJ] aa (.lit (.bool (l.any p))) aa:=by
  rw[← C9 p l 0]
  refine ao.aD (fn:=Tryz.f81) 9 aa.length [.tmp 4] Tryz.func81 rfl rfl rfl rfl rfl (by simp) ?_
  ((refine Vb (X3 @eP @jL @dJ.eq_1) ?_)<;>try with_reducible intro K hK)
  refine mu (ad3 l g bJ aa p hl hg) (aV _) ?_
  ((try revert hK K);(refine Vb (X3 @eP @jL @dJ.eq_1) ?_))
  exact fW rfl (aV _) rfl
theorem ad4 (l:List Ct) (g:FuncId) (bJ:List AV) (aa:List Ob) (p:Ct→Bool) (hl:l.length<9223372036854775808) (hg:∀ x∈l,ao Tryz.prog g ([.agg (bu x)]++bJ) aa (.lit (.bool (p x))) aa) :
    ao Tryz.prog 93 [.tree 4 (rowsOf bu l),.fn g bJ] aa (.lit (.int .i64 (kf p 0 l))) aa:=by
  generalize aj:kf p 0 l=res
  refine ao.aD (fn:=Tryz.f93) 19 aa.length [.tmp 4] Tryz.func93 rfl rfl rfl rfl rfl (by simp) ?_
  refine Vb (X3 @eP @jL @bu.eq_1) ?_
  refine aG (fun k:Nat=>(⟨aw [(0,.tree 4 (rowsOf bu l)),(1,.fn g bJ),(7,.lit (.int .i64 l.length)),(8,.lit (.int .i64 k))],aa⟩:St)) (fun k=>k≤l.length∧kf p k (l.drop k)=res) (fun k=>l.length - k) 0 ⟨aH _,aj⟩ (Xv X0) ?_
  rintro k ⟨hk,hr⟩ Ql ak aq
  by_cases aF:k<l.length
  · have hx:=hg _ (az (d:=default) aF)
    have hd:=b7 l k default aF
    generalize bS:l.getD k default=x at *
    rw[hd,kf] at hr
    simp only[fB,fU,bu] at hx
    ((repeat' (first|refine Vb (X4 @eP @jL @bu.eq_1 @bS) ?_|(refine Xi ?_ ?_<;>try intro ht)|exact Xx|fail))<;>try with_reducible intro K hK)
    refine mu hx (aV _) ?_
    ((try revert hK K);(repeat' (first|refine Vb (X3 @eP @jL @bu.eq_1) ?_|(refine Xi ?_ ?_<;>try intro ht)|fail)))
    · rw[if_pos (by assumption)] at hr
      rw[← hr]
      exact fW rfl (aV _) rfl
    · rw[if_neg (by simp_all)] at hr
      exact ak _ (k+1) ⟨by omega,hr⟩ (by omega) (Xv X0)
  · ((repeat' (first|refine Vb (X3 @eP @jL @bu.eq_1) ?_|(refine Xi ?_ ?_<;>try intro ht)|exact Xx|fail)))
    rw[b6 (by omega),kf] at hr
    rw[← hr]
    exact fW rfl (aV _) rfl
theorem adY (l:List Ct) (g:FuncId) (bJ:List AV) (aa:List Ob) (p:Ct→Bool) (hl:l.length<9223372036854775808) (hg:∀ x∈l,ao Tryz.prog g ([.agg (bu x)]++bJ) aa (.lit (.bool (p x))) aa) :
    ao Tryz.prog 86 [.tree 4 (rowsOf bu l),.fn g bJ] aa (.lit (.bool (l.any p))) aa:=by
  rw[← C9 p l 0]
  refine ao.aD (fn:=Tryz.f86) 9 aa.length [.tmp 4] Tryz.func86 rfl rfl rfl rfl rfl (by simp) ?_
  ((refine Vb (X3 @eP @jL @bu.eq_1) ?_)<;>try with_reducible intro K hK)
  refine mu (ad4 l g bJ aa p hl hg) (aV _) ?_
  ((try revert hK K);(refine Vb (X3 @eP @jL @bu.eq_1) ?_))
  exact fW rfl (aV _) rfl
theorem ad5 (l:List Int) (g:FuncId) (bJ:List AV) (aa:List Ob) (p:Int→Bool) (hl:l.length<9223372036854775808) (hg:∀ x∈l,ao Tryz.prog g ([.lit (.int .i64 x)]++bJ) aa (.lit (.bool (p x))) aa) :
    ao Tryz.prog 182 [.tree 1 (ints l),.fn g bJ] aa (.lit (.int .i64 (kf p 0 l))) aa:=by
  generalize aj:kf p 0 l=res
  refine ao.aD (fn:=Tryz.f182) 19 aa.length [.tmp 4] Tryz.func182 rfl rfl rfl rfl rfl (by simp) ?_
  refine Vb @gU ?_
  refine aG (fun k:Nat=>(⟨aw [(0,.tree 1 (ints l)),(1,.fn g bJ),(7,.lit (.int .i64 l.length)),(8,.lit (.int .i64 k))],aa⟩:St)) (fun k=>k≤l.length∧kf p k (l.drop k)=res) (fun k=>l.length - k) 0 ⟨aH _,aj⟩ (Xv X0) ?_
  rintro k ⟨hk,hr⟩ Ql ak aq
  by_cases aF:k<l.length
  · have hx:=hg _ (az (d:=0) aF)
    have hd:=b7 l k 0 aF
    generalize bS:l.getD k 0=x at *
    rw[hd,kf] at hr
    simp only[fB,fU] at hx
    ((repeat' (first|refine Vb (X2 @gU @bS) ?_|(refine Xi ?_ ?_<;>try intro ht)|exact Xx|fail))<;>try with_reducible intro K hK)
    refine mu hx (aV _) ?_
    ((try revert hK K);(repeat' (first|refine Vb @gU ?_|(refine Xi ?_ ?_<;>try intro ht)|fail)))
    · rw[if_pos (by assumption)] at hr
      rw[← hr]
      exact fW rfl (aV _) rfl
    · rw[if_neg (by simp_all)] at hr
      exact ak _ (k+1) ⟨by omega,hr⟩ (by omega) (Xv X0)
  · ((repeat' (first|refine Vb @gU ?_|(refine Xi ?_ ?_<;>try intro ht)|exact Xx|fail)))
    rw[b6 (by omega),kf] at hr
    rw[← hr]
    exact fW rfl (aV _) rfl
theorem QV (l:List Int) (g:FuncId) (bJ:List AV) (aa:List Ob) (p:Int→Bool) (hl:l.length<9223372036854775808) (hg:∀ x∈l,ao Tryz.prog g ([.lit (.int .i64 x)]++bJ) aa (.lit (.bool (p x))) aa) :
    ao Tryz.prog 141 [.tree 1 (ints l),.fn g bJ] aa (.lit (.bool (l.any p))) aa:=by
  rw[← C9 p l 0]
  refine ao.aD (fn:=Tryz.f141) 9 aa.length [.tmp 4] Tryz.func141 rfl rfl rfl rfl rfl (by simp) ?_
  ((refine Vb @gU ?_)<;>try with_reducible intro K hK)
  refine mu (ad5 l g bJ aa p hl hg) (aV _) ?_
  ((try revert hK K);(refine Vb @gU ?_))
  exact fW rfl (aV _) rfl
end T

